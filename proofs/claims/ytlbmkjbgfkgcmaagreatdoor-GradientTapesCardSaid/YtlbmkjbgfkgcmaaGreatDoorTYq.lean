/- Natural numbers: division. -/
import Derived.Test.YtlbmkjbgfkgcmaaGreatDoorTYp
set_option linter.all false
open Int renaming toNat_natCast->qA,toNat_zero->w5
open List renaming mem_of_getElem?->q0,getElem?_set_ne->qB,length_replicate->qF,length_set->qI,length_append->qL,length_eq_zero_iff->qR,take_length->w2,any_cons->w7,any_nil->w8
open Nat renaming two_pow_pos->qC,mul_comm->qD,add_zero->qE,pow_le_pow_right->qH,mul_lt_mul_of_pos_right->qJ,not_lt->qK,lt_of_le_of_lt->qM,pos_of_ne_zero->qN,mul_assoc->qO,div_eq_of_lt->qP,mod_eq_of_lt->qQ,mul_zero->qS,le_trans->qT,pow_succ->qU,pow_mul->qV,le_refl->qW,mul_le_mul_right->qX,pow_add->qY,lt_of_lt_of_le->qZ,mod_lt->w1,mod_add_div->w3,div_le_self->w4,mul_le_mul->w6
open Option renaming getD_some->qG
open Go.IntKind renaming i64->w9,u32->we
namespace Go.Proofs.YtlbmkjbgfkgcmaaGreatDoor
open Go Go.Sx
set_option maxRecDepth 100000
set_option maxHeartbeats 8000000
theorem y217c(a b:Nat)(hab:b<=a)(ha:(toL a).length <=50000)(hb2:2<=(toL b).length):
 ∃Q R:List Int,(LB Q/\LB R)/\(Q.length<=200000/\R.length<=200000)/\val Q=a/b/\val R=a % b/\Fn 275 [] [.sl .u32 (toL a),.sl .u32 (toL b)] (.tup [.sl .u32 Q,.sl .u32 R]) []:=by
 have hlb:(toL b).length <=(toL a).length :=qK.1 fun h=>by have:=zo5 h;omega
 have hxa:=zhv (toL a) O;have hxb:=zhv (toL b) O;rw[qe]at hxa hxb;have h177:=qc9 (toL a) (toL b) O O;rw[zcs]at h177;have ho:¬kd a b<0:=by unfold kd;split;omega;split<;>decide
 obtain⟨z,hz⟩:∃z,(toL b).getLast? =some z:=by
  cases h:(toL b).getLast? with
  |none=>rw[List.getLast?_eq_none_iff]at h;rw[h]at hb2;simp at hb2
  |some z=>exact⟨z,rfl⟩
 have hzb:=zk b z (List.mem_of_getLast? hz);have hlast:=zd8 b;rw[hz]at hlast;simp only at hlast;rw[zb0 O]at hlast;have hz32:bl z.toNat<=32:=vr.2 (by show z.toNat<4294967296;omega);have hz1:1<=bl z.toNat:=by
  have h:=(zu b ((toL b).length -1));have:¬bl b<=32*((toL b).length -1):=fun hc=>by have:=h.2 hc;omega
  omega
 obtain⟨s,hs⟩:∃s:Nat,(32:Int)-(bl z.toNat:Int)=(s:Int):=⟨32-bl z.toNat,O⟩;have h257:=y257 z.toNat O;rw[hs,show((z.toNat:Nat):Int)=z by omega]at h257;have hb0:b≠0:=fun e=>by subst e;simp[wp]at hb2
 have hbs:bl (b*2^s)=32*(toL b).length :=by rw[zq b s hb0];omega
 have hvl:(toL (b*2^s)).length =(toL b).length :=by
  have h1:=(zu (b*2^s) (toL b).length).2 O;have h2:¬(toL (b*2^s)).length <=(toL b).length -1:=fun h=>by have:=(zu _ _).1 h;omega
  omega
 have hu:=qc8 (toL a) s (zk a) O O;have hw:=qc8 (toL b) s (zk b) O O;obtain⟨uv,uL⟩:=zbj s a;obtain⟨vv,vL⟩:=zbj s b;have ulen:(zgh (toL a) s).length =(toL a).length +1:=by unfold zgh;rw[qe,qL,qF,zbk];omega
 have wlen:(zgh (toL b) s).length =(toL b).length +1:=by unfold zgh;rw[qe,qL,qF,zbk];omega
 have hxw:=zhv (zgh (toL b) s) O;rw[yk vL,vv]at hxw;generalize zgh (toL a) s=u0 at hu uv uL ulen;generalize zgh (toL b) s=w0 at hw vv vL wlen hxw;have hvv:=zg (b*2^s);have hvL:=zk (b*2^s);generalize toL (b*2^s)=v at hvl hxw hvv hvL;have hn2:2<=v.length:=O;have hV:4294967296^(v.length-1)<=val v:=by
  rw[hvv];refine qK.1 fun hc=>?_
  have h1:b*2^s<2^(32*(v.length-1)):=by rw[qV];exact hc
  have:=vr.2 h1;omega
 have hV0:0<val v:=qZ (Nat.pow_pos OA) hV;have hU0:val u0<val v*4294967296^(u0.length-v.length):=by
  rw[uv,hvv,qO,qD (2^s),<-qO];refine qJ ?_ (qC s);have h1:=(qd a (toL a).length).1 (qW _);have h2:2^(32*((toL b).length -1))<=b:=qK.1 fun hc=>by
   have:=(qd b ((toL b).length -1)).2 hc;omega
  rw[qV]at h1 h2;have h1:a<4294967296^(toL a).length :=h1;have h2:4294967296^((toL b).length -1)<=b:=h2;refine qZ h1 ?_;rw[<-zsq 4294967296 ((toL b).length -1) (u0.length-v.length) (toL a).length O];exact qX _ h2
 have hm:v.length<=u0.length:=O;have hy222:=y222 (zdk v.length (a % b*2^s)) s (xr _ _) (by rw[yz];omega) O;refine⟨zdk (u0.length-v.length) (a/b),zgg (zdk v.length (a % b*2^s)) s,?_,?_,?_,?_,?_⟩
 rotate_left 4
 refine fnT qe5 hmx Tryz.func275 rfl rfl (ex:= []) ?_;conv=>whnf
 refine gYn hxa ?_;refine gYn hxb ?_;refine gYn h177 ?_;refine brI (fun h1=>?_) (fun h1=>?_)
 .exact absurd (Z0 h1) ho
 conv=>whnf
 refine brI (fun h2=>?_) (fun h2=>?_)
 .have h2:((toL b).length :Int)=1:=by have h2:(((toL b).length :Int)==1)=true:=h2;simpa using h2
  omega
 conv=>whnf
 rw[wI (x:=((toL b).length :Int)-1) O];refine⟨⟨O,O⟩,fun(y:Int)hy=>?_⟩;have hy:(toL b).getLast? =some y:=by
  have hy:(toL b)[(((toL b).length :Int)-1).toNat]? =some y:=hy;rw[List.getLast?_eq_getElem?,<-hy];congr 1;omega
 obtain rfl:y=z:=by rw[hz]at hy;exact(Option.some.inj hy).symm
 conv=>whnf
 refine gYn h257 ?_;refine⟨[],[.buf 101 .u32 u0],.own 2000000,hu,?_⟩;conv=>whnf
 refine⟨[],[.buf 101 .u32 w0],.own 2000000,hw,?_⟩;conv=>whnf
 refine gYn hxw ?_;refine⟨Unit,fun _=>True,fun _=> [(9,.own 51)],fun _=> [(51,.buf 101 .u32 u0)],fun _=>0,(),trivial,?_,fun x hx=>?_⟩
 .exact KZ0
 refine gYe ?_;refine brI (fun h3=>?_) (fun h3=>?_)
 .have h3:(u0.length:Int)<=(toL a).length :=Z0 h3;omega
 conv=>whnf
 rw[wI (x:=(u0.length:Int)-(v.length:Int)) O];refine⟨⟨O,O,O⟩,?_⟩;conv=>whnf
 have hc1:((u0.length:Int)-(v.length:Int)).toNat =u0.length-v.length:=O;obtain⟨m,hm2⟩:∃m,u0.length-v.length=m:=⟨_,rfl⟩;rw[hm2]at hU0 hc1⊢;rw[wI (x:=(u0.length:Int)-(v.length:Int)) O,wI (x:=(u0.length:Int)-(v.length:Int)-1) O];refine⟨Int×List Int×List Int,fun x=>(-1<=x.1/\x.1<m)/\(LB x.2.1/\x.2.1.length=u0.length)/\(LB x.2.2/\x.2.2.length=m)/\(∀i:Nat,(i:Int)<=x.1->x.2.2[i]?.getD 0=0)/\val x.2.2*val v+val x.2.1=a*2^s/\val x.2.1<val v*4294967296^(x.1+1).toNat,fun x=> [(13,.int .i64 x.1)],fun x=> [(51,.buf 101 .u32 x.2.1),(70,.buf 101 .u32 x.2.2)],fun x=>(x.1+1).toNat,((u0.length:Int)-(v.length:Int)-1,u0,List.replicate m 0),?_,?_,fun x hx=>?_⟩
 .refine⟨⟨OD,OD⟩,⟨uL,rfl⟩,⟨fun x hx=>by rw[List.eq_of_mem_replicate hx];omega,OC⟩,fun j _=>by simp only[List.getElem?_replicate];split<;>rfl,?_,?_⟩
  .simp only;rw[zad,Nat.zero_mul,Nat.zero_add];exact uv
  .simp only;rw[show((u0.length:Int)-(v.length:Int)-1+1).toNat =m by omega];exact hU0
 ·((conv=>whnf);refine And.intro ?_ ?_;repeat' first|refine lc ?_ ?_|refine lh1 ?_ ?_|refine bc0 ?_|exact KXZ|refine lg0 ?_|refine lt0 ?_)
  .exact bb0 (by rw[hc1])
 refine gYe ?_;obtain⟨j,u,q⟩:=x;obtain⟨⟨i1,i2⟩,⟨i3,i4⟩,⟨i5,i6⟩,i7,i8,i9⟩:=hx;simp only at i1 i2 i3 i4 i5 i6 i7 i8 i9;refine brI (fun h4=>?_) (fun h4=>?_)
 .have h4:0<=j:=Z0 h4;obtain⟨j,rfl⟩:=Int.eq_ofNat_of_zero_le h4;rw[show((j:Int)+1).toNat =j+1 by omega]at i9;obtain⟨hz,hv1,htop,hgs⟩:=qbr i3 hvL hn2 O hV i9;have w0':w9.wrap ((j:Int)+(v.length:Int))=((j+v.length:Nat):Int):=by rw[wI O];omega
  have w1':w9.wrap (((j+v.length:Nat):Int)-1)=((j+v.length-1:Nat):Int):=by rw[wI O];omega
  have w2':w9.wrap (((j+v.length:Nat):Int)-2)=((j+v.length-2:Nat):Int):=by rw[wI O];omega
  have w3':w9.wrap ((v.length:Int)-1)=((v.length-1:Nat):Int):=by rw[wI O];omega
  have w4':w9.wrap ((v.length:Int)-2)=((v.length-2:Nat):Int):=by rw[wI O];omega
  have ub:=i3.at;have vb:=hvL.at;conv=>whnf
  simp only[w0'];refine⟨⟨O,O⟩,?_⟩;conv=>whnf
  refine⟨by simp only[qA];omega,fun(x2:Int)hx2=>?_⟩;have hx2:u[j+v.length]? =some x2:=hx2;conv=>whnf
  simp only[w0',w1'];refine⟨⟨O,O⟩,?_⟩;conv=>whnf
  refine⟨by simp only[qA];omega,fun(x1:Int)hx1=>?_⟩;have hx1:u[j+v.length-1]? =some x1:=hx1;conv=>whnf
  simp only[w0',w2'];refine⟨⟨O,O⟩,?_⟩;conv=>whnf
  refine⟨by simp only[qA];omega,fun(x0:Int)hx0=>?_⟩;have hx0:u[j+v.length-2]? =some x0:=hx0;conv=>whnf
  simp only[w3'];refine⟨⟨O,O⟩,fun(y1:Int)hy1=>?_⟩;have hy1:v[v.length-1]? =some y1:=hy1;conv=>whnf
  simp only[w4'];refine⟨⟨O,O⟩,fun(y0:Int)hy0=>?_⟩;have hy0:v[v.length-2]? =some y0:=hy0;rw[hx2,hx1,hx0,hy1,hy0]at hgs;rw[hx2,hy1]at htop;rw[hy1]at hv1;simp only[qG]at hgs htop hv1;have bx2:=i3 x2 (q0 hx2);have bx1:=i3 x1 (q0 hx1);have bx0:=i3 x0 (q0 hx0);have by1:=hvL y1 (q0 hy1);have by0:=hvL y0 (q0 hy0);have h259:=y259 x2.toNat x1.toNat x0.toNat y1.toNat y0.toNat hv1 O htop O O O;rw[show((x2.toNat:Nat):Int)=x2 by omega,show((x1.toNat:Nat):Int)=x1 by omega,show((x0.toNat:Nat):Int)=x0 by omega,show((y1.toNat:Nat):Int)=y1 by omega,show((y0.toNat:Nat):Int)=y0 by omega]at h259;obtain⟨g1,g2,g3⟩:=hgs _ rfl;generalize gsN x2.toNat x1.toNat x0.toNat y1.toNat y0.toNat=x at h259 g1 g2 g3;conv=>whnf
  refine gYn h259 ?_;refine gYd ?_;have w5':w9.wrap (((j+v.length:Nat):Int)+1)=((j+v.length+1:Nat):Int):=by rw[wI O];omega
  have w6':((j+v.length+1:Nat):Int).toNat -((j:Int)).toNat =v.length+1:=O;simp only[w0',w5',w6'];refine⟨⟨O,O,O⟩,?_⟩;conv=>whnf
  have h260:=y260 u v j x i3 hvL O O g1 hz;refine cbI [.buf 101 .u32 (tkN u j x v)] _ (h260.sw [(51,1000001)] rfl) (fun h5=>?_) (fun h5=>?_)
  rotate_left
  .have h5:=Z3 h5;obtain⟨n1,n2⟩:=dv_no i8 h5 g2;have hval:=tk_no i3 h5;have hlen:=zrg u v j x;have hLB:=zzg u v j x;rw[<-hval]at n1 n2;generalize tkN u j x v=u1 at hval hlen hLB n1 n2;conv=>whnf
   refine⟨⟨O,O⟩,?_⟩;conv=>whnf
   refine⟨by show j<q.length;omega,?_⟩;conv=>whnf
   have hs:=kb q j (x:Int) O;rw[i7 j O,w5,qS,qE,qA]at hs;refine⟨((j:Int)-1,u1,q.set j (x:Int)),⟨⟨OD,OD⟩,⟨hLB,OD⟩,⟨i5.set O,by simp only[qI];exact i6⟩,fun k hk=>by simp only at hk⊢;rw[qB O];exact i7 k O,?_,?_⟩,by show((j:Int)-1+1).toNat <((j:Int)+1).toNat;omega,?_⟩
   .show val (q.set j (x:Int))*val v+val u1=a*2^s;rw[hs];exact n1
   .show val u1<val v*4294967296^((j:Int)-1+1).toNat;rw[show((j:Int)-1+1).toNat =j by omega];exact n2
   ((conv=>whnf);refine And.intro ?_ ?_;repeat' first|refine lc ?_ ?_|refine lh1 ?_ ?_|refine bc0 ?_|exact KXZ|refine lg0 ?_|refine lt0 ?_)
   .exact ai0 (by rw[wI O])
   .exact bb0 (congrArg (fun z=>q.set j z) (zzo g1))
  .have h5:=Z0 h5;obtain⟨n0,n1,n2⟩:=qfi i8 h5 g3;have hQ:4294967296^j*val v<=4294967296^(j+v.length+1):=by
    have h1:=kc hvL v.length (qW _);rw[w2]at h1;rw[<-zsq 4294967296 j (v.length+1) (j+v.length+1) O];refine Nat.mul_le_mul_left _ ?_;exact qT (Nat.le_of_lt h1) (qH OA O)
   have hDD:4294967296^j*(x*val v)<=val u+4294967296^j*val v:=by
    have e:4294967296^j*(x*val v)=x*(val v*4294967296^j):=by rw[qD,qO]
    rw[e,qD (4294967296^j)];exact g3
   obtain⟨tv,tz⟩:=qdl (u:=u) (v:=v) (j:=j) (x:=x) O h5 (qT hDD (Nat.add_le_add_left hQ _));have hlen:=zrg u v j x;have hLB:=zzg u v j x;generalize tkN u j x v=u1 at tv tz hlen hLB;conv=>whnf
   refine⟨Nat×List Int×Nat,fun x=>(x.1<=v.length/\x.2.2<=1)/\(LB x.2.1/\x.2.1.length=u0.length)/\(∀k,k<j\/j+x.1<=k->x.2.1[k]? =u1[k]?)/\val x.2.1+4294967296^(j+x.1)*x.2.2=val u1+4294967296^j*val (v.take x.1),fun x=> [(84,.any),(91,.any),(98,.any),(125,.int .i64 x.1),(15,.int .u32 x.2.2)],fun x=> [(51,.buf 101 .u32 x.2.1)],fun x=>v.length-x.1,(0,u1,0),?_,?_,fun t ht=>?_⟩
   .exact⟨⟨OC,OC⟩,⟨hLB,OD⟩,fun _ _=>rfl,by simp[val]⟩
   .exact KZ0
   refine gYe ?_;obtain⟨i,w,c⟩:=t;obtain⟨⟨a1,a2⟩,⟨a3,a4⟩,a5,a6⟩:=ht;simp only at a1 a2 a3 a4 a5 a6;refine brI (fun h6=>?_) (fun h6=>?_)
   .have hi:i<v.length:=by simp only[Z4]at h6;omega
    have wi:w9.wrap ((j:Int)+(i:Int))=((j+i:Nat):Int):=by rw[wI O];omega
    conv=>whnf
    refine⟨⟨O,OD⟩,fun(yv:Int)hyv=>?_⟩;have hyv:v[i]? =some yv:=by simpa using hyv
    have hyb:=hvL yv (q0 hyv);have tvv:=jd v hi;rw[hyv,qG]at tvv;conv=>whnf
    simp only[wi];refine⟨⟨O,O⟩,?_⟩;conv=>whnf
    refine⟨by show j+i<w.length;omega,fun(d:Int)hd=>?_⟩;have hd:w[j+i]? =some d:=hd;have hdb:=a3 d (q0 hd);have h261:=y261 d.toNat yv.toNat c O O O;rw[show((d.toNat:Nat):Int)=d by omega,show((yv.toNat:Nat):Int)=yv by omega]at h261;have hmd:=w3 (d.toNat+yv.toNat+c) 4294967296;have hml:=w1 (d.toNat+yv.toNat+c) (OA:0<4294967296);have hql:(d.toNat+yv.toNat+c)/4294967296<=1:=O;have hs:=kb w (j+i) (((d.toNat+yv.toNat+c) % 4294967296:Nat):Int) O;rw[hd,qG,qA]at hs;have key:=zzb (y:=yv.toNat) (Bi:=4294967296^i) hs a6 hmd.symm (qY _ _ _);rw[<-tvv,<-qU]at key;generalize (d.toNat+yv.toNat+c)/4294967296=c1 at*;generalize (d.toNat+yv.toNat+c) % 4294967296=r at*;conv=>whnf
    refine gYn h261 ?_;simp only[wi];refine⟨⟨O,O⟩,?_⟩;conv=>whnf
    refine⟨by show j+i<w.length;omega,?_⟩;conv=>whnf
    refine⟨(i+1,w.set (j+i) (r:Int),c1),⟨⟨OD,OD⟩,⟨a3.set O,by simp only[qI];exact a4⟩,fun k hk=>by simp only at hk⊢;rw[qB O];exact a5 k O,key⟩,by show v.length-(i+1)<v.length-i;omega,?_⟩
    ((conv=>whnf);refine And.intro ?_ ?_;repeat' first|refine lc ?_ ?_|refine lh1 ?_ ?_|refine bc0 ?_|exact KXZ|refine lg0 ?_|refine lt0 ?_)
    .exact ai0 (by rw[wI O];simp only;omega)
   .have hi:i=v.length:=by simp only[Z5]at h6;omega
    subst hi;rw[w2]at a6;conv=>whnf
    simp only[w0'];refine⟨⟨O,O⟩,?_⟩;conv=>whnf
    refine⟨by show j+v.length<w.length;omega,fun(d:Int)hd=>?_⟩;have hd:w[j+v.length]? =some d:=hd;have hdb:=a3 d (q0 hd);have hmd:=w3 (d.toNat+c) 4294967296;have hml:=w1 (d.toNat+c) (OA:0<4294967296);have hs:=kb w (j+v.length) (((d.toNat+c) % 4294967296:Nat):Int) O;rw[hd,qG,qA]at hs;have ew:we.wrap (d+(c:Int))=(((d.toNat+c) % 4294967296:Nat):Int):=by simp[IntKind.wrap,IntKind.signed,IntKind.bits];omega
    have key:=zzb (y:=0) (Bi:=4294967296^v.length) hs a6 (by rw[qE];exact hmd.symm) (qY _ _ _);rw[qS,qE,<-qU]at key;have hLB2:LB (w.set (j+v.length) (((d.toNat+c) % 4294967296:Nat):Int)):=a3.set O;have hz2:Zr (j+v.length+1) (w.set (j+v.length) (((d.toNat+c) % 4294967296:Nat):Int)):=fun k hk=>by
     rw[qB O,a5 k O];exact tz k hk
    have hlt2:=zuy hLB2 hz2;have hl2:(w.set (j+v.length) (((d.toNat+c) % 4294967296:Nat):Int)).length =u0.length:=by rw[qI];exact a4
    have hq1:(d.toNat+c)/4294967296<=1:=O;generalize (d.toNat+c)/4294967296=o at*;generalize (d.toNat+c) % 4294967296=r at*;have hval2:val (w.set (j+v.length) (r:Int))=val u+4294967296^j*val v-4294967296^j*(x*val v):=by
     have e:(j+v.length).succ =j+v.length+1:=rfl;rw[e]at key;generalize val (w.set (j+v.length) (r:Int))=W at*;generalize 4294967296^(j+v.length+1)=Q at*;generalize 4294967296^j*val v=D1 at*;generalize 4294967296^j*(x*val v)=D2 at*;rcases(by omega:o=0\/o=1)with e|e
     .subst e;omega
     .subst e;omega
    rw[<-hval2]at n1 n2;have e7:we.wrap (IntKind.u64.wrap ((x:Int)-1))=((x-1:Nat):Int):=by
     rw[wU (x:=(x:Int)-1) O,zp7 O];omega
    conv=>whnf
    simp only[w0'];refine⟨⟨O,O⟩,?_⟩;conv=>whnf
    refine⟨by show j+v.length<w.length;omega,?_⟩;conv=>whnf
    refine⟨⟨O,O⟩,?_⟩;conv=>whnf
    refine⟨by show j<q.length;omega,?_⟩;conv=>whnf
    have hs3:=kb q j ((x-1:Nat):Int) O;rw[i7 j O,w5,qS,qE,qA]at hs3;refine⟨((j:Int)-1,w.set (j+v.length) (r:Int),q.set j ((x-1:Nat):Int)),⟨⟨OD,OD⟩,⟨hLB2,hl2⟩,⟨i5.set O,by simp only[qI];exact i6⟩,fun k hk=>by simp only at hk⊢;rw[qB O];exact i7 k O,?_,?_⟩,by show((j:Int)-1+1).toNat <((j:Int)+1).toNat;omega,?_⟩
    .show val (q.set j ((x-1:Nat):Int))*val v+val (w.set (j+v.length) (r:Int))=a*2^s;rw[hs3];exact n1
    .show val (w.set (j+v.length) (r:Int))<val v*4294967296^((j:Int)-1+1).toNat;rw[show((j:Int)-1+1).toNat =j by omega];exact n2
    ((conv=>whnf);refine And.intro ?_ ?_;repeat' first|refine lc ?_ ?_|refine lh1 ?_ ?_|refine bc0 ?_|exact KXZ|refine lg0 ?_|refine lt0 ?_)
    .exact ai0 (by rw[wI O])
    .exact bb0 (congrArg (fun z=>w.set (j+v.length) z) ew)
    .exact bb0 (congrArg (fun z=>q.set j z) e7)
 .have h4:¬0<=j:=Z3 h4;rw[show(j+1).toNat =0 by omega,Nat.pow_zero,Nat.mul_one]at i9;have f1:val q=a/b:=by
   have h:=congrArg (· /val v) i8;rw[qD,Nat.mul_add_div hV0,qP i9,qE,hvv,Nat.mul_div_mul_right _ _ (qC s)]at h;exact h
  have f2:val u=a % b*2^s:=by
   have h:=congrArg (· % val v) i8;rw[qD,Nat.mul_add_mod,qQ i9,hvv,Nat.mul_mod_mul_right]at h;exact h
  have f3:q=zdk m (a/b):=by
   have h:=za3 i5;rw[i6,f1]at h;exact h.symm
  have f4:((u.take ((v.length:Nat):Int).toNat).drop (0:Int).toNat)=zdk v.length (a % b*2^s):=by
   show(u.take v.length).drop 0=_;rw[List.drop_zero];have hT:LB (u.take v.length):=fun z hz=>i3 z (List.mem_of_mem_take hz)
   have h1:=zdo u v.length O;have h2:=zon hvL;have h3:val u=val (u.take v.length):=by
    generalize val (u.drop v.length)=dd at h1
    cases dd with
    |zero=>rw[qS,qE]at h1;exact h1
    |succ dd=>rw[Nat.mul_succ]at h1;omega
   have h:=za3 hT;rw[<-h3,f2,List.length_take,Nat.min_eq_left O]at h;exact h.symm
  have f5:Fn 273 [] [.sl .u32 ((u.take ((v.length:Nat):Int).toNat).drop (0:Int).toNat),.int .i64 s] (.sl .u32 (zgg (zdk v.length (a % b*2^s)) s)) []:=by rw[f4];exact hy222
  conv=>whnf
  refine⟨⟨O,O,OD⟩,?_⟩;conv=>whnf
  refine gYn f5 ?_;refine⟨lt0 (lc (vp f3) (lc (lr rfl) ln0)),lh0⟩
 .exact⟨xr _ _,LB.shr _ _⟩
 .refine⟨by rw[yz];omega,?_⟩;have:=zjl (zdk v.length (a % b*2^s)) s;rw[yz]at this;omega
 .refine yu _ _ ?_;have h2:=zon hvL;have h3:a/b*(b*2^s)<=a*2^s:=by rw[<-qO];exact qX _ (Nat.div_mul_le_self a b)
  rw[uv,hvv]at hU0;have h4:=qM h3 hU0;rw[qD (b*2^s)]at h4;exact Nat.lt_of_mul_lt_mul_right h4
 .have h1:a % b*2^s<4294967296^v.length:=by
   have h2:=zon hvL;rw[hvv]at h2;exact Nat.lt_trans (qJ (w1 a (qN hb0)) (qC s)) h2
  have e:zgg (zdk v.length (a % b*2^s)) s=zgg (toL (a % b*2^s)) s:=by
   unfold zgg;rw[yk (xr _ _),yu _ _ h1,qe]
  rw[e,(zdr s _).1,Nat.mul_div_cancel _ (qC s)]
theorem zvz{l:List Int}(h:LB l)(n:Nat):zgg l n=zgg (toL (val l)) n:=by
 unfold zgg;rw[yk h,qe]
theorem y217(a b:Nat)(hb:b≠0)(ha:(toL a).length <=50000)(hbl:(toL b).length <=50000):
 ∃Q R:List Int,(LB Q/\LB R)/\(Q.length<=200000/\R.length<=200000)/\val Q=a/b/\val R=a % b/\Fn 275 [] [.sl .u32 (toL a),.sl .u32 (toL b)] (.tup [.sl .u32 Q,.sl .u32 R]) []:=by
 have hxa:=zhv (toL a) O;have hxb:=zhv (toL b) O;rw[qe]at hxa hxb;have h177:=qc9 (toL a) (toL b) O O;rw[zcs]at h177;by_cases hab:a<b
 .have ho:kd a b<0:=by unfold kd;rw[Z6 hab];decide
  have h174:=y174 (toL a) O;refine⟨[],toL a,⟨(fun _ h=>nomatch h),zk a⟩,⟨OC,O⟩,by rw[qP hab];rfl,by rw[qQ hab,zg],?_⟩;refine fnT qe5 hmx Tryz.func275 rfl rfl (ex:= []) ?_;conv=>whnf
  refine gYn hxa ?_;refine gYn hxb ?_;refine gYn h177 ?_;refine brI (fun h1=>?_) (fun h1=>?_)
  rotate_left
  .exact absurd ho (Z3 h1)
  conv=>whnf
  refine gYn h174 ?_;exact⟨lt0 (lc (li0 rfl) (lc (lr rfl) ln0)),lh0⟩
 .by_cases hl:(toL b).length =1
  .have ho:¬kd a b<0:=by unfold kd;rw[Z7 hab];split<;>decide
   have hb32:b<4294967296:=by
    have:=(qd b 1).1 O;exact this
   have hb1:toL b= [(b:Int)]:=by
    rw[uj hb,qP hb32,qQ hb32,wp]
   have h256:=y256 (toL a) b (zk a) O O hb32;rw[zg]at h256;have hmd:=w1 a (qN hb);rw[hb1]at hxb h177⊢;refine⟨zdk (toL a).length (a/b),[((a % b:Nat):Int)],⟨xr _ _,fun z hz=>by rw[List.mem_singleton.1 hz];omega⟩,⟨by rw[yz];omega,OC⟩,?_,by rw[qg,qA];simp[val],?_⟩
   .refine yu _ _ ?_;have h1:=(qd a (toL a).length).1 (qW _);rw[qV]at h1;exact qM (w4 a b) h1
   refine fnT qe5 hmx Tryz.func275 rfl rfl (ex:= []) ?_;conv=>whnf
   refine gYn hxa ?_;refine gYn hxb ?_;refine gYn h177 ?_;refine brI (fun h1=>?_) (fun h1=>?_)
   .exact absurd (Z0 h1) ho
   conv=>whnf
   refine⟨⟨O,OC⟩,fun(y:Int)hy=>?_⟩;obtain rfl:((b:Nat):Int)=y:=by simpa using hy
   conv=>whnf
   refine gYn h256 ?_;exact⟨lr rfl,lh0⟩
  .have h1:(toL b).length ≠0:=fun e=>hb (by have:=congrArg val (qR.1 e);rw[zg]at this;exact this)
   exact y217c a b O ha O
theorem zgd{l:List Int}{n:Nat}(h:LB l)(hv:val l=n):trL l=toL n:=by rw[yk h,hv]
theorem y166(a b:Nat)(ha:bl a<=100000)(hb:bl b<=100000):Fn 229 [] [.sl .u32 (toL a),.sl .u32 (toL b)]
 (if 8192<bl a\/8192<bl b then .tup [.sl .u32 [],.sl .u32 [],.int .i64 9]else if b=0 then .tup [.sl .u32 [],.sl .u32 [],.int .i64 10]else .tup [.sl .u32 (toL (a/b)),.sl .u32 (toL (a % b)),.int .i64 0]) []:=by
 have la:(toL a).length <=100000:=(zu a 100000).2 O;have lb:(toL b).length <=100000:=(zu b 100000).2 O;have h215:=zx2 [toL a,toL b] OC;have hlg:([toL a,toL b].any lgB)=decide (8192<bl a\/8192<bl b):=by
  simp only[w7,w8,Bool.or_false,lgB,zfi,Bool.decide_or]
 rw[hlg]at h215;have hxb:=zhv (toL b) O;rw[qe]at hxb;by_cases h1:8192<bl a\/8192<bl b
 .rw[Z6 h1];rw[Z8 h1]at h215;refine fY4 Tryz.func229 rfl ?_;refine gYn h215 ?_;exact⟨lt0 (lc (li0 rfl) (lc (li0 rfl) (lc (lr rfl) ln0))),lh0⟩
 rw[Z7 h1];rw[Z9 h1]at h215;by_cases h2:b=0
 .rw[Z6 h2];subst h2;rw[wp]at*;refine fY4 Tryz.func229 rfl ?_;refine gYn h215 ?_;refine gYn hxb ?_;exact⟨lt0 (lc (li0 rfl) (lc (li0 rfl) (lc (lr rfl) ln0))),lh0⟩
 rw[Z7 h2];obtain⟨Q,R,⟨q1,q2⟩,⟨q3,q4⟩,q5,q6,q7⟩:=y217 a b h2 ((zu a 50000).2 O) ((zu b 50000).2 O);have hQ:=zhv Q O;have hR:=zhv R O;rw[zgd q1 q5]at hQ;rw[zgd q2 q6]at hR;have k1:=kr Q;have k2:=kr R;rw[zgd q1 q5]at k1;rw[zgd q2 q6]at k2;have h173:=y173 (toL (a/b)) O;have h173':=y173 (toL (a % b)) O;refine fY4 Tryz.func229 rfl ?_;refine gYn h215 ?_;refine gYn hxb ?_;refine brI (fun h3=>?_) (fun h3=>?_)
 .have h3:(toL b).length =0:=by have h3:(((toL b).length :Int)==0)=true:=h3;rw[beq_iff_eq]at h3;omega
  exact absurd (by have:=congrArg val (qR.1 h3);rw[zg]at this;exact this) h2
 conv=>whnf
 refine gYn q7 ?_;refine gYn hQ ?_;refine gYn h173 ?_;refine gYn hR ?_;refine gYn h173' ?_;exact⟨lr rfl,lh0⟩
theorem zz{a b:Nat}(h:a<=b):bl a<=bl b:=vr.2 (qM h (zaq b))
theorem zhp{x y k:Nat}(hx:bl x<=k)(hy:bl y<=k):bl (x+y)<=k+1:=by
 have h1:=vr.1 hx;have h2:=vr.1 hy;exact vr.2 (by rw[qU];omega)
theorem bl_sq{s n k:Nat}(h:s*s<=n)(hn:bl n<=k+k):bl s<=k:=by
 refine qK.1 fun hc=>?_
 have h2:2^k<=s:=qK.1 fun c=>by have:=vr.2 c;omega
 have h3:=w6 h2 h2;rw[<-qY]at h3;have h4:=zaq n;have h5:2^bl n<=2^(k+k):=qH OA hn;omega
theorem y246(a:Nat)(ha:bl a<=100000):Fn 293 [] [.sl .u32 (toL a)] (dnV (if 8192<bl a then([],9)else(toL (sqN a),0))) []:=by
 have la:(toL a).length <=100000:=(zu a 100000).2 O;have h215:=zx2 [toL a] OC;have hlg:([toL a].any lgB)=decide (8192<bl a):=by
  simp only[w7,w8,Bool.or_false,lgB,zfi]
 rw[hlg]at h215;have h169:=y169 (toL a) (zk a) O;rw[zho (zk a),zg]at h169;by_cases h1:8192<bl a
 .rw[Z6 h1];rw[Z8 h1]at h215;refine fY4 Tryz.func293 rfl ?_;refine gYn h215 ?_;exact⟨leN,lh0⟩
 rw[Z7 h1];rw[Z9 h1]at h215;by_cases h2:a=0
 .subst h2;rw[show sqN 0=0 from rfl,wp]at*;refine fY4 Tryz.func293 rfl ?_;refine gYn h215 ?_;refine gYn h169 ?_;exact⟨leN,lh0⟩
 have hb0:bl a≠0:=fun e=>h2 (kj.1 e)
 obtain⟨k,hk⟩:∃k,(bl a+1)/2=k:=⟨_,rfl⟩;have h258:=y258 (toL 1) k (zk 1) OA O;obtain⟨s1,s2⟩:=zbj k 1;rw[Nat.one_mul]at s1;have hsl:(zgh (toL 1) k).length <=100000:=by
  unfold zgh;rw[qL,qF,zbk];have:(trL (toL 1)).length <=1:=OA;omega
 have h216:=zhv (zgh (toL 1) k) O;rw[zgd s2 s1]at h216;generalize zgh (toL 1) k=S at*;have h258:Fn 265 [] [.sl .u32 [1],.int .i64 k] (.sl .u32 S) []:=h258;have hx0:a<(2^k+1)*(2^k+1):=by
  have h3:=zaq a;have h4:2^bl a<=2^k*2^k:=by rw[<-qY];exact qH OA O
  have h5:2^k*2^k<=(2^k+1)*(2^k+1):=w6 O O;omega
 refine fY4 Tryz.func293 rfl ?_;refine gYn h215 ?_;refine gYn h169 ?_;refine brI (fun h3=>?_) (fun h3=>?_)
 .have h3:((bl a:Nat):Int)=0:=by simpa using h3
  omega
 conv=>whnf
 refine⟨OA,?_⟩;conv=>whnf
 rw[show w9.wrap ((w9.wrap (((bl a:Nat):Int)+1)).tdiv 2)=((k:Nat):Int) by
  rw[wI (x:=((bl a:Nat):Int)+1) O,show((bl a:Nat):Int)+1=((bl a+1:Nat):Int) by omega,show(2:Int)=((2:Nat):Int)from rfl,<-Int.ofNat_tdiv,hk,wI O]]
 refine gYn h258 ?_;refine gYn h216 ?_;refine⟨Nat,fun x=>0<x/\x<=2^k/\a<(x+1)*(x+1),fun x=> [(5,.sl .u32 (toL x))],fun _=> [],fun x=>x,2^k,⟨qC k,qW _,hx0⟩,?_,fun x hx=>?_⟩
 .exact KZ0
 refine gYe ?_;obtain⟨x1,x2,x3⟩:=hx;have bx:bl x<=10000:=by
  have:=zz x2;rw[(O:2^k=1*2^k),zq 1 k OA]at this;have:bl 1=1:=rfl;omega
 have lx:(toL x).length <=10000:=(zu x 10000).2 O;obtain⟨Q,R,⟨q1,q2⟩,⟨q3,q4⟩,q5,q6,q7⟩:=y217 a x O ((zu a 50000).2 O) O;have hQ:=zhv Q O;rw[zgd q1 q5]at hQ;have bq:bl (a/x)<=8192:=by have:=zz (w4 a x);omega
 have lq:(toL (a/x)).length <=10000:=(zu _ 10000).2 O;have h272:=y272 (toL x) (toL (a/x)) (zk _) (zk _) O O;rw[zg,zg]at h272;have hpv:val (zdk (max (toL x).length (toL (a/x)).length +1) (x+a/x))=x+a/x:=by
  refine yu _ _ ?_;have h1:=(qd x _).1 (Nat.le_max_left (toL x).length (toL (a/x)).length);have h2:=(qd (a/x) _).1 (Nat.le_max_right (toL x).length (toL (a/x)).length);rw[qV]at h1 h2;have e:(2:Nat)^32=4294967296:=rfl;rw[e]at h1 h2;rw[qU];omega
 have h222:=y222 (zdk (max (toL x).length (toL (a/x)).length +1) (x+a/x)) 1 (xr _ _) (by rw[yz];omega) O;have hsv:=zvz (xr (max (toL x).length (toL (a/x)).length +1) (x+a/x)) 1;rw[hpv]at hsv;rw[hsv]at h222;generalize zdk (max (toL x).length (toL (a/x)).length +1) (x+a/x)=P at*;obtain⟨e1,e2⟩:=zdr 1 (x+a/x);have hsl2:=zjl (toL (x+a/x)) 1;have lxq:(toL (x+a/x)).length <=100000:=(zu _ 100000).2 (by
  have:bl (x+a/x)<=10001:=zhp bx O;omega)
 have h216':=zhv (zgg (toL (x+a/x)) 1) O;rw[zgd e2 e1,Nat.pow_one]at h216';generalize zgg (toL (x+a/x)) 1=S2 at*;obtain⟨y,hy⟩:∃y,y=(x+a/x)/2:=⟨_,rfl⟩;rw[<-hy]at h216';have hup:=zs5 x1 hy;have hend:=zqk x1 hy;have ly:(toL y).length <=100000:=by
  have:bl y<=10001:=qT (zz O) (zhp bx (O:bl (a/x)<=10000));exact(zu _ 100000).2 O
 have h177:=qc9 (toL y) (toL x) O O;rw[zcs]at h177;have h221:=qcl (toL x) O;rw[ze5 (zk x),zg]at h221;conv=>whnf
 refine gYn q7 ?_;refine gYn hQ ?_;refine gYn h272 ?_;refine gYn h222 ?_;refine gYn h216' ?_;refine gYn h177 ?_;refine brI (fun h4=>?_) (fun h4=>?_)
 .have h4:kd y x≥0:=Z0 h4;have hxy:x<=y:=qK.1 fun h=>by unfold kd at h4;rw[Z6 h]at h4;omega
  have hs:=zic (hend hxy) x3;have hbx:bl x<=8192:=by
   have h5:=hend hxy;have h6:x<=x*x:=Nat.le_mul_of_pos_left x x1;have:=zz (qT h6 h5);omega
  rw[Z7 O]at h221;rw[hs];conv=>whnf
  refine gYn h221 ?_;exact⟨lr rfl,lh0⟩
 .have h4:¬kd y x≥0:=Z3 h4;have hxy:y<x:=Nat.not_le.1 fun h=>h4 (by unfold kd;rw[Z7 O];split<;>decide)
  have hy0:0<y:=by
   refine qN fun e=>?_
   rw[e]at hup;omega
  conv=>whnf
  refine⟨y,⟨hy0,O,hup⟩,hxy,?_⟩;exact KZ0
