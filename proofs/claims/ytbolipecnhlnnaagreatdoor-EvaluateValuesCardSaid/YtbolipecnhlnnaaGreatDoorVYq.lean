/- Natural numbers: division. -/
import Derived.Test.YtbolipecnhlnnaaGreatDoorVYp
set_option linter.all false
open Int renaming toNat_natCast->q8,toNat_zero->w1
open List renaming mem_of_getElem?->q0,getElem?_set_ne->q9,length_replicate->qB,length_set->qE,length_append->qH,length_eq_zero_iff->qN,take_length->qX,any_cons->w3,any_nil->w4
open Nat renaming two_pow_pos->qd,mul_comm->qn,add_zero->qA,pow_le_pow_right->qD,mul_lt_mul_of_pos_right->qF,not_lt->qG,lt_of_le_of_lt->qI,pos_of_ne_zero->qJ,mul_assoc->qK,div_eq_of_lt->qL,mod_eq_of_lt->qM,mul_zero->qO,le_trans->qP,pow_succ->qQ,pow_mul->qR,le_refl->qS,mul_le_mul_right->qT,pow_add->qU,lt_of_lt_of_le->qV,mod_lt->qW,mod_add_div->qY,div_le_self->qZ,mul_le_mul->w2
open Option renaming getD_some->qC
open Go.IntKind renaming i64->w5,u32->w6
namespace Go.Proofs.YtbolipecnhlnnaaGreatDoor
open Go Go.Sx
set_option maxRecDepth 100000
set_option maxHeartbeats 8000000
theorem y217c(a b:Nat)(hab:b<=a)(ha:(toL a).length <=50000)(hb2:2<=(toL b).length):
 ∃Q R:List Int,(LB Q/\LB R)/\(Q.length<=200000/\R.length<=200000)/\val Q=a/b/\val R=a % b/\Fn 375 [] [.sl .u32 (toL a),.sl .u32 (toL b)] (.tup [.sl .u32 Q,.sl .u32 R]) []:=by
 have hlb:(toL b).length <=(toL a).length :=qG.1 fun h=>by have:=zrg h;omega
 have hxa:=zja (toL a) O;have hxb:=zja (toL b) O;rw[qm]at hxa hxb;have h177:=qie (toL a) (toL b) O O;rw[zdm]at h177;have ho:¬uf a b<0:=by unfold uf;split;omega;split<;>decide
 obtain⟨z,hz⟩:∃z,(toL b).getLast? =some z:=by
  cases h:(toL b).getLast? with
  |none=>rw[List.getLast?_eq_none_iff]at h;rw[h]at hb2;simp at hb2
  |some z=>exact⟨z,rfl⟩
 have hzb:=zm b z (List.mem_of_getLast? hz);have hlast:=zfi b;rw[hz]at hlast;simp only at hlast;rw[zct O]at hlast;have hz32:bl z.toNat<=32:=wv.2 (by show z.toNat<4294967296;omega);have hz1:1<=bl z.toNat:=by
  have h:=(zx b ((toL b).length -1));have:¬bl b<=32*((toL b).length -1):=fun hc=>by have:=h.2 hc;omega
  omega
 obtain⟨s,hs⟩:∃s:Nat,(32:Int)-(bl z.toNat:Int)=(s:Int):=⟨32-bl z.toNat,O⟩;have h257:=y257 z.toNat O;rw[hs,show((z.toNat:Nat):Int)=z by omega]at h257;have hb0:b≠0:=fun e=>by subst e;simp[jb]at hb2
 have hbs:bl (b*2^s)=32*(toL b).length :=by rw[zq b s hb0];omega
 have hvl:(toL (b*2^s)).length =(toL b).length :=by
  have h1:=(zx (b*2^s) (toL b).length).2 O;have h2:¬(toL (b*2^s)).length <=(toL b).length -1:=fun h=>by have:=(zx _ _).1 h;omega
  omega
 have hu:=qid (toL a) s (zm a) O O;have hw:=qid (toL b) s (zm b) O O;obtain⟨uv,uL⟩:=zb4 s a;obtain⟨vv,vL⟩:=zb4 s b;have ulen:(zhx (toL a) s).length =(toL a).length +1:=by unfold zhx;rw[qm,qH,qB,zb5];omega
 have wlen:(zhx (toL b) s).length =(toL b).length +1:=by unfold zhx;rw[qm,qH,qB,zb5];omega
 have hxw:=zja (zhx (toL b) s) O;rw[xm vL,vv]at hxw;generalize zhx (toL a) s=u0 at hu uv uL ulen;generalize zhx (toL b) s=w0 at hw vv vL wlen hxw;have hvv:=zk (b*2^s);have hvL:=zm (b*2^s);generalize toL (b*2^s)=v at hvl hxw hvv hvL;have hn2:2<=v.length:=O;have hV:4294967296^(v.length-1)<=val v:=by
  rw[hvv];refine qG.1 fun hc=>?_
  have h1:b*2^s<2^(32*(v.length-1)):=by rw[qR];exact hc
  have:=wv.2 h1;omega
 have hV0:0<val v:=qV (Nat.pow_pos OA) hV;have hU0:val u0<val v*4294967296^(u0.length-v.length):=by
  rw[uv,hvv,qK,qn (2^s),<-qK];refine qF ?_ (qd s);have h1:=(qf a (toL a).length).1 (qS _);have h2:2^(32*((toL b).length -1))<=b:=qG.1 fun hc=>by
   have:=(qf b ((toL b).length -1)).2 hc;omega
  rw[qR]at h1 h2;have h1:a<4294967296^(toL a).length :=h1;have h2:4294967296^((toL b).length -1)<=b:=h2;refine qV h1 ?_;rw[<-zvk 4294967296 ((toL b).length -1) (u0.length-v.length) (toL a).length O];exact qT _ h2
 have hm:v.length<=u0.length:=O;have hy222:=y222 (zeq v.length (a % b*2^s)) s (zas _ _) (by rw[zab];omega) O;refine⟨zeq (u0.length-v.length) (a/b),zhw (zeq v.length (a % b*2^s)) s,?_,?_,?_,?_,?_⟩
 rotate_left 4
 refine fnT qku hmx Tryz.func375 rfl rfl (ex:= []) ?_;conv=>whnf
 refine gYn hxa ?_;refine gYn hxb ?_;refine gYn h177 ?_;refine brI (fun h1=>?_) (fun h1=>?_)
 .exact absurd (Z0 h1) ho
 conv=>whnf
 refine brI (fun h2=>?_) (fun h2=>?_)
 .have h2:((toL b).length :Int)=1:=by have h2:(((toL b).length :Int)==1)=true:=h2;simpa using h2
  omega
 conv=>whnf
 rw[wI (x:=((toL b).length :Int)-1) O];refine⟨⟨O,O⟩,fun(y:Int)hy=>?_⟩;have hy:(toL b).getLast? =some y:=by
  have hy:(toL b)[(((toL b).length :Int)-1).toNat]? =some y:=hy;rw[List.getLast?_eq_getElem?,<-hy];congr 1;omega
 obtain rfl:y=z:=by rw[hz]at hy;exact(Option.some.inj hy).symm
 conv=>whnf
 refine gYn h257 ?_;refine⟨[],[.buf 108 .u32 u0],.own 2000000,hu,?_⟩;conv=>whnf
 refine⟨[],[.buf 108 .u32 w0],.own 2000000,hw,?_⟩;conv=>whnf
 refine gYn hxw ?_;refine⟨Unit,fun _=>True,fun _=> [(9,.own 51)],fun _=> [(51,.buf 108 .u32 u0)],fun _=>0,(),trivial,?_,fun x hx=>?_⟩
 .exact KZ0
 refine gYe ?_;refine brI (fun h3=>?_) (fun h3=>?_)
 .have h3:(u0.length:Int)<=(toL a).length :=Z0 h3;omega
 conv=>whnf
 rw[wI (x:=(u0.length:Int)-(v.length:Int)) O];refine⟨⟨O,O,O⟩,?_⟩;conv=>whnf
 have hc1:((u0.length:Int)-(v.length:Int)).toNat =u0.length-v.length:=O;obtain⟨m,hm2⟩:∃m,u0.length-v.length=m:=⟨_,rfl⟩;rw[hm2]at hU0 hc1⊢;rw[wI (x:=(u0.length:Int)-(v.length:Int)) O,wI (x:=(u0.length:Int)-(v.length:Int)-1) O];refine⟨Int×List Int×List Int,fun x=>(-1<=x.1/\x.1<m)/\(LB x.2.1/\x.2.1.length=u0.length)/\(LB x.2.2/\x.2.2.length=m)/\(∀i:Nat,(i:Int)<=x.1->x.2.2[i]?.getD 0=0)/\val x.2.2*val v+val x.2.1=a*2^s/\val x.2.1<val v*4294967296^(x.1+1).toNat,fun x=> [(13,.int .i64 x.1)],fun x=> [(51,.buf 108 .u32 x.2.1),(70,.buf 108 .u32 x.2.2)],fun x=>(x.1+1).toNat,((u0.length:Int)-(v.length:Int)-1,u0,List.replicate m 0),?_,?_,fun x hx=>?_⟩
 .refine⟨⟨OD,OD⟩,⟨uL,rfl⟩,⟨fun x hx=>by rw[List.eq_of_mem_replicate hx];omega,OC⟩,fun j _=>by simp only[List.getElem?_replicate];split<;>rfl,?_,?_⟩
  .simp only;rw[za1,Nat.zero_mul,Nat.zero_add];exact uv
  .simp only;rw[show((u0.length:Int)-(v.length:Int)-1+1).toNat =m by omega];exact hU0
 ·((conv=>whnf);refine And.intro ?_ ?_;repeat' first|refine lc ?_ ?_|refine lh1 ?_ ?_|refine bc0 ?_|exact KXZ|refine lg0 ?_|refine lt0 ?_)
  .exact bb0 (by rw[hc1])
 refine gYe ?_;obtain⟨j,u,q⟩:=x;obtain⟨⟨i1,i2⟩,⟨i3,i4⟩,⟨i5,i6⟩,i7,i8,i9⟩:=hx;simp only at i1 i2 i3 i4 i5 i6 i7 i8 i9;refine brI (fun h4=>?_) (fun h4=>?_)
 .have h4:0<=j:=Z0 h4;obtain⟨j,rfl⟩:=Int.eq_ofNat_of_zero_le h4;rw[show((j:Int)+1).toNat =j+1 by omega]at i9;obtain⟨hz,hv1,htop,hgs⟩:=qgo i3 hvL hn2 O hV i9;have w0':w5.wrap ((j:Int)+(v.length:Int))=((j+v.length:Nat):Int):=by rw[wI O];omega
  have w1':w5.wrap (((j+v.length:Nat):Int)-1)=((j+v.length-1:Nat):Int):=by rw[wI O];omega
  have w2':w5.wrap (((j+v.length:Nat):Int)-2)=((j+v.length-2:Nat):Int):=by rw[wI O];omega
  have w3':w5.wrap ((v.length:Int)-1)=((v.length-1:Nat):Int):=by rw[wI O];omega
  have w4':w5.wrap ((v.length:Int)-2)=((v.length-2:Nat):Int):=by rw[wI O];omega
  have ub:=i3.at;have vb:=hvL.at;conv=>whnf
  simp only[w0'];refine⟨⟨O,O⟩,?_⟩;conv=>whnf
  refine⟨by simp only[q8];omega,fun(x2:Int)hx2=>?_⟩;have hx2:u[j+v.length]? =some x2:=hx2;conv=>whnf
  simp only[w0',w1'];refine⟨⟨O,O⟩,?_⟩;conv=>whnf
  refine⟨by simp only[q8];omega,fun(x1:Int)hx1=>?_⟩;have hx1:u[j+v.length-1]? =some x1:=hx1;conv=>whnf
  simp only[w0',w2'];refine⟨⟨O,O⟩,?_⟩;conv=>whnf
  refine⟨by simp only[q8];omega,fun(x0:Int)hx0=>?_⟩;have hx0:u[j+v.length-2]? =some x0:=hx0;conv=>whnf
  simp only[w3'];refine⟨⟨O,O⟩,fun(y1:Int)hy1=>?_⟩;have hy1:v[v.length-1]? =some y1:=hy1;conv=>whnf
  simp only[w4'];refine⟨⟨O,O⟩,fun(y0:Int)hy0=>?_⟩;have hy0:v[v.length-2]? =some y0:=hy0;rw[hx2,hx1,hx0,hy1,hy0]at hgs;rw[hx2,hy1]at htop;rw[hy1]at hv1;simp only[qC]at hgs htop hv1;have bx2:=i3 x2 (q0 hx2);have bx1:=i3 x1 (q0 hx1);have bx0:=i3 x0 (q0 hx0);have by1:=hvL y1 (q0 hy1);have by0:=hvL y0 (q0 hy0);have h259:=y259 x2.toNat x1.toNat x0.toNat y1.toNat y0.toNat hv1 O htop O O O;rw[show((x2.toNat:Nat):Int)=x2 by omega,show((x1.toNat:Nat):Int)=x1 by omega,show((x0.toNat:Nat):Int)=x0 by omega,show((y1.toNat:Nat):Int)=y1 by omega,show((y0.toNat:Nat):Int)=y0 by omega]at h259;obtain⟨g1,g2,g3⟩:=hgs _ rfl;generalize gsN x2.toNat x1.toNat x0.toNat y1.toNat y0.toNat=x at h259 g1 g2 g3;conv=>whnf
  refine gYn h259 ?_;refine gYd ?_;have w5':w5.wrap (((j+v.length:Nat):Int)+1)=((j+v.length+1:Nat):Int):=by rw[wI O];omega
  have w6':((j+v.length+1:Nat):Int).toNat -((j:Int)).toNat =v.length+1:=O;simp only[w0',w5',w6'];refine⟨⟨O,O,O⟩,?_⟩;conv=>whnf
  have h260:=y260 u v j x i3 hvL O O g1 hz;refine cbI [.buf 108 .u32 (tkN u j x v)] _ (h260.sw [(51,1000001)] rfl) (fun h5=>?_) (fun h5=>?_)
  rotate_left
  .have h5:=Z1 h5;obtain⟨n1,n2⟩:=dv_no i8 h5 g2;have hval:=tk_no i3 h5;have hlen:=zt8 u v j x;have hLB:=qdq u v j x;rw[<-hval]at n1 n2;generalize tkN u j x v=u1 at hval hlen hLB n1 n2;conv=>whnf
   refine⟨⟨O,O⟩,?_⟩;conv=>whnf
   refine⟨by show j<q.length;omega,?_⟩;conv=>whnf
   have hs:=uc q j (x:Int) O;rw[i7 j O,w1,qO,qA,q8]at hs;refine⟨((j:Int)-1,u1,q.set j (x:Int)),⟨⟨OD,OD⟩,⟨hLB,OD⟩,⟨i5.set O,by simp only[qE];exact i6⟩,fun k hk=>by simp only at hk⊢;rw[q9 O];exact i7 k O,?_,?_⟩,by show((j:Int)-1+1).toNat <((j:Int)+1).toNat;omega,?_⟩
   .show val (q.set j (x:Int))*val v+val u1=a*2^s;rw[hs];exact n1
   .show val u1<val v*4294967296^((j:Int)-1+1).toNat;rw[show((j:Int)-1+1).toNat =j by omega];exact n2
   ((conv=>whnf);refine And.intro ?_ ?_;repeat' first|refine lc ?_ ?_|refine lh1 ?_ ?_|refine bc0 ?_|exact KXZ|refine lg0 ?_|refine lt0 ?_)
   .exact ai0 (by rw[wI O])
   .exact bb0 (congrArg (fun z=>q.set j z) (qd6 g1))
  .have h5:=Z0 h5;obtain⟨n0,n1,n2⟩:=qli i8 h5 g3;have hQ:4294967296^j*val v<=4294967296^(j+v.length+1):=by
    have h1:=ud hvL v.length (qS _);rw[qX]at h1;rw[<-zvk 4294967296 j (v.length+1) (j+v.length+1) O];refine Nat.mul_le_mul_left _ ?_;exact qP (Nat.le_of_lt h1) (qD OA O)
   have hDD:4294967296^j*(x*val v)<=val u+4294967296^j*val v:=by
    have e:4294967296^j*(x*val v)=x*(val v*4294967296^j):=by rw[qn,qK]
    rw[e,qn (4294967296^j)];exact g3
   obtain⟨tv,tz⟩:=qit (u:=u) (v:=v) (j:=j) (x:=x) O h5 (qP hDD (Nat.add_le_add_left hQ _));have hlen:=zt8 u v j x;have hLB:=qdq u v j x;generalize tkN u j x v=u1 at tv tz hlen hLB;conv=>whnf
   refine⟨Nat×List Int×Nat,fun x=>(x.1<=v.length/\x.2.2<=1)/\(LB x.2.1/\x.2.1.length=u0.length)/\(∀k,k<j\/j+x.1<=k->x.2.1[k]? =u1[k]?)/\val x.2.1+4294967296^(j+x.1)*x.2.2=val u1+4294967296^j*val (v.take x.1),fun x=> [(84,.any),(91,.any),(98,.any),(125,.int .i64 x.1),(15,.int .u32 x.2.2)],fun x=> [(51,.buf 108 .u32 x.2.1)],fun x=>v.length-x.1,(0,u1,0),?_,?_,fun t ht=>?_⟩
   .exact⟨⟨OC,OC⟩,⟨hLB,OD⟩,fun _ _=>rfl,by simp[val]⟩
   .exact KZ0
   refine gYe ?_;obtain⟨i,w,c⟩:=t;obtain⟨⟨a1,a2⟩,⟨a3,a4⟩,a5,a6⟩:=ht;simp only at a1 a2 a3 a4 a5 a6;refine brI (fun h6=>?_) (fun h6=>?_)
   .have hi:i<v.length:=by simp only[Z2]at h6;omega
    have wi:w5.wrap ((j:Int)+(i:Int))=((j+i:Nat):Int):=by rw[wI O];omega
    conv=>whnf
    refine⟨⟨O,OD⟩,fun(yv:Int)hyv=>?_⟩;have hyv:v[i]? =some yv:=by simpa using hyv
    have hyb:=hvL yv (q0 hyv);have tvv:=jn v hi;rw[hyv,qC]at tvv;conv=>whnf
    simp only[wi];refine⟨⟨O,O⟩,?_⟩;conv=>whnf
    refine⟨by show j+i<w.length;omega,fun(d:Int)hd=>?_⟩;have hd:w[j+i]? =some d:=hd;have hdb:=a3 d (q0 hd);have h261:=y261 d.toNat yv.toNat c O O O;rw[show((d.toNat:Nat):Int)=d by omega,show((yv.toNat:Nat):Int)=yv by omega]at h261;have hmd:=qY (d.toNat+yv.toNat+c) 4294967296;have hml:=qW (d.toNat+yv.toNat+c) (OA:0<4294967296);have hql:(d.toNat+yv.toNat+c)/4294967296<=1:=O;have hs:=uc w (j+i) (((d.toNat+yv.toNat+c) % 4294967296:Nat):Int) O;rw[hd,qC,q8]at hs;have key:=qdk (y:=yv.toNat) (Bi:=4294967296^i) hs a6 hmd.symm (qU _ _ _);rw[<-tvv,<-qQ]at key;generalize (d.toNat+yv.toNat+c)/4294967296=c1 at*;generalize (d.toNat+yv.toNat+c) % 4294967296=r at*;conv=>whnf
    refine gYn h261 ?_;simp only[wi];refine⟨⟨O,O⟩,?_⟩;conv=>whnf
    refine⟨by show j+i<w.length;omega,?_⟩;conv=>whnf
    refine⟨(i+1,w.set (j+i) (r:Int),c1),⟨⟨OD,OD⟩,⟨a3.set O,by simp only[qE];exact a4⟩,fun k hk=>by simp only at hk⊢;rw[q9 O];exact a5 k O,key⟩,by show v.length-(i+1)<v.length-i;omega,?_⟩
    ((conv=>whnf);refine And.intro ?_ ?_;repeat' first|refine lc ?_ ?_|refine lh1 ?_ ?_|refine bc0 ?_|exact KXZ|refine lg0 ?_|refine lt0 ?_)
    .exact ai0 (by rw[wI O];simp only;omega)
   .have hi:i=v.length:=by simp only[Z3]at h6;omega
    subst hi;rw[qX]at a6;conv=>whnf
    simp only[w0'];refine⟨⟨O,O⟩,?_⟩;conv=>whnf
    refine⟨by show j+v.length<w.length;omega,fun(d:Int)hd=>?_⟩;have hd:w[j+v.length]? =some d:=hd;have hdb:=a3 d (q0 hd);have hmd:=qY (d.toNat+c) 4294967296;have hml:=qW (d.toNat+c) (OA:0<4294967296);have hs:=uc w (j+v.length) (((d.toNat+c) % 4294967296:Nat):Int) O;rw[hd,qC,q8]at hs;have ew:w6.wrap (d+(c:Int))=(((d.toNat+c) % 4294967296:Nat):Int):=by simp[IntKind.wrap,IntKind.signed,IntKind.bits];omega
    have key:=qdk (y:=0) (Bi:=4294967296^v.length) hs a6 (by rw[qA];exact hmd.symm) (qU _ _ _);rw[qO,qA,<-qQ]at key;have hLB2:LB (w.set (j+v.length) (((d.toNat+c) % 4294967296:Nat):Int)):=a3.set O;have hz2:Zr (j+v.length+1) (w.set (j+v.length) (((d.toNat+c) % 4294967296:Nat):Int)):=fun k hk=>by
     rw[q9 O,a5 k O];exact tz k hk
    have hlt2:=zye hLB2 hz2;have hl2:(w.set (j+v.length) (((d.toNat+c) % 4294967296:Nat):Int)).length =u0.length:=by rw[qE];exact a4
    have hq1:(d.toNat+c)/4294967296<=1:=O;generalize (d.toNat+c)/4294967296=o at*;generalize (d.toNat+c) % 4294967296=r at*;have hval2:val (w.set (j+v.length) (r:Int))=val u+4294967296^j*val v-4294967296^j*(x*val v):=by
     have e:(j+v.length).succ =j+v.length+1:=rfl;rw[e]at key;generalize val (w.set (j+v.length) (r:Int))=W at*;generalize 4294967296^(j+v.length+1)=Q at*;generalize 4294967296^j*val v=D1 at*;generalize 4294967296^j*(x*val v)=D2 at*;rcases(by omega:o=0\/o=1)with e|e
     .subst e;omega
     .subst e;omega
    rw[<-hval2]at n1 n2;have e7:w6.wrap (IntKind.u64.wrap ((x:Int)-1))=((x-1:Nat):Int):=by
     rw[wU (x:=(x:Int)-1) O,zsp O];omega
    conv=>whnf
    simp only[w0'];refine⟨⟨O,O⟩,?_⟩;conv=>whnf
    refine⟨by show j+v.length<w.length;omega,?_⟩;conv=>whnf
    refine⟨⟨O,O⟩,?_⟩;conv=>whnf
    refine⟨by show j<q.length;omega,?_⟩;conv=>whnf
    have hs3:=uc q j ((x-1:Nat):Int) O;rw[i7 j O,w1,qO,qA,q8]at hs3;refine⟨((j:Int)-1,w.set (j+v.length) (r:Int),q.set j ((x-1:Nat):Int)),⟨⟨OD,OD⟩,⟨hLB2,hl2⟩,⟨i5.set O,by simp only[qE];exact i6⟩,fun k hk=>by simp only at hk⊢;rw[q9 O];exact i7 k O,?_,?_⟩,by show((j:Int)-1+1).toNat <((j:Int)+1).toNat;omega,?_⟩
    .show val (q.set j ((x-1:Nat):Int))*val v+val (w.set (j+v.length) (r:Int))=a*2^s;rw[hs3];exact n1
    .show val (w.set (j+v.length) (r:Int))<val v*4294967296^((j:Int)-1+1).toNat;rw[show((j:Int)-1+1).toNat =j by omega];exact n2
    ((conv=>whnf);refine And.intro ?_ ?_;repeat' first|refine lc ?_ ?_|refine lh1 ?_ ?_|refine bc0 ?_|exact KXZ|refine lg0 ?_|refine lt0 ?_)
    .exact ai0 (by rw[wI O])
    .exact bb0 (congrArg (fun z=>w.set (j+v.length) z) ew)
    .exact bb0 (congrArg (fun z=>q.set j z) e7)
 .have h4:¬0<=j:=Z1 h4;rw[show(j+1).toNat =0 by omega,Nat.pow_zero,Nat.mul_one]at i9;have f1:val q=a/b:=by
   have h:=congrArg (· /val v) i8;rw[qn,Nat.mul_add_div hV0,qL i9,qA,hvv,Nat.mul_div_mul_right _ _ (qd s)]at h;exact h
  have f2:val u=a % b*2^s:=by
   have h:=congrArg (· % val v) i8;rw[qn,Nat.mul_add_mod,qM i9,hvv,Nat.mul_mod_mul_right]at h;exact h
  have f3:q=zeq m (a/b):=by
   have h:=zbj i5;rw[i6,f1]at h;exact h.symm
  have f4:((u.take ((v.length:Nat):Int).toNat).drop (0:Int).toNat)=zeq v.length (a % b*2^s):=by
   show(u.take v.length).drop 0=_;rw[List.drop_zero];have hT:LB (u.take v.length):=fun z hz=>i3 z (List.mem_of_mem_take hz)
   have h1:=zew u v.length O;have h2:=zq0 hvL;have h3:val u=val (u.take v.length):=by
    generalize val (u.drop v.length)=dd at h1
    cases dd with
    |zero=>rw[qO,qA]at h1;exact h1
    |succ dd=>rw[Nat.mul_succ]at h1;omega
   have h:=zbj hT;rw[<-h3,f2,List.length_take,Nat.min_eq_left O]at h;exact h.symm
  have f5:Fn 323 [] [.sl .u32 ((u.take ((v.length:Nat):Int).toNat).drop (0:Int).toNat),.int .i64 s] (.sl .u32 (zhw (zeq v.length (a % b*2^s)) s)) []:=by rw[f4];exact hy222
  conv=>whnf
  refine⟨⟨O,O,OD⟩,?_⟩;conv=>whnf
  refine gYn f5 ?_;refine⟨lt0 (lc (wb f3) (lc (lr rfl) ln0)),lh0⟩
 .exact⟨zas _ _,LB.shr _ _⟩
 .refine⟨by rw[zab];omega,?_⟩;have:=zk7 (zeq v.length (a % b*2^s)) s;rw[zab]at this;omega
 .refine xv _ _ ?_;have h2:=zq0 hvL;have h3:a/b*(b*2^s)<=a*2^s:=by rw[<-qK];exact qT _ (Nat.div_mul_le_self a b)
  rw[uv,hvv]at hU0;have h4:=qI h3 hU0;rw[qn (b*2^s)]at h4;exact Nat.lt_of_mul_lt_mul_right h4
 .have h1:a % b*2^s<4294967296^v.length:=by
   have h2:=zq0 hvL;rw[hvv]at h2;exact Nat.lt_trans (qF (qW a (qJ hb0)) (qd s)) h2
  have e:zhw (zeq v.length (a % b*2^s)) s=zhw (toL (a % b*2^s)) s:=by
   unfold zhw;rw[xm (zas _ _),xv _ _ h1,qm]
  rw[e,(zez s _).1,Nat.mul_div_cancel _ (qd s)]
theorem zzp{l:List Int}(h:LB l)(n:Nat):zhw l n=zhw (toL (val l)) n:=by
 unfold zhw;rw[xm h,qm]
theorem y217(a b:Nat)(hb:b≠0)(ha:(toL a).length <=50000)(hbl:(toL b).length <=50000):
 ∃Q R:List Int,(LB Q/\LB R)/\(Q.length<=200000/\R.length<=200000)/\val Q=a/b/\val R=a % b/\Fn 375 [] [.sl .u32 (toL a),.sl .u32 (toL b)] (.tup [.sl .u32 Q,.sl .u32 R]) []:=by
 have hxa:=zja (toL a) O;have hxb:=zja (toL b) O;rw[qm]at hxa hxb;have h177:=qie (toL a) (toL b) O O;rw[zdm]at h177;by_cases hab:a<b
 .have ho:uf a b<0:=by unfold uf;rw[Z4 hab];decide
  have h174:=y174 (toL a) O;refine⟨[],toL a,⟨(fun _ h=>nomatch h),zm a⟩,⟨OC,O⟩,by rw[qL hab];rfl,by rw[qM hab,zk],?_⟩;refine fnT qku hmx Tryz.func375 rfl rfl (ex:= []) ?_;conv=>whnf
  refine gYn hxa ?_;refine gYn hxb ?_;refine gYn h177 ?_;refine brI (fun h1=>?_) (fun h1=>?_)
  rotate_left
  .exact absurd ho (Z1 h1)
  conv=>whnf
  refine gYn h174 ?_;exact⟨lt0 (lc (li0 rfl) (lc (lr rfl) ln0)),lh0⟩
 .by_cases hl:(toL b).length =1
  .have ho:¬uf a b<0:=by unfold uf;rw[Z5 hab];split<;>decide
   have hb32:b<4294967296:=by
    have:=(qf b 1).1 O;exact this
   have hb1:toL b= [(b:Int)]:=by
    rw[yd hb,qL hb32,qM hb32,jb]
   have h256:=y256 (toL a) b (zm a) O O hb32;rw[zk]at h256;have hmd:=qW a (qJ hb);rw[hb1]at hxb h177⊢;refine⟨zeq (toL a).length (a/b),[((a % b:Nat):Int)],⟨zas _ _,fun z hz=>by rw[List.mem_singleton.1 hz];omega⟩,⟨by rw[zab];omega,OC⟩,?_,by rw[qp,q8];simp[val],?_⟩
   .refine xv _ _ ?_;have h1:=(qf a (toL a).length).1 (qS _);rw[qR]at h1;exact qI (qZ a b) h1
   refine fnT qku hmx Tryz.func375 rfl rfl (ex:= []) ?_;conv=>whnf
   refine gYn hxa ?_;refine gYn hxb ?_;refine gYn h177 ?_;refine brI (fun h1=>?_) (fun h1=>?_)
   .exact absurd (Z0 h1) ho
   conv=>whnf
   refine⟨⟨O,OC⟩,fun(y:Int)hy=>?_⟩;obtain rfl:((b:Nat):Int)=y:=by simpa using hy
   conv=>whnf
   refine gYn h256 ?_;exact⟨lr rfl,lh0⟩
  .have h1:(toL b).length ≠0:=fun e=>hb (by have:=congrArg val (qN.1 e);rw[zk]at this;exact this)
   exact y217c a b O ha O
theorem zhs{l:List Int}{n:Nat}(h:LB l)(hv:val l=n):trL l=toL n:=by rw[xm h,hv]
theorem y166(a b:Nat)(ha:bl a<=100000)(hb:bl b<=100000):Fn 324 [] [.sl .u32 (toL a),.sl .u32 (toL b)]
 (if 8192<bl a\/8192<bl b then .tup [.sl .u32 [],.sl .u32 [],.int .i64 9]else if b=0 then .tup [.sl .u32 [],.sl .u32 [],.int .i64 10]else .tup [.sl .u32 (toL (a/b)),.sl .u32 (toL (a % b)),.int .i64 0]) []:=by
 have la:(toL a).length <=100000:=(zx a 100000).2 O;have lb:(toL b).length <=100000:=(zx b 100000).2 O;have h215:=qb5 [toL a,toL b] OC;have hlg:([toL a,toL b].any lgB)=decide (8192<bl a\/8192<bl b):=by
  simp only[w3,w4,Bool.or_false,lgB,zgh,Bool.decide_or]
 rw[hlg]at h215;have hxb:=zja (toL b) O;rw[qm]at hxb;by_cases h1:8192<bl a\/8192<bl b
 .rw[Z4 h1];rw[Z6 h1]at h215;refine fY4 Tryz.func324 rfl ?_;refine gYn h215 ?_;exact⟨lt0 (lc (li0 rfl) (lc (li0 rfl) (lc (lr rfl) ln0))),lh0⟩
 rw[Z5 h1];rw[Z7 h1]at h215;by_cases h2:b=0
 .rw[Z4 h2];subst h2;rw[jb]at*;refine fY4 Tryz.func324 rfl ?_;refine gYn h215 ?_;refine gYn hxb ?_;exact⟨lt0 (lc (li0 rfl) (lc (li0 rfl) (lc (lr rfl) ln0))),lh0⟩
 rw[Z5 h2];obtain⟨Q,R,⟨q1,q2⟩,⟨q3,q4⟩,q5,q6,q7⟩:=y217 a b h2 ((zx a 50000).2 O) ((zx b 50000).2 O);have hQ:=zja Q O;have hR:=zja R O;rw[zhs q1 q5]at hQ;rw[zhs q2 q6]at hR;have k1:=uo Q;have k2:=uo R;rw[zhs q1 q5]at k1;rw[zhs q2 q6]at k2;have h173:=y173 (toL (a/b)) O;have h173':=y173 (toL (a % b)) O;refine fY4 Tryz.func324 rfl ?_;refine gYn h215 ?_;refine gYn hxb ?_;refine brI (fun h3=>?_) (fun h3=>?_)
 .have h3:(toL b).length =0:=by have h3:(((toL b).length :Int)==0)=true:=h3;rw[beq_iff_eq]at h3;omega
  exact absurd (by have:=congrArg val (qN.1 h3);rw[zk]at this;exact this) h2
 conv=>whnf
 refine gYn q7 ?_;refine gYn hQ ?_;refine gYn h173 ?_;refine gYn hR ?_;refine gYn h173' ?_;exact⟨lr rfl,lh0⟩
theorem qc{a b:Nat}(h:a<=b):bl a<=bl b:=wv.2 (qI h (zbb b))
theorem zi4{x y k:Nat}(hx:bl x<=k)(hy:bl y<=k):bl (x+y)<=k+1:=by
 have h1:=wv.1 hx;have h2:=wv.1 hy;exact wv.2 (by rw[qQ];omega)
theorem bl_sq{s n k:Nat}(h:s*s<=n)(hn:bl n<=k+k):bl s<=k:=by
 refine qG.1 fun hc=>?_
 have h2:2^k<=s:=qG.1 fun c=>by have:=wv.2 c;omega
 have h3:=w2 h2 h2;rw[<-qU]at h3;have h4:=zbb n;have h5:2^bl n<=2^(k+k):=qD OA hn;omega
theorem y246(a:Nat)(ha:bl a<=100000):Fn 404 [] [.sl .u32 (toL a)] (dnV (if 8192<bl a then([],9)else(toL (sqN a),0))) []:=by
 have la:(toL a).length <=100000:=(zx a 100000).2 O;have h215:=qb5 [toL a] OC;have hlg:([toL a].any lgB)=decide (8192<bl a):=by
  simp only[w3,w4,Bool.or_false,lgB,zgh]
 rw[hlg]at h215;have h169:=qif (toL a) (zm a) O;rw[zi3 (zm a),zk]at h169;by_cases h1:8192<bl a
 .rw[Z4 h1];rw[Z6 h1]at h215;refine fY4 Tryz.func404 rfl ?_;refine gYn h215 ?_;exact⟨leN,lh0⟩
 rw[Z5 h1];rw[Z7 h1]at h215;by_cases h2:a=0
 .subst h2;rw[show sqN 0=0 from rfl,jb]at*;refine fY4 Tryz.func404 rfl ?_;refine gYn h215 ?_;refine gYn h169 ?_;exact⟨leN,lh0⟩
 have hb0:bl a≠0:=fun e=>h2 (uj.1 e)
 obtain⟨k,hk⟩:∃k,(bl a+1)/2=k:=⟨_,rfl⟩;have h258:=y258 (toL 1) k (zm 1) OA O;obtain⟨s1,s2⟩:=zb4 k 1;rw[Nat.one_mul]at s1;have hsl:(zhx (toL 1) k).length <=100000:=by
  unfold zhx;rw[qH,qB,zb5];have:(trL (toL 1)).length <=1:=OA;omega
 have h216:=zja (zhx (toL 1) k) O;rw[zhs s2 s1]at h216;generalize zhx (toL 1) k=S at*;have h258:Fn 378 [] [.sl .u32 [1],.int .i64 k] (.sl .u32 S) []:=h258;have hx0:a<(2^k+1)*(2^k+1):=by
  have h3:=zbb a;have h4:2^bl a<=2^k*2^k:=by rw[<-qU];exact qD OA O
  have h5:2^k*2^k<=(2^k+1)*(2^k+1):=w2 O O;omega
 refine fY4 Tryz.func404 rfl ?_;refine gYn h215 ?_;refine gYn h169 ?_;refine brI (fun h3=>?_) (fun h3=>?_)
 .have h3:((bl a:Nat):Int)=0:=by simpa using h3
  omega
 conv=>whnf
 refine⟨OA,?_⟩;conv=>whnf
 rw[show w5.wrap ((w5.wrap (((bl a:Nat):Int)+1)).tdiv 2)=((k:Nat):Int) by
  rw[wI (x:=((bl a:Nat):Int)+1) O,show((bl a:Nat):Int)+1=((bl a+1:Nat):Int) by omega,show(2:Int)=((2:Nat):Int)from rfl,<-Int.ofNat_tdiv,hk,wI O]]
 refine gYn h258 ?_;refine gYn h216 ?_;refine⟨Nat,fun x=>0<x/\x<=2^k/\a<(x+1)*(x+1),fun x=> [(5,.sl .u32 (toL x))],fun _=> [],fun x=>x,2^k,⟨qd k,qS _,hx0⟩,?_,fun x hx=>?_⟩
 .exact KZ0
 refine gYe ?_;obtain⟨x1,x2,x3⟩:=hx;have bx:bl x<=10000:=by
  have:=qc x2;rw[(O:2^k=1*2^k),zq 1 k OA]at this;have:bl 1=1:=rfl;omega
 have lx:(toL x).length <=10000:=(zx x 10000).2 O;obtain⟨Q,R,⟨q1,q2⟩,⟨q3,q4⟩,q5,q6,q7⟩:=y217 a x O ((zx a 50000).2 O) O;have hQ:=zja Q O;rw[zhs q1 q5]at hQ;have bq:bl (a/x)<=8192:=by have:=qc (qZ a x);omega
 have lq:(toL (a/x)).length <=10000:=(zx _ 10000).2 O;have h272:=y272 (toL x) (toL (a/x)) (zm _) (zm _) O O;rw[zk,zk]at h272;have hpv:val (zeq (max (toL x).length (toL (a/x)).length +1) (x+a/x))=x+a/x:=by
  refine xv _ _ ?_;have h1:=(qf x _).1 (Nat.le_max_left (toL x).length (toL (a/x)).length);have h2:=(qf (a/x) _).1 (Nat.le_max_right (toL x).length (toL (a/x)).length);rw[qR]at h1 h2;have e:(2:Nat)^32=4294967296:=rfl;rw[e]at h1 h2;rw[qQ];omega
 have h222:=y222 (zeq (max (toL x).length (toL (a/x)).length +1) (x+a/x)) 1 (zas _ _) (by rw[zab];omega) O;have hsv:=zzp (zas (max (toL x).length (toL (a/x)).length +1) (x+a/x)) 1;rw[hpv]at hsv;rw[hsv]at h222;generalize zeq (max (toL x).length (toL (a/x)).length +1) (x+a/x)=P at*;obtain⟨e1,e2⟩:=zez 1 (x+a/x);have hsl2:=zk7 (toL (x+a/x)) 1;have lxq:(toL (x+a/x)).length <=100000:=(zx _ 100000).2 (by
  have:bl (x+a/x)<=10001:=zi4 bx O;omega)
 have h216':=zja (zhw (toL (x+a/x)) 1) O;rw[zhs e2 e1,Nat.pow_one]at h216';generalize zhw (toL (x+a/x)) 1=S2 at*;obtain⟨y,hy⟩:∃y,y=(x+a/x)/2:=⟨_,rfl⟩;rw[<-hy]at h216';have hup:=zv6 x1 hy;have hend:=zs8 x1 hy;have ly:(toL y).length <=100000:=by
  have:bl y<=10001:=qP (qc O) (zi4 bx (O:bl (a/x)<=10000));exact(zx _ 100000).2 O
 have h177:=qie (toL y) (toL x) O O;rw[zdm]at h177;have h221:=qhn (toL x) O;rw[zf7 (zm x),zk]at h221;conv=>whnf
 refine gYn q7 ?_;refine gYn hQ ?_;refine gYn h272 ?_;refine gYn h222 ?_;refine gYn h216' ?_;refine gYn h177 ?_;refine brI (fun h4=>?_) (fun h4=>?_)
 .have h4:uf y x≥0:=Z0 h4;have hxy:x<=y:=qG.1 fun h=>by unfold uf at h4;rw[Z4 h]at h4;omega
  have hs:=zjr (hend hxy) x3;have hbx:bl x<=8192:=by
   have h5:=hend hxy;have h6:x<=x*x:=Nat.le_mul_of_pos_left x x1;have:=qc (qP h6 h5);omega
  rw[Z5 O]at h221;rw[hs];conv=>whnf
  refine gYn h221 ?_;exact⟨lr rfl,lh0⟩
 .have h4:¬uf y x≥0:=Z1 h4;have hxy:y<x:=Nat.not_le.1 fun h=>h4 (by unfold uf;rw[Z5 O];split<;>decide)
  have hy0:0<y:=by
   refine qJ fun e=>?_
   rw[e]at hup;omega
  conv=>whnf
  refine⟨y,⟨hy0,O,hup⟩,hxy,?_⟩;exact KZ0
