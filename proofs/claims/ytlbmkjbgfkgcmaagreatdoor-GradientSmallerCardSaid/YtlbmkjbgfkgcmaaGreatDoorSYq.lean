/- Natural numbers: division. -/
import Derived.Test.YtlbmkjbgfkgcmaaGreatDoorSYp
set_option linter.all false
open Int renaming toNat_natCast->q9,toNat_zero->w4
open List renaming mem_of_getElem?->q0,getElem?_set_ne->qA,length_replicate->qE,length_set->qH,length_append->qK,length_eq_zero_iff->qQ,take_length->w1,any_cons->w6,any_nil->w7
open Nat renaming two_pow_pos->qB,mul_comm->qC,add_zero->qD,pow_le_pow_right->qG,mul_lt_mul_of_pos_right->qI,not_lt->qJ,lt_of_le_of_lt->qL,pos_of_ne_zero->qM,mul_assoc->qN,div_eq_of_lt->qO,mod_eq_of_lt->qP,mul_zero->qR,le_trans->qS,pow_succ->qT,pow_mul->qU,le_refl->qV,mul_le_mul_right->qW,pow_add->qX,lt_of_lt_of_le->qY,mod_lt->qZ,mod_add_div->w2,div_le_self->w3,mul_le_mul->w5
open Option renaming getD_some->qF
open Go.IntKind renaming i64->w8,u32->w9
namespace Go.Proofs.YtlbmkjbgfkgcmaaGreatDoor
open Go Go.Sx
set_option maxRecDepth 100000
set_option maxHeartbeats 8000000
theorem y217c(a b:Nat)(hab:b<=a)(ha:(toL a).length <=50000)(hb2:2<=(toL b).length):
 ∃Q R:List Int,(LB Q/\LB R)/\(Q.length<=200000/\R.length<=200000)/\val Q=a/b/\val R=a % b/\Fn 275 [] [.sl .u32 (toL a),.sl .u32 (toL b)] (.tup [.sl .u32 Q,.sl .u32 R]) []:=by
 have hlb:(toL b).length <=(toL a).length :=qJ.1 fun h=>by have:=zoi h;omega
 have hxa:=zg8 (toL a) O;have hxb:=zg8 (toL b) O;rw[qg]at hxa hxb;have h177:=qcn (toL a) (toL b) O O;rw[zcd]at h177;have ho:¬ul a b<0:=by unfold ul;split;omega;split<;>decide
 obtain⟨z,hz⟩:∃z,(toL b).getLast? =some z:=by
  cases h:(toL b).getLast? with
  |none=>rw[List.getLast?_eq_none_iff]at h;rw[h]at hb2;simp at hb2
  |some z=>exact⟨z,rfl⟩
 have hzb:=zn b z (List.mem_of_getLast? hz);have hlast:=zfm b;rw[hz]at hlast;simp only at hlast;rw[zd3 O]at hlast;have hz32:bl z.toNat<=32:=wq.2 (by show z.toNat<4294967296;omega);have hz1:1<=bl z.toNat:=by
  have h:=(qb b ((toL b).length -1));have:¬bl b<=32*((toL b).length -1):=fun hc=>by have:=h.2 hc;omega
  omega
 obtain⟨s,hs⟩:∃s:Nat,(32:Int)-(bl z.toNat:Int)=(s:Int):=⟨32-bl z.toNat,O⟩;have h257:=y257 z.toNat O;rw[hs,show((z.toNat:Nat):Int)=z by omega]at h257;have hb0:b≠0:=fun e=>by subst e;simp[jf]at hb2
 have hbs:bl (b*2^s)=32*(toL b).length :=by rw[zu b s hb0];omega
 have hvl:(toL (b*2^s)).length =(toL b).length :=by
  have h1:=(qb (b*2^s) (toL b).length).2 O;have h2:¬(toL (b*2^s)).length <=(toL b).length -1:=fun h=>by have:=(qb _ _).1 h;omega
  omega
 have hu:=qcm (toL a) s (zn a) O O;have hw:=qcm (toL b) s (zn b) O O;obtain⟨uv,uL⟩:=zbf s a;obtain⟨vv,vL⟩:=zbf s b;have ulen:(zf0 (toL a) s).length =(toL a).length +1:=by unfold zf0;rw[qg,qK,qE,zbg];omega
 have wlen:(zf0 (toL b) s).length =(toL b).length +1:=by unfold zf0;rw[qg,qK,qE,zbg];omega
 have hxw:=zg8 (zf0 (toL b) s) O;rw[yi vL,vv]at hxw;generalize zf0 (toL a) s=u0 at hu uv uL ulen;generalize zf0 (toL b) s=w0 at hw vv vL wlen hxw;have hvv:=zj (b*2^s);have hvL:=zn (b*2^s);generalize toL (b*2^s)=v at hvl hxw hvv hvL;have hn2:2<=v.length:=O;have hV:4294967296^(v.length-1)<=val v:=by
  rw[hvv];refine qJ.1 fun hc=>?_
  have h1:b*2^s<2^(32*(v.length-1)):=by rw[qU];exact hc
  have:=wq.2 h1;omega
 have hV0:0<val v:=qY (Nat.pow_pos OA) hV;have hU0:val u0<val v*4294967296^(u0.length-v.length):=by
  rw[uv,hvv,qN,qC (2^s),<-qN];refine qI ?_ (qB s);have h1:=(jc a (toL a).length).1 (qV _);have h2:2^(32*((toL b).length -1))<=b:=qJ.1 fun hc=>by
   have:=(jc b ((toL b).length -1)).2 hc;omega
  rw[qU]at h1 h2;have h1:a<4294967296^(toL a).length :=h1;have h2:4294967296^((toL b).length -1)<=b:=h2;refine qY h1 ?_;rw[<-zrx 4294967296 ((toL b).length -1) (u0.length-v.length) (toL a).length O];exact qW _ h2
 have hm:v.length<=u0.length:=O;have hy222:=y222 (zc3 v.length (a % b*2^s)) s (xf _ _) (by rw[yt];omega) O;refine⟨zc3 (u0.length-v.length) (a/b),zfz (zc3 v.length (a % b*2^s)) s,?_,?_,?_,?_,?_⟩
 rotate_left 4
 refine fnT qeo hmx Tryz.func275 rfl rfl (ex:= []) ?_;conv=>whnf
 refine gYn hxa ?_;refine gYn hxb ?_;refine gYn h177 ?_;refine brI (fun h1=>?_) (fun h1=>?_)
 .exact absurd (Z0 h1) ho
 conv=>whnf
 refine brI (fun h2=>?_) (fun h2=>?_)
 .have h2:((toL b).length :Int)=1:=by have h2:(((toL b).length :Int)==1)=true:=h2;simpa using h2
  omega
 conv=>whnf
 rw[wI (x:=((toL b).length :Int)-1) O];refine⟨⟨O,O⟩,fun(y:Int)hy=>?_⟩;have hy:(toL b).getLast? =some y:=by
  have hy:(toL b)[(((toL b).length :Int)-1).toNat]? =some y:=hy;rw[List.getLast?_eq_getElem?,<-hy];congr 1;omega
 obtain rfl:y=z:=by rw[hz]at hy;exact(Option.some.inj hy).symm
 conv=>whnf
 refine gYn h257 ?_;refine⟨[],[.buf 101 .u32 u0],.own 2000000,hu,?_⟩;conv=>whnf
 refine⟨[],[.buf 101 .u32 w0],.own 2000000,hw,?_⟩;conv=>whnf
 refine gYn hxw ?_;refine⟨Unit,fun _=>True,fun _=> [(9,.own 51)],fun _=> [(51,.buf 101 .u32 u0)],fun _=>0,(),trivial,?_,fun x hx=>?_⟩
 .exact KZ0
 refine gYe ?_;refine brI (fun h3=>?_) (fun h3=>?_)
 .have h3:(u0.length:Int)<=(toL a).length :=Z0 h3;omega
 conv=>whnf
 rw[wI (x:=(u0.length:Int)-(v.length:Int)) O];refine⟨⟨O,O,O⟩,?_⟩;conv=>whnf
 have hc1:((u0.length:Int)-(v.length:Int)).toNat =u0.length-v.length:=O;obtain⟨m,hm2⟩:∃m,u0.length-v.length=m:=⟨_,rfl⟩;rw[hm2]at hU0 hc1⊢;rw[wI (x:=(u0.length:Int)-(v.length:Int)) O,wI (x:=(u0.length:Int)-(v.length:Int)-1) O];refine⟨Int×List Int×List Int,fun x=>(-1<=x.1/\x.1<m)/\(LB x.2.1/\x.2.1.length=u0.length)/\(LB x.2.2/\x.2.2.length=m)/\(∀i:Nat,(i:Int)<=x.1->x.2.2[i]?.getD 0=0)/\val x.2.2*val v+val x.2.1=a*2^s/\val x.2.1<val v*4294967296^(x.1+1).toNat,fun x=> [(13,.int .i64 x.1)],fun x=> [(51,.buf 101 .u32 x.2.1),(70,.buf 101 .u32 x.2.2)],fun x=>(x.1+1).toNat,((u0.length:Int)-(v.length:Int)-1,u0,List.replicate m 0),?_,?_,fun x hx=>?_⟩
 .refine⟨⟨OD,OD⟩,⟨uL,rfl⟩,⟨fun x hx=>by rw[List.eq_of_mem_replicate hx];omega,OC⟩,fun j _=>by simp only[List.getElem?_replicate];split<;>rfl,?_,?_⟩
  .simp only;rw[zd8,Nat.zero_mul,Nat.zero_add];exact uv
  .simp only;rw[show((u0.length:Int)-(v.length:Int)-1+1).toNat =m by omega];exact hU0
 ·((conv=>whnf);refine And.intro ?_ ?_;repeat' first|refine lc ?_ ?_|refine lh1 ?_ ?_|refine bc0 ?_|exact KXZ|refine lg0 ?_|refine lt0 ?_)
  .exact bb0 (by rw[hc1])
 refine gYe ?_;obtain⟨j,u,q⟩:=x;obtain⟨⟨i1,i2⟩,⟨i3,i4⟩,⟨i5,i6⟩,i7,i8,i9⟩:=hx;simp only at i1 i2 i3 i4 i5 i6 i7 i8 i9;refine brI (fun h4=>?_) (fun h4=>?_)
 .have h4:0<=j:=Z0 h4;obtain⟨j,rfl⟩:=Int.eq_ofNat_of_zero_le h4;rw[show((j:Int)+1).toNat =j+1 by omega]at i9;obtain⟨hz,hv1,htop,hgs⟩:=qa7 i3 hvL hn2 O hV i9;have w0':w8.wrap ((j:Int)+(v.length:Int))=((j+v.length:Nat):Int):=by rw[wI O];omega
  have w1':w8.wrap (((j+v.length:Nat):Int)-1)=((j+v.length-1:Nat):Int):=by rw[wI O];omega
  have w2':w8.wrap (((j+v.length:Nat):Int)-2)=((j+v.length-2:Nat):Int):=by rw[wI O];omega
  have w3':w8.wrap ((v.length:Int)-1)=((v.length-1:Nat):Int):=by rw[wI O];omega
  have w4':w8.wrap ((v.length:Int)-2)=((v.length-2:Nat):Int):=by rw[wI O];omega
  have ub:=i3.at;have vb:=hvL.at;conv=>whnf
  simp only[w0'];refine⟨⟨O,O⟩,?_⟩;conv=>whnf
  refine⟨by simp only[q9];omega,fun(x2:Int)hx2=>?_⟩;have hx2:u[j+v.length]? =some x2:=hx2;conv=>whnf
  simp only[w0',w1'];refine⟨⟨O,O⟩,?_⟩;conv=>whnf
  refine⟨by simp only[q9];omega,fun(x1:Int)hx1=>?_⟩;have hx1:u[j+v.length-1]? =some x1:=hx1;conv=>whnf
  simp only[w0',w2'];refine⟨⟨O,O⟩,?_⟩;conv=>whnf
  refine⟨by simp only[q9];omega,fun(x0:Int)hx0=>?_⟩;have hx0:u[j+v.length-2]? =some x0:=hx0;conv=>whnf
  simp only[w3'];refine⟨⟨O,O⟩,fun(y1:Int)hy1=>?_⟩;have hy1:v[v.length-1]? =some y1:=hy1;conv=>whnf
  simp only[w4'];refine⟨⟨O,O⟩,fun(y0:Int)hy0=>?_⟩;have hy0:v[v.length-2]? =some y0:=hy0;rw[hx2,hx1,hx0,hy1,hy0]at hgs;rw[hx2,hy1]at htop;rw[hy1]at hv1;simp only[qF]at hgs htop hv1;have bx2:=i3 x2 (q0 hx2);have bx1:=i3 x1 (q0 hx1);have bx0:=i3 x0 (q0 hx0);have by1:=hvL y1 (q0 hy1);have by0:=hvL y0 (q0 hy0);have h259:=y259 x2.toNat x1.toNat x0.toNat y1.toNat y0.toNat hv1 O htop O O O;rw[show((x2.toNat:Nat):Int)=x2 by omega,show((x1.toNat:Nat):Int)=x1 by omega,show((x0.toNat:Nat):Int)=x0 by omega,show((y1.toNat:Nat):Int)=y1 by omega,show((y0.toNat:Nat):Int)=y0 by omega]at h259;obtain⟨g1,g2,g3⟩:=hgs _ rfl;generalize gsN x2.toNat x1.toNat x0.toNat y1.toNat y0.toNat=x at h259 g1 g2 g3;conv=>whnf
  refine gYn h259 ?_;refine gYd ?_;have w5':w8.wrap (((j+v.length:Nat):Int)+1)=((j+v.length+1:Nat):Int):=by rw[wI O];omega
  have w6':((j+v.length+1:Nat):Int).toNat -((j:Int)).toNat =v.length+1:=O;simp only[w0',w5',w6'];refine⟨⟨O,O,O⟩,?_⟩;conv=>whnf
  have h260:=y260 u v j x i3 hvL O O g1 hz;refine cbI [.buf 101 .u32 (tkN u j x v)] _ (h260.sw [(51,1000001)] rfl) (fun h5=>?_) (fun h5=>?_)
  rotate_left
  .have h5:=Z3 h5;obtain⟨n1,n2⟩:=dv_no i8 h5 g2;have hval:=tk_no i3 h5;have hlen:=zqu u v j x;have hLB:=zys u v j x;rw[<-hval]at n1 n2;generalize tkN u j x v=u1 at hval hlen hLB n1 n2;conv=>whnf
   refine⟨⟨O,O⟩,?_⟩;conv=>whnf
   refine⟨by show j<q.length;omega,?_⟩;conv=>whnf
   have hs:=kd q j (x:Int) O;rw[i7 j O,w4,qR,qD,q9]at hs;refine⟨((j:Int)-1,u1,q.set j (x:Int)),⟨⟨OD,OD⟩,⟨hLB,OD⟩,⟨i5.set O,by simp only[qH];exact i6⟩,fun k hk=>by simp only at hk⊢;rw[qA O];exact i7 k O,?_,?_⟩,by show((j:Int)-1+1).toNat <((j:Int)+1).toNat;omega,?_⟩
   .show val (q.set j (x:Int))*val v+val u1=a*2^s;rw[hs];exact n1
   .show val u1<val v*4294967296^((j:Int)-1+1).toNat;rw[show((j:Int)-1+1).toNat =j by omega];exact n2
   ((conv=>whnf);refine And.intro ?_ ?_;repeat' first|refine lc ?_ ?_|refine lh1 ?_ ?_|refine bc0 ?_|exact KXZ|refine lg0 ?_|refine lt0 ?_)
   .exact ai0 (by rw[wI O])
   .exact bb0 (congrArg (fun z=>q.set j z) (zyz g1))
  .have h5:=Z0 h5;obtain⟨n0,n1,n2⟩:=qe2 i8 h5 g3;have hQ:4294967296^j*val v<=4294967296^(j+v.length+1):=by
    have h1:=ue hvL v.length (qV _);rw[w1]at h1;rw[<-zrx 4294967296 j (v.length+1) (j+v.length+1) O];refine Nat.mul_le_mul_left _ ?_;exact qS (Nat.le_of_lt h1) (qG OA O)
   have hDD:4294967296^j*(x*val v)<=val u+4294967296^j*val v:=by
    have e:4294967296^j*(x*val v)=x*(val v*4294967296^j):=by rw[qC,qN]
    rw[e,qC (4294967296^j)];exact g3
   obtain⟨tv,tz⟩:=qc0 (u:=u) (v:=v) (j:=j) (x:=x) O h5 (qS hDD (Nat.add_le_add_left hQ _));have hlen:=zqu u v j x;have hLB:=zys u v j x;generalize tkN u j x v=u1 at tv tz hlen hLB;conv=>whnf
   refine⟨Nat×List Int×Nat,fun x=>(x.1<=v.length/\x.2.2<=1)/\(LB x.2.1/\x.2.1.length=u0.length)/\(∀k,k<j\/j+x.1<=k->x.2.1[k]? =u1[k]?)/\val x.2.1+4294967296^(j+x.1)*x.2.2=val u1+4294967296^j*val (v.take x.1),fun x=> [(84,.any),(91,.any),(98,.any),(125,.int .i64 x.1),(15,.int .u32 x.2.2)],fun x=> [(51,.buf 101 .u32 x.2.1)],fun x=>v.length-x.1,(0,u1,0),?_,?_,fun t ht=>?_⟩
   .exact⟨⟨OC,OC⟩,⟨hLB,OD⟩,fun _ _=>rfl,by simp[val]⟩
   .exact KZ0
   refine gYe ?_;obtain⟨i,w,c⟩:=t;obtain⟨⟨a1,a2⟩,⟨a3,a4⟩,a5,a6⟩:=ht;simp only at a1 a2 a3 a4 a5 a6;refine brI (fun h6=>?_) (fun h6=>?_)
   .have hi:i<v.length:=by simp only[Z4]at h6;omega
    have wi:w8.wrap ((j:Int)+(i:Int))=((j+i:Nat):Int):=by rw[wI O];omega
    conv=>whnf
    refine⟨⟨O,OD⟩,fun(yv:Int)hyv=>?_⟩;have hyv:v[i]? =some yv:=by simpa using hyv
    have hyb:=hvL yv (q0 hyv);have tvv:=wv v hi;rw[hyv,qF]at tvv;conv=>whnf
    simp only[wi];refine⟨⟨O,O⟩,?_⟩;conv=>whnf
    refine⟨by show j+i<w.length;omega,fun(d:Int)hd=>?_⟩;have hd:w[j+i]? =some d:=hd;have hdb:=a3 d (q0 hd);have h261:=y261 d.toNat yv.toNat c O O O;rw[show((d.toNat:Nat):Int)=d by omega,show((yv.toNat:Nat):Int)=yv by omega]at h261;have hmd:=w2 (d.toNat+yv.toNat+c) 4294967296;have hml:=qZ (d.toNat+yv.toNat+c) (OA:0<4294967296);have hql:(d.toNat+yv.toNat+c)/4294967296<=1:=O;have hs:=kd w (j+i) (((d.toNat+yv.toNat+c) % 4294967296:Nat):Int) O;rw[hd,qF,q9]at hs;have key:=zyo (y:=yv.toNat) (Bi:=4294967296^i) hs a6 hmd.symm (qX _ _ _);rw[<-tvv,<-qT]at key;generalize (d.toNat+yv.toNat+c)/4294967296=c1 at*;generalize (d.toNat+yv.toNat+c) % 4294967296=r at*;conv=>whnf
    refine gYn h261 ?_;simp only[wi];refine⟨⟨O,O⟩,?_⟩;conv=>whnf
    refine⟨by show j+i<w.length;omega,?_⟩;conv=>whnf
    refine⟨(i+1,w.set (j+i) (r:Int),c1),⟨⟨OD,OD⟩,⟨a3.set O,by simp only[qH];exact a4⟩,fun k hk=>by simp only at hk⊢;rw[qA O];exact a5 k O,key⟩,by show v.length-(i+1)<v.length-i;omega,?_⟩
    ((conv=>whnf);refine And.intro ?_ ?_;repeat' first|refine lc ?_ ?_|refine lh1 ?_ ?_|refine bc0 ?_|exact KXZ|refine lg0 ?_|refine lt0 ?_)
    .exact ai0 (by rw[wI O];simp only;omega)
   .have hi:i=v.length:=by simp only[Z5]at h6;omega
    subst hi;rw[w1]at a6;conv=>whnf
    simp only[w0'];refine⟨⟨O,O⟩,?_⟩;conv=>whnf
    refine⟨by show j+v.length<w.length;omega,fun(d:Int)hd=>?_⟩;have hd:w[j+v.length]? =some d:=hd;have hdb:=a3 d (q0 hd);have hmd:=w2 (d.toNat+c) 4294967296;have hml:=qZ (d.toNat+c) (OA:0<4294967296);have hs:=kd w (j+v.length) (((d.toNat+c) % 4294967296:Nat):Int) O;rw[hd,qF,q9]at hs;have ew:w9.wrap (d+(c:Int))=(((d.toNat+c) % 4294967296:Nat):Int):=by simp[IntKind.wrap,IntKind.signed,IntKind.bits];omega
    have key:=zyo (y:=0) (Bi:=4294967296^v.length) hs a6 (by rw[qD];exact hmd.symm) (qX _ _ _);rw[qR,qD,<-qT]at key;have hLB2:LB (w.set (j+v.length) (((d.toNat+c) % 4294967296:Nat):Int)):=a3.set O;have hz2:Zr (j+v.length+1) (w.set (j+v.length) (((d.toNat+c) % 4294967296:Nat):Int)):=fun k hk=>by
     rw[qA O,a5 k O];exact tz k hk
    have hlt2:=zue hLB2 hz2;have hl2:(w.set (j+v.length) (((d.toNat+c) % 4294967296:Nat):Int)).length =u0.length:=by rw[qH];exact a4
    have hq1:(d.toNat+c)/4294967296<=1:=O;generalize (d.toNat+c)/4294967296=o at*;generalize (d.toNat+c) % 4294967296=r at*;have hval2:val (w.set (j+v.length) (r:Int))=val u+4294967296^j*val v-4294967296^j*(x*val v):=by
     have e:(j+v.length).succ =j+v.length+1:=rfl;rw[e]at key;generalize val (w.set (j+v.length) (r:Int))=W at*;generalize 4294967296^(j+v.length+1)=Q at*;generalize 4294967296^j*val v=D1 at*;generalize 4294967296^j*(x*val v)=D2 at*;rcases(by omega:o=0\/o=1)with e|e
     .subst e;omega
     .subst e;omega
    rw[<-hval2]at n1 n2;have e7:w9.wrap (IntKind.u64.wrap ((x:Int)-1))=((x-1:Nat):Int):=by
     rw[wU (x:=(x:Int)-1) O,zpg O];omega
    conv=>whnf
    simp only[w0'];refine⟨⟨O,O⟩,?_⟩;conv=>whnf
    refine⟨by show j+v.length<w.length;omega,?_⟩;conv=>whnf
    refine⟨⟨O,O⟩,?_⟩;conv=>whnf
    refine⟨by show j<q.length;omega,?_⟩;conv=>whnf
    have hs3:=kd q j ((x-1:Nat):Int) O;rw[i7 j O,w4,qR,qD,q9]at hs3;refine⟨((j:Int)-1,w.set (j+v.length) (r:Int),q.set j ((x-1:Nat):Int)),⟨⟨OD,OD⟩,⟨hLB2,hl2⟩,⟨i5.set O,by simp only[qH];exact i6⟩,fun k hk=>by simp only at hk⊢;rw[qA O];exact i7 k O,?_,?_⟩,by show((j:Int)-1+1).toNat <((j:Int)+1).toNat;omega,?_⟩
    .show val (q.set j ((x-1:Nat):Int))*val v+val (w.set (j+v.length) (r:Int))=a*2^s;rw[hs3];exact n1
    .show val (w.set (j+v.length) (r:Int))<val v*4294967296^((j:Int)-1+1).toNat;rw[show((j:Int)-1+1).toNat =j by omega];exact n2
    ((conv=>whnf);refine And.intro ?_ ?_;repeat' first|refine lc ?_ ?_|refine lh1 ?_ ?_|refine bc0 ?_|exact KXZ|refine lg0 ?_|refine lt0 ?_)
    .exact ai0 (by rw[wI O])
    .exact bb0 (congrArg (fun z=>w.set (j+v.length) z) ew)
    .exact bb0 (congrArg (fun z=>q.set j z) e7)
 .have h4:¬0<=j:=Z3 h4;rw[show(j+1).toNat =0 by omega,Nat.pow_zero,Nat.mul_one]at i9;have f1:val q=a/b:=by
   have h:=congrArg (· /val v) i8;rw[qC,Nat.mul_add_div hV0,qO i9,qD,hvv,Nat.mul_div_mul_right _ _ (qB s)]at h;exact h
  have f2:val u=a % b*2^s:=by
   have h:=congrArg (· % val v) i8;rw[qC,Nat.mul_add_mod,qP i9,hvv,Nat.mul_mod_mul_right]at h;exact h
  have f3:q=zc3 m (a/b):=by
   have h:=zax i5;rw[i6,f1]at h;exact h.symm
  have f4:((u.take ((v.length:Nat):Int).toNat).drop (0:Int).toNat)=zc3 v.length (a % b*2^s):=by
   show(u.take v.length).drop 0=_;rw[List.drop_zero];have hT:LB (u.take v.length):=fun z hz=>i3 z (List.mem_of_mem_take hz)
   have h1:=zc8 u v.length O;have h2:=zn1 hvL;have h3:val u=val (u.take v.length):=by
    generalize val (u.drop v.length)=dd at h1
    cases dd with
    |zero=>rw[qR,qD]at h1;exact h1
    |succ dd=>rw[Nat.mul_succ]at h1;omega
   have h:=zax hT;rw[<-h3,f2,List.length_take,Nat.min_eq_left O]at h;exact h.symm
  have f5:Fn 273 [] [.sl .u32 ((u.take ((v.length:Nat):Int).toNat).drop (0:Int).toNat),.int .i64 s] (.sl .u32 (zfz (zc3 v.length (a % b*2^s)) s)) []:=by rw[f4];exact hy222
  conv=>whnf
  refine⟨⟨O,O,OD⟩,?_⟩;conv=>whnf
  refine gYn f5 ?_;refine⟨lt0 (lc (ju f3) (lc (lr rfl) ln0)),lh0⟩
 .exact⟨xf _ _,LB.shr _ _⟩
 .refine⟨by rw[yt];omega,?_⟩;have:=zi0 (zc3 v.length (a % b*2^s)) s;rw[yt]at this;omega
 .refine yp _ _ ?_;have h2:=zn1 hvL;have h3:a/b*(b*2^s)<=a*2^s:=by rw[<-qN];exact qW _ (Nat.div_mul_le_self a b)
  rw[uv,hvv]at hU0;have h4:=qL h3 hU0;rw[qC (b*2^s)]at h4;exact Nat.lt_of_mul_lt_mul_right h4
 .have h1:a % b*2^s<4294967296^v.length:=by
   have h2:=zn1 hvL;rw[hvv]at h2;exact Nat.lt_trans (qI (qZ a (qM hb0)) (qB s)) h2
  have e:zfz (zc3 v.length (a % b*2^s)) s=zfz (toL (a % b*2^s)) s:=by
   unfold zfz;rw[yi (xf _ _),yp _ _ h1,qg]
  rw[e,(zdd s _).1,Nat.mul_div_cancel _ (qB s)]
theorem zvg{l:List Int}(h:LB l)(n:Nat):zfz l n=zfz (toL (val l)) n:=by
 unfold zfz;rw[yi h,qg]
theorem y217(a b:Nat)(hb:b≠0)(ha:(toL a).length <=50000)(hbl:(toL b).length <=50000):
 ∃Q R:List Int,(LB Q/\LB R)/\(Q.length<=200000/\R.length<=200000)/\val Q=a/b/\val R=a % b/\Fn 275 [] [.sl .u32 (toL a),.sl .u32 (toL b)] (.tup [.sl .u32 Q,.sl .u32 R]) []:=by
 have hxa:=zg8 (toL a) O;have hxb:=zg8 (toL b) O;rw[qg]at hxa hxb;have h177:=qcn (toL a) (toL b) O O;rw[zcd]at h177;by_cases hab:a<b
 .have ho:ul a b<0:=by unfold ul;rw[Z6 hab];decide
  have h174:=y174 (toL a) O;refine⟨[],toL a,⟨(fun _ h=>nomatch h),zn a⟩,⟨OC,O⟩,by rw[qO hab];rfl,by rw[qP hab,zj],?_⟩;refine fnT qeo hmx Tryz.func275 rfl rfl (ex:= []) ?_;conv=>whnf
  refine gYn hxa ?_;refine gYn hxb ?_;refine gYn h177 ?_;refine brI (fun h1=>?_) (fun h1=>?_)
  rotate_left
  .exact absurd ho (Z3 h1)
  conv=>whnf
  refine gYn h174 ?_;exact⟨lt0 (lc (li0 rfl) (lc (lr rfl) ln0)),lh0⟩
 .by_cases hl:(toL b).length =1
  .have ho:¬ul a b<0:=by unfold ul;rw[Z7 hab];split<;>decide
   have hb32:b<4294967296:=by
    have:=(jc b 1).1 O;exact this
   have hb1:toL b= [(b:Int)]:=by
    rw[xo hb,qO hb32,qP hb32,jf]
   have h256:=y256 (toL a) b (zn a) O O hb32;rw[zj]at h256;have hmd:=qZ a (qM hb);rw[hb1]at hxb h177⊢;refine⟨zc3 (toL a).length (a/b),[((a % b:Nat):Int)],⟨xf _ _,fun z hz=>by rw[List.mem_singleton.1 hz];omega⟩,⟨by rw[yt];omega,OC⟩,?_,by rw[qu,q9];simp[val],?_⟩
   .refine yp _ _ ?_;have h1:=(jc a (toL a).length).1 (qV _);rw[qU]at h1;exact qL (w3 a b) h1
   refine fnT qeo hmx Tryz.func275 rfl rfl (ex:= []) ?_;conv=>whnf
   refine gYn hxa ?_;refine gYn hxb ?_;refine gYn h177 ?_;refine brI (fun h1=>?_) (fun h1=>?_)
   .exact absurd (Z0 h1) ho
   conv=>whnf
   refine⟨⟨O,OC⟩,fun(y:Int)hy=>?_⟩;obtain rfl:((b:Nat):Int)=y:=by simpa using hy
   conv=>whnf
   refine gYn h256 ?_;exact⟨lr rfl,lh0⟩
  .have h1:(toL b).length ≠0:=fun e=>hb (by have:=congrArg val (qQ.1 e);rw[zj]at this;exact this)
   exact y217c a b O ha O
theorem zfw{l:List Int}{n:Nat}(h:LB l)(hv:val l=n):trL l=toL n:=by rw[yi h,hv]
theorem y166(a b:Nat)(ha:bl a<=100000)(hb:bl b<=100000):Fn 229 [] [.sl .u32 (toL a),.sl .u32 (toL b)]
 (if 8192<bl a\/8192<bl b then .tup [.sl .u32 [],.sl .u32 [],.int .i64 9]else if b=0 then .tup [.sl .u32 [],.sl .u32 [],.int .i64 10]else .tup [.sl .u32 (toL (a/b)),.sl .u32 (toL (a % b)),.int .i64 0]) []:=by
 have la:(toL a).length <=100000:=(qb a 100000).2 O;have lb:(toL b).length <=100000:=(qb b 100000).2 O;have h215:=zxm [toL a,toL b] OC;have hlg:([toL a,toL b].any lgB)=decide (8192<bl a\/8192<bl b):=by
  simp only[w6,w7,Bool.or_false,lgB,ze2,Bool.decide_or]
 rw[hlg]at h215;have hxb:=zg8 (toL b) O;rw[qg]at hxb;by_cases h1:8192<bl a\/8192<bl b
 .rw[Z6 h1];rw[Z8 h1]at h215;refine fY4 Tryz.func229 rfl ?_;refine gYn h215 ?_;exact⟨lt0 (lc (li0 rfl) (lc (li0 rfl) (lc (lr rfl) ln0))),lh0⟩
 rw[Z7 h1];rw[Z9 h1]at h215;by_cases h2:b=0
 .rw[Z6 h2];subst h2;rw[jf]at*;refine fY4 Tryz.func229 rfl ?_;refine gYn h215 ?_;refine gYn hxb ?_;exact⟨lt0 (lc (li0 rfl) (lc (li0 rfl) (lc (lr rfl) ln0))),lh0⟩
 rw[Z7 h2];obtain⟨Q,R,⟨q1,q2⟩,⟨q3,q4⟩,q5,q6,q7⟩:=y217 a b h2 ((qb a 50000).2 O) ((qb b 50000).2 O);have hQ:=zg8 Q O;have hR:=zg8 R O;rw[zfw q1 q5]at hQ;rw[zfw q2 q6]at hR;have k1:=ke Q;have k2:=ke R;rw[zfw q1 q5]at k1;rw[zfw q2 q6]at k2;have h173:=y173 (toL (a/b)) O;have h173':=y173 (toL (a % b)) O;refine fY4 Tryz.func229 rfl ?_;refine gYn h215 ?_;refine gYn hxb ?_;refine brI (fun h3=>?_) (fun h3=>?_)
 .have h3:(toL b).length =0:=by have h3:(((toL b).length :Int)==0)=true:=h3;rw[beq_iff_eq]at h3;omega
  exact absurd (by have:=congrArg val (qQ.1 h3);rw[zj]at this;exact this) h2
 conv=>whnf
 refine gYn q7 ?_;refine gYn hQ ?_;refine gYn h173 ?_;refine gYn hR ?_;refine gYn h173' ?_;exact⟨lr rfl,lh0⟩
theorem zx{a b:Nat}(h:a<=b):bl a<=bl b:=wq.2 (qL h (zcs b))
theorem zg4{x y k:Nat}(hx:bl x<=k)(hy:bl y<=k):bl (x+y)<=k+1:=by
 have h1:=wq.1 hx;have h2:=wq.1 hy;exact wq.2 (by rw[qT];omega)
theorem bl_sq{s n k:Nat}(h:s*s<=n)(hn:bl n<=k+k):bl s<=k:=by
 refine qJ.1 fun hc=>?_
 have h2:2^k<=s:=qJ.1 fun c=>by have:=wq.2 c;omega
 have h3:=w5 h2 h2;rw[<-qX]at h3;have h4:=zcs n;have h5:2^bl n<=2^(k+k):=qG OA hn;omega
theorem y246(a:Nat)(ha:bl a<=100000):Fn 293 [] [.sl .u32 (toL a)] (dnV (if 8192<bl a then([],9)else(toL (sqN a),0))) []:=by
 have la:(toL a).length <=100000:=(qb a 100000).2 O;have h215:=zxm [toL a] OC;have hlg:([toL a].any lgB)=decide (8192<bl a):=by
  simp only[w6,w7,Bool.or_false,lgB,ze2]
 rw[hlg]at h215;have h169:=y169 (toL a) (zn a) O;rw[zg3 (zn a),zj]at h169;by_cases h1:8192<bl a
 .rw[Z6 h1];rw[Z8 h1]at h215;refine fY4 Tryz.func293 rfl ?_;refine gYn h215 ?_;exact⟨leN,lh0⟩
 rw[Z7 h1];rw[Z9 h1]at h215;by_cases h2:a=0
 .subst h2;rw[show sqN 0=0 from rfl,jf]at*;refine fY4 Tryz.func293 rfl ?_;refine gYn h215 ?_;refine gYn h169 ?_;exact⟨leN,lh0⟩
 have hb0:bl a≠0:=fun e=>h2 (uq.1 e)
 obtain⟨k,hk⟩:∃k,(bl a+1)/2=k:=⟨_,rfl⟩;have h258:=y258 (toL 1) k (zn 1) OA O;obtain⟨s1,s2⟩:=zbf k 1;rw[Nat.one_mul]at s1;have hsl:(zf0 (toL 1) k).length <=100000:=by
  unfold zf0;rw[qK,qE,zbg];have:(trL (toL 1)).length <=1:=OA;omega
 have h216:=zg8 (zf0 (toL 1) k) O;rw[zfw s2 s1]at h216;generalize zf0 (toL 1) k=S at*;have h258:Fn 265 [] [.sl .u32 [1],.int .i64 k] (.sl .u32 S) []:=h258;have hx0:a<(2^k+1)*(2^k+1):=by
  have h3:=zcs a;have h4:2^bl a<=2^k*2^k:=by rw[<-qX];exact qG OA O
  have h5:2^k*2^k<=(2^k+1)*(2^k+1):=w5 O O;omega
 refine fY4 Tryz.func293 rfl ?_;refine gYn h215 ?_;refine gYn h169 ?_;refine brI (fun h3=>?_) (fun h3=>?_)
 .have h3:((bl a:Nat):Int)=0:=by simpa using h3
  omega
 conv=>whnf
 refine⟨OA,?_⟩;conv=>whnf
 rw[show w8.wrap ((w8.wrap (((bl a:Nat):Int)+1)).tdiv 2)=((k:Nat):Int) by
  rw[wI (x:=((bl a:Nat):Int)+1) O,show((bl a:Nat):Int)+1=((bl a+1:Nat):Int) by omega,show(2:Int)=((2:Nat):Int)from rfl,<-Int.ofNat_tdiv,hk,wI O]]
 refine gYn h258 ?_;refine gYn h216 ?_;refine⟨Nat,fun x=>0<x/\x<=2^k/\a<(x+1)*(x+1),fun x=> [(5,.sl .u32 (toL x))],fun _=> [],fun x=>x,2^k,⟨qB k,qV _,hx0⟩,?_,fun x hx=>?_⟩
 .exact KZ0
 refine gYe ?_;obtain⟨x1,x2,x3⟩:=hx;have bx:bl x<=10000:=by
  have:=zx x2;rw[(O:2^k=1*2^k),zu 1 k OA]at this;have:bl 1=1:=rfl;omega
 have lx:(toL x).length <=10000:=(qb x 10000).2 O;obtain⟨Q,R,⟨q1,q2⟩,⟨q3,q4⟩,q5,q6,q7⟩:=y217 a x O ((qb a 50000).2 O) O;have hQ:=zg8 Q O;rw[zfw q1 q5]at hQ;have bq:bl (a/x)<=8192:=by have:=zx (w3 a x);omega
 have lq:(toL (a/x)).length <=10000:=(qb _ 10000).2 O;have h272:=y272 (toL x) (toL (a/x)) (zn _) (zn _) O O;rw[zj,zj]at h272;have hpv:val (zc3 (max (toL x).length (toL (a/x)).length +1) (x+a/x))=x+a/x:=by
  refine yp _ _ ?_;have h1:=(jc x _).1 (Nat.le_max_left (toL x).length (toL (a/x)).length);have h2:=(jc (a/x) _).1 (Nat.le_max_right (toL x).length (toL (a/x)).length);rw[qU]at h1 h2;have e:(2:Nat)^32=4294967296:=rfl;rw[e]at h1 h2;rw[qT];omega
 have h222:=y222 (zc3 (max (toL x).length (toL (a/x)).length +1) (x+a/x)) 1 (xf _ _) (by rw[yt];omega) O;have hsv:=zvg (xf (max (toL x).length (toL (a/x)).length +1) (x+a/x)) 1;rw[hpv]at hsv;rw[hsv]at h222;generalize zc3 (max (toL x).length (toL (a/x)).length +1) (x+a/x)=P at*;obtain⟨e1,e2⟩:=zdd 1 (x+a/x);have hsl2:=zi0 (toL (x+a/x)) 1;have lxq:(toL (x+a/x)).length <=100000:=(qb _ 100000).2 (by
  have:bl (x+a/x)<=10001:=zg4 bx O;omega)
 have h216':=zg8 (zfz (toL (x+a/x)) 1) O;rw[zfw e2 e1,Nat.pow_one]at h216';generalize zfz (toL (x+a/x)) 1=S2 at*;obtain⟨y,hy⟩:∃y,y=(x+a/x)/2:=⟨_,rfl⟩;rw[<-hy]at h216';have hup:=zse x1 hy;have hend:=zpu x1 hy;have ly:(toL y).length <=100000:=by
  have:bl y<=10001:=qS (zx O) (zg4 bx (O:bl (a/x)<=10000));exact(qb _ 100000).2 O
 have h177:=qcn (toL y) (toL x) O O;rw[zcd]at h177;have h221:=qb1 (toL x) O;rw[zen (zn x),zj]at h221;conv=>whnf
 refine gYn q7 ?_;refine gYn hQ ?_;refine gYn h272 ?_;refine gYn h222 ?_;refine gYn h216' ?_;refine gYn h177 ?_;refine brI (fun h4=>?_) (fun h4=>?_)
 .have h4:ul y x≥0:=Z0 h4;have hxy:x<=y:=qJ.1 fun h=>by unfold ul at h4;rw[Z6 h]at h4;omega
  have hs:=zph (hend hxy) x3;have hbx:bl x<=8192:=by
   have h5:=hend hxy;have h6:x<=x*x:=Nat.le_mul_of_pos_left x x1;have:=zx (qS h6 h5);omega
  rw[Z7 O]at h221;rw[hs];conv=>whnf
  refine gYn h221 ?_;exact⟨lr rfl,lh0⟩
 .have h4:¬ul y x≥0:=Z3 h4;have hxy:y<x:=Nat.not_le.1 fun h=>h4 (by unfold ul;rw[Z7 O];split<;>decide)
  have hy0:0<y:=by
   refine qM fun e=>?_
   rw[e]at hup;omega
  conv=>whnf
  refine⟨y,⟨hy0,O,hup⟩,hxy,?_⟩;exact KZ0
