/- The reference's square root of natural numbers (layer 1, Sqrt): the walk. -/
import Derived.Test.YtlbmkjbgfkgcmaaGreatDoorTRa
import Derived.Test.YtlbmkjbgfkgcmaaGreatDoorTXi
set_option linter.all false
open And renaming intro->q1
open BitVec renaming ofInt->q4
open Int renaming toNat_natCast->q3,ofNat_tdiv->qZ,ofNat_tmod->w3,natAbs_natCast->wA
open List renaming length_nil->qA,length_take->qE,length_cons->qM,take_length->qP,getLast?_eq_getElem?->qS,getElem?_eq_getElem->qT,take_of_length_le->qX,take_append_drop->qY,mem_of_getElem?->w5
open Nat renaming two_pow_pos->q0,mod_eq_of_lt->q2,pow_succ->qB,pow_zero->qC,div_div_eq_div_mul->qD,mod_lt->qF,div_eq_of_eq_mul_right->qG,div_le_self->qH,zero_le->qI,pow_add->qJ,pow_le_pow_right->qK,div_eq_of_lt->qL,div_lt_of_lt_mul->qN,le_refl->qO,le_trans->qQ,lt_of_le_of_lt->qR,le_mul_of_pos_left->qU,mul_comm->qV,mul_zero->qW,pow_lt_pow_right->w0,div_pos->w4,div_one->w6,mul_one->w7,div_eq_of_lt_le->w8,mul_assoc->w9,lt_of_lt_of_le->we,div_mod_unique->wi,lt_or_eq_of_le->wn,mod_eq_sub_mod->ws,mul_left_comm->wB,mod_mul->wC,mod_one->wD,min_eq_left->wE,mul_eq_zero->wF,zero_mul->wG,zero_div->wH,mul_add->wJ,not_lt->wK
open Go.IntKind renaming i64->wL,u32->wM,u64->wN
namespace Go.Proofs.YtlbmkjbgfkgcmaaGreatDoor
open Go Go.Sx
set_option maxRecDepth 100000
set_option maxHeartbeats 8000000
structure SqI(v j r:Nat):Prop where
 lo:r*r<=v
 hi:v<(r+2^j)*(r+2^j)
theorem SqI.hit{v k r:Nat}(h:SqI v (k+1) r)(c:(r+2^k)*(r+2^k)<=v):SqI v k (r+2^k):=
 ⟨c,by have:=h.hi;rw[qB]at this;rw[(O:r+2^k+2^k=r+2^k*2)];exact this⟩
theorem SqI.miss{v k r:Nat}(h:SqI v (k+1) r)(c:¬(r+2^k)*(r+2^k)<=v):SqI v k r:=⟨h.lo,O⟩
theorem SqI.le{v j r:Nat}(h:SqI v j r):r<=v:=by
 rcases Nat.eq_zero_or_pos r with c|c
 .omega
 .exact qQ (qU r c) h.lo
theorem SqI.start(v:Nat):SqI v ((bl v+1)/2+1) 0:=by
 refine⟨qI _,?_⟩;rw[Nat.zero_add,<-qJ];exact we (zaq v) (qK OA O)
theorem SqI.stop{v r:Nat}(h:SqI v 0 r):sqN v=r:=zic h.lo (by have:=h.hi;rwa [qC]at this)
theorem zsv{x y:Nat}:kd x y<=0<->x<=y:=by
 unfold kd;split
 .constructor<;>intro<;>omega
 .split
  .constructor<;>intro<;>omega
  .constructor<;>intro<;>omega
theorem tdiv2(n:Nat):wL.wrap ((n:Int).tdiv 2)=wL.wrap ((n/2:Nat):Int):=by
 rw[show(n:Int).tdiv 2=((n/2:Nat):Int)from qZ n 2]
theorem lenP{k n:Nat}(h:k<32*n):(toL (2^k)).length <=n:=(qd _ _).2 (w0 OA h)
theorem lenA{x y n:Nat}(h:(toL x).length <=n)(g:(toL y).length <=n):(toL (x+y)).length <=n+1:=by
 rw[qd]at h g⊢;have:2^(32*(n+1))=2^(32*n)*2^32:=by rw[<-qJ];rfl
 omega
theorem lenM{x y n:Nat}(h:(toL x).length <=n)(g:(toL y).length <=n):(toL (x*y)).length <=2*n:=by
 rw[qd]at h g⊢;have:2^(32*(2*n))=2^(32*n)*2^(32*n):=by rw[<-qJ];congr 1;omega
 rw[this];exact Nat.mul_lt_mul'' h g
theorem q390{a:List Int}(ha:LB a)(hal:a.length<=1000):Fn 258 [] [.sl .u32 a] (.sl .u32 (toL (sqN (val a)))) []:=by
 have lb1:LB [1]:=fun z hz=>by
  have:z=1:=by simpa using hz
  omega
 have hv1:val [1]=1:=rfl;have c362:=zye ha O;have hbl:bl (val a)<=32000:=by
  have:=vr.2 (zc1 ha);omega
 have hstep:∀(k r:Nat),k<=16000->r<=val a->Fn 212 [] [.sl .u32 [1],.int .i64 (k:Int)] (.sl .u32 (toL (2^k))) []/\Fn 213 [] [.sl .u32 (toL r),.sl .u32 (toL (2^k))] (.sl .u32 (toL (r+2^k))) []/\Fn 259 [] [.sl .u32 (toL (r+2^k)),.sl .u32 (toL (r+2^k))] (.sl .u32 (toL ((r+2^k)*(r+2^k)))) []/\Fn 211 [] [.sl .u32 (toL ((r+2^k)*(r+2^k))),.sl .u32 a] (.int .i64 (kd ((r+2^k)*(r+2^k)) (val a))) []:=fun k r hk hr=>by
  have l1:(toL (2^k)).length <=1000:=lenP O;have l0:(toL r).length <=1000:=jq hr (qQ (zfq ha) hal);have l2:(toL (r+2^k)).length <=1001:=lenA l0 l1;have l3:(toL ((r+2^k)*(r+2^k))).length <=2002:=lenM l2 l2;have h1:=qd6 lb1 OC k O;rw[hv1,Nat.one_mul]at h1;have h2:=r335 (zk r) (zk (2^k)) O O;rw[zg,zg]at h2;have h3:=r311 (zk (r+2^k)) (zk (r+2^k)) O O;rw[zg]at h3;have h4:=r310 (zk ((r+2^k)*(r+2^k))) ha O O;rw[zg]at h4;exact⟨h1,h2,h3,h4⟩
 have h0:=SqI.start (val a);have e1:wL.wrap ((wL.wrap ((bl (val a):Int)+1)).tdiv 2)=(((bl (val a)+1)/2:Nat):Int):=by
  rw[wI (x:=(bl (val a):Int)+1) O,show((bl (val a):Int)+1)=((bl (val a)+1:Nat):Int) by omega,tdiv2,wI O]
 generalize bl (val a)=b at*;generalize val a=v at*;refine fnT xu hmx Tryz.func258 rfl rfl (ex:= []) ?_;conv=>whnf
 refine gYn c362 ?_;refine⟨OA,?_⟩;conv=>whnf
 rw[e1];refine⟨Nat×Nat,fun x=>x.1<=(b+1)/2+1/\SqI v x.1 x.2,fun x=> [(4,.int .i64 ((x.1:Int)-1)),(3,.sl .u32 (toL x.2))],fun _=> [],fun x=>x.1,((b+1)/2+1,0),⟨qO _,h0⟩,?_,fun x hx=>?_⟩
 ·((conv=>whnf);refine q1 ?_ ?_;repeat' first|refine lc ?_ ?_|refine lh1 ?_ ?_|refine bc0 ?_|exact KXZ|refine lg0 ?_|refine lt0 ?_)
  exact ai0 OD
 obtain⟨j,r⟩:=x;obtain⟨hj,hi⟩:=hx;simp only at hj hi;refine gYe ?_;refine brI (fun c=>?_) (fun c=>?_)
 .have c:1<=j:=by have:=Z0 c;simp only at this;omega
  obtain⟨k,rfl⟩:∃k,j=k+1:=⟨j-1,O⟩;have hk:(((k+1:Nat):Int)-1)=(k:Int):=O;obtain⟨c364,c368,c391,c367⟩:=hstep k r O hi.le;conv=>whnf
  rw[hk];refine gYn c364 ?_;refine gYn c368 ?_;refine gYn c391 ?_;refine gYn c367 ?_;refine brI (fun c2=>?_) (fun c2=>?_)
  .have c2:=zsv.1 (Z0 c2);conv=>whnf
   refine⟨(k,r+2^k),⟨by show k<=_;omega,hi.hit c2⟩,by show k<k+1;omega,?_⟩;exact KZ0
  .have c2:=mt zsv.2 (Z3 c2);conv=>whnf
   refine⟨(k,r),⟨by show k<=_;omega,hi.miss c2⟩,by show k<k+1;omega,?_⟩;exact KZ0
 .have c:j=0:=by have:=Z3 c;simp only at this;omega
  subst c;conv=>whnf
  rw[hi.stop];exact⟨lr rfl,lh0⟩
theorem zvt{d:Dy}(hn:d.neg=false){p:Nat}(hp:8<=p/\p<=512)(h0:nm d≠0)(up:Bool):
 zhk false (sqN (nm d*2^sqK d p)) ((d.e-sqK d p)/2) (decide (sqN (nm d*2^sqK d p)*sqN (nm d*2^sqK d p)≠nm d*2^sqK d p)) p up=ku d p up:=by
 have hM:2^(2*p+3)<=nm d*2^sqK d p:=by
  have hk:=zq (nm d) (sqK d p) h0;have hne:nm d*2^sqK d p≠0:=Nat.mul_ne_zero h0 (by have:=q0 (sqK d p);omega);refine(xd hne).1 ?_;have:2*p+4-bl (nm d)<=sqK d p:=by unfold sqK;split<;>omega
  omega
 obtain⟨s1,s2⟩:=zfr (nm d*2^sqK d p);have hbits:p<bl (sqN (nm d*2^sqK d p)):=by
  have h1:2^(p+1)<=sqN (nm d*2^sqK d p):=by
   refine wK.1 fun c=>?_
   have h2:(sqN (nm d*2^sqK d p)+1)*(sqN (nm d*2^sqK d p)+1)<=2^(p+1)*2^(p+1):=Nat.mul_le_mul c c;rw[<-qJ]at h2;have h3:2^(p+1+(p+1))<=2^(2*p+3):=qK OA O;omega
  have hne:sqN (nm d*2^sqK d p)≠0:=by have:=q0 (p+1);omega
  have:=(xd hne).2 h1;omega
 rw[zbw _ _ _ _ _ _ (fun _=>hbits) (fun h=>by rw[h,qx]at hbits;omega) hp];unfold ku xi;rw[Z7 h0,Z7 OC];cases up<;>rfl
theorem q353{d:Dy}(hd:VD d)(hn:d.neg=false)(p:Nat)(hp:8<=p/\p<=512)(up:Bool):Fn 207 [] [.agg (dyC d),.int .i64 p,.bool up] (dyV (ku d p up)) []:=by
 have a1:=hd.bits;have a2:=hd.exp;have hla:=hd.len;have h222:=qd7 d d hd.lb hd.lb O O p;rw[show ftR d d p=0 by unfold ftR;rw[Z6 ⟨(jc hd.lb).2 hd,(jc hd.lb).2 hd⟩,Z6 O]]at h222;have c362:Fn 209 [] [.sl .u32 d.m] (.int .i64 (bl (nm d):Nat)) []:=zye hd.lb O;have hz:nm d=0->ku d p up=(d0,0):=fun h=>by unfold ku;rw[Z6 h]
 have hR:nm d≠0->ku d p up=zhk false (sqN (nm d*2^sqK d p)) ((d.e-sqK d p)/2) (decide (sqN (nm d*2^sqK d p)*sqN (nm d*2^sqK d p)≠nm d*2^sqK d p)) p up:=fun h=>(zvt hn hp h up).symm
 obtain⟨k0,hk0⟩:∃k0,2*p+4-bl (nm d)=k0:=⟨_,rfl⟩;have hk0e:(if wL.wrap (wL.wrap (wL.wrap (2*(p:Int))+4)-(bl (nm d):Int))>0 then wL.wrap (wL.wrap (wL.wrap (2*(p:Int))+4)-(bl (nm d):Int))else 0)=((k0:Nat):Int):=by
  rw[wI (x:=2*(p:Int)) O,wI (x:=2*(p:Int)+4) O,wI O];split<;>omega
 have hkk:sqK d p=if(d.e-k0) % 2=0 then k0 else k0+1:=by unfold sqK;rw[hk0]
 have hkb:sqK d p<=2*p+5:=by rw[hkk];split<;>omega
 have hpar:(d.e-sqK d p) % 2=0:=by rw[hkk];split<;>omega
 have hbits:bl (nm d*2^sqK d p)<=5200:=by
  by_cases h:nm d=0
  .rw[h,wG];decide
  .rw[zq _ _ h];omega
 have hml:(toL (nm d*2^sqK d p)).length <=200:=(zu _ _).2 O;have c364:Fn 212 [] [.sl .u32 d.m,.int .i64 (sqK d p:Nat)] (.sl .u32 (toL (nm d*2^sqK d p))) []:=qd6 hd.lb O (sqK d p) O;have c390:=q390 (zk (nm d*2^sqK d p)) O;rw[zg]at c390;have hsl:(toL (sqN (nm d*2^sqK d p))).length <=200:=jq (qds _) hml;have c391:=r311 (zk (sqN (nm d*2^sqK d p))) (zk (sqN (nm d*2^sqK d p))) O O;rw[zg]at c391;have hql:=lenM hsl hsl;have c367:=r310 (zk (sqN (nm d*2^sqK d p)*sqN (nm d*2^sqK d p))) (zk (nm d*2^sqK d p)) O O;rw[zg,zg]at c367;have hne:=zjt (sqN (nm d*2^sqK d p)*sqN (nm d*2^sqK d p)) (nm d*2^sqK d p);have c304:=r305 false (zk (sqN (nm d*2^sqK d p))) O ((d.e-sqK d p)/2) O (decide (sqN (nm d*2^sqK d p)*sqN (nm d*2^sqK d p)≠nm d*2^sqK d p)) p hp up;rw[zg]at c304;rw[<-hne]at c304 hR;have hw:wL.wrap ((wL.wrap (d.e-(sqK d p:Int))).tdiv 2)=(d.e-sqK d p)/2:=by
  rw[wI (x:=d.e-(sqK d p:Int)) O];obtain⟨t,ht⟩:∃t,d.e-(sqK d p:Int)=t*2:=⟨(d.e-sqK d p)/2,O⟩;rw[ht,Int.mul_tdiv_cancel _ OA,wI O];omega
 have hk1:∀z:Int,z=wL.wrap (d.e-(k0:Int))->((z.tmod 2 != 0)=true->wL.wrap ((k0:Int)+1)=((sqK d p:Nat):Int))/\((z.tmod 2 != 0)=false->(k0:Int)=((sqK d p:Nat):Int)):=by
  intro z hz;rw[wI O]at hz;subst hz;rw[hkk,bne_iff_ne,bne_eq_false_iff_eq];have ht:(d.e-(k0:Int)).tmod 2=0<->(d.e-(k0:Int)) % 2=0:=by
   constructor
   .intro h;have:=Int.dvd_of_tmod_eq_zero h;omega
   .intro h;exact Int.tmod_eq_zero_of_dvd O
  constructor
  .intro h;rw[Z7 fun c=>h (ht.2 c),wI O];omega
  .intro h;rw[Z6 (ht.1 h)]
 have ae:=hd.eq;clear hpar hkk hbits hml hsl hql hkb;generalize ku d p up=R at*;generalize sqN (nm d*2^sqK d p)=s at*;generalize nm d*2^sqK d p=m at*;generalize sqK d p=k at*;generalize nm d=x at*;obtain⟨an,am,ax⟩:=d;simp only at ae a2 c304 hR hw hn hk1 c362 c364;subst ae hn;have h222:Fn 80 [] [.agg [.bool false,.sl .u32 (toL x),.int .i64 ax],.agg [.bool false,.sl .u32 (toL x),.int .i64 ax],.int .i64 p] (.int .i64 0) []:=h222;show Fn 207 [] [.agg [.bool false,.sl .u32 (toL x),.int .i64 ax],.int .i64 p,.bool up] _ [];by_cases hx0:x=0
 .rw[hz hx0];subst hx0;rw[wp]at*;refine fnT xu hmx Tryz.func207 rfl rfl (ex:= []) ?_;conv=>whnf
  refine gYn h222 ?_;exact⟨lt0 (lc (lg0 (lc (lr rfl) (lc (li0 rfl) (lc (lr rfl) ln0)))) (lc (lr rfl) ln0)),lh0⟩
 rw[<-hR hx0]at c304;obtain⟨⟨r1,r2,r3⟩,r4⟩:=R;refine fnT xu hmx Tryz.func207 rfl rfl (ex:= []) ?_;conv=>whnf
 refine gYn h222 ?_;refine brI (fun h6=>?_) (fun h6=>?_)
 .have h6:(((toL x).length :Int)==0)=true:=h6;rw[zbn hx0]at h6;cases h6
 conv=>whnf
 refine gYn c362 ?_;rw[hk0e];refine⟨OA,?_⟩;conv=>whnf
 obtain⟨hka,hkb2⟩:=hk1 _ rfl;refine brI (fun h6=>?_) (fun h6=>?_)
 .have e:=hka h6;conv=>whnf
  rw[e];refine gYn c364 ?_;refine gYn c390 ?_;refine⟨OA,?_⟩;conv=>whnf
  refine gYn c391 ?_;refine gYn c367 ?_;rw[hw];refine gZn c304 ?_;refine gYd ?_;exact⟨lr rfl,lh0⟩
 .have e:=hkb2 h6;conv=>whnf
  rw[e];refine gYn c364 ?_;refine gYn c390 ?_;refine⟨OA,?_⟩;conv=>whnf
  refine gYn c391 ?_;refine gYn c367 ?_;rw[hw];refine gZn c304 ?_;refine gYd ?_;exact⟨lr rfl,lh0⟩
theorem zof{x:Iv}:zct x<=0<->¬(kB x=true/\0<qs x.lo):=by
 unfold zct;by_cases k:kB x=true
 .rw[Z6 k];by_cases c:0<qs x.lo
  .rw[Z6 c];simp[k,c]
  .rw[Z7 c];constructor
   .intro _ h;exact c h.2
   .intro _;split<;>decide
 .rw[Z7 k];simp[k]
theorem q278(x:Iv)(h:RI x)(p:Int):Fn 148 [] [.agg (ivC x),.int .i64 p] (.agg (ivC (zet x p))) []:=by
 have h60:=r60 p;have h300:=r259 x h;have h61:=r61;obtain⟨R,hR⟩:∃R,zet x p=R:=⟨_,rfl⟩;rw[hR];unfold zet at hR
 cases hp:pcB p with
 |false=>
  rw[hp]at h60;rw[Z7 (by rw[hp];simp)]at hR;subst hR;refine fnT xu hmx Tryz.func148 rfl rfl (ex:= []) ?_;conv=>whnf
  refine gYn h60 ?_;refine gYn h61 ?_;exact⟨lr rfl,lh0⟩
 |true=>
 rw[hp]at h60;by_cases hs:zct x<=0
 .rw[Z7 fun c=>zof.1 hs ⟨c.1,c.2.2⟩]at hR;subst hR;generalize zct x=S at*;refine fnT xu hmx Tryz.func148 rfl rfl (ex:= []) ?_;conv=>whnf
  refine gYn h60 ?_;refine gYn h300 ?_;refine brI (fun c=>?_) (fun c=>?_)
  .conv=>whnf
   refine gYn h61 ?_;exact⟨lr rfl,lh0⟩
  .exact absurd hs (Z3 c)
 .have hk:kB x=true/\0<qs x.lo:=Decidable.byContradiction fun c=>hs (zof.2 c)
  rw[Z6 ⟨hk.1,hp,hk.2⟩]at hR;have kx:=(zw h).1 hk.1;have h1:=(za0 x.lo).2.1.1 hk.2;have h2:=Std.lt_of_lt_of_le h1 kx.dle;have ng:∀ {d:Dy},0<dv d->d.neg=false:=fun {d}c=>by
   cases hn:d.neg with
   |false=>rfl
   |true=>
    have:=zkv (nm d) d.e;unfold dv at c;rw[Z6 hn]at c;grind
  have hpn:8<=p.toNat/\p.toNat<=512:=vj hp;have a1:=q353 kx.lo (ng h1) p.toNat hpn false;have a2:=q353 kx.hi (ng h2) p.toNat hpn true;rw[show((p.toNat:Nat):Int)=p by omega]at a1 a2;have h256:=r256 (ku x.lo p.toNat false) (ku x.hi p.toNat true);rw[hR]at h256;generalize ku x.lo p.toNat false=A1 at*;generalize ku x.hi p.toNat true=A2 at*;generalize zct x=S at*;clear hR kx h1 h2 ng hk hpn;refine fnT xu hmx Tryz.func148 rfl rfl (ex:= []) ?_;conv=>whnf
  refine gYn h60 ?_;refine gYn h300 ?_;refine brI (fun c=>?_) (fun c=>?_)
  .exact absurd (Z0 c) hs
  conv=>whnf
  refine gYn a1 ?_;refine gYn a2 ?_;refine gYn h256 ?_;exact⟨lr rfl,lh0⟩
theorem q389{d:Dy}(hd:VD d)(p:Nat)(hp:8<=p/\p<=512)(up:Bool):Fn 257 [] [.agg (dyC d),.int .i64 p,.bool up] (dyV (qm d p up)) []:=by
 have h:=r308 hd p hp up;have he:=hd.exp;rw[zbw _ _ _ _ _ _ (fun h=>by cases h) (fun _=>O) hp]at h;exact h
theorem q303{a b:Dy}(ha:VD a)(hb:VD b)(p:Nat)(hp:8<=p/\p<=512)(up:Bool):Fn 199 [] [.agg (dyC a),.agg (dyC b),.int .i64 p,.bool up] (dyV (ug a b p up)) []:=by
 have h:=r258 ha hb p hp up;rw[zta ha hb p hp up]at h;exact h
theorem q351{d:Dy}(hd:VD d)(n p:Nat)(hn:1<=n/\n<=16)(hp:8<=p/\p<=512):Fn 205 [] [.agg (dyC d),.int .i64 n,.int .i64 p] (dyV (zfv d n p false)) []:=by
 have h0:=q389 hd p hp false;have hm:∀a,VD a->Fn 199 [] [.agg (dyC a),.agg (dyC d),.int .i64 p,.bool false] (dyV (ug a d p false)) []:=fun a ha=>q303 ha hd p hp false
 have hv0:=jk d false p hp;obtain⟨R,hR⟩:∃R,zfv d n p false=R:=⟨_,rfl⟩;rw[hR];unfold zfv at hR;generalize qm d p false=r0 at*;obtain⟨d1,d2,d3⟩:=d;have hm:∀a,VD a->Fn 199 [] [.agg (dyC a),.agg [.bool d1,.sl .u32 d2,.int .i64 d3],.int .i64 p,.bool false] (dyV (ug a ⟨d1,d2,d3⟩ p false)) []:=hm;obtain⟨⟨a1,a2,a3⟩,e0⟩:=r0;have h0:Fn 257 [] [.agg [.bool d1,.sl .u32 d2,.int .i64 d3],.int .i64 p,.bool false] (dyV (⟨a1,a2,a3⟩,e0)) []:=h0;show Fn 205 [] [.agg [.bool d1,.sl .u32 d2,.int .i64 d3],.int .i64 n,.int .i64 p] _ [];refine fnT xu hmx Tryz.func205 rfl rfl (ex:= []) ?_;conv=>whnf
 refine gYn h0 ?_;refine⟨Nat×Dy×Int,fun s=>(1<=s.1/\s.1<=n)/\VD s.2.1/\zcv ⟨d1,d2,d3⟩ p false (n-s.1) s.2=R,fun s=> [(10,.int .i64 s.1),(9,.int .i64 s.2.2)],fun s=> [(8,.cells (dyC s.2.1))],fun s=>n-s.1,(1,⟨a1,a2,a3⟩,e0),?_,?_,fun s hs=>?_⟩
 .exact⟨⟨OC,hn.1⟩,hv0,hR⟩
 .exact KZ0
 obtain⟨k,⟨r1,r2,r3⟩,e⟩:=s;obtain⟨⟨h1,h2⟩,h3,h4⟩:=hs;simp only at h1 h2 h3 h4;refine gYe ?_;refine brI (fun k1=>?_) (fun k1=>?_)
 .have k1:k<n:=by simp only[Z4]at k1;omega
  obtain⟨j,hj⟩:∃j,n-k=j+1:=⟨n-k-1,O⟩;rw[hj]at h4;simp only[zcv]at h4;conv=>whnf
  refine brI (fun k2=>?_) (fun k2=>?_)
  .have k2:e=0:=by simpa using k2
   rw[Z6 k2]at h4;have hmm:Fn 199 [] [.agg [.bool r1,.sl .u32 r2,.int .i64 r3],.agg [.bool d1,.sl .u32 d2,.int .i64 d3],.int .i64 p,.bool false] (dyV (ug ⟨r1,r2,r3⟩ ⟨d1,d2,d3⟩ p false)) []:=hm _ h3;have hvm:=zac ⟨r1,r2,r3⟩ ⟨d1,d2,d3⟩ false p hp;generalize ug ⟨r1,r2,r3⟩ ⟨d1,d2,d3⟩ p false=M at*;obtain⟨⟨m1,m2,m3⟩,f⟩:=M;conv=>whnf
   refine gYn hmm ?_;refine⟨(k+1,⟨m1,m2,m3⟩,f),⟨⟨OD,OD⟩,hvm,by simp only;rw[(O:n-(k+1)=j)];exact h4⟩,by show n-(k+1)<n-k;omega,?_⟩;exact KZ0
  .have k2:e≠0:=by simpa using k2
   rw[Z7 k2]at h4;subst h4;conv=>whnf
   exact⟨lr rfl,lh0⟩
 .have k1:¬k<n:=by simp only[Z5]at k1;omega
  rw[(O:n-k=0)]at h4;simp only[zcv]at h4;subst h4;conv=>whnf
  exact⟨lr rfl,lh0⟩
theorem q352{d:Dy}(hd:VD d)(n p:Nat)(hn:1<=n/\n<=16)(hp:8<=p/\p<=512):Fn 206 [] [.agg (dyC d),.int .i64 n,.int .i64 p] (dyV (zfv d n p true)) []:=by
 have h0:=q389 hd p hp true;have hm:∀a,VD a->Fn 199 [] [.agg (dyC a),.agg (dyC d),.int .i64 p,.bool true] (dyV (ug a d p true)) []:=fun a ha=>q303 ha hd p hp true
 have hv0:=jk d true p hp;obtain⟨R,hR⟩:∃R,zfv d n p true=R:=⟨_,rfl⟩;rw[hR];unfold zfv at hR;generalize qm d p true=r0 at*;obtain⟨d1,d2,d3⟩:=d;have hm:∀a,VD a->Fn 199 [] [.agg (dyC a),.agg [.bool d1,.sl .u32 d2,.int .i64 d3],.int .i64 p,.bool true] (dyV (ug a ⟨d1,d2,d3⟩ p true)) []:=hm;obtain⟨⟨a1,a2,a3⟩,e0⟩:=r0;have h0:Fn 257 [] [.agg [.bool d1,.sl .u32 d2,.int .i64 d3],.int .i64 p,.bool true] (dyV (⟨a1,a2,a3⟩,e0)) []:=h0;show Fn 206 [] [.agg [.bool d1,.sl .u32 d2,.int .i64 d3],.int .i64 n,.int .i64 p] _ [];refine fnT xu hmx Tryz.func206 rfl rfl (ex:= []) ?_;conv=>whnf
 refine gYn h0 ?_;refine⟨Nat×Dy×Int,fun s=>(1<=s.1/\s.1<=n)/\VD s.2.1/\zcv ⟨d1,d2,d3⟩ p true (n-s.1) s.2=R,fun s=> [(10,.int .i64 s.1),(9,.int .i64 s.2.2)],fun s=> [(8,.cells (dyC s.2.1))],fun s=>n-s.1,(1,⟨a1,a2,a3⟩,e0),?_,?_,fun s hs=>?_⟩
 .exact⟨⟨OC,hn.1⟩,hv0,hR⟩
 .exact KZ0
 obtain⟨k,⟨r1,r2,r3⟩,e⟩:=s;obtain⟨⟨h1,h2⟩,h3,h4⟩:=hs;simp only at h1 h2 h3 h4;refine gYe ?_;refine brI (fun k1=>?_) (fun k1=>?_)
 .have k1:k<n:=by simp only[Z4]at k1;omega
  obtain⟨j,hj⟩:∃j,n-k=j+1:=⟨n-k-1,O⟩;rw[hj]at h4;simp only[zcv]at h4;conv=>whnf
  refine brI (fun k2=>?_) (fun k2=>?_)
  .have k2:e=0:=by simpa using k2
   rw[Z6 k2]at h4;have hmm:Fn 199 [] [.agg [.bool r1,.sl .u32 r2,.int .i64 r3],.agg [.bool d1,.sl .u32 d2,.int .i64 d3],.int .i64 p,.bool true] (dyV (ug ⟨r1,r2,r3⟩ ⟨d1,d2,d3⟩ p true)) []:=hm _ h3;have hvm:=zac ⟨r1,r2,r3⟩ ⟨d1,d2,d3⟩ true p hp;generalize ug ⟨r1,r2,r3⟩ ⟨d1,d2,d3⟩ p true=M at*;obtain⟨⟨m1,m2,m3⟩,f⟩:=M;conv=>whnf
   refine gYn hmm ?_;refine⟨(k+1,⟨m1,m2,m3⟩,f),⟨⟨OD,OD⟩,hvm,by simp only;rw[(O:n-(k+1)=j)];exact h4⟩,by show n-(k+1)<n-k;omega,?_⟩;exact KZ0
  .have k2:e≠0:=by simpa using k2
   rw[Z7 k2]at h4;subst h4;conv=>whnf
   exact⟨lr rfl,lh0⟩
 .have k1:¬k<n:=by simp only[Z5]at k1;omega
  rw[(O:n-k=0)]at h4;simp only[zcv]at h4;subst h4;conv=>whnf
  exact⟨lr rfl,lh0⟩
theorem q17(d:Dy):Fn 150 [] [.agg (dyC d)] (.agg (ivC (qt d))) []:=by
 obtain⟨d1,d2,d3⟩:=d;refine fnT xu hmx Tryz.func150 rfl rfl (ex:= []) ?_;conv=>whnf
 exact⟨lr rfl,lh0⟩
theorem zu1{a b:Dy}(ha:VD a)(hb:VD b)(h1:dv a<=dv b)(h2:dv b<=dv a):a=b:=zze ha hb (zdv h1 h2)
theorem qca{x:Iv}(h:RI x):zza x=zp1 x:=by
 by_cases hk:kB x=true
 .have k:=(zw h).1 hk;have e1:qc0 x=ul x:=by
   refine zu1 (zb2 (yt k.lo) k.hi) (zb3 k) ?_ ?_
   .have m1:=xm (yq x.lo) (yq x.hi);have m2:=xm (jp x.lo) x.hi;show dv (uk (jp x.lo) x.hi)<=dv (uk (yq x.lo) (yq x.hi));rw[zbc,zbc]at m1;rcases m2.2.2 with e|e
    .rw[e,zek];have: -dv x.lo<=zc2 (dv x.lo):=by unfold zc2;split<;>grind
     exact Rat.le_trans this m1.1
    .rw[e];have:dv x.hi<=zc2 (dv x.hi):=by unfold zc2;split<;>grind
     exact Rat.le_trans this m1.2.1
   .have m1:=xm (yq x.lo) (yq x.hi);have m2:=xm (jp x.lo) x.hi;show dv (uk (yq x.lo) (yq x.hi))<=dv (uk (jp x.lo) x.hi);rw[zek]at m2;have hle:=k.dle;rcases m1.2.2 with e|e
    .rw[e,zbc];unfold zc2;split<;>grind
    .rw[e,zbc];unfold zc2;split<;>grind
  have e2:qat x=zcw x:=by
   unfold qat zcw;by_cases c:zct x=0
   .rw[Z6 c,Z6 c]
   .rw[Z7 c,Z7 c];have hc:0<dv x.lo\/dv x.hi<0:=by
     unfold zct at c;rw[Z6 hk]at c;by_cases c1:0<qs x.lo
     .exact .inl ((za0 x.lo).2.1.1 c1)
     .rw[Z7 c1]at c;by_cases c2:qs x.hi<0
      .exact .inr ((za0 x.hi).1.1 c2)
      .rw[Z7 c2]at c;exact absurd rfl c
    have hle:=k.dle;have m1:=zll (yq x.lo) (yq x.hi);have m2:=xm x.lo (jp x.hi);rw[zbc,zbc]at m1;rw[zek]at m2;have a1:zc2 (dv x.lo)=if 0<dv x.lo then dv x.lo else-dv x.lo:=by unfold zc2;split<;>split<;>grind
    have a2:zc2 (dv x.hi)=if 0<dv x.lo then dv x.hi else-dv x.hi:=by unfold zc2;split<;>split<;>grind
    refine zu1 (zb2 k.lo (yt k.hi)) (zdi (zb4 k.lo) (zb4 k.hi)) ?_ ?_
    .show dv (uk x.lo (jp x.hi))<=dv (xn (yq x.lo) (yq x.hi));rcases m1.2.2 with e|e
     .rw[e,zbc,a1];rcases m2.2.2 with f|f
      .rw[f];split<;>grind
      .rw[f,zek];split<;>grind
     .rw[e,zbc,a2];rcases m2.2.2 with f|f
      .rw[f];split<;>grind
      .rw[f,zek];split<;>grind
    .show dv (xn (yq x.lo) (yq x.hi))<=dv (uk x.lo (jp x.hi));split at a1<;>grind
  unfold zza zp1;rw[Z6 hk,Z6 hk,e1,e2]
 .unfold zza zp1;rw[Z7 hk,Z7 hk]
theorem zsp{y:Iv}(hl:VD y.lo)(hh:VD y.hi)(N q:Nat)(hN:1<=N/\N<=16)(hq:8<=q/\q<=512){R:Iv}(hR:R=pwK y N q):∃(S1 S2:Int)(A A' B B':Dy×Int)(M1 M2 NA NB:Dy)(E1 E2:Dy×Int),
 (Fn 205 [] [.agg (dyC y.lo),.int .i64 N,.int .i64 q] (dyV A) []/\Fn 136 [] [.agg (dyC y.lo)] (.int .i64 S1) []/\Fn 138 [] [.agg (dyC y.lo)] (.agg (dyC M1)) []/\Fn 206 [] [.agg (dyC M1),.int .i64 N,.int .i64 q] (dyV A') []/\Fn 138 [] [.agg (dyC A'.1)] (.agg (dyC NA)) [])/\
 (Fn 206 [] [.agg (dyC y.hi),.int .i64 N,.int .i64 q] (dyV B) []/\Fn 136 [] [.agg (dyC y.hi)] (.int .i64 S2) []/\Fn 138 [] [.agg (dyC y.hi)] (.agg (dyC M2)) []/\Fn 205 [] [.agg (dyC M2),.int .i64 N,.int .i64 q] (dyV B') []/\Fn 138 [] [.agg (dyC B'.1)] (.agg (dyC NB)) [])/\
 (S1<0->E1=(NA,A'.2))/\(¬S1<0->E1=A)/\(S2<0->E2=(NB,B'.2))/\(¬S2<0->E2=B)/\Fn 197 [] [.agg (dyC E1.1),.int .i64 E1.2,.agg (dyC E2.1),.int .i64 E2.2] (.agg (ivC R)) []:=by
 have s1:=qad y.lo;have s2:=qad y.hi;rw[zig hl]at s1;rw[zig hh]at s2;refine⟨_,_,_,_,_,_,_,_,_,_,zfo y.lo N q false,zfo y.hi N q true,⟨q351 hl N q hN hq,s1,zwa hl,q352 (yt hl) N q hN hq,zwa (zmk _ _ _ _ hq)⟩,⟨q352 hh N q hN hq,s2,zwa hh,q351 (yt hh) N q hN hq,zwa (zmk _ _ _ _ hq)⟩,fun c=>?_,fun c=>?_,fun c=>?_,fun c=>?_,by rw[hR];exact r256 _ _⟩
 .unfold zfo;rw[Z6 c];rfl
 .unfold zfo;rw[Z7 c]
 .unfold zfo;rw[Z6 c];rfl
 .unfold zfo;rw[Z7 c]
theorem q277(x:Iv)(h:RI x)(n p:Int):Fn 147 [] [.agg (ivC x),.int .i64 n,.int .i64 p] (.agg (ivC (zhw x n p))) []:=by
 have h60:=r60 p;have h161:=zve x h;have h61:=r61;have hR:zhw x n p=if kB x=true/\pcB p=true/\0<=n/\n<=16 then(if n=0 then qt (wg 1)else pwK (if n % 2=0 then zp1 x else x) n.toNat p.toNat)else wI0:=rfl
 generalize zhw x n p=R at*;by_cases hp:pcB p=true
 rotate_left
 .rw[Z7 fun c=>hp c.2.1]at hR;rw[show pcB p=false by simpa using hp]at h60;subst hR;clear h;obtain⟨⟨x1,x2,x3⟩,⟨x4,x5,x6⟩,x7⟩:=x;show Fn 147 [] [.agg [.bool x1,.sl .u32 x2,.int .i64 x3,.bool x4,.sl .u32 x5,.int .i64 x6,.bool x7],.int .i64 n,.int .i64 p] _ [];refine fnT xu hmx Tryz.func147 rfl rfl (ex:= []) ?_;conv=>whnf
  refine gYn h60 ?_;refine gYn h61 ?_;exact⟨lr rfl,lh0⟩
 rw[hp]at h60;by_cases hk:kB x=true
 rotate_left
 .rw[Z7 fun c=>hk c.1]at hR;rw[show kB x=false by simpa using hk]at h161;subst hR;clear h hk;obtain⟨⟨x1,x2,x3⟩,⟨x4,x5,x6⟩,x7⟩:=x;show Fn 147 [] [.agg [.bool x1,.sl .u32 x2,.int .i64 x3,.bool x4,.sl .u32 x5,.int .i64 x6,.bool x7],.int .i64 n,.int .i64 p] _ [];refine fnT xu hmx Tryz.func147 rfl rfl (ex:= []) ?_;conv=>whnf
  refine gYn h60 ?_;refine gYn h161 ?_;refine gYn h61 ?_;exact⟨lr rfl,lh0⟩
 rw[hk]at h161;by_cases hn:0<=n/\n<=16
 rotate_left
 .rw[Z7 fun c=>hn c.2.2]at hR;subst hR;clear h hk;obtain⟨⟨x1,x2,x3⟩,⟨x4,x5,x6⟩,x7⟩:=x;show Fn 147 [] [.agg [.bool x1,.sl .u32 x2,.int .i64 x3,.bool x4,.sl .u32 x5,.int .i64 x6,.bool x7],.int .i64 n,.int .i64 p] _ [];refine fnT xu hmx Tryz.func147 rfl rfl (ex:= []) ?_;conv=>whnf
  refine gYn h60 ?_;refine gYn h161 ?_;refine brI (fun k1=>?_) (fun k1=>?_)
  .conv=>whnf
   refine gYn h61 ?_;exact⟨lr rfl,lh0⟩
  have k1:¬n<0:=Z3 k1;conv=>whnf
  refine brI (fun k2=>?_) (fun k2=>?_)
  .conv=>whnf
   refine gYn h61 ?_;exact⟨lr rfl,lh0⟩
  have k2:¬16<n:=Z3 k2;omega
 rw[Z6 ⟨hk,hp,hn⟩]at hR;obtain⟨N,rfl⟩:=Int.eq_ofNat_of_zero_le hn.1;by_cases h0:N=0
 .subst h0;rw[Z6 (by rfl)]at hR;have h54:Fn 54 [] [.int .i64 1] (.agg (dyC (wg 1))) []:=r262 1 OA;have h17:=q17 (wg 1);generalize wg 1=I1 at*;rw[<-hR]at h17;clear h hk hR;obtain⟨⟨x1,x2,x3⟩,⟨x4,x5,x6⟩,x7⟩:=x;obtain⟨⟨r1,r2,r3⟩,⟨r4,r5,r6⟩,r7⟩:=R;obtain⟨i1,i2,i3⟩:=I1;have h17:Fn 150 [] [.agg [.bool i1,.sl .u32 i2,.int .i64 i3]] (.agg [.bool r1,.sl .u32 r2,.int .i64 r3,.bool r4,.sl .u32 r5,.int .i64 r6,.bool r7]) []:=h17;show Fn 147 [] [.agg [.bool x1,.sl .u32 x2,.int .i64 x3,.bool x4,.sl .u32 x5,.int .i64 x6,.bool x7],.int .i64 0,.int .i64 p] _ [];refine fnT xu hmx Tryz.func147 rfl rfl (ex:= []) ?_;conv=>whnf
  refine gYn h60 ?_;refine gYn h161 ?_;refine gYn h54 ?_;refine gYn h17 ?_;exact⟨lr rfl,lh0⟩
 rw[Z7 O,q3]at hR;have kx:=(zw h).1 hk;obtain⟨q,rfl,hq⟩:=ux.1 hp;rw[q3]at hR;have hmod:((N:Int).tmod 2==0)=decide ((N:Int) % 2=0):=by
  have:(N:Int).tmod 2=((N % 2:Nat):Int):=(w3 N 2).symm;rw[this,Bool.eq_iff_iff,beq_iff_eq,Z4];omega
 have h350:=r263 x h;rw[qca h]at h350;by_cases he:(N:Int) % 2=0
 .rw[Z6 he]at hR;rw[Z8 he]at hmod;have ky:=qcb kx;obtain⟨S1,S2,A,A',B,B',M1,M2,NA,NB,E1,E2,⟨lo1,lo2,lo3,lo4,lo5⟩,⟨hi1,hi2,hi3,hi4,hi5⟩,he1,he1',he2,he2',m0⟩:=zsp ky.lo ky.hi N q O hq hR;have mm:∀ {F G:Dy×Int},E1=F->E2=G->Fn 197 [] [.agg (dyC F.1),.int .i64 F.2,.agg (dyC G.1),.int .i64 G.2] (.agg (ivC R)) []:=fun a b=>by rw[<-a,<-b];exact m0
  generalize zp1 x=y at*;clear hR kx h hk ky m0;obtain⟨⟨x1,x2,x3⟩,⟨x4,x5,x6⟩,x7⟩:=x;obtain⟨⟨y1,y2,y3⟩,⟨y4,y5,y6⟩,y7⟩:=y;obtain⟨⟨a1,a2,a3⟩,e⟩:=A;obtain⟨⟨b1,b2,b3⟩,f⟩:=A';obtain⟨⟨c1,c2,c3⟩,g⟩:=B;obtain⟨⟨d1,d2,d3⟩,k⟩:=B';obtain⟨m1,m2,m3⟩:=M1;obtain⟨m4,m5,m6⟩:=M2;obtain⟨n1,n2,n3⟩:=NA;obtain⟨n4,n5,n6⟩:=NB;obtain⟨⟨r1,r2,r3⟩,⟨r4,r5,r6⟩,r7⟩:=R;show Fn 147 [] [.agg [.bool x1,.sl .u32 x2,.int .i64 x3,.bool x4,.sl .u32 x5,.int .i64 x6,.bool x7],.int .i64 N,.int .i64 q] _ [];refine fnT xu hmx Tryz.func147 rfl rfl (ex:= []) ?_;conv=>whnf
  refine gYn h60 ?_;refine gYn h161 ?_;refine brI (fun k2=>?_) (fun k2=>?_)
  .have k2:=Z0 k2;omega
  conv=>whnf
  refine brI (fun k3=>?_) (fun k3=>?_)
  .have k3:(N:Int)=0:=by simpa using k3
   omega
  conv=>whnf
  refine⟨OA,?_⟩;conv=>whnf
  refine brI (fun k4=>?_) (fun k4=>?_)
  rotate_left
  .have k4:((N:Int).tmod 2==0)=false:=k4;rw[hmod]at k4;cases k4
  conv=>whnf
  refine gYn h350 ?_;refine gYn lo1 ?_;refine gYn lo2 ?_;refine brI (fun c=>?_) (fun c=>?_)
  .conv=>whnf
   refine gYn lo3 ?_;refine gYn lo4 ?_;refine gYn lo5 ?_;refine gYn hi1 ?_;refine gYn hi2 ?_;refine brI (fun g=>?_) (fun g=>?_)
   .have m:=mm (he1 (Z0 c)) (he2 (Z0 g));conv=>whnf
    refine gYn hi3 ?_;refine gYn hi4 ?_;refine gYn hi5 ?_;refine gYn m ?_;exact⟨lr rfl,lh0⟩
   .have m:=mm (he1 (Z0 c)) (he2' (Z3 g));conv=>whnf
    refine gYn m ?_;exact⟨lr rfl,lh0⟩
  .conv=>whnf
   refine gYn hi1 ?_;refine gYn hi2 ?_;refine brI (fun g=>?_) (fun g=>?_)
   .have m:=mm (he1' (Z3 c)) (he2 (Z0 g));conv=>whnf
    refine gYn hi3 ?_;refine gYn hi4 ?_;refine gYn hi5 ?_;refine gYn m ?_;exact⟨lr rfl,lh0⟩
   .have m:=mm (he1' (Z3 c)) (he2' (Z3 g));conv=>whnf
    refine gYn m ?_;exact⟨lr rfl,lh0⟩
 .rw[Z7 he]at hR;rw[Z9 he]at hmod;obtain⟨S1,S2,A,A',B,B',M1,M2,NA,NB,E1,E2,⟨lo1,lo2,lo3,lo4,lo5⟩,⟨hi1,hi2,hi3,hi4,hi5⟩,he1,he1',he2,he2',m0⟩:=zsp kx.lo kx.hi N q O hq hR;have mm:∀ {F G:Dy×Int},E1=F->E2=G->Fn 197 [] [.agg (dyC F.1),.int .i64 F.2,.agg (dyC G.1),.int .i64 G.2] (.agg (ivC R)) []:=fun a b=>by rw[<-a,<-b];exact m0
  clear hR kx h hk m0 h350;obtain⟨⟨x1,x2,x3⟩,⟨x4,x5,x6⟩,x7⟩:=x;obtain⟨⟨a1,a2,a3⟩,e⟩:=A;obtain⟨⟨b1,b2,b3⟩,f⟩:=A';obtain⟨⟨c1,c2,c3⟩,g⟩:=B;obtain⟨⟨d1,d2,d3⟩,k⟩:=B';obtain⟨m1,m2,m3⟩:=M1;obtain⟨m4,m5,m6⟩:=M2;obtain⟨n1,n2,n3⟩:=NA;obtain⟨n4,n5,n6⟩:=NB;obtain⟨⟨r1,r2,r3⟩,⟨r4,r5,r6⟩,r7⟩:=R;show Fn 147 [] [.agg [.bool x1,.sl .u32 x2,.int .i64 x3,.bool x4,.sl .u32 x5,.int .i64 x6,.bool x7],.int .i64 N,.int .i64 q] _ [];refine fnT xu hmx Tryz.func147 rfl rfl (ex:= []) ?_;conv=>whnf
  refine gYn h60 ?_;refine gYn h161 ?_;refine brI (fun k2=>?_) (fun k2=>?_)
  .have k2:=Z0 k2;omega
  conv=>whnf
  refine brI (fun k3=>?_) (fun k3=>?_)
  .have k3:(N:Int)=0:=by simpa using k3
   omega
  conv=>whnf
  refine⟨OA,?_⟩;conv=>whnf
  refine brI (fun k4=>?_) (fun k4=>?_)
  .have k4:((N:Int).tmod 2==0)=true:=k4;rw[hmod]at k4;cases k4
  conv=>whnf
  refine gYn lo1 ?_;refine gYn lo2 ?_;refine brI (fun c=>?_) (fun c=>?_)
  .conv=>whnf
   refine gYn lo3 ?_;refine gYn lo4 ?_;refine gYn lo5 ?_;refine gYn hi1 ?_;refine gYn hi2 ?_;refine brI (fun g=>?_) (fun g=>?_)
   .have m:=mm (he1 (Z0 c)) (he2 (Z0 g));conv=>whnf
    refine gYn hi3 ?_;refine gYn hi4 ?_;refine gYn hi5 ?_;refine gYn m ?_;exact⟨lr rfl,lh0⟩
   .have m:=mm (he1 (Z0 c)) (he2' (Z3 g));conv=>whnf
    refine gYn m ?_;exact⟨lr rfl,lh0⟩
  .conv=>whnf
   refine gYn hi1 ?_;refine gYn hi2 ?_;refine brI (fun g=>?_) (fun g=>?_)
   .have m:=mm (he1' (Z3 c)) (he2 (Z0 g));conv=>whnf
    refine gYn hi3 ?_;refine gYn hi4 ?_;refine gYn hi5 ?_;refine gYn m ?_;exact⟨lr rfl,lh0⟩
   .have m:=mm (he1' (Z3 c)) (he2' (Z3 g));conv=>whnf
    refine gYn m ?_;exact⟨lr rfl,lh0⟩
theorem zq8:∀ {l m:List Int},LB l->LB m->l.length=m.length->val l=val m->l=m
 | [],[],_,_,_,_=>rfl
 | [],_::_,_,_,h,_=>by simp at h
 | _::_,[],_,_,h,_=>by simp at h
 |x::l,y::m,h1,h2,h3,h4=>by
  have hx:=h1 x OC;have hy:=h2 y OC;rw[qg,qg]at h4;have e:=zq8 (fun z hz=>h1 z (by simp[hz])) (fun z hz=>h2 z (by simp[hz])) (by simpa using h3) (O:val l=val m);rw[e,(O:x=y)]
theorem zx7{l:List Int}{z:Nat}(h:LB l)(hv:val l=z)(hl:l.length=(toL z).length):l=toL z:=zq8 h (zk z) hl (by rw[hv,zg])
theorem zjf(x:Nat):x<2^(32*(toL x).length):=(qd _ _).1 (qO _)
theorem q333(x i:Nat)(hl:(toL x).length <=1000)(hi:i<=1000000):Fn 194 [] [.sl .u32 (toL x),.int .i64 i] (.int .i64 (x/2^i % 2:Nat)) []:=by
 have hlim:=zjf x;have hat:=zfc x (i/32);have hbt:=zy6 x i;generalize toL x=t at*;refine fnT xu hmx Tryz.func194 rfl rfl (ex:= []) ?_;conv=>whnf
 refine brI (fun h1=>?_) (fun h1=>?_)
 .have h1:=Z0 h1;rw[wI O]at h1;have e:x/2^i=0:=qL (we hlim (qK OA O));conv=>whnf
  exact⟨ai0 (by rw[e];rfl),lh0⟩
 .have h1:=Z3 h1;rw[wI O]at h1;conv=>whnf
  refine⟨OA,?_⟩;conv=>whnf
  have hq:wL.wrap ((i:Int).tdiv 32)=((i/32:Nat):Int):=by
   rw[show(i:Int).tdiv 32=((i/32:Nat):Int)from qZ i 32,wI O]
  have hr:(i:Int).tmod 32=((i % 32:Nat):Int):=w3 i 32;rw[hq];refine⟨⟨O,O⟩,fun(y:Int)hy=>?_⟩;have hy:t[((i/32:Nat):Int).toNat]? =some y:=hy;rw[q3]at hy;rw[hat O]at hy;cases hy
  conv=>whnf
  refine⟨OA,?_⟩;conv=>whnf
  rw[hr];refine⟨O,?_⟩;conv=>whnf
  refine⟨ai0 ?_,lh0⟩;rw[bitR (qF _ OA) (qF _ OA),hbt,wI O]
theorem q332(n:Nat)(hn:(toL n).length <=1000):Fn 193 [] [.sl .u32 (toL n)] (.int .i64 (bl n:Nat)) []:=by
 have hb:=zk n;have hla:=zd8 n;have hnz:n≠0<->(toL n).length ≠0:=not_congr wv.symm;have hb0:n=0->bl n=0:=fun h=>by rw[h];exact qx
 have hlast:∀x,(toL n).getLast? =some x->x≠0:=fun x hx c=>by
  have h0:(toL n).length ≠0:=fun h=>by rw[List.eq_nil_of_length_eq_zero h]at hx;cases hx
  have hle:¬(toL n).length <=(toL n).length -1:=O;rw[qd]at hle;rw[qS,zfc n _ O]at hx;cases hx
  have hlim:=zjf n;have e:2^(32*(toL n).length)=2^(32*((toL n).length -1))*4294967296:=by
   rw[show(4294967296:Nat)=2^32 by rfl,<-qJ];congr 1;omega
  have h2:n/2^(32*((toL n).length -1))<4294967296:=qN (by rw[<-e];exact hlim);have h3:0<n/2^(32*((toL n).length -1)):=w4 O (q0 _);rw[q2 h2]at c;omega
 generalize bl n=B at hla hb0⊢;generalize toL n=t at*;refine fnT xu hmx Tryz.func193 rfl rfl (ex:= []) ?_;conv=>whnf
 refine⟨Unit,fun _=>True,fun _=> [(3,.int .i64 ((t.length:Int)-1))],fun _=> [],fun _=>0,(),trivial,?_,fun _ _=>?_⟩
 ·((conv=>whnf);refine q1 ?_ ?_;repeat' first|refine lc ?_ ?_|refine lh1 ?_ ?_|refine bc0 ?_|exact KXZ|refine lg0 ?_|refine lt0 ?_)
  all_goals exact ai0 (by rw[wI O])
 refine gYe ?_;refine brI (fun h1=>?_) (fun h1=>?_)
 .have h1:=Z0 h1;have h0:0<t.length:=O;have hw:(t.length:Int)-1=((t.length-1:Nat):Int):=O;have hx:=qT (l:=t) (i:=t.length-1) O;generalize t[t.length-1]'(O)=x at hx;have hg:t.getLast?=some x:=by rw[qS];exact hx
  have hxb:=hb x (w5 hx);have hx0:=hlast x hg;rw[hg]at hla;simp only at hla;rw[zb0 O]at hla;obtain⟨y,rfl⟩:∃y:Nat,x=(y:Int):=⟨x.toNat,O⟩;rw[q3]at hla;have hy0:y≠0:=O;have hbx:bl y<=32:=vr.2 O;conv=>whnf
  refine⟨Nat,fun j=>bl y<=j/\j<=32,fun j=> [(4,.int .i64 ((j:Int)-1))],fun _=> [],fun j=>j,32,⟨hbx,qO _⟩,?_,fun j hj=>?_⟩
  .exact KZ0
  obtain⟨hj1,hj2⟩:=hj;have hj0:j≠0:=fun c=>hy0 (kj.1 O)
  obtain⟨k,rfl⟩:∃k,j=k+1:=⟨j-1,O⟩;have hk:(((k+1:Nat):Int)-1)=(k:Int):=O;have hb1:y/2^k % 2=1<->bl y=k+1:=by
   have hlt:y<2^(k+1):=vr.1 hj1;have hd:y/2^k<2:=qN (by rw[<-qB];exact hlt);have h3:=xd hy0 (k:=k);constructor
   .intro c;have:2^k<=y:=wK.1 fun d=>by rw[qL d]at c;omega
    have:=h3.2 this;omega
   .intro c;have:=w4 (h3.1 O) (q0 k);omega
  refine gYe ?_;refine brI (fun h2=>?_) (fun h2=>by have:=Z3 h2;omega);conv=>whnf
  rw[hw];refine⟨⟨O,O⟩,fun(z:Int)hz=>?_⟩;have hz:t[t.length-1]? =some z:=by simpa using hz
  rw[hx]at hz;cases hz
  conv=>whnf
  rw[hk];refine⟨O,?_⟩;conv=>whnf
  rw[bitR O O];refine brI (fun h3=>?_) (fun h3=>?_)
  .have h3:=hb1.1 (by have:=beq_iff_eq.1 h3;omega);conv=>whnf
   refine⟨ai0 ?_,lh0⟩;rw[wI (x:=32*_) O,wI (x:=32*_+_) O,wI O];omega
  .have h3:=mt hb1.2 (by have:=beq_eq_false_iff_ne.1 h3;omega);conv=>whnf
   refine⟨k,⟨O,O⟩,by show k<k+1;omega,?_⟩
   ((conv=>whnf);refine q1 ?_ ?_;repeat' first|refine lc ?_ ?_|refine lh1 ?_ ?_|refine bc0 ?_|exact KXZ|refine lg0 ?_|refine lt0 ?_)
   all_goals exact ai0 (by rw[wI O])
 .have h1:=Z3 h1;have e:=hb0 (Decidable.byContradiction fun c=>hnz.1 c O);conv=>whnf
  exact⟨ai0 (by rw[e];rfl),lh0⟩
theorem zjg{l:List Int}{i:Nat}{x:Int}(h:l[i]? =some x):l.take (i+1)=l.take i++ [x]:=by
 rw[List.take_add_one,h];rfl
theorem zxf(x i:Nat):(2*(x/2^(32*i) % 4294967296)+2*x/2^(32*i) % 2) % 4294967296=2*x/2^(32*i) % 4294967296/\
 x/2^(32*i) % 4294967296/2147483648=2*x/2^(32*(i+1)) % 2:=by
 have e1:x/2^(32*i)=2*x/2^(32*i)/2:=by
  rw[qD,qV (2^(32*i)),Nat.mul_div_mul_left _ _ OA]
 have e2:2*x/2^(32*(i+1))=2*x/2^(32*i)/4294967296:=by
  have e3:(2:Nat)^(32*(i+1))=2^(32*i)*2^32:=by rw[<-qJ,Nat.mul_succ]
  have e4:(2:Nat)^32=4294967296:=OA;rw[e3,e4,<-qD]
 rw[e2,e1];generalize 2*x/2^(32*i)=w;omega
theorem qed{w:Nat}(h:w % 2≠0)(h2:w<2):w=1:=O
theorem zzj{w:Nat}(h:w % 2=0)(h2:w<2):w=0:=O
theorem div2{x P:Nat}(h:x<P):2*x/P<2:=qN O
theorem q330(x:Nat)(hl:(toL x).length <=1000):Fn 191 [] [.sl .u32 (toL x),.int .u64 0] (.sl .u32 (toL (2*x))) []:=by
 have hge:(toL x).length <=(toL (2*x)).length :=jq (O:x<=2*x) (qO _);have hlim:=zjf x;have hatx:=zfc x;have hat:=zfc (2*x);have hln:∀k,(toL (2*x)).length <=k<->2*x<2^(32*k):=fun k=>qd _ _
 have hdb:=zxf x;have hd0:2*x/2^(32*0) % 2=0:=by rw[qW,qC,w6];omega
 generalize toL (2*x)=z at*;generalize toL x=t at*;refine fnT xu hmx Tryz.func191 rfl rfl (ex:= []) ?_;conv=>whnf
 refine⟨Nat,fun i=>i<=t.length,fun i=> [(7,.int .i64 i),(5,.own 25),(6,.int .u32 (2*x/2^(32*i) % 2:Nat))],fun i=> [(25,.buf 101 .u32 (z.take i))],fun i=>t.length-i,0,qI _,?_,fun i hi=>?_⟩
 ·((conv=>whnf);refine q1 ?_ ?_;repeat' first|refine lc ?_ ?_|refine lh1 ?_ ?_|refine bc0 ?_|exact KXZ|refine lg0 ?_|refine lt0 ?_)
  all_goals first|exact trivial|exact⟨rfl,rfl⟩|exact ai0 (by rw[hd0];rfl)
 have hi:i<=t.length:=hi;refine gYe ?_;refine brI (fun h1=>?_) (fun h1=>?_)
 .have h1:i<t.length:=by have:=Z0 h1;omega
  conv=>whnf
  refine⟨⟨O,O⟩,fun(y:Int)hy=>?_⟩;have hy:t[i]? =some y:=by simpa using hy
  have hy2:=hy;rw[hatx i h1]at hy2;cases hy2
  have hc:2*x/2^(32*i) % 2<=1:=O;have hz:=hat i O;obtain⟨d1,d2⟩:=hdb i;have hor:=qfm (qF (x/2^(32*i)) (OA:0<4294967296)) hc;rw[d1]at hor;conv=>whnf
  refine⟨OA,?_⟩;conv=>whnf
  refine⟨by simp only[qE,qM,qA];omega,?_⟩;conv=>whnf
  refine⟨⟨O,O⟩,fun(y2:Int)hy2=>?_⟩;have hy2:t[i]? =some y2:=by simpa using hy2
  rw[hy]at hy2;cases hy2
  conv=>whnf
  refine⟨OA,?_⟩;conv=>whnf
  refine⟨i+1,by show i+1<=t.length;omega,by show t.length-(i+1)<t.length-i;omega,?_⟩
  ((conv=>whnf);refine q1 ?_ ?_;repeat' first|refine lc ?_ ?_|refine lh1 ?_ ?_|refine bc0 ?_|exact KXZ|refine lg0 ?_|refine lt0 ?_)
  .exact ai0 (by rw[qdv,d2])
  .exact ai0 (by rw[wI O];omega)
  .exact bb0 (by rw[zjg hz];exact congrArg (fun q=>z.take i++ [q]) hor)
 .have h1:¬i<t.length:=by have:=Z3 h1;omega
  obtain rfl:i=t.length:=O;conv=>whnf
  refine brI (fun h2=>?_) (fun h2=>?_)
  .have h2:2*x/2^(32*t.length) % 2≠0:=by have:=bne_iff_ne.1 h2;omega
   have e1:2*x/2^(32*t.length)=1:=qed h2 (div2 hlim);have hlen:z.length=t.length+1:=by
    have a1:¬z.length<=t.length:=by
     rw[hln];intro c;rw[qL c]at e1;cases e1
    have a2:z.length<=t.length+1:=by
     rw[hln,(O:32*(t.length+1)=32*t.length+32),qJ];omega
    omega
   have hz:=hat t.length O;rw[e1]at hz;have hz:z[t.length]? =some (1:Int):=hz;have hzz:z=z.take t.length++ [1]:=by rw[<-zjg hz,<-hlen,qP]
   rw[e1];conv=>whnf
   refine⟨by simp only[qE,qM,qA];omega,?_⟩;conv=>whnf
   refine⟨?_,lh0⟩;exact vp hzz.symm
  .have h2:2*x/2^(32*t.length) % 2=0:=by have:=bne_eq_false_iff_eq.1 h2;omega
   have hlen:z.length<=t.length:=by
    rw[hln];refine Nat.not_le.1 fun c=>?_
    have e0:=zzj h2 (div2 hlim);have:=w4 c (q0 _);omega
   conv=>whnf
   refine⟨?_,lh0⟩;exact vp (qX hlen)
theorem toL_1:toL 1= [1]:=by rw[uj OA];rfl
theorem zz7{x:Nat}(he:x % 2=0)(h0:x≠0):(toL x).set 0 (((x % 4294967296+1:Nat)):Int)=toL (x+1):=by
 rw[uj h0,uj (O:x+1≠0),List.set_cons_zero,show(x+1)/4294967296=x/4294967296 by omega,show(x+1) % 4294967296=x % 4294967296+1 by omega]
theorem or_1{y:Nat}(hy:y<4294967296)(he:y % 2=0):wM.wrap ((q4 wM.bits (y:Int)|||q4 wM.bits 1).toNat :Int)=((y+1:Nat):Int):=by
 have h:=qcu y 1 hy OA;have:=zsx (v:=y) (i:=0) O;rw[show(2:Nat)^0=1 from rfl]at this;rw[this]at h;exact h
theorem q331(x:Nat)(he:x % 2=0)(hl:(toL x).length <=1000):Fn 192 [] [.sl .u32 (toL x)] (.sl .u32 (toL (x+1))) []:=by
 by_cases h0:x=0
 .subst h0;rw[wp,toL_1];refine fnT xu hmx Tryz.func192 rfl rfl (ex:= []) ?_;conv=>whnf
  exact⟨lr rfl,lh0⟩
 have hn:(toL x).length ≠0:=mt wv.1 h0;have hat:=zfc x 0 O;rw[qW,qC,w6]at hat;have hs:=zz7 he h0;have ho:=or_1 (qF x (OA:0<4294967296)) O;generalize toL (x+1)=z at*;generalize toL x=t at*;refine fnT xu hmx Tryz.func192 rfl rfl (ex:= []) ?_;conv=>whnf
 refine brI (fun h1=>?_) (fun h1=>?_)
 .have h1:=beq_iff_eq.1 h1;omega
 conv=>whnf
 refine⟨by simp only[qA];omega,?_⟩;conv=>whnf
 refine⟨⟨O,OE⟩,?_⟩;conv=>whnf
 refine⟨OE,fun(y:Int)hy=>?_⟩;have hy:t[0]? =some y:=by simpa using hy
 rw[hat]at hy;cases hy
 conv=>whnf
 refine⟨⟨O,OE⟩,?_⟩;conv=>whnf
 refine⟨OE,?_⟩;conv=>whnf
 refine⟨?_,lh0⟩;refine vp ?_;rw[<-hs,<-ho];rfl
structure NxI(o l:List Int)(k:Nat):Prop where
 len:l.length=o.length
 lb:LB l
 drop:l.drop k=o.drop k
 sum:val (l.take k)=0
 ones:val (o.take k)+1=4294967296^k
theorem NxI.zero{o:List Int}(h:LB o):NxI o o 0:=⟨rfl,h,rfl,by simp[val],by simp[val]⟩
theorem NxI.hit{o l:List Int}{k y:Nat}(h:NxI o l k)(hk:k<o.length)(hy:(l[k]?.getD 0).toNat =y)(hy1:y+1<4294967296):val (l.set k ((y+1:Nat):Int))=val o+1/\LB (l.set k ((y+1:Nat):Int))/\(l.set k ((y+1:Nat):Int)).length =o.length:=by
 obtain⟨h1,h2,h3,h4,h5⟩:=h;refine⟨?_,h2.set O,by simp[h1]⟩;have e1:=zc6 ((l.set k ((y+1:Nat):Int)).take (k+1)) ((l.set k ((y+1:Nat):Int)).drop (k+1));rw[qY,zem,zcr h3,xy O,h4,qE,List.length_set]at e1;have e2:=zc6 (o.take (k+1)) (o.drop (k+1));rw[qY,jo,<-zf2 h3,hy,qE]at e2;rw[(O:min (k+1) l.length=k+1)]at e1;rw[(O:min (k+1) o.length=k+1)]at e2;rw[e1,e2,wJ,w7];omega
theorem NxI.step{o l:List Int}{k:Nat}(h:NxI o l k)(hk:k<o.length)(hy:(l[k]?.getD 0).toNat =4294967295):NxI o (l.set k ((0:Nat):Int)) (k+1):=by
 obtain⟨h1,h2,h3,h4,h5⟩:=h;refine⟨by simp[h1],h2.set O,by rw[zem];exact zcr h3,by rw[xy O,h4];omega,?_⟩;rw[jo,<-zf2 h3,hy,qB];omega
theorem q335(x:Nat)(hl:(toL x).length <=1000):Fn 196 [] [.sl .u32 (toL x)] (.sl .u32 (toL (x+1))) []:=by
 have hlim:=zjf x;have hb:=zk x;have hv:=zg x;have hge:(toL x).length <=(toL (x+1)).length :=jq (O:x<=x+1) (qO _);have hfin:∀l:List Int,LB l->val l=x+1->l.length=(toL x).length ->l=toL (x+1):=fun l h1 h2 h3=>zx7 h1 h2 (by
  have:(toL (x+1)).length <=l.length:=(qd _ _).2 (by rw[<-h2];exact zc1 h1);omega)
 have hfin2:∀l:List Int,LB l->val l=x+1->l.length=(toL x).length +1->x+1=4294967296^(toL x).length ->l=toL (x+1):=fun l h1 h2 h3 h4=>zx7 h1 h2 (by
  have h5:(toL (x+1)).length <=l.length:=(qd _ _).2 (by rw[<-h2];exact zc1 h1);have h6:¬(toL (x+1)).length <=(toL x).length :=by
   rw[qd,h4,Nat.pow_mul];exact Nat.lt_irrefl _
  omega)
 have hZ:=NxI.zero hb;generalize toL (x+1)=z at*;generalize toL x=t at*;refine fnT xu hmx Tryz.func196 rfl rfl (ex:= []) ?_;conv=>whnf
 refine⟨by simp only[qA];omega,?_⟩;conv=>whnf
 refine⟨Nat×List Int,fun s=>s.1<=t.length/\NxI t s.2 s.1,fun s=> [(4,.int .i64 s.1),(5,.any)],fun s=> [(7,.buf 101 .u32 s.2)],fun s=>t.length-s.1,(0,t),⟨qI _,hZ⟩,?_,fun s hs=>?_⟩
 .exact KZ0
 obtain⟨k,l⟩:=s;obtain⟨hk,hI⟩:=hs;simp only at hk hI;have hll:=hI.len;refine gYe ?_;refine brI (fun c=>?_) (fun c=>?_)
 .have c:k<t.length:=by have:=Z0 c;simp only at this;omega
  have hx:=qT (l:=l) (i:=k) O;generalize l[k]'(O)=y0 at hx;have hyb:=hI.lb y0 (w5 hx);obtain⟨y,rfl⟩:∃y:Nat,y0=(y:Int):=⟨y0.toNat,O⟩;have hxg:(l[k]?.getD 0).toNat =y:=by rw[hx];rfl
  conv=>whnf
  refine⟨⟨O,OD⟩,?_⟩;conv=>whnf
  refine⟨by simp only[q3];omega,fun(w:Int)hw=>?_⟩;have hw:l[k]? =some w:=by simpa using hw
  rw[hx]at hw;cases hw
  conv=>whnf
  refine⟨⟨O,OD⟩,?_⟩;conv=>whnf
  refine⟨by simp only[q3];omega,?_⟩;conv=>whnf
  refine⟨⟨O,OE⟩,?_⟩;conv=>whnf
  refine⟨OE,fun(w:Int)hw=>?_⟩;have e0:(l.set (k:Int).toNat (wM.wrap ((y:Int)+1)))[(k:Int).toNat]? =some w:=hw;rw[q3,List.getElem?_set_self O]at e0;cases e0
  have ew:wM.wrap ((y:Int)+1)=(((y+1) % 4294967296:Nat):Int):=zks (y+1);conv=>whnf
  rw[ew];refine brI (fun c2=>?_) (fun c2=>?_)
  .have c2:(y+1) % 4294967296≠0:=by have:=bne_iff_ne.1 c2;omega
   have hy1:y+1<4294967296:=O;obtain⟨v1,v2,v3⟩:=hI.hit c hxg hy1;rw[q2 hy1];conv=>whnf
   refine⟨vp ?_,lh0⟩;exact hfin (l.set k ((y+1:Nat):Int)) v2 (by rw[v1,hv]) v3
  .have c2:(y+1) % 4294967296=0:=by have:=bne_eq_false_iff_eq.1 c2;omega
   have hst:=hI.step c (by rw[hxg];omega);rw[c2];conv=>whnf
   refine⟨(k+1,l.set k ((0:Nat):Int)),⟨by show k+1<=t.length;omega,hst⟩,by show t.length-(k+1)<t.length-k;omega,?_⟩;exact KZ0
 .have c:k=t.length:=by have:=Z3 c;simp only at this;omega
  subst c;have h4:=hI.ones;rw[qP,hv]at h4;have h5:=hI.sum;rw[qX O]at h5;conv=>whnf
  refine⟨by simp only[qM,qA];omega,?_⟩;conv=>whnf
  refine⟨vp ?_,lh0⟩;refine hfin2 (l++ [1]) (fun z hz=>?_) ?_ (by simp[hll]) h4
  .rcases List.mem_append.1 hz with hz|hz
   .exact hI.lb z hz
   .have:z=1:=by simpa using hz
    omega
  .rw[zc6,h5,hll,<-hv,hv,h4];show 0+_*1=_;omega
theorem zsw{w k:Nat}(hk:k<32):wM.wrap ((q4 wM.bits ((w % 2^k:Nat):Int)|||q4 wM.bits (wM.wrap (wM.wrap ((w/2^k % 2:Nat):Int)*2^min ((k:Nat):Int).toNat wM.bits))).toNat :Int)=((w % 2^(k+1):Nat):Int):=by
 have hp:2^k<4294967296:=w0 (a:=2) OA (show k<32 from hk);have hb:w/2^k % 2<2:=qF _ OA;have hm:w % 2^k<2^k:=qF _ (q0 k);have e0:wM.wrap ((w/2^k % 2:Nat):Int)=((w/2^k % 2:Nat):Int):=by rw[zks,q2 O]
 have hle:w/2^k % 2*2^k<=2^31:=by
  have h1:w/2^k % 2*2^k<=1*2^k:=Nat.mul_le_mul_right _ O;have h2:2^k<=2^31:=qK OA O;omega
 have e1:wM.wrap (((w/2^k % 2:Nat):Int)*2^min ((k:Nat):Int).toNat wM.bits)=((w/2^k % 2*2^k:Nat):Int):=by
  rw[q3,show min k wM.bits=k from wE (by show k<=32;omega)];rw[show((w/2^k % 2:Nat):Int)*2^k=((w/2^k % 2*2^k:Nat):Int) by rw[Int.natCast_mul,Int.natCast_pow];rfl];rw[zks,q2 O]
 rw[e0,e1];refine Eq.trans (qcu _ _ O O) ?_
 congr 1
 rw[Nat.or_comm,qV,<-Nat.two_pow_add_eq_or_of_lt hm,qB,wC];omega
theorem zpx(x t n:Nat):x/2^(t+n) % 2=x/2^t/2^n % 2:=by rw[qD,qJ]
theorem q334(neg:Bool)(x:Nat)(hl:(toL x).length <=900)(e:Int)(he: -1000000<=e/\e<=1000000):Fn 195 [] [.bool neg,.sl .u32 (toL x),.int .i64 e] (.agg (dyC (cnN neg x e))) []:=by
 have c332:=q332 x O;by_cases hx:x=0
 .have e0:cnN neg x e=d0:=by unfold cnN;rw[Z6 hx]
  rw[e0];rw[hx,qx]at c332;rw[hx];refine fnT xu hmx Tryz.func195 rfl rfl (ex:= []) ?_;conv=>whnf
  refine gYn c332 ?_;exact⟨lg0 (lc (lr rfl) (lc (li0 rfl) (lc (lr rfl) ln0))),lh0⟩
 have hbx:bl x≠0:=mt kj.1 hx;have hbl:bl x<=28800:=by have:=(zu x 900).1 hl;omega
 obtain⟨m0,ho1,ho2⟩:=kq hx;have hy0:x/2^tz x≠0:=by
  have:x/2^tz x=m0:=qG (q0 _) ho1;omega
 have hbs:bl x=bl (x/2^tz x)+tz x:=by obtain⟨m,_,_,h3,h4⟩:=zdh hx;rw[h3];exact h4
 have c333:∀i,i<=100000->Fn 194 [] [.sl .u32 (toL x),.int .i64 (i:Nat)] (.int .i64 (x/2^i % 2:Nat)) []:=fun i hi=>q333 x i O O
 have htz:∀n,n<=tz x->(x/2^n % 2=0<->n<tz x):=fun n hn=>zx6 hx hn
 have hsh:∀n,x/2^(tz x+n) % 2=x/2^tz x/2^n % 2:=zpx x (tz x);have hcn:cnN neg x e=⟨neg,toL (x/2^tz x),e+tz x⟩:=by unfold cnN;rw[Z7 hx]
 rw[hcn];have hlim:=zu (x/2^tz x);have hat:=zfc (x/2^tz x);clear hcn ho1 ho2 hl;generalize toL x=t at*;generalize x/2^tz x=y at*;generalize tz x=s at*;generalize bl x=n at*;generalize toL y=z at*;refine fnT xu hmx Tryz.func195 rfl rfl (ex:= []) ?_;conv=>whnf
 refine gYn c332 ?_;refine brI (fun c=>?_) (fun c=>?_)
 .have c:=beq_iff_eq.1 c;omega
 conv=>whnf
 refine⟨Nat,fun j=>j<=s,fun j=> [(8,.int .i64 j)],fun _=> [],fun j=>s-j,0,qI _,?_,fun j hj=>?_⟩
 .exact KZ0
 have hj:j<=s:=hj;refine gYe ?_;refine gYn (c333 j O) ?_;refine brI (fun c1=>?_) (fun c1=>?_)
 .have c1:j<s:=(htz j hj).1 (by have:=beq_iff_eq.1 c1;omega);conv=>whnf
  refine⟨j+1,by show j+1<=s;omega,by show s-(j+1)<s-j;omega,?_⟩;exact KZ0
 have c1:j=s:=by
  have h1:=mt (htz j hj).2 (by have:=beq_eq_false_iff_ne.1 c1;omega);omega
 subst c1;conv=>whnf
 rw[wI O];refine⟨Nat,fun i=>i<=z.length,fun i=> [(10,.int .i64 (j+32*i))],fun i=> [(9,.cells [.bool neg,.own 53,.int .i64 (e+j)]),(53,.buf 101 .u32 (z.take i))],fun i=>z.length-i,0,qI _,?_,fun i hi=>?_⟩
 ·((conv=>whnf);refine q1 ?_ ?_;repeat' first|refine lc ?_ ?_|refine lh1 ?_ ?_|refine bc0 ?_|exact KXZ|refine lg0 ?_|refine lt0 ?_)
  all_goals first|exact trivial|exact⟨rfl,rfl⟩|exact ai0 O
 have hi:i<=z.length:=hi;have hlim2:=hlim i;refine gYe ?_;refine brI (fun c2=>?_) (fun c2=>?_)
 .have c2:i<z.length:=by have:=Z0 c2;omega
  have hz:=hat i c2;conv=>whnf
  refine⟨Nat,fun k=>k<=32,fun k=> [(12,.int .i64 k),(11,.int .u32 (y/2^(32*i) % 2^k:Nat))],fun _=> [],fun k=>32-k,0,qI _,?_,fun k hk=>?_⟩
  ·((conv=>whnf);refine q1 ?_ ?_;repeat' first|refine lc ?_ ?_|refine lh1 ?_ ?_|refine bc0 ?_|exact KXZ|refine lg0 ?_|refine lt0 ?_)
   exact ai0 (by rw[qC,wD];rfl)
  have hk:k<=32:=hk;refine gYe ?_;refine brI (fun c3=>?_) (fun c3=>?_)
  .have c3:k<32:=by have:=Z0 c3;omega
   have hw:wL.wrap ((j:Int)+32*(i:Int)+(k:Int))=((j+(32*i+k):Nat):Int):=by rw[wI O];omega
   have hb:x/2^(j+(32*i+k)) % 2=y/2^(32*i)/2^k % 2:=by rw[hsh,zpx]
   have cc:=c333 (j+(32*i+k)) O;rw[hb]at cc;have hor:=zsw (w:=y/2^(32*i)) c3;conv=>whnf
   rw[hw];refine gYn cc ?_;refine⟨O,?_⟩;conv=>whnf
   refine⟨k+1,by show k+1<=32;omega,by show 32-(k+1)<32-k;omega,?_⟩;exact KZ0
  .have c3:k=32:=by have:=Z3 c3;omega
   subst c3;conv=>whnf
   refine⟨by simp only[qE,qM,qA];omega,?_⟩;conv=>whnf
   refine⟨i+1,by show i+1<=z.length;omega,by show z.length-(i+1)<z.length-i;omega,?_⟩
   ((conv=>whnf);refine q1 ?_ ?_;repeat' first|refine lc ?_ ?_|refine lh1 ?_ ?_|refine bc0 ?_|exact KXZ|refine lg0 ?_|refine lt0 ?_)
   .exact ai0 (by rw[wI O];omega)
   .exact bb0 (by rw[zjg hz])
 .have c2:i=z.length:=by have:=Z3 c2;omega
  subst c2;rw[qP];conv=>whnf
  exact⟨lr rfl,lh0⟩
theorem and64{n:Nat}(h:n<18446744073709551616):wN.wrap ((q4 wN.bits (n:Int)&&& q4 wN.bits 1).toNat :Int)=((n % 2:Nat):Int):=by
 have e1:(q4 64 (n:Int)).toNat =n:=by rw[BitVec.ofInt_natCast,BitVec.toNat_ofNat];exact q2 h
 have e2:(q4 64 1).toNat =2^1-1:=OA;have e3:(q4 64 (n:Int)&&& q4 64 1).toNat =n % 2:=by
  rw[BitVec.toNat_and,e1,e2,Nat.and_two_pow_sub_one_eq_mod]
 show wN.wrap ((q4 64 (n:Int)&&& q4 64 1).toNat :Int)=_;rw[e3];have:n % 2<2:=qF _ OA;exact wUn O
theorem sh64{n k:Nat}(hk:k<=64):(n:Int).fdiv (2^min ((k:Nat):Int).toNat wN.bits)=((n/2^k:Nat):Int):=by
 rw[q3,show min k wN.bits=k from wE (by show k<=64;omega),Int.fdiv_eq_ediv_of_nonneg _ (Int.pow_nonneg OA)];simp
theorem qf4{n k:Nat}(hk:k<=64)(hn:n<18446744073709551616):wN.wrap ((q4 wN.bits ((n:Int).fdiv (2^min ((k:Nat):Int).toNat wN.bits))&&& q4 wN.bits 1).toNat :Int)=((n/2^k % 2:Nat):Int):=by
 rw[sh64 hk,and64 (qR (qH _ _) hn)]
theorem qfg{n d:Nat}(hn:n<18446744073709551616)(hd:0<d):∃(Q D E:Nat->List Int)(R:Nat->Nat),(∀j,Fn 191 [] [.sl .u32 (Q j),.int .u64 0] (.sl .u32 (D j)) [])/\(∀j,Fn 192 [] [.sl .u32 (D j)] (.sl .u32 (E j)) [])/\(∀j,(Q j).length <=2)/\Q 64= []/\R 64=0/\(∀j,R j<d)/\
 (∀j,(2*R (j+1)+n/2^j % 2<d->R j=2*R (j+1)+n/2^j % 2/\Q j=D (j+1))/\(¬2*R (j+1)+n/2^j % 2<d->R j=2*R (j+1)+n/2^j % 2-d/\Q j=E (j+1))/\2*R (j+1)+n/2^j % 2<2*d)/\Q 0=toL (n/d)/\R 0=n % d:=by
 have hl:∀j,(toL (n/2^j/d)).length <=2:=fun j=>(qd _ _).2 (qR (qQ (qH _ _) (qH _ _)) hn)
 have hl2:∀j,(toL (2*(n/2^j/d))).length <=3:=fun j=>(qd _ _).2 (by
  have:n/2^j/d<=n:=qQ (qH _ _) (qH _ _);omega)
 have h64:n/2^64=0:=qL hn;refine⟨fun j=>toL (n/2^j/d),fun j=>toL (2*(n/2^j/d)),fun j=>toL (2*(n/2^j/d)+1),fun j=>n/2^j % d,fun j=>q330 _ (by have:=hl j;omega),fun j=>q331 _ O (by have:=hl2 j;omega),hl,?_,?_,fun j=>qF _ hd,fun j=>?_,?_,?_⟩
 .show toL (n/2^64/d)= [];rw[h64,wH,wp]
 .show n/2^64 % d=0;rw[h64,Nat.zero_mod]
 .obtain⟨a,b,c⟩:=zt6 n d j hd;exact⟨fun h=>⟨(a h).1,congrArg toL (a h).2⟩,fun h=>⟨(b h).1,congrArg toL (b h).2⟩,c⟩
 .show toL (n/2^0/d)=_;rw[qC,w6]
 .show n/2^0 % d=_;rw[qC,w6]
theorem qbo(a d:Nat)(hd:0<d):(2*(a % d)<d->2*a % d=2*(a % d)/\2*a/d=2*(a/d))/\(¬2*(a % d)<d->2*a % d=2*(a % d)-d/\2*a/d=2*(a/d)+1):=by
 have h1:=Nat.div_add_mod a d;have h3:=qF a hd;generalize a % d=r at*;generalize a/d=q at*;subst h1;refine⟨fun c=>?_,fun c=>?_⟩
 .have hq:=(wi hd (a:=2*(d*q+r)) (c:=2*r) (d:=2*q)).2 ⟨by rw[wB];omega,c⟩;exact⟨hq.2,hq.1⟩
 .have hq:=(wi hd (a:=2*(d*q+r)) (c:=2*r-d) (d:=2*q+1)).2 ⟨by rw[wJ,wB];omega,O⟩;exact⟨hq.2,hq.1⟩
theorem qff{n d C p:Nat}(hd:0<d)(hp:p<=20000)(hn:n<18446744073709551616)(h2:∀c,c<C->bl (n*2^c/d)<p):∃(Q D E:Nat->List Int)(R:Nat->Nat),(∀c,c<C->Fn 191 [] [.sl .u32 (Q c),.int .u64 0] (.sl .u32 (D c)) [])/\(∀c,c<C->Fn 192 [] [.sl .u32 (D c)] (.sl .u32 (E c)) [])/\(∀c,R c<d)/\
 (∀c,(2*R c<d->R (c+1)=2*R c/\Q (c+1)=D c)/\(¬2*R c<d->R (c+1)=2*R c-d/\Q (c+1)=E c))/\(∀c,Q c=toL (n*2^c/d))/\(∀c,R c=n*2^c % d)/\bl (n*2^C/d)<=20000/\∀c,c<=C->Fn 193 [] [.sl .u32 (Q c)] (.int .i64 (bl (n*2^c/d):Nat)) []:=by
 have hb:∀c,c<C->bl (n*2^c/d)<=20000:=fun c hc=>by have:=h2 c hc;omega
 have hl:∀c,c<C->(toL (n*2^c/d)).length <=700:=fun c hc=>(zu _ _).2 (by have:=hb c hc;omega)
 have hs:∀x,bl (2*x)<=bl x+1:=fun x=>vr.2 (by rw[qB];have:=zaq x;omega)
 have hs1:∀x,bl (2*x+1)<=bl x+1:=fun x=>vr.2 (by rw[qB];have:=zaq x;omega)
 have hl2:∀c,c<C->(toL (2*(n*2^c/d))).length <=700:=fun c hc=>(zu _ _).2 (by have:=hb c hc;have:=hs (n*2^c/d);omega)
 have hst:∀c,_:=fun c=>qbo (n*2^c) d hd
 have hpw:∀c,n*2^(c+1)=2*(n*2^c):=fun c=>by rw[qB,<-w9,qV]
 have hC:bl (n*2^C/d)<=20000:=by
  cases C with
  |zero=>
   rw[qC,w7];have h:bl (n/d)<=64:=vr.2 (qR (qH _ _) hn);omega
  |succ c=>
   have h:=h2 c (Nat.lt_succ_self c);obtain⟨a,b⟩:=hst c;rw[hpw];by_cases hc:2*(n*2^c % d)<d
   .rw[(a hc).2];have:=hs (n*2^c/d);omega
   .rw[(b hc).2];have:=hs1 (n*2^c/d);omega
 refine⟨fun c=>toL (n*2^c/d),fun c=>toL (2*(n*2^c/d)),fun c=>toL (2*(n*2^c/d)+1),fun c=>n*2^c % d,fun c hc=>q330 _ (by have:=hl c hc;omega),fun c hc=>q331 _ O (by have:=hl2 c hc;omega),fun c=>qF _ hd,fun c=>?_,fun _=>rfl,fun _=>rfl,hC,fun c hc=>q332 _ ?_⟩
 .obtain⟨a,b⟩:=hst c;show(_->n*2^(c+1) % d=_/\toL (n*2^(c+1)/d)=_)/\(_->n*2^(c+1) % d=_/\toL (n*2^(c+1)/d)=_);rw[hpw];exact⟨fun h=>⟨(a h).1,congrArg toL (a h).2⟩,fun h=>⟨(b h).1,congrArg toL (b h).2⟩⟩
 .refine(zu _ _).2 ?_;rcases wn hc with hc|hc
  .have:=hb c hc;omega
  .rw[hc];omega
def exE(n d p C:Nat):Bool:=decide (n*2^C % d=0/\n*2^C/d % 2^(bl (n*2^C/d)-p)=0)
def maE(n d p C:Nat)(up:Bool):Nat:=if(exE n d p C|| !up)=true then n*2^C/d/2^(bl (n*2^C/d)-p)else n*2^C/d/2^(bl (n*2^C/d)-p)+1
theorem zo2(a d K:Nat)(hd:0<d):a % d=0/\a/d % K=0<->a % (d*K)=0:=by
 rw[wC];constructor
 .rintro⟨h,h'⟩;rw[h,h',qW]
 .intro h;exact⟨O,(wF.1 (O:d*(a/d % K)=0)).resolve_left O⟩
theorem zpk{n d p C:Nat}(neg up:Bool)(hn0:0<n)(hn:n<=1073741824)(hd0:0<d)(hp:8<=p/\p<=512)(h1:p<=bl (n*2^C/d))(hC:C<=10000):
 xi neg (n*2^(C+1)/d) (-((C:Int)+1)) (decide (n*2^(C+1) % d≠0)) p up=(cnN neg (maE n d p C (neg != up)) ((bl (n*2^C/d)-p:Nat)-(C:Int)),0)/\p<bl (n*2^(C+1)/d):=by
 have hA:n*2^(C+1)=n*2^C*2:=by rw[qB,w9]
 have hblA:bl (n*2^C)=bl n+C:=zq n C O;have hbn:bl n<=31:=vr.2 O;have hM:bl (n*2^C/d)<=bl (n*2^C):=zz (qH _ _);have hex:exE n d p C=true<->n*2^(C+1) % d=0/\n*2^(C+1)/d % 2^(bl (n*2^C/d)-p+1)=0:=by
  unfold exE;rw[decide_eq_true_iff,zo2 _ _ _ hd0,zo2 _ _ _ hd0,hA,qB,<-w9,Nat.mul_mod_mul_right];constructor
  .intro h;rw[h,wG]
  .intro h;omega
 have hh:n*2^(C+1)/d/2=n*2^C/d:=by
  rw[hA,qD,Nat.mul_div_mul_right _ _ OA]
 have hmd:maE n d p C (neg != up)=if(exE n d p C|| !(neg != up))=true then n*2^C/d/2^(bl (n*2^C/d)-p)else n*2^C/d/2^(bl (n*2^C/d)-p)+1:=rfl
 rw[hmd];clear hmd;have hm0:n*2^(C+1)/d≠0:=fun c=>by rw[c]at hh;rw[<-hh]at h1;rw[show 0/2=0 from rfl,qx]at h1;omega
 have hb2:bl (n*2^(C+1)/d)=bl (n*2^C/d)+1:=by rw[zkn hm0,hh]
 have hlt:p<bl (n*2^(C+1)/d):=O;refine⟨?_,hlt⟩;rw[<-zbw _ _ _ _ _ _ (fun _=>hlt) (fun h=>absurd h hm0) hp];have hq:n*2^(C+1)/d/2^(bl (n*2^C/d)-p+1)=n*2^C/d/2^(bl (n*2^C/d)-p):=by
  rw[show 2^(bl (n*2^C/d)-p+1)=2*2^(bl (n*2^C/d)-p) by rw[qB,qV],<-qD,hh]
 have hyb:bl (n*2^C/d/2^(bl (n*2^C/d)-p))=p:=by
  have h0:n*2^C/d≠0:=fun c=>by rw[c,qx]at h1;omega
  have hge:2^(bl (n*2^C/d)-p)<=n*2^C/d:=(xd h0).1 O;rw[xg _ _ hge];omega
 generalize exE n d p C=ex at*;generalize n*2^(C+1) % d=R2 at*;generalize n*2^(C+1)/d=M2 at*;generalize n*2^C/d=M at*;obtain⟨L,hL⟩:∃L,bl M=p+L:=⟨bl M-p,O⟩;have hLe:bl M-p=L:=O;rw[hLe]at hex hyb hq⊢;have hk:kR M2 (-((C:Int)+1)) p=L+1:=by unfold kR;omega
 have hmo:moR M2 (-((C:Int)+1)) p (decide (R2≠0))= !ex:=by
  unfold moR;rw[hk]
  cases ex with
  |true=>
   obtain⟨a,b⟩:=hex.1 rfl;rw[a,b];rfl
  |false=>
   have:=mt hex.2 OA;by_cases a:R2=0
   .have b:M2 % 2^(L+1)≠0:=fun b=>this ⟨a,b⟩
    simp[b]
   .simp[a]
 have hqu:quR neg M2 (-((C:Int)+1)) p (decide (R2≠0)) up=if(ex|| !(neg != up))=true then M/2^L else M/2^L+1:=by
  unfold quR;rw[hmo,hk,hq];generalize (neg != up)=w;cases ex<;>cases w<;>rfl
 have hbq:bl (if(ex|| !(neg != up))=true then M/2^L else M/2^L+1)<=p+1:=by
  split
  .omega
  .have:=zbz (M/2^L);omega
 unfold zhk;rw[hqu,hk];generalize (if(ex|| !(neg != up))=true then M/2^L else M/2^L+1)=q at*;rw[Z7 O]
 congr 2
 omega
def zhg(n d p C:Nat)(neg up:Bool):Dy:=cnN neg (maE n d p C (neg != up)) ((bl (n*2^C/d)-p:Nat)-(C:Int))
theorem qbk{n d p C:Nat}(neg:Bool)(hn0:0<n)(hn:n<=1073741824)(hd0:0<d)(hp:8<=p/\p<=512)(h1:p<=bl (n*2^C/d))(hC:C<=10000):
 RT p (if neg=true then-(vN n 0/vN d 0)else vN n 0/vN d 0) (fun up=>(zhg n d p C neg up,0))/\∀up,VD (zhg n d p C neg up):=by
 have hE:∀up,_:=fun up=>(zpk neg up hn0 hn hd0 hp h1 hC).1
 have hbit:=(zpk neg true hn0 hn hd0 hp h1 hC).2;refine⟨?_,fun up=>?_⟩
 .rw[show(fun up=>(zhg n d p C neg up,(0:Int)))=_ from funext fun up=>(hE up).symm];have hb:0<vN d 0:=zia _ O;have hx:vN n 0=vN (n*2^(C+1)) (-((C:Int)+1)):=by rw[zb8];congr 1;omega
  have hq:∀q,vN q (-((C:Int)+1))*vN d 0=vN (q*d) (-((C:Int)+1)):=fun q=>by rw[zny];congr 1
  have hdm:=Nat.div_add_mod' (n*2^(C+1)) d;have hml:=qF (n*2^(C+1)) hd0;refine zcb hp _ ?_ ?_ ?_ ?_ ?_ ?_
  .rw[zpl hb,hq,hx,yj];omega
  .rw[zt9 hb,hq,hx,zkw,Nat.succ_mul];omega
  .intro h;have h:n*2^(C+1) % d=0:=by simpa using h
   have e1:vN (n*2^(C+1)/d) (-((C:Int)+1))*vN d 0=vN n 0:=by
    rw[hq,hx];congr 1;omega
   rw[<-e1];grind
  .intro h;have h:n*2^(C+1) % d≠0:=by simpa using h
   refine Rat.not_le.1 fun c=>?_
   have h2:=vz c (Rat.le_of_lt hb);have e1:vN n 0/vN d 0*vN d 0=vN n 0:=by grind
   rw[e1,hq,hx,yj]at h2;omega
  .exact fun _=>hbit
  .intro h;omega
 .have:=zhr neg (n*2^(C+1)/d) (-((C:Int)+1)) (decide (n*2^(C+1) % d≠0)) up p hp;rw[hE]at this;exact this
theorem zt7(n:Int):dv (wg n)=if n<0 then-(vN n.natAbs 0)else vN n.natAbs 0:=by
 unfold wg;rw[zel];by_cases h:n<0<;>simp[h]
theorem zy0{n d p:Int}(hr:rOk ⟨n,d⟩=true)(hn0:n≠0)(hp:pcB p=true){C:Nat}(hC:C<=10000)(h1:p.toNat<=bl (n.natAbs*2^C/d.natAbs))(hn:n.natAbs<=1073741824)(hd:1<=d/\d<=1073741824):
 zmm ⟨n,d⟩ p=⟨zhg n.natAbs d.natAbs p.toNat C (decide (n<0)) false,zhg n.natAbs d.natAbs p.toNat C (decide (n<0)) true,false⟩:=by
 have hpp:=vj hp;obtain⟨R,V⟩:=qbk (n:=n.natAbs) (d:=d.natAbs) (p:=p.toNat) (C:=C) (decide (n<0)) O hn O hpp h1 hC;have hdn:n.natAbs<=1073741824:=hn;have hnd:nm (wg d)≠0:=by
  unfold wg;rw[zld];obtain⟨m0,ho1,ho2⟩:=kq (O:d.natAbs≠0);have:d.natAbs/2^tz d.natAbs=m0:=qG (q0 _) ho1;omega
 have G:=zhj (wu n O) (wu d O) hnd hpp;have e:dv (wg n)/dv (wg d)=if decide (n<0)=true then-(vN n.natAbs 0/vN d.natAbs 0)else vN n.natAbs 0/vN d.natAbs 0:=by
  rw[zt7,zt7,Z7 (O:¬d<0)];by_cases h:n<0
  .simp only[h,decide_true,if_true];grind
  .simp[h]
 rw[e]at G;unfold zmm;rw[Z6 hr,<-zm6 (zqz R G false (V false) (zc5 _ _ _ _ hpp)) (zqz R G true (V true) (zc5 _ _ _ _ hpp))];rfl
theorem tdN(a b:Nat):((a:Nat):Int).tdiv (b:Nat)=((a/b:Nat):Int):=(qZ a b).symm
theorem tmN(a b:Nat):((a:Nat):Int).tmod (b:Nat)=((a % b:Nat):Int):=(w3 a b).symm
theorem qbh(M i:Nat):M % 2^(i+1)=0<->M % 2^i=0/\M/2^i % 2=0:=by
 rw[qB,wC];have:=q0 i;constructor
 .intro h;exact⟨O,(wF.1 (O:2^i*(M/2^i % 2)=0)).resolve_left O⟩
 .rintro⟨h,h'⟩;rw[h,h',qW]
theorem dec0(r:Nat):(((r:Nat):Int)==0)=decide (r=0):=by
 rw[Bool.eq_iff_iff,beq_iff_eq,decide_eq_true_iff];omega
theorem bit0(b:Bool):((((if b=true then 1 else 0:Nat):Nat):Int)==0)=(true&& !b):=by cases b<;>rfl
theorem qfh{n d p C:Nat}(hn:n<=1073741824)(hd0:0<d)(hp:1<=p/\p<=20000)(h1:p<=bl (n*2^C/d))(h2:∀c,c<C->bl (n*2^c/d)<p)(hC:C<=100000):
 ∃(Q D E Q2 D2 E2:Nat->List Int)(R R2 B:Nat->Nat)(z z1:List Int)(y L:Nat)(X b:Nat->Bool)(lo hi:Dy),
 (∀j,Fn 191 [] [.sl .u32 (Q j),.int .u64 0] (.sl .u32 (D j)) [])/\(∀j,Fn 192 [] [.sl .u32 (D j)] (.sl .u32 (E j)) [])/\(∀j,(Q j).length <=2)/\Q 64= []/\R 64=0/\(∀j,R j<d)/\
 (∀j,(2*R (j+1)+n/2^j % 2<d->R j=2*R (j+1)+n/2^j % 2/\Q j=D (j+1))/\(¬2*R (j+1)+n/2^j % 2<d->R j=2*R (j+1)+n/2^j % 2-d/\Q j=E (j+1))/\2*R (j+1)+n/2^j % 2<2*d)/\
 Q 0=Q2 0/\R 0=R2 0/\
 (∀c,c<C->Fn 191 [] [.sl .u32 (Q2 c),.int .u64 0] (.sl .u32 (D2 c)) [])/\(∀c,c<C->Fn 192 [] [.sl .u32 (D2 c)] (.sl .u32 (E2 c)) [])/\(∀c,R2 c<d)/\
 (∀c,(2*R2 c<d->R2 (c+1)=2*R2 c/\Q2 (c+1)=D2 c)/\(¬2*R2 c<d->R2 (c+1)=2*R2 c-d/\Q2 (c+1)=E2 c))/\
 (∀c,c<=C->Fn 193 [] [.sl .u32 (Q2 c)] (.int .i64 (B c:Nat)) [])/\(∀c,c<C->B c<p)/\B C=p+L/\L<=20000/\
 (∀i,i<=100000->Fn 194 [] [.sl .u32 (Q2 C),.int .i64 (i:Nat)] (.int .i64 (if b i=true then 1 else 0:Nat)) [])/\
 (∀i,i<=50000->(if b (L+i)=true then 1 else 0)=y/2^i % 2)/\(∀k,k<z.length->z[k]? =some ((y/2^(32*k) % 4294967296:Nat):Int))/\(∀k,z.length<=k<->p<=32*k)/\y<2^p/\
 X 0=decide (R2 C=0)/\(∀i,X (i+1)=(X i&& !b i))/\
 Fn 195 [] [.bool false,.sl .u32 z,.int .i64 ((L:Nat)-(C:Int))] (.agg (dyC lo)) []/\Fn 196 [] [.sl .u32 z] (.sl .u32 z1) []/\Fn 195 [] [.bool false,.sl .u32 z1,.int .i64 ((L:Nat)-(C:Int))] (.agg (dyC hi)) []/\z.length<=1000/\
 zhg n d p C false false=lo/\zhg n d p C false true=if X L=true then lo else hi:=by
 obtain⟨Q,D,E,R,a330,a331,hQl,hQ64,hR64,hR,hst,hQ0,hR0⟩:=qfg (n:=n) (d:=d) O hd0;obtain⟨Q2,D2,E2,R2,b330,b331,hR2,hst2,hQ2,hRd2,hbm,b332⟩:=qff (n:=n) (d:=d) (C:=C) (p:=p) hd0 hp.2 O h2;obtain⟨L,hL⟩:∃L,bl (n*2^C/d)=p+L:=⟨bl (n*2^C/d)-p,O⟩;have hLe:bl (n*2^C/d)-p=L:=O;have hM0:n*2^C/d≠0:=fun c=>by rw[c,qx]at h1;omega
 have hyb:bl (n*2^C/d/2^L)=p:=by
  have hge:2^L<=n*2^C/d:=(xd hM0).1 O;rw[xg _ _ hge];omega
 have hbit:∀m:Nat,(if decide (m % 2=1)=true then 1 else 0:Nat)=m % 2:=fun m=>by
  rcases Nat.mod_two_eq_zero_or_one m with h|h<;>simp[h]
 have hy1:bl (n*2^C/d/2^L+1)<=p+1:=by have:=zbz (n*2^C/d/2^L);omega
 refine⟨Q,D,E,Q2,D2,E2,R,R2,fun c=>bl (n*2^c/d),toL (n*2^C/d/2^L),toL (n*2^C/d/2^L+1),n*2^C/d/2^L,L,fun i=>decide (R2 C=0/\n*2^C/d % 2^i=0),fun i=>decide (n*2^C/d/2^i % 2=1),cnN false (n*2^C/d/2^L) ((L:Nat)-(C:Int)),cnN false (n*2^C/d/2^L+1) ((L:Nat)-(C:Int)),
  a330,a331,hQl,hQ64,hR64,hR,hst,by rw[hQ0,hQ2,qC,w7],by rw[hR0,hRd2,qC,w7],b330,b331,hR2,hst2,b332,h2,hL,O,fun i hi=>?_,fun i hi=>?_,fun k hk=>zfc _ k hk,fun k=>by rw[zu,hyb],by rw[<-hyb];exact zaq _,?_,fun i=>?_,q334 _ _ ((zu _ 900).2 O) _ O,q335 _ ((zu _ 1000).2 O),q334 _ _ ((zu _ 900).2 O) _ O,(zu _ 1000).2 O,?_,?_⟩
 .show Fn 194 [] [_,_] (.int .i64 ((if decide (n*2^C/d/2^i % 2=1)=true then 1 else 0:Nat):Int)) [];rw[hbit,hQ2];exact q333 _ i ((zu _ 1000).2 O) O
 .show(if decide (n*2^C/d/2^(L+i) % 2=1)=true then 1 else 0:Nat)=_;rw[hbit,zpx]
 .show decide (R2 C=0/\n*2^C/d % 2^0=0)=_;rw[qC,wD];simp
 .show decide (R2 C=0/\n*2^C/d % 2^(i+1)=0)=(decide (R2 C=0/\n*2^C/d % 2^i=0)&& !decide (n*2^C/d/2^i % 2=1));have h:=qbh (n*2^C/d) i;generalize n*2^C/d % 2^i=u at*;generalize n*2^C/d % 2^(i+1)=v at*;generalize n*2^C/d/2^i=w at*;rw[<-decide_not,<-Bool.decide_and];refine decide_eq_decide.2 ?_;rw[h];omega
 .show zhg n d p C false false=_;unfold zhg maE;rw[hLe];simp
 .show zhg n d p C false true=if decide (R2 C=0/\n*2^C/d % 2^L=0)=true then _ else _
  unfold zhg maE exE;rw[hLe,hRd2];by_cases h:n*2^C % d=0/\n*2^C/d % 2^L=0
  .simp[h]
  .simp[h]
theorem q253{n d p C:Nat}(hn:n<=1073741824)(hd0:0<d)(hd:d<=1073741824)(hp:1<=p/\p<=20000)(h1:p<=bl (n*2^C/d))(h2:∀c,c<C->bl (n*2^c/d)<p)(hC:C<=100000):
 Fn 139 [] [.int .u64 n,.int .u64 d,.int .i64 p] (.tup [.agg (dyC (zhg n d p C false false)),.agg (dyC (zhg n d p C false true))]) []:=by
 obtain⟨Q,D,E,Q2,D2,E2,R,R2,B,z,z1,y,L,X,b,lo,hi,a330,a331,hQl,hQ64,hR64,hR,hst,e0,e1,b330,b331,hR2,hst2,b332,hB,hBC,hL,b333,hbs,hat,hlim,hyp,hX0,hX,c334,c335,c334b,hzl,hlo,hhi⟩:=qfh hn hd0 hp h1 h2 hC;rw[hlo,hhi];clear hlo hhi h1 h2;refine fnT xu hmx Tryz.func139 rfl rfl (ex:= []) ?_;conv=>whnf
 refine⟨Nat×AV×Blk,fun x=>x.1<=64/\((x.1=64/\x.2=(.own 21,.buf 101 .u32 []))\/(x.1<64/\x.2=(.sl .u32 (Q x.1),.dead))),fun x=> [(11,.int .i64 (x.1-1)),(8,x.2.1),(9,.int .u64 (R x.1:Nat)),(21,.any)],fun x=> [(21,x.2.2)],fun x=>x.1,(64,.own 21,.buf 101 .u32 []),⟨qO _,.inl ⟨rfl,rfl⟩⟩,?_,fun x hx=>?_⟩
 ·((conv=>whnf);refine q1 ?_ ?_;repeat' first|refine lc ?_ ?_|refine lh1 ?_ ?_|refine bc0 ?_|exact KXZ|refine lg0 ?_|refine lt0 ?_)
  all_goals exact ai0 (by rw[hR64];rfl)
 obtain⟨r,m,bk⟩:=x;obtain⟨hr,hx⟩:=hx;simp only at hr hx
 cases r with
 |zero=>
  obtain⟨h,_⟩|⟨_,hx⟩:=hx
  .cases h
  obtain⟨rfl,rfl⟩:=Prod.mk.inj hx;refine gYe ?_;rw[e0,e1];refine⟨Nat,fun c=>c<=C,fun c=> [(8,.sl .u32 (Q2 c)),(9,.int .u64 (R2 c:Nat)),(10,.int .i64 (-(c:Int)))],fun _=> [],fun c=>C-c,0,qI _,?_,fun c hc=>?_⟩
  .exact KZ0
  have hc:c<=C:=hc;refine gYe ?_;refine gYn (b332 c hc) ?_;refine brI (fun c1=>?_) (fun c1=>?_)
  .have c1:B c<p:=by have:=Z0 c1;omega
   have c2:c<C:=Nat.lt_of_le_of_ne hc fun e=>by subst e;omega
   obtain⟨s1,s2⟩:=hst2 c;have hRc:=hR2 c;have hw:wN.wrap (2*((R2 c:Nat):Int))=((2*R2 c:Nat):Int):=by rw[wU O];omega
   have d1:=b330 c c2;have d2:=b331 c c2;conv=>whnf
   rw[hw];refine gYn d1 ?_;refine brI (fun c3=>?_) (fun c3=>?_)
   .have c3:¬2*R2 c<d:=by have:=Z0 c3;omega
    obtain⟨f1,f2⟩:=s2 c3;conv=>whnf
    refine gYn d2 ?_;refine⟨c+1,c2,by show C-(c+1)<C-c;omega,?_⟩
    ((conv=>whnf);refine q1 ?_ ?_;repeat' first|refine lc ?_ ?_|refine lh1 ?_ ?_|refine bc0 ?_|exact KXZ|refine lg0 ?_|refine lt0 ?_)
    .exact vp f2.symm
    .exact ai0 (by rw[f1,wU O];omega)
    .exact ai0 (by rw[wI O];omega)
   .have c3:2*R2 c<d:=by have:=Z3 c3;omega
    obtain⟨f1,f2⟩:=s1 c3;conv=>whnf
    refine⟨c+1,c2,by show C-(c+1)<C-c;omega,?_⟩
    ((conv=>whnf);refine q1 ?_ ?_;repeat' first|refine lc ?_ ?_|refine lh1 ?_ ?_|refine bc0 ?_|exact KXZ|refine lg0 ?_|refine lt0 ?_)
    .exact vp f2.symm
    .exact ai0 (by rw[f1])
    .exact ai0 (by rw[wI O];omega)
  have c1:c=C:=by
   have:=Z3 c1;rcases wn hc with h|h
   .have:=hB c h;omega
   .exact h
  subst c1;have d2:=b332 c hc;have hlw:wL.wrap (((B c:Nat):Int)-(p:Int))=((L:Nat):Int):=by rw[wI O];omega
  conv=>whnf
  refine gYn d2 ?_;rw[hlw];refine⟨Nat,fun i=>i<=z.length,fun i=> [(16,.int .i64 (32*i)),(15,.own 102)],fun i=> [(102,.buf 101 .u32 (z.take i))],fun i=>z.length-i,0,qI _,?_,fun i hi=>?_⟩
  ·((conv=>whnf);refine q1 ?_ ?_;repeat' first|refine lc ?_ ?_|refine lh1 ?_ ?_|refine bc0 ?_|exact KXZ|refine lg0 ?_|refine lt0 ?_)
   all_goals first|exact trivial|exact⟨rfl,rfl⟩
  have hi:i<=z.length:=hi;have hlim1:=hlim i;refine gYe ?_;refine brI (fun c2=>?_) (fun c2=>?_)
  .have c2:32*i<p:=by have:=Z0 c2;omega
   have hil:i<z.length:=O;have hz:=hat i hil;have hfin:∀k,k<=32->(k=32\/32*i+k=p)->y/2^(32*i) % 2^k=y/2^(32*i) % 4294967296:=fun k hk h=>by
    rcases h with rfl|h
    .rfl
    .have h1:y/2^(32*i)<2^k:=qN (by rw[<-qJ,h];exact hyp);have h2:2^k<=2^32:=qK OA hk;rw[q2 h1,q2 (O:y/2^(32*i)<4294967296)]
   have happ:∀k,k<=32->(k=32\/32*i+k=p)->z.take i++ [((y/2^(32*i) % 2^k:Nat):Int)]=z.take (i+1):=fun k hk h=>by rw[hfin k hk h,zjg hz]
   conv=>whnf
   refine⟨Nat,fun k=>k<=32/\32*i+k<=p,fun k=> [(18,.int .i64 k),(17,.int .u32 (y/2^(32*i) % 2^k:Nat))],fun _=> [],fun k=>32-k,0,⟨qI _,O⟩,?_,fun k hk=>?_⟩
   ·((conv=>whnf);refine q1 ?_ ?_;repeat' first|refine lc ?_ ?_|refine lh1 ?_ ?_|refine bc0 ?_|exact KXZ|refine lg0 ?_|refine lt0 ?_)
    exact ai0 (by rw[qC,wD];rfl)
   obtain⟨hk1,hk2⟩:=hk;have happ:=happ k hk1;refine gYe ?_;refine brI (fun c3=>?_) (fun c3=>?_)
   .have c3:k<32:=by have:=Z0 c3;omega
    conv=>whnf
    refine brI (fun c4=>?_) (fun c4=>?_)
    .have c4:32*i+k<p:=by
      have:=Z0 c4;rw[wI O]at this;omega
     have hw:wL.wrap (wL.wrap (((L:Nat):Int)+32*(i:Int))+(k:Int))=((L+(32*i+k):Nat):Int):=by
      rw[wI (x:=(L:Int)+_) O,wI O];omega
     have cc:=b333 (L+(32*i+k)) O;rw[hbs _ O,zpx]at cc;have hor:=zsw (w:=y/2^(32*i)) c3;conv=>whnf
     rw[hw];refine gYn cc ?_;refine⟨O,?_⟩;conv=>whnf
     refine⟨k+1,⟨O,O⟩,by show 32-(k+1)<32-k;omega,?_⟩;exact KZ0
    .have c4:32*i+k=p:=by
      have:=Z3 c4;rw[wI O]at this;omega
     conv=>whnf
     refine⟨by simp only[qE,qM,qA];omega,?_⟩;conv=>whnf
     refine⟨i+1,by show i+1<=z.length;omega,by show z.length-(i+1)<z.length-i;omega,?_⟩
     ((conv=>whnf);refine q1 ?_ ?_;repeat' first|refine lc ?_ ?_|refine lh1 ?_ ?_|refine bc0 ?_|exact KXZ|refine lg0 ?_|refine lt0 ?_)
     .exact ai0 (by rw[wI O];omega)
     .exact bb0 (happ (.inr c4))
   .have c3:k=32:=by have:=Z3 c3;omega
    conv=>whnf
    refine⟨by simp only[qE,qM,qA];omega,?_⟩;conv=>whnf
    refine⟨i+1,by show i+1<=z.length;omega,by show z.length-(i+1)<z.length-i;omega,?_⟩
    ((conv=>whnf);refine q1 ?_ ?_;repeat' first|refine lc ?_ ?_|refine lh1 ?_ ?_|refine bc0 ?_|exact KXZ|refine lg0 ?_|refine lt0 ?_)
    .exact ai0 (by rw[wI O];omega)
    .exact bb0 (happ (.inl c3))
  have c2:i=z.length:=by have:=Z3 c2;omega
  subst c2;rw[qP];conv=>whnf
  refine⟨Nat,fun i=>i<=L,fun i=> [(19,.int .i64 i),(14,.bool (X i))],fun _=> [],fun i=>L-i,0,qI _,?_,fun i hi=>?_⟩
  ·((conv=>whnf);refine q1 ?_ ?_;repeat' first|refine lc ?_ ?_|refine lh1 ?_ ?_|refine bc0 ?_|exact KXZ|refine lg0 ?_|refine lt0 ?_)
   exact ab0 (by rw[hX0];exact dec0 _)
  have hi:i<=L:=hi;refine gYe ?_;refine brI (fun c5=>?_) (fun c5=>?_)
  .have c5:i<L:=by have:=Z0 c5;omega
   have cc:=b333 i O;have hXi:=hX i;conv=>whnf
   refine brI (fun c6=>?_) (fun c6=>?_)
   .conv=>whnf
    refine gYn cc ?_;refine⟨i+1,c5,by show L-(i+1)<L-i;omega,?_⟩
    ((conv=>whnf);refine q1 ?_ ?_;repeat' first|refine lc ?_ ?_|refine lh1 ?_ ?_|refine bc0 ?_|exact KXZ|refine lg0 ?_|refine lt0 ?_)
    .exact ab0 (by rw[hXi,c6];exact bit0 _)
    .exact ai0 (by rw[wI O];omega)
   .conv=>whnf
    refine⟨i+1,c5,by show L-(i+1)<L-i;omega,?_⟩
    ((conv=>whnf);refine q1 ?_ ?_;repeat' first|refine lc ?_ ?_|refine lh1 ?_ ?_|refine bc0 ?_|exact KXZ|refine lg0 ?_|refine lt0 ?_)
    .exact ab0 (by rw[hXi,c6];rfl)
    .exact ai0 (by rw[wI O];omega)
  have c5:i=L:=by have:=Z3 c5;omega
  subst c5;have hel:wL.wrap (-(c:Int)+(i:Int))=(i:Int)-(c:Int):=by rw[wI O];omega
  conv=>whnf
  rw[hel];refine gYn c334 ?_
  cases hXL:X i with
  |true=>
   conv=>whnf
   refine gYd ?_;exact⟨lr rfl,lh0⟩
  |false=>
   conv=>whnf
   refine gYn c335 ?_;rw[hel];refine gYn c334b ?_;refine gYd ?_;exact⟨lr rfl,lh0⟩
 |succ k=>
  have hn1:((k+1:Nat):Int)-1=(k:Int):=O;obtain⟨s1,s2,s3⟩:=hst k;have hRk:=hR (k+1);have hw1:∀w:Nat,w<2->wN.wrap (wN.wrap (2*((R (k+1):Nat):Int))+(w:Int))=((2*R (k+1)+w:Nat):Int):=fun w hw=>by
   rw[wU (x:=2*_) O,wU O];omega
  have c330:=a330 (k+1);have c331:=a331 (k+1);have hql:=hQl (k+1);have hwb:n/2^k % 2<2:=qF _ OA;have hbit:=qf4 (n:=n) (k:=k) O O;obtain⟨hk,hx⟩|⟨hk,hx⟩:=hx
  .have hq:Q (k+1)= []:=by rw[hk];exact hQ64
   rw[hq]at c330;obtain⟨rfl,rfl⟩:=Prod.mk.inj hx;refine gYe ?_;refine brI (fun h1=>?_) (fun h1=>by simp only[Z5]at h1;omega);conv=>whnf
   rw[hn1];refine⟨O,?_⟩;conv=>whnf
   rw[hbit,hw1 _ hwb];refine⟨O,?_⟩;conv=>whnf
   refine⟨O,?_⟩;conv=>whnf
   rw[tdN,tmN];refine⟨OA,?_⟩;conv=>whnf
   refine gYn c330 ?_;generalize n/2^k % 2=w at*;by_cases h:2*R (k+1)+w<d
   .obtain⟨f1,f2⟩:=s1 h;rw[qL h,q2 h];conv=>whnf
    refine⟨(k,.sl .u32 (Q k),.dead),⟨by show k<=64;omega,.inr ⟨by show k<64;omega,rfl⟩⟩,by show k<k+1;omega,?_⟩
    ((conv=>whnf);refine q1 ?_ ?_;repeat' first|refine lc ?_ ?_|refine lh1 ?_ ?_|refine bc0 ?_|exact KXZ|refine lg0 ?_|refine lt0 ?_)
    .exact vp f2.symm
    .exact ai0 (by rw[f1])
    .exact ai0 (by rw[wI O])
   .obtain⟨f1,f2⟩:=s2 h;have g1:(2*R (k+1)+w)/d=1:=w8 O O;have g2:(2*R (k+1)+w) % d=2*R (k+1)+w-d:=by rw[ws O,q2 O]
    rw[g1,g2];conv=>whnf
    refine gYn c331 ?_;refine⟨(k,.sl .u32 (Q k),.dead),⟨by show k<=64;omega,.inr ⟨by show k<64;omega,rfl⟩⟩,by show k<k+1;omega,?_⟩
    ((conv=>whnf);refine q1 ?_ ?_;repeat' first|refine lc ?_ ?_|refine lh1 ?_ ?_|refine bc0 ?_|exact KXZ|refine lg0 ?_|refine lt0 ?_)
    .exact vp f2.symm
    .exact ai0 (by rw[f1])
    .exact ai0 (by rw[wI O])
  .obtain⟨rfl,rfl⟩:=Prod.mk.inj hx;refine gYe ?_;refine brI (fun h1=>?_) (fun h1=>by simp only[Z5]at h1;omega);conv=>whnf
   rw[hn1];refine⟨O,?_⟩;conv=>whnf
   rw[hbit,hw1 _ hwb];refine⟨O,?_⟩;conv=>whnf
   refine⟨O,?_⟩;conv=>whnf
   rw[tdN,tmN];refine⟨by simp only[qA];omega,?_⟩;conv=>whnf
   refine gYn c330 ?_;generalize n/2^k % 2=w at*;by_cases h:2*R (k+1)+w<d
   .obtain⟨f1,f2⟩:=s1 h;rw[qL h,q2 h];conv=>whnf
    refine⟨(k,.sl .u32 (Q k),.dead),⟨by show k<=64;omega,.inr ⟨by show k<64;omega,rfl⟩⟩,by show k<k+1;omega,?_⟩
    ((conv=>whnf);refine q1 ?_ ?_;repeat' first|refine lc ?_ ?_|refine lh1 ?_ ?_|refine bc0 ?_|exact KXZ|refine lg0 ?_|refine lt0 ?_)
    .exact vp f2.symm
    .exact ai0 (by rw[f1])
    .exact ai0 (by rw[wI O])
   .obtain⟨f1,f2⟩:=s2 h;have g1:(2*R (k+1)+w)/d=1:=w8 O O;have g2:(2*R (k+1)+w) % d=2*R (k+1)+w-d:=by rw[ws O,q2 O]
    rw[g1,g2];conv=>whnf
    refine gYn c331 ?_;refine⟨(k,.sl .u32 (Q k),.dead),⟨by show k<=64;omega,.inr ⟨by show k<64;omega,rfl⟩⟩,by show k<k+1;omega,?_⟩
    ((conv=>whnf);refine q1 ?_ ?_;repeat' first|refine lc ?_ ?_|refine lh1 ?_ ?_|refine bc0 ?_|exact KXZ|refine lg0 ?_|refine lt0 ?_)
    .exact vp f2.symm
    .exact ai0 (by rw[f1])
    .exact ai0 (by rw[wI O])
theorem q255(q:Nat)(hq:q≠0)(e:Int):Fn 141 [] [.agg (dyC (cnN false q e))] (.agg (dyC (cnN true q e))) []:=by
 have hc:∀neg,cnN neg q e=⟨neg,toL (q/2^tz q),e+tz q⟩:=fun neg=>by unfold cnN;rw[Z7 hq]
 rw[hc,hc];obtain⟨m0,ho1,ho2⟩:=kq hq;have h0:q/2^tz q=m0:=qG (q0 _) ho1;have hl:(toL (q/2^tz q)).length ≠0:=mt wv.1 O;generalize toL (q/2^tz q)=t at*;generalize e+(tz q:Nat)=f at*;refine fnT xu hmx Tryz.func141 rfl rfl (ex:= []) ?_;conv=>whnf
 refine brI (fun h=>?_) (fun h=>?_)
 .conv=>whnf
  exact⟨lr rfl,lh0⟩
 .have h:decide ((t.length:Int)>0)=false:=h;simp only[Z5]at h;omega
theorem zwt(P:Nat->Prop):∀K,P K->∃C,C<=K/\P C/\∀c,c<C->¬P c:=by
 intro K
 induction K using Nat.strongRecOn with
 | _ K ih=>
   intro hK;rcases Classical.em (∃c,c<K/\P c)with ⟨c,hc,hPc⟩|h
   .obtain⟨C,a,b⟩:=ih c hc hPc;exact⟨C,O,b⟩
   .exact⟨K,qO _,hK,fun c hc hP=>h ⟨c,hc,hP⟩⟩
theorem ex_C{n d p:Nat}(hn0:0<n)(hd0:0<d)(hd:d<=1073741824):∃C,C<=p+31/\p<=bl (n*2^C/d)/\∀c,c<C->bl (n*2^c/d)<p:=by
 have hK:p<=bl (n*2^(p+31)/d):=by
  have h1:2^p<=n*2^(p+31)/d:=by
   rw[Nat.le_div_iff_mul_le hd0,qJ];have h2:2^p*d<=2^p*2^31:=Nat.mul_le_mul_left _ O;exact qQ h2 (qU _ hn0)
  have h3:n*2^(p+31)/d≠0:=by have:=q0 p;omega
  have:=(xd h3).2 h1;omega
 obtain⟨C,a,b,c⟩:=zwt (fun C=>p<=bl (n*2^C/d)) (p+31) hK;exact⟨C,a,b,fun k hk=>by have:=c k hk;omega⟩
theorem zl6{d p:Int}(hr:rOk ⟨0,d⟩=true)(hp:pcB p=true)(hd:1<=d/\d<=1073741824):zmm ⟨0,d⟩ p=⟨d0,d0,false⟩:=by
 have hpp:=vj hp;have hnd:nm (wg d)≠0:=by
  unfold wg;rw[zld];obtain⟨m0,ho1,ho2⟩:=kq (O:d.natAbs≠0);have:d.natAbs/2^tz d.natAbs=m0:=qG (q0 _) ho1;omega
 have h0:nm (wg 0)=0:=by unfold wg;rw[zld];exact wH _
 have hE:∀up,Eq0 (d0,0) (zbv (wg 0) (wg d) p.toNat up):=fun up=>by
  have e:zdl (wg 0) (wg d) p.toNat up=(d0,0):=by unfold zdl;rw[Z7 hnd,Z6 h0]
  have:=znl (wu 0 OA) (wu d O) hnd hpp up;rw[e]at this;exact this
 unfold zmm;rw[Z6 hr,<-zm6 (hE false) (hE true)];rfl
theorem leZz{h h':Hp}:leA h h' (.agg [.bool false,.nilsl,.int .i64 0,.bool false,.nilsl,.int .i64 0,.bool false]) (.agg (ivC ⟨d0,d0,false⟩)):=
 lg0 (lc (lr rfl) (lc (li0 rfl) (lc (lr rfl) (lc (lr rfl) (lc (li0 rfl) (lc (lr rfl) (lc (lr rfl) ln0)))))))
theorem q169(n d:Int){p:Int}(hp:pcB p=true):Fn 74 [] [.agg [.int .i64 n,.int .i64 d],.int .i64 p] (.agg (ivC (zmm ⟨n,d⟩ p))) []:=by
 have h131:=f131 n d;by_cases h:rOk ⟨n,d⟩=true
 .rw[h]at h131;have hb:=zok h;unfold rIn at hb;simp only at hb;have h254:=f156 n O;by_cases hn0:n=0
  .subst hn0;rw[zl6 h hp O];obtain⟨q,rfl,hq⟩:=ux.1 hp;refine fnT xu hmx Tryz.func74 rfl rfl (ex:= []) ?_;conv=>whnf
   refine gYn h131 ?_;refine brI (fun c=>by have:=Z0 c;omega) (fun _=>?_);conv=>whnf
   refine brI (fun c=>by have:=Z0 c;omega) (fun _=>?_);conv=>whnf
   exact⟨leZz,lh0⟩
  obtain⟨C,hC1,hC2,hC3⟩:=ex_C (n:=n.natAbs) (d:=d.natAbs) (p:=p.toNat) O O O;have hpp:=vj hp;rw[zy0 h hn0 hp (C:=C) O hC2 O O];have c253:=q253 (n:=n.natAbs) (d:=d.natAbs) (p:=p.toNat) (C:=C) O O O O hC2 hC3 O;obtain⟨q,rfl,hq⟩:=ux.1 hp;rw[q3]at*;obtain⟨e,rfl⟩:∃e:Nat,d=e:=⟨d.toNat,O⟩;have hma:∀up,maE n.natAbs e q C up≠0:=fun up c=>by
   rw[wA]at hC2;have h0:n.natAbs*2^C/e≠0:=fun c=>by rw[c,qx]at hC2;omega
   have hge:2^(bl (n.natAbs*2^C/e)-q)<=n.natAbs*2^C/e:=(xd h0).1 O;have:=w4 hge (q0 _);unfold maE at c;split at c<;>omega
  rw[wA]at*;have hw:wN.wrap (e:Int)=e:=wUn O;have g1:Fn 141 [] [.agg (dyC (zhg n.natAbs e q C false true))] (.agg (dyC (zhg n.natAbs e q C true false))) []:=q255 _ (hma _) _;have g2:Fn 141 [] [.agg (dyC (zhg n.natAbs e q C false false))] (.agg (dyC (zhg n.natAbs e q C true true))) []:=q255 _ (hma _) _;clear hma hC1 hC2 hC3;generalize hw1:zhg n.natAbs e q C false true=w1 at*;generalize hw2:zhg n.natAbs e q C false false=w2 at*;have hk1:∀ {P:Prop},n=0->P:=fun c=>absurd c hn0
  obtain⟨a1,a2,a3⟩:=w1;obtain⟨b1,b2,b3⟩:=w2;by_cases hneg:n<0
  .rw[Z8 hneg];generalize zhg n.natAbs e q C true false=u1 at*;generalize zhg n.natAbs e q C true true=u2 at*;obtain⟨c1,c2,c3⟩:=u1;obtain⟨d1,d2,d3⟩:=u2;refine fnT xu hmx Tryz.func74 rfl rfl (ex:= []) ?_;conv=>whnf
   refine gYn h131 ?_;refine brI (fun c=>by have:=Z0 c;omega) (fun _=>?_);conv=>whnf
   refine brI (fun c=>by have:=Z0 c;omega) (fun _=>?_);conv=>whnf
   refine brI (fun c=>hk1 (beq_iff_eq.1 c)) (fun _=>?_);conv=>whnf
   refine gYn h254 ?_;rw[hw];refine gYn c253 ?_;refine gYd ?_;refine brI (fun _=>?_) (fun c=>by have:=Z3 c;omega);conv=>whnf
   refine gYn g1 ?_;refine gYn g2 ?_;refine gYd ?_;exact⟨lr rfl,lh0⟩
  .rw[Z9 hneg];rw[show zhg n.natAbs e q C false false=⟨b1,b2,b3⟩from hw2,show zhg n.natAbs e q C false true=⟨a1,a2,a3⟩from hw1];refine fnT xu hmx Tryz.func74 rfl rfl (ex:= []) ?_;conv=>whnf
   refine gYn h131 ?_;refine brI (fun c=>by have:=Z0 c;omega) (fun _=>?_);conv=>whnf
   refine brI (fun c=>by have:=Z0 c;omega) (fun _=>?_);conv=>whnf
   refine brI (fun c=>hk1 (beq_iff_eq.1 c)) (fun _=>?_);conv=>whnf
   refine gYn h254 ?_;rw[hw];refine gYn c253 ?_;refine gYd ?_;refine brI (fun c=>by have:=Z0 c;omega) (fun _=>?_);conv=>whnf
   exact⟨lr rfl,lh0⟩
 .have h0:rOk ⟨n,d⟩=false:=by simpa using h
  rw[h0]at h131;rw[show zmm ⟨n,d⟩ p=wI0 by unfold zmm;rw[Z7 h]];refine fnT xu hmx Tryz.func74 rfl rfl (ex:= []) ?_;conv=>whnf
  refine gYn h131 ?_;exact⟨leW,lh0⟩
theorem q183{fx:Int->Iv->Int->Iv}{k:Int}(hk:Ka k)(n:Int)(x y:Iv)(hx:RI x)(hy:RI y)(p:Int):Fn 75 [] [.int .i64 k,.int .i64 n,.agg (ivC x),.agg (ivC y),.int .i64 p] (.agg (ivC (apI fx k n x y p))) []:=by
 have h3:Fn 142 [] [.agg (ivC x),.agg (ivC y),.int .i64 p] (.agg (ivC (kp x y p))) []:=by rw[<-zf9 hx hy];exact r176 x y hx hy p
 have h4:Fn 143 [] [.agg (ivC x),.agg (ivC y),.int .i64 p] (.agg (ivC (zes x y p))) []:=by
  have:=r177 x y hx hy p;rw[zf9 hx (zm4 hy)]at this;exact this
 have h5:Fn 144 [] [.agg (ivC x),.agg (ivC y),.int .i64 p] (.agg (ivC (ja x y p))) []:=by rw[<-zoz hx hy];exact r178 x y hx hy p
 have h6:Fn 145 [] [.agg (ivC x),.agg (ivC y),.int .i64 p] (.agg (ivC (uq x y p))) []:=by rw[<-zpq hx hy];exact r179 x y hx hy p
 have h7:=r180 x hx;have h8:=q277 x hx n p;have h13:=q278 x hx p;clear hx hy;rcases hk with rfl|rfl|rfl|rfl|rfl|rfl|rfl
 .have e:apI fx 3 n x y p=kp x y p:=rfl;rw[e];generalize kp x y p=R at*;refine fnT xu hmx Tryz.func75 rfl rfl (ex:= []) ?_;conv=>whnf
  refine gYn h3 ?_;exact⟨lr rfl,lh0⟩
 .have e:apI fx 4 n x y p=zes x y p:=rfl;rw[e];generalize zes x y p=R at*;refine fnT xu hmx Tryz.func75 rfl rfl (ex:= []) ?_;conv=>whnf
  refine gYn h4 ?_;exact⟨lr rfl,lh0⟩
 .have e:apI fx 5 n x y p=ja x y p:=rfl;rw[e];generalize ja x y p=R at*;refine fnT xu hmx Tryz.func75 rfl rfl (ex:= []) ?_;conv=>whnf
  refine gYn h5 ?_;exact⟨lr rfl,lh0⟩
 .have e:apI fx 6 n x y p=uq x y p:=rfl;rw[e];generalize uq x y p=R at*;refine fnT xu hmx Tryz.func75 rfl rfl (ex:= []) ?_;conv=>whnf
  refine gYn h6 ?_;exact⟨lr rfl,lh0⟩
 .have e:apI fx 7 n x y p=zbm x:=rfl;rw[e];generalize zbm x=R at*;refine fnT xu hmx Tryz.func75 rfl rfl (ex:= []) ?_;conv=>whnf
  refine gYn h7 ?_;exact⟨lr rfl,lh0⟩
 .have e:apI fx 8 n x y p=zhw x n p:=rfl;rw[e];generalize zhw x n p=R at*;refine fnT xu hmx Tryz.func75 rfl rfl (ex:= []) ?_;conv=>whnf
  refine gYn h8 ?_;exact⟨lr rfl,lh0⟩
 .have e:apI fx 13 n x y p=zet x p:=rfl;rw[e];generalize zet x p=R at*;refine fnT xu hmx Tryz.func75 rfl rfl (ex:= []) ?_;conv=>whnf
  refine gYn h13 ?_;exact⟨lr rfl,lh0⟩
