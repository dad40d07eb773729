/- The reference's square root of natural numbers (layer 1, Sqrt): the walk. -/
import Derived.Test.YtbolipecnhlnnaaGreatDoorVRs
set_option linter.all false
open And renaming intro->q0
open BitVec renaming ofInt->q1
open Int renaming toNat_natCast->q3,natAbs_natCast->qW,ofNat_tdiv->w6,ofNat_tmod->w7
open List renaming take_length->qE,length_take->qF,getElem?_eq_getElem->qJ,take_of_length_le->qL,length_nil->qM,take_append_drop->qN,mem_of_getElem?->qQ,length_cons->qZ
open Nat renaming two_pow_pos->q2,mod_eq_of_lt->q4,div_div_eq_div_mul->q5,mod_lt->q6,div_eq_of_eq_mul_right->jA,div_le_self->q8,zero_le->q9,div_eq_of_lt->qd,pow_le_pow_right->qn,div_lt_of_lt_mul->qA,pow_succ->qB,pow_add->qC,pow_zero->qD,le_refl->qG,le_trans->qH,lt_of_le_of_lt->qI,le_mul_of_pos_left->qK,pow_lt_pow_right->qO,div_pos->qP,div_eq_of_lt_le->qR,lt_of_lt_of_le->qS,div_mod_unique->qT,lt_or_eq_of_le->qU,mod_eq_sub_mod->qV,mul_comm->qX,mul_zero->qY,mod_mul->w0,mul_one->w3,min_eq_left->w4,mul_eq_zero->w5,zero_div->w8,mod_one->w9,not_lt->we
open Go.IntKind renaming i64->wi,u32->wm,u64->wn
namespace Go.Proofs.YtbolipecnhlnnaaGreatDoor
open Go Go.Sx
set_option maxRecDepth 100000
set_option maxHeartbeats 8000000
structure SqI(v j r:Nat):Prop where
 lo:r*r<=v
 hi:v<(r+2^j)*(r+2^j)
theorem SqI.hit{v k r:Nat}(h:SqI v (k+1) r)(c:(r+2^k)*(r+2^k)<=v):SqI v k (r+2^k):=
 ⟨c,by have:=h.hi;grind⟩
theorem SqI.miss{v k r:Nat}(h:SqI v (k+1) r)(c:¬(r+2^k)*(r+2^k)<=v):SqI v k r:=⟨h.lo,O⟩
theorem SqI.le{v j r:Nat}(h:SqI v j r):r<=v:=by
 rcases Nat.eq_zero_or_pos r with c|c
 .omega
 .exact qH (qK r c) h.lo
theorem SqI.start(v:Nat):SqI v ((bl v+1)/2+1) 0:=by
 refine⟨q9 _,?_⟩;rw[Nat.zero_add,<-qC];grind[qS,zbb,qn]
theorem SqI.stop{v r:Nat}(h:SqI v 0 r):sqN v=r:=zjr h.lo (by have:=h.hi;omega)
theorem zvt{x y:Nat}:uf x y<=0<->x<=y:=by
 grind[uf]
theorem tdiv2(n:Nat):wi.wrap ((n:Int).tdiv 2)=wi.wrap ((n/2:Nat):Int):=by
 simp_all
theorem lenP{k n:Nat}(h:k<32*n):(toL (2^k)).length <=n:=(qf _ _).2 (qO OA h)
theorem lenA{x y n:Nat}(h:(toL x).length <=n)(g:(toL y).length <=n):(toL (x+y)).length <=n+1:=by
 rw[qf]at h g⊢;grind
theorem lenM{x y n:Nat}(h:(toL x).length <=n)(g:(toL y).length <=n):(toL (x*y)).length <=2*n:=by
 rw[qf]at h g⊢;have:2^(32*(2*n))=2^(32*n)*2^(32*n):=by rw[<-qC];congr 1;omega
 simp_all[Nat.mul_lt_mul'']
theorem q390{a:List Int}(ha:LB a)(hal:a.length<=1000):Fn 390 [] [.sl .u32 a] (.sl .u32 (toL (sqN (val a)))) []:=by
 have lb1:LB [1]:=fun z hz=>by
  simp_all
 have hv1:val [1]=1:=rfl;have c362:=qcp ha O;have hbl:bl (val a)<=32000:=by
  have:=wv.2 (zdz ha);omega
 have hstep:∀(k r:Nat),k<=16000->r<=val a->Fn 364 [] [.sl .u32 [1],.int .i64 (k:Int)] (.sl .u32 (toL (2^k))) []/\Fn 368 [] [.sl .u32 (toL r),.sl .u32 (toL (2^k))] (.sl .u32 (toL (r+2^k))) []/\Fn 391 [] [.sl .u32 (toL (r+2^k)),.sl .u32 (toL (r+2^k))] (.sl .u32 (toL ((r+2^k)*(r+2^k)))) []/\Fn 367 [] [.sl .u32 (toL ((r+2^k)*(r+2^k))),.sl .u32 a] (.int .i64 (uf ((r+2^k)*(r+2^k)) (val a))) []:=fun k r hk hr=>by
  have l1:(toL (2^k)).length <=1000:=lenP O;have l0:(toL r).length <=1000:=kf hr (qH (zg6 ha) hal);have l2:(toL (r+2^k)).length <=1001:=lenA l0 l1;have l3:(toL ((r+2^k)*(r+2^k))).length <=2002:=lenM l2 l2;have h1:=qjk lb1 OC k O;rw[hv1,Nat.one_mul]at h1;grind[r335,zm,zk,r311,r310]
 have h0:=SqI.start (val a);have e1:wi.wrap ((wi.wrap ((bl (val a):Int)+1)).tdiv 2)=(((bl (val a)+1)/2:Nat):Int):=by
  grind[wI,bl,val,tdiv2]
 generalize bl (val a)=b at*;generalize val a=v at*;refine fY9 Tryz.func390 rfl ?_;refine gYn c362 ?_;refine⟨OA,?_⟩;conv=>whnf
 rw[e1];refine⟨Nat×Nat,fun x=>x.1<=(b+1)/2+1/\SqI v x.1 x.2,fun x=> [(4,.int .i64 ((x.1:Int)-1)),(3,.sl .u32 (toL x.2))],fun _=> [],fun x=>x.1,((b+1)/2+1,0),⟨qG _,h0⟩,?_,fun x hx=>?_⟩
 ·((conv=>whnf);refine q0 ?_ ?_;repeat' first|refine lc ?_ ?_|refine lh1 ?_ ?_|refine bc0 ?_|exact KXZ|refine lg0 ?_|refine lt0 ?_)
  simp_all[ai0]
 obtain⟨j,r⟩:=x;obtain⟨hj,hi⟩:=hx;simp only at hj hi;refine gYe ?_;refine brI (fun c=>?_) (fun c=>?_)
 .have c:1<=j:=by grind
  obtain⟨k,rfl⟩:∃k,j=k+1:=⟨j-1,O⟩;have hk:(((k+1:Nat):Int)-1)=(k:Int):=O;obtain⟨c364,c368,c391,c367⟩:=hstep k r O hi.le;conv=>whnf
  rw[hk];refine gYn c364 ?_;refine gYn c368 ?_;refine gYn c391 ?_;refine gYn c367 ?_;refine brI (fun c2=>?_) (fun c2=>?_)
  .have c2:=zvt.1 (Z0 c2);conv=>whnf
   refine⟨(k,r+2^k),⟨O,hi.hit c2⟩,by grind,?_⟩
   ((conv=>whnf);refine q0 ?_ ?_;repeat' first|refine lc ?_ ?_|refine lh1 ?_ ?_|refine bc0 ?_|exact KXZ|refine lg0 ?_|refine lt0 ?_)
   grind[ai0,wI]
  .have c2:=mt zvt.2 (Z1 c2);conv=>whnf
   refine⟨(k,r),⟨O,hi.miss c2⟩,by grind,?_⟩
   ((conv=>whnf);refine q0 ?_ ?_;repeat' first|refine lc ?_ ?_|refine lh1 ?_ ?_|refine bc0 ?_|exact KXZ|refine lg0 ?_|refine lt0 ?_)
   grind[ai0,wI]
 .have c:j=0:=by grind
  subst c;conv=>whnf
  rw[hi.stop];exact⟨lr rfl,lh0⟩
theorem zzh{d:Dy}(hn:d.neg=false){p:Nat}(hp:8<=p/\p<=512)(h0:nm d≠0)(up:Bool):
 ziy false (sqN (nm d*2^sqK d p)) ((d.e-sqK d p)/2) (decide (sqN (nm d*2^sqK d p)*sqN (nm d*2^sqK d p)≠nm d*2^sqK d p)) p up=jo d p up:=by
 have hM:2^(2*p+3)<=nm d*2^sqK d p:=by
  have hk:=zq (nm d) (sqK d p) h0;have hne:nm d*2^sqK d p≠0:=Nat.mul_ne_zero h0 (by simp_all);refine(xj hne).1 ?_;grind[bl,nm,sqK]
 obtain⟨s1,s2⟩:=zey (nm d*2^sqK d p);have hbits:p<bl (sqN (nm d*2^sqK d p)):=by
  have h1:2^(p+1)<=sqN (nm d*2^sqK d p):=by
   refine we.1 fun c=>?_
   have h2:(sqN (nm d*2^sqK d p)+1)*(sqN (nm d*2^sqK d p)+1)<=2^(p+1)*2^(p+1):=Nat.mul_le_mul c c;rw[<-qC]at h2;grind
  have hne:sqN (nm d*2^sqK d p)≠0:=by grind
  have:=(xj hne).2 h1;omega
 rw[zcq _ _ _ _ _ _ (fun _=>hbits) (fun h=>by simp_all) hp]
 simp_all[jo,xy,Z5]
theorem q353{d:Dy}(hd:VD d)(hn:d.neg=false)(p:Nat)(hp:8<=p/\p<=512)(up:Bool):Fn 353 [] [.agg (dyC d),.int .i64 p,.bool up] (dyV (jo d p up)) []:=by
 have a1:=hd.bits;have a2:=hd.exp;have hla:=hd.len;have h222:=qjl d d hd.lb hd.lb O O p;rw[show ftR d d p=0 by unfold ftR;rw[Z4 ⟨(kw hd.lb).2 hd,(kw hd.lb).2 hd⟩,Z4 O]]at h222;have c362:Fn 362 [] [.sl .u32 d.m] (.int .i64 (bl (nm d):Nat)) []:=qcp hd.lb O;have hz:nm d=0->jo d p up=(d0,0):=fun h=>by grind[jo]
 have hR:nm d≠0->jo d p up=ziy false (sqN (nm d*2^sqK d p)) ((d.e-sqK d p)/2) (decide (sqN (nm d*2^sqK d p)*sqN (nm d*2^sqK d p)≠nm d*2^sqK d p)) p up:=fun h=>(zzh hn hp h up).symm
 obtain⟨k0,hk0⟩:∃k0,2*p+4-bl (nm d)=k0:=⟨_,rfl⟩;have hk0e:(if wi.wrap (wi.wrap (wi.wrap (2*(p:Int))+4)-(bl (nm d):Int))>0 then wi.wrap (wi.wrap (wi.wrap (2*(p:Int))+4)-(bl (nm d):Int))else 0)=((k0:Nat):Int):=by
  grind[wI]
 have hkk:sqK d p=if(d.e-k0) % 2=0 then k0 else k0+1:=by unfold sqK;rw[hk0]
 have hkb:sqK d p<=2*p+5:=by grind
 have hpar:(d.e-sqK d p) % 2=0:=by grind
 have hbits:bl (nm d*2^sqK d p)<=5200:=by
  grind[zq]
 have hml:(toL (nm d*2^sqK d p)).length <=200:=(zx _ _).2 O;have c364:Fn 364 [] [.sl .u32 d.m,.int .i64 (sqK d p:Nat)] (.sl .u32 (toL (nm d*2^sqK d p))) []:=qjk hd.lb O (sqK d p) O;have c390:=q390 (zm (nm d*2^sqK d p)) O;rw[zk]at c390;have hsl:(toL (sqN (nm d*2^sqK d p))).length <=200:=kf (qi1 _) hml;have c391:=r311 (zm (sqN (nm d*2^sqK d p))) (zm (sqN (nm d*2^sqK d p))) O O;rw[zk]at c391;have hql:=lenM hsl hsl;have c367:=r310 (zm (sqN (nm d*2^sqK d p)*sqN (nm d*2^sqK d p))) (zm (nm d*2^sqK d p)) O O;rw[zk,zk]at c367;have hne:=zlj (sqN (nm d*2^sqK d p)*sqN (nm d*2^sqK d p)) (nm d*2^sqK d p);have c304:=r305 false (zm (sqN (nm d*2^sqK d p))) O ((d.e-sqK d p)/2) O (decide (sqN (nm d*2^sqK d p)*sqN (nm d*2^sqK d p)≠nm d*2^sqK d p)) p hp up;rw[zk]at c304;rw[<-hne]at c304 hR;have hw:wi.wrap ((wi.wrap (d.e-(sqK d p:Int))).tdiv 2)=(d.e-sqK d p)/2:=by
  grind[wI,sqK,Int.mul_tdiv_cancel]
 have hk1:∀z:Int,z=wi.wrap (d.e-(k0:Int))->((z.tmod 2 != 0)=true->wi.wrap ((k0:Int)+1)=((sqK d p:Nat):Int))/\((z.tmod 2 != 0)=false->(k0:Int)=((sqK d p:Nat):Int)):=by
  grind[wI]
 have ae:=hd.eq;clear hpar hkk hbits hml hsl hql hkb;generalize jo d p up=R at*;generalize sqN (nm d*2^sqK d p)=s at*;generalize nm d*2^sqK d p=m at*;generalize sqK d p=k at*;generalize nm d=x at*;obtain⟨an,am,ax⟩:=d;simp only at ae a2 c304 hR hw hn hk1 c362 c364;subst ae hn;have h222:Fn 222 [] [.agg [.bool false,.sl .u32 (toL x),.int .i64 ax],.agg [.bool false,.sl .u32 (toL x),.int .i64 ax],.int .i64 p] (.int .i64 0) []:=h222;show Fn 353 [] [.agg [.bool false,.sl .u32 (toL x),.int .i64 ax],.int .i64 p,.bool up] _ [];by_cases hx0:x=0
 .rw[hz hx0];subst hx0;rw[jb]at*;refine fY9 Tryz.func353 rfl ?_;refine gYn h222 ?_;exact⟨lt0 (lc (lg0 (lc (lr rfl) (lc (li0 rfl) (lc (lr rfl) ln0)))) (lc (lr rfl) ln0)),lh0⟩
 rw[<-hR hx0]at c304;obtain⟨⟨r1,r2,r3⟩,r4⟩:=R;refine fY9 Tryz.func353 rfl ?_;refine gYn h222 ?_;refine brI (fun h6=>?_) (fun h6=>?_)
 .grind[toL,zcc]
 conv=>whnf
 refine gYn c362 ?_;rw[hk0e];refine⟨OA,?_⟩;conv=>whnf
 obtain⟨hka,hkb2⟩:=hk1 _ rfl;refine brI (fun h6=>?_) (fun h6=>?_)
 .have e:=hka h6;conv=>whnf
  rw[e];refine gYn c364 ?_;refine gYn c390 ?_;refine⟨OA,?_⟩;conv=>whnf
  refine gYn c391 ?_;refine gYn c367 ?_;rw[hw];refine gZn c304 ?_;refine gYd ?_;exact⟨lr rfl,lh0⟩
 .have e:=hkb2 h6;conv=>whnf
  rw[e];refine gYn c364 ?_;refine gYn c390 ?_;refine⟨OA,?_⟩;conv=>whnf
  refine gYn c391 ?_;refine gYn c367 ?_;rw[hw];refine gZn c304 ?_;refine gYd ?_;exact⟨lr rfl,lh0⟩
theorem zqq{x:Iv}:zdr x<=0<->¬(kB x=true/\0<vg x.lo):=by
 grind[zdr]
theorem q278(x:Iv)(h:RI x)(p:Int):Fn 278 [] [.agg (ivC x),.int .i64 p] (.agg (ivC (zbw x p))) []:=by
 have h60:=r60 p;have h300:=r259 x h;have h61:=r61;obtain⟨R,hR⟩:∃R,zbw x p=R:=⟨_,rfl⟩;rw[hR];unfold zbw at hR
 cases hp:pcB p with
 |false=>
  rw[hp]at h60;rw[Z5 (by rw[hp];simp)]at hR;subst hR;refine fY9 Tryz.func278 rfl ?_;refine gYn h60 ?_;refine gYn h61 ?_;exact⟨lr rfl,lh0⟩
 |true=>
 rw[hp]at h60;by_cases hs:zdr x<=0
 .rw[Z5 fun c=>zqq.1 hs ⟨c.1,c.2.2⟩]at hR;subst hR;generalize zdr x=S at*;refine fY9 Tryz.func278 rfl ?_;refine gYn h60 ?_;refine gYn h300 ?_;refine brI (fun c=>?_) (fun c=>?_)
  .conv=>whnf
   refine gYn h61 ?_;exact⟨lr rfl,lh0⟩
  simp_all
 .have hk:kB x=true/\0<vg x.lo:=Decidable.byContradiction fun c=>hs (zqq.2 c)
  rw[Z4 ⟨hk.1,hp,hk.2⟩]at hR;have kx:=(zp h).1 hk.1;have h1:=(kc x.lo).2.1.1 hk.2;have h2:=Std.lt_of_lt_of_le h1 kx.dle;have ng:∀ {d:Dy},0<dv d->d.neg=false:=fun {d}c=>by
   cases hn:d.neg with
   |false=>rfl
   |true=>
    have:=zdq (nm d) d.e;grind[dv]
  have hpn:8<=p.toNat/\p.toNat<=512:=qk hp;have a1:=q353 kx.lo (ng h1) p.toNat hpn false;have a2:=q353 kx.hi (ng h2) p.toNat hpn true;rw[show((p.toNat:Nat):Int)=p by omega]at a1 a2;have h256:=r256 (jo x.lo p.toNat false) (jo x.hi p.toNat true);rw[hR]at h256;generalize jo x.lo p.toNat false=A1 at*;generalize jo x.hi p.toNat true=A2 at*;generalize zdr x=S at*;clear hR kx h1 h2 ng hk hpn;refine fY9 Tryz.func278 rfl ?_;refine gYn h60 ?_;refine gYn h300 ?_;refine brI (fun c=>?_) (fun c=>?_)
  .grind
  conv=>whnf
  refine gYn a1 ?_;refine gYn a2 ?_;refine gYn h256 ?_;exact⟨lr rfl,lh0⟩
theorem q389{d:Dy}(hd:VD d)(p:Nat)(hp:8<=p/\p<=512)(up:Bool):Fn 389 [] [.agg (dyC d),.int .i64 p,.bool up] (dyV (qt d p up)) []:=by
 have h:=r308 hd p hp up;have he:=hd.exp;rw[zcq _ _ _ _ _ _ (fun h=>by cases h) (fun _=>O) hp]at h;exact h
theorem q303{a b:Dy}(ha:VD a)(hb:VD b)(p:Nat)(hp:8<=p/\p<=512)(up:Bool):Fn 303 [] [.agg (dyC a),.agg (dyC b),.int .i64 p,.bool up] (dyV (wz a b p up)) []:=by
 grind[r258,zwd]
theorem q351{d:Dy}(hd:VD d)(n p:Nat)(hn:1<=n/\n<=16)(hp:8<=p/\p<=512):Fn 351 [] [.agg (dyC d),.int .i64 n,.int .i64 p] (dyV (zcb d n p false)) []:=by
 have h0:=q389 hd p hp false;have hm:∀a,VD a->Fn 303 [] [.agg (dyC a),.agg (dyC d),.int .i64 p,.bool false] (dyV (wz a d p false)) []:=fun a ha=>q303 ha hd p hp false
 have hv0:=wd d false p hp;obtain⟨R,hR⟩:∃R,zcb d n p false=R:=⟨_,rfl⟩;rw[hR];unfold zcb at hR;generalize qt d p false=r0 at*;obtain⟨d1,d2,d3⟩:=d;have hm:∀a,VD a->Fn 303 [] [.agg (dyC a),.agg [.bool d1,.sl .u32 d2,.int .i64 d3],.int .i64 p,.bool false] (dyV (wz a ⟨d1,d2,d3⟩ p false)) []:=hm;obtain⟨⟨a1,a2,a3⟩,e0⟩:=r0;have h0:Fn 389 [] [.agg [.bool d1,.sl .u32 d2,.int .i64 d3],.int .i64 p,.bool false] (dyV (⟨a1,a2,a3⟩,e0)) []:=h0;show Fn 351 [] [.agg [.bool d1,.sl .u32 d2,.int .i64 d3],.int .i64 n,.int .i64 p] _ [];refine fY9 Tryz.func351 rfl ?_;refine gYn h0 ?_;refine⟨Nat×Dy×Int,fun s=>(1<=s.1/\s.1<=n)/\VD s.2.1/\yf ⟨d1,d2,d3⟩ p false (n-s.1) s.2=R,fun s=> [(10,.int .i64 s.1),(9,.int .i64 s.2.2)],fun s=> [(8,.cells (dyC s.2.1))],fun s=>n-s.1,(1,⟨a1,a2,a3⟩,e0),?_,?_,fun s hs=>?_⟩
 .simp_all
 .exact KZ0
 obtain⟨k,⟨r1,r2,r3⟩,e⟩:=s;obtain⟨⟨h1,h2⟩,h3,h4⟩:=hs;simp only at h1 h2 h3 h4;refine gYe ?_;refine brI (fun k1=>?_) (fun k1=>?_)
 .have k1:k<n:=by simp_all
  obtain⟨j,hj⟩:∃j,n-k=j+1:=⟨n-k-1,O⟩;rw[hj]at h4;simp only[yf]at h4;conv=>whnf
  refine brI (fun k2=>?_) (fun k2=>?_)
  .have k2:e=0:=by grind
   rw[Z4 k2]at h4;have hmm:Fn 303 [] [.agg [.bool r1,.sl .u32 r2,.int .i64 r3],.agg [.bool d1,.sl .u32 d2,.int .i64 d3],.int .i64 p,.bool false] (dyV (wz ⟨r1,r2,r3⟩ ⟨d1,d2,d3⟩ p false)) []:=hm _ h3;have hvm:=kj ⟨r1,r2,r3⟩ ⟨d1,d2,d3⟩ false p hp;generalize wz ⟨r1,r2,r3⟩ ⟨d1,d2,d3⟩ p false=M at*;obtain⟨⟨m1,m2,m3⟩,f⟩:=M;conv=>whnf
   refine gYn hmm ?_;refine⟨(k+1,⟨m1,m2,m3⟩,f),⟨⟨O,O⟩,hvm,by grind⟩,by grind,?_⟩
   ((conv=>whnf);refine q0 ?_ ?_;repeat' first|refine lc ?_ ?_|refine lh1 ?_ ?_|refine bc0 ?_|exact KXZ|refine lg0 ?_|refine lt0 ?_)
   grind[ai0,wI]
  .have k2:e≠0:=by grind
   rw[Z5 k2]at h4;subst h4;conv=>whnf
   exact⟨lr rfl,lh0⟩
 .have k1:¬k<n:=by simp_all
  rw[(O:n-k=0)]at h4;simp only[yf]at h4;subst h4;conv=>whnf
  exact⟨lr rfl,lh0⟩
theorem q352{d:Dy}(hd:VD d)(n p:Nat)(hn:1<=n/\n<=16)(hp:8<=p/\p<=512):Fn 352 [] [.agg (dyC d),.int .i64 n,.int .i64 p] (dyV (zcb d n p true)) []:=by
 have h0:=q389 hd p hp true;have hm:∀a,VD a->Fn 303 [] [.agg (dyC a),.agg (dyC d),.int .i64 p,.bool true] (dyV (wz a d p true)) []:=fun a ha=>q303 ha hd p hp true
 have hv0:=wd d true p hp;obtain⟨R,hR⟩:∃R,zcb d n p true=R:=⟨_,rfl⟩;rw[hR];unfold zcb at hR;generalize qt d p true=r0 at*;obtain⟨d1,d2,d3⟩:=d;have hm:∀a,VD a->Fn 303 [] [.agg (dyC a),.agg [.bool d1,.sl .u32 d2,.int .i64 d3],.int .i64 p,.bool true] (dyV (wz a ⟨d1,d2,d3⟩ p true)) []:=hm;obtain⟨⟨a1,a2,a3⟩,e0⟩:=r0;have h0:Fn 389 [] [.agg [.bool d1,.sl .u32 d2,.int .i64 d3],.int .i64 p,.bool true] (dyV (⟨a1,a2,a3⟩,e0)) []:=h0;show Fn 352 [] [.agg [.bool d1,.sl .u32 d2,.int .i64 d3],.int .i64 n,.int .i64 p] _ [];refine fY9 Tryz.func352 rfl ?_;refine gYn h0 ?_;refine⟨Nat×Dy×Int,fun s=>(1<=s.1/\s.1<=n)/\VD s.2.1/\yf ⟨d1,d2,d3⟩ p true (n-s.1) s.2=R,fun s=> [(10,.int .i64 s.1),(9,.int .i64 s.2.2)],fun s=> [(8,.cells (dyC s.2.1))],fun s=>n-s.1,(1,⟨a1,a2,a3⟩,e0),?_,?_,fun s hs=>?_⟩
 .simp_all
 .exact KZ0
 obtain⟨k,⟨r1,r2,r3⟩,e⟩:=s;obtain⟨⟨h1,h2⟩,h3,h4⟩:=hs;simp only at h1 h2 h3 h4;refine gYe ?_;refine brI (fun k1=>?_) (fun k1=>?_)
 .have k1:k<n:=by simp_all
  obtain⟨j,hj⟩:∃j,n-k=j+1:=⟨n-k-1,O⟩;rw[hj]at h4;simp only[yf]at h4;conv=>whnf
  refine brI (fun k2=>?_) (fun k2=>?_)
  .have k2:e=0:=by grind
   rw[Z4 k2]at h4;have hmm:Fn 303 [] [.agg [.bool r1,.sl .u32 r2,.int .i64 r3],.agg [.bool d1,.sl .u32 d2,.int .i64 d3],.int .i64 p,.bool true] (dyV (wz ⟨r1,r2,r3⟩ ⟨d1,d2,d3⟩ p true)) []:=hm _ h3;have hvm:=kj ⟨r1,r2,r3⟩ ⟨d1,d2,d3⟩ true p hp;generalize wz ⟨r1,r2,r3⟩ ⟨d1,d2,d3⟩ p true=M at*;obtain⟨⟨m1,m2,m3⟩,f⟩:=M;conv=>whnf
   refine gYn hmm ?_;refine⟨(k+1,⟨m1,m2,m3⟩,f),⟨⟨O,O⟩,hvm,by grind⟩,by grind,?_⟩
   ((conv=>whnf);refine q0 ?_ ?_;repeat' first|refine lc ?_ ?_|refine lh1 ?_ ?_|refine bc0 ?_|exact KXZ|refine lg0 ?_|refine lt0 ?_)
   grind[ai0,wI]
  .have k2:e≠0:=by grind
   rw[Z5 k2]at h4;subst h4;conv=>whnf
   exact⟨lr rfl,lh0⟩
 .have k1:¬k<n:=by simp_all
  rw[(O:n-k=0)]at h4;simp only[yf]at h4;subst h4;conv=>whnf
  exact⟨lr rfl,lh0⟩
theorem q17(d:Dy):Fn 17 [] [.agg (dyC d)] (.agg (ivC (ve d))) []:=by
 obtain⟨d1,d2,d3⟩:=d;refine fY9 Tryz.func17 rfl ?_;exact⟨lr rfl,lh0⟩
theorem zyh{a b:Dy}(ha:VD a)(hb:VD b)(h1:dv a<=dv b)(h2:dv b<=dv a):a=b:=qdm ha hb (zc2 h1 h2)
theorem qhc{x:Iv}(h:RI x):qdj x=zon x:=by
 by_cases hk:kB x=true
 .have k:=(zp h).1 hk;have e1:qh3 x=kz x:=by
   refine zyh (zbs (ua k.lo) k.hi) (zbf k) ?_ ?_
   .have m1:=xc (xt x.lo) (xt x.hi);have m2:=xc (jm x.lo) x.hi;show dv (uq (jm x.lo) x.hi)<=dv (uq (xt x.lo) (xt x.hi));grind[zbv,xf,dv,vf,Rat.le_trans]
   .have m1:=xc (xt x.lo) (xt x.hi);have m2:=xc (jm x.lo) x.hi;show dv (uq (xt x.lo) (xt x.hi))<=dv (uq (jm x.lo) x.hi);rw[xf]at m2;have hle:=k.dle;grind[zbv,vf]
  have e2:qfo x=zb1 x:=by
   unfold qfo zb1;by_cases c:zdr x=0
   .simp_all
   .rw[Z5 c,Z5 c];have hc:0<dv x.lo\/dv x.hi<0:=by
     unfold zdr at c;rw[Z4 hk]at c;by_cases c1:0<vg x.lo
     .simp_all[kc]
     grind[kc]
    have hle:=k.dle;have m1:=znj (xt x.lo) (xt x.hi);have m2:=xc x.lo (jm x.hi);rw[zbv,zbv]at m1;rw[xf]at m2;have a1:vf (dv x.lo)=if 0<dv x.lo then dv x.lo else-dv x.lo:=by grind[vf]
    have a2:vf (dv x.hi)=if 0<dv x.lo then dv x.hi else-dv x.hi:=by grind[vf]
    refine zyh (zbs k.lo (ua k.hi)) (zcv (zcw k.lo) (zcw k.hi)) ?_ ?_
    .show dv (uq x.lo (jm x.hi))<=dv (yr (xt x.lo) (xt x.hi));grind[zbv,xf]
    .show dv (yr (xt x.lo) (xt x.hi))<=dv (uq x.lo (jm x.hi));grind
  simp_all[qdj,zon,Z4]
 simp_all[qdj,zon,Z5]
theorem zvj{y:Iv}(hl:VD y.lo)(hh:VD y.hi)(N q:Nat)(hN:1<=N/\N<=16)(hq:8<=q/\q<=512){R:Iv}(hR:R=pwK y N q):∃(S1 S2:Int)(A A' B B':Dy×Int)(M1 M2 NA NB:Dy)(E1 E2:Dy×Int),
 (Fn 351 [] [.agg (dyC y.lo),.int .i64 N,.int .i64 q] (dyV A) []/\Fn 119 [] [.agg (dyC y.lo)] (.int .i64 S1) []/\Fn 122 [] [.agg (dyC y.lo)] (.agg (dyC M1)) []/\Fn 352 [] [.agg (dyC M1),.int .i64 N,.int .i64 q] (dyV A') []/\Fn 122 [] [.agg (dyC A'.1)] (.agg (dyC NA)) [])/\
 (Fn 352 [] [.agg (dyC y.hi),.int .i64 N,.int .i64 q] (dyV B) []/\Fn 119 [] [.agg (dyC y.hi)] (.int .i64 S2) []/\Fn 122 [] [.agg (dyC y.hi)] (.agg (dyC M2)) []/\Fn 351 [] [.agg (dyC M2),.int .i64 N,.int .i64 q] (dyV B') []/\Fn 122 [] [.agg (dyC B'.1)] (.agg (dyC NB)) [])/\
 (S1<0->E1=(NA,A'.2))/\(¬S1<0->E1=A)/\(S2<0->E2=(NB,B'.2))/\(¬S2<0->E2=B)/\Fn 149 [] [.agg (dyC E1.1),.int .i64 E1.2,.agg (dyC E2.1),.int .i64 E2.2] (.agg (ivC R)) []:=by
 have s1:=qe8 y.lo;have s2:=qe8 y.hi;rw[zjv hl]at s1;rw[zjv hh]at s2;refine⟨_,_,_,_,_,_,_,_,_,_,zco y.lo N q false,zco y.hi N q true,⟨q351 hl N q hN hq,s1,zz4 hl,q352 (ua hl) N q hN hq,zz4 (zoi _ _ _ _ hq)⟩,⟨q352 hh N q hN hq,s2,zz4 hh,q351 (ua hh) N q hN hq,zz4 (zoi _ _ _ _ hq)⟩,fun c=>?_,fun c=>?_,fun c=>?_,fun c=>?_,by rw[hR];exact r256 _ _⟩
 .grind[zco]
 .grind[zco]
 .grind[zco]
 grind[zco]
theorem q277(x:Iv)(h:RI x)(n p:Int):Fn 277 [] [.agg (ivC x),.int .i64 n,.int .i64 p] (.agg (ivC (zje x n p))) []:=by
 have h60:=r60 p;have h161:=zyx x h;have h61:=r61;have hR:zje x n p=if kB x=true/\pcB p=true/\0<=n/\n<=16 then(if n=0 then ve (wl 1)else pwK (if n % 2=0 then zon x else x) n.toNat p.toNat)else wI0:=rfl
 generalize zje x n p=R at*;by_cases hp:pcB p=true
 rotate_left
 .rw[Z5 fun c=>hp c.2.1]at hR;rw[show pcB p=false by grind]at h60;subst hR;clear h;obtain⟨⟨x1,x2,x3⟩,⟨x4,x5,x6⟩,x7⟩:=x;show Fn 277 [] [.agg [.bool x1,.sl .u32 x2,.int .i64 x3,.bool x4,.sl .u32 x5,.int .i64 x6,.bool x7],.int .i64 n,.int .i64 p] _ [];refine fY9 Tryz.func277 rfl ?_;refine gYn h60 ?_;refine gYn h61 ?_;exact⟨lr rfl,lh0⟩
 rw[hp]at h60;by_cases hk:kB x=true
 rotate_left
 .rw[Z5 fun c=>hk c.1]at hR;rw[show kB x=false by grind]at h161;subst hR;clear h hk;obtain⟨⟨x1,x2,x3⟩,⟨x4,x5,x6⟩,x7⟩:=x;show Fn 277 [] [.agg [.bool x1,.sl .u32 x2,.int .i64 x3,.bool x4,.sl .u32 x5,.int .i64 x6,.bool x7],.int .i64 n,.int .i64 p] _ [];refine fY9 Tryz.func277 rfl ?_;refine gYn h60 ?_;refine gYn h161 ?_;refine gYn h61 ?_;exact⟨lr rfl,lh0⟩
 rw[hk]at h161;by_cases hn:0<=n/\n<=16
 rotate_left
 .rw[Z5 fun c=>hn c.2.2]at hR;subst hR;clear h hk;obtain⟨⟨x1,x2,x3⟩,⟨x4,x5,x6⟩,x7⟩:=x;show Fn 277 [] [.agg [.bool x1,.sl .u32 x2,.int .i64 x3,.bool x4,.sl .u32 x5,.int .i64 x6,.bool x7],.int .i64 n,.int .i64 p] _ [];refine fY9 Tryz.func277 rfl ?_;refine gYn h60 ?_;refine gYn h161 ?_;refine brI (fun k1=>?_) (fun k1=>?_)
  .conv=>whnf
   refine gYn h61 ?_;exact⟨lr rfl,lh0⟩
  have k1:¬n<0:=Z1 k1;conv=>whnf
  refine brI (fun k2=>?_) (fun k2=>?_)
  .conv=>whnf
   refine gYn h61 ?_;exact⟨lr rfl,lh0⟩
  simp_all
 rw[Z4 ⟨hk,hp,hn⟩]at hR;obtain⟨N,rfl⟩:=Int.eq_ofNat_of_zero_le hn.1;by_cases h0:N=0
 .subst h0;rw[Z4 (by rfl)]at hR;have h54:Fn 54 [] [.int .i64 1] (.agg (dyC (wl 1))) []:=r262 1 OA;have h17:=q17 (wl 1);generalize wl 1=I1 at*;rw[<-hR]at h17;clear h hk hR;obtain⟨⟨x1,x2,x3⟩,⟨x4,x5,x6⟩,x7⟩:=x;obtain⟨⟨r1,r2,r3⟩,⟨r4,r5,r6⟩,r7⟩:=R;obtain⟨i1,i2,i3⟩:=I1;have h17:Fn 17 [] [.agg [.bool i1,.sl .u32 i2,.int .i64 i3]] (.agg [.bool r1,.sl .u32 r2,.int .i64 r3,.bool r4,.sl .u32 r5,.int .i64 r6,.bool r7]) []:=h17;show Fn 277 [] [.agg [.bool x1,.sl .u32 x2,.int .i64 x3,.bool x4,.sl .u32 x5,.int .i64 x6,.bool x7],.int .i64 0,.int .i64 p] _ [];refine fY9 Tryz.func277 rfl ?_;refine gYn h60 ?_;refine gYn h161 ?_;refine gYn h54 ?_;refine gYn h17 ?_;exact⟨lr rfl,lh0⟩
 rw[Z5 O,q3]at hR;have kx:=(zp h).1 hk;obtain⟨q,rfl,hq⟩:=jx.1 hp;rw[q3]at hR;have hmod:((N:Int).tmod 2==0)=decide ((N:Int) % 2=0):=by
  grind
 have h350:=r263 x h;rw[qhc h]at h350;by_cases he:(N:Int) % 2=0
 .rw[Z4 he]at hR;rw[Z6 he]at hmod;have ky:=zyd kx;obtain⟨S1,S2,A,A',B,B',M1,M2,NA,NB,E1,E2,⟨lo1,lo2,lo3,lo4,lo5⟩,⟨hi1,hi2,hi3,hi4,hi5⟩,he1,he1',he2,he2',m0⟩:=zvj ky.lo ky.hi N q O hq hR;have mm:∀ {F G:Dy×Int},E1=F->E2=G->Fn 149 [] [.agg (dyC F.1),.int .i64 F.2,.agg (dyC G.1),.int .i64 G.2] (.agg (ivC R)) []:=fun a b=>by simp_all
  generalize zon x=y at*;clear hR kx h hk ky m0;obtain⟨⟨x1,x2,x3⟩,⟨x4,x5,x6⟩,x7⟩:=x;obtain⟨⟨y1,y2,y3⟩,⟨y4,y5,y6⟩,y7⟩:=y;obtain⟨⟨a1,a2,a3⟩,e⟩:=A;obtain⟨⟨b1,b2,b3⟩,f⟩:=A';obtain⟨⟨c1,c2,c3⟩,g⟩:=B;obtain⟨⟨d1,d2,d3⟩,k⟩:=B';obtain⟨m1,m2,m3⟩:=M1;obtain⟨m4,m5,m6⟩:=M2;obtain⟨n1,n2,n3⟩:=NA;obtain⟨n4,n5,n6⟩:=NB;obtain⟨⟨r1,r2,r3⟩,⟨r4,r5,r6⟩,r7⟩:=R;show Fn 277 [] [.agg [.bool x1,.sl .u32 x2,.int .i64 x3,.bool x4,.sl .u32 x5,.int .i64 x6,.bool x7],.int .i64 N,.int .i64 q] _ [];refine fY9 Tryz.func277 rfl ?_;refine gYn h60 ?_;refine gYn h161 ?_;refine brI (fun k2=>?_) (fun k2=>?_)
  .grind
  conv=>whnf
  refine brI (fun k3=>?_) (fun k3=>?_)
  .simp_all
  conv=>whnf
  refine⟨OA,?_⟩;conv=>whnf
  refine brI (fun k4=>?_) (fun k4=>?_)
  rotate_left
  .simp_all
  conv=>whnf
  refine gYn h350 ?_;refine gYn lo1 ?_;refine gYn lo2 ?_;refine brI (fun c=>?_) (fun c=>?_)
  .conv=>whnf
   refine gYn lo3 ?_;refine gYn lo4 ?_;refine gYn lo5 ?_;refine gYn hi1 ?_;refine gYn hi2 ?_;refine brI (fun g=>?_) (fun g=>?_)
   .have m:=mm (he1 (Z0 c)) (he2 (Z0 g));conv=>whnf
    refine gYn hi3 ?_;refine gYn hi4 ?_;refine gYn hi5 ?_;refine gYn m ?_;exact⟨lr rfl,lh0⟩
   .have m:=mm (he1 (Z0 c)) (he2' (Z1 g));conv=>whnf
    refine gYn m ?_;exact⟨lr rfl,lh0⟩
  .conv=>whnf
   refine gYn hi1 ?_;refine gYn hi2 ?_;refine brI (fun g=>?_) (fun g=>?_)
   .have m:=mm (he1' (Z1 c)) (he2 (Z0 g));conv=>whnf
    refine gYn hi3 ?_;refine gYn hi4 ?_;refine gYn hi5 ?_;refine gYn m ?_;exact⟨lr rfl,lh0⟩
   .have m:=mm (he1' (Z1 c)) (he2' (Z1 g));conv=>whnf
    refine gYn m ?_;exact⟨lr rfl,lh0⟩
 .rw[Z5 he]at hR;rw[Z7 he]at hmod;obtain⟨S1,S2,A,A',B,B',M1,M2,NA,NB,E1,E2,⟨lo1,lo2,lo3,lo4,lo5⟩,⟨hi1,hi2,hi3,hi4,hi5⟩,he1,he1',he2,he2',m0⟩:=zvj kx.lo kx.hi N q O hq hR;have mm:∀ {F G:Dy×Int},E1=F->E2=G->Fn 149 [] [.agg (dyC F.1),.int .i64 F.2,.agg (dyC G.1),.int .i64 G.2] (.agg (ivC R)) []:=fun a b=>by simp_all
  clear hR kx h hk m0 h350;obtain⟨⟨x1,x2,x3⟩,⟨x4,x5,x6⟩,x7⟩:=x;obtain⟨⟨a1,a2,a3⟩,e⟩:=A;obtain⟨⟨b1,b2,b3⟩,f⟩:=A';obtain⟨⟨c1,c2,c3⟩,g⟩:=B;obtain⟨⟨d1,d2,d3⟩,k⟩:=B';obtain⟨m1,m2,m3⟩:=M1;obtain⟨m4,m5,m6⟩:=M2;obtain⟨n1,n2,n3⟩:=NA;obtain⟨n4,n5,n6⟩:=NB;obtain⟨⟨r1,r2,r3⟩,⟨r4,r5,r6⟩,r7⟩:=R;show Fn 277 [] [.agg [.bool x1,.sl .u32 x2,.int .i64 x3,.bool x4,.sl .u32 x5,.int .i64 x6,.bool x7],.int .i64 N,.int .i64 q] _ [];refine fY9 Tryz.func277 rfl ?_;refine gYn h60 ?_;refine gYn h161 ?_;refine brI (fun k2=>?_) (fun k2=>?_)
  .grind
  conv=>whnf
  refine brI (fun k3=>?_) (fun k3=>?_)
  .simp_all
  conv=>whnf
  refine⟨OA,?_⟩;conv=>whnf
  refine brI (fun k4=>?_) (fun k4=>?_)
  .simp_all
  conv=>whnf
  refine gYn lo1 ?_;refine gYn lo2 ?_;refine brI (fun c=>?_) (fun c=>?_)
  .conv=>whnf
   refine gYn lo3 ?_;refine gYn lo4 ?_;refine gYn lo5 ?_;refine gYn hi1 ?_;refine gYn hi2 ?_;refine brI (fun g=>?_) (fun g=>?_)
   .have m:=mm (he1 (Z0 c)) (he2 (Z0 g));conv=>whnf
    refine gYn hi3 ?_;refine gYn hi4 ?_;refine gYn hi5 ?_;refine gYn m ?_;exact⟨lr rfl,lh0⟩
   .have m:=mm (he1 (Z0 c)) (he2' (Z1 g));conv=>whnf
    refine gYn m ?_;exact⟨lr rfl,lh0⟩
  .conv=>whnf
   refine gYn hi1 ?_;refine gYn hi2 ?_;refine brI (fun g=>?_) (fun g=>?_)
   .have m:=mm (he1' (Z1 c)) (he2 (Z0 g));conv=>whnf
    refine gYn hi3 ?_;refine gYn hi4 ?_;refine gYn hi5 ?_;refine gYn m ?_;exact⟨lr rfl,lh0⟩
   .have m:=mm (he1' (Z1 c)) (he2' (Z1 g));conv=>whnf
    refine gYn m ?_;exact⟨lr rfl,lh0⟩
theorem zt0:∀ {l m:List Int},LB l->LB m->l.length=m.length->val l=val m->l=m
 | [],[],_,_,_,_=>rfl
 | [],_::_,_,_,h,_=>by simp at h
 | _::_,[],_,_,h,_=>by simp at h
 |x::l,y::m,h1,h2,h3,h4=>by
  have hx:=h1 x OC;have hy:=h2 y OC;rw[qp,qp]at h4;have e:=zt0 (fun z hz=>h1 z (by simp[hz])) (fun z hz=>h2 z (by simp[hz])) (by grind) (O:val l=val m);grind
theorem qca{l:List Int}{z:Nat}(h:LB l)(hv:val l=z)(hl:l.length=(toL z).length):l=toL z:=zt0 h (zm z) hl (by rw[hv,zk])
theorem zk0(x:Nat):x<2^(32*(toL x).length):=(qf _ _).1 (qG _)
theorem q333(x i:Nat)(hl:(toL x).length <=1000)(hi:i<=1000000):Fn 333 [] [.sl .u32 (toL x),.int .i64 i] (.int .i64 (x/2^i % 2:Nat)) []:=by
 have hlim:=zk0 x;have hat:=zgc x (i/32);have hbt:=qdg x i;generalize toL x=t at*;refine fY9 Tryz.func333 rfl ?_;refine brI (fun h1=>?_) (fun h1=>?_)
 .have h1:=Z0 h1;rw[wI O]at h1;have e:x/2^i=0:=qd (qS hlim (qn OA O));conv=>whnf
  exact⟨ai0 (by rw[e];rfl),lh0⟩
 .have h1:=Z1 h1;rw[wI O]at h1;conv=>whnf
  refine⟨OA,?_⟩;conv=>whnf
  have hq:wi.wrap ((i:Int).tdiv 32)=((i/32:Nat):Int):=by
   grind[w6,wI]
  have hr:(i:Int).tmod 32=((i % 32:Nat):Int):=w7 i 32;rw[hq];refine⟨⟨O,O⟩,fun(y:Int)hy=>?_⟩;have hy:t[((i/32:Nat):Int).toNat]? =some y:=hy;rw[q3]at hy;rw[hat O]at hy;cases hy
  conv=>whnf
  refine⟨OA,?_⟩;conv=>whnf
  rw[hr];refine⟨O,?_⟩;conv=>whnf
  refine⟨ai0 ?_,lh0⟩;rw[bitR (q6 _ OA) (q6 _ OA),hbt,wI O]
theorem q332(n:Nat)(hn:(toL n).length <=1000):Fn 332 [] [.sl .u32 (toL n)] (.int .i64 (bl n:Nat)) []:=by
 have hb:=zm n;have hla:=zfi n;have hnz:n≠0<->(toL n).length ≠0:=not_congr jf.symm;have hb0:n=0->bl n=0:=fun h=>by grind
 have hlast:∀x,(toL n).getLast? =some x->x≠0:=fun x hx c=>by
  have h0:(toL n).length ≠0:=fun h=>by simp_all
  have hle:¬(toL n).length <=(toL n).length -1:=O;rw[qf]at hle;rw[List.getLast?_eq_getElem?,zgc n _ O]at hx;cases hx
  have hlim:=zk0 n;have e:2^(32*(toL n).length)=2^(32*((toL n).length -1))*4294967296:=by
   rw[show(4294967296:Nat)=2^32 by rfl,<-qC];congr 1;omega
  have h2:n/2^(32*((toL n).length -1))<4294967296:=qA O;have h3:0<n/2^(32*((toL n).length -1)):=qP O (q2 _);omega
 generalize bl n=B at hla hb0⊢;generalize toL n=t at*;refine fY9 Tryz.func332 rfl ?_;refine⟨Unit,fun _=>True,fun _=> [(3,.int .i64 ((t.length:Int)-1))],fun _=> [],fun _=>0,(),trivial,?_,fun _ _=>?_⟩
 ·((conv=>whnf);refine q0 ?_ ?_;repeat' first|refine lc ?_ ?_|refine lh1 ?_ ?_|refine bc0 ?_|exact KXZ|refine lg0 ?_|refine lt0 ?_)
  grind[ai0,wI]
 refine gYe ?_;refine brI (fun h1=>?_) (fun h1=>?_)
 .have h1:=Z0 h1;have h0:0<t.length:=O;have hw:(t.length:Int)-1=((t.length-1:Nat):Int):=O;have hx:=qJ (l:=t) (i:=t.length-1) O;generalize t[t.length-1]'(O)=x at hx;have hg:t.getLast?=some x:=by grind
  have hxb:=hb x (qQ hx);have hx0:=hlast x hg;rw[hg]at hla;simp only at hla;rw[zct O]at hla;obtain⟨y,rfl⟩:∃y:Nat,x=(y:Int):=⟨x.toNat,O⟩;rw[q3]at hla;have hy0:y≠0:=O;have hbx:bl y<=32:=wv.2 O;conv=>whnf
  refine⟨Nat,fun j=>bl y<=j/\j<=32,fun j=> [(4,.int .i64 ((j:Int)-1))],fun _=> [],fun j=>j,32,⟨hbx,qG _⟩,?_,fun j hj=>?_⟩
  .exact KZ0
  obtain⟨hj1,hj2⟩:=hj;have hj0:j≠0:=fun c=>hy0 (uj.1 O)
  obtain⟨k,rfl⟩:∃k,j=k+1:=⟨j-1,O⟩;have hk:(((k+1:Nat):Int)-1)=(k:Int):=O;have hb1:y/2^k % 2=1<->bl y=k+1:=by
   have hlt:y<2^(k+1):=wv.1 hj1;have hd:y/2^k<2:=qA O;have h3:=xj hy0 (k:=k);constructor
   .grind[we,qd]
   .intro c;have:=qP (h3.1 O) (q2 k);omega
  refine gYe ?_;refine brI (fun h2=>?_) (fun h2=>by simp_all);conv=>whnf
  rw[hw];refine⟨⟨O,O⟩,fun(z:Int)hz=>?_⟩;have hz:t[t.length-1]? =some z:=by grind
  rw[hx]at hz;cases hz
  conv=>whnf
  rw[hk];refine⟨O,?_⟩;conv=>whnf
  rw[bitR O O];refine brI (fun h3=>?_) (fun h3=>?_)
  .have h3:=hb1.1 (by grind);conv=>whnf
   refine⟨ai0 ?_,lh0⟩;grind[wI]
  .have h3:=mt hb1.2 (by grind);conv=>whnf
   refine⟨k,⟨O,O⟩,by grind,?_⟩
   ((conv=>whnf);refine q0 ?_ ?_;repeat' first|refine lc ?_ ?_|refine lh1 ?_ ?_|refine bc0 ?_|exact KXZ|refine lg0 ?_|refine lt0 ?_)
   grind[ai0,wI]
 .have h1:=Z1 h1;have e:=hb0 (Decidable.byContradiction fun c=>hnz.1 c O);conv=>whnf
  exact⟨ai0 (by rw[e];rfl),lh0⟩
theorem zk1{l:List Int}{i:Nat}{x:Int}(h:l[i]? =some x):l.take (i+1)=l.take i++ [x]:=by
 rw[List.take_add_one,h];rfl
theorem qbe(x i:Nat):(2*(x/2^(32*i) % 4294967296)+2*x/2^(32*i) % 2) % 4294967296=2*x/2^(32*i) % 4294967296/\
 x/2^(32*i) % 4294967296/2147483648=2*x/2^(32*(i+1)) % 2:=by
 have e1:x/2^(32*i)=2*x/2^(32*i)/2:=by
  grind[q5,qX,Nat.mul_div_mul_left]
 have e2:2*x/2^(32*(i+1))=2*x/2^(32*i)/4294967296:=by
  grind[qC,Nat.mul_succ,q5]
 omega
theorem qjy{w:Nat}(h:w % 2≠0)(h2:w<2):w=1:=O
theorem qdz{w:Nat}(h:w % 2=0)(h2:w<2):w=0:=O
theorem div2{x P:Nat}(h:x<P):2*x/P<2:=qA O
theorem q330(x:Nat)(hl:(toL x).length <=1000):Fn 330 [] [.sl .u32 (toL x),.int .u64 0] (.sl .u32 (toL (2*x))) []:=by
 have hge:(toL x).length <=(toL (2*x)).length :=kf (O:x<=2*x) (qG _);have hlim:=zk0 x;have hatx:=zgc x;have hat:=zgc (2*x);have hln:∀k,(toL (2*x)).length <=k<->2*x<2^(32*k):=fun k=>qf _ _
 have hdb:=qbe x;have hd0:2*x/2^(32*0) % 2=0:=O;generalize toL (2*x)=z at*;generalize toL x=t at*;refine fY9 Tryz.func330 rfl ?_;refine⟨Nat,fun i=>i<=t.length,fun i=> [(7,.int .i64 i),(5,.own 25),(6,.int .u32 (2*x/2^(32*i) % 2:Nat))],fun i=> [(25,.buf 108 .u32 (z.take i))],fun i=>t.length-i,0,q9 _,?_,fun i hi=>?_⟩
 ·((conv=>whnf);refine q0 ?_ ?_;repeat' first|refine lc ?_ ?_|refine lh1 ?_ ?_|refine bc0 ?_|exact KXZ|refine lg0 ?_|refine lt0 ?_)
  all_goals first|exact trivial|exact⟨rfl,rfl⟩|exact ai0 (by rw[hd0];rfl)
 have hi:i<=t.length:=hi;refine gYe ?_;refine brI (fun h1=>?_) (fun h1=>?_)
 .have h1:i<t.length:=by simp_all
  conv=>whnf
  refine⟨⟨O,O⟩,fun(y:Int)hy=>?_⟩;have hy:t[i]? =some y:=by grind
  have hy2:=hy;rw[hatx i h1]at hy2;cases hy2
  have hc:2*x/2^(32*i) % 2<=1:=O;have hz:=hat i O;obtain⟨d1,d2⟩:=hdb i;have hor:=qll (q6 (x/2^(32*i)) (OA:0<4294967296)) hc;rw[d1]at hor;conv=>whnf
  refine⟨OA,?_⟩;conv=>whnf
  refine⟨by grind,?_⟩;conv=>whnf
  refine⟨⟨O,O⟩,fun(y2:Int)hy2=>?_⟩;have hy2:t[i]? =some y2:=by grind
  rw[hy]at hy2;cases hy2
  conv=>whnf
  refine⟨OA,?_⟩;conv=>whnf
  refine⟨i+1,O,by grind,?_⟩
  ((conv=>whnf);refine q0 ?_ ?_;repeat' first|refine lc ?_ ?_|refine lh1 ?_ ?_|refine bc0 ?_|exact KXZ|refine lg0 ?_|refine lt0 ?_)
  .grind[ai0,qi4]
  .grind[ai0,wI]
  .exact bb0 (by grind[zk1])
 .have h1:¬i<t.length:=by simp_all
  obtain rfl:i=t.length:=O;conv=>whnf
  refine brI (fun h2=>?_) (fun h2=>?_)
  .have h2:2*x/2^(32*t.length) % 2≠0:=by grind
   have e1:2*x/2^(32*t.length)=1:=qjy h2 (div2 hlim);have hlen:z.length=t.length+1:=by
    have a1:¬z.length<=t.length:=by
     grind[qd]
    have a2:z.length<=t.length+1:=by
     grind
    omega
   have hz:=hat t.length O;rw[e1]at hz;have hz:z[t.length]? =some (1:Int):=hz;have hzz:z=z.take t.length++ [1]:=by grind[zk1,qE]
   rw[e1];conv=>whnf
   refine⟨by grind,?_⟩;conv=>whnf
   refine⟨?_,lh0⟩;exact wb hzz.symm
  .have h2:2*x/2^(32*t.length) % 2=0:=by grind
   have hlen:z.length<=t.length:=by
    rw[hln];refine Nat.not_le.1 fun c=>?_
    have e0:=qdz h2 (div2 hlim);have:=qP c (q2 _);omega
   conv=>whnf
   refine⟨?_,lh0⟩;exact wb (qL hlen)
theorem toL_1:toL 1= [1]:=by rw[yd OA];rfl
theorem qex{x:Nat}(he:x % 2=0)(h0:x≠0):(toL x).set 0 (((x % 4294967296+1:Nat)):Int)=toL (x+1):=by
 grind[yd]
theorem or_1{y:Nat}(hy:y<4294967296)(he:y % 2=0):wm.wrap ((q1 wm.bits (y:Int)|||q1 wm.bits 1).toNat :Int)=((y+1:Nat):Int):=by
 have h:=qhz y 1 hy OA;have:=zvv (v:=y) (i:=0) O;rw[show(2:Nat)^0=1 from rfl]at this;rw[this]at h;exact h
theorem q331(x:Nat)(he:x % 2=0)(hl:(toL x).length <=1000):Fn 331 [] [.sl .u32 (toL x)] (.sl .u32 (toL (x+1))) []:=by
 by_cases h0:x=0
 .subst h0;rw[jb,toL_1];refine fY9 Tryz.func331 rfl ?_;exact⟨lr rfl,lh0⟩
 have hn:(toL x).length ≠0:=mt jf.1 h0;have hat:=zgc x 0 O;rw[qY,qD,Nat.div_one]at hat;have hs:=qex he h0;have ho:=or_1 (q6 x (OA:0<4294967296)) O;generalize toL (x+1)=z at*;generalize toL x=t at*;refine fY9 Tryz.func331 rfl ?_;refine brI (fun h1=>?_) (fun h1=>?_)
 .simp_all
 conv=>whnf
 refine⟨by grind,?_⟩;conv=>whnf
 refine⟨⟨O,OE⟩,?_⟩;conv=>whnf
 refine⟨OE,fun(y:Int)hy=>?_⟩;have hy:t[0]? =some y:=by grind
 rw[hat]at hy;cases hy
 conv=>whnf
 refine⟨⟨O,OE⟩,?_⟩;conv=>whnf
 refine⟨OE,?_⟩;conv=>whnf
 refine⟨?_,lh0⟩;refine wb ?_
 simp_all
structure NxI(o l:List Int)(k:Nat):Prop where
 len:l.length=o.length
 lb:LB l
 drop:l.drop k=o.drop k
 sum:val (l.take k)=0
 ones:val (o.take k)+1=4294967296^k
theorem NxI.zero{o:List Int}(h:LB o):NxI o o 0:=⟨rfl,h,rfl,by simp[val],by simp[val]⟩
theorem NxI.hit{o l:List Int}{k y:Nat}(h:NxI o l k)(hk:k<o.length)(hy:(l[k]?.getD 0).toNat =y)(hy1:y+1<4294967296):val (l.set k ((y+1:Nat):Int))=val o+1/\LB (l.set k ((y+1:Nat):Int))/\(l.set k ((y+1:Nat):Int)).length =o.length:=by
 obtain⟨h1,h2,h3,h4,h5⟩:=h;refine⟨?_,h2.set O,by simp[h1]⟩;have e1:=zd7 ((l.set k ((y+1:Nat):Int)).take (k+1)) ((l.set k ((y+1:Nat):Int)).drop (k+1));rw[qN,zfq,zdj h3,zav O,h4,qF,List.length_set]at e1;have e2:=zd7 (o.take (k+1)) (o.drop (k+1));rw[qN,kb,<-zhg h3,hy,qF]at e2;grind
theorem NxI.step{o l:List Int}{k:Nat}(h:NxI o l k)(hk:k<o.length)(hy:(l[k]?.getD 0).toNat =4294967295):NxI o (l.set k ((0:Nat):Int)) (k+1):=by
 obtain⟨h1,h2,h3,h4,h5⟩:=h;refine⟨by simp[h1],h2.set O,by rw[zfq];exact zdj h3,by grind[zav],?_⟩;rw[kb,<-zhg h3,hy,qB];omega
theorem q335(x:Nat)(hl:(toL x).length <=1000):Fn 335 [] [.sl .u32 (toL x)] (.sl .u32 (toL (x+1))) []:=by
 have hlim:=zk0 x;have hb:=zm x;have hv:=zk x;have hge:(toL x).length <=(toL (x+1)).length :=kf (O:x<=x+1) (qG _);have hfin:∀l:List Int,LB l->val l=x+1->l.length=(toL x).length ->l=toL (x+1):=fun l h1 h2 h3=>qca h1 h2 (by
  have:(toL (x+1)).length <=l.length:=(qf _ _).2 (by grind[zdz]);omega)
 have hfin2:∀l:List Int,LB l->val l=x+1->l.length=(toL x).length +1->x+1=4294967296^(toL x).length ->l=toL (x+1):=fun l h1 h2 h3 h4=>qca h1 h2 (by
  have h5:(toL (x+1)).length <=l.length:=(qf _ _).2 (by grind[zdz]);have h6:¬(toL (x+1)).length <=(toL x).length :=by
   rw[qf,h4,Nat.pow_mul];simp_all
  omega)
 have hZ:=NxI.zero hb;generalize toL (x+1)=z at*;generalize toL x=t at*;refine fY9 Tryz.func335 rfl ?_;refine⟨by grind,?_⟩;conv=>whnf
 refine⟨Nat×List Int,fun s=>s.1<=t.length/\NxI t s.2 s.1,fun s=> [(4,.int .i64 s.1),(5,.any)],fun s=> [(7,.buf 108 .u32 s.2)],fun s=>t.length-s.1,(0,t),⟨q9 _,hZ⟩,?_,fun s hs=>?_⟩
 .exact KZ0
 obtain⟨k,l⟩:=s;obtain⟨hk,hI⟩:=hs;simp only at hk hI;have hll:=hI.len;refine gYe ?_;refine brI (fun c=>?_) (fun c=>?_)
 .have c:k<t.length:=by simp_all
  have hx:=qJ (l:=l) (i:=k) O;generalize l[k]'(O)=y0 at hx;have hyb:=hI.lb y0 (qQ hx);obtain⟨y,rfl⟩:∃y:Nat,y0=(y:Int):=⟨y0.toNat,O⟩;have hxg:(l[k]?.getD 0).toNat =y:=by rw[hx];rfl
  conv=>whnf
  refine⟨⟨O,by grind⟩,?_⟩;conv=>whnf
  refine⟨by simp_all,fun(w:Int)hw=>?_⟩;have hw:l[k]? =some w:=by grind
  rw[hx]at hw;cases hw
  conv=>whnf
  refine⟨⟨O,by grind⟩,?_⟩;conv=>whnf
  refine⟨by simp_all,?_⟩;conv=>whnf
  refine⟨⟨O,OE⟩,?_⟩;conv=>whnf
  refine⟨OE,fun(w:Int)hw=>?_⟩;have e0:(l.set (k:Int).toNat (wm.wrap ((y:Int)+1)))[(k:Int).toNat]? =some w:=hw;rw[q3,List.getElem?_set_self O]at e0;cases e0
  have ew:wm.wrap ((y:Int)+1)=(((y+1) % 4294967296:Nat):Int):=zmm (y+1);conv=>whnf
  rw[ew];refine brI (fun c2=>?_) (fun c2=>?_)
  .have c2:(y+1) % 4294967296≠0:=by grind
   have hy1:y+1<4294967296:=O;obtain⟨v1,v2,v3⟩:=hI.hit c hxg hy1;rw[q4 hy1];conv=>whnf
   refine⟨wb ?_,lh0⟩;grind
  .have c2:(y+1) % 4294967296=0:=by grind
   have hst:=hI.step c (by rw[hxg];omega);rw[c2];conv=>whnf
   refine⟨(k+1,l.set k ((0:Nat):Int)),⟨O,hst⟩,by grind,?_⟩
   ((conv=>whnf);refine q0 ?_ ?_;repeat' first|refine lc ?_ ?_|refine lh1 ?_ ?_|refine bc0 ?_|exact KXZ|refine lg0 ?_|refine lt0 ?_)
   grind[ai0,wI]
 .have c:k=t.length:=by grind
  subst c;have h4:=hI.ones;rw[qE,hv]at h4;have h5:=hI.sum;rw[qL O]at h5;conv=>whnf
  refine⟨by grind,?_⟩;conv=>whnf
  refine⟨wb ?_,lh0⟩;refine hfin2 (l++ [1]) (fun z hz=>?_) ?_ (by simp[hll]) h4
  .rcases List.mem_append.1 hz with hz|hz
   .exact hI.lb z hz
   simp_all
  .rw[zd7,h5,hll,<-hv,hv,h4];show 0+_*1=_;omega
theorem zvu{w k:Nat}(hk:k<32):wm.wrap ((q1 wm.bits ((w % 2^k:Nat):Int)|||q1 wm.bits (wm.wrap (wm.wrap ((w/2^k % 2:Nat):Int)*2^min ((k:Nat):Int).toNat wm.bits))).toNat :Int)=((w % 2^(k+1):Nat):Int):=by
 have hp:2^k<4294967296:=qO (a:=2) OA (show k<32 from hk);have hb:w/2^k % 2<2:=q6 _ OA;have hm:w % 2^k<2^k:=q6 _ (q2 k);have e0:wm.wrap ((w/2^k % 2:Nat):Int)=((w/2^k % 2:Nat):Int):=by grind[zmm]
 have hle:w/2^k % 2*2^k<=2^31:=by
  have h1:w/2^k % 2*2^k<=1*2^k:=Nat.mul_le_mul_right _ O;have h2:2^k<=2^31:=qn OA O;omega
 have e1:wm.wrap (((w/2^k % 2:Nat):Int)*2^min ((k:Nat):Int).toNat wm.bits)=((w/2^k % 2*2^k:Nat):Int):=by
  rw[q3,show min k wm.bits=k from w4 (by show k<=32;omega)];rw[show((w/2^k % 2:Nat):Int)*2^k=((w/2^k % 2*2^k:Nat):Int) by simp_all];rw[zmm,q4 O]
 rw[e0,e1];refine Eq.trans (qhz _ _ O O) ?_
 congr 1
 rw[Nat.or_comm,qX,<-Nat.two_pow_add_eq_or_of_lt hm,qB,w0];omega
theorem zsa(x t n:Nat):x/2^(t+n) % 2=x/2^t/2^n % 2:=by grind[q5]
theorem q334(neg:Bool)(x:Nat)(hl:(toL x).length <=900)(e:Int)(he: -1000000<=e/\e<=1000000):Fn 334 [] [.bool neg,.sl .u32 (toL x),.int .i64 e] (.agg (dyC (cnN neg x e))) []:=by
 have c332:=q332 x O;by_cases hx:x=0
 .have e0:cnN neg x e=d0:=by grind[cnN]
  rw[e0];rw[hx,vl]at c332;rw[hx];refine fY9 Tryz.func334 rfl ?_;refine gYn c332 ?_;exact⟨lg0 (lc (lr rfl) (lc (li0 rfl) (lc (lr rfl) ln0))),lh0⟩
 have hbx:bl x≠0:=mt uj.1 hx;have hbl:bl x<=28800:=by simp_all[zx]
 obtain⟨m0,ho1,ho2⟩:=um hx;have hy0:x/2^tz x≠0:=by
  grind[tz,jA,q2]
 have hbs:bl x=bl (x/2^tz x)+tz x:=by obtain⟨m,_,_,h3,h4⟩:=zen hx;grind
 have c333:∀i,i<=100000->Fn 333 [] [.sl .u32 (toL x),.int .i64 (i:Nat)] (.int .i64 (x/2^i % 2:Nat)) []:=fun i hi=>q333 x i O O
 have htz:∀n,n<=tz x->(x/2^n % 2=0<->n<tz x):=fun n hn=>qb9 hx hn
 have hsh:∀n,x/2^(tz x+n) % 2=x/2^tz x/2^n % 2:=zsa x (tz x);have hcn:cnN neg x e=⟨neg,toL (x/2^tz x),e+tz x⟩:=by grind[cnN]
 rw[hcn];have hlim:=zx (x/2^tz x);have hat:=zgc (x/2^tz x);clear hcn ho1 ho2 hl;generalize toL x=t at*;generalize x/2^tz x=y at*;generalize tz x=s at*;generalize bl x=n at*;generalize toL y=z at*;refine fY9 Tryz.func334 rfl ?_;refine gYn c332 ?_;refine brI (fun c=>?_) (fun c=>?_)
 .grind
 conv=>whnf
 refine⟨Nat,fun j=>j<=s,fun j=> [(8,.int .i64 j)],fun _=> [],fun j=>s-j,0,q9 _,?_,fun j hj=>?_⟩
 .exact KZ0
 have hj:j<=s:=hj;refine gYe ?_;refine gYn (c333 j O) ?_;refine brI (fun c1=>?_) (fun c1=>?_)
 .have c1:j<s:=(htz j hj).1 (by grind);conv=>whnf
  refine⟨j+1,O,by grind,?_⟩;exact KZ0
 have c1:j=s:=by
  have h1:=mt (htz j hj).2 (by grind);omega
 subst c1;conv=>whnf
 rw[wI O];refine⟨Nat,fun i=>i<=z.length,fun i=> [(10,.int .i64 (j+32*i))],fun i=> [(9,.cells [.bool neg,.own 53,.int .i64 (e+j)]),(53,.buf 108 .u32 (z.take i))],fun i=>z.length-i,0,q9 _,?_,fun i hi=>?_⟩
 ·((conv=>whnf);refine q0 ?_ ?_;repeat' first|refine lc ?_ ?_|refine lh1 ?_ ?_|refine bc0 ?_|exact KXZ|refine lg0 ?_|refine lt0 ?_)
  all_goals first|exact trivial|exact⟨rfl,rfl⟩|exact ai0 O
 have hi:i<=z.length:=hi;have hlim2:=hlim i;refine gYe ?_;refine brI (fun c2=>?_) (fun c2=>?_)
 .have c2:i<z.length:=by grind
  have hz:=hat i c2;conv=>whnf
  refine⟨Nat,fun k=>k<=32,fun k=> [(12,.int .i64 k),(11,.int .u32 (y/2^(32*i) % 2^k:Nat))],fun _=> [],fun k=>32-k,0,q9 _,?_,fun k hk=>?_⟩
  ·((conv=>whnf);refine q0 ?_ ?_;repeat' first|refine lc ?_ ?_|refine lh1 ?_ ?_|refine bc0 ?_|exact KXZ|refine lg0 ?_|refine lt0 ?_)
   grind[ai0]
  have hk:k<=32:=hk;refine gYe ?_;refine brI (fun c3=>?_) (fun c3=>?_)
  .have c3:k<32:=by grind
   have hw:wi.wrap ((j:Int)+32*(i:Int)+(k:Int))=((j+(32*i+k):Nat):Int):=by grind[wI]
   have hb:x/2^(j+(32*i+k)) % 2=y/2^(32*i)/2^k % 2:=by rw[hsh,zsa]
   have cc:=c333 (j+(32*i+k)) O;rw[hb]at cc;have hor:=zvu (w:=y/2^(32*i)) c3;conv=>whnf
   rw[hw];refine gYn cc ?_;refine⟨O,?_⟩;conv=>whnf
   refine⟨k+1,O,by grind,?_⟩
   ((conv=>whnf);refine q0 ?_ ?_;repeat' first|refine lc ?_ ?_|refine lh1 ?_ ?_|refine bc0 ?_|exact KXZ|refine lg0 ?_|refine lt0 ?_)
   .exact ai0 hor
   grind[ai0,wI]
  .have c3:k=32:=by grind
   subst c3;conv=>whnf
   refine⟨by grind,?_⟩;conv=>whnf
   refine⟨i+1,O,by grind,?_⟩
   ((conv=>whnf);refine q0 ?_ ?_;repeat' first|refine lc ?_ ?_|refine lh1 ?_ ?_|refine bc0 ?_|exact KXZ|refine lg0 ?_|refine lt0 ?_)
   .grind[ai0,wI]
   simp_all[bb0,zk1]
 .have c2:i=z.length:=by grind
  subst c2;rw[qE];conv=>whnf
  exact⟨lr rfl,lh0⟩
theorem and64{n:Nat}(h:n<18446744073709551616):wn.wrap ((q1 wn.bits (n:Int)&&& q1 wn.bits 1).toNat :Int)=((n % 2:Nat):Int):=by
 have e1:(q1 64 (n:Int)).toNat =n:=by simp_all
 have e2:(q1 64 1).toNat =2^1-1:=OA;have e3:(q1 64 (n:Int)&&& q1 64 1).toNat =n % 2:=by
  simp_all
 show wn.wrap ((q1 64 (n:Int)&&& q1 64 1).toNat :Int)=_;grind[q6,wUn]
theorem sh64{n k:Nat}(hk:k<=64):(n:Int).fdiv (2^min ((k:Nat):Int).toNat wn.bits)=((n/2^k:Nat):Int):=by
 rw[q3,show min k wn.bits=k from w4 (by show k<=64;omega),Int.fdiv_eq_ediv_of_nonneg _ (Int.pow_nonneg OA)];simp
theorem ql0{n k:Nat}(hk:k<=64)(hn:n<18446744073709551616):wn.wrap ((q1 wn.bits ((n:Int).fdiv (2^min ((k:Nat):Int).toNat wn.bits))&&& q1 wn.bits 1).toNat :Int)=((n/2^k % 2:Nat):Int):=by
 rw[sh64 hk,and64 (qI (q8 _ _) hn)]
theorem qlf{n d:Nat}(hn:n<18446744073709551616)(hd:0<d):∃(Q D E:Nat->List Int)(R:Nat->Nat),(∀j,Fn 330 [] [.sl .u32 (Q j),.int .u64 0] (.sl .u32 (D j)) [])/\(∀j,Fn 331 [] [.sl .u32 (D j)] (.sl .u32 (E j)) [])/\(∀j,(Q j).length <=2)/\Q 64= []/\R 64=0/\(∀j,R j<d)/\
 (∀j,(2*R (j+1)+n/2^j % 2<d->R j=2*R (j+1)+n/2^j % 2/\Q j=D (j+1))/\(¬2*R (j+1)+n/2^j % 2<d->R j=2*R (j+1)+n/2^j % 2-d/\Q j=E (j+1))/\2*R (j+1)+n/2^j % 2<2*d)/\Q 0=toL (n/d)/\R 0=n % d:=by
 have hl:∀j,(toL (n/2^j/d)).length <=2:=fun j=>(qf _ _).2 (qI (qH (q8 _ _) (q8 _ _)) hn)
 have hl2:∀j,(toL (2*(n/2^j/d))).length <=3:=fun j=>(qf _ _).2 (by
  have:n/2^j/d<=n:=qH (q8 _ _) (q8 _ _);omega)
 have h64:n/2^64=0:=qd hn;refine⟨fun j=>toL (n/2^j/d),fun j=>toL (2*(n/2^j/d)),fun j=>toL (2*(n/2^j/d)+1),fun j=>n/2^j % d,fun j=>q330 _ (by grind),fun j=>q331 _ O (by grind),hl,?_,?_,fun j=>q6 _ hd,fun j=>?_,?_,?_⟩
 .grind[toL,w8,jb]
 .grind[Nat.zero_mod]
 .grind[zxj]
 .simp_all
 simp_all
theorem qgm(a d:Nat)(hd:0<d):(2*(a % d)<d->2*a % d=2*(a % d)/\2*a/d=2*(a/d))/\(¬2*(a % d)<d->2*a % d=2*(a % d)-d/\2*a/d=2*(a/d)+1):=by
 have h1:=Nat.div_add_mod a d;have h3:=q6 a hd;generalize a % d=r at*;generalize a/d=q at*;subst h1;refine⟨fun c=>?_,fun c=>?_⟩
 .grind[qT,Nat.mul_left_comm]
 .have hq:=(qT hd (a:=2*(d*q+r)) (c:=2*r-d) (d:=2*q+1)).2 ⟨by grind,O⟩;omega
theorem qle{n d C p:Nat}(hd:0<d)(hp:p<=20000)(hn:n<18446744073709551616)(h2:∀c,c<C->bl (n*2^c/d)<p):∃(Q D E:Nat->List Int)(R:Nat->Nat),(∀c,c<C->Fn 330 [] [.sl .u32 (Q c),.int .u64 0] (.sl .u32 (D c)) [])/\(∀c,c<C->Fn 331 [] [.sl .u32 (D c)] (.sl .u32 (E c)) [])/\(∀c,R c<d)/\
 (∀c,(2*R c<d->R (c+1)=2*R c/\Q (c+1)=D c)/\(¬2*R c<d->R (c+1)=2*R c-d/\Q (c+1)=E c))/\(∀c,Q c=toL (n*2^c/d))/\(∀c,R c=n*2^c % d)/\bl (n*2^C/d)<=20000/\∀c,c<=C->Fn 332 [] [.sl .u32 (Q c)] (.int .i64 (bl (n*2^c/d):Nat)) []:=by
 have hb:∀c,c<C->bl (n*2^c/d)<=20000:=fun c hc=>by grind
 have hl:∀c,c<C->(toL (n*2^c/d)).length <=700:=fun c hc=>(zx _ _).2 (by grind)
 have hs:∀x,bl (2*x)<=bl x+1:=fun x=>wv.2 (by grind[qB,zbb])
 have hs1:∀x,bl (2*x+1)<=bl x+1:=fun x=>wv.2 (by grind[qB,zbb])
 have hl2:∀c,c<C->(toL (2*(n*2^c/d))).length <=700:=fun c hc=>(zx _ _).2 (by grind)
 have hst:∀c,_:=fun c=>qgm (n*2^c) d hd
 have hpw:∀c,n*2^(c+1)=2*(n*2^c):=fun c=>by grind
 have hC:bl (n*2^C/d)<=20000:=by
  cases C with
  |zero=>
   rw[qD,w3];have h:bl (n/d)<=64:=wv.2 (qI (q8 _ _) hn);omega
  |succ c=>
   have h:=h2 c (Nat.lt_succ_self c);obtain⟨a,b⟩:=hst c;rw[hpw];by_cases hc:2*(n*2^c % d)<d
   .grind
   grind
 refine⟨fun c=>toL (n*2^c/d),fun c=>toL (2*(n*2^c/d)),fun c=>toL (2*(n*2^c/d)+1),fun c=>n*2^c % d,fun c hc=>q330 _ (by grind),fun c hc=>q331 _ O (by grind),fun c=>q6 _ hd,fun c=>?_,fun _=>rfl,fun _=>rfl,hC,fun c hc=>q332 _ ?_⟩
 .simp_all
 grind[zx,qU]
def exE(n d p C:Nat):Bool:=decide (n*2^C % d=0/\n*2^C/d % 2^(bl (n*2^C/d)-p)=0)
def maE(n d p C:Nat)(up:Bool):Nat:=if(exE n d p C|| !up)=true then n*2^C/d/2^(bl (n*2^C/d)-p)else n*2^C/d/2^(bl (n*2^C/d)-p)+1
theorem zrc(a d K:Nat)(hd:0<d):a % d=0/\a/d % K=0<->a % (d*K)=0:=by
 simp_all[w0,qY,w5]
theorem zrx{n d p C:Nat}(neg up:Bool)(hn0:0<n)(hn:n<=1073741824)(hd0:0<d)(hp:8<=p/\p<=512)(h1:p<=bl (n*2^C/d))(hC:C<=10000):
 xy neg (n*2^(C+1)/d) (-((C:Int)+1)) (decide (n*2^(C+1) % d≠0)) p up=(cnN neg (maE n d p C (neg != up)) ((bl (n*2^C/d)-p:Nat)-(C:Int)),0)/\p<bl (n*2^(C+1)/d):=by
 have hA:n*2^(C+1)=n*2^C*2:=by grind
 have hblA:bl (n*2^C)=bl n+C:=zq n C O;have hbn:bl n<=31:=wv.2 O;have hM:bl (n*2^C/d)<=bl (n*2^C):=qc (q8 _ _);have hex:exE n d p C=true<->n*2^(C+1) % d=0/\n*2^(C+1)/d % 2^(bl (n*2^C/d)-p+1)=0:=by
  unfold exE;rw[decide_eq_true_iff,zrc _ _ _ hd0,zrc _ _ _ hd0,hA,qB,<-Nat.mul_assoc,Nat.mul_mod_mul_right];omega
 have hh:n*2^(C+1)/d/2=n*2^C/d:=by
  simp_all[q5,Nat.mul_div_mul_right]
 have hmd:maE n d p C (neg != up)=if(exE n d p C|| !(neg != up))=true then n*2^C/d/2^(bl (n*2^C/d)-p)else n*2^C/d/2^(bl (n*2^C/d)-p)+1:=rfl
 rw[hmd];clear hmd;have hm0:n*2^(C+1)/d≠0:=fun c=>by grind[vl]
 have hb2:bl (n*2^(C+1)/d)=bl (n*2^C/d)+1:=by rw[zmg hm0,hh]
 have hlt:p<bl (n*2^(C+1)/d):=O;refine⟨?_,hlt⟩;rw[<-zcq _ _ _ _ _ _ (fun _=>hlt) (fun h=>absurd h hm0) hp];have hq:n*2^(C+1)/d/2^(bl (n*2^C/d)-p+1)=n*2^C/d/2^(bl (n*2^C/d)-p):=by
  grind[bl,qB,qX,q5]
 have hyb:bl (n*2^C/d/2^(bl (n*2^C/d)-p))=p:=by
  have h0:n*2^C/d≠0:=fun c=>by grind[vl]
  have hge:2^(bl (n*2^C/d)-p)<=n*2^C/d:=(xj h0).1 O;grind[zaj]
 generalize exE n d p C=ex at*;generalize n*2^(C+1) % d=R2 at*;generalize n*2^(C+1)/d=M2 at*;generalize n*2^C/d=M at*;obtain⟨L,hL⟩:∃L,bl M=p+L:=⟨bl M-p,O⟩;have hLe:bl M-p=L:=O;rw[hLe]at hex hyb hq⊢;have hk:kR M2 (-((C:Int)+1)) p=L+1:=by unfold kR;omega
 have hmo:moR M2 (-((C:Int)+1)) p (decide (R2≠0))= !ex:=by
  grind[moR]
 have hqu:quR neg M2 (-((C:Int)+1)) p (decide (R2≠0)) up=if(ex|| !(neg != up))=true then M/2^L else M/2^L+1:=by
  grind[quR]
 have hbq:bl (if(ex|| !(neg != up))=true then M/2^L else M/2^L+1)<=p+1:=by
  grind[zcs]
 grind[ziy]
def ziw(n d p C:Nat)(neg up:Bool):Dy:=cnN neg (maE n d p C (neg != up)) ((bl (n*2^C/d)-p:Nat)-(C:Int))
theorem qgh{n d p C:Nat}(neg:Bool)(hn0:0<n)(hn:n<=1073741824)(hd0:0<d)(hp:8<=p/\p<=512)(h1:p<=bl (n*2^C/d))(hC:C<=10000):
 RT p (if neg=true then-(vN n 0/vN d 0)else vN n 0/vN d 0) (fun up=>(ziw n d p C neg up,0))/\∀up,VD (ziw n d p C neg up):=by
 have hE:∀up,_:=fun up=>(zrx neg up hn0 hn hd0 hp h1 hC).1
 have hbit:=(zrx neg true hn0 hn hd0 hp h1 hC).2;refine⟨?_,fun up=>?_⟩
 .rw[show(fun up=>(ziw n d p C neg up,(0:Int)))=_ from funext fun up=>(hE up).symm];have hb:0<vN d 0:=zhq _ O;have hx:vN n 0=vN (n*2^(C+1)) (-((C:Int)+1)):=by grind[zbg]
  have hq:∀q,vN q (-((C:Int)+1))*vN d 0=vN (q*d) (-((C:Int)+1)):=fun q=>by rw[zmp];congr 1
  have hdm:=Nat.div_add_mod' (n*2^(C+1)) d;have hml:=q6 (n*2^(C+1)) hd0;refine zc1 hp _ ?_ ?_ ?_ ?_ ?_ ?_
  .grind[zry,yk]
  .grind[zxl,zky,Nat.succ_mul]
  .intro h;have h:n*2^(C+1) % d=0:=by simpa using h
   have e1:vN (n*2^(C+1)/d) (-((C:Int)+1))*vN d 0=vN n 0:=by
    simp_all
   grind
  .intro h;have h:n*2^(C+1) % d≠0:=by simpa using h
   refine Rat.not_le.1 fun c=>?_
   have h2:=qv c (Rat.le_of_lt hb);have e1:vN n 0/vN d 0*vN d 0=vN n 0:=by grind
   grind[yk]
  .omega
  omega
 .have:=zi8 neg (n*2^(C+1)/d) (-((C:Int)+1)) (decide (n*2^(C+1) % d≠0)) up p hp;rw[hE]at this;exact this
theorem zxk(n:Int):dv (wl n)=if n<0 then-(vN n.natAbs 0)else vN n.natAbs 0:=by
 simp_all[wl,zfp]
theorem qld{n d p:Int}(hr:rOk ⟨n,d⟩=true)(hn0:n≠0)(hp:pcB p=true){C:Nat}(hC:C<=10000)(h1:p.toNat<=bl (n.natAbs*2^C/d.natAbs))(hn:n.natAbs<=1073741824)(hd:1<=d/\d<=1073741824):
 zkr ⟨n,d⟩ p=⟨ziw n.natAbs d.natAbs p.toNat C (decide (n<0)) false,ziw n.natAbs d.natAbs p.toNat C (decide (n<0)) true,false⟩:=by
 have hpp:=qk hp;obtain⟨R,V⟩:=qgh (n:=n.natAbs) (d:=d.natAbs) (p:=p.toNat) (C:=C) (decide (n<0)) O hn O hpp h1 hC;have hdn:n.natAbs<=1073741824:=hn;have hnd:nm (wl d)≠0:=by
  unfold wl;rw[zna];obtain⟨m0,ho1,ho2⟩:=um (O:d.natAbs≠0);grind[tz,jA,q2]
 have G:=zgj (jl n O) (jl d O) hnd hpp;have e:dv (wl n)/dv (wl d)=if decide (n<0)=true then-(vN n.natAbs 0/vN d.natAbs 0)else vN n.natAbs 0/vN d.natAbs 0:=by
  grind[zxk]
 rw[e]at G;unfold zkr;rw[Z4 hr,<-zo8 (ztr R G false (V false) (yj _ _ _ _ hpp)) (ztr R G true (V true) (yj _ _ _ _ hpp))];rfl
theorem tdN(a b:Nat):((a:Nat):Int).tdiv (b:Nat)=((a/b:Nat):Int):=(w6 a b).symm
theorem tmN(a b:Nat):((a:Nat):Int).tmod (b:Nat)=((a % b:Nat):Int):=(w7 a b).symm
theorem qgf(M i:Nat):M % 2^(i+1)=0<->M % 2^i=0/\M/2^i % 2=0:=by
 rw[qB,w0];have:=q2 i;constructor
 .intro h;exact⟨O,(w5.1 (O:2^i*(M/2^i % 2)=0)).resolve_left O⟩
 .rintro⟨h,h'⟩;rw[h,h',qY]
theorem dec0(r:Nat):(((r:Nat):Int)==0)=decide (r=0):=by
 rw[Bool.eq_iff_iff,beq_iff_eq,decide_eq_true_iff];omega
theorem bit0(b:Bool):((((if b=true then 1 else 0:Nat):Nat):Int)==0)=(true&& !b):=by cases b<;>rfl
theorem qlg{n d p C:Nat}(hn:n<=1073741824)(hd0:0<d)(hp:1<=p/\p<=20000)(h1:p<=bl (n*2^C/d))(h2:∀c,c<C->bl (n*2^c/d)<p)(hC:C<=100000):
 ∃(Q D E Q2 D2 E2:Nat->List Int)(R R2 B:Nat->Nat)(z z1:List Int)(y L:Nat)(X b:Nat->Bool)(lo hi:Dy),
 (∀j,Fn 330 [] [.sl .u32 (Q j),.int .u64 0] (.sl .u32 (D j)) [])/\(∀j,Fn 331 [] [.sl .u32 (D j)] (.sl .u32 (E j)) [])/\(∀j,(Q j).length <=2)/\Q 64= []/\R 64=0/\(∀j,R j<d)/\
 (∀j,(2*R (j+1)+n/2^j % 2<d->R j=2*R (j+1)+n/2^j % 2/\Q j=D (j+1))/\(¬2*R (j+1)+n/2^j % 2<d->R j=2*R (j+1)+n/2^j % 2-d/\Q j=E (j+1))/\2*R (j+1)+n/2^j % 2<2*d)/\
 Q 0=Q2 0/\R 0=R2 0/\
 (∀c,c<C->Fn 330 [] [.sl .u32 (Q2 c),.int .u64 0] (.sl .u32 (D2 c)) [])/\(∀c,c<C->Fn 331 [] [.sl .u32 (D2 c)] (.sl .u32 (E2 c)) [])/\(∀c,R2 c<d)/\
 (∀c,(2*R2 c<d->R2 (c+1)=2*R2 c/\Q2 (c+1)=D2 c)/\(¬2*R2 c<d->R2 (c+1)=2*R2 c-d/\Q2 (c+1)=E2 c))/\
 (∀c,c<=C->Fn 332 [] [.sl .u32 (Q2 c)] (.int .i64 (B c:Nat)) [])/\(∀c,c<C->B c<p)/\B C=p+L/\L<=20000/\
 (∀i,i<=100000->Fn 333 [] [.sl .u32 (Q2 C),.int .i64 (i:Nat)] (.int .i64 (if b i=true then 1 else 0:Nat)) [])/\
 (∀i,i<=50000->(if b (L+i)=true then 1 else 0)=y/2^i % 2)/\(∀k,k<z.length->z[k]? =some ((y/2^(32*k) % 4294967296:Nat):Int))/\(∀k,z.length<=k<->p<=32*k)/\y<2^p/\
 X 0=decide (R2 C=0)/\(∀i,X (i+1)=(X i&& !b i))/\
 Fn 334 [] [.bool false,.sl .u32 z,.int .i64 ((L:Nat)-(C:Int))] (.agg (dyC lo)) []/\Fn 335 [] [.sl .u32 z] (.sl .u32 z1) []/\Fn 334 [] [.bool false,.sl .u32 z1,.int .i64 ((L:Nat)-(C:Int))] (.agg (dyC hi)) []/\z.length<=1000/\
 ziw n d p C false false=lo/\ziw n d p C false true=if X L=true then lo else hi:=by
 obtain⟨Q,D,E,R,a330,a331,hQl,hQ64,hR64,hR,hst,hQ0,hR0⟩:=qlf (n:=n) (d:=d) O hd0;obtain⟨Q2,D2,E2,R2,b330,b331,hR2,hst2,hQ2,hRd2,hbm,b332⟩:=qle (n:=n) (d:=d) (C:=C) (p:=p) hd0 hp.2 O h2;obtain⟨L,hL⟩:∃L,bl (n*2^C/d)=p+L:=⟨bl (n*2^C/d)-p,O⟩;have hLe:bl (n*2^C/d)-p=L:=O;have hM0:n*2^C/d≠0:=fun c=>by rw[c,vl]at h1;omega
 have hyb:bl (n*2^C/d/2^L)=p:=by
  have hge:2^L<=n*2^C/d:=(xj hM0).1 O;rw[zaj _ _ hge];omega
 have hbit:∀m:Nat,(if decide (m % 2=1)=true then 1 else 0:Nat)=m % 2:=fun m=>by
  rcases Nat.mod_two_eq_zero_or_one m with h|h<;>simp[h]
 have hy1:bl (n*2^C/d/2^L+1)<=p+1:=by have:=zcs (n*2^C/d/2^L);omega
 refine⟨Q,D,E,Q2,D2,E2,R,R2,fun c=>bl (n*2^c/d),toL (n*2^C/d/2^L),toL (n*2^C/d/2^L+1),n*2^C/d/2^L,L,fun i=>decide (R2 C=0/\n*2^C/d % 2^i=0),fun i=>decide (n*2^C/d/2^i % 2=1),cnN false (n*2^C/d/2^L) ((L:Nat)-(C:Int)),cnN false (n*2^C/d/2^L+1) ((L:Nat)-(C:Int)),
  a330,a331,hQl,hQ64,hR64,hR,hst,by rw[hQ0,hQ2,qD,w3],by rw[hR0,hRd2,qD,w3],b330,b331,hR2,hst2,b332,h2,hL,O,fun i hi=>?_,fun i hi=>?_,fun k hk=>zgc _ k hk,fun k=>by rw[zx,hyb],by rw[<-hyb];exact zbb _,?_,fun i=>?_,q334 _ _ ((zx _ 900).2 O) _ O,q335 _ ((zx _ 1000).2 O),q334 _ _ ((zx _ 900).2 O) _ O,(zx _ 1000).2 O,?_,?_⟩
 .show Fn 333 [] [_,_] (.int .i64 ((if decide (n*2^C/d/2^i % 2=1)=true then 1 else 0:Nat):Int)) [];rw[hbit,hQ2];exact q333 _ i ((zx _ 1000).2 O) O
 .show(if decide (n*2^C/d/2^(L+i) % 2=1)=true then 1 else 0:Nat)=_;rw[hbit,zsa]
 .show decide (R2 C=0/\n*2^C/d % 2^0=0)=_;rw[qD,w9];simp
 .show decide (R2 C=0/\n*2^C/d % 2^(i+1)=0)=(decide (R2 C=0/\n*2^C/d % 2^i=0)&& !decide (n*2^C/d/2^i % 2=1));have h:=qgf (n*2^C/d) i;generalize n*2^C/d % 2^i=u at*;generalize n*2^C/d % 2^(i+1)=v at*;generalize n*2^C/d/2^i=w at*;rw[<-decide_not,<-Bool.decide_and];refine decide_eq_decide.2 ?_;rw[h];omega
 .show ziw n d p C false false=_;unfold ziw maE;rw[hLe];simp
 .show ziw n d p C false true=if decide (R2 C=0/\n*2^C/d % 2^L=0)=true then _ else _
  unfold ziw maE exE;rw[hLe,hRd2];by_cases h:n*2^C % d=0/\n*2^C/d % 2^L=0
  .simp[h]
  .simp[h]
theorem q253{n d p C:Nat}(hn:n<=1073741824)(hd0:0<d)(hd:d<=1073741824)(hp:1<=p/\p<=20000)(h1:p<=bl (n*2^C/d))(h2:∀c,c<C->bl (n*2^c/d)<p)(hC:C<=100000):
 Fn 253 [] [.int .u64 n,.int .u64 d,.int .i64 p] (.tup [.agg (dyC (ziw n d p C false false)),.agg (dyC (ziw n d p C false true))]) []:=by
 obtain⟨Q,D,E,Q2,D2,E2,R,R2,B,z,z1,y,L,X,b,lo,hi,a330,a331,hQl,hQ64,hR64,hR,hst,e0,e1,b330,b331,hR2,hst2,b332,hB,hBC,hL,b333,hbs,hat,hlim,hyp,hX0,hX,c334,c335,c334b,hzl,hlo,hhi⟩:=qlg hn hd0 hp h1 h2 hC;rw[hlo,hhi];clear hlo hhi h1 h2;refine fY9 Tryz.func253 rfl ?_;refine⟨Nat×AV×Blk,fun x=>x.1<=64/\((x.1=64/\x.2=(.own 21,.buf 108 .u32 []))\/(x.1<64/\x.2=(.sl .u32 (Q x.1),.dead))),fun x=> [(11,.int .i64 (x.1-1)),(8,x.2.1),(9,.int .u64 (R x.1:Nat)),(21,.any)],fun x=> [(21,x.2.2)],fun x=>x.1,(64,.own 21,.buf 108 .u32 []),⟨qG _,.inl ⟨rfl,rfl⟩⟩,?_,fun x hx=>?_⟩
 ·((conv=>whnf);refine q0 ?_ ?_;repeat' first|refine lc ?_ ?_|refine lh1 ?_ ?_|refine bc0 ?_|exact KXZ|refine lg0 ?_|refine lt0 ?_)
  all_goals exact ai0 (by rw[hR64];rfl)
 obtain⟨r,m,bk⟩:=x;obtain⟨hr,hx⟩:=hx;simp only at hr hx
 cases r with
 |zero=>
  obtain⟨h,_⟩|⟨_,hx⟩:=hx
  .cases h
  obtain⟨rfl,rfl⟩:=Prod.mk.inj hx;refine gYe ?_;rw[e0,e1];refine⟨Nat,fun c=>c<=C,fun c=> [(8,.sl .u32 (Q2 c)),(9,.int .u64 (R2 c:Nat)),(10,.int .i64 (-(c:Int)))],fun _=> [],fun c=>C-c,0,q9 _,?_,fun c hc=>?_⟩
  .exact KZ0
  have hc:c<=C:=hc;refine gYe ?_;refine gYn (b332 c hc) ?_;refine brI (fun c1=>?_) (fun c1=>?_)
  .have c1:B c<p:=by have:=Z0 c1;omega
   have c2:c<C:=Nat.lt_of_le_of_ne hc fun e=>by subst e;omega
   obtain⟨s1,s2⟩:=hst2 c;have hRc:=hR2 c;have hw:wn.wrap (2*((R2 c:Nat):Int))=((2*R2 c:Nat):Int):=by rw[wU O];omega
   have d1:=b330 c c2;have d2:=b331 c c2;conv=>whnf
   rw[hw];refine gYn d1 ?_;refine brI (fun c3=>?_) (fun c3=>?_)
   .have c3:¬2*R2 c<d:=by have:=Z0 c3;omega
    obtain⟨f1,f2⟩:=s2 c3;conv=>whnf
    refine gYn d2 ?_;refine⟨c+1,c2,by show C-(c+1)<C-c;omega,?_⟩
    ((conv=>whnf);refine q0 ?_ ?_;repeat' first|refine lc ?_ ?_|refine lh1 ?_ ?_|refine bc0 ?_|exact KXZ|refine lg0 ?_|refine lt0 ?_)
    .exact wb f2.symm
    .exact ai0 (by rw[f1,wU O];omega)
    .exact ai0 (by rw[wI O];omega)
   .have c3:2*R2 c<d:=by have:=Z1 c3;omega
    obtain⟨f1,f2⟩:=s1 c3;conv=>whnf
    refine⟨c+1,c2,by show C-(c+1)<C-c;omega,?_⟩
    ((conv=>whnf);refine q0 ?_ ?_;repeat' first|refine lc ?_ ?_|refine lh1 ?_ ?_|refine bc0 ?_|exact KXZ|refine lg0 ?_|refine lt0 ?_)
    .exact wb f2.symm
    .exact ai0 (by rw[f1])
    .exact ai0 (by rw[wI O];omega)
  have c1:c=C:=by
   have:=Z1 c1;rcases qU hc with h|h
   .have:=hB c h;omega
   .exact h
  subst c1;have d2:=b332 c hc;have hlw:wi.wrap (((B c:Nat):Int)-(p:Int))=((L:Nat):Int):=by rw[wI O];omega
  conv=>whnf
  refine gYn d2 ?_;rw[hlw];refine⟨Nat,fun i=>i<=z.length,fun i=> [(16,.int .i64 (32*i)),(15,.own 102)],fun i=> [(102,.buf 108 .u32 (z.take i))],fun i=>z.length-i,0,q9 _,?_,fun i hi=>?_⟩
  ·((conv=>whnf);refine q0 ?_ ?_;repeat' first|refine lc ?_ ?_|refine lh1 ?_ ?_|refine bc0 ?_|exact KXZ|refine lg0 ?_|refine lt0 ?_)
   all_goals first|exact trivial|exact⟨rfl,rfl⟩
  have hi:i<=z.length:=hi;have hlim1:=hlim i;refine gYe ?_;refine brI (fun c2=>?_) (fun c2=>?_)
  .have c2:32*i<p:=by have:=Z0 c2;omega
   have hil:i<z.length:=O;have hz:=hat i hil;have hfin:∀k,k<=32->(k=32\/32*i+k=p)->y/2^(32*i) % 2^k=y/2^(32*i) % 4294967296:=fun k hk h=>by
    rcases h with rfl|h
    .rfl
    .have h1:y/2^(32*i)<2^k:=qA (by rw[<-qC,h];exact hyp);have h2:2^k<=2^32:=qn OA hk;rw[q4 h1,q4 (O:y/2^(32*i)<4294967296)]
   have happ:∀k,k<=32->(k=32\/32*i+k=p)->z.take i++ [((y/2^(32*i) % 2^k:Nat):Int)]=z.take (i+1):=fun k hk h=>by rw[hfin k hk h,zk1 hz]
   conv=>whnf
   refine⟨Nat,fun k=>k<=32/\32*i+k<=p,fun k=> [(18,.int .i64 k),(17,.int .u32 (y/2^(32*i) % 2^k:Nat))],fun _=> [],fun k=>32-k,0,⟨q9 _,O⟩,?_,fun k hk=>?_⟩
   ·((conv=>whnf);refine q0 ?_ ?_;repeat' first|refine lc ?_ ?_|refine lh1 ?_ ?_|refine bc0 ?_|exact KXZ|refine lg0 ?_|refine lt0 ?_)
    exact ai0 (by rw[qD,w9];rfl)
   obtain⟨hk1,hk2⟩:=hk;have happ:=happ k hk1;refine gYe ?_;refine brI (fun c3=>?_) (fun c3=>?_)
   .have c3:k<32:=by have:=Z0 c3;omega
    conv=>whnf
    refine brI (fun c4=>?_) (fun c4=>?_)
    .have c4:32*i+k<p:=by
      have:=Z0 c4;rw[wI O]at this;omega
     have hw:wi.wrap (wi.wrap (((L:Nat):Int)+32*(i:Int))+(k:Int))=((L+(32*i+k):Nat):Int):=by
      rw[wI (x:=(L:Int)+_) O,wI O];omega
     have cc:=b333 (L+(32*i+k)) O;rw[hbs _ O,zsa]at cc;have hor:=zvu (w:=y/2^(32*i)) c3;conv=>whnf
     rw[hw];refine gYn cc ?_;refine⟨O,?_⟩;conv=>whnf
     refine⟨k+1,⟨O,O⟩,by show 32-(k+1)<32-k;omega,?_⟩;exact KZ0
    .have c4:32*i+k=p:=by
      have:=Z1 c4;rw[wI O]at this;omega
     conv=>whnf
     refine⟨by simp only[qF,qZ,qM];omega,?_⟩;conv=>whnf
     refine⟨i+1,by show i+1<=z.length;omega,by show z.length-(i+1)<z.length-i;omega,?_⟩
     ((conv=>whnf);refine q0 ?_ ?_;repeat' first|refine lc ?_ ?_|refine lh1 ?_ ?_|refine bc0 ?_|exact KXZ|refine lg0 ?_|refine lt0 ?_)
     .exact ai0 (by rw[wI O];omega)
     .exact bb0 (happ (.inr c4))
   .have c3:k=32:=by have:=Z1 c3;omega
    conv=>whnf
    refine⟨by simp only[qF,qZ,qM];omega,?_⟩;conv=>whnf
    refine⟨i+1,by show i+1<=z.length;omega,by show z.length-(i+1)<z.length-i;omega,?_⟩
    ((conv=>whnf);refine q0 ?_ ?_;repeat' first|refine lc ?_ ?_|refine lh1 ?_ ?_|refine bc0 ?_|exact KXZ|refine lg0 ?_|refine lt0 ?_)
    .exact ai0 (by rw[wI O];omega)
    .exact bb0 (happ (.inl c3))
  have c2:i=z.length:=by have:=Z1 c2;omega
  subst c2;rw[qE];conv=>whnf
  refine⟨Nat,fun i=>i<=L,fun i=> [(19,.int .i64 i),(14,.bool (X i))],fun _=> [],fun i=>L-i,0,q9 _,?_,fun i hi=>?_⟩
  ·((conv=>whnf);refine q0 ?_ ?_;repeat' first|refine lc ?_ ?_|refine lh1 ?_ ?_|refine bc0 ?_|exact KXZ|refine lg0 ?_|refine lt0 ?_)
   exact ab0 (by rw[hX0];exact dec0 _)
  have hi:i<=L:=hi;refine gYe ?_;refine brI (fun c5=>?_) (fun c5=>?_)
  .have c5:i<L:=by have:=Z0 c5;omega
   have cc:=b333 i O;have hXi:=hX i;conv=>whnf
   refine brI (fun c6=>?_) (fun c6=>?_)
   .conv=>whnf
    refine gYn cc ?_;refine⟨i+1,c5,by show L-(i+1)<L-i;omega,?_⟩
    ((conv=>whnf);refine q0 ?_ ?_;repeat' first|refine lc ?_ ?_|refine lh1 ?_ ?_|refine bc0 ?_|exact KXZ|refine lg0 ?_|refine lt0 ?_)
    .exact ab0 (by rw[hXi,c6];exact bit0 _)
    .exact ai0 (by rw[wI O];omega)
   .conv=>whnf
    refine⟨i+1,c5,by show L-(i+1)<L-i;omega,?_⟩
    ((conv=>whnf);refine q0 ?_ ?_;repeat' first|refine lc ?_ ?_|refine lh1 ?_ ?_|refine bc0 ?_|exact KXZ|refine lg0 ?_|refine lt0 ?_)
    .exact ab0 (by rw[hXi,c6];rfl)
    .exact ai0 (by rw[wI O];omega)
  have c5:i=L:=by have:=Z1 c5;omega
  subst c5;have hel:wi.wrap (-(c:Int)+(i:Int))=(i:Int)-(c:Int):=by rw[wI O];omega
  conv=>whnf
  rw[hel];refine gYn c334 ?_
  cases hXL:X i with
  |true=>
   conv=>whnf
   refine gYd ?_;exact⟨lr rfl,lh0⟩
  |false=>
   conv=>whnf
   refine gYn c335 ?_;rw[hel];refine gYn c334b ?_;refine gYd ?_;exact⟨lr rfl,lh0⟩
 |succ k=>
  have hn1:((k+1:Nat):Int)-1=(k:Int):=O;obtain⟨s1,s2,s3⟩:=hst k;have hRk:=hR (k+1);have hw1:∀w:Nat,w<2->wn.wrap (wn.wrap (2*((R (k+1):Nat):Int))+(w:Int))=((2*R (k+1)+w:Nat):Int):=fun w hw=>by
   rw[wU (x:=2*_) O,wU O];omega
  have c330:=a330 (k+1);have c331:=a331 (k+1);have hql:=hQl (k+1);have hwb:n/2^k % 2<2:=q6 _ OA;have hbit:=ql0 (n:=n) (k:=k) O O;obtain⟨hk,hx⟩|⟨hk,hx⟩:=hx
  .have hq:Q (k+1)= []:=by rw[hk];exact hQ64
   rw[hq]at c330;obtain⟨rfl,rfl⟩:=Prod.mk.inj hx;refine gYe ?_;refine brI (fun h1=>?_) (fun h1=>by simp only[Z3]at h1;omega);conv=>whnf
   rw[hn1];refine⟨O,?_⟩;conv=>whnf
   rw[hbit,hw1 _ hwb];refine⟨O,?_⟩;conv=>whnf
   refine⟨O,?_⟩;conv=>whnf
   rw[tdN,tmN];refine⟨OA,?_⟩;conv=>whnf
   refine gYn c330 ?_;generalize n/2^k % 2=w at*;by_cases h:2*R (k+1)+w<d
   .obtain⟨f1,f2⟩:=s1 h;rw[qd h,q4 h];conv=>whnf
    refine⟨(k,.sl .u32 (Q k),.dead),⟨by show k<=64;omega,.inr ⟨by show k<64;omega,rfl⟩⟩,by show k<k+1;omega,?_⟩
    ((conv=>whnf);refine q0 ?_ ?_;repeat' first|refine lc ?_ ?_|refine lh1 ?_ ?_|refine bc0 ?_|exact KXZ|refine lg0 ?_|refine lt0 ?_)
    .exact wb f2.symm
    .exact ai0 (by rw[f1])
    .exact ai0 (by rw[wI O])
   .obtain⟨f1,f2⟩:=s2 h;have g1:(2*R (k+1)+w)/d=1:=qR O O;have g2:(2*R (k+1)+w) % d=2*R (k+1)+w-d:=by rw[qV O,q4 O]
    rw[g1,g2];conv=>whnf
    refine gYn c331 ?_;refine⟨(k,.sl .u32 (Q k),.dead),⟨by show k<=64;omega,.inr ⟨by show k<64;omega,rfl⟩⟩,by show k<k+1;omega,?_⟩
    ((conv=>whnf);refine q0 ?_ ?_;repeat' first|refine lc ?_ ?_|refine lh1 ?_ ?_|refine bc0 ?_|exact KXZ|refine lg0 ?_|refine lt0 ?_)
    .exact wb f2.symm
    .exact ai0 (by rw[f1])
    .exact ai0 (by rw[wI O])
  .obtain⟨rfl,rfl⟩:=Prod.mk.inj hx;refine gYe ?_;refine brI (fun h1=>?_) (fun h1=>by simp only[Z3]at h1;omega);conv=>whnf
   rw[hn1];refine⟨O,?_⟩;conv=>whnf
   rw[hbit,hw1 _ hwb];refine⟨O,?_⟩;conv=>whnf
   refine⟨O,?_⟩;conv=>whnf
   rw[tdN,tmN];refine⟨by simp only[qM];omega,?_⟩;conv=>whnf
   refine gYn c330 ?_;generalize n/2^k % 2=w at*;by_cases h:2*R (k+1)+w<d
   .obtain⟨f1,f2⟩:=s1 h;rw[qd h,q4 h];conv=>whnf
    refine⟨(k,.sl .u32 (Q k),.dead),⟨by show k<=64;omega,.inr ⟨by show k<64;omega,rfl⟩⟩,by show k<k+1;omega,?_⟩
    ((conv=>whnf);refine q0 ?_ ?_;repeat' first|refine lc ?_ ?_|refine lh1 ?_ ?_|refine bc0 ?_|exact KXZ|refine lg0 ?_|refine lt0 ?_)
    .exact wb f2.symm
    .exact ai0 (by rw[f1])
    .exact ai0 (by rw[wI O])
   .obtain⟨f1,f2⟩:=s2 h;have g1:(2*R (k+1)+w)/d=1:=qR O O;have g2:(2*R (k+1)+w) % d=2*R (k+1)+w-d:=by rw[qV O,q4 O]
    rw[g1,g2];conv=>whnf
    refine gYn c331 ?_;refine⟨(k,.sl .u32 (Q k),.dead),⟨by show k<=64;omega,.inr ⟨by show k<64;omega,rfl⟩⟩,by show k<k+1;omega,?_⟩
    ((conv=>whnf);refine q0 ?_ ?_;repeat' first|refine lc ?_ ?_|refine lh1 ?_ ?_|refine bc0 ?_|exact KXZ|refine lg0 ?_|refine lt0 ?_)
    .exact wb f2.symm
    .exact ai0 (by rw[f1])
    .exact ai0 (by rw[wI O])
theorem q255(q:Nat)(hq:q≠0)(e:Int):Fn 255 [] [.agg (dyC (cnN false q e))] (.agg (dyC (cnN true q e))) []:=by
 have hc:∀neg,cnN neg q e=⟨neg,toL (q/2^tz q),e+tz q⟩:=fun neg=>by grind[cnN]
 rw[hc,hc];obtain⟨m0,ho1,ho2⟩:=um hq;have h0:q/2^tz q=m0:=jA (q2 _) ho1;have hl:(toL (q/2^tz q)).length ≠0:=mt jf.1 O;generalize toL (q/2^tz q)=t at*;generalize e+(tz q:Nat)=f at*;refine fY9 Tryz.func255 rfl ?_;refine brI (fun h=>?_) (fun h=>?_)
 .conv=>whnf
  exact⟨lr rfl,lh0⟩
 grind
theorem qap(P:Nat->Prop):∀K,P K->∃C,C<=K/\P C/\∀c,c<C->¬P c:=by
 intro K
 induction K using Nat.strongRecOn with
 | _ K ih=>
   grind
theorem ex_C{n d p:Nat}(hn0:0<n)(hd0:0<d)(hd:d<=1073741824):∃C,C<=p+31/\p<=bl (n*2^C/d)/\∀c,c<C->bl (n*2^c/d)<p:=by
 have hK:p<=bl (n*2^(p+31)/d):=by
  have h1:2^p<=n*2^(p+31)/d:=by
   rw[Nat.le_div_iff_mul_le hd0,qC];have h2:2^p*d<=2^p*2^31:=Nat.mul_le_mul_left _ O;exact qH h2 (qK _ hn0)
  have h3:n*2^(p+31)/d≠0:=by grind
  have:=(xj h3).2 h1;omega
 obtain⟨C,a,b,c⟩:=qap (fun C=>p<=bl (n*2^C/d)) (p+31) hK;grind
theorem zxg{d p:Int}(hr:rOk ⟨0,d⟩=true)(hp:pcB p=true)(hd:1<=d/\d<=1073741824):zkr ⟨0,d⟩ p=⟨d0,d0,false⟩:=by
 have hpp:=qk hp;have hnd:nm (wl d)≠0:=by
  unfold wl;rw[zna];obtain⟨m0,ho1,ho2⟩:=um (O:d.natAbs≠0);grind[tz,jA,q2]
 have h0:nm (wl 0)=0:=by simp_all[wl,zna,w8]
 have hE:∀up,Eq0 (d0,0) (ui (wl 0) (wl d) p.toNat up):=fun up=>by
  have e:zer (wl 0) (wl d) p.toNat up=(d0,0):=by grind[zer]
  grind[zpt,jl]
 unfold zkr;rw[Z4 hr,<-zo8 (hE false) (hE true)];rfl
theorem leZz{h h':Hp}:leA h h' (.agg [.bool false,.nilsl,.int .i64 0,.bool false,.nilsl,.int .i64 0,.bool false]) (.agg (ivC ⟨d0,d0,false⟩)):=
 lg0 (lc (lr rfl) (lc (li0 rfl) (lc (lr rfl) (lc (lr rfl) (lc (li0 rfl) (lc (lr rfl) (lc (lr rfl) ln0)))))))
theorem q169(n d:Int){p:Int}(hp:pcB p=true):Fn 169 [] [.agg [.int .i64 n,.int .i64 d],.int .i64 p] (.agg (ivC (zkr ⟨n,d⟩ p))) []:=by
 have h131:=qkx n d;by_cases h:rOk ⟨n,d⟩=true
 .rw[h]at h131;have hb:=zb9 h;unfold rIn at hb;simp only at hb;have h254:=f156 n O;by_cases hn0:n=0
  .subst hn0;rw[zxg h hp O];obtain⟨q,rfl,hq⟩:=jx.1 hp;refine fY9 Tryz.func169 rfl ?_;refine gYn h131 ?_;refine brI (fun c=>by grind) (fun _=>?_);conv=>whnf
   refine brI (fun c=>by grind) (fun _=>?_);conv=>whnf
   exact⟨leZz,lh0⟩
  obtain⟨C,hC1,hC2,hC3⟩:=ex_C (n:=n.natAbs) (d:=d.natAbs) (p:=p.toNat) O O O;have hpp:=qk hp;rw[qld h hn0 hp (C:=C) O hC2 O O];have c253:=q253 (n:=n.natAbs) (d:=d.natAbs) (p:=p.toNat) (C:=C) O O O O hC2 hC3 O;obtain⟨q,rfl,hq⟩:=jx.1 hp;rw[q3]at*;obtain⟨e,rfl⟩:∃e:Nat,d=e:=⟨d.toNat,O⟩;have hma:∀up,maE n.natAbs e q C up≠0:=fun up c=>by
   rw[qW]at hC2;have h0:n.natAbs*2^C/e≠0:=fun c=>by grind[vl]
   have hge:2^(bl (n.natAbs*2^C/e)-q)<=n.natAbs*2^C/e:=(xj h0).1 O;have:=qP hge (q2 _);grind[maE]
  rw[qW]at*;have hw:wn.wrap (e:Int)=e:=wUn O;have g1:Fn 255 [] [.agg (dyC (ziw n.natAbs e q C false true))] (.agg (dyC (ziw n.natAbs e q C true false))) []:=q255 _ (hma _) _;have g2:Fn 255 [] [.agg (dyC (ziw n.natAbs e q C false false))] (.agg (dyC (ziw n.natAbs e q C true true))) []:=q255 _ (hma _) _;clear hma hC1 hC2 hC3;generalize hw1:ziw n.natAbs e q C false true=w1 at*;generalize hw2:ziw n.natAbs e q C false false=w2 at*;have hk1:∀ {P:Prop},n=0->P:=fun c=>absurd c hn0
  obtain⟨a1,a2,a3⟩:=w1;obtain⟨b1,b2,b3⟩:=w2;by_cases hneg:n<0
  .rw[Z6 hneg];generalize ziw n.natAbs e q C true false=u1 at*;generalize ziw n.natAbs e q C true true=u2 at*;obtain⟨c1,c2,c3⟩:=u1;obtain⟨d1,d2,d3⟩:=u2;refine fY9 Tryz.func169 rfl ?_;refine gYn h131 ?_;refine brI (fun c=>by grind) (fun _=>?_);conv=>whnf
   refine brI (fun c=>by grind) (fun _=>?_);conv=>whnf
   refine brI (fun c=>hk1 (beq_iff_eq.1 c)) (fun _=>?_);conv=>whnf
   refine gYn h254 ?_;rw[hw];refine gYn c253 ?_;refine gYd ?_;refine brI (fun _=>?_) (fun c=>by simp_all);conv=>whnf
   refine gYn g1 ?_;refine gYn g2 ?_;refine gYd ?_;exact⟨lr rfl,lh0⟩
  .rw[Z7 hneg];rw[show ziw n.natAbs e q C false false=⟨b1,b2,b3⟩from hw2,show ziw n.natAbs e q C false true=⟨a1,a2,a3⟩from hw1];refine fY9 Tryz.func169 rfl ?_;refine gYn h131 ?_;refine brI (fun c=>by grind) (fun _=>?_);conv=>whnf
   refine brI (fun c=>by grind) (fun _=>?_);conv=>whnf
   refine brI (fun c=>hk1 (beq_iff_eq.1 c)) (fun _=>?_);conv=>whnf
   refine gYn h254 ?_;rw[hw];refine gYn c253 ?_;refine gYd ?_;refine brI (fun c=>by grind) (fun _=>?_);conv=>whnf
   exact⟨lr rfl,lh0⟩
 .have h0:rOk ⟨n,d⟩=false:=by simpa using h
  rw[h0]at h131;rw[show zkr ⟨n,d⟩ p=wI0 by grind[zkr]];refine fY9 Tryz.func169 rfl ?_;refine gYn h131 ?_;exact⟨leW,lh0⟩
