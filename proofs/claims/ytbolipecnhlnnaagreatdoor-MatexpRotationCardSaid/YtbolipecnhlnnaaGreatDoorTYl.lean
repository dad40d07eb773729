/- Rounding as a law of rational numbers: the greatest number of p bits below a number, the least one above it. -/
import Derived.Test.YtbolipecnhlnnaaGreatDoorTYy
set_option linter.unusedVariables false
set_option linter.unusedSimpArgs false
open Bool renaming false_eq_true->q3,and_false->qD,and_self->qN
open Nat renaming two_pow_pos->q2,pow_le_pow_right->q8,lt_of_lt_of_le->qC,le_div_iff_mul_le->qF,pow_add->qG,pos_of_ne_zero->qI,le_of_lt->qK,div_add_mod'->qL,succ_mul->qP,not_le->qR,mod_lt->qS
open Rat renaming le_trans->q0,le_refl->q1,not_le->q4,le_of_lt->q5,intCast_lt_intCast->q6,mul_comm->q7,intCast_natCast->q9,mul_lt_mul_of_pos_right->qA,not_lt->qB,lt_irrefl->qE,neg_neg->qH,mul_inv_cancel->qJ,intCast_neg->qM,zero_mul->qO,inv_pos->qQ
namespace Go.Proofs.YtbolipecnhlnnaaGreatDoor
open Go Go.Sx
set_option maxHeartbeats 2000000
def pw (e:Int):Rat:=(2:Rat)^e
theorem pwA (a b:Int):pw (a+b)=pw a*pw b:=Rat.zpow_add (by decide) a b
theorem yg (e:Int):0<pw e:=Rat.zpow_pos (by decide)
theorem qv (k:Nat):pw (k:Int)=((2^k:Nat):Rat):=by
 unfold pw;rw[Rat.zpow_natCast,Rat.natCast_pow];rfl
theorem ke {a b:Nat}:(a:Rat)<=(b:Rat)<->a<=b:=Rat.natCast_le_natCast
theorem jk (a b:Nat):((a*b:Nat):Rat)=a*b:=Rat.natCast_mul a b
theorem jx (a b:Nat):((a+b:Nat):Rat)=a+b:=Rat.natCast_add a b
theorem zcv (a:Nat):(0:Rat)<=a:=Rat.natCast_nonneg
theorem zy6 {a b c:Rat} (h1:a<b) (h2:b<=c):a<c:=by grind
theorem qx {a b c:Rat} (h:a<=b) (hc:0<=c):a*c<=b*c:=Rat.mul_le_mul_of_nonneg_right h hc
theorem zcy {a b c:Rat} (h:a*c<=b*c) (hc:0<c):a<=b:=Rat.le_of_mul_le_mul_right h hc
def vN (n:Nat) (e:Int):Rat:=(n:Rat)*pw e
theorem yf {a b:Nat} {e:Int}:vN a e<=vN b e<->a<=b:=by
 unfold vN;constructor
 .intro h;exact ke.1 (zcy h (yg e))
 .intro h;exact qx (ke.2 h) (q5 (yg e))
theorem zmt {a b:Nat} {e:Int}:vN a e<vN b e<->a<b:=by
 have h1:=yf (a:=b) (b:=a) (e:=e);constructor
 .intro h;exact qR.1 fun c=>qB.2 (h1.2 c) h
 .intro h;exact q4.1 fun c=>by have:=h1.1 c;omega
theorem xv (n k:Nat) (e:Int):vN (n*2^k) e=vN n (e+k):=by
 unfold vN;rw[pwA,qv,jk,Rat.mul_assoc,q7 (pw e)]
theorem zaj (n:Nat) (e u:Int) (h:u<=e):vN n e=vN (n*2^(e-u).toNat) u:=by
 rw[xv];congr 1;omega
theorem zbj (n:Nat) (e:Int):0<=vN n e:=Rat.mul_nonneg (zcv n) (q5 (yg e))
theorem ur (e:Int):vN 0 e=0:=by unfold vN;rw[show((0:Nat):Rat)=0 from rfl,qO]
theorem zkx (e:Int):vN 1 e=pw e:=by unfold vN;rw[show((1:Nat):Rat)=1 from rfl,Rat.one_mul]
theorem zcl (k:Nat) (e:Int):vN (2^k) e=pw (e+k):=by
 have:=xv 1 k e;rw[Nat.one_mul]at this;rw[this,zkx]
theorem zal {a b:Int}:pw a<=pw b<->a<=b:=by
 have key: ∀ {a b:Int},a<=b->pw a<=pw b:=fun {a b} h=>by
  rw[<-zkx a,<-zkx b,zaj 1 b a h,yf];have:=q2 (b-a).toNat;omega
 constructor
 .intro h;refine Int.not_lt.1 fun c=>?_
  have h1:pw (b+1)<=pw a:=key (by omega);have h2:pw (b+1)=pw b*2:=by rw[pwA];congr 1
  have h3:=yg b;grind
 .exact key
def dv (d:Dy):Rat:=if d.neg=true then-(vN (nm d) d.e)else vN (nm d) d.e
theorem zbe (neg:Bool) (n:Nat) (e:Int):dv (cnN neg n e)=if neg=true then-(vN n e)else vN n e:=by
 by_cases h:n=0
 .subst h;have e1:cnN neg 0 e=d0:=by unfold cnN;rw[Z4 rfl]
  rw[e1,ur];unfold dv;rw[Z5 (by decide),zjx,ur];split<;>rfl
 .obtain⟨m,hm,hm1,hm2,_⟩:=zan h;have hc:cnN neg n e=⟨neg,toL m,e+tz n⟩:=by unfold cnN;rw[Z5 h,hm2]
  have hv:vN n e=vN m (e+tz n):=by
   conv=>lhs;rw[hm]
   exact xv m (tz n) e
  unfold dv;rw[hc,yj,hv]
def inF (p:Nat) (z:Rat):Prop:= ∃(k:Nat) (u:Int),z=vN k u/\k<=2^p/\ -16384<=u/\z<pw 16384
theorem zge {n:Nat} {e t:Int} (h:(bl n:Int)+e<=t):vN n e<pw t:=by
 have h1:vN n e<vN (2^bl n) e:=zmt.2 (zem n);rw[zcl]at h1;exact zy6 h1 (zal.2 (by omega))
theorem ui {n:Nat} {e t:Int} (h:t<(bl n:Int)+e) (hn:n≠0):pw t<=vN n e:=by
 have h0:bl n≠0:=fun c=>hn (zaf.1 c)
 have h1:2^(bl n-1)<=n:=(zeu hn).1 (by omega);have h2:vN (2^(bl n-1)) e<=vN n e:=yf.2 h1;rw[zcl]at h2;exact q0 (zal.2 (by omega)) h2
theorem zky (m:Nat) (e p:Int):unN m e p=e+bl m-p\/(unN m e p= -16384/\e+bl m-p<= -16384):=by unfold unN;omega
theorem grid {p:Nat} {k:Nat} {u w:Int} (hk:k<=2^p):(w<=u/\ ∃j:Nat,vN k u=vN j w)\/(u<w/\vN k u<=pw (w+p-1)):=by
 by_cases h:w<=u
 .exact .inl ⟨h,_,zaj k u w h⟩
 .refine .inr ⟨by omega,?_⟩;have h1:vN k u<=vN (2^p) u:=yf.2 hk;rw[zcl]at h1;exact q0 h1 (zal.2 (by omega))
theorem zhd {m:Nat} {e:Int} {more:Bool} {u:Int} (h: ¬u<=e):vN (wz m e more u).1 u<=vN m e/\vN (m+1) e<=vN ((wz m e more u).1+1) u/\((wz m e more u).2=false->more=false/\vN (wz m e more u).1 u=vN m e)/\((wz m e more u).2=true->more=true\/ ¬vN m e<=vN (wz m e more u).1 u):=by
 unfold wz;rw[Z5 h];simp only;have hk:=q2 (u-e).toNat;have e1: ∀n,vN n u=vN (n*2^(u-e).toNat) e:=fun n=>zaj n u e (by omega)
 have h1:=qL m (2^(u-e).toNat);have h2:=qS m hk;rw[e1,e1,yf,yf,qP];refine⟨by omega,by omega,?_,?_⟩
 .intro h3;simp only[Bool.or_eq_false_iff,Z3,Decidable.not_not]at h3;refine⟨h3.1,?_⟩
  congr 1;omega
 .intro h3;simp only[Bool.or_eq_true,Z2]at h3;refine h3.imp id fun h4=>?_
  rw[yf];omega
theorem zxx {L:Rat->Prop} (hL: ∀a b,a<=b->L b->L a) {m:Nat} {e:Int} {more:Bool} {p:Nat} (hp:8<=p/\p<=512) (h0:L (vN m e)) (h1: ∀z,L z->z<=vN (m+1) e) (h1': ¬L (vN (m+1) e)) (hx:more=false-> ∀z,L z->z<=vN m e) (hm:more=true->p<bl m) (he:m=0->e<=16384):
 (zch m e more p false).2=0/\L (dv (zch m e more p false).1)/\inF p (dv (zch m e more p false).1)/\ ∀z,inF p z->L z->z<=dv (zch m e more p false).1:=by
 have hub:=zrm m e p;have huc:=zky m e p;have hfb:=zkf m e more p;have hup:upN (wz m e more (unN m e p)) false=(wz m e more (unN m e p)).1:=by unfold upN;simp
 have hlead:unN m e p=e+bl m-p->m≠0->pw (unN m e p+p-1)<=vN (wz m e more (unN m e p)).1 (unN m e p)/\pw (unN m e p+p-1)<=vN m e:=by
  intro h hm0;have hb0:bl m≠0:=fun c=>hm0 (zaf.1 c)
  have h2:pw (unN m e p+p-1)<=vN m e:=ui (by omega) hm0;refine⟨?_,h2⟩;by_cases hu:unN m e p<=e
  .have:vN (wz m e more (unN m e p)).1 (unN m e p)=vN m e:=by
    unfold wz;rw[Z4 hu];exact(zaj m e _ hu).symm
   rw[this];exact h2
  .have h3:(wz m e more (unN m e p)).1=m/2^(unN m e p-e).toNat :=by unfold wz;rw[Z5 hu]
   have h4:2^(p-1)<=m/2^(unN m e p-e).toNat :=by
    rw[qF (q2 _),<-qG];exact(zeu hm0).1 (by omega)
   rw[h3];have h5:vN (2^(p-1)) (unN m e p)<=vN (m/2^(unN m e p-e).toNat) (unN m e p):=yf.2 h4;rw[zcl]at h5;refine q0 (zal.2 (by omega)) h5
 have hq1:L (vN (wz m e more (unN m e p)).1 (unN m e p)):=by
  by_cases hu:unN m e p<=e
  .have:vN (wz m e more (unN m e p)).1 (unN m e p)=vN m e:=by
    unfold wz;rw[Z4 hu];exact(zaj m e _ hu).symm
   rw[this];exact h0
  .exact hL _ _ (zhd hu).1 h0
 have hq2: ∀j,L (vN j (unN m e p))->vN j (unN m e p)<=vN (wz m e more (unN m e p)).1 (unN m e p):=by
  intro j hj;by_cases hu:unN m e p<=e
  .have hmf:more=false:=by
    cases hmo:more with
    |false=>rfl
    |true=>
     have:=hm hmo;rcases huc with h|h<;>omega
   have:vN (wz m e more (unN m e p)).1 (unN m e p)=vN m e:=by
    unfold wz;rw[Z4 hu];exact(zaj m e _ hu).symm
   rw[this];exact hx hmf _ hj
  .rw[yf];refine Nat.not_lt.1 fun c=>?_
   have h3:vN ((wz m e more (unN m e p)).1+1) (unN m e p)<=vN j (unN m e p):=yf.2 c;exact h1' (hL _ _ (q0 (zhd hu).2.1 h3) hj)
 unfold zch;rw[hup];generalize (wz m e more (unN m e p)).1=q at*;generalize unN m e p=w at*;split
 .rename_i hov;simp only[q3,if_false];have hq0:q≠0:=fun c=>by
   rw[c,kz]at hov;rcases huc with h|h
   .by_cases hm0:m=0
    .have:=he hm0;rw[hm0,kz]at h;omega
    .have h3:=(hlead h hm0).1;rw[c,ur]at h3;exact q4.2 (yg _) h3
   .omega
  have hbig:pw 16384<=vN q w:=ui (by omega) hq0;rw[zbe,Z5 (by decide)];have hp2:=q2 p;have hlt:vN (2^p-1) (16384-p)<pw 16384:=by
   have:vN (2^p-1) (16384-p)<vN (2^p) (16384-p):=zmt.2 (by omega);rw[zcl]at this;have e2:(16384-(p:Int)+p)=16384:=by omega
   rwa [e2]at this
  refine⟨trivial,hL _ _ (q0 (q5 hlt) hbig) hq1,⟨2^p-1,16384-p,rfl,by omega,by omega,hlt⟩,fun z hz _=>?_⟩;obtain⟨k,u,rfl,hk,hu,hz16⟩:=hz;rcases grid (w:=16384-p) hk (u:=u)with ⟨_,j,hj⟩|⟨_,hj⟩
  .rw[hj]at hz16⊢;rw[yf];have e3:pw 16384=vN (2^p) (16384-p):=by rw[zcl];congr 1;omega
   rw[e3,zmt]at hz16;omega
  .refine q0 hj ?_;have e4:pw (16384-(p:Int)+p-1)=vN (2^(p-1)) (16384-p):=by rw[zcl];congr 1;omega
   rw[e4,yf];have:2^p=2*2^(p-1):=by rw[Nat.mul_comm,<-Nat.pow_succ];congr 1;omega
   have:=q2 (p-1);omega
 .rename_i hov;simp only;rw[zbe,Z5 (by decide)];refine⟨trivial,hq1,⟨q,w,rfl,?_,hub,zge (by omega)⟩,fun z hz hLz=>?_⟩
  .exact qK (qC (zem q) (q8 (by decide) hfb))
  .obtain⟨k,u,rfl,hk,hu,_⟩:=hz;rcases grid (w:=w) hk (u:=u)with ⟨_,j,hj⟩|⟨hlt,hj⟩
   .rw[hj]at hLz⊢;exact hq2 j hLz
   .rcases huc with h|h
    .by_cases hm0:m=0
     .subst hm0;have hmf:more=false:=by
       cases hmo:more with
       |false=>rfl
       |true=>have:=hm hmo;rw[kz]at this;omega
      have h3:=hx hmf _ hLz;rw[ur]at h3;exact q0 h3 (zbj q w)
     .exact q0 hj (hlead h hm0).1
    .omega
theorem zdg {a b:Rat} (h1:a<=b) (h2:b<=a):a=b:=by grind
theorem qhg {U:Rat->Prop} (hU: ∀a b,a<=b->U a->U b) {m:Nat} {e:Int} {more:Bool} {p:Nat} (hp:8<=p/\p<=512) (h0:more=false->U (vN m e)) (h0':U (vN (m+1) e)) (h1: ∀z,U z->vN m e<=z) (h1':more=true-> ¬U (vN m e)) (hm:more=true->p<bl m) (he:m=0->e<=16384):
 ((zch m e more p true).2=0->U (dv (zch m e more p true).1)/\inF p (dv (zch m e more p true).1))/\ ∀z,inF p z->U z->(zch m e more p true).2=0/\dv (zch m e more p true).1<=z:=by
 have hub:=zrm m e p;have huc:=zky m e p;have hfb:=zkf m e more p;have hmf:unN m e p<=e->more=false:=fun hu=>by
  cases hmo:more with
  |false=>rfl
  |true=>
   have:=hm hmo;rcases huc with h|h<;>omega
 have hex:unN m e p<=e->vN (wz m e more (unN m e p)).1 (unN m e p)=vN m e/\(wz m e more (unN m e p)).2=false:=fun hu=>by
  have:=hmf hu;unfold wz;rw[Z4 hu];exact⟨(zaj m e _ hu).symm,this⟩
 have hA:U (vN (upN (wz m e more (unN m e p)) true) (unN m e p)):=by
  by_cases hu:unN m e p<=e
  .obtain⟨e1,e2⟩:=hex hu;unfold upN;rw[e2];simp only[qD,q3,if_false];rw[e1];exact h0 (hmf hu)
  .obtain⟨f1,f2,f3,f4⟩:=zhd (m:=m) (more:=more) hu;unfold upN
   cases hF:(wz m e more (unN m e p)).2 with
   |false=>
    simp only[qD,q3,if_false];obtain⟨g1,g2⟩:=f3 hF;rw[g2];exact h0 g1
   |true=>
    simp only[qN,if_true];exact hU _ _ f2 h0'
 have hB: ∀j,U (vN j (unN m e p))->upN (wz m e more (unN m e p)) true<=j:=by
  intro j hj;have hle:=h1 _ hj;by_cases hu:unN m e p<=e
  .obtain⟨e1,e2⟩:=hex hu;unfold upN;rw[e2];simp only[qD,q3,if_false];rw[<-e1,yf]at hle;exact hle
  .obtain⟨f1,f2,f3,f4⟩:=zhd (m:=m) (more:=more) hu;unfold upN
   cases hF:(wz m e more (unN m e p)).2 with
   |false=>
    simp only[qD,q3,if_false];obtain⟨g1,g2⟩:=f3 hF;rw[<-g2,yf]at hle;exact hle
   |true=>
    simp only[qN,if_true];refine qR.1 fun c=>?_
    have h3:vN j (unN m e p)<=vN (wz m e more (unN m e p)).1 (unN m e p):=yf.2 c;rcases f4 hF with h|h
    .refine h1' h ?_;rw[zdg hle (q0 h3 f1)];exact hj
    .exact h (q0 hle h3)
 have hq0:m=0->upN (wz m e more (unN m e p)) true=0:=fun h=>by
  have hmo:more=false:=by
   cases hmo:more with
   |false=>rfl
   |true=>have:=hm hmo;rw[h,kz]at this;omega
  subst h hmo;unfold wz upN;split<;>simp
 have hle:upN (wz m e more (unN m e p)) true<=2^p:=by
  have h3:(wz m e more (unN m e p)).1<2^p:=qC (zem _) (q8 (by decide) hfb);unfold upN;split<;>omega
 have hlead: ∀z,U z->z<=pw (unN m e p+p-1)->unN m e p=e+bl m-p->vN (upN (wz m e more (unN m e p)) true) (unN m e p)<=z:=by
  intro z hz hz2 h;by_cases hm0:m=0
  .rw[hq0 hm0,ur];exact q0 (zbj m e) (h1 z hz)
  .have hb0:bl m≠0:=fun c=>hm0 (zaf.1 c)
   have h2:pw (unN m e p+p-1)<=vN m e:=ui (by omega) hm0;have h3:z=vN (2^(p-1)) (unN m e p):=by
    rw[zcl];have:unN m e p+((p-1:Nat):Int)=unN m e p+p-1:=by omega
    rw[this];exact zdg hz2 (q0 h2 (h1 z hz))
   rw[h3]at hz⊢;exact yf.2 (hB _ hz)
 have hall: ∀z,inF p z->U z->vN (upN (wz m e more (unN m e p)) true) (unN m e p)<=z:=by
  intro z hz hUz;obtain⟨k,u,rfl,hk,hu,_⟩:=hz;rcases grid (w:=unN m e p) hk (u:=u)with ⟨_,j,hj⟩|⟨hlt,hj⟩
  .rw[hj]at hUz⊢;exact yf.2 (hB j hUz)
  .rcases huc with h|h
   .exact hlead _ hUz hj h
   .omega
 unfold zch;generalize upN (wz m e more (unN m e p)) true=q at*;generalize unN m e p=w at*;by_cases hov:16384<(bl q:Int)+w
 .rw[Z4 hov];simp only[if_true];refine⟨fun h=>absurd h (by decide),fun z hz hUz=>?_⟩;have hqn:q≠0:=fun c=>by
   rw[c,kz]at hov;rcases huc with h|h
   .by_cases hm0:m=0
    .have:=he hm0;rw[hm0,kz]at h;omega
    .have hb0:bl m≠0:=fun c=>hm0 (zaf.1 c)
     rw[c,ur]at hA;have h3:=h1 _ hA;have h4:pw (w+p-1)<=vN m e:=ui (by omega) hm0;exact q4.2 (yg _) (q0 h4 h3)
   .omega
  have h3:=hall z hz hUz;have h4:pw 16384<=vN q w:=ui (by omega) hqn;obtain⟨_,_,_,_,_,h5⟩:=hz;exact absurd (q0 h4 h3) (q4.2 h5)
 .rw[Z5 hov];simp only;rw[zbe,Z5 (by decide)];exact⟨fun _=>⟨hA,q,w,rfl,hle,hub,zge (by omega)⟩,fun z hz hUz=>⟨trivial,hall z hz hUz⟩⟩
def Fp (p:Nat) (z:Rat):Prop:=inF p z\/inF p (-z)
def RD (p:Nat) (L:Rat->Prop) (r:Dy×Int):Prop:=(r.2=0->L (dv r.1)/\Fp p (dv r.1))/\ ∀z,Fp p z->L z->r.2=0/\z<=dv r.1
def RU (p:Nat) (U:Rat->Prop) (r:Dy×Int):Prop:=(r.2=0->U (dv r.1)/\Fp p (dv r.1))/\ ∀z,Fp p z->U z->r.2=0/\dv r.1<=z
theorem zcn {d:Dy}:dv (yn d)= -dv d:=by
 unfold yn dv;by_cases h:nm d=0
 .rw[Z4 h,Z5 (by decide),zjx,h,ur,ur];split<;>rfl
 .rw[Z5 h];have h2:nm ⟨!d.neg,d.m,d.e⟩=nm d:=rfl;rw[h2];cases d.neg<;>simp
theorem xq:dv d0=0:=by
 unfold dv;rw[Z5 (by decide),zjx,ur]
theorem zf7 (p:Nat):inF p 0:=⟨0,0,(ur 0).symm,Nat.zero_le _,by decide,yg _⟩
theorem zlu {p:Nat} {z:Rat} (h:inF p z):0<=z:=by
 obtain⟨k,u,rfl,_⟩:=h;exact zbj k u
theorem zwg {L U:Rat->Prop} {m:Nat} {e:Int} {more:Bool} {p:Nat} (hp:8<=p/\p<=512) (neg:Bool)
 (hL: ∀a b,a<=b->L b->L a) (hU: ∀a b,a<=b->U a->U b) (l0:L (vN m e)) (l1: ∀z,L z->z<=vN (m+1) e) (l1': ¬L (vN (m+1) e)) (lx:more=false-> ∀z,L z->z<=vN m e)
 (u0:more=false->U (vN m e)) (u0':U (vN (m+1) e)) (u1: ∀z,U z->vN m e<=z) (u1':more=true-> ¬U (vN m e)) (hm:more=true->p<bl m) (he:m=0->e<=16384):
 RD p (fun z=>if neg=true then U (-z)else L z) (zbi neg m e more p false)/\RU p (fun z=>if neg=true then L (-z)else U z) (zbi neg m e more p true):=by
 have hL0:L 0:=hL _ _ (zbj m e) l0;obtain⟨d1,d2,d3,d4⟩:=zxx hL hp l0 l1 l1' lx hm he;obtain⟨c1,c2⟩:=qhg hU hp u0 u0' u1 u1' hm he;have hUn: ∀z,U z->0<=z:=fun z hz=>q0 (zbj m e) (u1 z hz)
 have hr0:0<=dv (zch m e more p false).1:=zlu d3
 cases neg with
 |false=>
  have e1:zbi false m e more p false=zch m e more p false:=by unfold zbi;rw[Z5 (by simp)];rfl
  have e2:zbi false m e more p true=zch m e more p true:=by unfold zbi;rw[Z5 (by simp)];rfl
  rw[e1,e2];refine⟨⟨fun _=>⟨by simpa using d2,.inl d3⟩,fun z hz hz2=>⟨d1,?_⟩⟩,⟨fun h=>?_,fun z hz hz2=>?_⟩⟩
  .rcases hz with hz|hz
   .exact d4 z hz (by simpa using hz2)
   .have:=zlu hz;grind
  .obtain⟨h1,h2⟩:=c1 h;exact⟨by simpa using h1,.inl h2⟩
  .have hz3:U z:=by simpa using hz2
   rcases hz with hz|hz
   .exact c2 z hz hz3
   .have h3:=zlu hz;have h4:=hUn z hz3;have h5:z=0:=by grind
    subst h5;exact c2 0 (zf7 p) hz3
 |true=>
  have e1:zbi true m e more p false=if(zch m e more p true).2=0 then(yn (zch m e more p true).1,0)else zch m e more p true:=by
   unfold zbi;simp only[and_true];rfl
  have e2:zbi true m e more p true=(yn (zch m e more p false).1,0):=by
   unfold zbi;simp only[and_true];rw[Z4 (by exact d1)];rfl
  rw[e1,e2];refine⟨⟨fun h=>?_,fun z hz hz2=>?_⟩,⟨fun _=>?_,fun z hz hz2=>⟨rfl,?_⟩⟩⟩
  .by_cases hc:(zch m e more p true).2=0
   .rw[Z4 hc];obtain⟨h1,h2⟩:=c1 hc;simp only[zcn,if_true];refine⟨?_,.inr ?_⟩
    .rw[qH];exact h1
    .rw[qH];exact h2
   .rw[Z5 hc]at h;exact absurd h hc
  .have hz3:U (-z):=by simpa using hz2
   have hz4:inF p (-z):=by
    rcases hz with hz|hz
    .have h3:=zlu hz;have h4:=hUn _ hz3;have h5:z=0:=by grind
     subst h5;have:(-0:Rat)=0:=by grind
     rw[this];exact zf7 p
    .exact hz
   obtain⟨h1,h2⟩:=c2 _ hz4 hz3;rw[Z4 h1];refine⟨rfl,?_⟩;simp only[zcn];grind
  .simp only[zcn,if_true];refine⟨?_,.inr ?_⟩
   .rw[qH];exact d2
   .rw[qH];exact d3
  .have hz3:L (-z):=by simpa using hz2
   simp only[zcn];rcases hz with hz|hz
   .have:=zlu hz;grind
   .have:=d4 _ hz hz3;grind
theorem RD.congr {p:Nat} {L L':Rat->Prop} {r:Dy×Int} (h:RD p L r) (hl: ∀z,L z<->L' z):RD p L' r:=
 ⟨fun e=>⟨(hl _).1 (h.1 e).1,(h.1 e).2⟩,fun z hz hz2=>h.2 z hz ((hl z).2 hz2)⟩
theorem RU.congr {p:Nat} {U U':Rat->Prop} {r:Dy×Int} (h:RU p U r) (hl: ∀z,U z<->U' z):RU p U' r:=
 ⟨fun e=>⟨(hl _).1 (h.1 e).1,(h.1 e).2⟩,fun z hz hz2=>h.2 z hz ((hl z).2 hz2)⟩
def RT (p:Nat) (y:Rat) (F:Bool->Dy×Int):Prop:=RD p (fun z=>z<=y) (F false)/\RU p (fun z=>y<=z) (F true)
theorem zfs {x:Rat} {m:Nat} {e:Int} {more:Bool} {p:Nat} (hp:8<=p/\p<=512) (neg:Bool) (h1:vN m e<=x) (h2:x<vN (m+1) e) (h3:more=false->x=vN m e) (h4:more=true->vN m e<x) (hm:more=true->p<bl m) (he:m=0->e<=16384):
 RT p (if neg=true then-x else x) (fun up=>zbi neg m e more p up):=by
 obtain⟨a,b⟩:=zwg (L:=fun z=>z<=x) (U:=fun z=>x<=z) hp neg (fun a b h1 h2=>q0 h1 h2) (fun a b h1 h2=>q0 h2 h1) h1 (fun z hz=>q0 hz (q5 h2)) (q4.2 h2)
  (fun h z hz=>by rw[<-h3 h];exact hz) (fun h=>by rw[h3 h];exact q1) (q5 h2) (fun z hz=>q0 h1 hz) (fun h=>q4.2 (h4 h)) hm he
 refine⟨a.congr fun z=>?_,b.congr fun z=>?_⟩
 .cases neg with
  |true=>simp only[if_true];constructor<;>intro h<;>grind
  |false=>simp
 .cases neg with
  |true=>simp only[if_true];constructor<;>intro h<;>grind
  |false=>simp
theorem zeh (m:Nat) (e:Int):vN m e<vN (m+1) e:=zmt.2 (Nat.lt_succ_self m)
theorem zdf {m:Nat} {e:Int} {p:Nat} (hp:8<=p/\p<=512) (neg:Bool) (he:m=0->e<=16384):
 RT p (if neg=true then-(vN m e)else vN m e) (fun up=>zbi neg m e false p up):=
 zfs hp neg q1 (zeh m e) (fun _=>rfl) (fun h=>by cases h) (fun h=>by cases h) he
theorem jw {d:Dy} (hd:VD d) {p:Nat} (hp:8<=p/\p<=512):RT p (dv d) (fun up=>vi d p up):=by
 have:=zdf (m:=nm d) (e:=d.e) hp d.neg (fun _=>hd.exp.2.1);exact this
theorem zrj (a b:Nat) (e f:Int):vN a e*vN b f=vN (a*b) (e+f):=by
 unfold vN;rw[pwA,jk];grind
theorem zz0 {a b:Dy}:dv a*dv b=if(a.neg != b.neg)=true then-(vN (nm a*nm b) (a.e+b.e))else vN (nm a*nm b) (a.e+b.e):=by
 rw[<-zrj];unfold dv;cases a.neg<;>cases b.neg<;>simp<;>grind
theorem zrf {d:Dy} (h:VD d) (h0:nm d=0):d.e=0:=by
 rcases h.ok with ⟨_,_,h3⟩|⟨h3,_⟩
 .exact h3
 .omega
theorem zll {a b:Dy} (ha:VD a) (hb:VD b) {p:Nat} (hp:8<=p/\p<=512):RT p (dv a*dv b) (fun up=>yq a b p up):=by
 rw[zz0];refine zdf hp _ fun h=>?_
 have a2:=ha.exp;have b2:=hb.exp;rcases Nat.mul_eq_zero.1 h with h|h
 .have:=zrf ha h;omega
 .have:=zrf hb h;omega
theorem zyn {n:Nat} (e:Int) (h:n≠0):0<vN n e:=by
 rw[<-ur e,zmt];omega
theorem zz2 {a b c:Rat} (hb:0<b):c<=a/b<->c*b<=a:=by
 have e:a/b*b=a:=by grind
 constructor
 .intro h;have:=qx h (q5 hb)
  rwa [e]at this
 .intro h;exact zcy (by rw[e];exact h) hb
theorem qhe {a b c:Rat} (hb:0<b):a/b<c<->a<c*b:=by
 have:=zz2 (a:=a) (c:=c) hb;constructor
 .intro h;exact q4.1 fun x=>q4.2 h (this.2 x)
 .intro h;exact q4.1 fun x=>q4.2 h (this.1 x)
theorem zpo {x y p:Nat} (hx:x≠0) (hy:y≠0):p<bl (x*2^(p+3+bl y-bl x)/y):=by
 have hk:=ql x (p+3+bl y-bl x) hx;generalize x*2^(p+3+bl y-bl x)=X at*;have hX:X≠0:=fun c=>by rw[c,kz]at hk;have:bl x≠0:=fun c=>hx (zaf.1 c);omega
 have h1:2^(p+2+bl y)<=X:=(zeu hX).1 (by omega);have h2:2^(p+2)<=X/y:=by
  rw[qF (qI hy)];rw[qG]at h1;exact Nat.le_trans (Nat.mul_le_mul_left _ (qK (zem y))) h1
 have h3:X/y≠0:=by have:=q2 (p+2);omega
 have:=(zeu h3).2 h2;omega
theorem zpq {a b:Dy} (ha:VD a) (hb':VD b) (hb0:nm b≠0) {p:Nat} (hp:8<=p/\p<=512):RT p (dv a/dv b) (fun up=>uz a b p up):=by
 have hb:0<vN (nm b) b.e:=zyn _ hb0;have hv:dv a/dv b=if(a.neg != b.neg)=true then-(vN (nm a) a.e/vN (nm b) b.e)else vN (nm a) a.e/vN (nm b) b.e:=by
  unfold dv;cases a.neg<;>cases b.neg<;>simp<;>grind
 have hD:(fun up=>uz a b p up)=fun up=>zbi (a.neg != b.neg) (nm a*2^zap a b p/nm b) (a.e-zap a b p-b.e) (decide (nm a*2^zap a b p % nm b≠0)) p up:=by
  funext up;unfold uz;rw[Z5 hb0]
 rw[hv,hD];have hx:vN (nm a) a.e=vN (nm a*2^zap a b p) (a.e-zap a b p):=by rw[xv];congr 1;omega
 have hq: ∀q,vN q (a.e-zap a b p-b.e)*vN (nm b) b.e=vN (q*nm b) (a.e-zap a b p):=fun q=>by rw[zrj];congr 1;omega
 have hdm:=qL (nm a*2^zap a b p) (nm b);have hml:=qS (nm a*2^zap a b p) (qI hb0);refine zfs hp _ ?_ ?_ ?_ ?_ ?_ ?_
 .rw[zz2 hb,hq,hx,yf];omega
 .rw[qhe hb,hq,hx,zmt,qP];omega
 .intro h;have h:nm a*2^zap a b p % nm b=0:=by simpa using h
  have e1:vN (nm a*2^zap a b p/nm b) (a.e-zap a b p-b.e)*vN (nm b) b.e=vN (nm a) a.e:=by
   rw[hq,hx];congr 1;omega
  rw[<-e1];have:vN (nm b) b.e≠0:=fun c=>by rw[c]at hb;grind
  grind
 .intro h;have h:nm a*2^zap a b p % nm b≠0:=by simpa using h
  refine q4.1 fun c=>?_
  have h2:=qx c (q5 hb);have e1:vN (nm a) a.e/vN (nm b) b.e*vN (nm b) b.e=vN (nm a) a.e:=by
   have:vN (nm b) b.e≠0:=fun c=>by rw[c]at hb;grind
   grind
  rw[e1,hq,hx,yf]at h2;omega
 .intro h;have h:nm a*2^zap a b p % nm b≠0:=by simpa using h
  have ha0:nm a≠0:=fun c=>by rw[c,Nat.zero_mul,Nat.zero_mod]at h;exact h rfl
  exact zpo ha0 hb0
 .intro h;by_cases ha0:nm a=0
  .have h1:=zrf ha ha0;have h2:=hb'.exp;omega
  .have:=zpo (p:=p) ha0 hb0;have h2:nm a*2^zap a b p/nm b=nm a*2^(p+3+bl (nm b)-bl (nm a))/nm b:=rfl;rw[<-h2,h,kz]at this;omega
theorem zyt {a b:Rat} (h0:0<=b) (h:a*a<=b*b):a<=b:=by
 refine qB.1 fun c=>?_
 have h1:b*b<=b*a:=by
  have:=qx (q5 c) h0;grind
 have h2:b*a<a*a:=by
  have:=qA c (show 0<a by grind);exact this
 grind
theorem qcv (d:Dy) (t:Int) (h:t<=d.e):dv d=(zi d t:Rat)*pw t:=by
 have e:vN (nm d) d.e=((nm d*2^(d.e-t).toNat :Nat):Rat)*pw t:=by rw[zaj _ _ t h];rfl
 unfold dv zi;rw[e]
 cases d.neg with
 |true=>
  simp only[if_true,qM,q9];rw[Rat.neg_mul]
 |false=>
  simp only[q3,if_false,q9]
theorem zlf (x y:Int):(zwq x y<0<->x<y)/\(0<zwq x y<->y<x)/\(zwq x y=0<->x=y):=by
 unfold zwq;split
 .omega
 .split<;>omega
theorem zat {x y t:Rat} (ht:0<t):x*t<y*t<->x<y:=by
 constructor
 .intro h;exact q4.1 fun c=>q4.2 h (qx c (q5 ht))
 .intro h;exact qA h ht
theorem za2 (a b:Dy):(qd a b<0<->dv a<dv b)/\(0<qd a b<->dv b<dv a)/\(qd a b=0<->dv a=dv b):=by
 have ha:=qcv a (min a.e b.e) (by omega);have hb:=qcv b (min a.e b.e) (by omega);have hp:=yg (min a.e b.e);obtain⟨h1,h2,h3⟩:=zlf (zi a (min a.e b.e)) (zi b (min a.e b.e));rw[ha,hb];unfold qd;rw[h1,h2,h3,zat hp,zat hp,q6,q6];refine⟨Iff.rfl,Iff.rfl,⟨fun h=>by rw[h],fun h=>?_⟩⟩;have h4: ¬((zi a (min a.e b.e):Rat)<zi b (min a.e b.e)):=fun c=>by have:=(zat hp).2 c;rw[h]at this;exact qE this
 have h5: ¬((zi b (min a.e b.e):Rat)<zi a (min a.e b.e)):=fun c=>by have:=(zat hp).2 c;rw[h]at this;exact qE this
 rw[q6]at h4 h5;omega
theorem ju {a b:Dy}:qd a b<=0<->dv a<=dv b:=by
 have h:=(za2 a b).2.1;constructor
 .intro h1;exact qB.1 fun c=>by have:=h.2 c;omega
 .intro h1;exact Int.not_lt.1 fun c=>qB.2 h1 (h.1 c)
theorem ziz {a b:Dy}:0<=qd a b<->dv b<=dv a:=by
 have h:=(za2 a b).1;constructor
 .intro h1;exact qB.1 fun c=>by have:=h.2 c;omega
 .intro h1;exact Int.not_lt.1 fun c=>qB.2 h1 (h.1 c)
theorem zfn (d:Dy):(jd d<0<->dv d<0)/\(0<jd d<->0<dv d)/\(jd d=0<->dv d=0):=by
 have ha:=qcv d d.e (Int.le_refl _);have hp:=yg d.e;obtain⟨h1,h2,h3⟩:=zlf (zi d d.e) 0;rw[zre d d.e,h1,h2,h3,ha];have e0:(0:Rat)=((0:Int):Rat)*pw d.e:=by rw[show((0:Int):Rat)=0 from rfl,qO]
 have g1:(zi d d.e:Rat)*pw d.e<0<->zi d d.e<0:=by
  conv=>lhs;rhs;rw[e0]
  rw[zat hp,q6]
 have g2:0<(zi d d.e:Rat)*pw d.e<->0<zi d d.e:=by
  conv=>lhs;lhs;rw[e0]
  rw[zat hp,q6]
 refine⟨g1.symm,g2.symm,⟨fun h=>by rw[h];exact e0.symm,fun h=>?_⟩⟩;have k1: ¬zi d d.e<0:=fun c=>by have:=g1.2 c;rw[h]at this;exact qE this
 have k2: ¬0<zi d d.e:=fun c=>by have:=g2.2 c;rw[h]at this;exact qE this
 omega
theorem zrk (a b:Nat) (e:Int):vN a e+vN b e=vN (a+b) e:=by unfold vN;rw[jx,Rat.add_mul]
theorem zob {a b:Nat} (h:b<=a) (e:Int):vN a e-vN b e=vN (a-b) e:=by
 have:=zrk (a-b) b e;rw[show a-b+b=a by omega]at this;grind
theorem zuf (n:Nat) (e w:Int):vN (wz n e false w).1 w<=vN n e/\vN n e<vN ((wz n e false w).1+1) w/\((wz n e false w).2=false->vN n e=vN (wz n e false w).1 w)/\((wz n e false w).2=true->vN (wz n e false w).1 w<vN n e/\e<w):=by
 by_cases h:w<=e
 .have e1:wz n e false w=(n*2^(e-w).toNat,false):=by unfold wz;rw[Z4 h]
  have e2:=zaj n e w h;rw[e1];simp only;rw[<-e2];refine⟨q1,?_,fun _=>rfl,fun c=>by cases c⟩;rw[e2];exact zeh _ _
 .obtain⟨h1,h2,h3,h4⟩:=zhd (m:=n) (more:=false) h;refine⟨h1,zy6 (zeh n e) h2,fun c=>(h3 c).2.symm,fun c=>⟨?_,by omega⟩⟩;rcases h4 c with h5|h5
  .cases h5
  .exact q4.1 h5
theorem zys {c d:Dy} (hc:VD c) (hd:VD d) (c0:nm c≠0) (d0':nm d≠0) (hle:zo d<=zo c) {p:Nat} (hp:8<=p/\p<=512):RT p (dv c+dv d) (fun up=>qdm c d p up):=by
 obtain⟨l1,l2,l3,l4⟩:=znn hc hd c0 hle d0' hp;have tc:zo c=bl (nm c)+c.e:=by unfold zo;rw[Z5 c0]
 have td:zo d=bl (nm d)+d.e:=by unfold zo;rw[Z5 d0']
 have hlow:d.e<jt c d p->jt c d p<=zo c-p-8/\2<zo c-zo d:=fun h=>by
  unfold jt at h⊢;by_cases h2:zo c-zo d<=2
  .rw[Z4 h2]at h;omega
  .rw[Z5 h2];omega
 obtain⟨f1,f2,f3,f4⟩:=zuf (nm d) d.e (jt c d p);have hXv:vN (nm c) c.e=vN (nm c*2^(c.e-jt c d p).toNat) (jt c d p):=zaj _ _ _ l1;have hXb:=ql (nm c) (c.e-jt c d p).toNat c0;have hFb:d.e<jt c d p->(wz (nm d) d.e false (jt c d p)).1<2^(zo d-jt c d p).toNat :=fun h=>by
  have e1:(wz (nm d) d.e false (jt c d p)).1=nm d/2^(jt c d p-d.e).toNat :=by unfold wz;rw[Z5 (by omega)]
  rw[e1,Nat.div_lt_iff_lt_mul (q2 _),<-qG];exact qC (zem (nm d)) (q8 (by decide) (by omega))
 have hxv: ∀y:Dy,dv y=if y.neg=true then-(vN (nm y) y.e)else vN (nm y) y.e:=fun y=>rfl
 have hXge:2^((zo c-jt c d p).toNat -1)<=nm c*2^(c.e-jt c d p).toNat :=by
  have hX0:nm c*2^(c.e-jt c d p).toNat ≠0:=Nat.mul_ne_zero c0 (by have:=q2 (c.e-jt c d p).toNat;omega);have hb0:bl (nm c)≠0:=fun x=>c0 (zaf.1 x)
  exact(zeu hX0).1 (by omega)
 unfold qdm zhx;rw[hxv c,hxv d,hXv];generalize nm c*2^(c.e-jt c d p).toNat =X at*;generalize hF:wz (nm d) d.e false (jt c d p)=F at*;generalize jt c d p=w at*;generalize vN (nm d) d.e=y at*;have hX0:X≠0:=by have:=q2 ((zo c-w).toNat -1);omega
 by_cases hs:c.neg=d.neg
 .
  rw[Z4 hs];simp only;have hne: ¬(X+F.1=0/\F.2=false):=fun h=>hX0 (by omega)
  have hval:(if c.neg=true then-(vN X w)else vN X w)+(if d.neg=true then-y else y)=if(c.neg != false)=true then-(vN X w+y)else vN X w+y:=by
   rw[<-hs];cases c.neg<;>simp<;>grind
  rw[hval];have hfun:(fun up=>if X+F.1=0/\F.2=false then(d0,(0:Int))else zbi (c.neg != false) (X+F.1) w F.2 p up)=fun up=>zbi (c.neg != false) (X+F.1) w F.2 p up:=by
   funext up;rw[Z5 hne]
  rw[hfun];have a1:=zrk X F.1 w;have a2:=zrk X (F.1+1) w;refine zfs hp _ ?_ ?_ ?_ ?_ ?_ ?_
  .rw[<-a1];grind
  .rw[show X+F.1+1=X+(F.1+1) by omega,<-a2];grind
  .intro h;rw[<-a1,f3 h]
  .intro h;rw[<-a1];have:=(f4 h).1;grind
  .intro h;obtain⟨h1,h2⟩:=hlow (f4 h).2;have h3:bl X<=bl (X+F.1):=qo (by omega);omega
  .intro h;omega
 .
  rw[Z5 hs];have hval: ∀z:Rat,z=vN X w-y->(if c.neg=true then-(vN X w)else vN X w)+(if d.neg=true then-y else y)=if c.neg=true then-z else z:=fun z hz=>by
   subst hz;cases hc':c.neg<;>cases hd':d.neg<;>simp[hc',hd']at hs⊢ <;>grind
  have hU:F.2=true->upN F true=F.1+1/\F.1+1<=2^((zo c-w).toNat -3)/\2^((zo c-w).toNat -3)*4<=X/\p+8<=(zo c-w).toNat :=fun h=>by
   obtain⟨h1,h2⟩:=hlow (f4 h).2;have h3:=hFb (f4 h).2;refine⟨by unfold upN;rw[h];rfl,?_,?_,by omega⟩
   .have h4:2^(zo d-w).toNat <=2^((zo c-w).toNat -3):=q8 (by decide) (by omega);omega
   .have h4:2^((zo c-w).toNat -1)=2^((zo c-w).toNat -3)*4:=by
     rw[show(zo c-w).toNat -1=((zo c-w).toNat -3)+2 by omega,qG]
    omega
  have hUf:F.2=false->upN F true=F.1:=fun h=>by unfold upN;rw[h];rfl
  by_cases hlt:X<upN F true
  .rw[Z4 hlt];simp only;have hFf:F.2=false:=by
    cases hF2:F.2 with
    |false=>rfl
    |true=>obtain⟨u1,u2,u3,_⟩:=hU hF2;omega
   have hUe:=hUf hFf;rw[hUe]at hlt⊢;have hfun:(fun up=>if F.1-X=0/\True then(d0,(0:Int))else zbi (c.neg != true) (F.1-X) w false p up)=fun up=>zbi (c.neg != true) (F.1-X) w false p up:=by
    funext up;rw[Z5 fun h=>by omega]
   rw[hfun];have a1:=zob (qK hlt) w;have hv:(if c.neg=true then-(vN X w)else vN X w)+(if d.neg=true then-y else y)=if(c.neg != true)=true then-(vN (F.1-X) w)else vN (F.1-X) w:=by
    rw[hval (vN X w-y) rfl,<-a1,f3 hFf];cases c.neg<;>simp<;>grind
   rw[hv];exact zdf hp _ fun h=>by omega
  .rw[Z5 hlt];simp only;rw[hval (vN X w-y) rfl]
   cases hF2:F.2 with
   |false=>
    have hUe:=hUf hF2;rw[hUe]at hlt⊢;have a1:=zob (a:=X) (b:=F.1) (by omega) w;by_cases hz:X-F.1=0
    .have hfun:(fun up=>if X-F.1=0/\false=false then(d0,(0:Int))else zbi (c.neg != false) (X-F.1) w false p up)=fun _=>(d0,0):=by
      funext up;rw[Z4 ⟨hz,rfl⟩]
     rw[hfun,f3 hF2,a1,hz,ur];have e0:(if c.neg=true then-(0:Rat)else 0)=0:=by split<;>grind
     rw[e0];refine⟨⟨fun _=>⟨by rw[xq];exact q1,by rw[xq];exact .inl (zf7 p)⟩,fun z _ h=>⟨rfl,by rw[xq];exact h⟩⟩,⟨fun _=>⟨by rw[xq];exact q1,by rw[xq];exact .inl (zf7 p)⟩,fun z _ h=>⟨rfl,by rw[xq];exact h⟩⟩⟩
    .have hfun:(fun up=>if X-F.1=0/\false=false then(d0,(0:Int))else zbi (c.neg != false) (X-F.1) w false p up)=fun up=>zbi (c.neg != false) (X-F.1) w false p up:=by
      funext up;rw[Z5 fun h=>hz h.1]
     rw[hfun,f3 hF2,a1];have e0:(c.neg != false)=c.neg:=by cases c.neg<;>rfl
     rw[e0];exact zdf hp _ fun h=>absurd h hz
   |true=>
    obtain⟨u1,u2,u3,u4⟩:=hU hF2;rw[u1];have a1:=zob (a:=X) (b:=F.1+1) (by omega) w;have a2:=zob (a:=X) (b:=F.1) (by omega) w;have hpos:=q2 ((zo c-w).toNat -3);have hfun:(fun up=>if X-(F.1+1)=0/\true=false then(d0,(0:Int))else zbi (c.neg != false) (X-(F.1+1)) w true p up)=fun up=>zbi (c.neg != false) (X-(F.1+1)) w true p up:=by
     funext up;rw[Z5 fun h=>by cases h.2]
    rw[hfun];have e0:(c.neg != false)=c.neg:=by cases c.neg<;>rfl
    rw[e0];have hy1:=(f4 hF2).1;refine zfs hp _ ?_ ?_ ?_ ?_ ?_ ?_
    .rw[<-a1];grind
    .rw[show X-(F.1+1)+1=X-F.1 by omega,<-a2];grind
    .intro h;cases h
    .intro _;rw[<-a1];grind
    .intro _;have h5:2^((zo c-w).toNat -3)<=X-(F.1+1):=by omega
     have h6:=(zeu (n:=X-(F.1+1)) (k:=(zo c-w).toNat -3) (by omega)).2 h5;omega
    .intro h;omega
theorem zhl {d:Dy} (h:nm d=0):dv d=0:=by unfold dv;rw[h,ur];split<;>rfl
theorem zb0 {a b:Dy} (ha:VD a) (hb:VD b) {p:Nat} (hp:8<=p/\p<=512):RT p (dv a+dv b) (fun up=>zaq a b p up):=by
 by_cases a0:nm a=0
 .have h:=jw hb hp;have e:(fun up=>zaq a b p up)=fun up=>vi b p up:=by funext up;unfold zaq;rw[Z4 a0]
  rw[e,zhl a0,Rat.zero_add];exact h
 by_cases b0:nm b=0
 .have h:=jw ha hp;have e:(fun up=>zaq a b p up)=fun up=>vi a p up:=by funext up;unfold zaq;rw[Z5 a0,Z4 b0]
  rw[e,zhl b0,Rat.add_zero];exact h
 have e:(fun up=>zaq a b p up)=fun up=>qdm (zh3 a b) (zh9 a b) p up:=by funext up;unfold zaq;rw[Z5 a0,Z5 b0]
 rw[e];by_cases ht:zo a<zo b
 .have e1:zh3 a b=b/\zh9 a b=a:=by unfold zh3 zh9;rw[Z4 ht,Z4 ht];exact⟨rfl,rfl⟩
  rw[e1.1,e1.2,Rat.add_comm];exact zys hb ha b0 a0 (by omega) hp
 .have e1:zh3 a b=a/\zh9 a b=b:=by unfold zh3 zh9;rw[Z5 ht,Z5 ht];exact⟨rfl,rfl⟩
  rw[e1.1,e1.2];exact zys ha hb a0 b0 (by omega) hp
def inI (q:Rat) (x:Iv):Prop:=x.all=true\/(dv x.lo<=q/\q<=dv x.hi)
theorem KI.dle {x:Iv} (k:KI x):dv x.lo<=dv x.hi:=ju.1 k.le
theorem zyi {x:Iv} (h:CI x) (h1:x.all=false) (h2:dv x.lo<=dv x.hi):KI x:=by
 rcases h with rfl|⟨_,a,b⟩
 .cases h1
 .exact⟨h1,a,b,ju.2 h2⟩
theorem yx {a b:Dy×Int}:(jm a b).all =false<->a.2=0/\b.2=0:=by
 unfold jm;split
 .rename_i h;constructor
  .intro c;cases c
  .rintro⟨h1,h2⟩;exact absurd (by simp[h1,h2]) (not_not_intro h)
 .rename_i h;constructor
  .intro _;exact⟨by simp only[not_or,Decidable.not_not]at h;exact h.1,by simp only[not_or,Decidable.not_not]at h;exact h.2⟩
  .intro _;rfl
theorem zbo {a b:Dy×Int} (h:(jm a b).all =false):jm a b=⟨a.1,b.1,false⟩:=by
 have:=yx.1 h;unfold jm;rw[Z5 (by simp[this.1,this.2])]
theorem qbj {p:Nat} {y z:Rat} {F G:Bool->Dy×Int} (hF:RT p y F) (hG:RT p z G) {q:Rat} (h1:y<=q) (h2:q<=z):inI q (jm (F false) (G true)):=by
 cases h:(jm (F false) (G true)).all with
 |true=>exact .inl h
 |false=>
  obtain⟨e1,e2⟩:=yx.1 h;rw[zbo h];exact .inr ⟨q0 (hF.1.1 e1).1 h1,q0 h2 (hG.2.1 e2).1⟩
theorem qbk {p:Nat} {y z:Rat} {F G:Bool->Dy×Int} (hF:RT p y F) (hG:RT p z G) (hc:CI (jm (F false) (G true))) (h:y<=z):VI (jm (F false) (G true)):=by
 cases ha:(jm (F false) (G true)).all with
 |true=>
  rcases hc with hc|⟨h1,_⟩
  .exact .inr hc
  .rw[ha]at h1;cases h1
 |false=>
  refine .inl (zyi hc ha ?_);obtain⟨e1,e2⟩:=yx.1 ha;rw[zbo ha];exact q0 (hF.1.1 e1).1 (q0 h (hG.2.1 e2).1)
theorem zdw {x y:Iv} (hx:RI x) (hy:RI y):(kB x&&kB y)=true<->KI x/\KI y:=by rw[Bool.and_eq_true,qh hx,qh hy]
theorem yt {x:Iv} (h:VI x):x.all=false<->KI x:=by
 rcases h with h|rfl
 .exact⟨fun _=>h,fun _=>h.all⟩
 .exact⟨(fun c=>by cases c),(fun k=>k.all)⟩
theorem zrh (q:Rat):inI q wI0:= .inl rfl
theorem zp2 {x y:Iv} (hx:KI x) (hy:KI y) {p:Int} (hp:pcB p=true):za3 x y p=jm (zaq x.lo y.lo p.toNat false) (zaq x.hi y.hi p.toNat true):=by
 unfold za3;rw[Z4 ⟨(zdw hx.ri hy.ri).2 ⟨hx,hy⟩,hp⟩]
theorem qdl {x y:Iv} (hx:RI x) (hy:RI y) {p:Int} (h: ¬(KI x/\KI y)):za3 x y p=wI0:=by
 unfold za3;rw[Z5 fun c=>h ((zdw hx hy).1 c.1)]
theorem zi6 {x y:Iv} (hx:VI x) (hy:VI y) {p:Int} (hp:pcB p=true):VI (za3 x y p):=by
 by_cases h:KI x/\KI y
 .rw[zp2 h.1 h.2 hp];refine qbk (zb0 h.1.lo h.2.lo (vl hp)) (zb0 h.1.hi h.2.hi (vl hp)) (by rw[<-zp2 h.1 h.2 hp];exact qah _ _ _) ?_;have:=h.1.dle;have:=h.2.dle;grind
 .rw[qdl hx.ri hy.ri h];exact .inr rfl
theorem zp0 {x y:Iv} (hx:VI x) (hy:VI y) {p:Int} (hp:pcB p=true) {a b:Rat} (ha:inI a x) (hb:inI b y):inI (a+b) (za3 x y p):=by
 by_cases h:KI x/\KI y
 .rw[zp2 h.1 h.2 hp];rcases ha with ha|ha
  .rw[h.1.all]at ha;cases ha
  rcases hb with hb|hb
  .rw[h.2.all]at hb;cases hb
  exact qbj (zb0 h.1.lo h.2.lo (vl hp)) (zb0 h.1.hi h.2.hi (vl hp)) (by grind) (by grind)
 .rw[qdl hx.ri hy.ri h];exact zrh _
theorem zgs {x:Iv} (hx:KI x):zay x=⟨yn x.hi,yn x.lo,false⟩:=by unfold zay;rw[Z4 ((qh hx.ri).2 hx)]
theorem qfx {x:Iv} (hx:RI x) (h: ¬KI x):zay x=wI0:=by unfold zay;rw[Z5 fun c=>h ((qh hx).1 c)]
theorem ze6 {x:Iv} (hx:VI x):VI (zay x):=by
 by_cases h:KI x
 .rw[zgs h];refine .inl ⟨rfl,zd8 h.hi,zd8 h.lo,ju.2 ?_⟩;simp only[zcn];have:=h.dle;grind
 .rw[qfx hx.ri h];exact .inr rfl
theorem zzf {x:Iv} (hx:VI x) {a:Rat} (ha:inI a x):inI (-a) (zay x):=by
 by_cases h:KI x
 .rw[zgs h];rcases ha with ha|ha
  .rw[h.all]at ha;cases ha
  refine .inr ?_;simp only[zcn];grind
 .rw[qfx hx.ri h];exact zrh _
def zl2 (op:Rat->Rat->Rat) (x y:Iv) (P:Rat->Prop):Prop:=P (op (dv x.lo) (dv y.lo))/\P (op (dv x.lo) (dv y.hi))/\P (op (dv x.hi) (dv y.lo))/\P (op (dv x.hi) (dv y.hi))
def zk1 (op:Rat->Rat->Rat) (x y:Iv) (P:Rat->Prop):Prop:=P (op (dv x.lo) (dv y.lo))\/P (op (dv x.lo) (dv y.hi))\/P (op (dv x.hi) (dv y.lo))\/P (op (dv x.hi) (dv y.hi))
structure F4 (p:Nat) (op:Rat->Rat->Rat) (dn up:Dy->Dy->Dy×Int) (x y:Iv):Prop where
 rt1:RT p (op (dv x.lo) (dv y.lo)) (fun u=>if u=true then up x.lo y.lo else dn x.lo y.lo)
 rt2:RT p (op (dv x.lo) (dv y.hi)) (fun u=>if u=true then up x.lo y.hi else dn x.lo y.hi)
 rt3:RT p (op (dv x.hi) (dv y.lo)) (fun u=>if u=true then up x.hi y.lo else dn x.hi y.lo)
 rt4:RT p (op (dv x.hi) (dv y.hi)) (fun u=>if u=true then up x.hi y.hi else dn x.hi y.hi)
theorem zmz {dn up:Dy×Int} {o:Iv} {K:Iv->Iv} (h:(stI dn up o K).all =false):dn.2=0/\up.2=0/\ ∃o':Iv,stI dn up o K=K o'/\o'.all=false/\(o'.lo=dn.1\/o'.lo=o.lo)/\(o'.hi=up.1\/o'.hi=o.hi)/\dv o'.lo<=dv dn.1/\dv o'.lo<=dv o.lo/\dv up.1<=dv o'.hi/\dv o.hi<=dv o'.hi:=by
 unfold stI at h⊢;by_cases he:dn.2≠0\/up.2≠0
 .rw[Z4 he]at h;cases h
 .rw[Z5 he]at h⊢;simp only[not_or,Decidable.not_not]at he;refine⟨he.1,he.2,_,rfl,rfl,?_,?_,?_,?_,?_,?_⟩
  .simp only;split<;>simp
  .simp only;split<;>simp
  .simp only;split
   .exact q1
   .rename_i hc;have:0<=qd dn.1 o.lo:=by omega
    exact ziz.1 this
  .simp only;split
   .rename_i hc;exact ju.1 (by omega)
   .exact q1
  .simp only;split
   .exact q1
   .rename_i hc;exact ju.1 (by omega)
  .simp only;split
   .rename_i hc;exact ziz.1 (by omega)
   .exact q1
theorem qa4 {dn up:Dy×Int} {o:Iv} {K:Iv->Iv} (h1:dn.2=0) (h2:up.2=0): ∃o':Iv,o'.all=false/\stI dn up o K=K o':=by
 unfold stI;rw[Z5 (by simp[h1,h2])];exact⟨_,rfl,rfl⟩
theorem zhb {dn up:Dy->Dy->Dy×Int} {x y:Iv} (h:(jo dn up x y).all =false):
 ((dn x.lo y.lo).2=0/\(dn x.lo y.hi).2=0/\(dn x.hi y.lo).2=0/\(dn x.hi y.hi).2=0)/\((up x.lo y.lo).2=0/\(up x.lo y.hi).2=0/\(up x.hi y.lo).2=0/\(up x.hi y.hi).2=0)/\
 (∀t:Rat,t<=dv (dn x.lo y.lo).1->t<=dv (dn x.lo y.hi).1->t<=dv (dn x.hi y.lo).1->t<=dv (dn x.hi y.hi).1->t<=dv (jo dn up x y).lo)/\
 (∀t:Rat,dv (up x.lo y.lo).1<=t->dv (up x.lo y.hi).1<=t->dv (up x.hi y.lo).1<=t->dv (up x.hi y.hi).1<=t->dv (jo dn up x y).hi <=t)/\
 (dv (jo dn up x y).lo <=dv (dn x.lo y.lo).1/\dv (jo dn up x y).lo <=dv (dn x.lo y.hi).1/\dv (jo dn up x y).lo <=dv (dn x.hi y.lo).1/\dv (jo dn up x y).lo <=dv (dn x.hi y.hi).1)/\
 (dv (up x.lo y.lo).1<=dv (jo dn up x y).hi /\dv (up x.lo y.hi).1<=dv (jo dn up x y).hi /\dv (up x.hi y.lo).1<=dv (jo dn up x y).hi /\dv (up x.hi y.hi).1<=dv (jo dn up x y).hi):=by
 rw[zke]at h⊢;by_cases he:(dn x.lo y.lo).2≠0\/(up x.lo y.lo).2≠0
 .unfold s0I at h;rw[Z4 he]at h;cases h
 have e0: ∀K,s0I (dn x.lo y.lo) (up x.lo y.lo) K=K ⟨(dn x.lo y.lo).1,(up x.lo y.lo).1,false⟩:=fun K=>by unfold s0I;rw[Z5 he]
 simp only[not_or,Decidable.not_not]at he;rw[e0]at h⊢;obtain⟨a1,a2,o1,a3,_,a5,a6,a7,a8,a9,a10⟩:=zmz h;rw[a3]at h⊢;obtain⟨b1,b2,o2,b3,_,b5,b6,b7,b8,b9,b10⟩:=zmz h;rw[b3]at h⊢;obtain⟨c1,c2,o3,c3,_,c5,c6,c7,c8,c9,c10⟩:=zmz h;rw[c3];simp only at*;refine⟨⟨he.1,a1,b1,c1⟩,⟨he.2,a2,b2,c2⟩,?_,?_,⟨?_,?_,?_,?_⟩,⟨?_,?_,?_,?_⟩⟩
 .intro t t1 t2 t3 t4;rcases c5 with c|c<;>rw[c]
  .exact t4
  .rcases b5 with c|c<;>rw[c]
   .exact t3
   .rcases a5 with c|c<;>rw[c]
    .exact t2
    .exact t1
 .intro t t1 t2 t3 t4;rcases c6 with c|c<;>rw[c]
  .exact t4
  .rcases b6 with c|c<;>rw[c]
   .exact t3
   .rcases a6 with c|c<;>rw[c]
    .exact t2
    .exact t1
 .exact q0 c8 (q0 b8 a8)
 .exact q0 c8 (q0 b8 a7)
 .exact q0 c8 b7
 .exact c7
 .exact q0 a10 (q0 b10 c10)
 .exact q0 a9 (q0 b10 c10)
 .exact q0 b9 c10
 .exact c9
theorem zpi {dn up:Dy->Dy->Dy×Int} {x y:Iv} (h1:(dn x.lo y.lo).2=0/\(dn x.lo y.hi).2=0/\(dn x.hi y.lo).2=0/\(dn x.hi y.hi).2=0) (h2:(up x.lo y.lo).2=0/\(up x.lo y.hi).2=0/\(up x.hi y.lo).2=0/\(up x.hi y.hi).2=0):(jo dn up x y).all =false:=by
 rw[zke];have e0: ∀K,s0I (dn x.lo y.lo) (up x.lo y.lo) K=K ⟨(dn x.lo y.lo).1,(up x.lo y.lo).1,false⟩:=fun K=>by unfold s0I;rw[Z5 (by simp[h1.1,h2.1])]
 rw[e0];obtain⟨o1,_,e1⟩:=qa4 (dn:=dn x.lo y.hi) (up:=up x.lo y.hi) (o:=⟨(dn x.lo y.lo).1,(up x.lo y.lo).1,false⟩) (K:=fun o=>stI (dn x.hi y.lo) (up x.hi y.lo) o (fun o=>stI (dn x.hi y.hi) (up x.hi y.hi) o (fun o=>o))) h1.2.1 h2.2.1;rw[e1];obtain⟨o2,_,e2⟩:=qa4 (dn:=dn x.hi y.lo) (up:=up x.hi y.lo) (o:=o1) (K:=fun o=>stI (dn x.hi y.hi) (up x.hi y.hi) o (fun o=>o)) h1.2.2.1 h2.2.2.1;rw[e2];obtain⟨o3,h3,e3⟩:=qa4 (dn:=dn x.hi y.hi) (up:=up x.hi y.hi) (o:=o2) (K:=fun o=>o) h1.2.2.2 h2.2.2.2;rw[e3];exact h3
theorem qid {p:Nat} {op:Rat->Rat->Rat} {dn up:Dy->Dy->Dy×Int} {x y:Iv} (f:F4 p op dn up x y) {q:Rat} (h1:zk1 op x y (fun z=>z<=q)) (h2:zk1 op x y (fun z=>q<=z)):inI q (jo dn up x y):=by
 cases ha:(jo dn up x y).all with
 |true=>exact .inl ha
 |false=>
  obtain⟨d,u,_,_,⟨l1,l2,l3,l4⟩,⟨r1,r2,r3,r4⟩⟩:=zhb ha;have g1:=(f.rt1.1.1 d.1).1;have g2:=(f.rt2.1.1 d.2.1).1;have g3:=(f.rt3.1.1 d.2.2.1).1;have g4:=(f.rt4.1.1 d.2.2.2).1;have k1:=(f.rt1.2.1 u.1).1;have k2:=(f.rt2.2.1 u.2.1).1;have k3:=(f.rt3.2.1 u.2.2.1).1;have k4:=(f.rt4.2.1 u.2.2.2).1;simp only[if_true,q3,if_false]at g1 g2 g3 g4 k1 k2 k3 k4;refine .inr ⟨?_,?_⟩
  .rcases h1 with h|h|h|h
   .exact q0 l1 (q0 g1 h)
   .exact q0 l2 (q0 g2 h)
   .exact q0 l3 (q0 g3 h)
   .exact q0 l4 (q0 g4 h)
  .rcases h2 with h|h|h|h
   .exact q0 h (q0 k1 r1)
   .exact q0 h (q0 k2 r2)
   .exact q0 h (q0 k3 r3)
   .exact q0 h (q0 k4 r4)
theorem ztg {a b x1 x2:Rat} (h1:x1<=a) (h2:a<=x2):(x1*b<=a*b\/x2*b<=a*b)/\(a*b<=x1*b\/a*b<=x2*b):=by
 by_cases hb:0<=b
 .exact⟨.inl (qx h1 hb),.inr (qx h2 hb)⟩
 .have hb':0<= -b:=by grind
  have e1:=qx h1 hb';have e2:=qx h2 hb';exact⟨.inr (by grind),.inl (by grind)⟩
theorem zjz {a b y1 y2:Rat} (h1:y1<=b) (h2:b<=y2):(a*y1<=a*b\/a*y2<=a*b)/\(a*b<=a*y1\/a*b<=a*y2):=by
 have:=ztg (b:=a) h1 h2;rw[q7 y1,q7 y2,q7 b]at this;exact this
theorem zr1 {x y:Iv} {a b:Rat} (h1:dv x.lo<=a) (h2:a<=dv x.hi) (h3:dv y.lo<=b) (h4:b<=dv y.hi):zk1 (fun u v=>u*v) x y (fun z=>z<=a*b)/\zk1 (fun u v=>u*v) x y (fun z=>a*b<=z):=by
 obtain⟨m1,m2⟩:=ztg (b:=b) h1 h2;obtain⟨l1,l2⟩:=zjz (a:=dv x.lo) h3 h4;obtain⟨u1,u2⟩:=zjz (a:=dv x.hi) h3 h4;unfold zk1;constructor
 .rcases m1 with m|m
  .rcases l1 with l|l
   .exact .inl (q0 l m)
   .exact .inr (.inl (q0 l m))
  .rcases u1 with l|l
   .exact .inr (.inr (.inl (q0 l m)))
   .exact .inr (.inr (.inr (q0 l m)))
 .rcases m2 with m|m
  .rcases l2 with l|l
   .exact .inl (q0 m l)
   .exact .inr (.inl (q0 m l))
  .rcases u2 with l|l
   .exact .inr (.inr (.inl (q0 m l)))
   .exact .inr (.inr (.inr (q0 m l)))
theorem qci (F:Bool->Dy×Int):(fun u=>if u=true then F true else F false)=F:=by funext u;cases u<;>rfl
theorem zfa {p:Nat} {y:Rat} {F:Bool->Dy×Int} (h:RT p y F):RT p y (fun u=>if u=true then F true else F false):=by rw[qci];exact h
theorem zlm {x y:Iv} (hx:KI x) (hy:KI y) {p:Nat} (hp:8<=p/\p<=512):F4 p (fun u v=>u*v) (fun a b=>yq a b p false) (fun a b=>yq a b p true) x y:=
 ⟨zfa (zll hx.lo hy.lo hp),zfa (zll hx.lo hy.hi hp),zfa (zll hx.hi hy.lo hp),zfa (zll hx.hi hy.hi hp)⟩
theorem zih {x y:Iv} (hx:KI x) (hy:KI y) {p:Int} (hp:pcB p=true):jr x y p=jo (fun a b=>yq a b p.toNat false) (fun a b=>yq a b p.toNat true) x y:=by
 unfold jr;rw[Z4 ⟨(zdw hx.ri hy.ri).2 ⟨hx,hy⟩,hp⟩]
theorem zw1 {x y:Iv} (hx:RI x) (hy:RI y) {p:Int} (h: ¬(KI x/\KI y)):jr x y p=wI0:=by
 unfold jr;rw[Z5 fun c=>h ((zdw hx hy).1 c.1)]
theorem ze7 {x y:Iv} (hx:VI x) (hy:VI y) {p:Int} (hp:pcB p=true) {a b:Rat} (ha:inI a x) (hb:inI b y):inI (a*b) (jr x y p):=by
 by_cases h:KI x/\KI y
 .rw[zih h.1 h.2 hp];rcases ha with ha|ha
  .rw[h.1.all]at ha;cases ha
  rcases hb with hb|hb
  .rw[h.2.all]at hb;cases hb
  obtain⟨s1,s2⟩:=zr1 ha.1 ha.2 hb.1 hb.2;exact qid (zlm h.1 h.2 (vl hp)) s1 s2
 .rw[zw1 hx.ri hy.ri h];exact zrh _
theorem zp3 {x:Iv} (h:CI x) {q:Rat} (hq:inI q x):VI x:=by
 cases ha:x.all with
 |true=>
  rcases h with h|⟨h1,_⟩
  .exact .inr h
  .rw[ha]at h1;cases h1
 |false=>
  rcases hq with hq|hq
  .rw[ha]at hq;cases hq
  .exact .inl (zyi h ha (q0 hq.1 hq.2))
theorem zqq {x:Iv} (h:VI x):inI (dv x.lo) x:=by
 rcases h with k|rfl
 .exact .inr ⟨q1,k.dle⟩
 .exact zrh _
theorem wx {x y:Iv} (hx:VI x) (hy:VI y) {p:Int} (hp:pcB p=true):VI (jr x y p):=zp3 (qag x y p) (ze7 hx hy hp (zqq hx) (zqq hy))
theorem zgk {y:Iv} (hy:KI y):zqj y≠0<->(0<dv y.lo\/dv y.hi<0):=by
 have h1:=(zfn y.lo).2.1;have h2:=(zfn y.hi).1;unfold zqj;rw[Z4 ((qh hy.ri).2 hy)];by_cases c1:0<jd y.lo
 .rw[Z4 c1];exact⟨fun _=> .inl (h1.1 c1),fun _=>by decide⟩
 .rw[Z5 c1];by_cases c2:jd y.hi<0
  .rw[Z4 c2];exact⟨fun _=> .inr (h2.1 c2),fun _=>by decide⟩
  .rw[Z5 c2];exact⟨fun c=>absurd rfl c,fun c=>by rcases c with c|c;exact absurd (h1.2 c) c1;exact absurd (h2.2 c) c2⟩
theorem znw {a b c:Rat} (h:0<a\/c<0) (h1:a<=b) (h2:b<=c):c⁻¹ <=b⁻¹ /\b⁻¹ <=a⁻¹ :=by
 have key: ∀u v:Rat,0<u->u<=v->v⁻¹ <=u⁻¹ :=fun u v hu huv=>by
  have hv:0<v:=by grind
  have hi:0<u⁻¹ :=by have:=qQ.2 hu;exact this
  have hj:0<v⁻¹ :=by have:=qQ.2 hv;exact this
  have e1:v*v⁻¹ =1:=qJ v (by grind);have e2:u*u⁻¹ =1:=qJ u (by grind);have h3:u*v⁻¹ <=v*v⁻¹ :=qx huv (q5 hj);rw[e1,<-e2]at h3;have h4:v⁻¹ *u<=u⁻¹ *u:=by rw[q7 v⁻¹,q7 u⁻¹];exact h3
  exact zcy h4 hu
 rcases h with h|h
 .exact⟨key b c (by grind) h2,key a b h h1⟩
 .have k1:=key (-c) (-b) (by grind) (by grind);have k2:=key (-b) (-a) (by grind) (by grind);have e: ∀u:Rat,(-u)⁻¹ = -(u⁻¹):=fun u=>by grind
  rw[e,e]at k1 k2;constructor<;>grind
theorem zr2 {x y:Iv} {a b:Rat} (hs:0<dv y.lo\/dv y.hi<0) (h1:dv x.lo<=a) (h2:a<=dv x.hi) (h3:dv y.lo<=b) (h4:b<=dv y.hi):zk1 (fun u v=>u/v) x y (fun z=>z<=a/b)/\zk1 (fun u v=>u/v) x y (fun z=>a/b<=z):=by
 obtain⟨i1,i2⟩:=znw hs h3 h4;obtain⟨m1,m2⟩:=ztg (b:=b⁻¹) h1 h2;obtain⟨l1,l2⟩:=zjz (a:=dv x.lo) i1 i2;obtain⟨u1,u2⟩:=zjz (a:=dv x.hi) i1 i2;have e: ∀u v:Rat,u/v=u*v⁻¹ :=fun u v=>Rat.div_def u v
 unfold zk1;simp only[e];constructor
 .rcases m1 with m|m
  .rcases l1 with l|l
   .exact .inr (.inl (q0 l m))
   .exact .inl (q0 l m)
  .rcases u1 with l|l
   .exact .inr (.inr (.inr (q0 l m)))
   .exact .inr (.inr (.inl (q0 l m)))
 .rcases m2 with m|m
  .rcases l2 with l|l
   .exact .inr (.inl (q0 m l))
   .exact .inl (q0 m l)
  .rcases u2 with l|l
   .exact .inr (.inr (.inr (q0 m l)))
   .exact .inr (.inr (.inl (q0 m l)))
theorem qfu {d:Dy} (h:dv d≠0):nm d≠0:=fun c=>h (zhl c)
theorem zpr {x y:Iv} (hx:KI x) (hy:KI y) (hs:0<dv y.lo\/dv y.hi<0) {p:Nat} (hp:8<=p/\p<=512):F4 p (fun u v=>u/v) (fun a b=>uz a b p false) (fun a b=>uz a b p true) x y:=by
 have hl:nm y.lo≠0:=qfu (by have:=hy.dle;grind);have hh:nm y.hi≠0:=qfu (by have:=hy.dle;grind);exact⟨zfa (zpq hx.lo hy.lo hl hp),zfa (zpq hx.lo hy.hi hh hp),zfa (zpq hx.hi hy.lo hl hp),zfa (zpq hx.hi hy.hi hh hp)⟩
theorem zkj {x y:Iv} (hx:KI x) (hy:KI y) (hs:0<dv y.lo\/dv y.hi<0) {p:Int} (hp:pcB p=true):zkl x y p=jo (fun a b=>uz a b p.toNat false) (fun a b=>uz a b p.toNat true) x y:=by
 unfold zkl;rw[Z4 ⟨(zdw hx.ri hy.ri).2 ⟨hx,hy⟩,hp,(zgk hy).2 hs⟩]
theorem zz3 {x y:Iv} (hx:RI x) (hy:RI y) {p:Int} (h: ¬(KI x/\KI y/\(0<dv y.lo\/dv y.hi<0))):zkl x y p=wI0:=by
 unfold zkl;rw[Z5 fun c=>?_];obtain⟨k1,k2⟩:=(zdw hx hy).1 c.1;exact h ⟨k1,k2,(zgk k2).1 c.2.2⟩
theorem zup {x y:Iv} (hx:VI x) (hy:VI y) {p:Int} (hp:pcB p=true) {a b:Rat} (ha:inI a x) (hb:inI b y):inI (a/b) (zkl x y p):=by
 by_cases h:KI x/\KI y/\(0<dv y.lo\/dv y.hi<0)
 .rw[zkj h.1 h.2.1 h.2.2 hp];rcases ha with ha|ha
  .rw[h.1.all]at ha;cases ha
  rcases hb with hb|hb
  .rw[h.2.1.all]at hb;cases hb
  obtain⟨s1,s2⟩:=zr2 h.2.2 ha.1 ha.2 hb.1 hb.2;exact qid (zpr h.1 h.2.1 h.2.2 (vl hp)) s1 s2
 .rw[zz3 hx.ri hy.ri h];exact zrh _
theorem zkk {x y:Iv} (hx:VI x) (hy:VI y) {p:Int} (hp:pcB p=true):VI (zkl x y p):=zp3 (qig x y p) (zup hx hy hp (zqq hx) (zqq hy))
def zk (q:Rat):Rat:=if q<0 then-q else q
theorem zz (q:Rat):0<=zk q:=by unfold zk;split<;>grind
theorem zpl (d:Dy):dv (zfk d)=zk (dv d):=by
 have h:dv (zfk d)=vN (nm d) d.e:=rfl;rw[h];have h2:=zbj (nm d) d.e;unfold dv zk
 cases d.neg with
 |true=>simp only[if_true];split<;>grind
 |false=>simp only[q3,if_false];split<;>grind
theorem zbr (a b:Dy):dv (uw a b)<=dv a/\dv (uw a b)<=dv b/\(uw a b=a\/uw a b=b):=by
 unfold uw;split
 .rename_i h;exact⟨q1,ju.1 h,.inl rfl⟩
 .rename_i h;exact⟨ziz.1 (by omega),q1,.inr rfl⟩
theorem xg (a b:Dy):dv a<=dv (kf a b)/\dv b<=dv (kf a b)/\(kf a b=a\/kf a b=b):=by
 unfold kf;split
 .rename_i h;exact⟨q1,ziz.1 h,.inl rfl⟩
 .rename_i h;exact⟨ju.1 (by omega),q1,.inr rfl⟩
theorem zve {x:Iv} (k:KI x) {a:Rat} (h1:dv x.lo<=a) (h2:a<=dv x.hi):0<=dv (migD x)/\dv (migD x)<=zk a/\zk a<=dv (zc3 x):=by
 obtain⟨m1,m2,_⟩:=xg (zfk x.lo) (zfk x.hi);obtain⟨l1,l2,l3⟩:=zbr (zfk x.lo) (zfk x.hi);rw[zpl]at m1 l1;rw[zpl]at m2 l2;have hs:=zgk k;have n1:=zz (dv x.lo);have n2:=zz (dv x.hi);have hm:zc3 x=kf (zfk x.lo) (zfk x.hi):=rfl;rw[hm];have hmag:zk a<=dv (kf (zfk x.lo) (zfk x.hi)):=by
  have e1: -(dv x.lo)<=zk (dv x.lo):=by unfold zk;split<;>grind
  have e2:dv x.hi<=zk (dv x.hi):=by unfold zk;split<;>grind
  unfold zk at*;grind
 unfold migD;by_cases h0:zqj x=0
 .rw[Z4 h0,xq];exact⟨q1,zz a,hmag⟩
 .rw[Z5 h0];refine⟨?_,?_,hmag⟩
  .rcases l3 with e|e<;>rw[e,zpl]
   .exact n1
   .exact n2
  .rcases hs.1 h0 with c|c
   .have e1:zk (dv x.lo)=dv x.lo:=by unfold zk;rw[Z5 (by grind)]
    have e2:zk a=a:=by unfold zk;rw[Z5 (by grind)]
    rw[e1]at l1;rw[e2];exact q0 l1 h1
   .have e1:zk (dv x.hi)= -(dv x.hi):=by unfold zk;rw[Z4 c]
    have e2:zk a= -a:=by unfold zk;rw[Z4 (by grind)]
    rw[e1]at l2;rw[e2];grind
def rpw (q:Rat):Nat->Rat
 |0=>1
 |n+1=>rpw q n*q
theorem zb4 {a b c d:Rat} (h0:0<=a) (h1:a<=b) (h2:0<=c) (h3:c<=d):a*c<=b*d:=by
 have e1:a*c<=b*c:=qx h1 h2;have e2:c*b<=d*b:=qx h3 (by grind);rw[q7 c,q7 d]at e2;exact q0 e1 e2
theorem ji (n:Int):dv (ux n)=(n:Rat):=by
 unfold ux;rw[zbe];have hv:vN n.natAbs 0=((n.natAbs:Nat):Rat):=by
  unfold vN;have:pw 0=1:=by have:=qv 0;simpa using this
  rw[this,Rat.mul_one]
 rw[hv];by_cases h:n<0
 .rw[Z6 h,Z4 rfl];have e:n= -(n.natAbs:Int):=by omega
  conv=>rhs;rw[e]
  rw[qM,q9]
 .rw[Z7 h,Z5 (by decide)];have e:n=(n.natAbs:Int):=by omega
  conv=>rhs;rw[e]
  rw[q9]
