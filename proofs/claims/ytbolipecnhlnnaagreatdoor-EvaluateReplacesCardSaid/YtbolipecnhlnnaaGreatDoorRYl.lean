/-
  Rounding as a law of rational numbers: the greatest number of p bits below a number, the least one above it.
-/
import Derived.Test.YtbolipecnhlnnaaGreatDoorRYu
import Derived.Test.YtbolipecnhlnnaaGreatDoorRYz
set_option linter.unusedVariables false
set_option linter.unusedSimpArgs false
open Bool renaming false_eq_true->q7,and_false->qF,and_self->qR
open Nat renaming two_pow_pos->q4,pow_le_pow_right->qd,lt_of_lt_of_le->qE,pow_add->qG,le_div_iff_mul_le->qI,pos_of_ne_zero->qK,le_of_lt->qM,div_add_mod'->qN,mul_ne_zero->qP,succ_mul->qT,not_le->qV,mod_lt->qW,not_lt->qX
open Rat renaming le_trans->q2,le_refl->q3,not_le->q5,le_of_lt->q6,intCast_lt_intCast->q9,mul_comm->qn,intCast_natCast->qA,mul_lt_mul_of_pos_right->qB,not_lt->qC,mul_nonneg->qD,lt_irrefl->qH,neg_neg->qJ,mul_inv_cancel->qL,one_mul->qO,intCast_neg->qQ,zero_mul->qS,inv_pos->qU
namespace Go.Proofs.YtbolipecnhlnnaaGreatDoor
open Go Go.Sx
set_option maxHeartbeats 2000000
def pw (e:Int):Rat:=(2:Rat)^e
theorem pwA (a b:Int):pw (a+b)=pw a*pw b:=Rat.zpow_add (by decide) a b
theorem zcs (e:Int):0<pw e:=Rat.zpow_pos (by decide)
theorem zbf (k:Nat):pw (k:Int)=((2^k:Nat):Rat):=by
 unfold pw;rw[Rat.zpow_natCast,Rat.natCast_pow];rfl
theorem ztr {a b:Nat}:(a:Rat)<=(b:Rat)<->a<=b:=Rat.natCast_le_natCast
theorem zow (a b:Nat):((a*b:Nat):Rat)=a*b:=Rat.natCast_mul a b
theorem zxc (a b:Nat):((a+b:Nat):Rat)=a+b:=Rat.natCast_add a b
theorem ztq (a:Nat):(0:Rat)<=a:=Rat.natCast_nonneg
theorem zy2 {a b c:Rat} (h1:a<b) (h2:b<=c):a<c:=by grind
theorem qv {a b c:Rat} (h:a<=b) (hc:0<=c):a*c<=b*c:=Rat.mul_le_mul_of_nonneg_right h hc
theorem zc7 {a b c:Rat} (h:a*c<=b*c) (hc:0<c):a<=b:=Rat.le_of_mul_le_mul_right h hc
def vN (n:Nat) (e:Int):Rat:=(n:Rat)*pw e
theorem xz {a b:Nat} {e:Int}:vN a e<=vN b e<->a<=b:=by
 unfold vN;constructor
 ·intro h;exact ztr.1 (zc7 h (zcs e))
 ·intro h;exact qv (ztr.2 h) (q6 (zcs e))
theorem zmk {a b:Nat} {e:Int}:vN a e<vN b e<->a<b:=by
 have h1:=xz (a:=b) (b:=a) (e:=e);constructor
 ·intro h;exact qV.1 fun c=>qC.2 (h1.2 c) h
 ·intro h;exact q5.1 fun c=>by have:=h1.1 c;omega
theorem zdj (n k:Nat) (e:Int):vN (n*2^k) e=vN n (e+k):=by
 unfold vN;rw[pwA,zbf,zow,Rat.mul_assoc,qn (pw e)]
theorem zaa (n:Nat) (e u:Int) (h:u<=e):vN n e=vN (n*2^(e-u).toNat) u:=by
 rw[zdj];congr 1;omega
theorem zcy (n:Nat) (e:Int):0<=vN n e:=qD (ztq n) (q6 (zcs e))
theorem ud (e:Int):vN 0 e=0:=by unfold vN;rw[show((0:Nat):Rat)=0 from rfl,qS]
theorem zn5 (e:Int):vN 1 e=pw e:=by unfold vN;rw[show((1:Nat):Rat)=1 from rfl,qO]
theorem zex (k:Nat) (e:Int):vN (2^k) e=pw (e+k):=by
 have:=zdj 1 k e;rw[Nat.one_mul]at this;rw[this,zn5]
theorem zei {a b:Int}:pw a<=pw b<->a<=b:=by
 have key: ∀ {a b:Int},a<=b->pw a<=pw b:=fun {a b} h=>by
  rw[←zn5 a,←zn5 b,zaa 1 b a h,xz];have:=q4 (b-a).toNat;omega
 constructor
 ·intro h;refine Int.not_lt.1 fun c=>?_
  have h1:pw (b+1)<=pw a:=key (by omega);have h2:pw (b+1)=pw b*2:=by rw[pwA];congr 1
  have h3:=zcs b;grind
 ·exact key
def dv (d:Dy):Rat:=if d.neg=true then-(vN (nm d) d.e)else vN (nm d) d.e
theorem zl3 (neg:Bool) (n:Nat) (e:Int):dv (cnN neg n e)=if neg=true then-(vN n e)else vN n e:=by
 by_cases h:n=0
 ·subst h;have e1:cnN neg 0 e=d0:=by unfold cnN;rw[if_pos rfl]
  rw[e1,ud];unfold dv;rw[if_neg (by decide),qbr,ud];split<;>rfl
 ·obtain⟨m,hm,hm1,hm2,_⟩:=zg9 h;have hc:cnN neg n e=⟨neg,toL m,e+tz n⟩:=by unfold cnN;rw[if_neg h,hm2]
  have hv:vN n e=vN m (e+tz n):=by
   conv=>lhs;rw[hm]
   exact zdj m (tz n) e
  unfold dv;rw[hc,zy9,hv]
def inF (p:Nat) (z:Rat):Prop:= ∃(k:Nat) (u:Int),z=vN k u/\k<=2^p/\ -16384<=u/\z<pw 16384
theorem zbb {n:Nat} {e t:Int} (h:(bl n:Int)+e<=t):vN n e<pw t:=by
 have h1:vN n e<vN (2^bl n) e:=zmk.2 (zc5 n);rw[zex]at h1;exact zy2 h1 (zei.2 (by omega))
theorem ue {n:Nat} {e t:Int} (h:t<(bl n:Int)+e) (hn:n≠0):pw t<=vN n e:=by
 have h0:bl n≠0:=fun c=>hn (xn.1 c)
 have h1:2^(bl n-1)<=n:=(zdc hn).1 (by omega);have h2:vN (2^(bl n-1)) e<=vN n e:=xz.2 h1;rw[zex]at h2;exact q2 (zei.2 (by omega)) h2
theorem zkm (m:Nat) (e p:Int):unN m e p=e+bl m-p\/(unN m e p= -16384/\e+bl m-p<= -16384):=by unfold unN;omega
theorem grid {p:Nat} {k:Nat} {u w:Int} (hk:k<=2^p):(w<=u/\ ∃j:Nat,vN k u=vN j w)\/(u<w/\vN k u<=pw (w+p-1)):=by
 by_cases h:w<=u
 ·exact .inl ⟨h,_,zaa k u w h⟩
 ·refine .inr ⟨by omega,?_⟩;have h1:vN k u<=vN (2^p) u:=xz.2 hk;rw[zex]at h1;exact q2 h1 (zei.2 (by omega))
theorem zg1 {m:Nat} {e:Int} {more:Bool} {u:Int} (h: ¬u<=e):vN (jg m e more u).1 u<=vN m e/\vN (m+1) e<=vN ((jg m e more u).1+1) u/\((jg m e more u).2=false->more=false/\vN (jg m e more u).1 u=vN m e)/\((jg m e more u).2=true->more=true\/ ¬vN m e<=vN (jg m e more u).1 u):=by
 unfold jg;rw[if_neg h];simp only;have hk:=q4 (u-e).toNat;have e1: ∀n,vN n u=vN (n*2^(u-e).toNat) e:=fun n=>zaa n u e (by omega)
 have h1:=qN m (2^(u-e).toNat);have h2:=qW m hk;rw[e1,e1,xz,xz,qT];refine⟨by omega,by omega,?_,?_⟩
 ·intro h3;simp only[Bool.or_eq_false_iff,decide_eq_false_iff_not,Decidable.not_not]at h3;refine⟨h3.1,?_⟩
  congr 1;omega
 ·intro h3;simp only[Bool.or_eq_true,decide_eq_true_eq]at h3;refine h3.imp id fun h4=>?_
  rw[xz];omega
theorem zx5 {L:Rat->Prop} (hL: ∀a b,a<=b->L b->L a) {m:Nat} {e:Int} {more:Bool} {p:Nat} (hp:8<=p/\p<=512) (h0:L (vN m e)) (h1: ∀z,L z->z<=vN (m+1) e) (h1': ¬L (vN (m+1) e)) (hx:more=false-> ∀z,L z->z<=vN m e) (hm:more=true->p<bl m) (he:m=0->e<=16384):
 (zbu m e more p false).2=0/\L (dv (zbu m e more p false).1)/\inF p (dv (zbu m e more p false).1)/\ ∀z,inF p z->L z->z<=dv (zbu m e more p false).1:=by
 have hub:=zrz m e p;have huc:=zkm m e p;have hfb:=zkb m e more p;have hup:upN (jg m e more (unN m e p)) false=(jg m e more (unN m e p)).1:=by unfold upN;simp
 have hlead:unN m e p=e+bl m-p->m≠0->pw (unN m e p+p-1)<=vN (jg m e more (unN m e p)).1 (unN m e p)/\pw (unN m e p+p-1)<=vN m e:=by
  intro h hm0;have hb0:bl m≠0:=fun c=>hm0 (xn.1 c)
  have h2:pw (unN m e p+p-1)<=vN m e:=ue (by omega) hm0;refine⟨?_,h2⟩;by_cases hu:unN m e p<=e
  ·have:vN (jg m e more (unN m e p)).1 (unN m e p)=vN m e:=by
    unfold jg;rw[if_pos hu];exact(zaa m e _ hu).symm
   rw[this];exact h2
  ·have h3:(jg m e more (unN m e p)).1=m/2^(unN m e p-e).toNat :=by unfold jg;rw[if_neg hu]
   have h4:2^(p-1)<=m/2^(unN m e p-e).toNat :=by
    rw[qI (q4 _),←qG];exact(zdc hm0).1 (by omega)
   rw[h3];have h5:vN (2^(p-1)) (unN m e p)<=vN (m/2^(unN m e p-e).toNat) (unN m e p):=xz.2 h4;rw[zex]at h5;refine q2 (zei.2 (by omega)) h5
 have hq1:L (vN (jg m e more (unN m e p)).1 (unN m e p)):=by
  by_cases hu:unN m e p<=e
  ·have:vN (jg m e more (unN m e p)).1 (unN m e p)=vN m e:=by
    unfold jg;rw[if_pos hu];exact(zaa m e _ hu).symm
   rw[this];exact h0
  ·exact hL _ _ (zg1 hu).1 h0
 have hq2: ∀j,L (vN j (unN m e p))->vN j (unN m e p)<=vN (jg m e more (unN m e p)).1 (unN m e p):=by
  intro j hj;by_cases hu:unN m e p<=e
  ·have hmf:more=false:=by
    cases hmo:more with
    |false=>rfl
    |true=>
     have:=hm hmo;rcases huc with h|h<;>omega
   have:vN (jg m e more (unN m e p)).1 (unN m e p)=vN m e:=by
    unfold jg;rw[if_pos hu];exact(zaa m e _ hu).symm
   rw[this];exact hx hmf _ hj
  ·rw[xz];refine qX.1 fun c=>?_
   have h3:vN ((jg m e more (unN m e p)).1+1) (unN m e p)<=vN j (unN m e p):=xz.2 c;exact h1' (hL _ _ (q2 (zg1 hu).2.1 h3) hj)
 unfold zbu;rw[hup];generalize (jg m e more (unN m e p)).1=q at*;generalize unN m e p=w at*;split
 ·rename_i hov;simp only[q7,if_false];have hq0:q≠0:=fun c=>by
   rw[c,kv]at hov;rcases huc with h|h
   ·by_cases hm0:m=0
    ·have:=he hm0;rw[hm0,kv]at h;omega
    ·have h3:=(hlead h hm0).1;rw[c,ud]at h3;exact q5.2 (zcs _) h3
   ·omega
  have hbig:pw 16384<=vN q w:=ue (by omega) hq0;rw[zl3,if_neg (by decide)];have hp2:=q4 p;have hlt:vN (2^p-1) (16384-p)<pw 16384:=by
   have:vN (2^p-1) (16384-p)<vN (2^p) (16384-p):=zmk.2 (by omega);rw[zex]at this;have e2:(16384-(p:Int)+p)=16384:=by omega
   rwa [e2]at this
  refine⟨trivial,hL _ _ (q2 (q6 hlt) hbig) hq1,⟨2^p-1,16384-p,rfl,by omega,by omega,hlt⟩,fun z hz _=>?_⟩;obtain⟨k,u,rfl,hk,hu,hz16⟩:=hz;rcases grid (w:=16384-p) hk (u:=u)with ⟨_,j,hj⟩|⟨_,hj⟩
  ·rw[hj]at hz16⊢;rw[xz];have e3:pw 16384=vN (2^p) (16384-p):=by rw[zex];congr 1;omega
   rw[e3,zmk]at hz16;omega
  ·refine q2 hj ?_;have e4:pw (16384-(p:Int)+p-1)=vN (2^(p-1)) (16384-p):=by rw[zex];congr 1;omega
   rw[e4,xz];have:2^p=2*2^(p-1):=by rw[Nat.mul_comm,←Nat.pow_succ];congr 1;omega
   have:=q4 (p-1);omega
 ·rename_i hov;simp only;rw[zl3,if_neg (by decide)];refine⟨trivial,hq1,⟨q,w,rfl,?_,hub,zbb (by omega)⟩,fun z hz hLz=>?_⟩
  ·exact qM (qE (zc5 q) (qd (by decide) hfb))
  ·obtain⟨k,u,rfl,hk,hu,_⟩:=hz;rcases grid (w:=w) hk (u:=u)with ⟨_,j,hj⟩|⟨hlt,hj⟩
   ·rw[hj]at hLz⊢;exact hq2 j hLz
   ·rcases huc with h|h
    ·by_cases hm0:m=0
     ·subst hm0;have hmf:more=false:=by
       cases hmo:more with
       |false=>rfl
       |true=>have:=hm hmo;rw[kv]at this;omega
      have h3:=hx hmf _ hLz;rw[ud]at h3;exact q2 h3 (zcy q w)
     ·exact q2 hj (hlead h hm0).1
    ·omega
theorem zjk {a b:Rat} (h1:a<=b) (h2:b<=a):a=b:=by grind
theorem qgz {U:Rat->Prop} (hU: ∀a b,a<=b->U a->U b) {m:Nat} {e:Int} {more:Bool} {p:Nat} (hp:8<=p/\p<=512) (h0:more=false->U (vN m e)) (h0':U (vN (m+1) e)) (h1: ∀z,U z->vN m e<=z) (h1':more=true-> ¬U (vN m e)) (hm:more=true->p<bl m) (he:m=0->e<=16384):
 ((zbu m e more p true).2=0->U (dv (zbu m e more p true).1)/\inF p (dv (zbu m e more p true).1))/\ ∀z,inF p z->U z->(zbu m e more p true).2=0/\dv (zbu m e more p true).1<=z:=by
 have hub:=zrz m e p;have huc:=zkm m e p;have hfb:=zkb m e more p;have hmf:unN m e p<=e->more=false:=fun hu=>by
  cases hmo:more with
  |false=>rfl
  |true=>
   have:=hm hmo;rcases huc with h|h<;>omega
 have hex:unN m e p<=e->vN (jg m e more (unN m e p)).1 (unN m e p)=vN m e/\(jg m e more (unN m e p)).2=false:=fun hu=>by
  have:=hmf hu;unfold jg;rw[if_pos hu];exact⟨(zaa m e _ hu).symm,this⟩
 have hA:U (vN (upN (jg m e more (unN m e p)) true) (unN m e p)):=by
  by_cases hu:unN m e p<=e
  ·obtain⟨e1,e2⟩:=hex hu;unfold upN;rw[e2];simp only[qF,q7,if_false];rw[e1];exact h0 (hmf hu)
  ·obtain⟨f1,f2,f3,f4⟩:=zg1 (m:=m) (more:=more) hu;unfold upN
   cases hF:(jg m e more (unN m e p)).2 with
   |false=>
    simp only[qF,q7,if_false];obtain⟨g1,g2⟩:=f3 hF;rw[g2];exact h0 g1
   |true=>
    simp only[qR,if_true];exact hU _ _ f2 h0'
 have hB: ∀j,U (vN j (unN m e p))->upN (jg m e more (unN m e p)) true<=j:=by
  intro j hj;have hle:=h1 _ hj;by_cases hu:unN m e p<=e
  ·obtain⟨e1,e2⟩:=hex hu;unfold upN;rw[e2];simp only[qF,q7,if_false];rw[←e1,xz]at hle;exact hle
  ·obtain⟨f1,f2,f3,f4⟩:=zg1 (m:=m) (more:=more) hu;unfold upN
   cases hF:(jg m e more (unN m e p)).2 with
   |false=>
    simp only[qF,q7,if_false];obtain⟨g1,g2⟩:=f3 hF;rw[←g2,xz]at hle;exact hle
   |true=>
    simp only[qR,if_true];refine qV.1 fun c=>?_
    have h3:vN j (unN m e p)<=vN (jg m e more (unN m e p)).1 (unN m e p):=xz.2 c;rcases f4 hF with h|h
    ·refine h1' h ?_;rw[zjk hle (q2 h3 f1)];exact hj
    ·exact h (q2 hle h3)
 have hq0:m=0->upN (jg m e more (unN m e p)) true=0:=fun h=>by
  have hmo:more=false:=by
   cases hmo:more with
   |false=>rfl
   |true=>have:=hm hmo;rw[h,kv]at this;omega
  subst h hmo;unfold jg upN;split<;>simp
 have hle:upN (jg m e more (unN m e p)) true<=2^p:=by
  have h3:(jg m e more (unN m e p)).1<2^p:=qE (zc5 _) (qd (by decide) hfb);unfold upN;split<;>omega
 have hlead: ∀z,U z->z<=pw (unN m e p+p-1)->unN m e p=e+bl m-p->vN (upN (jg m e more (unN m e p)) true) (unN m e p)<=z:=by
  intro z hz hz2 h;by_cases hm0:m=0
  ·rw[hq0 hm0,ud];exact q2 (zcy m e) (h1 z hz)
  ·have hb0:bl m≠0:=fun c=>hm0 (xn.1 c)
   have h2:pw (unN m e p+p-1)<=vN m e:=ue (by omega) hm0;have h3:z=vN (2^(p-1)) (unN m e p):=by
    rw[zex];have:unN m e p+((p-1:Nat):Int)=unN m e p+p-1:=by omega
    rw[this];exact zjk hz2 (q2 h2 (h1 z hz))
   rw[h3]at hz⊢;exact xz.2 (hB _ hz)
 have hall: ∀z,inF p z->U z->vN (upN (jg m e more (unN m e p)) true) (unN m e p)<=z:=by
  intro z hz hUz;obtain⟨k,u,rfl,hk,hu,_⟩:=hz;rcases grid (w:=unN m e p) hk (u:=u)with ⟨_,j,hj⟩|⟨hlt,hj⟩
  ·rw[hj]at hUz⊢;exact xz.2 (hB j hUz)
  ·rcases huc with h|h
   ·exact hlead _ hUz hj h
   ·omega
 unfold zbu;generalize upN (jg m e more (unN m e p)) true=q at*;generalize unN m e p=w at*;by_cases hov:16384<(bl q:Int)+w
 ·rw[if_pos hov];simp only[if_true];refine⟨fun h=>absurd h (by decide),fun z hz hUz=>?_⟩;have hqn:q≠0:=fun c=>by
   rw[c,kv]at hov;rcases huc with h|h
   ·by_cases hm0:m=0
    ·have:=he hm0;rw[hm0,kv]at h;omega
    ·have hb0:bl m≠0:=fun c=>hm0 (xn.1 c)
     rw[c,ud]at hA;have h3:=h1 _ hA;have h4:pw (w+p-1)<=vN m e:=ue (by omega) hm0;exact q5.2 (zcs _) (q2 h4 h3)
   ·omega
  have h3:=hall z hz hUz;have h4:pw 16384<=vN q w:=ue (by omega) hqn;obtain⟨_,_,_,_,_,h5⟩:=hz;exact absurd (q2 h4 h3) (q5.2 h5)
 ·rw[if_neg hov];simp only;rw[zl3,if_neg (by decide)];exact⟨fun _=>⟨hA,q,w,rfl,hle,hub,zbb (by omega)⟩,fun z hz hUz=>⟨trivial,hall z hz hUz⟩⟩
def Fp (p:Nat) (z:Rat):Prop:=inF p z\/inF p (-z)
def RD (p:Nat) (L:Rat->Prop) (r:Dy×Int):Prop:=(r.2=0->L (dv r.1)/\Fp p (dv r.1))/\ ∀z,Fp p z->L z->r.2=0/\z<=dv r.1
def RU (p:Nat) (U:Rat->Prop) (r:Dy×Int):Prop:=(r.2=0->U (dv r.1)/\Fp p (dv r.1))/\ ∀z,Fp p z->U z->r.2=0/\dv r.1<=z
theorem za3 {d:Dy}:dv (yw d)= -dv d:=by
 unfold yw dv;by_cases h:nm d=0
 ·rw[if_pos h,if_neg (by decide),qbr,h,ud,ud];split<;>rfl
 ·rw[if_neg h];have h2:nm ⟨!d.neg,d.m,d.e⟩=nm d:=rfl;rw[h2];cases d.neg<;>simp
theorem zkf:dv d0=0:=by
 unfold dv;rw[if_neg (by decide),qbr,ud]
theorem zca (p:Nat):inF p 0:=⟨0,0,(ud 0).symm,Nat.zero_le _,by decide,zcs _⟩
theorem zij {p:Nat} {z:Rat} (h:inF p z):0<=z:=by
 obtain⟨k,u,rfl,_⟩:=h;exact zcy k u
theorem zon {L U:Rat->Prop} {m:Nat} {e:Int} {more:Bool} {p:Nat} (hp:8<=p/\p<=512) (neg:Bool)
 (hL: ∀a b,a<=b->L b->L a) (hU: ∀a b,a<=b->U a->U b) (l0:L (vN m e)) (l1: ∀z,L z->z<=vN (m+1) e) (l1': ¬L (vN (m+1) e)) (lx:more=false-> ∀z,L z->z<=vN m e)
 (u0:more=false->U (vN m e)) (u0':U (vN (m+1) e)) (u1: ∀z,U z->vN m e<=z) (u1':more=true-> ¬U (vN m e)) (hm:more=true->p<bl m) (he:m=0->e<=16384):
 RD p (fun z=>if neg=true then U (-z)else L z) (zay neg m e more p false)/\RU p (fun z=>if neg=true then L (-z)else U z) (zay neg m e more p true):=by
 have hL0:L 0:=hL _ _ (zcy m e) l0;obtain⟨d1,d2,d3,d4⟩:=zx5 hL hp l0 l1 l1' lx hm he;obtain⟨c1,c2⟩:=qgz hU hp u0 u0' u1 u1' hm he;have hUn: ∀z,U z->0<=z:=fun z hz=>q2 (zcy m e) (u1 z hz)
 have hr0:0<=dv (zbu m e more p false).1:=zij d3
 cases neg with
 |false=>
  have e1:zay false m e more p false=zbu m e more p false:=by unfold zay;rw[if_neg (by simp)];rfl
  have e2:zay false m e more p true=zbu m e more p true:=by unfold zay;rw[if_neg (by simp)];rfl
  rw[e1,e2];refine⟨⟨fun _=>⟨by simpa using d2,.inl d3⟩,fun z hz hz2=>⟨d1,?_⟩⟩,⟨fun h=>?_,fun z hz hz2=>?_⟩⟩
  ·rcases hz with hz|hz
   ·exact d4 z hz (by simpa using hz2)
   ·have:=zij hz;grind
  ·obtain⟨h1,h2⟩:=c1 h;exact⟨by simpa using h1,.inl h2⟩
  ·have hz3:U z:=by simpa using hz2
   rcases hz with hz|hz
   ·exact c2 z hz hz3
   ·have h3:=zij hz;have h4:=hUn z hz3;have h5:z=0:=by grind
    subst h5;exact c2 0 (zca p) hz3
 |true=>
  have e1:zay true m e more p false=if(zbu m e more p true).2=0 then(yw (zbu m e more p true).1,0)else zbu m e more p true:=by
   unfold zay;simp only[and_true];rfl
  have e2:zay true m e more p true=(yw (zbu m e more p false).1,0):=by
   unfold zay;simp only[and_true];rw[if_pos (by exact d1)];rfl
  rw[e1,e2];refine⟨⟨fun h=>?_,fun z hz hz2=>?_⟩,⟨fun _=>?_,fun z hz hz2=>⟨rfl,?_⟩⟩⟩
  ·by_cases hc:(zbu m e more p true).2=0
   ·rw[if_pos hc];obtain⟨h1,h2⟩:=c1 hc;simp only[za3,if_true];refine⟨?_,.inr ?_⟩
    ·rw[qJ];exact h1
    ·rw[qJ];exact h2
   ·rw[if_neg hc]at h;exact absurd h hc
  ·have hz3:U (-z):=by simpa using hz2
   have hz4:inF p (-z):=by
    rcases hz with hz|hz
    ·have h3:=zij hz;have h4:=hUn _ hz3;have h5:z=0:=by grind
     subst h5;have:(-0:Rat)=0:=by grind
     rw[this];exact zca p
    ·exact hz
   obtain⟨h1,h2⟩:=c2 _ hz4 hz3;rw[if_pos h1];refine⟨rfl,?_⟩;simp only[za3];grind
  ·simp only[za3,if_true];refine⟨?_,.inr ?_⟩
   ·rw[qJ];exact d2
   ·rw[qJ];exact d3
  ·have hz3:L (-z):=by simpa using hz2
   simp only[za3];rcases hz with hz|hz
   ·have:=zij hz;grind
   ·have:=d4 _ hz hz3;grind
theorem RD.congr {p:Nat} {L L':Rat->Prop} {r:Dy×Int} (h:RD p L r) (hl: ∀z,L z<->L' z):RD p L' r:=
 ⟨fun e=>⟨(hl _).1 (h.1 e).1,(h.1 e).2⟩,fun z hz hz2=>h.2 z hz ((hl z).2 hz2)⟩
theorem RU.congr {p:Nat} {U U':Rat->Prop} {r:Dy×Int} (h:RU p U r) (hl: ∀z,U z<->U' z):RU p U' r:=
 ⟨fun e=>⟨(hl _).1 (h.1 e).1,(h.1 e).2⟩,fun z hz hz2=>h.2 z hz ((hl z).2 hz2)⟩
def RT (p:Nat) (y:Rat) (F:Bool->Dy×Int):Prop:=RD p (fun z=>z<=y) (F false)/\RU p (fun z=>y<=z) (F true)
theorem zfp {x:Rat} {m:Nat} {e:Int} {more:Bool} {p:Nat} (hp:8<=p/\p<=512) (neg:Bool) (h1:vN m e<=x) (h2:x<vN (m+1) e) (h3:more=false->x=vN m e) (h4:more=true->vN m e<x) (hm:more=true->p<bl m) (he:m=0->e<=16384):
 RT p (if neg=true then-x else x) (fun up=>zay neg m e more p up):=by
 obtain⟨a,b⟩:=zon (L:=fun z=>z<=x) (U:=fun z=>x<=z) hp neg (fun a b h1 h2=>q2 h1 h2) (fun a b h1 h2=>q2 h2 h1) h1 (fun z hz=>q2 hz (q6 h2)) (q5.2 h2)
  (fun h z hz=>by rw[←h3 h];exact hz) (fun h=>by rw[h3 h];exact q3) (q6 h2) (fun z hz=>q2 h1 hz) (fun h=>q5.2 (h4 h)) hm he
 refine⟨a.congr fun z=>?_,b.congr fun z=>?_⟩
 ·cases neg with
  |true=>simp only[if_true];constructor<;>intro h<;>grind
  |false=>simp
 ·cases neg with
  |true=>simp only[if_true];constructor<;>intro h<;>grind
  |false=>simp
theorem zee (m:Nat) (e:Int):vN m e<vN (m+1) e:=zmk.2 (Nat.lt_succ_self m)
theorem zdo {m:Nat} {e:Int} {p:Nat} (hp:8<=p/\p<=512) (neg:Bool) (he:m=0->e<=16384):
 RT p (if neg=true then-(vN m e)else vN m e) (fun up=>zay neg m e false p up):=
 zfp hp neg q3 (zee m e) (fun _=>rfl) (fun h=>by cases h) (fun h=>by cases h) he
theorem jm {d:Dy} (hd:VD d) {p:Nat} (hp:8<=p/\p<=512):RT p (dv d) (fun up=>qo d p up):=by
 have:=zdo (m:=nm d) (e:=d.e) hp d.neg (fun _=>hd.exp.2.1);exact this
theorem zrv (a b:Nat) (e f:Int):vN a e*vN b f=vN (a*b) (e+f):=by
 unfold vN;rw[pwA,zow];grind
theorem qgw {a b:Dy}:dv a*dv b=if(a.neg != b.neg)=true then-(vN (nm a*nm b) (a.e+b.e))else vN (nm a*nm b) (a.e+b.e):=by
 rw[←zrv];unfold dv;cases a.neg<;>cases b.neg<;>simp<;>grind
theorem zrt {d:Dy} (h:VD d) (h0:nm d=0):d.e=0:=by
 rcases h.ok with ⟨_,_,h3⟩|⟨h3,_⟩
 ·exact h3
 ·omega
theorem za0 {a b:Dy} (ha:VD a) (hb:VD b) {p:Nat} (hp:8<=p/\p<=512):RT p (dv a*dv b) (fun up=>jv a b p up):=by
 rw[qgw];refine zdo hp _ fun h=>?_
 have a2:=ha.exp;have b2:=hb.exp;rcases Nat.mul_eq_zero.1 h with h|h
 ·have:=zrt ha h;omega
 ·have:=zrt hb h;omega
theorem zyu {n:Nat} (e:Int) (h:n≠0):0<vN n e:=by
 rw[←ud e,zmk];omega
theorem zzt {a b c:Rat} (hb:0<b):c<=a/b<->c*b<=a:=by
 have e:a/b*b=a:=by grind
 constructor
 ·intro h;have:=qv h (q6 hb)
  rwa [e]at this
 ·intro h;exact zc7 (by rw[e];exact h) hb
theorem qgx {a b c:Rat} (hb:0<b):a/b<c<->a<c*b:=by
 have:=zzt (a:=a) (c:=c) hb;constructor
 ·intro h;exact q5.1 fun x=>q5.2 h (this.2 x)
 ·intro h;exact q5.1 fun x=>q5.2 h (this.1 x)
theorem zpr {x y p:Nat} (hx:x≠0) (hy:y≠0):p<bl (x*2^(p+3+bl y-bl x)/y):=by
 have hk:=ql x (p+3+bl y-bl x) hx;generalize x*2^(p+3+bl y-bl x)=X at*;have hX:X≠0:=fun c=>by rw[c,kv]at hk;have:bl x≠0:=fun c=>hx (xn.1 c);omega
 have h1:2^(p+2+bl y)<=X:=(zdc hX).1 (by omega);have h2:2^(p+2)<=X/y:=by
  rw[qI (qK hy)];rw[qG]at h1;exact Nat.le_trans (Nat.mul_le_mul_left _ (qM (zc5 y))) h1
 have h3:X/y≠0:=by have:=q4 (p+2);omega
 have:=(zdc h3).2 h2;omega
theorem zl9 {a b:Dy} (ha:VD a) (hb':VD b) (hb0:nm b≠0) {p:Nat} (hp:8<=p/\p<=512):RT p (dv a/dv b) (fun up=>kq a b p up):=by
 have hb:0<vN (nm b) b.e:=zyu _ hb0;have hv:dv a/dv b=if(a.neg != b.neg)=true then-(vN (nm a) a.e/vN (nm b) b.e)else vN (nm a) a.e/vN (nm b) b.e:=by
  unfold dv;cases a.neg<;>cases b.neg<;>simp<;>grind
 have hD:(fun up=>kq a b p up)=fun up=>zay (a.neg != b.neg) (nm a*2^zaf a b p/nm b) (a.e-zaf a b p-b.e) (decide (nm a*2^zaf a b p % nm b≠0)) p up:=by
  funext up;unfold kq;rw[if_neg hb0]
 rw[hv,hD];have hx:vN (nm a) a.e=vN (nm a*2^zaf a b p) (a.e-zaf a b p):=by rw[zdj];congr 1;omega
 have hq: ∀q,vN q (a.e-zaf a b p-b.e)*vN (nm b) b.e=vN (q*nm b) (a.e-zaf a b p):=fun q=>by rw[zrv];congr 1;omega
 have hdm:=qN (nm a*2^zaf a b p) (nm b);have hml:=qW (nm a*2^zaf a b p) (qK hb0);refine zfp hp _ ?_ ?_ ?_ ?_ ?_ ?_
 ·rw[zzt hb,hq,hx,xz];omega
 ·rw[qgx hb,hq,hx,zmk,qT];omega
 ·intro h;have h:nm a*2^zaf a b p % nm b=0:=by simpa using h
  have e1:vN (nm a*2^zaf a b p/nm b) (a.e-zaf a b p-b.e)*vN (nm b) b.e=vN (nm a) a.e:=by
   rw[hq,hx];congr 1;omega
  rw[←e1];have:vN (nm b) b.e≠0:=fun c=>by rw[c]at hb;grind
  grind
 ·intro h;have h:nm a*2^zaf a b p % nm b≠0:=by simpa using h
  refine q5.1 fun c=>?_
  have h2:=qv c (q6 hb);have e1:vN (nm a) a.e/vN (nm b) b.e*vN (nm b) b.e=vN (nm a) a.e:=by
   have:vN (nm b) b.e≠0:=fun c=>by rw[c]at hb;grind
   grind
  rw[e1,hq,hx,xz]at h2;omega
 ·intro h;have h:nm a*2^zaf a b p % nm b≠0:=by simpa using h
  have ha0:nm a≠0:=fun c=>by rw[c,Nat.zero_mul,Nat.zero_mod]at h;exact h rfl
  exact zpr ha0 hb0
 ·intro h;by_cases ha0:nm a=0
  ·have h1:=zrt ha ha0;have h2:=hb'.exp;omega
  ·have:=zpr (p:=p) ha0 hb0;have h2:nm a*2^zaf a b p/nm b=nm a*2^(p+3+bl (nm b)-bl (nm a))/nm b:=rfl;rw[←h2,h,kv]at this;omega
def sqL (v z:Rat):Prop:=z<=0\/z*z<=v
def sqU (v z:Rat):Prop:=0<=z/\v<=z*z
theorem zi8 {a b:Rat} (h0:0<=a) (h:a<=b):a*a<=b*b:=by
 have h1:a*a<=b*a:=qv h h0;have h2:a*b<=b*b:=qv h (by grind);grind
theorem zoe {a b:Rat} (h0:0<=b) (h:a*a<=b*b):a<=b:=by
 refine qC.1 fun c=>?_
 have h1:b*b<=b*a:=by
  have:=qv (q6 c) h0;grind
 have h2:b*a<a*a:=by
  have:=qB c (show 0<a by grind);exact this
 grind
theorem zkp {d:Dy} (hn:d.neg=false) {p:Nat} (hp:8<=p/\p<=512) (h0:nm d≠0):RD p (sqL (dv d)) (uj d p false)/\RU p (sqU (dv d)) (uj d p true):=by
 have hdv:dv d=vN (nm d) d.e:=by unfold dv;rw[hn,if_neg (by decide)]
 have hpar:(d.e-sqK d p) % 2=0:=by unfold sqK;split<;>omega
 have hD: ∀up,uj d p up=zay false (sqN (nm d*2^sqK d p)) ((d.e-sqK d p)/2) (decide (sqN (nm d*2^sqK d p)*sqN (nm d*2^sqK d p)≠nm d*2^sqK d p)) p up:=fun up=>by
  unfold uj zay;rw[if_neg h0,if_neg (by simp)];cases up<;>rfl
 have hx:dv d=vN (nm d*2^sqK d p) (d.e-sqK d p):=by rw[hdv,zdj];congr 1;omega
 have hs: ∀q,vN q ((d.e-sqK d p)/2)*vN q ((d.e-sqK d p)/2)=vN (q*q) (d.e-sqK d p):=fun q=>by rw[zrv];congr 1;omega
 obtain⟨s1,s2⟩:=zi9 (nm d*2^sqK d p);have hM:2^(2*p+3)<=nm d*2^sqK d p:=by
  have hk:=ql (nm d) (sqK d p) h0;have hne:nm d*2^sqK d p≠0:=qP h0 (by have:=q4 (sqK d p);omega);refine(zdc hne).1 ?_;have:2*p+4-bl (nm d)<=sqK d p:=by unfold sqK;split<;>omega
  omega
 have hbits:p<bl (sqN (nm d*2^sqK d p)):=by
  have h1:2^(p+1)<=sqN (nm d*2^sqK d p):=by
   refine qX.1 fun c=>?_
   have h2:(sqN (nm d*2^sqK d p)+1)*(sqN (nm d*2^sqK d p)+1)<=2^(p+1)*2^(p+1):=Nat.mul_le_mul c c;rw[←qG]at h2;have h3:2^(p+1+(p+1))<=2^(2*p+3):=qd (by decide) (by omega);omega
  have hne:sqN (nm d*2^sqK d p)≠0:=by have:=q4 (p+1);omega
  have:=(zdc hne).2 h1;omega
 rw[hD,hD,hx];generalize nm d*2^sqK d p=M at*;generalize sqN M=s at*;generalize (d.e-(sqK d p:Int))/2=e at*;generalize d.e-(sqK d p:Int)=f at*;have hv0:0<=vN M f:=zcy M f;have l0:vN s e*vN s e<=vN M f:=by rw[hs,xz];exact s1
 have l1:vN M f<vN (s+1) e*vN (s+1) e:=by rw[hs,zmk];exact s2
 obtain⟨a,b⟩:=zon (L:=sqL (vN M f)) (U:=sqU (vN M f)) (m:=s) (e:=e) (more:=decide (s*s≠M)) hp false
  (fun a b h1 h2=>by
    rcases h2 with h2|h2
    ·exact .inl (q2 h1 h2)
    ·by_cases ha:a<=0
     ·exact .inl ha
     ·exact .inr (q2 (zi8 (q6 (q5.1 ha)) h1) h2))
  (fun a b h1 h2=>⟨q2 h2.1 h1,q2 h2.2 (zi8 h2.1 h1)⟩)
  (.inr l0)
  (fun z hz=>by
    rcases hz with hz|hz
    ·exact q2 hz (zcy _ _)
    ·exact zoe (zcy _ _) (q2 hz (q6 l1)))
  (fun h=>by
    rcases h with h|h
    ·exact q5.2 (zyu e (Nat.succ_ne_zero s)) h
    ·exact q5.2 l1 h)
  (fun h z hz=>by
    have h:s*s=M:=by simpa using h
    rcases hz with hz|hz
    ·exact q2 hz (zcy _ _)
    ·refine zoe (zcy _ _) ?_;rw[hs,h];exact hz)
  (fun h=>by
    have h:s*s=M:=by simpa using h
    exact⟨zcy _ _,by rw[hs,h];exact q3⟩)
  ⟨zcy _ _,q6 l1⟩
  (fun z hz=>zoe hz.1 (q2 l0 hz.2))
  (fun h hU=>by
    have h:s*s≠M:=by simpa using h
    have h2:=hU.2;rw[hs,xz]at h2;omega)
  (fun _=>hbits)
  (fun h=>by rw[h,kv]at hbits;omega)
 exact⟨a.congr fun z=>by simp,b.congr fun z=>by simp⟩
theorem qcm (d:Dy) (t:Int) (h:t<=d.e):dv d=(zi d t:Rat)*pw t:=by
 have e:vN (nm d) d.e=((nm d*2^(d.e-t).toNat :Nat):Rat)*pw t:=by rw[zaa _ _ t h];rfl
 unfold dv zi;rw[e]
 cases d.neg with
 |true=>
  simp only[if_true,qQ,qA];rw[Rat.neg_mul]
 |false=>
  simp only[q7,if_false,qA]
theorem zk4 (x y:Int):(zth x y<0<->x<y)/\(0<zth x y<->y<x)/\(zth x y=0<->x=y):=by
 unfold zth;split
 ·omega
 ·split<;>omega
theorem zai {x y t:Rat} (ht:0<t):x*t<y*t<->x<y:=by
 constructor
 ·intro h;exact q5.1 fun c=>q5.2 h (qv c (q6 ht))
 ·intro h;exact qB h ht
theorem zha (a b:Dy):(qt a b<0<->dv a<dv b)/\(0<qt a b<->dv b<dv a)/\(qt a b=0<->dv a=dv b):=by
 have ha:=qcm a (min a.e b.e) (by omega);have hb:=qcm b (min a.e b.e) (by omega);have hp:=zcs (min a.e b.e);obtain⟨h1,h2,h3⟩:=zk4 (zi a (min a.e b.e)) (zi b (min a.e b.e));rw[ha,hb];unfold qt;rw[h1,h2,h3,zai hp,zai hp,q9,q9];refine⟨Iff.rfl,Iff.rfl,⟨fun h=>by rw[h],fun h=>?_⟩⟩;have h4: ¬((zi a (min a.e b.e):Rat)<zi b (min a.e b.e)):=fun c=>by have:=(zai hp).2 c;rw[h]at this;exact qH this
 have h5: ¬((zi b (min a.e b.e):Rat)<zi a (min a.e b.e)):=fun c=>by have:=(zai hp).2 c;rw[h]at this;exact qH this
 rw[q9]at h4 h5;omega
theorem xm {a b:Dy}:qt a b<=0<->dv a<=dv b:=by
 have h:=(zha a b).2.1;constructor
 ·intro h1;exact qC.1 fun c=>by have:=h.2 c;omega
 ·intro h1;exact Int.not_lt.1 fun c=>qC.2 h1 (h.1 c)
theorem zpx {a b:Dy}:0<=qt a b<->dv b<=dv a:=by
 have h:=(zha a b).1;constructor
 ·intro h1;exact qC.1 fun c=>by have:=h.2 c;omega
 ·intro h1;exact Int.not_lt.1 fun c=>qC.2 h1 (h.1 c)
theorem uf (d:Dy):(wl d<0<->dv d<0)/\(0<wl d<->0<dv d)/\(wl d=0<->dv d=0):=by
 have ha:=qcm d d.e (Int.le_refl _);have hp:=zcs d.e;obtain⟨h1,h2,h3⟩:=zk4 (zi d d.e) 0;rw[znz d d.e,h1,h2,h3,ha];have e0:(0:Rat)=((0:Int):Rat)*pw d.e:=by rw[show((0:Int):Rat)=0 from rfl,qS]
 have g1:(zi d d.e:Rat)*pw d.e<0<->zi d d.e<0:=by
  conv=>lhs;rhs;rw[e0]
  rw[zai hp,q9]
 have g2:0<(zi d d.e:Rat)*pw d.e<->0<zi d d.e:=by
  conv=>lhs;lhs;rw[e0]
  rw[zai hp,q9]
 refine⟨g1.symm,g2.symm,⟨fun h=>by rw[h];exact e0.symm,fun h=>?_⟩⟩;have k1: ¬zi d d.e<0:=fun c=>by have:=g1.2 c;rw[h]at this;exact qH this
 have k2: ¬0<zi d d.e:=fun c=>by have:=g2.2 c;rw[h]at this;exact qH this
 omega
theorem zrw (a b:Nat) (e:Int):vN a e+vN b e=vN (a+b) e:=by unfold vN;rw[zxc,Rat.add_mul]
theorem zn4 {a b:Nat} (h:b<=a) (e:Int):vN a e-vN b e=vN (a-b) e:=by
 have:=zrw (a-b) b e;rw[show a-b+b=a by omega]at this;grind
theorem zuk (n:Nat) (e w:Int):vN (jg n e false w).1 w<=vN n e/\vN n e<vN ((jg n e false w).1+1) w/\((jg n e false w).2=false->vN n e=vN (jg n e false w).1 w)/\((jg n e false w).2=true->vN (jg n e false w).1 w<vN n e/\e<w):=by
 by_cases h:w<=e
 ·have e1:jg n e false w=(n*2^(e-w).toNat,false):=by unfold jg;rw[if_pos h]
  have e2:=zaa n e w h;rw[e1];simp only;rw[←e2];refine⟨q3,?_,fun _=>rfl,fun c=>by cases c⟩;rw[e2];exact zee _ _
 ·obtain⟨h1,h2,h3,h4⟩:=zg1 (m:=n) (more:=false) h;refine⟨h1,zy2 (zee n e) h2,fun c=>(h3 c).2.symm,fun c=>⟨?_,by omega⟩⟩;rcases h4 c with h5|h5
  ·cases h5
  ·exact q5.1 h5
theorem zyy {c d:Dy} (hc:VD c) (hd:VD d) (c0:nm c≠0) (d0':nm d≠0) (hle:zg d<=zg c) {p:Nat} (hp:8<=p/\p<=512):RT p (dv c+dv d) (fun up=>qc8 c d p up):=by
 obtain⟨l1,l2,l3,l4⟩:=zna hc hd c0 hle d0' hp;have tc:zg c=bl (nm c)+c.e:=by unfold zg;rw[if_neg c0]
 have td:zg d=bl (nm d)+d.e:=by unfold zg;rw[if_neg d0']
 have hlow:d.e<jz c d p->jz c d p<=zg c-p-8/\2<zg c-zg d:=fun h=>by
  unfold jz at h⊢;by_cases h2:zg c-zg d<=2
  ·rw[if_pos h2]at h;omega
  ·rw[if_neg h2];omega
 obtain⟨f1,f2,f3,f4⟩:=zuk (nm d) d.e (jz c d p);have hXv:vN (nm c) c.e=vN (nm c*2^(c.e-jz c d p).toNat) (jz c d p):=zaa _ _ _ l1;have hXb:=ql (nm c) (c.e-jz c d p).toNat c0;have hFb:d.e<jz c d p->(jg (nm d) d.e false (jz c d p)).1<2^(zg d-jz c d p).toNat :=fun h=>by
  have e1:(jg (nm d) d.e false (jz c d p)).1=nm d/2^(jz c d p-d.e).toNat :=by unfold jg;rw[if_neg (by omega)]
  rw[e1,Nat.div_lt_iff_lt_mul (q4 _),←qG];exact qE (zc5 (nm d)) (qd (by decide) (by omega))
 have hxv: ∀y:Dy,dv y=if y.neg=true then-(vN (nm y) y.e)else vN (nm y) y.e:=fun y=>rfl
 have hXge:2^((zg c-jz c d p).toNat -1)<=nm c*2^(c.e-jz c d p).toNat :=by
  have hX0:nm c*2^(c.e-jz c d p).toNat ≠0:=qP c0 (by have:=q4 (c.e-jz c d p).toNat;omega);have hb0:bl (nm c)≠0:=fun x=>c0 (xn.1 x)
  exact(zdc hX0).1 (by omega)
 unfold qc8 zhq;rw[hxv c,hxv d,hXv];generalize nm c*2^(c.e-jz c d p).toNat =X at*;generalize hF:jg (nm d) d.e false (jz c d p)=F at*;generalize jz c d p=w at*;generalize vN (nm d) d.e=y at*;have hX0:X≠0:=by have:=q4 ((zg c-w).toNat -1);omega
 by_cases hs:c.neg=d.neg
 ·
  rw[if_pos hs];simp only;have hne: ¬(X+F.1=0/\F.2=false):=fun h=>hX0 (by omega)
  have hval:(if c.neg=true then-(vN X w)else vN X w)+(if d.neg=true then-y else y)=if(c.neg != false)=true then-(vN X w+y)else vN X w+y:=by
   rw[←hs];cases c.neg<;>simp<;>grind
  rw[hval];have hfun:(fun up=>if X+F.1=0/\F.2=false then(d0,(0:Int))else zay (c.neg != false) (X+F.1) w F.2 p up)=fun up=>zay (c.neg != false) (X+F.1) w F.2 p up:=by
   funext up;rw[if_neg hne]
  rw[hfun];have a1:=zrw X F.1 w;have a2:=zrw X (F.1+1) w;refine zfp hp _ ?_ ?_ ?_ ?_ ?_ ?_
  ·rw[←a1];grind
  ·rw[show X+F.1+1=X+(F.1+1) by omega,←a2];grind
  ·intro h;rw[←a1,f3 h]
  ·intro h;rw[←a1];have:=(f4 h).1;grind
  ·intro h;obtain⟨h1,h2⟩:=hlow (f4 h).2;have h3:bl X<=bl (X+F.1):=zu (by omega);omega
  ·intro h;omega
 ·
  rw[if_neg hs];have hval: ∀z:Rat,z=vN X w-y->(if c.neg=true then-(vN X w)else vN X w)+(if d.neg=true then-y else y)=if c.neg=true then-z else z:=fun z hz=>by
   subst hz;cases hc':c.neg<;>cases hd':d.neg<;>simp[hc',hd']at hs⊢ <;>grind
  have hU:F.2=true->upN F true=F.1+1/\F.1+1<=2^((zg c-w).toNat -3)/\2^((zg c-w).toNat -3)*4<=X/\p+8<=(zg c-w).toNat :=fun h=>by
   obtain⟨h1,h2⟩:=hlow (f4 h).2;have h3:=hFb (f4 h).2;refine⟨by unfold upN;rw[h];rfl,?_,?_,by omega⟩
   ·have h4:2^(zg d-w).toNat <=2^((zg c-w).toNat -3):=qd (by decide) (by omega);omega
   ·have h4:2^((zg c-w).toNat -1)=2^((zg c-w).toNat -3)*4:=by
     rw[show(zg c-w).toNat -1=((zg c-w).toNat -3)+2 by omega,qG]
    omega
  have hUf:F.2=false->upN F true=F.1:=fun h=>by unfold upN;rw[h];rfl
  by_cases hlt:X<upN F true
  ·rw[if_pos hlt];simp only;have hFf:F.2=false:=by
    cases hF2:F.2 with
    |false=>rfl
    |true=>obtain⟨u1,u2,u3,_⟩:=hU hF2;omega
   have hUe:=hUf hFf;rw[hUe]at hlt⊢;have hfun:(fun up=>if F.1-X=0/\True then(d0,(0:Int))else zay (c.neg != true) (F.1-X) w false p up)=fun up=>zay (c.neg != true) (F.1-X) w false p up:=by
    funext up;rw[if_neg fun h=>by omega]
   rw[hfun];have a1:=zn4 (qM hlt) w;have hv:(if c.neg=true then-(vN X w)else vN X w)+(if d.neg=true then-y else y)=if(c.neg != true)=true then-(vN (F.1-X) w)else vN (F.1-X) w:=by
    rw[hval (vN X w-y) rfl,←a1,f3 hFf];cases c.neg<;>simp<;>grind
   rw[hv];exact zdo hp _ fun h=>by omega
  ·rw[if_neg hlt];simp only;rw[hval (vN X w-y) rfl]
   cases hF2:F.2 with
   |false=>
    have hUe:=hUf hF2;rw[hUe]at hlt⊢;have a1:=zn4 (a:=X) (b:=F.1) (by omega) w;by_cases hz:X-F.1=0
    ·have hfun:(fun up=>if X-F.1=0/\false=false then(d0,(0:Int))else zay (c.neg != false) (X-F.1) w false p up)=fun _=>(d0,0):=by
      funext up;rw[if_pos ⟨hz,rfl⟩]
     rw[hfun,f3 hF2,a1,hz,ud];have e0:(if c.neg=true then-(0:Rat)else 0)=0:=by split<;>grind
     rw[e0];refine⟨⟨fun _=>⟨by rw[zkf];exact q3,by rw[zkf];exact .inl (zca p)⟩,fun z _ h=>⟨rfl,by rw[zkf];exact h⟩⟩,⟨fun _=>⟨by rw[zkf];exact q3,by rw[zkf];exact .inl (zca p)⟩,fun z _ h=>⟨rfl,by rw[zkf];exact h⟩⟩⟩
    ·have hfun:(fun up=>if X-F.1=0/\false=false then(d0,(0:Int))else zay (c.neg != false) (X-F.1) w false p up)=fun up=>zay (c.neg != false) (X-F.1) w false p up:=by
      funext up;rw[if_neg fun h=>hz h.1]
     rw[hfun,f3 hF2,a1];have e0:(c.neg != false)=c.neg:=by cases c.neg<;>rfl
     rw[e0];exact zdo hp _ fun h=>absurd h hz
   |true=>
    obtain⟨u1,u2,u3,u4⟩:=hU hF2;rw[u1];have a1:=zn4 (a:=X) (b:=F.1+1) (by omega) w;have a2:=zn4 (a:=X) (b:=F.1) (by omega) w;have hpos:=q4 ((zg c-w).toNat -3);have hfun:(fun up=>if X-(F.1+1)=0/\true=false then(d0,(0:Int))else zay (c.neg != false) (X-(F.1+1)) w true p up)=fun up=>zay (c.neg != false) (X-(F.1+1)) w true p up:=by
     funext up;rw[if_neg fun h=>by cases h.2]
    rw[hfun];have e0:(c.neg != false)=c.neg:=by cases c.neg<;>rfl
    rw[e0];have hy1:=(f4 hF2).1;refine zfp hp _ ?_ ?_ ?_ ?_ ?_ ?_
    ·rw[←a1];grind
    ·rw[show X-(F.1+1)+1=X-F.1 by omega,←a2];grind
    ·intro h;cases h
    ·intro _;rw[←a1];grind
    ·intro _;have h5:2^((zg c-w).toNat -3)<=X-(F.1+1):=by omega
     have h6:=(zdc (n:=X-(F.1+1)) (k:=(zg c-w).toNat -3) (by omega)).2 h5;omega
    ·intro h;omega
theorem znp {d:Dy} (h:nm d=0):dv d=0:=by unfold dv;rw[h,ud];split<;>rfl
theorem zi2 {a b:Dy} (ha:VD a) (hb:VD b) {p:Nat} (hp:8<=p/\p<=512):RT p (dv a+dv b) (fun up=>zcj a b p up):=by
 by_cases a0:nm a=0
 ·have h:=jm hb hp;have e:(fun up=>zcj a b p up)=fun up=>qo b p up:=by funext up;unfold zcj;rw[if_pos a0]
  rw[e,znp a0,Rat.zero_add];exact h
 by_cases b0:nm b=0
 ·have h:=jm ha hp;have e:(fun up=>zcj a b p up)=fun up=>qo a p up:=by funext up;unfold zcj;rw[if_neg a0,if_pos b0]
  rw[e,znp b0,Rat.add_zero];exact h
 have e:(fun up=>zcj a b p up)=fun up=>qc8 (zhx a b) (zh2 a b) p up:=by funext up;unfold zcj;rw[if_neg a0,if_neg b0]
 rw[e];by_cases ht:zg a<zg b
 ·have e1:zhx a b=b/\zh2 a b=a:=by unfold zhx zh2;rw[if_pos ht,if_pos ht];exact⟨rfl,rfl⟩
  rw[e1.1,e1.2,Rat.add_comm];exact zyy hb ha b0 a0 (by omega) hp
 ·have e1:zhx a b=a/\zh2 a b=b:=by unfold zhx zh2;rw[if_neg ht,if_neg ht];exact⟨rfl,rfl⟩
  rw[e1.1,e1.2];exact zyy ha hb a0 b0 (by omega) hp
def inI (q:Rat) (x:Iv):Prop:=x.all=true\/(dv x.lo<=q/\q<=dv x.hi)
theorem KI.dle {x:Iv} (k:KI x):dv x.lo<=dv x.hi:=xm.1 k.le
theorem zrl {x:Iv} (h:CI x) (h1:x.all=false) (h2:dv x.lo<=dv x.hi):KI x:=by
 rcases h with rfl|⟨_,a,b⟩
 ·cases h1
 ·exact⟨h1,a,b,xm.2 h2⟩
theorem zvv {p:Nat} {y y':Rat} {r r':Dy×Int} (h':RU p (fun z=>y'<=z) r') (h:RU p (fun z=>y<=z) r) (hle:y<=y') (h0:r'.2=0):r.2=0/\dv r.1<=dv r'.1:=by
 obtain⟨a,b⟩:=h'.1 h0;exact h.2 _ b (q2 hle a)
theorem uw {a b:Dy×Int}:(wa a b).all =false<->a.2=0/\b.2=0:=by
 unfold wa;split
 ·rename_i h;constructor
  ·intro c;cases c
  ·rintro⟨h1,h2⟩;exact absurd (by simp[h1,h2]) (not_not_intro h)
 ·rename_i h;constructor
  ·intro _;exact⟨by simp only[not_or,Decidable.not_not]at h;exact h.1,by simp only[not_or,Decidable.not_not]at h;exact h.2⟩
  ·intro _;rfl
theorem yg {a b:Dy×Int} (h:(wa a b).all =false):wa a b=⟨a.1,b.1,false⟩:=by
 have:=uw.1 h;unfold wa;rw[if_neg (by simp[this.1,this.2])]
theorem qa8 {p:Nat} {y z:Rat} {F G:Bool->Dy×Int} (hF:RT p y F) (hG:RT p z G) {q:Rat} (h1:y<=q) (h2:q<=z):inI q (wa (F false) (G true)):=by
 cases h:(wa (F false) (G true)).all with
 |true=>exact .inl h
 |false=>
  obtain⟨e1,e2⟩:=uw.1 h;rw[yg h];exact .inr ⟨q2 (hF.1.1 e1).1 h1,q2 h2 (hG.2.1 e2).1⟩
theorem zqr {p:Nat} {y z:Rat} {F G:Bool->Dy×Int} (hF:RT p y F) (hG:RT p z G) (hc:CI (wa (F false) (G true))) (h:y<=z):VI (wa (F false) (G true)):=by
 cases ha:(wa (F false) (G true)).all with
 |true=>
  rcases hc with hc|⟨h1,_⟩
  ·exact .inr hc
  ·rw[ha]at h1;cases h1
 |false=>
  refine .inl (zrl hc ha ?_);obtain⟨e1,e2⟩:=uw.1 ha;rw[yg ha];exact q2 (hF.1.1 e1).1 (q2 h (hG.2.1 e2).1)
theorem zih {x y:Iv} (hx:RI x) (hy:RI y):(kB x&&kB y)=true<->KI x/\KI y:=by rw[Bool.and_eq_true,zp hx,zp hy]
theorem qd6 {x:Iv} (h:VI x):x.all=false<->KI x:=by
 rcases h with h|rfl
 ·exact⟨fun _=>h,fun _=>h.all⟩
 ·exact⟨(fun c=>by cases c),(fun k=>k.all)⟩
theorem zv2 (q:Rat):inI q wI0:= .inl rfl
theorem zp7 {x y:Iv} (hx:KI x) (hy:KI y) {p:Int} (hp:pcB p=true):uk x y p=wa (zcj x.lo y.lo p.toNat false) (zcj x.hi y.hi p.toNat true):=by
 unfold uk;rw[if_pos ⟨(zih hx.ri hy.ri).2 ⟨hx,hy⟩,hp⟩]
theorem qc7 {x y:Iv} (hx:RI x) (hy:RI y) {p:Int} (h: ¬(KI x/\KI y)):uk x y p=wI0:=by
 unfold uk;rw[if_neg fun c=>h ((zih hx hy).1 c.1)]
theorem zea {x y:Iv} (hx:VI x) (hy:VI y) {p:Int} (hp:pcB p=true):VI (uk x y p):=by
 by_cases h:KI x/\KI y
 ·rw[zp7 h.1 h.2 hp];refine zqr (zi2 h.1.lo h.2.lo (qr hp)) (zi2 h.1.hi h.2.hi (qr hp)) (by rw[←zp7 h.1 h.2 hp];exact zfa _ _ _) ?_;have:=h.1.dle;have:=h.2.dle;grind
 ·rw[qc7 hx.ri hy.ri h];exact .inr rfl
theorem zhg {x y:Iv} (hx:VI x) (hy:VI y) {p:Int} (hp:pcB p=true) {a b:Rat} (ha:inI a x) (hb:inI b y):inI (a+b) (uk x y p):=by
 by_cases h:KI x/\KI y
 ·rw[zp7 h.1 h.2 hp];rcases ha with ha|ha
  ·rw[h.1.all]at ha;cases ha
  rcases hb with hb|hb
  ·rw[h.2.all]at hb;cases hb
  exact qa8 (zi2 h.1.lo h.2.lo (qr hp)) (zi2 h.1.hi h.2.hi (qr hp)) (by grind) (by grind)
 ·rw[qc7 hx.ri hy.ri h];exact zv2 _
theorem qfg {x:Iv} (hx:KI x):zff x=⟨yw x.hi,yw x.lo,false⟩:=by unfold zff;rw[if_pos ((zp hx.ri).2 hx)]
theorem neg_w {x:Iv} (hx:RI x) (h: ¬KI x):zff x=wI0:=by unfold zff;rw[if_neg fun c=>h ((zp hx).1 c)]
theorem zza {x:Iv} (hx:VI x):VI (zff x):=by
 by_cases h:KI x
 ·rw[qfg h];refine .inl ⟨rfl,xo h.hi,xo h.lo,xm.2 ?_⟩;simp only[za3];have:=h.dle;grind
 ·rw[neg_w hx.ri h];exact .inr rfl
theorem qem {x y:Iv} (hx:VI x) (hy:VI y) {p:Int} (hp:pcB p=true):VI (qdm x y p):=zea hx (zza hy) hp
def qcg (op:Rat->Rat->Rat) (x y:Iv) (P:Rat->Prop):Prop:=P (op (dv x.lo) (dv y.lo))/\P (op (dv x.lo) (dv y.hi))/\P (op (dv x.hi) (dv y.lo))/\P (op (dv x.hi) (dv y.hi))
def zkq (op:Rat->Rat->Rat) (x y:Iv) (P:Rat->Prop):Prop:=P (op (dv x.lo) (dv y.lo))\/P (op (dv x.lo) (dv y.hi))\/P (op (dv x.hi) (dv y.lo))\/P (op (dv x.hi) (dv y.hi))
structure F4 (p:Nat) (op:Rat->Rat->Rat) (dn up:Dy->Dy->Dy×Int) (x y:Iv):Prop where
 rt1:RT p (op (dv x.lo) (dv y.lo)) (fun u=>if u=true then up x.lo y.lo else dn x.lo y.lo)
 rt2:RT p (op (dv x.lo) (dv y.hi)) (fun u=>if u=true then up x.lo y.hi else dn x.lo y.hi)
 rt3:RT p (op (dv x.hi) (dv y.lo)) (fun u=>if u=true then up x.hi y.lo else dn x.hi y.lo)
 rt4:RT p (op (dv x.hi) (dv y.hi)) (fun u=>if u=true then up x.hi y.hi else dn x.hi y.hi)
theorem zmn {dn up:Dy×Int} {o:Iv} {K:Iv->Iv} (h:(stI dn up o K).all =false):dn.2=0/\up.2=0/\ ∃o':Iv,stI dn up o K=K o'/\o'.all=false/\(o'.lo=dn.1\/o'.lo=o.lo)/\(o'.hi=up.1\/o'.hi=o.hi)/\dv o'.lo<=dv dn.1/\dv o'.lo<=dv o.lo/\dv up.1<=dv o'.hi/\dv o.hi<=dv o'.hi:=by
 unfold stI at h⊢;by_cases he:dn.2≠0\/up.2≠0
 ·rw[if_pos he]at h;cases h
 ·rw[if_neg he]at h⊢;simp only[not_or,Decidable.not_not]at he;refine⟨he.1,he.2,_,rfl,rfl,?_,?_,?_,?_,?_,?_⟩
  ·simp only;split<;>simp
  ·simp only;split<;>simp
  ·simp only;split
   ·exact q3
   ·rename_i hc;have:0<=qt dn.1 o.lo:=by omega
    exact zpx.1 this
  ·simp only;split
   ·rename_i hc;exact xm.1 (by omega)
   ·exact q3
  ·simp only;split
   ·exact q3
   ·rename_i hc;exact xm.1 (by omega)
  ·simp only;split
   ·rename_i hc;exact zpx.1 (by omega)
   ·exact q3
theorem zlu {dn up:Dy->Dy->Dy×Int} {x y:Iv} (h:(kp dn up x y).all =false):
 ((dn x.lo y.lo).2=0/\(dn x.lo y.hi).2=0/\(dn x.hi y.lo).2=0/\(dn x.hi y.hi).2=0)/\((up x.lo y.lo).2=0/\(up x.lo y.hi).2=0/\(up x.hi y.lo).2=0/\(up x.hi y.hi).2=0)/\
 (∀t:Rat,t<=dv (dn x.lo y.lo).1->t<=dv (dn x.lo y.hi).1->t<=dv (dn x.hi y.lo).1->t<=dv (dn x.hi y.hi).1->t<=dv (kp dn up x y).lo)/\
 (∀t:Rat,dv (up x.lo y.lo).1<=t->dv (up x.lo y.hi).1<=t->dv (up x.hi y.lo).1<=t->dv (up x.hi y.hi).1<=t->dv (kp dn up x y).hi <=t)/\
 (dv (kp dn up x y).lo <=dv (dn x.lo y.lo).1/\dv (kp dn up x y).lo <=dv (dn x.lo y.hi).1/\dv (kp dn up x y).lo <=dv (dn x.hi y.lo).1/\dv (kp dn up x y).lo <=dv (dn x.hi y.hi).1)/\
 (dv (up x.lo y.lo).1<=dv (kp dn up x y).hi /\dv (up x.lo y.hi).1<=dv (kp dn up x y).hi /\dv (up x.hi y.lo).1<=dv (kp dn up x y).hi /\dv (up x.hi y.hi).1<=dv (kp dn up x y).hi):=by
 rw[zpl]at h⊢;by_cases he:(dn x.lo y.lo).2≠0\/(up x.lo y.lo).2≠0
 ·unfold s0I at h;rw[if_pos he]at h;cases h
 have e0: ∀K,s0I (dn x.lo y.lo) (up x.lo y.lo) K=K ⟨(dn x.lo y.lo).1,(up x.lo y.lo).1,false⟩:=fun K=>by unfold s0I;rw[if_neg he]
 simp only[not_or,Decidable.not_not]at he;rw[e0]at h⊢;obtain⟨a1,a2,o1,a3,_,a5,a6,a7,a8,a9,a10⟩:=zmn h;rw[a3]at h⊢;obtain⟨b1,b2,o2,b3,_,b5,b6,b7,b8,b9,b10⟩:=zmn h;rw[b3]at h⊢;obtain⟨c1,c2,o3,c3,_,c5,c6,c7,c8,c9,c10⟩:=zmn h;rw[c3];simp only at*;refine⟨⟨he.1,a1,b1,c1⟩,⟨he.2,a2,b2,c2⟩,?_,?_,⟨?_,?_,?_,?_⟩,⟨?_,?_,?_,?_⟩⟩
 ·intro t t1 t2 t3 t4;rcases c5 with c|c<;>rw[c]
  ·exact t4
  ·rcases b5 with c|c<;>rw[c]
   ·exact t3
   ·rcases a5 with c|c<;>rw[c]
    ·exact t2
    ·exact t1
 ·intro t t1 t2 t3 t4;rcases c6 with c|c<;>rw[c]
  ·exact t4
  ·rcases b6 with c|c<;>rw[c]
   ·exact t3
   ·rcases a6 with c|c<;>rw[c]
    ·exact t2
    ·exact t1
 ·exact q2 c8 (q2 b8 a8)
 ·exact q2 c8 (q2 b8 a7)
 ·exact q2 c8 b7
 ·exact c7
 ·exact q2 a10 (q2 b10 c10)
 ·exact q2 a9 (q2 b10 c10)
 ·exact q2 b9 c10
 ·exact c9
theorem qhp {p:Nat} {op:Rat->Rat->Rat} {dn up:Dy->Dy->Dy×Int} {x y:Iv} (f:F4 p op dn up x y) {q:Rat} (h1:zkq op x y (fun z=>z<=q)) (h2:zkq op x y (fun z=>q<=z)):inI q (kp dn up x y):=by
 cases ha:(kp dn up x y).all with
 |true=>exact .inl ha
 |false=>
  obtain⟨d,u,_,_,⟨l1,l2,l3,l4⟩,⟨r1,r2,r3,r4⟩⟩:=zlu ha;have g1:=(f.rt1.1.1 d.1).1;have g2:=(f.rt2.1.1 d.2.1).1;have g3:=(f.rt3.1.1 d.2.2.1).1;have g4:=(f.rt4.1.1 d.2.2.2).1;have k1:=(f.rt1.2.1 u.1).1;have k2:=(f.rt2.2.1 u.2.1).1;have k3:=(f.rt3.2.1 u.2.2.1).1;have k4:=(f.rt4.2.1 u.2.2.2).1;simp only[if_true,q7,if_false]at g1 g2 g3 g4 k1 k2 k3 k4;refine .inr ⟨?_,?_⟩
  ·rcases h1 with h|h|h|h
   ·exact q2 l1 (q2 g1 h)
   ·exact q2 l2 (q2 g2 h)
   ·exact q2 l3 (q2 g3 h)
   ·exact q2 l4 (q2 g4 h)
  ·rcases h2 with h|h|h|h
   ·exact q2 h (q2 k1 r1)
   ·exact q2 h (q2 k2 r2)
   ·exact q2 h (q2 k3 r3)
   ·exact q2 h (q2 k4 r4)
theorem zts {a b x1 x2:Rat} (h1:x1<=a) (h2:a<=x2):(x1*b<=a*b\/x2*b<=a*b)/\(a*b<=x1*b\/a*b<=x2*b):=by
 by_cases hb:0<=b
 ·exact⟨.inl (qv h1 hb),.inr (qv h2 hb)⟩
 ·have hb':0<= -b:=by grind
  have e1:=qv h1 hb';have e2:=qv h2 hb';exact⟨.inr (by grind),.inl (by grind)⟩
theorem zjv {a b y1 y2:Rat} (h1:y1<=b) (h2:b<=y2):(a*y1<=a*b\/a*y2<=a*b)/\(a*b<=a*y1\/a*b<=a*y2):=by
 have:=zts (b:=a) h1 h2;rw[qn y1,qn y2,qn b]at this;exact this
theorem zsa {x y:Iv} {a b:Rat} (h1:dv x.lo<=a) (h2:a<=dv x.hi) (h3:dv y.lo<=b) (h4:b<=dv y.hi):zkq (fun u v=>u*v) x y (fun z=>z<=a*b)/\zkq (fun u v=>u*v) x y (fun z=>a*b<=z):=by
 obtain⟨m1,m2⟩:=zts (b:=b) h1 h2;obtain⟨l1,l2⟩:=zjv (a:=dv x.lo) h3 h4;obtain⟨u1,u2⟩:=zjv (a:=dv x.hi) h3 h4;unfold zkq;constructor
 ·rcases m1 with m|m
  ·rcases l1 with l|l
   ·exact .inl (q2 l m)
   ·exact .inr (.inl (q2 l m))
  ·rcases u1 with l|l
   ·exact .inr (.inr (.inl (q2 l m)))
   ·exact .inr (.inr (.inr (q2 l m)))
 ·rcases m2 with m|m
  ·rcases l2 with l|l
   ·exact .inl (q2 m l)
   ·exact .inr (.inl (q2 m l))
  ·rcases u2 with l|l
   ·exact .inr (.inr (.inl (q2 m l)))
   ·exact .inr (.inr (.inr (q2 m l)))
theorem qb7 (F:Bool->Dy×Int):(fun u=>if u=true then F true else F false)=F:=by funext u;cases u<;>rfl
theorem ze8 {p:Nat} {y:Rat} {F:Bool->Dy×Int} (h:RT p y F):RT p y (fun u=>if u=true then F true else F false):=by rw[qb7];exact h
theorem zzc {x y:Iv} (hx:KI x) (hy:KI y) {p:Nat} (hp:8<=p/\p<=512):F4 p (fun u v=>u*v) (fun a b=>jv a b p false) (fun a b=>jv a b p true) x y:=
 ⟨ze8 (za0 hx.lo hy.lo hp),ze8 (za0 hx.lo hy.hi hp),ze8 (za0 hx.hi hy.lo hp),ze8 (za0 hx.hi hy.hi hp)⟩
theorem zzb {x y:Iv} (hx:KI x) (hy:KI y) {p:Int} (hp:pcB p=true):zac x y p=kp (fun a b=>jv a b p.toNat false) (fun a b=>jv a b p.toNat true) x y:=by
 unfold zac;rw[if_pos ⟨(zih hx.ri hy.ri).2 ⟨hx,hy⟩,hp⟩]
theorem qfh {x y:Iv} (hx:RI x) (hy:RI y) {p:Int} (h: ¬(KI x/\KI y)):zac x y p=wI0:=by
 unfold zac;rw[if_neg fun c=>h ((zih hx hy).1 c.1)]
theorem zoz {x y:Iv} (hx:VI x) (hy:VI y) {p:Int} (hp:pcB p=true) {a b:Rat} (ha:inI a x) (hb:inI b y):inI (a*b) (zac x y p):=by
 by_cases h:KI x/\KI y
 ·rw[zzb h.1 h.2 hp];rcases ha with ha|ha
  ·rw[h.1.all]at ha;cases ha
  rcases hb with hb|hb
  ·rw[h.2.all]at hb;cases hb
  obtain⟨s1,s2⟩:=zsa ha.1 ha.2 hb.1 hb.2;exact qhp (zzc h.1 h.2 (qr hp)) s1 s2
 ·rw[qfh hx.ri hy.ri h];exact zv2 _
theorem xw {x:Iv} (h:CI x) {q:Rat} (hq:inI q x):VI x:=by
 cases ha:x.all with
 |true=>
  rcases h with h|⟨h1,_⟩
  ·exact .inr h
  ·rw[ha]at h1;cases h1
 |false=>
  rcases hq with hq|hq
  ·rw[ha]at hq;cases hq
  ·exact .inl (zrl h ha (q2 hq.1 hq.2))
theorem zlh {x:Iv} (h:VI x):inI (dv x.lo) x:=by
 rcases h with k|rfl
 ·exact .inr ⟨q3,k.dle⟩
 ·exact zv2 _
theorem zlc {x y:Iv} (hx:VI x) (hy:VI y) {p:Int} (hp:pcB p=true):VI (zac x y p):=xw (zv0 x y p) (zoz hx hy hp (zlh hx) (zlh hy))
theorem zf9 {y:Iv} (hy:KI y):zmu y≠0<->(0<dv y.lo\/dv y.hi<0):=by
 have h1:=(uf y.lo).2.1;have h2:=(uf y.hi).1;unfold zmu;rw[if_pos ((zp hy.ri).2 hy)];by_cases c1:0<wl y.lo
 ·rw[if_pos c1];exact⟨fun _=> .inl (h1.1 c1),fun _=>by decide⟩
 ·rw[if_neg c1];by_cases c2:wl y.hi<0
  ·rw[if_pos c2];exact⟨fun _=> .inr (h2.1 c2),fun _=>by decide⟩
  ·rw[if_neg c2];exact⟨fun c=>absurd rfl c,fun c=>by rcases c with c|c;exact absurd (h1.2 c) c1;exact absurd (h2.2 c) c2⟩
theorem znj {a b c:Rat} (h:0<a\/c<0) (h1:a<=b) (h2:b<=c):c⁻¹ <=b⁻¹ /\b⁻¹ <=a⁻¹ :=by
 have key: ∀u v:Rat,0<u->u<=v->v⁻¹ <=u⁻¹ :=fun u v hu huv=>by
  have hv:0<v:=by grind
  have hi:0<u⁻¹ :=by have:=qU.2 hu;exact this
  have hj:0<v⁻¹ :=by have:=qU.2 hv;exact this
  have e1:v*v⁻¹ =1:=qL v (by grind);have e2:u*u⁻¹ =1:=qL u (by grind);have h3:u*v⁻¹ <=v*v⁻¹ :=qv huv (q6 hj);rw[e1,←e2]at h3;have h4:v⁻¹ *u<=u⁻¹ *u:=by rw[qn v⁻¹,qn u⁻¹];exact h3
  exact zc7 h4 hu
 rcases h with h|h
 ·exact⟨key b c (by grind) h2,key a b h h1⟩
 ·have k1:=key (-c) (-b) (by grind) (by grind);have k2:=key (-b) (-a) (by grind) (by grind);have e: ∀u:Rat,(-u)⁻¹ = -(u⁻¹):=fun u=>by grind
  rw[e,e]at k1 k2;constructor<;>grind
theorem zsb {x y:Iv} {a b:Rat} (hs:0<dv y.lo\/dv y.hi<0) (h1:dv x.lo<=a) (h2:a<=dv x.hi) (h3:dv y.lo<=b) (h4:b<=dv y.hi):zkq (fun u v=>u/v) x y (fun z=>z<=a/b)/\zkq (fun u v=>u/v) x y (fun z=>a/b<=z):=by
 obtain⟨i1,i2⟩:=znj hs h3 h4;obtain⟨m1,m2⟩:=zts (b:=b⁻¹) h1 h2;obtain⟨l1,l2⟩:=zjv (a:=dv x.lo) i1 i2;obtain⟨u1,u2⟩:=zjv (a:=dv x.hi) i1 i2;have e: ∀u v:Rat,u/v=u*v⁻¹ :=fun u v=>Rat.div_def u v
 unfold zkq;simp only[e];constructor
 ·rcases m1 with m|m
  ·rcases l1 with l|l
   ·exact .inr (.inl (q2 l m))
   ·exact .inl (q2 l m)
  ·rcases u1 with l|l
   ·exact .inr (.inr (.inr (q2 l m)))
   ·exact .inr (.inr (.inl (q2 l m)))
 ·rcases m2 with m|m
  ·rcases l2 with l|l
   ·exact .inr (.inl (q2 m l))
   ·exact .inl (q2 m l)
  ·rcases u2 with l|l
   ·exact .inr (.inr (.inr (q2 m l)))
   ·exact .inr (.inr (.inl (q2 m l)))
theorem zw8 {d:Dy} (h:dv d≠0):nm d≠0:=fun c=>h (znp c)
theorem zpt {x y:Iv} (hx:KI x) (hy:KI y) (hs:0<dv y.lo\/dv y.hi<0) {p:Nat} (hp:8<=p/\p<=512):F4 p (fun u v=>u/v) (fun a b=>kq a b p false) (fun a b=>kq a b p true) x y:=by
 have hl:nm y.lo≠0:=zw8 (by have:=hy.dle;grind);have hh:nm y.hi≠0:=zw8 (by have:=hy.dle;grind);exact⟨ze8 (zl9 hx.lo hy.lo hl hp),ze8 (zl9 hx.lo hy.hi hh hp),ze8 (zl9 hx.hi hy.lo hl hp),ze8 (zl9 hx.hi hy.hi hh hp)⟩
theorem zkg {x y:Iv} (hx:KI x) (hy:KI y) (hs:0<dv y.lo\/dv y.hi<0) {p:Int} (hp:pcB p=true):ym x y p=kp (fun a b=>kq a b p.toNat false) (fun a b=>kq a b p.toNat true) x y:=by
 unfold ym;rw[if_pos ⟨(zih hx.ri hy.ri).2 ⟨hx,hy⟩,hp,(zf9 hy).2 hs⟩]
theorem zu2 {x y:Iv} (hx:RI x) (hy:RI y) {p:Int} (h: ¬(KI x/\KI y/\(0<dv y.lo\/dv y.hi<0))):ym x y p=wI0:=by
 unfold ym;rw[if_neg fun c=>?_];obtain⟨k1,k2⟩:=(zih hx hy).1 c.1;exact h ⟨k1,k2,(zf9 k2).1 c.2.2⟩
theorem zg6 {x y:Iv} (hx:VI x) (hy:VI y) {p:Int} (hp:pcB p=true) {a b:Rat} (ha:inI a x) (hb:inI b y):inI (a/b) (ym x y p):=by
 by_cases h:KI x/\KI y/\(0<dv y.lo\/dv y.hi<0)
 ·rw[zkg h.1 h.2.1 h.2.2 hp];rcases ha with ha|ha
  ·rw[h.1.all]at ha;cases ha
  rcases hb with hb|hb
  ·rw[h.2.1.all]at hb;cases hb
  obtain⟨s1,s2⟩:=zsb h.2.2 ha.1 ha.2 hb.1 hb.2;exact qhp (zpt h.1 h.2.1 h.2.2 (qr hp)) s1 s2
 ·rw[zu2 hx.ri hy.ri h];exact zv2 _
theorem zbt {x y:Iv} (hx:VI x) (hy:VI y) {p:Int} (hp:pcB p=true):VI (ym x y p):=xw (zz6 x y p) (zg6 hx hy hp (zlh hx) (zlh hy))
theorem qat {x:Iv} (hx:KI x) (hs:0<dv x.lo) {p:Int} (hp:pcB p=true):zcz x p=wa (uj x.lo p.toNat false) (uj x.hi p.toNat true):=by
 unfold zcz;rw[if_pos ⟨(zp hx.ri).2 hx,hp,(uf x.lo).2.1.2 hs⟩]
theorem qen {x:Iv} (hx:RI x) {p:Int} (h: ¬(KI x/\0<dv x.lo)):zcz x p=wI0:=by
 unfold zcz;rw[if_neg fun c=>h ⟨(zp hx).1 c.1,(uf x.lo).2.1.1 c.2.2⟩]
theorem zia {d:Dy} (h:0<dv d):d.neg=false/\nm d≠0:=by
 refine⟨ztf ((uf d).2.1.2 h),zw8 (by grind)⟩
theorem qau {x:Iv} (hx:VI x) {p:Int} (hp:pcB p=true):VI (zcz x p):=by
 by_cases h:KI x/\0<dv x.lo
 ·have hh:0<dv x.hi:=by have:=h.1.dle;grind
  obtain⟨n1,n2⟩:=zia h.2;obtain⟨n3,n4⟩:=zia hh;have l:=(zkp n1 (qr hp) n2).1;have u:=(zkp n3 (qr hp) n4).2;have hc:=zvz x p;rw[qat h.1 h.2 hp]at hc⊢
  cases ha:(wa (uj x.lo p.toNat false) (uj x.hi p.toNat true)).all with
  |true=>
   rcases hc with hc|⟨h1,_⟩
   ·exact .inr hc
   ·rw[ha]at h1;cases h1
  |false=>
   obtain⟨e1,e2⟩:=uw.1 ha;refine .inl (zrl hc ha ?_);rw[yg ha];have hl:=(l.1 e1).1;have hu:=(u.1 e2).1;simp only;rcases hl with hl|hl
   ·exact q2 hl hu.1
   ·exact zoe hu.1 (q2 hl (q2 h.1.dle hu.2))
 ·rw[qen hx.ri h];exact .inr rfl
def qx (q:Rat):Rat:=if q<0 then-q else q
theorem wd (q:Rat):0<=qx q:=by unfold qx;split<;>grind
theorem zpp (d:Dy):dv (za7 d)=qx (dv d):=by
 have h:dv (za7 d)=vN (nm d) d.e:=rfl;rw[h];have h2:=zcy (nm d) d.e;unfold dv qx
 cases d.neg with
 |true=>simp only[if_true];split<;>grind
 |false=>simp only[q7,if_false];split<;>grind
theorem ztx (a b:Dy):dv (yi a b)<=dv a/\dv (yi a b)<=dv b/\(yi a b=a\/yi a b=b):=by
 unfold yi;split
 ·rename_i h;exact⟨q3,xm.1 h,.inl rfl⟩
 ·rename_i h;exact⟨zpx.1 (by omega),q3,.inr rfl⟩
theorem zgm (a b:Dy):dv a<=dv (yf a b)/\dv b<=dv (yf a b)/\(yf a b=a\/yf a b=b):=by
 unfold yf;split
 ·rename_i h;exact⟨q3,zpx.1 h,.inl rfl⟩
 ·rename_i h;exact⟨xm.1 (by omega),q3,.inr rfl⟩
theorem zhh {x:Iv} (k:KI x) {a:Rat} (h1:dv x.lo<=a) (h2:a<=dv x.hi):0<=dv (zb3 x)/\dv (zb3 x)<=qx a/\qx a<=dv (jx x):=by
 obtain⟨m1,m2,_⟩:=zgm (za7 x.lo) (za7 x.hi);obtain⟨l1,l2,l3⟩:=ztx (za7 x.lo) (za7 x.hi);rw[zpp]at m1 l1;rw[zpp]at m2 l2;have hs:=zf9 k;have n1:=wd (dv x.lo);have n2:=wd (dv x.hi);have hm:jx x=yf (za7 x.lo) (za7 x.hi):=rfl;rw[hm];have hmag:qx a<=dv (yf (za7 x.lo) (za7 x.hi)):=by
  have e1: -(dv x.lo)<=qx (dv x.lo):=by unfold qx;split<;>grind
  have e2:dv x.hi<=qx (dv x.hi):=by unfold qx;split<;>grind
  unfold qx at*;grind
 unfold zb3;by_cases h0:zmu x=0
 ·rw[if_pos h0,zkf];exact⟨q3,wd a,hmag⟩
 ·rw[if_neg h0];refine⟨?_,?_,hmag⟩
  ·rcases l3 with e|e<;>rw[e,zpp]
   ·exact n1
   ·exact n2
  ·rcases hs.1 h0 with c|c
   ·have e1:qx (dv x.lo)=dv x.lo:=by unfold qx;rw[if_neg (by grind)]
    have e2:qx a=a:=by unfold qx;rw[if_neg (by grind)]
    rw[e1]at l1;rw[e2];exact q2 l1 h1
   ·have e1:qx (dv x.hi)= -(dv x.hi):=by unfold qx;rw[if_pos c]
    have e2:qx a= -a:=by unfold qx;rw[if_pos (by grind)]
    rw[e1]at l2;rw[e2];grind
def rpw (q:Rat):Nat->Rat
 |0=>1
 |n+1=>rpw q n*q
theorem zom {q:Rat} (h:0<=q): ∀n,0<=rpw q n
 |0=>by show(0:Rat)<=1;decide
 |n+1=>qD (zom h n) h
theorem zb2 {a b c d:Rat} (h0:0<=a) (h1:a<=b) (h2:0<=c) (h3:c<=d):a*c<=b*d:=by
 have e1:a*c<=b*c:=qv h1 h2;have e2:c*b<=d*b:=qv h3 (by grind);rw[qn c,qn d]at e2;exact q2 e1 e2
theorem zgc (q:Rat): ∀n,rpw (-q) n=if n % 2=0 then rpw q n else-(rpw q n)
 |0=>rfl
 |n+1=>by
  simp only[rpw];rw[zgc q n];by_cases h:n % 2=0
  ·rw[if_pos h,if_neg (by omega)];grind
  ·rw[if_neg h,if_pos (by omega)];grind
theorem zaj {d:Dy} {p:Nat} {up:Bool}: ∀ {k:Nat} {r:Dy×Int},(xf d p up k r).2=0->r.2=0
 |0,_,h=>h
 |k+1,r,h=>by
  simp only[xf]at h;split at h
  ·assumption
  ·exact h
theorem zor {p:Nat} (hp:8<=p/\p<=512) {d d':Dy} (hd:VD d) (hd':VD d') (h0:0<=dv d) (hle:dv d<=dv d'): ∀k (r r':Dy×Int),VD r.1->VD r'.1->r.2=0->0<=dv r.1->dv r.1<=dv r'.1->(xf d' p true k r').2=0->
 (xf d p true k r).2=0/\0<=dv (xf d p true k r).1/\dv (xf d p true k r).1<=dv (xf d' p true k r').1
 |0,r,r',_,_,e,n,l,_=>⟨e,n,l⟩
 |k+1,r,r',v,v',e,n,l,e'=>by
  have er:=zaj e';simp only[xf]at e'⊢;rw[if_pos er]at e'⊢;rw[if_pos e];have m:=(za0 v hd hp).2;have m':=(za0 v' hd' hp).2;have z0:0<=dv r.1*dv d:=qD n h0;have zz:=zb2 n l h0 hle;have e2:=zaj e';obtain⟨g1,g2⟩:=zvv m' m zz e2;have g3:=(m.1 g1).1;exact zor hp hd hd' h0 hle k _ _ (kb _ _ _ _ hp) (kb _ _ _ _ hp) g1 (q2 z0 g3) g2 e'
theorem ztd {p n:Nat} (hp:8<=p/\p<=512) {d d':Dy} (hd:VD d) (hd':VD d') (h0:0<=dv d) (hle:dv d<=dv d') (he:(zdq d' n p true).2=0):
 (zdq d n p true).2=0/\0<=dv (zdq d n p true).1/\dv (zdq d n p true).1<=dv (zdq d' n p true).1:=by
 have m:=(jm hd hp).2;have m':=(jm hd' hp).2;have e1:=zaj he;obtain⟨g1,g2⟩:=zvv m' m hle e1;have g3:=(m.1 g1).1;exact zor hp hd hd' h0 hle _ _ _ (wg _ _ _ hp) (wg _ _ _ hp) g1 (q2 h0 g3) g2 he
theorem zgk {p:Nat} (hp:8<=p/\p<=512) {d:Dy} (hd:VD d) (h0:0<=dv d) {q:Rat} (hq:dv d<=q): ∀k j (r:Dy×Int),VD r.1->r.2=0->0<=dv r.1->dv r.1<=rpw q j->dv (xf d p false k r).1<=rpw q (j+k)
 |0,j,r,_,_,_,l=>l
 |k+1,j,r,v,e,n,l=>by
  simp only[xf];rw[if_pos e];have m:=(za0 v hd hp).1;have z0:0<=dv r.1*dv d:=qD n h0;obtain⟨f1,f2⟩:=m.2 0 (.inl (zca p)) z0;have f3:=(m.1 f1).1;have:=zgk hp hd h0 hq k (j+1) _ (kb _ _ _ _ hp) f1 f2 (q2 f3 (zb2 n l h0 hq))
  rwa [show j+1+k=j+(k+1) by omega]at this
theorem zh8 {p n:Nat} (hp:8<=p/\p<=512) (hn:1<=n) {d:Dy} (hd:VD d) (h0:0<=dv d) {q:Rat} (hq:dv d<=q):dv (zdq d n p false).1<=rpw q n:=by
 have m:=(jm hd hp).1;obtain⟨f1,f2⟩:=m.2 0 (.inl (zca p)) h0;have f3:=(m.1 f1).1;have:=zgk hp hd h0 hq (n-1) 1 _ (wg _ _ _ hp) f1 f2 (by simp only[rpw];rw[qO];exact q2 f3 hq)
 rwa [show 1+(n-1)=n by omega]at this
theorem zgj {p:Nat} (hp:8<=p/\p<=512) {d:Dy} (hd:VD d) {q:Rat} (h0:0<=q) (hq:q<=dv d): ∀k j (r:Dy×Int),VD r.1->rpw q j<=dv r.1->(xf d p true k r).2=0->rpw q (j+k)<=dv (xf d p true k r).1
 |0,j,r,_,l,_=>l
 |k+1,j,r,v,l,e=>by
  have er:=zaj e;simp only[xf]at e⊢;rw[if_pos er]at e⊢;have m:=(za0 v hd hp).2;have f3:=(m.1 (zaj e)).1;have:=zgj hp hd h0 hq k (j+1) _ (kb _ _ _ _ hp) (q2 (zb2 (zom h0 j) l h0 hq) f3) e
  rwa [show j+1+k=j+(k+1) by omega]at this
theorem zh7 {p n:Nat} (hp:8<=p/\p<=512) (hn:1<=n) {d:Dy} (hd:VD d) {q:Rat} (h0:0<=q) (hq:q<=dv d) (he:(zdq d n p true).2=0):rpw q n<=dv (zdq d n p true).1:=by
 have m:=(jm hd hp).2;have f3:=(m.1 (zaj he)).1;have:=zgj hp hd h0 hq (n-1) 1 _ (wg _ _ _ hp) (by simp only[rpw];rw[qO];exact q2 hq f3) he
 rwa [show 1+(n-1)=n by omega]at this
theorem zuw {d:Dy} {n p:Nat} {up:Bool} (h:dv d<0):zd8 d n p up=(yw (zdq (yw d) n p (!up)).1,(zdq (yw d) n p (!up)).2):=by
 unfold zd8;rw[if_pos ((uf d).1.2 h)]
theorem zuv {d:Dy} {n p:Nat} {up:Bool} (h:0<=dv d):zd8 d n p up=zdq d n p up:=by
 unfold zd8;rw[if_neg fun c=>by have:=(uf d).1.1 c;grind]
theorem zux {p n:Nat} (hp:8<=p/\p<=512) (hn:1<=n) {d:Dy} (hd:VD d) {q:Rat} (hq:dv d<=q) (hpar:n % 2=1\/0<=dv d) (he:(zd8 d n p false).2=0):dv (zd8 d n p false).1<=rpw q n:=by
 by_cases c:dv d<0
 ·rw[zuw c]at he⊢;have hodd:n % 2=1:=hpar.elim id fun h=>absurd c (by grind)
  have hz:0<=dv (yw d):=by rw[za3];grind
  simp only[za3,Bool.not_false]at he⊢;by_cases cq:q<0
  ·have:=zh7 hp hn (xo hd) (q:= -q) (by grind) (by rw[za3];grind) he;rw[zgc,if_neg (by omega)]at this;grind
  ·obtain⟨_,a3,_⟩:=ztd (n:=n) hp (xo hd) (xo hd) hz q3 he;have:=zom (q:=q) (by grind) n;grind
 ·rw[zuv (by grind)];exact zh8 hp hn hd (by grind) hq
theorem zuu {p n:Nat} (hp:8<=p/\p<=512) (hn:1<=n) {d:Dy} (hd:VD d) {q:Rat} (hq:q<=dv d) (hpar:n % 2=1\/0<=q) (he:(zd8 d n p true).2=0):rpw q n<=dv (zd8 d n p true).1:=by
 by_cases c:dv d<0
 ·have hodd:n % 2=1:=hpar.elim id fun h=>absurd c (by grind)
  rw[zuw c];simp only[za3,Bool.not_true];have:=zh8 (n:=n) hp hn (xo hd) (by rw[za3];grind) (q:= -q) (by rw[za3];grind);rw[zgc,if_neg (by omega)]at this;grind
 ·have h0:0<=dv d:=by grind
  rw[zuv h0]at he⊢;by_cases cq:q<0
  ·have hodd:n % 2=1:=hpar.elim id fun h=>absurd cq (by grind)
   obtain⟨_,a3,_⟩:=ztd (n:=n) hp hd hd h0 q3 he;have h1:=zom (q:= -q) (by grind) n;rw[zgc,if_neg (by omega)]at h1;grind
  ·exact zh7 hp hn hd (by grind) hq he
theorem qc9 {x:Iv} (k:KI x):KI (zvp x):=by
 rw[zp8 ((zp k.ri).2 k)];have h:=zhh k (a:=dv x.lo) q3 k.dle;exact⟨rfl,ze6 k,za4 k,xm.2 (q2 h.2.1 h.2.2)⟩
theorem qfa {x:Iv} (k:KI x) {n p:Int} (hp:pcB p=true) (hn:0<=n/\n<=16):zkk x n p=if n=0 then qp (wx 1)else pwK (if n % 2=0 then zvp x else x) n.toNat p.toNat:=by
 unfold zkk;rw[if_pos ⟨(zp k.ri).2 k,hp,hn⟩]
theorem pow_w {x:Iv} (hx:RI x) {n p:Int} (h: ¬KI x):zkk x n p=wI0:=by
 unfold zkk;rw[if_neg fun c=>h ((zp hx).1 c.1)]
theorem jr (n:Int):dv (wx n)=(n:Rat):=by
 unfold wx;rw[zl3];have hv:vN n.natAbs 0=((n.natAbs:Nat):Rat):=by
  unfold vN;have:pw 0=1:=by have:=zbf 0;simpa using this
  rw[this,Rat.mul_one]
 rw[hv];by_cases h:n<0
 ·rw[decide_eq_true h,if_pos rfl];have e:n= -(n.natAbs:Int):=by omega
  conv=>rhs;rw[e]
  rw[qQ,qA]
 ·rw[decide_eq_false h,if_neg (by decide)];have e:n=(n.natAbs:Int):=by omega
  conv=>rhs;rw[e]
  rw[qA]
theorem qe8 {y:Iv} (k:KI y) {n p:Nat} (hp:8<=p/\p<=512) (hn:1<=n) {q:Rat} (h1:dv y.lo<=q) (h2:q<=dv y.hi) (hpar:n % 2=1\/0<=dv y.lo):inI (rpw q n) (pwK y n p):=by
 unfold pwK
 cases ha:(wa (zd8 y.lo n p false) (zd8 y.hi n p true)).all with
 |true=>exact .inl ha
 |false=>
  obtain⟨e1,e2⟩:=uw.1 ha;rw[yg ha];exact .inr ⟨zux hp hn k.lo h1 hpar e1,zuu hp hn k.hi h2 (hpar.imp id fun c=>q2 c h1) e2⟩
theorem qe9 {x:Iv} (hx:VI x) {n p:Int} (hp:pcB p=true) (hn:0<=n/\n<=16) {q:Rat} (hq:inI q x):inI (rpw q n.toNat) (zkk x n p):=by
 by_cases k:KI x
 ·rw[qfa k hp hn];rcases hq with hq|hq
  ·rw[k.all]at hq;cases hq
  by_cases h0:n=0
  ·subst h0;rw[if_pos rfl];refine .inr ⟨?_,?_⟩
   ·show dv (wx 1)<=1;rw[jr];decide
   ·show 1<=dv (wx 1);rw[jr];decide
  ·rw[if_neg h0];by_cases he:n % 2=0
   ·rw[if_pos he];have ka:=qc9 k;have ha:=zhh k hq.1 hq.2;have e:zvp x=⟨zb3 x,jx x,false⟩:=zp8 ((zp k.ri).2 k);have hr:rpw (qx q) n.toNat=rpw q n.toNat:=by
     unfold qx;split
     ·rw[zgc,if_pos (by omega)]
     ·rfl
    rw[←hr];refine qe8 ka (qr hp) (by omega) ?_ ?_ (.inr ?_)
    ·rw[e];exact ha.2.1
    ·rw[e];exact ha.2.2
    ·rw[e];exact ha.1
   ·rw[if_neg he];exact qe8 k (qr hp) (by omega) hq.1 hq.2 (.inl (by omega))
 ·rw[pow_w hx.ri k];exact zv2 _
theorem qfb {x:Iv} (hx:VI x) {n p:Int} (hp:pcB p=true):VI (zkk x n p):=by
 by_cases hn:0<=n/\n<=16
 ·exact xw (zz5 x n p) (qe9 hx hp hn (zlh hx))
 ·have:zkk x n p=wI0:=by unfold zkk;rw[if_neg fun c=>hn c.2.2]
  rw[this];exact .inr rfl
end Go.Proofs.YtbolipecnhlnnaaGreatDoor
