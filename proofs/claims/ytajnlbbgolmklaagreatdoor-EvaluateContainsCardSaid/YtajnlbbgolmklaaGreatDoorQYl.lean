/-
  Rounding as a law of rational numbers: the greatest number of p bits below a number, the least one above it.
-/
import Derived.Test.YtajnlbbgolmklaaGreatDoorQYu
import Derived.Test.YtajnlbbgolmklaaGreatDoorQYz
set_option linter.unusedVariables false
set_option linter.unusedSimpArgs false
namespace Go.Proofs.YtajnlbbgolmklaaGreatDoor
open Go Go.Sx
set_option maxHeartbeats 2000000
def pw (e:Int):Rat:=(2:Rat)^e
theorem pwA (a b:Int):pw (a+b)=pw a*pw b:=Rat.zpow_add (by decide) a b
theorem pw_pos (e:Int):0<pw e:=Rat.zpow_pos (by decide)
theorem pw_nat (k:Nat):pw (k:Int)=((2^k:Nat):Rat):=by
 unfold pw
 rw[Rat.zpow_natCast,Rat.natCast_pow]
 rfl
theorem natR_le {a b:Nat}:(a:Rat)≤(b:Rat)↔a≤b:=Rat.natCast_le_natCast
theorem natR_lt {a b:Nat}:(a:Rat)<(b:Rat)↔a<b:=Rat.natCast_lt_natCast
theorem natR_mul (a b:Nat):((a*b:Nat):Rat)=a*b:=Rat.natCast_mul a b
theorem natR_add (a b:Nat):((a+b:Nat):Rat)=a+b:=Rat.natCast_add a b
theorem natR_nn (a:Nat):(0:Rat)≤a:=Rat.natCast_nonneg
theorem rlt_le {a b c:Rat} (h1:a<b) (h2:b≤c):a<c:=by grind
theorem mul_le_r {a b c:Rat} (h:a≤b) (hc:0≤c):a*c≤b*c:=Rat.mul_le_mul_of_nonneg_right h hc
theorem le_of_mul_r {a b c:Rat} (h:a*c≤b*c) (hc:0<c):a≤b:=Rat.le_of_mul_le_mul_right h hc
def vN (n:Nat) (e:Int):Rat:=(n:Rat)*pw e
theorem vN_le {a b:Nat} {e:Int}:vN a e≤vN b e↔a≤b:=by
 unfold vN
 constructor
 ·intro h;exact natR_le.1 (le_of_mul_r h (pw_pos e))
 ·intro h;exact mul_le_r (natR_le.2 h) (Rat.le_of_lt (pw_pos e))
theorem vN_lt {a b:Nat} {e:Int}:vN a e<vN b e↔a<b:=by
 have h1:=vN_le (a:=b) (b:=a) (e:=e)
 constructor
 ·intro h;exact Nat.not_le.1 fun c=>Rat.not_lt.2 (h1.2 c) h
 ·intro h;exact Rat.not_le.1 fun c=>by have:=h1.1 c;omega
theorem vN_scale (n k:Nat) (e:Int):vN (n*2^k) e=vN n (e+k):=by
 unfold vN
 rw[pwA,pw_nat,natR_mul,Rat.mul_assoc,Rat.mul_comm (pw e)]
theorem vN_down (n:Nat) (e u:Int) (h:u≤e):vN n e=vN (n*2^(e-u).toNat) u:=by
 rw[vN_scale];congr 1;omega
theorem vN_nn (n:Nat) (e:Int):0≤vN n e:=Rat.mul_nonneg (natR_nn n) (Rat.le_of_lt (pw_pos e))
theorem vN_zero (e:Int):vN 0 e=0:=by unfold vN;rw[show((0:Nat):Rat)=0 from rfl,Rat.zero_mul]
theorem vN_one (e:Int):vN 1 e=pw e:=by unfold vN;rw[show((1:Nat):Rat)=1 from rfl,Rat.one_mul]
theorem vN_pow (k:Nat) (e:Int):vN (2^k) e=pw (e+k):=by
 have:=vN_scale 1 k e
 rw[Nat.one_mul]at this
 rw[this,vN_one]
theorem pw_le {a b:Int}:pw a≤pw b↔a≤b:=by
 have key: ∀ {a b:Int},a≤b→pw a≤pw b:=fun {a b} h=>by
  rw[←vN_one a,←vN_one b,vN_down 1 b a h,vN_le]
  have:=Nat.two_pow_pos (b-a).toNat
  omega
 constructor
 ·intro h
  refine Int.not_lt.1 fun c=>?_
  have h1:pw (b+1)≤pw a:=key (by omega)
  have h2:pw (b+1)=pw b*2:=by rw[pwA];congr 1
  have h3:=pw_pos b
  grind
 ·exact key
def dv (d:Dy):Rat:=if d.neg=true then-(vN (nm d) d.e)else vN (nm d) d.e
theorem dv_cnN (neg:Bool) (n:Nat) (e:Int):dv (cnN neg n e)=if neg=true then-(vN n e)else vN n e:=by
 by_cases h:n=0
 ·subst h
  have e1:cnN neg 0 e=d0:=by unfold cnN;rw[if_pos rfl]
  rw[e1,vN_zero]
  unfold dv
  rw[if_neg (by decide),nm_d0,vN_zero]
  split<;>rfl
 ·obtain⟨m,hm,hm1,hm2,_⟩:=cnN_dec h
  have hc:cnN neg n e=⟨neg,toL m,e+tz n⟩:=by unfold cnN;rw[if_neg h,hm2]
  have hv:vN n e=vN m (e+tz n):=by
   conv=>lhs;rw[hm]
   exact vN_scale m (tz n) e
  unfold dv
  rw[hc,nm_toL,hv]
def inF (p:Nat) (z:Rat):Prop:= ∃(k:Nat) (u:Int),z=vN k u∧k≤2^p∧ -16384≤u∧z<pw 16384
theorem vN_lt_top {n:Nat} {e t:Int} (h:(bl n:Int)+e≤t):vN n e<pw t:=by
 have h1:vN n e<vN (2^bl n) e:=vN_lt.2 (lt_bl n)
 rw[vN_pow]at h1
 exact rlt_le h1 (pw_le.2 (by omega))
theorem top_le_vN {n:Nat} {e t:Int} (h:t<(bl n:Int)+e) (hn:n≠0):pw t≤vN n e:=by
 have h0:bl n≠0:=fun c=>hn (bl_pos.1 c)
 have h1:2^(bl n-1)≤n:=(bl_ge hn).1 (by omega)
 have h2:vN (2^(bl n-1)) e≤vN n e:=vN_le.2 h1
 rw[vN_pow]at h2
 exact Rat.le_trans (pw_le.2 (by omega)) h2
theorem unN_cases (m:Nat) (e p:Int):unN m e p=e+bl m-p∨(unN m e p= -16384∧e+bl m-p≤ -16384):=by unfold unN;omega
theorem grid {p:Nat} {k:Nat} {u w:Int} (hk:k≤2^p):(w≤u∧ ∃j:Nat,vN k u=vN j w)∨(u<w∧vN k u≤pw (w+p-1)):=by
 by_cases h:w≤u
 ·exact .inl ⟨h,_,vN_down k u w h⟩
 ·refine .inr ⟨by omega,?_⟩
  have h1:vN k u≤vN (2^p) u:=vN_le.2 hk
  rw[vN_pow]at h1
  exact Rat.le_trans h1 (pw_le.2 (by omega))
theorem fitN_lo {m:Nat} {e:Int} {more:Bool} {u:Int} (h: ¬u≤e):vN (fitN m e more u).1 u≤vN m e∧vN (m+1) e≤vN ((fitN m e more u).1+1) u∧((fitN m e more u).2=false→more=false∧vN (fitN m e more u).1 u=vN m e)∧((fitN m e more u).2=true→more=true∨ ¬vN m e≤vN (fitN m e more u).1 u):=by
 unfold fitN
 rw[if_neg h]
 simp only
 have hk:=Nat.two_pow_pos (u-e).toNat
 have e1: ∀n,vN n u=vN (n*2^(u-e).toNat) e:=fun n=>vN_down n u e (by omega)
 have h1:=Nat.div_add_mod' m (2^(u-e).toNat)
 have h2:=Nat.mod_lt m hk
 rw[e1,e1,vN_le,vN_le,Nat.succ_mul]
 refine⟨by omega,by omega,?_,?_⟩
 ·intro h3
  simp only[Bool.or_eq_false_iff,decide_eq_false_iff_not,Decidable.not_not]at h3
  refine⟨h3.1,?_⟩
  congr 1;omega
 ·intro h3
  simp only[Bool.or_eq_true,decide_eq_true_eq]at h3
  refine h3.imp id fun h4=>?_
  rw[vN_le];omega
theorem cut_down {L:Rat→Prop} (hL: ∀a b,a≤b→L b→L a) {m:Nat} {e:Int} {more:Bool} {p:Nat} (hp:8≤p∧p≤512) (h0:L (vN m e)) (h1: ∀z,L z→z≤vN (m+1) e) (h1': ¬L (vN (m+1) e)) (hx:more=false→ ∀z,L z→z≤vN m e) (hm:more=true→p<bl m) (he:m=0→e≤16384):
 (cutN m e more p false).2=0∧L (dv (cutN m e more p false).1)∧inF p (dv (cutN m e more p false).1)∧ ∀z,inF p z→L z→z≤dv (cutN m e more p false).1:=by
 have hub:=unN_bd m e p
 have huc:=unN_cases m e p
 have hfb:=fitN_bl m e more p
 have hup:upN (fitN m e more (unN m e p)) false=(fitN m e more (unN m e p)).1:=by unfold upN;simp
 have hlead:unN m e p=e+bl m-p→m≠0→pw (unN m e p+p-1)≤vN (fitN m e more (unN m e p)).1 (unN m e p)∧pw (unN m e p+p-1)≤vN m e:=by
  intro h hm0
  have hb0:bl m≠0:=fun c=>hm0 (bl_pos.1 c)
  have h2:pw (unN m e p+p-1)≤vN m e:=top_le_vN (by omega) hm0
  refine⟨?_,h2⟩
  by_cases hu:unN m e p≤e
  ·have:vN (fitN m e more (unN m e p)).1 (unN m e p)=vN m e:=by
    unfold fitN
    rw[if_pos hu]
    exact(vN_down m e _ hu).symm
   rw[this];exact h2
  ·have h3:(fitN m e more (unN m e p)).1=m/2^(unN m e p-e).toNat :=by unfold fitN;rw[if_neg hu]
   have h4:2^(p-1)≤m/2^(unN m e p-e).toNat :=by
    rw[Nat.le_div_iff_mul_le (Nat.two_pow_pos _),←Nat.pow_add]
    exact(bl_ge hm0).1 (by omega)
   rw[h3]
   have h5:vN (2^(p-1)) (unN m e p)≤vN (m/2^(unN m e p-e).toNat) (unN m e p):=vN_le.2 h4
   rw[vN_pow]at h5
   refine Rat.le_trans (pw_le.2 (by omega)) h5
 have hq1:L (vN (fitN m e more (unN m e p)).1 (unN m e p)):=by
  by_cases hu:unN m e p≤e
  ·have:vN (fitN m e more (unN m e p)).1 (unN m e p)=vN m e:=by
    unfold fitN
    rw[if_pos hu]
    exact(vN_down m e _ hu).symm
   rw[this];exact h0
  ·exact hL _ _ (fitN_lo hu).1 h0
 have hq2: ∀j,L (vN j (unN m e p))→vN j (unN m e p)≤vN (fitN m e more (unN m e p)).1 (unN m e p):=by
  intro j hj
  by_cases hu:unN m e p≤e
  ·have hmf:more=false:=by
    cases hmo:more with
    |false=>rfl
    |true=>
     have:=hm hmo
     rcases huc with h|h<;>omega
   have:vN (fitN m e more (unN m e p)).1 (unN m e p)=vN m e:=by
    unfold fitN
    rw[if_pos hu]
    exact(vN_down m e _ hu).symm
   rw[this];exact hx hmf _ hj
  ·rw[vN_le]
   refine Nat.not_lt.1 fun c=>?_
   have h3:vN ((fitN m e more (unN m e p)).1+1) (unN m e p)≤vN j (unN m e p):=vN_le.2 c
   exact h1' (hL _ _ (Rat.le_trans (fitN_lo hu).2.1 h3) hj)
 unfold cutN
 rw[hup]
 generalize (fitN m e more (unN m e p)).1=q at*
 generalize unN m e p=w at*
 split
 ·rename_i hov
  simp only[Bool.false_eq_true,if_false]
  have hq0:q≠0:=fun c=>by
   rw[c,bl_zero]at hov
   rcases huc with h|h
   ·by_cases hm0:m=0
    ·have:=he hm0;rw[hm0,bl_zero]at h;omega
    ·have h3:=(hlead h hm0).1
     rw[c,vN_zero]at h3
     exact Rat.not_le.2 (pw_pos _) h3
   ·omega
  have hbig:pw 16384≤vN q w:=top_le_vN (by omega) hq0
  rw[dv_cnN,if_neg (by decide)]
  have hp2:=Nat.two_pow_pos p
  have hlt:vN (2^p-1) (16384-p)<pw 16384:=by
   have:vN (2^p-1) (16384-p)<vN (2^p) (16384-p):=vN_lt.2 (by omega)
   rw[vN_pow]at this
   have e2:(16384-(p:Int)+p)=16384:=by omega
   rwa [e2]at this
  refine⟨trivial,hL _ _ (Rat.le_trans (Rat.le_of_lt hlt) hbig) hq1,⟨2^p-1,16384-p,rfl,by omega,by omega,hlt⟩,fun z hz _=>?_⟩
  obtain⟨k,u,rfl,hk,hu,hz16⟩:=hz
  rcases grid (w:=16384-p) hk (u:=u)with ⟨_,j,hj⟩|⟨_,hj⟩
  ·rw[hj]at hz16⊢
   rw[vN_le]
   have e3:pw 16384=vN (2^p) (16384-p):=by rw[vN_pow];congr 1;omega
   rw[e3,vN_lt]at hz16
   omega
  ·refine Rat.le_trans hj ?_
   have e4:pw (16384-(p:Int)+p-1)=vN (2^(p-1)) (16384-p):=by rw[vN_pow];congr 1;omega
   rw[e4,vN_le]
   have:2^p=2*2^(p-1):=by rw[Nat.mul_comm,←Nat.pow_succ];congr 1;omega
   have:=Nat.two_pow_pos (p-1)
   omega
 ·rename_i hov
  simp only
  rw[dv_cnN,if_neg (by decide)]
  refine⟨trivial,hq1,⟨q,w,rfl,?_,hub,vN_lt_top (by omega)⟩,fun z hz hLz=>?_⟩
  ·exact Nat.le_of_lt (Nat.lt_of_lt_of_le (lt_bl q) (Nat.pow_le_pow_right (by decide) hfb))
  ·obtain⟨k,u,rfl,hk,hu,_⟩:=hz
   rcases grid (w:=w) hk (u:=u)with ⟨_,j,hj⟩|⟨hlt,hj⟩
   ·rw[hj]at hLz⊢
    exact hq2 j hLz
   ·rcases huc with h|h
    ·by_cases hm0:m=0
     ·subst hm0
      have hmf:more=false:=by
       cases hmo:more with
       |false=>rfl
       |true=>have:=hm hmo;rw[bl_zero]at this;omega
      have h3:=hx hmf _ hLz
      rw[vN_zero]at h3
      exact Rat.le_trans h3 (vN_nn q w)
     ·exact Rat.le_trans hj (hlead h hm0).1
    ·omega
end Go.Proofs.YtajnlbbgolmklaaGreatDoor

namespace Go.Proofs.YtajnlbbgolmklaaGreatDoor
open Go Go.Sx
set_option maxHeartbeats 2000000
theorem rle_anti {a b:Rat} (h1:a≤b) (h2:b≤a):a=b:=by grind
theorem cut_up {U:Rat→Prop} (hU: ∀a b,a≤b→U a→U b) {m:Nat} {e:Int} {more:Bool} {p:Nat} (hp:8≤p∧p≤512) (h0:more=false→U (vN m e)) (h0':U (vN (m+1) e)) (h1: ∀z,U z→vN m e≤z) (h1':more=true→ ¬U (vN m e)) (hm:more=true→p<bl m) (he:m=0→e≤16384):
 ((cutN m e more p true).2=0→U (dv (cutN m e more p true).1)∧inF p (dv (cutN m e more p true).1))∧ ∀z,inF p z→U z→(cutN m e more p true).2=0∧dv (cutN m e more p true).1≤z:=by
 have hub:=unN_bd m e p
 have huc:=unN_cases m e p
 have hfb:=fitN_bl m e more p
 have hmf:unN m e p≤e→more=false:=fun hu=>by
  cases hmo:more with
  |false=>rfl
  |true=>
   have:=hm hmo
   rcases huc with h|h<;>omega
 have hex:unN m e p≤e→vN (fitN m e more (unN m e p)).1 (unN m e p)=vN m e∧(fitN m e more (unN m e p)).2=false:=fun hu=>by
  have:=hmf hu
  unfold fitN
  rw[if_pos hu]
  exact⟨(vN_down m e _ hu).symm,this⟩
 have hA:U (vN (upN (fitN m e more (unN m e p)) true) (unN m e p)):=by
  by_cases hu:unN m e p≤e
  ·obtain⟨e1,e2⟩:=hex hu
   unfold upN
   rw[e2]
   simp only[Bool.and_false,Bool.false_eq_true,if_false]
   rw[e1];exact h0 (hmf hu)
  ·obtain⟨f1,f2,f3,f4⟩:=fitN_lo (m:=m) (more:=more) hu
   unfold upN
   cases hF:(fitN m e more (unN m e p)).2 with
   |false=>
    simp only[Bool.and_false,Bool.false_eq_true,if_false]
    obtain⟨g1,g2⟩:=f3 hF
    rw[g2];exact h0 g1
   |true=>
    simp only[Bool.and_self,if_true]
    exact hU _ _ f2 h0'
 have hB: ∀j,U (vN j (unN m e p))→upN (fitN m e more (unN m e p)) true≤j:=by
  intro j hj
  have hle:=h1 _ hj
  by_cases hu:unN m e p≤e
  ·obtain⟨e1,e2⟩:=hex hu
   unfold upN
   rw[e2]
   simp only[Bool.and_false,Bool.false_eq_true,if_false]
   rw[←e1,vN_le]at hle
   exact hle
  ·obtain⟨f1,f2,f3,f4⟩:=fitN_lo (m:=m) (more:=more) hu
   unfold upN
   cases hF:(fitN m e more (unN m e p)).2 with
   |false=>
    simp only[Bool.and_false,Bool.false_eq_true,if_false]
    obtain⟨g1,g2⟩:=f3 hF
    rw[←g2,vN_le]at hle
    exact hle
   |true=>
    simp only[Bool.and_self,if_true]
    refine Nat.not_le.1 fun c=>?_
    have h3:vN j (unN m e p)≤vN (fitN m e more (unN m e p)).1 (unN m e p):=vN_le.2 c
    rcases f4 hF with h|h
    ·refine h1' h ?_
     rw[rle_anti hle (Rat.le_trans h3 f1)];exact hj
    ·exact h (Rat.le_trans hle h3)
 have hq0:m=0→upN (fitN m e more (unN m e p)) true=0:=fun h=>by
  have hmo:more=false:=by
   cases hmo:more with
   |false=>rfl
   |true=>have:=hm hmo;rw[h,bl_zero]at this;omega
  subst h hmo
  unfold fitN upN
  split<;>simp
 have hle:upN (fitN m e more (unN m e p)) true≤2^p:=by
  have h3:(fitN m e more (unN m e p)).1<2^p:=Nat.lt_of_lt_of_le (lt_bl _) (Nat.pow_le_pow_right (by decide) hfb)
  unfold upN
  split<;>omega
 have hlead: ∀z,U z→z≤pw (unN m e p+p-1)→unN m e p=e+bl m-p→vN (upN (fitN m e more (unN m e p)) true) (unN m e p)≤z:=by
  intro z hz hz2 h
  by_cases hm0:m=0
  ·rw[hq0 hm0,vN_zero]
   exact Rat.le_trans (vN_nn m e) (h1 z hz)
  ·have hb0:bl m≠0:=fun c=>hm0 (bl_pos.1 c)
   have h2:pw (unN m e p+p-1)≤vN m e:=top_le_vN (by omega) hm0
   have h3:z=vN (2^(p-1)) (unN m e p):=by
    rw[vN_pow]
    have:unN m e p+((p-1:Nat):Int)=unN m e p+p-1:=by omega
    rw[this]
    exact rle_anti hz2 (Rat.le_trans h2 (h1 z hz))
   rw[h3]at hz⊢
   exact vN_le.2 (hB _ hz)
 have hall: ∀z,inF p z→U z→vN (upN (fitN m e more (unN m e p)) true) (unN m e p)≤z:=by
  intro z hz hUz
  obtain⟨k,u,rfl,hk,hu,_⟩:=hz
  rcases grid (w:=unN m e p) hk (u:=u)with ⟨_,j,hj⟩|⟨hlt,hj⟩
  ·rw[hj]at hUz⊢
   exact vN_le.2 (hB j hUz)
  ·rcases huc with h|h
   ·exact hlead _ hUz hj h
   ·omega
 unfold cutN
 generalize upN (fitN m e more (unN m e p)) true=q at*
 generalize unN m e p=w at*
 by_cases hov:16384<(bl q:Int)+w
 ·rw[if_pos hov]
  simp only[if_true]
  refine⟨fun h=>absurd h (by decide),fun z hz hUz=>?_⟩
  have hqn:q≠0:=fun c=>by
   rw[c,bl_zero]at hov
   rcases huc with h|h
   ·by_cases hm0:m=0
    ·have:=he hm0;rw[hm0,bl_zero]at h;omega
    ·have hb0:bl m≠0:=fun c=>hm0 (bl_pos.1 c)
     rw[c,vN_zero]at hA
     have h3:=h1 _ hA
     have h4:pw (w+p-1)≤vN m e:=top_le_vN (by omega) hm0
     exact Rat.not_le.2 (pw_pos _) (Rat.le_trans h4 h3)
   ·omega
  have h3:=hall z hz hUz
  have h4:pw 16384≤vN q w:=top_le_vN (by omega) hqn
  obtain⟨_,_,_,_,_,h5⟩:=hz
  exact absurd (Rat.le_trans h4 h3) (Rat.not_le.2 h5)
 ·rw[if_neg hov]
  simp only
  rw[dv_cnN,if_neg (by decide)]
  exact⟨fun _=>⟨hA,q,w,rfl,hle,hub,vN_lt_top (by omega)⟩,fun z hz hUz=>⟨trivial,hall z hz hUz⟩⟩
def Fp (p:Nat) (z:Rat):Prop:=inF p z∨inF p (-z)
def RD (p:Nat) (L:Rat→Prop) (r:Dy×Int):Prop:=(r.2=0→L (dv r.1)∧Fp p (dv r.1))∧ ∀z,Fp p z→L z→r.2=0∧z≤dv r.1
def RU (p:Nat) (U:Rat→Prop) (r:Dy×Int):Prop:=(r.2=0→U (dv r.1)∧Fp p (dv r.1))∧ ∀z,Fp p z→U z→r.2=0∧dv r.1≤z
theorem dv_neg {d:Dy}:dv (negD d)= -dv d:=by
 unfold negD dv
 by_cases h:nm d=0
 ·rw[if_pos h,if_neg (by decide),nm_d0,h,vN_zero,vN_zero];split<;>rfl
 ·rw[if_neg h]
  have h2:nm ⟨!d.neg,d.m,d.e⟩=nm d:=rfl
  rw[h2]
  cases d.neg<;>simp
theorem dv_d0:dv d0=0:=by
 unfold dv
 rw[if_neg (by decide),nm_d0,vN_zero]
theorem inF_zero (p:Nat):inF p 0:=⟨0,0,(vN_zero 0).symm,Nat.zero_le _,by decide,pw_pos _⟩
theorem inF_nn {p:Nat} {z:Rat} (h:inF p z):0≤z:=by
 obtain⟨k,u,rfl,_⟩:=h
 exact vN_nn k u
theorem rnd_laws {L U:Rat→Prop} {m:Nat} {e:Int} {more:Bool} {p:Nat} (hp:8≤p∧p≤512) (neg:Bool)
 (hL: ∀a b,a≤b→L b→L a) (hU: ∀a b,a≤b→U a→U b) (l0:L (vN m e)) (l1: ∀z,L z→z≤vN (m+1) e) (l1': ¬L (vN (m+1) e)) (lx:more=false→ ∀z,L z→z≤vN m e)
 (u0:more=false→U (vN m e)) (u0':U (vN (m+1) e)) (u1: ∀z,U z→vN m e≤z) (u1':more=true→ ¬U (vN m e)) (hm:more=true→p<bl m) (he:m=0→e≤16384):
 RD p (fun z=>if neg=true then U (-z)else L z) (rndN neg m e more p false)∧RU p (fun z=>if neg=true then L (-z)else U z) (rndN neg m e more p true):=by
 have hL0:L 0:=hL _ _ (vN_nn m e) l0
 obtain⟨d1,d2,d3,d4⟩:=cut_down hL hp l0 l1 l1' lx hm he
 obtain⟨c1,c2⟩:=cut_up hU hp u0 u0' u1 u1' hm he
 have hUn: ∀z,U z→0≤z:=fun z hz=>Rat.le_trans (vN_nn m e) (u1 z hz)
 have hr0:0≤dv (cutN m e more p false).1:=inF_nn d3
 cases neg with
 |false=>
  have e1:rndN false m e more p false=cutN m e more p false:=by unfold rndN;rw[if_neg (by simp)];rfl
  have e2:rndN false m e more p true=cutN m e more p true:=by unfold rndN;rw[if_neg (by simp)];rfl
  rw[e1,e2]
  refine⟨⟨fun _=>⟨by simpa using d2,.inl d3⟩,fun z hz hz2=>⟨d1,?_⟩⟩,⟨fun h=>?_,fun z hz hz2=>?_⟩⟩
  ·rcases hz with hz|hz
   ·exact d4 z hz (by simpa using hz2)
   ·have:=inF_nn hz;grind
  ·obtain⟨h1,h2⟩:=c1 h
   exact⟨by simpa using h1,.inl h2⟩
  ·have hz3:U z:=by simpa using hz2
   rcases hz with hz|hz
   ·exact c2 z hz hz3
   ·have h3:=inF_nn hz
    have h4:=hUn z hz3
    have h5:z=0:=by grind
    subst h5
    exact c2 0 (inF_zero p) hz3
 |true=>
  have e1:rndN true m e more p false=if(cutN m e more p true).2=0 then(negD (cutN m e more p true).1,0)else cutN m e more p true:=by
   unfold rndN
   simp only[and_true]
   rfl
  have e2:rndN true m e more p true=(negD (cutN m e more p false).1,0):=by
   unfold rndN
   simp only[and_true]
   rw[if_pos (by exact d1)];rfl
  rw[e1,e2]
  refine⟨⟨fun h=>?_,fun z hz hz2=>?_⟩,⟨fun _=>?_,fun z hz hz2=>⟨rfl,?_⟩⟩⟩
  ·by_cases hc:(cutN m e more p true).2=0
   ·rw[if_pos hc]
    obtain⟨h1,h2⟩:=c1 hc
    simp only[dv_neg,if_true]
    refine⟨?_,.inr ?_⟩
    ·rw[Rat.neg_neg];exact h1
    ·rw[Rat.neg_neg];exact h2
   ·rw[if_neg hc]at h;exact absurd h hc
  ·have hz3:U (-z):=by simpa using hz2
   have hz4:inF p (-z):=by
    rcases hz with hz|hz
    ·have h3:=inF_nn hz
     have h4:=hUn _ hz3
     have h5:z=0:=by grind
     subst h5
     have:(-0:Rat)=0:=by grind
     rw[this];exact inF_zero p
    ·exact hz
   obtain⟨h1,h2⟩:=c2 _ hz4 hz3
   rw[if_pos h1]
   refine⟨rfl,?_⟩
   simp only[dv_neg]
   grind
  ·simp only[dv_neg,if_true]
   refine⟨?_,.inr ?_⟩
   ·rw[Rat.neg_neg];exact d2
   ·rw[Rat.neg_neg];exact d3
  ·have hz3:L (-z):=by simpa using hz2
   simp only[dv_neg]
   rcases hz with hz|hz
   ·have:=inF_nn hz;grind
   ·have:=d4 _ hz hz3;grind
end Go.Proofs.YtajnlbbgolmklaaGreatDoor

namespace Go.Proofs.YtajnlbbgolmklaaGreatDoor
open Go Go.Sx
set_option maxHeartbeats 2000000
theorem RD.congr {p:Nat} {L L':Rat→Prop} {r:Dy×Int} (h:RD p L r) (hl: ∀z,L z↔L' z):RD p L' r:=
 ⟨fun e=>⟨(hl _).1 (h.1 e).1,(h.1 e).2⟩,fun z hz hz2=>h.2 z hz ((hl z).2 hz2)⟩
theorem RU.congr {p:Nat} {U U':Rat→Prop} {r:Dy×Int} (h:RU p U r) (hl: ∀z,U z↔U' z):RU p U' r:=
 ⟨fun e=>⟨(hl _).1 (h.1 e).1,(h.1 e).2⟩,fun z hz hz2=>h.2 z hz ((hl z).2 hz2)⟩
def RT (p:Nat) (y:Rat) (F:Bool→Dy×Int):Prop:=RD p (fun z=>z≤y) (F false)∧RU p (fun z=>y≤z) (F true)
theorem rnd_real {x:Rat} {m:Nat} {e:Int} {more:Bool} {p:Nat} (hp:8≤p∧p≤512) (neg:Bool) (h1:vN m e≤x) (h2:x<vN (m+1) e) (h3:more=false→x=vN m e) (h4:more=true→vN m e<x) (hm:more=true→p<bl m) (he:m=0→e≤16384):
 RT p (if neg=true then-x else x) (fun up=>rndN neg m e more p up):=by
 obtain⟨a,b⟩:=rnd_laws (L:=fun z=>z≤x) (U:=fun z=>x≤z) hp neg (fun a b h1 h2=>Rat.le_trans h1 h2) (fun a b h1 h2=>Rat.le_trans h2 h1) h1 (fun z hz=>Rat.le_trans hz (Rat.le_of_lt h2)) (Rat.not_le.2 h2)
  (fun h z hz=>by rw[←h3 h];exact hz) (fun h=>by rw[h3 h];exact Rat.le_refl) (Rat.le_of_lt h2) (fun z hz=>Rat.le_trans h1 hz) (fun h=>Rat.not_le.2 (h4 h)) hm he
 refine⟨a.congr fun z=>?_,b.congr fun z=>?_⟩
 ·cases neg with
  |true=>simp only[if_true];constructor<;>intro h<;>grind
  |false=>simp
 ·cases neg with
  |true=>simp only[if_true];constructor<;>intro h<;>grind
  |false=>simp
theorem vN_succ_lt (m:Nat) (e:Int):vN m e<vN (m+1) e:=vN_lt.2 (Nat.lt_succ_self m)
theorem rnd_exact {m:Nat} {e:Int} {p:Nat} (hp:8≤p∧p≤512) (neg:Bool) (he:m=0→e≤16384):
 RT p (if neg=true then-(vN m e)else vN m e) (fun up=>rndN neg m e false p up):=
 rnd_real hp neg Rat.le_refl (vN_succ_lt m e) (fun _=>rfl) (fun h=>by cases h) (fun h=>by cases h) he
theorem round_RT {d:Dy} (hd:VD d) {p:Nat} (hp:8≤p∧p≤512):RT p (dv d) (fun up=>roundD d p up):=by
 have:=rnd_exact (m:=nm d) (e:=d.e) hp d.neg (fun _=>hd.exp.2.1)
 exact this
theorem vN_mul (a b:Nat) (e f:Int):vN a e*vN b f=vN (a*b) (e+f):=by
 unfold vN
 rw[pwA,natR_mul]
 grind
theorem dv_mul {a b:Dy}:dv a*dv b=if(a.neg != b.neg)=true then-(vN (nm a*nm b) (a.e+b.e))else vN (nm a*nm b) (a.e+b.e):=by
 rw[←vN_mul]
 unfold dv
 cases a.neg<;>cases b.neg<;>simp<;>grind
theorem zero_e {d:Dy} (h:VD d) (h0:nm d=0):d.e=0:=by
 rcases h.ok with ⟨_,_,h3⟩|⟨h3,_⟩
 ·exact h3
 ·omega
theorem mul_RT {a b:Dy} (ha:VD a) (hb:VD b) {p:Nat} (hp:8≤p∧p≤512):RT p (dv a*dv b) (fun up=>mulD a b p up):=by
 rw[dv_mul]
 refine rnd_exact hp _ fun h=>?_
 have a2:=ha.exp
 have b2:=hb.exp
 rcases Nat.mul_eq_zero.1 h with h|h
 ·have:=zero_e ha h;omega
 ·have:=zero_e hb h;omega
theorem vN_pos {n:Nat} (e:Int) (h:n≠0):0<vN n e:=by
 rw[←vN_zero e,vN_lt];omega
theorem div_le {a b c:Rat} (hb:0<b):c≤a/b↔c*b≤a:=by
 have e:a/b*b=a:=by grind
 constructor
 ·intro h
  have:=mul_le_r h (Rat.le_of_lt hb)
  rwa [e]at this
 ·intro h
  exact le_of_mul_r (by rw[e];exact h) hb
theorem div_lt {a b c:Rat} (hb:0<b):a/b<c↔a<c*b:=by
 have:=div_le (a:=a) (c:=c) hb
 constructor
 ·intro h;exact Rat.not_le.1 fun x=>Rat.not_le.2 h (this.2 x)
 ·intro h;exact Rat.not_le.1 fun x=>Rat.not_le.2 h (this.1 x)
theorem div_bits {x y p:Nat} (hx:x≠0) (hy:y≠0):p<bl (x*2^(p+3+bl y-bl x)/y):=by
 have hk:=bl_mul_pow x (p+3+bl y-bl x) hx
 generalize x*2^(p+3+bl y-bl x)=X at*
 have hX:X≠0:=fun c=>by rw[c,bl_zero]at hk;have:bl x≠0:=fun c=>hx (bl_pos.1 c);omega
 have h1:2^(p+2+bl y)≤X:=(bl_ge hX).1 (by omega)
 have h2:2^(p+2)≤X/y:=by
  rw[Nat.le_div_iff_mul_le (Nat.pos_of_ne_zero hy)]
  rw[Nat.pow_add]at h1
  exact Nat.le_trans (Nat.mul_le_mul_left _ (Nat.le_of_lt (lt_bl y))) h1
 have h3:X/y≠0:=by have:=Nat.two_pow_pos (p+2);omega
 have:=(bl_ge h3).2 h2
 omega
theorem div_RT {a b:Dy} (ha:VD a) (hb':VD b) (hb0:nm b≠0) {p:Nat} (hp:8≤p∧p≤512):RT p (dv a/dv b) (fun up=>divD a b p up):=by
 have hb:0<vN (nm b) b.e:=vN_pos _ hb0
 have hv:dv a/dv b=if(a.neg != b.neg)=true then-(vN (nm a) a.e/vN (nm b) b.e)else vN (nm a) a.e/vN (nm b) b.e:=by
  unfold dv
  cases a.neg<;>cases b.neg<;>simp<;>grind
 have hD:(fun up=>divD a b p up)=fun up=>rndN (a.neg != b.neg) (nm a*2^divK a b p/nm b) (a.e-divK a b p-b.e) (decide (nm a*2^divK a b p % nm b≠0)) p up:=by
  funext up;unfold divD;rw[if_neg hb0]
 rw[hv,hD]
 have hx:vN (nm a) a.e=vN (nm a*2^divK a b p) (a.e-divK a b p):=by rw[vN_scale];congr 1;omega
 have hq: ∀q,vN q (a.e-divK a b p-b.e)*vN (nm b) b.e=vN (q*nm b) (a.e-divK a b p):=fun q=>by rw[vN_mul];congr 1;omega
 have hdm:=Nat.div_add_mod' (nm a*2^divK a b p) (nm b)
 have hml:=Nat.mod_lt (nm a*2^divK a b p) (Nat.pos_of_ne_zero hb0)
 refine rnd_real hp _ ?_ ?_ ?_ ?_ ?_ ?_
 ·rw[div_le hb,hq,hx,vN_le];omega
 ·rw[div_lt hb,hq,hx,vN_lt,Nat.succ_mul];omega
 ·intro h
  have h:nm a*2^divK a b p % nm b=0:=by simpa using h
  have e1:vN (nm a*2^divK a b p/nm b) (a.e-divK a b p-b.e)*vN (nm b) b.e=vN (nm a) a.e:=by
   rw[hq,hx];congr 1;omega
  rw[←e1]
  have:vN (nm b) b.e≠0:=fun c=>by rw[c]at hb;grind
  grind
 ·intro h
  have h:nm a*2^divK a b p % nm b≠0:=by simpa using h
  refine Rat.not_le.1 fun c=>?_
  have h2:=mul_le_r c (Rat.le_of_lt hb)
  have e1:vN (nm a) a.e/vN (nm b) b.e*vN (nm b) b.e=vN (nm a) a.e:=by
   have:vN (nm b) b.e≠0:=fun c=>by rw[c]at hb;grind
   grind
  rw[e1,hq,hx,vN_le]at h2
  omega
 ·intro h
  have h:nm a*2^divK a b p % nm b≠0:=by simpa using h
  have ha0:nm a≠0:=fun c=>by rw[c,Nat.zero_mul,Nat.zero_mod]at h;exact h rfl
  exact div_bits ha0 hb0
 ·intro h
  by_cases ha0:nm a=0
  ·have h1:=zero_e ha ha0
   have h2:=hb'.exp
   omega
  ·have:=div_bits (p:=p) ha0 hb0
   have h2:nm a*2^divK a b p/nm b=nm a*2^(p+3+bl (nm b)-bl (nm a))/nm b:=rfl
   rw[←h2,h,bl_zero]at this
   omega
def sqL (v z:Rat):Prop:=z≤0∨z*z≤v
def sqU (v z:Rat):Prop:=0≤z∧v≤z*z
theorem sq_mono {a b:Rat} (h0:0≤a) (h:a≤b):a*a≤b*b:=by
 have h1:a*a≤b*a:=mul_le_r h h0
 have h2:a*b≤b*b:=mul_le_r h (by grind)
 grind
theorem sq_inv {a b:Rat} (h0:0≤b) (h:a*a≤b*b):a≤b:=by
 refine Rat.not_lt.1 fun c=>?_
 have h1:b*b≤b*a:=by
  have:=mul_le_r (Rat.le_of_lt c) h0
  grind
 have h2:b*a<a*a:=by
  have:=Rat.mul_lt_mul_of_pos_right c (show 0<a by grind)
  exact this
 grind
theorem sqrt_laws {d:Dy} (hn:d.neg=false) {p:Nat} (hp:8≤p∧p≤512) (h0:nm d≠0):RD p (sqL (dv d)) (sqrtD d p false)∧RU p (sqU (dv d)) (sqrtD d p true):=by
 have hdv:dv d=vN (nm d) d.e:=by unfold dv;rw[hn,if_neg (by decide)]
 have hpar:(d.e-sqK d p) % 2=0:=by unfold sqK;split<;>omega
 have hD: ∀up,sqrtD d p up=rndN false (sqN (nm d*2^sqK d p)) ((d.e-sqK d p)/2) (decide (sqN (nm d*2^sqK d p)*sqN (nm d*2^sqK d p)≠nm d*2^sqK d p)) p up:=fun up=>by
  unfold sqrtD rndN
  rw[if_neg h0,if_neg (by simp)]
  cases up<;>rfl
 have hx:dv d=vN (nm d*2^sqK d p) (d.e-sqK d p):=by rw[hdv,vN_scale];congr 1;omega
 have hs: ∀q,vN q ((d.e-sqK d p)/2)*vN q ((d.e-sqK d p)/2)=vN (q*q) (d.e-sqK d p):=fun q=>by rw[vN_mul];congr 1;omega
 obtain⟨s1,s2⟩:=sqN_spec (nm d*2^sqK d p)
 have hM:2^(2*p+3)≤nm d*2^sqK d p:=by
  have hk:=bl_mul_pow (nm d) (sqK d p) h0
  have hne:nm d*2^sqK d p≠0:=Nat.mul_ne_zero h0 (by have:=Nat.two_pow_pos (sqK d p);omega)
  refine(bl_ge hne).1 ?_
  have:2*p+4-bl (nm d)≤sqK d p:=by unfold sqK;split<;>omega
  omega
 have hbits:p<bl (sqN (nm d*2^sqK d p)):=by
  have h1:2^(p+1)≤sqN (nm d*2^sqK d p):=by
   refine Nat.not_lt.1 fun c=>?_
   have h2:(sqN (nm d*2^sqK d p)+1)*(sqN (nm d*2^sqK d p)+1)≤2^(p+1)*2^(p+1):=Nat.mul_le_mul c c
   rw[←Nat.pow_add]at h2
   have h3:2^(p+1+(p+1))≤2^(2*p+3):=Nat.pow_le_pow_right (by decide) (by omega)
   omega
  have hne:sqN (nm d*2^sqK d p)≠0:=by have:=Nat.two_pow_pos (p+1);omega
  have:=(bl_ge hne).2 h1
  omega
 rw[hD,hD,hx]
 generalize nm d*2^sqK d p=M at*
 generalize sqN M=s at*
 generalize (d.e-(sqK d p:Int))/2=e at*
 generalize d.e-(sqK d p:Int)=f at*
 have hv0:0≤vN M f:=vN_nn M f
 have l0:vN s e*vN s e≤vN M f:=by rw[hs,vN_le];exact s1
 have l1:vN M f<vN (s+1) e*vN (s+1) e:=by rw[hs,vN_lt];exact s2
 obtain⟨a,b⟩:=rnd_laws (L:=sqL (vN M f)) (U:=sqU (vN M f)) (m:=s) (e:=e) (more:=decide (s*s≠M)) hp false
  (fun a b h1 h2=>by
    rcases h2 with h2|h2
    ·exact .inl (Rat.le_trans h1 h2)
    ·by_cases ha:a≤0
     ·exact .inl ha
     ·exact .inr (Rat.le_trans (sq_mono (Rat.le_of_lt (Rat.not_le.1 ha)) h1) h2))
  (fun a b h1 h2=>⟨Rat.le_trans h2.1 h1,Rat.le_trans h2.2 (sq_mono h2.1 h1)⟩)
  (.inr l0)
  (fun z hz=>by
    rcases hz with hz|hz
    ·exact Rat.le_trans hz (vN_nn _ _)
    ·exact sq_inv (vN_nn _ _) (Rat.le_trans hz (Rat.le_of_lt l1)))
  (fun h=>by
    rcases h with h|h
    ·exact Rat.not_le.2 (vN_pos e (Nat.succ_ne_zero s)) h
    ·exact Rat.not_le.2 l1 h)
  (fun h z hz=>by
    have h:s*s=M:=by simpa using h
    rcases hz with hz|hz
    ·exact Rat.le_trans hz (vN_nn _ _)
    ·refine sq_inv (vN_nn _ _) ?_
     rw[hs,h];exact hz)
  (fun h=>by
    have h:s*s=M:=by simpa using h
    exact⟨vN_nn _ _,by rw[hs,h];exact Rat.le_refl⟩)
  ⟨vN_nn _ _,Rat.le_of_lt l1⟩
  (fun z hz=>sq_inv hz.1 (Rat.le_trans l0 hz.2))
  (fun h hU=>by
    have h:s*s≠M:=by simpa using h
    have h2:=hU.2
    rw[hs,vN_le]at h2
    omega)
  (fun _=>hbits)
  (fun h=>by rw[h,bl_zero]at hbits;omega)
 exact⟨a.congr fun z=>by simp,b.congr fun z=>by simp⟩
end Go.Proofs.YtajnlbbgolmklaaGreatDoor

namespace Go.Proofs.YtajnlbbgolmklaaGreatDoor
open Go Go.Sx
set_option maxHeartbeats 2000000
theorem dv_zi (d:Dy) (t:Int) (h:t≤d.e):dv d=(zi d t:Rat)*pw t:=by
 have e:vN (nm d) d.e=((nm d*2^(d.e-t).toNat :Nat):Rat)*pw t:=by rw[vN_down _ _ t h];rfl
 unfold dv zi
 rw[e]
 cases d.neg with
 |true=>
  simp only[if_true,Rat.intCast_neg,Rat.intCast_natCast]
  rw[Rat.neg_mul]
 |false=>
  simp only[Bool.false_eq_true,if_false,Rat.intCast_natCast]
theorem ordZ_spec (x y:Int):(ordZ x y<0↔x<y)∧(0<ordZ x y↔y<x)∧(ordZ x y=0↔x=y):=by
 unfold ordZ
 split
 ·omega
 ·split<;>omega
theorem pw_lt_iff {x y t:Rat} (ht:0<t):x*t<y*t↔x<y:=by
 constructor
 ·intro h;exact Rat.not_le.1 fun c=>Rat.not_le.2 h (mul_le_r c (Rat.le_of_lt ht))
 ·intro h;exact Rat.mul_lt_mul_of_pos_right h ht
theorem cmpD_spec (a b:Dy):(cmpD a b<0↔dv a<dv b)∧(0<cmpD a b↔dv b<dv a)∧(cmpD a b=0↔dv a=dv b):=by
 have ha:=dv_zi a (min a.e b.e) (by omega)
 have hb:=dv_zi b (min a.e b.e) (by omega)
 have hp:=pw_pos (min a.e b.e)
 obtain⟨h1,h2,h3⟩:=ordZ_spec (zi a (min a.e b.e)) (zi b (min a.e b.e))
 rw[ha,hb]
 unfold cmpD
 rw[h1,h2,h3,pw_lt_iff hp,pw_lt_iff hp,Rat.intCast_lt_intCast,Rat.intCast_lt_intCast]
 refine⟨Iff.rfl,Iff.rfl,⟨fun h=>by rw[h],fun h=>?_⟩⟩
 have h4: ¬((zi a (min a.e b.e):Rat)<zi b (min a.e b.e)):=fun c=>by have:=(pw_lt_iff hp).2 c;rw[h]at this;exact Rat.lt_irrefl this
 have h5: ¬((zi b (min a.e b.e):Rat)<zi a (min a.e b.e)):=fun c=>by have:=(pw_lt_iff hp).2 c;rw[h]at this;exact Rat.lt_irrefl this
 rw[Rat.intCast_lt_intCast]at h4 h5
 omega
theorem cmp_le {a b:Dy}:cmpD a b≤0↔dv a≤dv b:=by
 have h:=(cmpD_spec a b).2.1
 constructor
 ·intro h1;exact Rat.not_lt.1 fun c=>by have:=h.2 c;omega
 ·intro h1;exact Int.not_lt.1 fun c=>Rat.not_lt.2 h1 (h.1 c)
theorem cmp_ge {a b:Dy}:0≤cmpD a b↔dv b≤dv a:=by
 have h:=(cmpD_spec a b).1
 constructor
 ·intro h1;exact Rat.not_lt.1 fun c=>by have:=h.2 c;omega
 ·intro h1;exact Int.not_lt.1 fun c=>Rat.not_lt.2 h1 (h.1 c)
theorem sgn_spec (d:Dy):(sgnD d<0↔dv d<0)∧(0<sgnD d↔0<dv d)∧(sgnD d=0↔dv d=0):=by
 have ha:=dv_zi d d.e (Int.le_refl _)
 have hp:=pw_pos d.e
 obtain⟨h1,h2,h3⟩:=ordZ_spec (zi d d.e) 0
 rw[zi_sgn d d.e,h1,h2,h3,ha]
 have e0:(0:Rat)=((0:Int):Rat)*pw d.e:=by rw[show((0:Int):Rat)=0 from rfl,Rat.zero_mul]
 have g1:(zi d d.e:Rat)*pw d.e<0↔zi d d.e<0:=by
  conv=>lhs;rhs;rw[e0]
  rw[pw_lt_iff hp,Rat.intCast_lt_intCast]
 have g2:0<(zi d d.e:Rat)*pw d.e↔0<zi d d.e:=by
  conv=>lhs;lhs;rw[e0]
  rw[pw_lt_iff hp,Rat.intCast_lt_intCast]
 refine⟨g1.symm,g2.symm,⟨fun h=>by rw[h];exact e0.symm,fun h=>?_⟩⟩
 have k1: ¬zi d d.e<0:=fun c=>by have:=g1.2 c;rw[h]at this;exact Rat.lt_irrefl this
 have k2: ¬0<zi d d.e:=fun c=>by have:=g2.2 c;rw[h]at this;exact Rat.lt_irrefl this
 omega
theorem vN_add (a b:Nat) (e:Int):vN a e+vN b e=vN (a+b) e:=by unfold vN;rw[natR_add,Rat.add_mul]
theorem vN_sub {a b:Nat} (h:b≤a) (e:Int):vN a e-vN b e=vN (a-b) e:=by
 have:=vN_add (a-b) b e
 rw[show a-b+b=a by omega]at this
 grind
theorem fitN_desc (n:Nat) (e w:Int):vN (fitN n e false w).1 w≤vN n e∧vN n e<vN ((fitN n e false w).1+1) w∧((fitN n e false w).2=false→vN n e=vN (fitN n e false w).1 w)∧((fitN n e false w).2=true→vN (fitN n e false w).1 w<vN n e∧e<w):=by
 by_cases h:w≤e
 ·have e1:fitN n e false w=(n*2^(e-w).toNat,false):=by unfold fitN;rw[if_pos h]
  have e2:=vN_down n e w h
  rw[e1]
  simp only
  rw[←e2]
  refine⟨Rat.le_refl,?_,fun _=>rfl,fun c=>by cases c⟩
  rw[e2];exact vN_succ_lt _ _
 ·obtain⟨h1,h2,h3,h4⟩:=fitN_lo (m:=n) (more:=false) h
  refine⟨h1,rlt_le (vN_succ_lt n e) h2,fun c=>(h3 c).2.symm,fun c=>⟨?_,by omega⟩⟩
  rcases h4 c with h5|h5
  ·cases h5
  ·exact Rat.not_le.1 h5
theorem sum_RT {c d:Dy} (hc:VD c) (hd:VD d) (c0:nm c≠0) (d0':nm d≠0) (hle:topD d≤topD c) {p:Nat} (hp:8≤p∧p≤512):RT p (dv c+dv d) (fun up=>addP c d p up):=by
 obtain⟨l1,l2,l3,l4⟩:=lowS_bd hc hd c0 hle d0' hp
 have tc:topD c=bl (nm c)+c.e:=by unfold topD;rw[if_neg c0]
 have td:topD d=bl (nm d)+d.e:=by unfold topD;rw[if_neg d0']
 have hlow:d.e<lowS c d p→lowS c d p≤topD c-p-8∧2<topD c-topD d:=fun h=>by
  unfold lowS at h⊢
  by_cases h2:topD c-topD d≤2
  ·rw[if_pos h2]at h;omega
  ·rw[if_neg h2];omega
 obtain⟨f1,f2,f3,f4⟩:=fitN_desc (nm d) d.e (lowS c d p)
 have hXv:vN (nm c) c.e=vN (nm c*2^(c.e-lowS c d p).toNat) (lowS c d p):=vN_down _ _ _ l1
 have hXb:=bl_mul_pow (nm c) (c.e-lowS c d p).toNat c0
 have hFb:d.e<lowS c d p→(fitN (nm d) d.e false (lowS c d p)).1<2^(topD d-lowS c d p).toNat :=fun h=>by
  have e1:(fitN (nm d) d.e false (lowS c d p)).1=nm d/2^(lowS c d p-d.e).toNat :=by unfold fitN;rw[if_neg (by omega)]
  rw[e1,Nat.div_lt_iff_lt_mul (Nat.two_pow_pos _),←Nat.pow_add]
  exact Nat.lt_of_lt_of_le (lt_bl (nm d)) (Nat.pow_le_pow_right (by decide) (by omega))
 have hxv: ∀y:Dy,dv y=if y.neg=true then-(vN (nm y) y.e)else vN (nm y) y.e:=fun y=>rfl
 have hXge:2^((topD c-lowS c d p).toNat -1)≤nm c*2^(c.e-lowS c d p).toNat :=by
  have hX0:nm c*2^(c.e-lowS c d p).toNat ≠0:=Nat.mul_ne_zero c0 (by have:=Nat.two_pow_pos (c.e-lowS c d p).toNat;omega)
  have hb0:bl (nm c)≠0:=fun x=>c0 (bl_pos.1 x)
  exact(bl_ge hX0).1 (by omega)
 unfold addP sumN
 rw[hxv c,hxv d,hXv]
 generalize nm c*2^(c.e-lowS c d p).toNat =X at*
 generalize hF:fitN (nm d) d.e false (lowS c d p)=F at*
 generalize lowS c d p=w at*
 generalize vN (nm d) d.e=y at*
 have hX0:X≠0:=by have:=Nat.two_pow_pos ((topD c-w).toNat -1);omega
 by_cases hs:c.neg=d.neg
 ·
  rw[if_pos hs]
  simp only
  have hne: ¬(X+F.1=0∧F.2=false):=fun h=>hX0 (by omega)
  have hval:(if c.neg=true then-(vN X w)else vN X w)+(if d.neg=true then-y else y)=if(c.neg != false)=true then-(vN X w+y)else vN X w+y:=by
   rw[←hs]
   cases c.neg<;>simp<;>grind
  rw[hval]
  have hfun:(fun up=>if X+F.1=0∧F.2=false then(d0,(0:Int))else rndN (c.neg != false) (X+F.1) w F.2 p up)=fun up=>rndN (c.neg != false) (X+F.1) w F.2 p up:=by
   funext up;rw[if_neg hne]
  rw[hfun]
  have a1:=vN_add X F.1 w
  have a2:=vN_add X (F.1+1) w
  refine rnd_real hp _ ?_ ?_ ?_ ?_ ?_ ?_
  ·rw[←a1];grind
  ·rw[show X+F.1+1=X+(F.1+1) by omega,←a2];grind
  ·intro h;rw[←a1,f3 h]
  ·intro h;rw[←a1];have:=(f4 h).1;grind
  ·intro h
   obtain⟨h1,h2⟩:=hlow (f4 h).2
   have h3:bl X≤bl (X+F.1):=bl_mono (by omega)
   omega
  ·intro h;omega
 ·
  rw[if_neg hs]
  have hval: ∀z:Rat,z=vN X w-y→(if c.neg=true then-(vN X w)else vN X w)+(if d.neg=true then-y else y)=if c.neg=true then-z else z:=fun z hz=>by
   subst hz
   cases hc':c.neg<;>cases hd':d.neg<;>simp[hc',hd']at hs⊢ <;>grind
  have hU:F.2=true→upN F true=F.1+1∧F.1+1≤2^((topD c-w).toNat -3)∧2^((topD c-w).toNat -3)*4≤X∧p+8≤(topD c-w).toNat :=fun h=>by
   obtain⟨h1,h2⟩:=hlow (f4 h).2
   have h3:=hFb (f4 h).2
   refine⟨by unfold upN;rw[h];rfl,?_,?_,by omega⟩
   ·have h4:2^(topD d-w).toNat ≤2^((topD c-w).toNat -3):=Nat.pow_le_pow_right (by decide) (by omega)
    omega
   ·have h4:2^((topD c-w).toNat -1)=2^((topD c-w).toNat -3)*4:=by
     rw[show(topD c-w).toNat -1=((topD c-w).toNat -3)+2 by omega,Nat.pow_add]
    omega
  have hUf:F.2=false→upN F true=F.1:=fun h=>by unfold upN;rw[h];rfl
  by_cases hlt:X<upN F true
  ·rw[if_pos hlt]
   simp only
   have hFf:F.2=false:=by
    cases hF2:F.2 with
    |false=>rfl
    |true=>obtain⟨u1,u2,u3,_⟩:=hU hF2;omega
   have hUe:=hUf hFf
   rw[hUe]at hlt⊢
   have hfun:(fun up=>if F.1-X=0∧True then(d0,(0:Int))else rndN (c.neg != true) (F.1-X) w false p up)=fun up=>rndN (c.neg != true) (F.1-X) w false p up:=by
    funext up;rw[if_neg fun h=>by omega]
   rw[hfun]
   have a1:=vN_sub (Nat.le_of_lt hlt) w
   have hv:(if c.neg=true then-(vN X w)else vN X w)+(if d.neg=true then-y else y)=if(c.neg != true)=true then-(vN (F.1-X) w)else vN (F.1-X) w:=by
    rw[hval (vN X w-y) rfl,←a1,f3 hFf]
    cases c.neg<;>simp<;>grind
   rw[hv]
   exact rnd_exact hp _ fun h=>by omega
  ·rw[if_neg hlt]
   simp only
   rw[hval (vN X w-y) rfl]
   cases hF2:F.2 with
   |false=>
    have hUe:=hUf hF2
    rw[hUe]at hlt⊢
    have a1:=vN_sub (a:=X) (b:=F.1) (by omega) w
    by_cases hz:X-F.1=0
    ·have hfun:(fun up=>if X-F.1=0∧false=false then(d0,(0:Int))else rndN (c.neg != false) (X-F.1) w false p up)=fun _=>(d0,0):=by
      funext up;rw[if_pos ⟨hz,rfl⟩]
     rw[hfun,f3 hF2,a1,hz,vN_zero]
     have e0:(if c.neg=true then-(0:Rat)else 0)=0:=by split<;>grind
     rw[e0]
     refine⟨⟨fun _=>⟨by rw[dv_d0];exact Rat.le_refl,by rw[dv_d0];exact .inl (inF_zero p)⟩,fun z _ h=>⟨rfl,by rw[dv_d0];exact h⟩⟩,⟨fun _=>⟨by rw[dv_d0];exact Rat.le_refl,by rw[dv_d0];exact .inl (inF_zero p)⟩,fun z _ h=>⟨rfl,by rw[dv_d0];exact h⟩⟩⟩
    ·have hfun:(fun up=>if X-F.1=0∧false=false then(d0,(0:Int))else rndN (c.neg != false) (X-F.1) w false p up)=fun up=>rndN (c.neg != false) (X-F.1) w false p up:=by
      funext up;rw[if_neg fun h=>hz h.1]
     rw[hfun,f3 hF2,a1]
     have e0:(c.neg != false)=c.neg:=by cases c.neg<;>rfl
     rw[e0]
     exact rnd_exact hp _ fun h=>absurd h hz
   |true=>
    obtain⟨u1,u2,u3,u4⟩:=hU hF2
    rw[u1]
    have a1:=vN_sub (a:=X) (b:=F.1+1) (by omega) w
    have a2:=vN_sub (a:=X) (b:=F.1) (by omega) w
    have hpos:=Nat.two_pow_pos ((topD c-w).toNat -3)
    have hfun:(fun up=>if X-(F.1+1)=0∧true=false then(d0,(0:Int))else rndN (c.neg != false) (X-(F.1+1)) w true p up)=fun up=>rndN (c.neg != false) (X-(F.1+1)) w true p up:=by
     funext up;rw[if_neg fun h=>by cases h.2]
    rw[hfun]
    have e0:(c.neg != false)=c.neg:=by cases c.neg<;>rfl
    rw[e0]
    have hy1:=(f4 hF2).1
    refine rnd_real hp _ ?_ ?_ ?_ ?_ ?_ ?_
    ·rw[←a1];grind
    ·rw[show X-(F.1+1)+1=X-F.1 by omega,←a2];grind
    ·intro h;cases h
    ·intro _;rw[←a1];grind
    ·intro _
     have h5:2^((topD c-w).toNat -3)≤X-(F.1+1):=by omega
     have h6:=(bl_ge (n:=X-(F.1+1)) (k:=(topD c-w).toNat -3) (by omega)).2 h5
     omega
    ·intro h;omega
theorem dv_zero {d:Dy} (h:nm d=0):dv d=0:=by unfold dv;rw[h,vN_zero];split<;>rfl
theorem add_RT {a b:Dy} (ha:VD a) (hb:VD b) {p:Nat} (hp:8≤p∧p≤512):RT p (dv a+dv b) (fun up=>addD a b p up):=by
 by_cases a0:nm a=0
 ·have h:=round_RT hb hp
  have e:(fun up=>addD a b p up)=fun up=>roundD b p up:=by funext up;unfold addD;rw[if_pos a0]
  rw[e,dv_zero a0,Rat.zero_add];exact h
 by_cases b0:nm b=0
 ·have h:=round_RT ha hp
  have e:(fun up=>addD a b p up)=fun up=>roundD a p up:=by funext up;unfold addD;rw[if_neg a0,if_pos b0]
  rw[e,dv_zero b0,Rat.add_zero];exact h
 have e:(fun up=>addD a b p up)=fun up=>addP (fstS a b) (sndS a b) p up:=by funext up;unfold addD;rw[if_neg a0,if_neg b0]
 rw[e]
 by_cases ht:topD a<topD b
 ·have e1:fstS a b=b∧sndS a b=a:=by unfold fstS sndS;rw[if_pos ht,if_pos ht];exact⟨rfl,rfl⟩
  rw[e1.1,e1.2,Rat.add_comm]
  exact sum_RT hb ha b0 a0 (by omega) hp
 ·have e1:fstS a b=a∧sndS a b=b:=by unfold fstS sndS;rw[if_neg ht,if_neg ht];exact⟨rfl,rfl⟩
  rw[e1.1,e1.2]
  exact sum_RT ha hb a0 b0 (by omega) hp
end Go.Proofs.YtajnlbbgolmklaaGreatDoor

namespace Go.Proofs.YtajnlbbgolmklaaGreatDoor
open Go Go.Sx
set_option maxHeartbeats 2000000
def inI (q:Rat) (x:Iv):Prop:=x.all=true∨(dv x.lo≤q∧q≤dv x.hi)
def subI' (x y:Iv):Prop:=y.all=true∨(x.all=false∧y.all=false∧dv y.lo≤dv x.lo∧dv x.hi≤dv y.hi)
theorem KI.dle {x:Iv} (k:KI x):dv x.lo≤dv x.hi:=cmp_le.1 k.le
theorem KI_of {x:Iv} (h:CI x) (h1:x.all=false) (h2:dv x.lo≤dv x.hi):KI x:=by
 rcases h with rfl|⟨_,a,b⟩
 ·cases h1
 ·exact⟨h1,a,b,cmp_le.2 h2⟩
theorem RD_mono {p:Nat} {y y':Rat} {r r':Dy×Int} (h':RD p (fun z=>z≤y') r') (h:RD p (fun z=>z≤y) r) (hle:y'≤y) (h0:r'.2=0):r.2=0∧dv r'.1≤dv r.1:=by
 obtain⟨a,b⟩:=h'.1 h0
 exact h.2 _ b (Rat.le_trans a hle)
theorem RU_mono {p:Nat} {y y':Rat} {r r':Dy×Int} (h':RU p (fun z=>y'≤z) r') (h:RU p (fun z=>y≤z) r) (hle:y≤y') (h0:r'.2=0):r.2=0∧dv r.1≤dv r'.1:=by
 obtain⟨a,b⟩:=h'.1 h0
 exact h.2 _ b (Rat.le_trans hle a)
theorem made_all {a b:Dy×Int}:(madeI a b).all =false↔a.2=0∧b.2=0:=by
 unfold madeI
 split
 ·rename_i h
  constructor
  ·intro c;cases c
  ·rintro⟨h1,h2⟩;exact absurd (by simp[h1,h2]) (not_not_intro h)
 ·rename_i h
  constructor
  ·intro _;exact⟨by simp only[not_or,Decidable.not_not]at h;exact h.1,by simp only[not_or,Decidable.not_not]at h;exact h.2⟩
  ·intro _;rfl
theorem made_eq {a b:Dy×Int} (h:(madeI a b).all =false):madeI a b=⟨a.1,b.1,false⟩:=by
 have:=made_all.1 h
 unfold madeI
 rw[if_neg (by simp[this.1,this.2])]
theorem rt_in {p:Nat} {y z:Rat} {F G:Bool→Dy×Int} (hF:RT p y F) (hG:RT p z G) {q:Rat} (h1:y≤q) (h2:q≤z):inI q (madeI (F false) (G true)):=by
 cases h:(madeI (F false) (G true)).all with
 |true=>exact .inl h
 |false=>
  obtain⟨e1,e2⟩:=made_all.1 h
  rw[made_eq h]
  exact .inr ⟨Rat.le_trans (hF.1.1 e1).1 h1,Rat.le_trans h2 (hG.2.1 e2).1⟩
theorem rt_sub {p:Nat} {y z y' z':Rat} {F G F' G':Bool→Dy×Int} (hF:RT p y F) (hG:RT p z G) (hF':RT p y' F') (hG':RT p z' G') (h1:y'≤y) (h2:z≤z'):subI' (madeI (F false) (G true)) (madeI (F' false) (G' true)):=by
 cases h:(madeI (F' false) (G' true)).all with
 |true=>exact .inl h
 |false=>
  obtain⟨e1,e2⟩:=made_all.1 h
  obtain⟨a1,a2⟩:=RD_mono hF'.1 hF.1 h1 e1
  obtain⟨b1,b2⟩:=RU_mono hG'.2 hG.2 h2 e2
  have h3:=made_all.2 ⟨a1,b1⟩
  rw[made_eq h,made_eq h3]
  exact .inr ⟨rfl,rfl,a2,b2⟩
theorem rt_KI {p:Nat} {y z:Rat} {F G:Bool→Dy×Int} (hF:RT p y F) (hG:RT p z G) (hc:CI (madeI (F false) (G true))) (h:y≤z):VI (madeI (F false) (G true)):=by
 cases ha:(madeI (F false) (G true)).all with
 |true=>
  rcases hc with hc|⟨h1,_⟩
  ·exact .inr hc
  ·rw[ha]at h1;cases h1
 |false=>
  refine .inl (KI_of hc ha ?_)
  obtain⟨e1,e2⟩:=made_all.1 ha
  rw[made_eq ha]
  exact Rat.le_trans (hF.1.1 e1).1 (Rat.le_trans h (hG.2.1 e2).1)
theorem kB_and {x y:Iv} (hx:RI x) (hy:RI y):(kB x&&kB y)=true↔KI x∧KI y:=by rw[Bool.and_eq_true,kB_iff hx,kB_iff hy]
theorem vi_all {x:Iv} (h:VI x):x.all=false↔KI x:=by
 rcases h with h|rfl
 ·exact⟨fun _=>h,fun _=>h.all⟩
 ·exact⟨(fun c=>by cases c),(fun k=>k.all)⟩
theorem w_in (q:Rat):inI q wI0:= .inl rfl
theorem add_eq {x y:Iv} (hx:KI x) (hy:KI y) {p:Int} (hp:pcB p=true):addI x y p=madeI (addD x.lo y.lo p.toNat false) (addD x.hi y.hi p.toNat true):=by
 unfold addI;rw[if_pos ⟨(kB_and hx.ri hy.ri).2 ⟨hx,hy⟩,hp⟩]
theorem add_w {x y:Iv} (hx:RI x) (hy:RI y) {p:Int} (h: ¬(KI x∧KI y)):addI x y p=wI0:=by
 unfold addI;rw[if_neg fun c=>h ((kB_and hx hy).1 c.1)]
theorem add_VI {x y:Iv} (hx:VI x) (hy:VI y) {p:Int} (hp:pcB p=true):VI (addI x y p):=by
 by_cases h:KI x∧KI y
 ·rw[add_eq h.1 h.2 hp]
  refine rt_KI (add_RT h.1.lo h.2.lo (pc_of hp)) (add_RT h.1.hi h.2.hi (pc_of hp)) (by rw[←add_eq h.1 h.2 hp];exact CI_add _ _ _) ?_
  have:=h.1.dle;have:=h.2.dle;grind
 ·rw[add_w hx.ri hy.ri h];exact .inr rfl
theorem add_in {x y:Iv} (hx:VI x) (hy:VI y) {p:Int} (hp:pcB p=true) {a b:Rat} (ha:inI a x) (hb:inI b y):inI (a+b) (addI x y p):=by
 by_cases h:KI x∧KI y
 ·rw[add_eq h.1 h.2 hp]
  rcases ha with ha|ha
  ·rw[h.1.all]at ha;cases ha
  rcases hb with hb|hb
  ·rw[h.2.all]at hb;cases hb
  exact rt_in (add_RT h.1.lo h.2.lo (pc_of hp)) (add_RT h.1.hi h.2.hi (pc_of hp)) (by grind) (by grind)
 ·rw[add_w hx.ri hy.ri h];exact w_in _
theorem sub_K {x y:Iv} (h:subI' x y) (hx:VI x) (hy:KI y):KI x∧dv y.lo≤dv x.lo∧dv x.hi≤dv y.hi:=by
 rcases h with h|⟨h1,_,h3⟩
 ·rw[hy.all]at h;cases h
 ·exact⟨(vi_all hx).1 h1,h3⟩
theorem add_iso {x y x' y':Iv} (hx:VI x) (hy:VI y) (hx':VI x') (hy':VI y') {p:Int} (hp:pcB p=true) (h1:subI' x x') (h2:subI' y y'):subI' (addI x y p) (addI x' y' p):=by
 by_cases h:KI x'∧KI y'
 ·obtain⟨kx,a1,a2⟩:=sub_K h1 hx h.1
  obtain⟨ky,b1,b2⟩:=sub_K h2 hy h.2
  rw[add_eq h.1 h.2 hp,add_eq kx ky hp]
  exact rt_sub (add_RT kx.lo ky.lo (pc_of hp)) (add_RT kx.hi ky.hi (pc_of hp)) (add_RT h.1.lo h.2.lo (pc_of hp)) (add_RT h.1.hi h.2.hi (pc_of hp)) (by grind) (by grind)
 ·rw[add_w hx'.ri hy'.ri h];exact .inl rfl
theorem neg_eq {x:Iv} (hx:KI x):negI x=⟨negD x.hi,negD x.lo,false⟩:=by unfold negI;rw[if_pos ((kB_iff hx.ri).2 hx)]
theorem neg_w {x:Iv} (hx:RI x) (h: ¬KI x):negI x=wI0:=by unfold negI;rw[if_neg fun c=>h ((kB_iff hx).1 c)]
theorem neg_VI {x:Iv} (hx:VI x):VI (negI x):=by
 by_cases h:KI x
 ·rw[neg_eq h]
  refine .inl ⟨rfl,VD_neg h.hi,VD_neg h.lo,cmp_le.2 ?_⟩
  simp only[dv_neg]
  have:=h.dle;grind
 ·rw[neg_w hx.ri h];exact .inr rfl
theorem neg_in {x:Iv} (hx:VI x) {a:Rat} (ha:inI a x):inI (-a) (negI x):=by
 by_cases h:KI x
 ·rw[neg_eq h]
  rcases ha with ha|ha
  ·rw[h.all]at ha;cases ha
  refine .inr ?_
  simp only[dv_neg]
  grind
 ·rw[neg_w hx.ri h];exact w_in _
theorem neg_iso {x x':Iv} (hx:VI x) (hx':VI x') (h:subI' x x'):subI' (negI x) (negI x'):=by
 by_cases k:KI x'
 ·obtain⟨kx,a1,a2⟩:=sub_K h hx k
  rw[neg_eq k,neg_eq kx]
  refine .inr ⟨rfl,rfl,?_,?_⟩<;>simp only[dv_neg]<;>grind
 ·rw[neg_w hx'.ri k];exact .inl rfl
theorem sub_VI {x y:Iv} (hx:VI x) (hy:VI y) {p:Int} (hp:pcB p=true):VI (subI x y p):=add_VI hx (neg_VI hy) hp
theorem sub_in {x y:Iv} (hx:VI x) (hy:VI y) {p:Int} (hp:pcB p=true) {a b:Rat} (ha:inI a x) (hb:inI b y):inI (a-b) (subI x y p):=by
 have:=add_in hx (neg_VI hy) hp ha (neg_in hy hb)
 rwa [←Rat.sub_eq_add_neg]at this
theorem sub_iso {x y x' y':Iv} (hx:VI x) (hy:VI y) (hx':VI x') (hy':VI y') {p:Int} (hp:pcB p=true) (h1:subI' x x') (h2:subI' y y'):subI' (subI x y p) (subI x' y' p):=
 add_iso hx (neg_VI hy) hx' (neg_VI hy') hp h1 (neg_iso hy hy' h2)
def four4 (op:Rat→Rat→Rat) (x y:Iv) (P:Rat→Prop):Prop:=P (op (dv x.lo) (dv y.lo))∧P (op (dv x.lo) (dv y.hi))∧P (op (dv x.hi) (dv y.lo))∧P (op (dv x.hi) (dv y.hi))
def some4 (op:Rat→Rat→Rat) (x y:Iv) (P:Rat→Prop):Prop:=P (op (dv x.lo) (dv y.lo))∨P (op (dv x.lo) (dv y.hi))∨P (op (dv x.hi) (dv y.lo))∨P (op (dv x.hi) (dv y.hi))
structure F4 (p:Nat) (op:Rat→Rat→Rat) (dn up:Dy→Dy→Dy×Int) (x y:Iv):Prop where
 rt1:RT p (op (dv x.lo) (dv y.lo)) (fun u=>if u=true then up x.lo y.lo else dn x.lo y.lo)
 rt2:RT p (op (dv x.lo) (dv y.hi)) (fun u=>if u=true then up x.lo y.hi else dn x.lo y.hi)
 rt3:RT p (op (dv x.hi) (dv y.lo)) (fun u=>if u=true then up x.hi y.lo else dn x.hi y.lo)
 rt4:RT p (op (dv x.hi) (dv y.hi)) (fun u=>if u=true then up x.hi y.hi else dn x.hi y.hi)
theorem st_spec {dn up:Dy×Int} {o:Iv} {K:Iv→Iv} (h:(stI dn up o K).all =false):dn.2=0∧up.2=0∧ ∃o':Iv,stI dn up o K=K o'∧o'.all=false∧(o'.lo=dn.1∨o'.lo=o.lo)∧(o'.hi=up.1∨o'.hi=o.hi)∧dv o'.lo≤dv dn.1∧dv o'.lo≤dv o.lo∧dv up.1≤dv o'.hi∧dv o.hi≤dv o'.hi:=by
 unfold stI at h⊢
 by_cases he:dn.2≠0∨up.2≠0
 ·rw[if_pos he]at h;cases h
 ·rw[if_neg he]at h⊢
  simp only[not_or,Decidable.not_not]at he
  refine⟨he.1,he.2,_,rfl,rfl,?_,?_,?_,?_,?_,?_⟩
  ·simp only;split<;>simp
  ·simp only;split<;>simp
  ·simp only
   split
   ·exact Rat.le_refl
   ·rename_i hc
    have:0≤cmpD dn.1 o.lo:=by omega
    exact cmp_ge.1 this
  ·simp only
   split
   ·rename_i hc
    exact cmp_le.1 (by omega)
   ·exact Rat.le_refl
  ·simp only
   split
   ·exact Rat.le_refl
   ·rename_i hc
    exact cmp_le.1 (by omega)
  ·simp only
   split
   ·rename_i hc
    exact cmp_ge.1 (by omega)
   ·exact Rat.le_refl
theorem st_ok {dn up:Dy×Int} {o:Iv} {K:Iv→Iv} (h1:dn.2=0) (h2:up.2=0): ∃o':Iv,o'.all=false∧stI dn up o K=K o':=by
 unfold stI
 rw[if_neg (by simp[h1,h2])]
 exact⟨_,rfl,rfl⟩
theorem four_spec {dn up:Dy→Dy→Dy×Int} {x y:Iv} (h:(fourI dn up x y).all =false):
 ((dn x.lo y.lo).2=0∧(dn x.lo y.hi).2=0∧(dn x.hi y.lo).2=0∧(dn x.hi y.hi).2=0)∧((up x.lo y.lo).2=0∧(up x.lo y.hi).2=0∧(up x.hi y.lo).2=0∧(up x.hi y.hi).2=0)∧
 (∀t:Rat,t≤dv (dn x.lo y.lo).1→t≤dv (dn x.lo y.hi).1→t≤dv (dn x.hi y.lo).1→t≤dv (dn x.hi y.hi).1→t≤dv (fourI dn up x y).lo)∧
 (∀t:Rat,dv (up x.lo y.lo).1≤t→dv (up x.lo y.hi).1≤t→dv (up x.hi y.lo).1≤t→dv (up x.hi y.hi).1≤t→dv (fourI dn up x y).hi ≤t)∧
 (dv (fourI dn up x y).lo ≤dv (dn x.lo y.lo).1∧dv (fourI dn up x y).lo ≤dv (dn x.lo y.hi).1∧dv (fourI dn up x y).lo ≤dv (dn x.hi y.lo).1∧dv (fourI dn up x y).lo ≤dv (dn x.hi y.hi).1)∧
 (dv (up x.lo y.lo).1≤dv (fourI dn up x y).hi ∧dv (up x.lo y.hi).1≤dv (fourI dn up x y).hi ∧dv (up x.hi y.lo).1≤dv (fourI dn up x y).hi ∧dv (up x.hi y.hi).1≤dv (fourI dn up x y).hi):=by
 rw[fourI_eq]at h⊢
 by_cases he:(dn x.lo y.lo).2≠0∨(up x.lo y.lo).2≠0
 ·unfold s0I at h;rw[if_pos he]at h;cases h
 have e0: ∀K,s0I (dn x.lo y.lo) (up x.lo y.lo) K=K ⟨(dn x.lo y.lo).1,(up x.lo y.lo).1,false⟩:=fun K=>by unfold s0I;rw[if_neg he]
 simp only[not_or,Decidable.not_not]at he
 rw[e0]at h⊢
 obtain⟨a1,a2,o1,a3,_,a5,a6,a7,a8,a9,a10⟩:=st_spec h
 rw[a3]at h⊢
 obtain⟨b1,b2,o2,b3,_,b5,b6,b7,b8,b9,b10⟩:=st_spec h
 rw[b3]at h⊢
 obtain⟨c1,c2,o3,c3,_,c5,c6,c7,c8,c9,c10⟩:=st_spec h
 rw[c3]
 simp only at*
 refine⟨⟨he.1,a1,b1,c1⟩,⟨he.2,a2,b2,c2⟩,?_,?_,⟨?_,?_,?_,?_⟩,⟨?_,?_,?_,?_⟩⟩
 ·intro t t1 t2 t3 t4
  rcases c5 with c|c<;>rw[c]
  ·exact t4
  ·rcases b5 with c|c<;>rw[c]
   ·exact t3
   ·rcases a5 with c|c<;>rw[c]
    ·exact t2
    ·exact t1
 ·intro t t1 t2 t3 t4
  rcases c6 with c|c<;>rw[c]
  ·exact t4
  ·rcases b6 with c|c<;>rw[c]
   ·exact t3
   ·rcases a6 with c|c<;>rw[c]
    ·exact t2
    ·exact t1
 ·exact Rat.le_trans c8 (Rat.le_trans b8 a8)
 ·exact Rat.le_trans c8 (Rat.le_trans b8 a7)
 ·exact Rat.le_trans c8 b7
 ·exact c7
 ·exact Rat.le_trans a10 (Rat.le_trans b10 c10)
 ·exact Rat.le_trans a9 (Rat.le_trans b10 c10)
 ·exact Rat.le_trans b9 c10
 ·exact c9
theorem four_all {dn up:Dy→Dy→Dy×Int} {x y:Iv} (h1:(dn x.lo y.lo).2=0∧(dn x.lo y.hi).2=0∧(dn x.hi y.lo).2=0∧(dn x.hi y.hi).2=0) (h2:(up x.lo y.lo).2=0∧(up x.lo y.hi).2=0∧(up x.hi y.lo).2=0∧(up x.hi y.hi).2=0):(fourI dn up x y).all =false:=by
 rw[fourI_eq]
 have e0: ∀K,s0I (dn x.lo y.lo) (up x.lo y.lo) K=K ⟨(dn x.lo y.lo).1,(up x.lo y.lo).1,false⟩:=fun K=>by unfold s0I;rw[if_neg (by simp[h1.1,h2.1])]
 rw[e0]
 obtain⟨o1,_,e1⟩:=st_ok (dn:=dn x.lo y.hi) (up:=up x.lo y.hi) (o:=⟨(dn x.lo y.lo).1,(up x.lo y.lo).1,false⟩) (K:=fun o=>stI (dn x.hi y.lo) (up x.hi y.lo) o (fun o=>stI (dn x.hi y.hi) (up x.hi y.hi) o (fun o=>o))) h1.2.1 h2.2.1
 rw[e1]
 obtain⟨o2,_,e2⟩:=st_ok (dn:=dn x.hi y.lo) (up:=up x.hi y.lo) (o:=o1) (K:=fun o=>stI (dn x.hi y.hi) (up x.hi y.hi) o (fun o=>o)) h1.2.2.1 h2.2.2.1
 rw[e2]
 obtain⟨o3,h3,e3⟩:=st_ok (dn:=dn x.hi y.hi) (up:=up x.hi y.hi) (o:=o2) (K:=fun o=>o) h1.2.2.2 h2.2.2.2
 rw[e3];exact h3
theorem F4_in {p:Nat} {op:Rat→Rat→Rat} {dn up:Dy→Dy→Dy×Int} {x y:Iv} (f:F4 p op dn up x y) {q:Rat} (h1:some4 op x y (fun z=>z≤q)) (h2:some4 op x y (fun z=>q≤z)):inI q (fourI dn up x y):=by
 cases ha:(fourI dn up x y).all with
 |true=>exact .inl ha
 |false=>
  obtain⟨d,u,_,_,⟨l1,l2,l3,l4⟩,⟨r1,r2,r3,r4⟩⟩:=four_spec ha
  have g1:=(f.rt1.1.1 d.1).1
  have g2:=(f.rt2.1.1 d.2.1).1
  have g3:=(f.rt3.1.1 d.2.2.1).1
  have g4:=(f.rt4.1.1 d.2.2.2).1
  have k1:=(f.rt1.2.1 u.1).1
  have k2:=(f.rt2.2.1 u.2.1).1
  have k3:=(f.rt3.2.1 u.2.2.1).1
  have k4:=(f.rt4.2.1 u.2.2.2).1
  simp only[if_true,Bool.false_eq_true,if_false]at g1 g2 g3 g4 k1 k2 k3 k4
  refine .inr ⟨?_,?_⟩
  ·rcases h1 with h|h|h|h
   ·exact Rat.le_trans l1 (Rat.le_trans g1 h)
   ·exact Rat.le_trans l2 (Rat.le_trans g2 h)
   ·exact Rat.le_trans l3 (Rat.le_trans g3 h)
   ·exact Rat.le_trans l4 (Rat.le_trans g4 h)
  ·rcases h2 with h|h|h|h
   ·exact Rat.le_trans h (Rat.le_trans k1 r1)
   ·exact Rat.le_trans h (Rat.le_trans k2 r2)
   ·exact Rat.le_trans h (Rat.le_trans k3 r3)
   ·exact Rat.le_trans h (Rat.le_trans k4 r4)
theorem F4_iso {p:Nat} {op:Rat→Rat→Rat} {dn up:Dy→Dy→Dy×Int} {x y x' y':Iv} (f:F4 p op dn up x y) (f':F4 p op dn up x' y') (h1:four4 op x y (fun q=>some4 op x' y' (fun z=>z≤q))) (h2:four4 op x y (fun q=>some4 op x' y' (fun z=>q≤z))):subI' (fourI dn up x y) (fourI dn up x' y'):=by
 cases ha:(fourI dn up x' y').all with
 |true=>exact .inl ha
 |false=>
  obtain⟨d,u,_,_,⟨l1,l2,l3,l4⟩,⟨r1,r2,r3,r4⟩⟩:=four_spec ha
  have f1:=f'.rt1;have f2:=f'.rt2;have f3:=f'.rt3;have f4:=f'.rt4
  have lowK: ∀(q:Rat) (r:Dy×Int),RD p (fun z=>z≤q) r→some4 op x' y' (fun z=>z≤q)→r.2=0∧dv (fourI dn up x' y').lo ≤dv r.1:=by
   intro q r hr hs
   rcases hs with h|h|h|h
   ·obtain⟨a,b⟩:=RD_mono f1.1 hr h d.1
    exact⟨a,Rat.le_trans l1 b⟩
   ·obtain⟨a,b⟩:=RD_mono f2.1 hr h d.2.1
    exact⟨a,Rat.le_trans l2 b⟩
   ·obtain⟨a,b⟩:=RD_mono f3.1 hr h d.2.2.1
    exact⟨a,Rat.le_trans l3 b⟩
   ·obtain⟨a,b⟩:=RD_mono f4.1 hr h d.2.2.2
    exact⟨a,Rat.le_trans l4 b⟩
  have hiK: ∀(q:Rat) (r:Dy×Int),RU p (fun z=>q≤z) r→some4 op x' y' (fun z=>q≤z)→r.2=0∧dv r.1≤dv (fourI dn up x' y').hi :=by
   intro q r hr hs
   rcases hs with h|h|h|h
   ·obtain⟨a,b⟩:=RU_mono f1.2 hr h u.1
    exact⟨a,Rat.le_trans b r1⟩
   ·obtain⟨a,b⟩:=RU_mono f2.2 hr h u.2.1
    exact⟨a,Rat.le_trans b r2⟩
   ·obtain⟨a,b⟩:=RU_mono f3.2 hr h u.2.2.1
    exact⟨a,Rat.le_trans b r3⟩
   ·obtain⟨a,b⟩:=RU_mono f4.2 hr h u.2.2.2
    exact⟨a,Rat.le_trans b r4⟩
  obtain⟨a1,a2⟩:=lowK _ _ f.rt1.1 h1.1
  obtain⟨b1,b2⟩:=lowK _ _ f.rt2.1 h1.2.1
  obtain⟨c1,c2⟩:=lowK _ _ f.rt3.1 h1.2.2.1
  obtain⟨e1,e2⟩:=lowK _ _ f.rt4.1 h1.2.2.2
  obtain⟨A1,A2⟩:=hiK _ _ f.rt1.2 h2.1
  obtain⟨B1,B2⟩:=hiK _ _ f.rt2.2 h2.2.1
  obtain⟨C1,C2⟩:=hiK _ _ f.rt3.2 h2.2.2.1
  obtain⟨E1,E2⟩:=hiK _ _ f.rt4.2 h2.2.2.2
  simp only[if_true,Bool.false_eq_true,if_false]at a1 a2 b1 b2 c1 c2 e1 e2 A1 A2 B1 B2 C1 C2 E1 E2
  have hb:=four_all (dn:=dn) (up:=up) (x:=x) (y:=y) ⟨a1,b1,c1,e1⟩ ⟨A1,B1,C1,E1⟩
  obtain⟨_,_,g1,g2,_,_⟩:=four_spec hb
  exact .inr ⟨hb,ha,g1 _ a2 b2 c2 e2,g2 _ A2 B2 C2 E2⟩
end Go.Proofs.YtajnlbbgolmklaaGreatDoor

namespace Go.Proofs.YtajnlbbgolmklaaGreatDoor
open Go Go.Sx
set_option maxHeartbeats 2000000
theorem mul_lo {a b x1 x2:Rat} (h1:x1≤a) (h2:a≤x2):(x1*b≤a*b∨x2*b≤a*b)∧(a*b≤x1*b∨a*b≤x2*b):=by
 by_cases hb:0≤b
 ·exact⟨.inl (mul_le_r h1 hb),.inr (mul_le_r h2 hb)⟩
 ·have hb':0≤ -b:=by grind
  have e1:=mul_le_r h1 hb'
  have e2:=mul_le_r h2 hb'
  exact⟨.inr (by grind),.inl (by grind)⟩
theorem mul_lo' {a b y1 y2:Rat} (h1:y1≤b) (h2:b≤y2):(a*y1≤a*b∨a*y2≤a*b)∧(a*b≤a*y1∨a*b≤a*y2):=by
 have:=mul_lo (b:=a) h1 h2
 rw[Rat.mul_comm y1,Rat.mul_comm y2,Rat.mul_comm b]at this
 exact this
theorem some4_mul {x y:Iv} {a b:Rat} (h1:dv x.lo≤a) (h2:a≤dv x.hi) (h3:dv y.lo≤b) (h4:b≤dv y.hi):some4 (fun u v=>u*v) x y (fun z=>z≤a*b)∧some4 (fun u v=>u*v) x y (fun z=>a*b≤z):=by
 obtain⟨m1,m2⟩:=mul_lo (b:=b) h1 h2
 obtain⟨l1,l2⟩:=mul_lo' (a:=dv x.lo) h3 h4
 obtain⟨u1,u2⟩:=mul_lo' (a:=dv x.hi) h3 h4
 unfold some4
 constructor
 ·rcases m1 with m|m
  ·rcases l1 with l|l
   ·exact .inl (Rat.le_trans l m)
   ·exact .inr (.inl (Rat.le_trans l m))
  ·rcases u1 with l|l
   ·exact .inr (.inr (.inl (Rat.le_trans l m)))
   ·exact .inr (.inr (.inr (Rat.le_trans l m)))
 ·rcases m2 with m|m
  ·rcases l2 with l|l
   ·exact .inl (Rat.le_trans m l)
   ·exact .inr (.inl (Rat.le_trans m l))
  ·rcases u2 with l|l
   ·exact .inr (.inr (.inl (Rat.le_trans m l)))
   ·exact .inr (.inr (.inr (Rat.le_trans m l)))
theorem ite_fun (F:Bool→Dy×Int):(fun u=>if u=true then F true else F false)=F:=by funext u;cases u<;>rfl
theorem RT_ite {p:Nat} {y:Rat} {F:Bool→Dy×Int} (h:RT p y F):RT p y (fun u=>if u=true then F true else F false):=by rw[ite_fun];exact h
theorem mul_F4 {x y:Iv} (hx:KI x) (hy:KI y) {p:Nat} (hp:8≤p∧p≤512):F4 p (fun u v=>u*v) (fun a b=>mulD a b p false) (fun a b=>mulD a b p true) x y:=
 ⟨RT_ite (mul_RT hx.lo hy.lo hp),RT_ite (mul_RT hx.lo hy.hi hp),RT_ite (mul_RT hx.hi hy.lo hp),RT_ite (mul_RT hx.hi hy.hi hp)⟩
theorem mul_eq {x y:Iv} (hx:KI x) (hy:KI y) {p:Int} (hp:pcB p=true):mulI x y p=fourI (fun a b=>mulD a b p.toNat false) (fun a b=>mulD a b p.toNat true) x y:=by
 unfold mulI;rw[if_pos ⟨(kB_and hx.ri hy.ri).2 ⟨hx,hy⟩,hp⟩]
theorem mul_w {x y:Iv} (hx:RI x) (hy:RI y) {p:Int} (h: ¬(KI x∧KI y)):mulI x y p=wI0:=by
 unfold mulI;rw[if_neg fun c=>h ((kB_and hx hy).1 c.1)]
theorem mul_in {x y:Iv} (hx:VI x) (hy:VI y) {p:Int} (hp:pcB p=true) {a b:Rat} (ha:inI a x) (hb:inI b y):inI (a*b) (mulI x y p):=by
 by_cases h:KI x∧KI y
 ·rw[mul_eq h.1 h.2 hp]
  rcases ha with ha|ha
  ·rw[h.1.all]at ha;cases ha
  rcases hb with hb|hb
  ·rw[h.2.all]at hb;cases hb
  obtain⟨s1,s2⟩:=some4_mul ha.1 ha.2 hb.1 hb.2
  exact F4_in (mul_F4 h.1 h.2 (pc_of hp)) s1 s2
 ·rw[mul_w hx.ri hy.ri h];exact w_in _
theorem VI_of_in {x:Iv} (h:CI x) {q:Rat} (hq:inI q x):VI x:=by
 cases ha:x.all with
 |true=>
  rcases h with h|⟨h1,_⟩
  ·exact .inr h
  ·rw[ha]at h1;cases h1
 |false=>
  rcases hq with hq|hq
  ·rw[ha]at hq;cases hq
  ·exact .inl (KI_of h ha (Rat.le_trans hq.1 hq.2))
theorem lo_in {x:Iv} (h:VI x):inI (dv x.lo) x:=by
 rcases h with k|rfl
 ·exact .inr ⟨Rat.le_refl,k.dle⟩
 ·exact w_in _
theorem mul_VI {x y:Iv} (hx:VI x) (hy:VI y) {p:Int} (hp:pcB p=true):VI (mulI x y p):=VI_of_in (CI_mul x y p) (mul_in hx hy hp (lo_in hx) (lo_in hy))
theorem mul_iso {x y x' y':Iv} (hx:VI x) (hy:VI y) (hx':VI x') (hy':VI y') {p:Int} (hp:pcB p=true) (h1:subI' x x') (h2:subI' y y'):subI' (mulI x y p) (mulI x' y' p):=by
 by_cases h:KI x'∧KI y'
 ·obtain⟨kx,a1,a2⟩:=sub_K h1 hx h.1
  obtain⟨ky,b1,b2⟩:=sub_K h2 hy h.2
  rw[mul_eq h.1 h.2 hp,mul_eq kx ky hp]
  have ex:=kx.dle
  have ey:=ky.dle
  have s:=fun(u v:Rat) (hu1:dv x'.lo≤u) (hu2:u≤dv x'.hi) (hv1:dv y'.lo≤v) (hv2:v≤dv y'.hi)=>some4_mul (x:=x') (y:=y') hu1 hu2 hv1 hv2
  have s1:=s (dv x.lo) (dv y.lo) a1 (by grind) b1 (by grind)
  have s2:=s (dv x.lo) (dv y.hi) a1 (by grind) (by grind) b2
  have s3:=s (dv x.hi) (dv y.lo) (by grind) a2 b1 (by grind)
  have s4:=s (dv x.hi) (dv y.hi) (by grind) a2 (by grind) b2
  exact F4_iso (mul_F4 kx ky (pc_of hp)) (mul_F4 h.1 h.2 (pc_of hp)) ⟨s1.1,s2.1,s3.1,s4.1⟩ ⟨s1.2,s2.2,s3.2,s4.2⟩
 ·rw[mul_w hx'.ri hy'.ri h];exact .inl rfl
theorem sgnI_spec {y:Iv} (hy:KI y):sgnI y≠0↔(0<dv y.lo∨dv y.hi<0):=by
 have h1:=(sgn_spec y.lo).2.1
 have h2:=(sgn_spec y.hi).1
 unfold sgnI
 rw[if_pos ((kB_iff hy.ri).2 hy)]
 by_cases c1:0<sgnD y.lo
 ·rw[if_pos c1]
  exact⟨fun _=> .inl (h1.1 c1),fun _=>by decide⟩
 ·rw[if_neg c1]
  by_cases c2:sgnD y.hi<0
  ·rw[if_pos c2]
   exact⟨fun _=> .inr (h2.1 c2),fun _=>by decide⟩
  ·rw[if_neg c2]
   exact⟨fun c=>absurd rfl c,fun c=>by rcases c with c|c;exact absurd (h1.2 c) c1;exact absurd (h2.2 c) c2⟩
theorem inv_between {a b c:Rat} (h:0<a∨c<0) (h1:a≤b) (h2:b≤c):c⁻¹ ≤b⁻¹ ∧b⁻¹ ≤a⁻¹ :=by
 have key: ∀u v:Rat,0<u→u≤v→v⁻¹ ≤u⁻¹ :=fun u v hu huv=>by
  have hv:0<v:=by grind
  have hi:0<u⁻¹ :=by have:=Rat.inv_pos.2 hu;exact this
  have hj:0<v⁻¹ :=by have:=Rat.inv_pos.2 hv;exact this
  have e1:v*v⁻¹ =1:=Rat.mul_inv_cancel v (by grind)
  have e2:u*u⁻¹ =1:=Rat.mul_inv_cancel u (by grind)
  have h3:u*v⁻¹ ≤v*v⁻¹ :=mul_le_r huv (Rat.le_of_lt hj)
  rw[e1,←e2]at h3
  have h4:v⁻¹ *u≤u⁻¹ *u:=by rw[Rat.mul_comm v⁻¹,Rat.mul_comm u⁻¹];exact h3
  exact le_of_mul_r h4 hu
 rcases h with h|h
 ·exact⟨key b c (by grind) h2,key a b h h1⟩
 ·have k1:=key (-c) (-b) (by grind) (by grind)
  have k2:=key (-b) (-a) (by grind) (by grind)
  have e: ∀u:Rat,(-u)⁻¹ = -(u⁻¹):=fun u=>by grind
  rw[e,e]at k1 k2
  constructor<;>grind
theorem some4_div {x y:Iv} {a b:Rat} (hs:0<dv y.lo∨dv y.hi<0) (h1:dv x.lo≤a) (h2:a≤dv x.hi) (h3:dv y.lo≤b) (h4:b≤dv y.hi):some4 (fun u v=>u/v) x y (fun z=>z≤a/b)∧some4 (fun u v=>u/v) x y (fun z=>a/b≤z):=by
 obtain⟨i1,i2⟩:=inv_between hs h3 h4
 obtain⟨m1,m2⟩:=mul_lo (b:=b⁻¹) h1 h2
 obtain⟨l1,l2⟩:=mul_lo' (a:=dv x.lo) i1 i2
 obtain⟨u1,u2⟩:=mul_lo' (a:=dv x.hi) i1 i2
 have e: ∀u v:Rat,u/v=u*v⁻¹ :=fun u v=>Rat.div_def u v
 unfold some4
 simp only[e]
 constructor
 ·rcases m1 with m|m
  ·rcases l1 with l|l
   ·exact .inr (.inl (Rat.le_trans l m))
   ·exact .inl (Rat.le_trans l m)
  ·rcases u1 with l|l
   ·exact .inr (.inr (.inr (Rat.le_trans l m)))
   ·exact .inr (.inr (.inl (Rat.le_trans l m)))
 ·rcases m2 with m|m
  ·rcases l2 with l|l
   ·exact .inr (.inl (Rat.le_trans m l))
   ·exact .inl (Rat.le_trans m l)
  ·rcases u2 with l|l
   ·exact .inr (.inr (.inr (Rat.le_trans m l)))
   ·exact .inr (.inr (.inl (Rat.le_trans m l)))
theorem nm_ne {d:Dy} (h:dv d≠0):nm d≠0:=fun c=>h (dv_zero c)
theorem div_F4 {x y:Iv} (hx:KI x) (hy:KI y) (hs:0<dv y.lo∨dv y.hi<0) {p:Nat} (hp:8≤p∧p≤512):F4 p (fun u v=>u/v) (fun a b=>divD a b p false) (fun a b=>divD a b p true) x y:=by
 have hl:nm y.lo≠0:=nm_ne (by have:=hy.dle;grind)
 have hh:nm y.hi≠0:=nm_ne (by have:=hy.dle;grind)
 exact⟨RT_ite (div_RT hx.lo hy.lo hl hp),RT_ite (div_RT hx.lo hy.hi hh hp),RT_ite (div_RT hx.hi hy.lo hl hp),RT_ite (div_RT hx.hi hy.hi hh hp)⟩
theorem divI_eq {x y:Iv} (hx:KI x) (hy:KI y) (hs:0<dv y.lo∨dv y.hi<0) {p:Int} (hp:pcB p=true):divI x y p=fourI (fun a b=>divD a b p.toNat false) (fun a b=>divD a b p.toNat true) x y:=by
 unfold divI;rw[if_pos ⟨(kB_and hx.ri hy.ri).2 ⟨hx,hy⟩,hp,(sgnI_spec hy).2 hs⟩]
theorem divI_w {x y:Iv} (hx:RI x) (hy:RI y) {p:Int} (h: ¬(KI x∧KI y∧(0<dv y.lo∨dv y.hi<0))):divI x y p=wI0:=by
 unfold divI
 rw[if_neg fun c=>?_]
 obtain⟨k1,k2⟩:=(kB_and hx hy).1 c.1
 exact h ⟨k1,k2,(sgnI_spec k2).1 c.2.2⟩
theorem divI_in {x y:Iv} (hx:VI x) (hy:VI y) {p:Int} (hp:pcB p=true) {a b:Rat} (ha:inI a x) (hb:inI b y):inI (a/b) (divI x y p):=by
 by_cases h:KI x∧KI y∧(0<dv y.lo∨dv y.hi<0)
 ·rw[divI_eq h.1 h.2.1 h.2.2 hp]
  rcases ha with ha|ha
  ·rw[h.1.all]at ha;cases ha
  rcases hb with hb|hb
  ·rw[h.2.1.all]at hb;cases hb
  obtain⟨s1,s2⟩:=some4_div h.2.2 ha.1 ha.2 hb.1 hb.2
  exact F4_in (div_F4 h.1 h.2.1 h.2.2 (pc_of hp)) s1 s2
 ·rw[divI_w hx.ri hy.ri h];exact w_in _
theorem divI_VI {x y:Iv} (hx:VI x) (hy:VI y) {p:Int} (hp:pcB p=true):VI (divI x y p):=VI_of_in (CI_div x y p) (divI_in hx hy hp (lo_in hx) (lo_in hy))
theorem divI_iso {x y x' y':Iv} (hx:VI x) (hy:VI y) (hx':VI x') (hy':VI y') {p:Int} (hp:pcB p=true) (h1:subI' x x') (h2:subI' y y'):subI' (divI x y p) (divI x' y' p):=by
 by_cases h:KI x'∧KI y'∧(0<dv y'.lo∨dv y'.hi<0)
 ·obtain⟨kx,a1,a2⟩:=sub_K h1 hx h.1
  obtain⟨ky,b1,b2⟩:=sub_K h2 hy h.2.1
  have ex:=kx.dle
  have ey:=ky.dle
  have hs:0<dv y.lo∨dv y.hi<0:=by rcases h.2.2 with c|c;exact .inl (by grind);exact .inr (by grind)
  rw[divI_eq h.1 h.2.1 h.2.2 hp,divI_eq kx ky hs hp]
  have s:=fun(u v:Rat) (hu1:dv x'.lo≤u) (hu2:u≤dv x'.hi) (hv1:dv y'.lo≤v) (hv2:v≤dv y'.hi)=>some4_div (x:=x') (y:=y') h.2.2 hu1 hu2 hv1 hv2
  have s1:=s (dv x.lo) (dv y.lo) a1 (by grind) b1 (by grind)
  have s2:=s (dv x.lo) (dv y.hi) a1 (by grind) (by grind) b2
  have s3:=s (dv x.hi) (dv y.lo) (by grind) a2 b1 (by grind)
  have s4:=s (dv x.hi) (dv y.hi) (by grind) a2 (by grind) b2
  exact F4_iso (div_F4 kx ky hs (pc_of hp)) (div_F4 h.1 h.2.1 h.2.2 (pc_of hp)) ⟨s1.1,s2.1,s3.1,s4.1⟩ ⟨s1.2,s2.2,s3.2,s4.2⟩
 ·rw[divI_w hx'.ri hy'.ri h];exact .inl rfl
theorem sqrt_eq {x:Iv} (hx:KI x) (hs:0<dv x.lo) {p:Int} (hp:pcB p=true):sqrtI x p=madeI (sqrtD x.lo p.toNat false) (sqrtD x.hi p.toNat true):=by
 unfold sqrtI;rw[if_pos ⟨(kB_iff hx.ri).2 hx,hp,(sgn_spec x.lo).2.1.2 hs⟩]
theorem sqrt_w {x:Iv} (hx:RI x) {p:Int} (h: ¬(KI x∧0<dv x.lo)):sqrtI x p=wI0:=by
 unfold sqrtI;rw[if_neg fun c=>h ⟨(kB_iff hx).1 c.1,(sgn_spec x.lo).2.1.1 c.2.2⟩]
theorem neg_of_pos {d:Dy} (h:0<dv d):d.neg=false∧nm d≠0:=by
 refine⟨pos_neg ((sgn_spec d).2.1.2 h),nm_ne (by grind)⟩
theorem sqrt_VI {x:Iv} (hx:VI x) {p:Int} (hp:pcB p=true):VI (sqrtI x p):=by
 by_cases h:KI x∧0<dv x.lo
 ·have hh:0<dv x.hi:=by have:=h.1.dle;grind
  obtain⟨n1,n2⟩:=neg_of_pos h.2
  obtain⟨n3,n4⟩:=neg_of_pos hh
  have l:=(sqrt_laws n1 (pc_of hp) n2).1
  have u:=(sqrt_laws n3 (pc_of hp) n4).2
  have hc:=CI_sqrt x p
  rw[sqrt_eq h.1 h.2 hp]at hc⊢
  cases ha:(madeI (sqrtD x.lo p.toNat false) (sqrtD x.hi p.toNat true)).all with
  |true=>
   rcases hc with hc|⟨h1,_⟩
   ·exact .inr hc
   ·rw[ha]at h1;cases h1
  |false=>
   obtain⟨e1,e2⟩:=made_all.1 ha
   refine .inl (KI_of hc ha ?_)
   rw[made_eq ha]
   have hl:=(l.1 e1).1
   have hu:=(u.1 e2).1
   simp only
   rcases hl with hl|hl
   ·exact Rat.le_trans hl hu.1
   ·exact sq_inv hu.1 (Rat.le_trans hl (Rat.le_trans h.1.dle hu.2))
 ·rw[sqrt_w hx.ri h];exact .inr rfl
theorem sqrt_iso {x x':Iv} (hx:VI x) (hx':VI x') {p:Int} (hp:pcB p=true) (h1:subI' x x'):subI' (sqrtI x p) (sqrtI x' p):=by
 by_cases h:KI x'∧0<dv x'.lo
 ·obtain⟨kx,a1,a2⟩:=sub_K h1 hx h.1
  have ex:=kx.dle
  have hp1:0<dv x.lo:=by grind
  have hp2:0<dv x.hi:=by grind
  have hp3:0<dv x'.hi:=by grind
  obtain⟨n1,n2⟩:=neg_of_pos hp1
  obtain⟨n3,n4⟩:=neg_of_pos hp2
  obtain⟨n5,n6⟩:=neg_of_pos h.2
  obtain⟨n7,n8⟩:=neg_of_pos hp3
  have l:=(sqrt_laws n1 (pc_of hp) n2).1
  have u:=(sqrt_laws n3 (pc_of hp) n4).2
  have l':=(sqrt_laws n5 (pc_of hp) n6).1
  have u':=(sqrt_laws n7 (pc_of hp) n8).2
  rw[sqrt_eq h.1 h.2 hp,sqrt_eq kx hp1 hp]
  cases ha:(madeI (sqrtD x'.lo p.toNat false) (sqrtD x'.hi p.toNat true)).all with
  |true=>exact .inl ha
  |false=>
   obtain⟨e1,e2⟩:=made_all.1 ha
   obtain⟨v1,v2⟩:=l'.1 e1
   obtain⟨w1,w2⟩:=u'.1 e2
   obtain⟨b1,b2⟩:=l.2 _ v2 (v1.imp id fun c=>Rat.le_trans c a1)
   obtain⟨c1,c2⟩:=u.2 _ w2 ⟨w1.1,Rat.le_trans a2 w1.2⟩
   have hb:=made_all.2 ⟨b1,c1⟩
   rw[made_eq ha,made_eq hb]
   exact .inr ⟨rfl,rfl,b2,c2⟩
 ·rw[sqrt_w hx'.ri h];exact .inl rfl
end Go.Proofs.YtajnlbbgolmklaaGreatDoor

namespace Go.Proofs.YtajnlbbgolmklaaGreatDoor
open Go Go.Sx
set_option maxHeartbeats 2000000
def rabs (q:Rat):Rat:=if q<0 then-q else q
theorem rabs_nn (q:Rat):0≤rabs q:=by unfold rabs;split<;>grind
theorem dv_abs (d:Dy):dv (absD d)=rabs (dv d):=by
 have h:dv (absD d)=vN (nm d) d.e:=rfl
 rw[h]
 have h2:=vN_nn (nm d) d.e
 unfold dv rabs
 cases d.neg with
 |true=>simp only[if_true];split<;>grind
 |false=>simp only[Bool.false_eq_true,if_false];split<;>grind
theorem less_spec (a b:Dy):dv (lessD a b)≤dv a∧dv (lessD a b)≤dv b∧(lessD a b=a∨lessD a b=b):=by
 unfold lessD
 split
 ·rename_i h;exact⟨Rat.le_refl,cmp_le.1 h,.inl rfl⟩
 ·rename_i h;exact⟨cmp_ge.1 (by omega),Rat.le_refl,.inr rfl⟩
theorem more_spec (a b:Dy):dv a≤dv (moreD a b)∧dv b≤dv (moreD a b)∧(moreD a b=a∨moreD a b=b):=by
 unfold moreD
 split
 ·rename_i h;exact⟨Rat.le_refl,cmp_ge.1 h,.inl rfl⟩
 ·rename_i h;exact⟨cmp_le.1 (by omega),Rat.le_refl,.inr rfl⟩
theorem abs_in {x:Iv} (k:KI x) {a:Rat} (h1:dv x.lo≤a) (h2:a≤dv x.hi):0≤dv (migD x)∧dv (migD x)≤rabs a∧rabs a≤dv (magD x):=by
 obtain⟨m1,m2,_⟩:=more_spec (absD x.lo) (absD x.hi)
 obtain⟨l1,l2,l3⟩:=less_spec (absD x.lo) (absD x.hi)
 rw[dv_abs]at m1 l1
 rw[dv_abs]at m2 l2
 have hs:=sgnI_spec k
 have n1:=rabs_nn (dv x.lo)
 have n2:=rabs_nn (dv x.hi)
 have hm:magD x=moreD (absD x.lo) (absD x.hi):=rfl
 rw[hm]
 have hmag:rabs a≤dv (moreD (absD x.lo) (absD x.hi)):=by
  have e1: -(dv x.lo)≤rabs (dv x.lo):=by unfold rabs;split<;>grind
  have e2:dv x.hi≤rabs (dv x.hi):=by unfold rabs;split<;>grind
  unfold rabs at*
  grind
 unfold migD
 by_cases h0:sgnI x=0
 ·rw[if_pos h0,dv_d0]
  exact⟨Rat.le_refl,rabs_nn a,hmag⟩
 ·rw[if_neg h0]
  refine⟨?_,?_,hmag⟩
  ·rcases l3 with e|e<;>rw[e,dv_abs]
   ·exact n1
   ·exact n2
  ·rcases hs.1 h0 with c|c
   ·have e1:rabs (dv x.lo)=dv x.lo:=by unfold rabs;rw[if_neg (by grind)]
    have e2:rabs a=a:=by unfold rabs;rw[if_neg (by grind)]
    rw[e1]at l1;rw[e2];exact Rat.le_trans l1 h1
   ·have e1:rabs (dv x.hi)= -(dv x.hi):=by unfold rabs;rw[if_pos c]
    have e2:rabs a= -a:=by unfold rabs;rw[if_pos (by grind)]
    rw[e1]at l2;rw[e2];grind
theorem abs_iso {x x':Iv} (k:KI x) (k':KI x') (h1:dv x'.lo≤dv x.lo) (h2:dv x.hi≤dv x'.hi):0≤dv (migD x')∧dv (migD x')≤dv (migD x)∧dv (magD x)≤dv (magD x'):=by
 have hd:=k.dle
 have il:=abs_in k' h1 (Rat.le_trans hd h2)
 have ih:=abs_in k' (Rat.le_trans h1 hd) h2
 refine⟨il.1,?_,?_⟩
 ·unfold migD
  by_cases h0:sgnI x=0
  ·rw[if_pos h0,dv_d0]
   have hs:=sgnI_spec k
   have c1: ¬0<dv x.lo:=fun c=>hs.2 (.inl c) h0
   have c2: ¬dv x.hi<0:=fun c=>hs.2 (.inr c) h0
   have i0:=abs_in k' (a:=0) (by grind) (by grind)
   have e:rabs 0=0:=by unfold rabs;rw[if_neg (by grind)]
   rw[e]at i0
   exact i0.2.1
  ·rw[if_neg h0]
   obtain⟨_,_,l3⟩:=less_spec (absD x.lo) (absD x.hi)
   rcases l3 with e|e<;>rw[e,dv_abs]
   ·exact il.2.1
   ·exact ih.2.1
 ·have hm:magD x=moreD (absD x.lo) (absD x.hi):=rfl
  rw[hm]
  obtain⟨_,_,l3⟩:=more_spec (absD x.lo) (absD x.hi)
  rcases l3 with e|e<;>rw[e,dv_abs]
  ·exact il.2.2
  ·exact ih.2.2
def rpw (q:Rat):Nat→Rat
 |0=>1
 |n+1=>rpw q n*q
theorem rpw_nn {q:Rat} (h:0≤q): ∀n,0≤rpw q n
 |0=>by show(0:Rat)≤1;decide
 |n+1=>Rat.mul_nonneg (rpw_nn h n) h
theorem mul_mono {a b c d:Rat} (h0:0≤a) (h1:a≤b) (h2:0≤c) (h3:c≤d):a*c≤b*d:=by
 have e1:a*c≤b*c:=mul_le_r h1 h2
 have e2:c*b≤d*b:=mul_le_r h3 (by grind)
 rw[Rat.mul_comm c,Rat.mul_comm d]at e2
 exact Rat.le_trans e1 e2
theorem rpw_neg (q:Rat): ∀n,rpw (-q) n=if n % 2=0 then rpw q n else-(rpw q n)
 |0=>rfl
 |n+1=>by
  simp only[rpw]
  rw[rpw_neg q n]
  by_cases h:n % 2=0
  ·rw[if_pos h,if_neg (by omega)];grind
  ·rw[if_neg h,if_pos (by omega)];grind
theorem powGo_err {d:Dy} {p:Nat} {up:Bool}: ∀ {k:Nat} {r:Dy×Int},(powGo d p up k r).2=0→r.2=0
 |0,_,h=>h
 |k+1,r,h=>by
  simp only[powGo]at h
  split at h
  ·assumption
  ·exact h
theorem powGo_dn {p:Nat} (hp:8≤p∧p≤512) {d d':Dy} (hd:VD d) (hd':VD d') (h0:0≤dv d) (hle:dv d≤dv d'): ∀k (r r':Dy×Int),VD r.1→VD r'.1→r.2=0→r'.2=0→0≤dv r.1→dv r.1≤dv r'.1→
 (powGo d p false k r).2=0∧(powGo d' p false k r').2=0∧0≤dv (powGo d p false k r).1∧dv (powGo d p false k r).1≤dv (powGo d' p false k r').1
 |0,r,r',_,_,e,e',n,l=>⟨e,e',n,l⟩
 |k+1,r,r',v,v',e,e',n,l=>by
  simp only[powGo]
  rw[if_pos e,if_pos e']
  have m:=(mul_RT v hd hp).1
  have m':=(mul_RT v' hd' hp).1
  have z0:0≤dv r.1*dv d:=Rat.mul_nonneg n h0
  have zz:=mul_mono n l h0 hle
  obtain⟨f1,f2⟩:=m.2 0 (.inl (inF_zero p)) z0
  obtain⟨g1,g2⟩:=RD_mono m m' zz f1
  exact powGo_dn hp hd hd' h0 hle k _ _ (VD_mul _ _ _ _ hp) (VD_mul _ _ _ _ hp) f1 g1 f2 g2
theorem powD_dn {p n:Nat} (hp:8≤p∧p≤512) {d d':Dy} (hd:VD d) (hd':VD d') (h0:0≤dv d) (hle:dv d≤dv d'):
 (powD d n p false).2=0∧(powD d' n p false).2=0∧0≤dv (powD d n p false).1∧dv (powD d n p false).1≤dv (powD d' n p false).1:=by
 have m:=(round_RT hd hp).1
 have m':=(round_RT hd' hp).1
 obtain⟨f1,f2⟩:=m.2 0 (.inl (inF_zero p)) h0
 obtain⟨g1,g2⟩:=RD_mono m m' hle f1
 exact powGo_dn hp hd hd' h0 hle _ _ _ (VD_round _ _ _ hp) (VD_round _ _ _ hp) f1 g1 f2 g2
theorem powGo_up {p:Nat} (hp:8≤p∧p≤512) {d d':Dy} (hd:VD d) (hd':VD d') (h0:0≤dv d) (hle:dv d≤dv d'): ∀k (r r':Dy×Int),VD r.1→VD r'.1→r.2=0→0≤dv r.1→dv r.1≤dv r'.1→(powGo d' p true k r').2=0→
 (powGo d p true k r).2=0∧0≤dv (powGo d p true k r).1∧dv (powGo d p true k r).1≤dv (powGo d' p true k r').1
 |0,r,r',_,_,e,n,l,_=>⟨e,n,l⟩
 |k+1,r,r',v,v',e,n,l,e'=>by
  have er:=powGo_err e'
  simp only[powGo]at e'⊢
  rw[if_pos er]at e'⊢
  rw[if_pos e]
  have m:=(mul_RT v hd hp).2
  have m':=(mul_RT v' hd' hp).2
  have z0:0≤dv r.1*dv d:=Rat.mul_nonneg n h0
  have zz:=mul_mono n l h0 hle
  have e2:=powGo_err e'
  obtain⟨g1,g2⟩:=RU_mono m' m zz e2
  have g3:=(m.1 g1).1
  exact powGo_up hp hd hd' h0 hle k _ _ (VD_mul _ _ _ _ hp) (VD_mul _ _ _ _ hp) g1 (Rat.le_trans z0 g3) g2 e'
theorem powD_up {p n:Nat} (hp:8≤p∧p≤512) {d d':Dy} (hd:VD d) (hd':VD d') (h0:0≤dv d) (hle:dv d≤dv d') (he:(powD d' n p true).2=0):
 (powD d n p true).2=0∧0≤dv (powD d n p true).1∧dv (powD d n p true).1≤dv (powD d' n p true).1:=by
 have m:=(round_RT hd hp).2
 have m':=(round_RT hd' hp).2
 have e1:=powGo_err he
 obtain⟨g1,g2⟩:=RU_mono m' m hle e1
 have g3:=(m.1 g1).1
 exact powGo_up hp hd hd' h0 hle _ _ _ (VD_round _ _ _ hp) (VD_round _ _ _ hp) g1 (Rat.le_trans h0 g3) g2 he
theorem powGo_dn_in {p:Nat} (hp:8≤p∧p≤512) {d:Dy} (hd:VD d) (h0:0≤dv d) {q:Rat} (hq:dv d≤q): ∀k j (r:Dy×Int),VD r.1→r.2=0→0≤dv r.1→dv r.1≤rpw q j→dv (powGo d p false k r).1≤rpw q (j+k)
 |0,j,r,_,_,_,l=>l
 |k+1,j,r,v,e,n,l=>by
  simp only[powGo]
  rw[if_pos e]
  have m:=(mul_RT v hd hp).1
  have z0:0≤dv r.1*dv d:=Rat.mul_nonneg n h0
  obtain⟨f1,f2⟩:=m.2 0 (.inl (inF_zero p)) z0
  have f3:=(m.1 f1).1
  have:=powGo_dn_in hp hd h0 hq k (j+1) _ (VD_mul _ _ _ _ hp) f1 f2 (Rat.le_trans f3 (mul_mono n l h0 hq))
  rwa [show j+1+k=j+(k+1) by omega]at this
theorem powD_dn_in {p n:Nat} (hp:8≤p∧p≤512) (hn:1≤n) {d:Dy} (hd:VD d) (h0:0≤dv d) {q:Rat} (hq:dv d≤q):dv (powD d n p false).1≤rpw q n:=by
 have m:=(round_RT hd hp).1
 obtain⟨f1,f2⟩:=m.2 0 (.inl (inF_zero p)) h0
 have f3:=(m.1 f1).1
 have:=powGo_dn_in hp hd h0 hq (n-1) 1 _ (VD_round _ _ _ hp) f1 f2 (by simp only[rpw];rw[Rat.one_mul];exact Rat.le_trans f3 hq)
 rwa [show 1+(n-1)=n by omega]at this
theorem powGo_up_in {p:Nat} (hp:8≤p∧p≤512) {d:Dy} (hd:VD d) {q:Rat} (h0:0≤q) (hq:q≤dv d): ∀k j (r:Dy×Int),VD r.1→rpw q j≤dv r.1→(powGo d p true k r).2=0→rpw q (j+k)≤dv (powGo d p true k r).1
 |0,j,r,_,l,_=>l
 |k+1,j,r,v,l,e=>by
  have er:=powGo_err e
  simp only[powGo]at e⊢
  rw[if_pos er]at e⊢
  have m:=(mul_RT v hd hp).2
  have f3:=(m.1 (powGo_err e)).1
  have:=powGo_up_in hp hd h0 hq k (j+1) _ (VD_mul _ _ _ _ hp) (Rat.le_trans (mul_mono (rpw_nn h0 j) l h0 hq) f3) e
  rwa [show j+1+k=j+(k+1) by omega]at this
theorem powD_up_in {p n:Nat} (hp:8≤p∧p≤512) (hn:1≤n) {d:Dy} (hd:VD d) {q:Rat} (h0:0≤q) (hq:q≤dv d) (he:(powD d n p true).2=0):rpw q n≤dv (powD d n p true).1:=by
 have m:=(round_RT hd hp).2
 have f3:=(m.1 (powGo_err he)).1
 have:=powGo_up_in hp hd h0 hq (n-1) 1 _ (VD_round _ _ _ hp) (by simp only[rpw];rw[Rat.one_mul];exact Rat.le_trans hq f3) he
 rwa [show 1+(n-1)=n by omega]at this
theorem end_neg {d:Dy} {n p:Nat} {up:Bool} (h:dv d<0):endD d n p up=(negD (powD (negD d) n p (!up)).1,(powD (negD d) n p (!up)).2):=by
 unfold endD;rw[if_pos ((sgn_spec d).1.2 h)]
theorem end_pos {d:Dy} {n p:Nat} {up:Bool} (h:0≤dv d):endD d n p up=powD d n p up:=by
 unfold endD;rw[if_neg fun c=>by have:=(sgn_spec d).1.1 c;grind]
theorem end_dn {p n:Nat} (hp:8≤p∧p≤512) {d d':Dy} (hd:VD d) (hd':VD d') (hle:dv d'≤dv d) (he:(endD d' n p false).2=0):(endD d n p false).2=0∧dv (endD d' n p false).1≤dv (endD d n p false).1:=by
 by_cases c':dv d'<0
 ·rw[end_neg c']at he⊢
  have hz:0≤dv (negD d'):=by rw[dv_neg];grind
  by_cases c:dv d<0
  ·rw[end_neg c]
   obtain⟨a1,_,a2⟩:=powD_up (n:=n) hp (VD_neg hd) (VD_neg hd') (by rw[dv_neg];grind) (by rw[dv_neg,dv_neg];grind) he
   refine⟨a1,?_⟩
   simp only[dv_neg]at a2⊢
   grind
  ·rw[end_pos (by grind)]
   obtain⟨b1,_,b3,_⟩:=powD_dn (n:=n) hp hd hd (by grind) Rat.le_refl
   obtain⟨_,a3,_⟩:=powD_up (n:=n) hp (VD_neg hd') (VD_neg hd') hz Rat.le_refl he
   refine⟨b1,?_⟩
   simp only[dv_neg,Bool.not_false]
   grind
 ·have h0:0≤dv d':=by grind
  rw[end_pos h0]at he⊢
  rw[end_pos (Rat.le_trans h0 hle)]
  obtain⟨_,b2,_,b4⟩:=powD_dn (n:=n) hp hd' hd h0 hle
  exact⟨b2,b4⟩
theorem end_up {p n:Nat} (hp:8≤p∧p≤512) {d d':Dy} (hd:VD d) (hd':VD d') (hle:dv d≤dv d') (he:(endD d' n p true).2=0):(endD d n p true).2=0∧dv (endD d n p true).1≤dv (endD d' n p true).1:=by
 by_cases c':dv d'<0
 ·have c:dv d<0:=by grind
  rw[end_neg c',end_neg c]
  obtain⟨_,b2,_,b4⟩:=powD_dn (n:=n) hp (VD_neg hd') (VD_neg hd) (by rw[dv_neg];grind) (by rw[dv_neg,dv_neg];grind)
  refine⟨b2,?_⟩
  simp only[dv_neg,Bool.not_true]at b4⊢
  grind
 ·have h0':0≤dv d':=by grind
  rw[end_pos h0']at he⊢
  by_cases c:dv d<0
  ·rw[end_neg c]
   obtain⟨b1,_,b3,_⟩:=powD_dn (n:=n) hp (VD_neg hd) (VD_neg hd) (by rw[dv_neg];grind) Rat.le_refl
   obtain⟨_,a3,_⟩:=powD_up (n:=n) hp hd' hd' h0' Rat.le_refl he
   refine⟨b1,?_⟩
   simp only[dv_neg,Bool.not_true]
   grind
  ·rw[end_pos (by grind)]
   obtain⟨a1,_,a3⟩:=powD_up (n:=n) hp hd hd' (by grind) hle he
   exact⟨a1,a3⟩
theorem end_dn_in {p n:Nat} (hp:8≤p∧p≤512) (hn:1≤n) {d:Dy} (hd:VD d) {q:Rat} (hq:dv d≤q) (hpar:n % 2=1∨0≤dv d) (he:(endD d n p false).2=0):dv (endD d n p false).1≤rpw q n:=by
 by_cases c:dv d<0
 ·rw[end_neg c]at he⊢
  have hodd:n % 2=1:=hpar.elim id fun h=>absurd c (by grind)
  have hz:0≤dv (negD d):=by rw[dv_neg];grind
  simp only[dv_neg,Bool.not_false]at he⊢
  by_cases cq:q<0
  ·have:=powD_up_in hp hn (VD_neg hd) (q:= -q) (by grind) (by rw[dv_neg];grind) he
   rw[rpw_neg,if_neg (by omega)]at this
   grind
  ·obtain⟨_,a3,_⟩:=powD_up (n:=n) hp (VD_neg hd) (VD_neg hd) hz Rat.le_refl he
   have:=rpw_nn (q:=q) (by grind) n
   grind
 ·rw[end_pos (by grind)]
  exact powD_dn_in hp hn hd (by grind) hq
theorem end_up_in {p n:Nat} (hp:8≤p∧p≤512) (hn:1≤n) {d:Dy} (hd:VD d) {q:Rat} (hq:q≤dv d) (hpar:n % 2=1∨0≤q) (he:(endD d n p true).2=0):rpw q n≤dv (endD d n p true).1:=by
 by_cases c:dv d<0
 ·have hodd:n % 2=1:=hpar.elim id fun h=>absurd c (by grind)
  rw[end_neg c]
  simp only[dv_neg,Bool.not_true]
  have:=powD_dn_in (n:=n) hp hn (VD_neg hd) (by rw[dv_neg];grind) (q:= -q) (by rw[dv_neg];grind)
  rw[rpw_neg,if_neg (by omega)]at this
  grind
 ·have h0:0≤dv d:=by grind
  rw[end_pos h0]at he⊢
  by_cases cq:q<0
  ·have hodd:n % 2=1:=hpar.elim id fun h=>absurd cq (by grind)
   obtain⟨_,a3,_⟩:=powD_up (n:=n) hp hd hd h0 Rat.le_refl he
   have h1:=rpw_nn (q:= -q) (by grind) n
   rw[rpw_neg,if_neg (by omega)]at h1
   grind
  ·exact powD_up_in hp hn hd (by grind) hq he
theorem absI_KI {x:Iv} (k:KI x):KI (absI x):=by
 rw[absI_k ((kB_iff k.ri).2 k)]
 have h:=abs_in k (a:=dv x.lo) Rat.le_refl k.dle
 exact⟨rfl,VD_mig k,VD_mag k,cmp_le.2 (Rat.le_trans h.2.1 h.2.2)⟩
theorem pow_eq {x:Iv} (k:KI x) {n p:Int} (hp:pcB p=true) (hn:0≤n∧n≤16):powI x n p=if n=0 then pointI (intD 1)else pwK (if n % 2=0 then absI x else x) n.toNat p.toNat:=by
 unfold powI;rw[if_pos ⟨(kB_iff k.ri).2 k,hp,hn⟩]
theorem pow_w {x:Iv} (hx:RI x) {n p:Int} (h: ¬KI x):powI x n p=wI0:=by
 unfold powI;rw[if_neg fun c=>h ((kB_iff hx).1 c.1)]
theorem dv_int (n:Int):dv (intD n)=(n:Rat):=by
 unfold intD
 rw[dv_cnN]
 have hv:vN n.natAbs 0=((n.natAbs:Nat):Rat):=by
  unfold vN
  have:pw 0=1:=by have:=pw_nat 0;simpa using this
  rw[this,Rat.mul_one]
 rw[hv]
 by_cases h:n<0
 ·rw[decide_eq_true h,if_pos rfl]
  have e:n= -(n.natAbs:Int):=by omega
  conv=>rhs;rw[e]
  rw[Rat.intCast_neg,Rat.intCast_natCast]
 ·rw[decide_eq_false h,if_neg (by decide)]
  have e:n=(n.natAbs:Int):=by omega
  conv=>rhs;rw[e]
  rw[Rat.intCast_natCast]
theorem pw_in {y:Iv} (k:KI y) {n p:Nat} (hp:8≤p∧p≤512) (hn:1≤n) {q:Rat} (h1:dv y.lo≤q) (h2:q≤dv y.hi) (hpar:n % 2=1∨0≤dv y.lo):inI (rpw q n) (pwK y n p):=by
 unfold pwK
 cases ha:(madeI (endD y.lo n p false) (endD y.hi n p true)).all with
 |true=>exact .inl ha
 |false=>
  obtain⟨e1,e2⟩:=made_all.1 ha
  rw[made_eq ha]
  exact .inr ⟨end_dn_in hp hn k.lo h1 hpar e1,end_up_in hp hn k.hi h2 (hpar.imp id fun c=>Rat.le_trans c h1) e2⟩
theorem pow_in {x:Iv} (hx:VI x) {n p:Int} (hp:pcB p=true) (hn:0≤n∧n≤16) {q:Rat} (hq:inI q x):inI (rpw q n.toNat) (powI x n p):=by
 by_cases k:KI x
 ·rw[pow_eq k hp hn]
  rcases hq with hq|hq
  ·rw[k.all]at hq;cases hq
  by_cases h0:n=0
  ·subst h0
   rw[if_pos rfl]
   refine .inr ⟨?_,?_⟩
   ·show dv (intD 1)≤1
    rw[dv_int];decide
   ·show 1≤dv (intD 1)
    rw[dv_int];decide
  ·rw[if_neg h0]
   by_cases he:n % 2=0
   ·rw[if_pos he]
    have ka:=absI_KI k
    have ha:=abs_in k hq.1 hq.2
    have e:absI x=⟨migD x,magD x,false⟩:=absI_k ((kB_iff k.ri).2 k)
    have hr:rpw (rabs q) n.toNat=rpw q n.toNat:=by
     unfold rabs
     split
     ·rw[rpw_neg,if_pos (by omega)]
     ·rfl
    rw[←hr]
    refine pw_in ka (pc_of hp) (by omega) ?_ ?_ (.inr ?_)
    ·rw[e];exact ha.2.1
    ·rw[e];exact ha.2.2
    ·rw[e];exact ha.1
   ·rw[if_neg he]
    exact pw_in k (pc_of hp) (by omega) hq.1 hq.2 (.inl (by omega))
 ·rw[pow_w hx.ri k];exact w_in _
theorem pow_VI {x:Iv} (hx:VI x) {n p:Int} (hp:pcB p=true):VI (powI x n p):=by
 by_cases hn:0≤n∧n≤16
 ·exact VI_of_in (CI_pow x n p) (pow_in hx hp hn (lo_in hx))
 ·have:powI x n p=wI0:=by unfold powI;rw[if_neg fun c=>hn c.2.2]
  rw[this];exact .inr rfl
theorem pwK_iso {y y':Iv} (k:KI y) (k':KI y') {n p:Nat} (hp:8≤p∧p≤512) (h1:dv y'.lo≤dv y.lo) (h2:dv y.hi≤dv y'.hi):subI' (pwK y n p) (pwK y' n p):=by
 unfold pwK
 cases ha:(madeI (endD y'.lo n p false) (endD y'.hi n p true)).all with
 |true=>exact .inl ha
 |false=>
  obtain⟨e1,e2⟩:=made_all.1 ha
  obtain⟨a1,a2⟩:=end_dn hp k.lo k'.lo h1 e1
  obtain⟨b1,b2⟩:=end_up hp k.hi k'.hi h2 e2
  have hb:=made_all.2 ⟨a1,b1⟩
  rw[made_eq ha,made_eq hb]
  exact .inr ⟨rfl,rfl,a2,b2⟩
theorem pow_iso {x x':Iv} (hx:VI x) (hx':VI x') {n p:Int} (hp:pcB p=true) (h:subI' x x'):subI' (powI x n p) (powI x' n p):=by
 by_cases hn:0≤n∧n≤16
 rotate_left
 ·have:powI x' n p=wI0:=by unfold powI;rw[if_neg fun c=>hn c.2.2]
  rw[this];exact .inl rfl
 by_cases k':KI x'
 ·obtain⟨k,a1,a2⟩:=sub_K h hx k'
  rw[pow_eq k hp hn,pow_eq k' hp hn]
  by_cases h0:n=0
  ·rw[if_pos h0,if_pos h0]
   exact .inr ⟨rfl,rfl,Rat.le_refl,Rat.le_refl⟩
  ·rw[if_neg h0,if_neg h0]
   by_cases he:n % 2=0
   ·rw[if_pos he,if_pos he]
    obtain⟨_,i2,i3⟩:=abs_iso k k' a1 a2
    refine pwK_iso (absI_KI k) (absI_KI k') (pc_of hp) ?_ ?_
    ·rw[absI_k ((kB_iff k.ri).2 k),absI_k ((kB_iff k'.ri).2 k')];exact i2
    ·rw[absI_k ((kB_iff k.ri).2 k),absI_k ((kB_iff k'.ri).2 k')];exact i3
   ·rw[if_neg he,if_neg he]
    exact pwK_iso k k' (pc_of hp) a1 a2
 ·rw[pow_w hx'.ri k'];exact .inl rfl
end Go.Proofs.YtajnlbbgolmklaaGreatDoor
