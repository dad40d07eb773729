/-
  Rounding as a law of rational numbers: the greatest number of p bits below a number, the least one above it.
-/
import Derived.Test.YtbolipecnhlnnaaGreatDoorQYu
import Derived.Test.YtbolipecnhlnnaaGreatDoorQYy
set_option linter.unusedVariables false
set_option linter.unusedSimpArgs false
open Bool renaming false_eq_true->q5,and_false->qE,and_self->qP
open Nat renaming two_pow_pos->q4,pow_le_pow_right->qB,lt_of_lt_of_le->qD,le_div_iff_mul_le->qH,pow_add->qI,pos_of_ne_zero->qK,le_of_lt->qM,div_add_mod'->qN,succ_mul->qR,not_le->qT,mod_lt->qU
open Rat renaming le_trans->q2,le_refl->q3,not_le->q6,intCast_lt_intCast->q7,le_of_lt->q9,mul_comm->qA,intCast_natCast->qC,lt_irrefl->qF,not_lt->qG,neg_neg->qJ,mul_inv_cancel->qL,intCast_neg->qO,zero_mul->qQ,inv_pos->qS
namespace Go.Proofs.YtbolipecnhlnnaaGreatDoor
open Go Go.Sx
set_option maxHeartbeats 2000000
def pw (e:Int):Rat:=(2:Rat)^e
theorem pwA (a b:Int):pw (a+b)=pw a*pw b:=Rat.zpow_add (by decide) a b
theorem zbi (e:Int):0<pw e:=Rat.zpow_pos (by decide)
theorem wp (k:Nat):pw (k:Int)=((2^k:Nat):Rat):=by
 unfold pw;rw[Rat.zpow_natCast,Rat.natCast_pow];rfl
theorem zsy {a b:Nat}:(a:Rat)<=(b:Rat)<->a<=b:=Rat.natCast_le_natCast
theorem zo1 (a b:Nat):((a*b:Nat):Rat)=a*b:=Rat.natCast_mul a b
theorem zwi (a b:Nat):((a+b:Nat):Rat)=a+b:=Rat.natCast_add a b
theorem zsx (a:Nat):(0:Rat)<=a:=Rat.natCast_nonneg
theorem zyh {a b c:Rat} (h1:a<b) (h2:b<=c):a<c:=by grind
theorem vf {a b c:Rat} (h:a<=b) (hc:0<=c):a*c<=b*c:=Rat.mul_le_mul_of_nonneg_right h hc
theorem zcs {a b c:Rat} (h:a*c<=b*c) (hc:0<c):a<=b:=Rat.le_of_mul_le_mul_right h hc
def vN (n:Nat) (e:Int):Rat:=(n:Rat)*pw e
theorem yu {a b:Nat} {e:Int}:vN a e<=vN b e<->a<=b:=by
 unfold vN;constructor
 ·intro h;exact zsy.1 (zcs h (zbi e))
 ·intro h;exact vf (zsy.2 h) (q9 (zbi e))
theorem zmo {a b:Nat} {e:Int}:vN a e<vN b e<->a<b:=by
 have h1:=yu (a:=b) (b:=a) (e:=e);constructor
 ·intro h;exact qT.1 fun c=>qG.2 (h1.2 c) h
 ·intro h;exact q6.1 fun c=>by have:=h1.1 c;omega
theorem zc3 (n k:Nat) (e:Int):vN (n*2^k) e=vN n (e+k):=by
 unfold vN;rw[pwA,wp,zo1,Rat.mul_assoc,qA (pw e)]
theorem xu (n:Nat) (e u:Int) (h:u<=e):vN n e=vN (n*2^(e-u).toNat) u:=by
 rw[zc3];congr 1;omega
theorem zc4 (n:Nat) (e:Int):0<=vN n e:=Rat.mul_nonneg (zsx n) (q9 (zbi e))
theorem uj (e:Int):vN 0 e=0:=by unfold vN;rw[show((0:Nat):Rat)=0 from rfl,qQ]
theorem zkq (e:Int):vN 1 e=pw e:=by unfold vN;rw[show((1:Nat):Rat)=1 from rfl,Rat.one_mul]
theorem zci (k:Nat) (e:Int):vN (2^k) e=pw (e+k):=by
 have:=zc3 1 k e;rw[Nat.one_mul]at this;rw[this,zkq]
theorem xx {a b:Int}:pw a<=pw b<->a<=b:=by
 have key: ∀ {a b:Int},a<=b->pw a<=pw b:=fun {a b} h=>by
  rw[←zkq a,←zkq b,xu 1 b a h,yu];have:=q4 (b-a).toNat;omega
 constructor
 ·intro h;refine Int.not_lt.1 fun c=>?_
  have h1:pw (b+1)<=pw a:=key (by omega);have h2:pw (b+1)=pw b*2:=by rw[pwA];congr 1
  have h3:=zbi b;grind
 ·exact key
def dv (d:Dy):Rat:=if d.neg=true then-(vN (nm d) d.e)else vN (nm d) d.e
theorem zbv (neg:Bool) (n:Nat) (e:Int):dv (cnN neg n e)=if neg=true then-(vN n e)else vN n e:=by
 by_cases h:n=0
 ·subst h;have e1:cnN neg 0 e=d0:=by unfold cnN;rw[if_pos rfl]
  rw[e1,uj];unfold dv;rw[if_neg (by decide),zjt,uj];split<;>rfl
 ·obtain⟨m,hm,hm1,hm2,_⟩:=za0 h;have hc:cnN neg n e=⟨neg,toL m,e+tz n⟩:=by unfold cnN;rw[if_neg h,hm2]
  have hv:vN n e=vN m (e+tz n):=by
   conv=>lhs;rw[hm]
   exact zc3 m (tz n) e
  unfold dv;rw[hc,ux,hv]
def inF (p:Nat) (z:Rat):Prop:= ∃(k:Nat) (u:Int),z=vN k u/\k<=2^p/\ -16384<=u/\z<pw 16384
theorem zf7 {n:Nat} {e t:Int} (h:(bl n:Int)+e<=t):vN n e<pw t:=by
 have h1:vN n e<vN (2^bl n) e:=zmo.2 (zfb n);rw[zci]at h1;exact zyh h1 (xx.2 (by omega))
theorem jp {n:Nat} {e t:Int} (h:t<(bl n:Int)+e) (hn:n≠0):pw t<=vN n e:=by
 have h0:bl n≠0:=fun c=>hn (za6.1 c)
 have h1:2^(bl n-1)<=n:=(zeq hn).1 (by omega);have h2:vN (2^(bl n-1)) e<=vN n e:=yu.2 h1;rw[zci]at h2;exact q2 (xx.2 (by omega)) h2
theorem zkr (m:Nat) (e p:Int):unN m e p=e+bl m-p\/(unN m e p= -16384/\e+bl m-p<= -16384):=by unfold unN;omega
theorem grid {p:Nat} {k:Nat} {u w:Int} (hk:k<=2^p):(w<=u/\ ∃j:Nat,vN k u=vN j w)\/(u<w/\vN k u<=pw (w+p-1)):=by
 by_cases h:w<=u
 ·exact .inl ⟨h,_,xu k u w h⟩
 ·refine .inr ⟨by omega,?_⟩;have h1:vN k u<=vN (2^p) u:=yu.2 hk;rw[zci]at h1;exact q2 h1 (xx.2 (by omega))
theorem zg5 {m:Nat} {e:Int} {more:Bool} {u:Int} (h: ¬u<=e):vN (ja m e more u).1 u<=vN m e/\vN (m+1) e<=vN ((ja m e more u).1+1) u/\((ja m e more u).2=false->more=false/\vN (ja m e more u).1 u=vN m e)/\((ja m e more u).2=true->more=true\/ ¬vN m e<=vN (ja m e more u).1 u):=by
 unfold ja;rw[if_neg h];simp only;have hk:=q4 (u-e).toNat;have e1: ∀n,vN n u=vN (n*2^(u-e).toNat) e:=fun n=>xu n u e (by omega)
 have h1:=qN m (2^(u-e).toNat);have h2:=qU m hk;rw[e1,e1,yu,yu,qR];refine⟨by omega,by omega,?_,?_⟩
 ·intro h3;simp only[Bool.or_eq_false_iff,decide_eq_false_iff_not,Decidable.not_not]at h3;refine⟨h3.1,?_⟩
  congr 1;omega
 ·intro h3;simp only[Bool.or_eq_true,decide_eq_true_eq]at h3;refine h3.imp id fun h4=>?_
  rw[yu];omega
theorem zxi {L:Rat->Prop} (hL: ∀a b,a<=b->L b->L a) {m:Nat} {e:Int} {more:Bool} {p:Nat} (hp:8<=p/\p<=512) (h0:L (vN m e)) (h1: ∀z,L z->z<=vN (m+1) e) (h1': ¬L (vN (m+1) e)) (hx:more=false-> ∀z,L z->z<=vN m e) (hm:more=true->p<bl m) (he:m=0->e<=16384):
 (zce m e more p false).2=0/\L (dv (zce m e more p false).1)/\inF p (dv (zce m e more p false).1)/\ ∀z,inF p z->L z->z<=dv (zce m e more p false).1:=by
 have hub:=zrc m e p;have huc:=zkr m e p;have hfb:=zj9 m e more p;have hup:upN (ja m e more (unN m e p)) false=(ja m e more (unN m e p)).1:=by unfold upN;simp
 have hlead:unN m e p=e+bl m-p->m≠0->pw (unN m e p+p-1)<=vN (ja m e more (unN m e p)).1 (unN m e p)/\pw (unN m e p+p-1)<=vN m e:=by
  intro h hm0;have hb0:bl m≠0:=fun c=>hm0 (za6.1 c)
  have h2:pw (unN m e p+p-1)<=vN m e:=jp (by omega) hm0;refine⟨?_,h2⟩;by_cases hu:unN m e p<=e
  ·have:vN (ja m e more (unN m e p)).1 (unN m e p)=vN m e:=by
    unfold ja;rw[if_pos hu];exact(xu m e _ hu).symm
   rw[this];exact h2
  ·have h3:(ja m e more (unN m e p)).1=m/2^(unN m e p-e).toNat :=by unfold ja;rw[if_neg hu]
   have h4:2^(p-1)<=m/2^(unN m e p-e).toNat :=by
    rw[qH (q4 _),←qI];exact(zeq hm0).1 (by omega)
   rw[h3];have h5:vN (2^(p-1)) (unN m e p)<=vN (m/2^(unN m e p-e).toNat) (unN m e p):=yu.2 h4;rw[zci]at h5;refine q2 (xx.2 (by omega)) h5
 have hq1:L (vN (ja m e more (unN m e p)).1 (unN m e p)):=by
  by_cases hu:unN m e p<=e
  ·have:vN (ja m e more (unN m e p)).1 (unN m e p)=vN m e:=by
    unfold ja;rw[if_pos hu];exact(xu m e _ hu).symm
   rw[this];exact h0
  ·exact hL _ _ (zg5 hu).1 h0
 have hq2: ∀j,L (vN j (unN m e p))->vN j (unN m e p)<=vN (ja m e more (unN m e p)).1 (unN m e p):=by
  intro j hj;by_cases hu:unN m e p<=e
  ·have hmf:more=false:=by
    cases hmo:more with
    |false=>rfl
    |true=>
     have:=hm hmo;rcases huc with h|h<;>omega
   have:vN (ja m e more (unN m e p)).1 (unN m e p)=vN m e:=by
    unfold ja;rw[if_pos hu];exact(xu m e _ hu).symm
   rw[this];exact hx hmf _ hj
  ·rw[yu];refine Nat.not_lt.1 fun c=>?_
   have h3:vN ((ja m e more (unN m e p)).1+1) (unN m e p)<=vN j (unN m e p):=yu.2 c;exact h1' (hL _ _ (q2 (zg5 hu).2.1 h3) hj)
 unfold zce;rw[hup];generalize (ja m e more (unN m e p)).1=q at*;generalize unN m e p=w at*;split
 ·rename_i hov;simp only[q5,if_false];have hq0:q≠0:=fun c=>by
   rw[c,ko]at hov;rcases huc with h|h
   ·by_cases hm0:m=0
    ·have:=he hm0;rw[hm0,ko]at h;omega
    ·have h3:=(hlead h hm0).1;rw[c,uj]at h3;exact q6.2 (zbi _) h3
   ·omega
  have hbig:pw 16384<=vN q w:=jp (by omega) hq0;rw[zbv,if_neg (by decide)];have hp2:=q4 p;have hlt:vN (2^p-1) (16384-p)<pw 16384:=by
   have:vN (2^p-1) (16384-p)<vN (2^p) (16384-p):=zmo.2 (by omega);rw[zci]at this;have e2:(16384-(p:Int)+p)=16384:=by omega
   rwa [e2]at this
  refine⟨trivial,hL _ _ (q2 (q9 hlt) hbig) hq1,⟨2^p-1,16384-p,rfl,by omega,by omega,hlt⟩,fun z hz _=>?_⟩;obtain⟨k,u,rfl,hk,hu,hz16⟩:=hz;rcases grid (w:=16384-p) hk (u:=u)with ⟨_,j,hj⟩|⟨_,hj⟩
  ·rw[hj]at hz16⊢;rw[yu];have e3:pw 16384=vN (2^p) (16384-p):=by rw[zci];congr 1;omega
   rw[e3,zmo]at hz16;omega
  ·refine q2 hj ?_;have e4:pw (16384-(p:Int)+p-1)=vN (2^(p-1)) (16384-p):=by rw[zci];congr 1;omega
   rw[e4,yu];have:2^p=2*2^(p-1):=by rw[Nat.mul_comm,←Nat.pow_succ];congr 1;omega
   have:=q4 (p-1);omega
 ·rename_i hov;simp only;rw[zbv,if_neg (by decide)];refine⟨trivial,hq1,⟨q,w,rfl,?_,hub,zf7 (by omega)⟩,fun z hz hLz=>?_⟩
  ·exact qM (qD (zfb q) (qB (by decide) hfb))
  ·obtain⟨k,u,rfl,hk,hu,_⟩:=hz;rcases grid (w:=w) hk (u:=u)with ⟨_,j,hj⟩|⟨hlt,hj⟩
   ·rw[hj]at hLz⊢;exact hq2 j hLz
   ·rcases huc with h|h
    ·by_cases hm0:m=0
     ·subst hm0;have hmf:more=false:=by
       cases hmo:more with
       |false=>rfl
       |true=>have:=hm hmo;rw[ko]at this;omega
      have h3:=hx hmf _ hLz;rw[uj]at h3;exact q2 h3 (zc4 q w)
     ·exact q2 hj (hlead h hm0).1
    ·omega
theorem zjn {a b:Rat} (h1:a<=b) (h2:b<=a):a=b:=by grind
theorem qge {U:Rat->Prop} (hU: ∀a b,a<=b->U a->U b) {m:Nat} {e:Int} {more:Bool} {p:Nat} (hp:8<=p/\p<=512) (h0:more=false->U (vN m e)) (h0':U (vN (m+1) e)) (h1: ∀z,U z->vN m e<=z) (h1':more=true-> ¬U (vN m e)) (hm:more=true->p<bl m) (he:m=0->e<=16384):
 ((zce m e more p true).2=0->U (dv (zce m e more p true).1)/\inF p (dv (zce m e more p true).1))/\ ∀z,inF p z->U z->(zce m e more p true).2=0/\dv (zce m e more p true).1<=z:=by
 have hub:=zrc m e p;have huc:=zkr m e p;have hfb:=zj9 m e more p;have hmf:unN m e p<=e->more=false:=fun hu=>by
  cases hmo:more with
  |false=>rfl
  |true=>
   have:=hm hmo;rcases huc with h|h<;>omega
 have hex:unN m e p<=e->vN (ja m e more (unN m e p)).1 (unN m e p)=vN m e/\(ja m e more (unN m e p)).2=false:=fun hu=>by
  have:=hmf hu;unfold ja;rw[if_pos hu];exact⟨(xu m e _ hu).symm,this⟩
 have hA:U (vN (upN (ja m e more (unN m e p)) true) (unN m e p)):=by
  by_cases hu:unN m e p<=e
  ·obtain⟨e1,e2⟩:=hex hu;unfold upN;rw[e2];simp only[qE,q5,if_false];rw[e1];exact h0 (hmf hu)
  ·obtain⟨f1,f2,f3,f4⟩:=zg5 (m:=m) (more:=more) hu;unfold upN
   cases hF:(ja m e more (unN m e p)).2 with
   |false=>
    simp only[qE,q5,if_false];obtain⟨g1,g2⟩:=f3 hF;rw[g2];exact h0 g1
   |true=>
    simp only[qP,if_true];exact hU _ _ f2 h0'
 have hB: ∀j,U (vN j (unN m e p))->upN (ja m e more (unN m e p)) true<=j:=by
  intro j hj;have hle:=h1 _ hj;by_cases hu:unN m e p<=e
  ·obtain⟨e1,e2⟩:=hex hu;unfold upN;rw[e2];simp only[qE,q5,if_false];rw[←e1,yu]at hle;exact hle
  ·obtain⟨f1,f2,f3,f4⟩:=zg5 (m:=m) (more:=more) hu;unfold upN
   cases hF:(ja m e more (unN m e p)).2 with
   |false=>
    simp only[qE,q5,if_false];obtain⟨g1,g2⟩:=f3 hF;rw[←g2,yu]at hle;exact hle
   |true=>
    simp only[qP,if_true];refine qT.1 fun c=>?_
    have h3:vN j (unN m e p)<=vN (ja m e more (unN m e p)).1 (unN m e p):=yu.2 c;rcases f4 hF with h|h
    ·refine h1' h ?_;rw[zjn hle (q2 h3 f1)];exact hj
    ·exact h (q2 hle h3)
 have hq0:m=0->upN (ja m e more (unN m e p)) true=0:=fun h=>by
  have hmo:more=false:=by
   cases hmo:more with
   |false=>rfl
   |true=>have:=hm hmo;rw[h,ko]at this;omega
  subst h hmo;unfold ja upN;split<;>simp
 have hle:upN (ja m e more (unN m e p)) true<=2^p:=by
  have h3:(ja m e more (unN m e p)).1<2^p:=qD (zfb _) (qB (by decide) hfb);unfold upN;split<;>omega
 have hlead: ∀z,U z->z<=pw (unN m e p+p-1)->unN m e p=e+bl m-p->vN (upN (ja m e more (unN m e p)) true) (unN m e p)<=z:=by
  intro z hz hz2 h;by_cases hm0:m=0
  ·rw[hq0 hm0,uj];exact q2 (zc4 m e) (h1 z hz)
  ·have hb0:bl m≠0:=fun c=>hm0 (za6.1 c)
   have h2:pw (unN m e p+p-1)<=vN m e:=jp (by omega) hm0;have h3:z=vN (2^(p-1)) (unN m e p):=by
    rw[zci];have:unN m e p+((p-1:Nat):Int)=unN m e p+p-1:=by omega
    rw[this];exact zjn hz2 (q2 h2 (h1 z hz))
   rw[h3]at hz⊢;exact yu.2 (hB _ hz)
 have hall: ∀z,inF p z->U z->vN (upN (ja m e more (unN m e p)) true) (unN m e p)<=z:=by
  intro z hz hUz;obtain⟨k,u,rfl,hk,hu,_⟩:=hz;rcases grid (w:=unN m e p) hk (u:=u)with ⟨_,j,hj⟩|⟨hlt,hj⟩
  ·rw[hj]at hUz⊢;exact yu.2 (hB j hUz)
  ·rcases huc with h|h
   ·exact hlead _ hUz hj h
   ·omega
 unfold zce;generalize upN (ja m e more (unN m e p)) true=q at*;generalize unN m e p=w at*;by_cases hov:16384<(bl q:Int)+w
 ·rw[if_pos hov];simp only[if_true];refine⟨fun h=>absurd h (by decide),fun z hz hUz=>?_⟩;have hqn:q≠0:=fun c=>by
   rw[c,ko]at hov;rcases huc with h|h
   ·by_cases hm0:m=0
    ·have:=he hm0;rw[hm0,ko]at h;omega
    ·have hb0:bl m≠0:=fun c=>hm0 (za6.1 c)
     rw[c,uj]at hA;have h3:=h1 _ hA;have h4:pw (w+p-1)<=vN m e:=jp (by omega) hm0;exact q6.2 (zbi _) (q2 h4 h3)
   ·omega
  have h3:=hall z hz hUz;have h4:pw 16384<=vN q w:=jp (by omega) hqn;obtain⟨_,_,_,_,_,h5⟩:=hz;exact absurd (q2 h4 h3) (q6.2 h5)
 ·rw[if_neg hov];simp only;rw[zbv,if_neg (by decide)];exact⟨fun _=>⟨hA,q,w,rfl,hle,hub,zf7 (by omega)⟩,fun z hz hUz=>⟨trivial,hall z hz hUz⟩⟩
def Fp (p:Nat) (z:Rat):Prop:=inF p z\/inF p (-z)
def RD (p:Nat) (L:Rat->Prop) (r:Dy×Int):Prop:=(r.2=0->L (dv r.1)/\Fp p (dv r.1))/\ ∀z,Fp p z->L z->r.2=0/\z<=dv r.1
def RU (p:Nat) (U:Rat->Prop) (r:Dy×Int):Prop:=(r.2=0->U (dv r.1)/\Fp p (dv r.1))/\ ∀z,Fp p z->U z->r.2=0/\dv r.1<=z
theorem zck {d:Dy}:dv (uy d)= -dv d:=by
 unfold uy dv;by_cases h:nm d=0
 ·rw[if_pos h,if_neg (by decide),zjt,h,uj,uj];split<;>rfl
 ·rw[if_neg h];have h2:nm ⟨!d.neg,d.m,d.e⟩=nm d:=rfl;rw[h2];cases d.neg<;>simp
theorem ym:dv d0=0:=by
 unfold dv;rw[if_neg (by decide),zjt,uj]
theorem zf1 (p:Nat):inF p 0:=⟨0,0,(uj 0).symm,Nat.zero_le _,by decide,zbi _⟩
theorem zll {p:Nat} {z:Rat} (h:inF p z):0<=z:=by
 obtain⟨k,u,rfl,_⟩:=h;exact zc4 k u
theorem zv0 {L U:Rat->Prop} {m:Nat} {e:Int} {more:Bool} {p:Nat} (hp:8<=p/\p<=512) (neg:Bool)
 (hL: ∀a b,a<=b->L b->L a) (hU: ∀a b,a<=b->U a->U b) (l0:L (vN m e)) (l1: ∀z,L z->z<=vN (m+1) e) (l1': ¬L (vN (m+1) e)) (lx:more=false-> ∀z,L z->z<=vN m e)
 (u0:more=false->U (vN m e)) (u0':U (vN (m+1) e)) (u1: ∀z,U z->vN m e<=z) (u1':more=true-> ¬U (vN m e)) (hm:more=true->p<bl m) (he:m=0->e<=16384):
 RD p (fun z=>if neg=true then U (-z)else L z) (zbe neg m e more p false)/\RU p (fun z=>if neg=true then L (-z)else U z) (zbe neg m e more p true):=by
 have hL0:L 0:=hL _ _ (zc4 m e) l0;obtain⟨d1,d2,d3,d4⟩:=zxi hL hp l0 l1 l1' lx hm he;obtain⟨c1,c2⟩:=qge hU hp u0 u0' u1 u1' hm he;have hUn: ∀z,U z->0<=z:=fun z hz=>q2 (zc4 m e) (u1 z hz)
 have hr0:0<=dv (zce m e more p false).1:=zll d3
 cases neg with
 |false=>
  have e1:zbe false m e more p false=zce m e more p false:=by unfold zbe;rw[if_neg (by simp)];rfl
  have e2:zbe false m e more p true=zce m e more p true:=by unfold zbe;rw[if_neg (by simp)];rfl
  rw[e1,e2];refine⟨⟨fun _=>⟨by simpa using d2,.inl d3⟩,fun z hz hz2=>⟨d1,?_⟩⟩,⟨fun h=>?_,fun z hz hz2=>?_⟩⟩
  ·rcases hz with hz|hz
   ·exact d4 z hz (by simpa using hz2)
   ·have:=zll hz;grind
  ·obtain⟨h1,h2⟩:=c1 h;exact⟨by simpa using h1,.inl h2⟩
  ·have hz3:U z:=by simpa using hz2
   rcases hz with hz|hz
   ·exact c2 z hz hz3
   ·have h3:=zll hz;have h4:=hUn z hz3;have h5:z=0:=by grind
    subst h5;exact c2 0 (zf1 p) hz3
 |true=>
  have e1:zbe true m e more p false=if(zce m e more p true).2=0 then(uy (zce m e more p true).1,0)else zce m e more p true:=by
   unfold zbe;simp only[and_true];rfl
  have e2:zbe true m e more p true=(uy (zce m e more p false).1,0):=by
   unfold zbe;simp only[and_true];rw[if_pos (by exact d1)];rfl
  rw[e1,e2];refine⟨⟨fun h=>?_,fun z hz hz2=>?_⟩,⟨fun _=>?_,fun z hz hz2=>⟨rfl,?_⟩⟩⟩
  ·by_cases hc:(zce m e more p true).2=0
   ·rw[if_pos hc];obtain⟨h1,h2⟩:=c1 hc;simp only[zck,if_true];refine⟨?_,.inr ?_⟩
    ·rw[qJ];exact h1
    ·rw[qJ];exact h2
   ·rw[if_neg hc]at h;exact absurd h hc
  ·have hz3:U (-z):=by simpa using hz2
   have hz4:inF p (-z):=by
    rcases hz with hz|hz
    ·have h3:=zll hz;have h4:=hUn _ hz3;have h5:z=0:=by grind
     subst h5;have:(-0:Rat)=0:=by grind
     rw[this];exact zf1 p
    ·exact hz
   obtain⟨h1,h2⟩:=c2 _ hz4 hz3;rw[if_pos h1];refine⟨rfl,?_⟩;simp only[zck];grind
  ·simp only[zck,if_true];refine⟨?_,.inr ?_⟩
   ·rw[qJ];exact d2
   ·rw[qJ];exact d3
  ·have hz3:L (-z):=by simpa using hz2
   simp only[zck];rcases hz with hz|hz
   ·have:=zll hz;grind
   ·have:=d4 _ hz hz3;grind
theorem RD.congr {p:Nat} {L L':Rat->Prop} {r:Dy×Int} (h:RD p L r) (hl: ∀z,L z<->L' z):RD p L' r:=
 ⟨fun e=>⟨(hl _).1 (h.1 e).1,(h.1 e).2⟩,fun z hz hz2=>h.2 z hz ((hl z).2 hz2)⟩
theorem RU.congr {p:Nat} {U U':Rat->Prop} {r:Dy×Int} (h:RU p U r) (hl: ∀z,U z<->U' z):RU p U' r:=
 ⟨fun e=>⟨(hl _).1 (h.1 e).1,(h.1 e).2⟩,fun z hz hz2=>h.2 z hz ((hl z).2 hz2)⟩
def RT (p:Nat) (y:Rat) (F:Bool->Dy×Int):Prop:=RD p (fun z=>z<=y) (F false)/\RU p (fun z=>y<=z) (F true)
theorem zfm {x:Rat} {m:Nat} {e:Int} {more:Bool} {p:Nat} (hp:8<=p/\p<=512) (neg:Bool) (h1:vN m e<=x) (h2:x<vN (m+1) e) (h3:more=false->x=vN m e) (h4:more=true->vN m e<x) (hm:more=true->p<bl m) (he:m=0->e<=16384):
 RT p (if neg=true then-x else x) (fun up=>zbe neg m e more p up):=by
 obtain⟨a,b⟩:=zv0 (L:=fun z=>z<=x) (U:=fun z=>x<=z) hp neg (fun a b h1 h2=>q2 h1 h2) (fun a b h1 h2=>q2 h2 h1) h1 (fun z hz=>q2 hz (q9 h2)) (q6.2 h2)
  (fun h z hz=>by rw[←h3 h];exact hz) (fun h=>by rw[h3 h];exact q3) (q9 h2) (fun z hz=>q2 h1 hz) (fun h=>q6.2 (h4 h)) hm he
 refine⟨a.congr fun z=>?_,b.congr fun z=>?_⟩
 ·cases neg with
  |true=>simp only[if_true];constructor<;>intro h<;>grind
  |false=>simp
 ·cases neg with
  |true=>simp only[if_true];constructor<;>intro h<;>grind
  |false=>simp
theorem zed (m:Nat) (e:Int):vN m e<vN (m+1) e:=zmo.2 (Nat.lt_succ_self m)
theorem zdb {m:Nat} {e:Int} {p:Nat} (hp:8<=p/\p<=512) (neg:Bool) (he:m=0->e<=16384):
 RT p (if neg=true then-(vN m e)else vN m e) (fun up=>zbe neg m e false p up):=
 zfm hp neg q3 (zed m e) (fun _=>rfl) (fun h=>by cases h) (fun h=>by cases h) he
theorem ur {d:Dy} (hd:VD d) {p:Nat} (hp:8<=p/\p<=512):RT p (dv d) (fun up=>wo d p up):=by
 have:=zdb (m:=nm d) (e:=d.e) hp d.neg (fun _=>hd.exp.2.1);exact this
theorem zra (a b:Nat) (e f:Int):vN a e*vN b f=vN (a*b) (e+f):=by
 unfold vN;rw[pwA,zo1];grind
theorem qf7 {a b:Dy}:dv a*dv b=if(a.neg != b.neg)=true then-(vN (nm a*nm b) (a.e+b.e))else vN (nm a*nm b) (a.e+b.e):=by
 rw[←zra];unfold dv;cases a.neg<;>cases b.neg<;>simp<;>grind
theorem zq7 {d:Dy} (h:VD d) (h0:nm d=0):d.e=0:=by
 rcases h.ok with ⟨_,_,h3⟩|⟨h3,_⟩
 ·exact h3
 ·omega
theorem zie {a b:Dy} (ha:VD a) (hb:VD b) {p:Nat} (hp:8<=p/\p<=512):RT p (dv a*dv b) (fun up=>ue a b p up):=by
 rw[qf7];refine zdb hp _ fun h=>?_
 have a2:=ha.exp;have b2:=hb.exp;rcases Nat.mul_eq_zero.1 h with h|h
 ·have:=zq7 ha h;omega
 ·have:=zq7 hb h;omega
theorem zx2 {n:Nat} (e:Int) (h:n≠0):0<vN n e:=by
 rw[←uj e,zmo];omega
theorem zzd {a b c:Rat} (hb:0<b):c<=a/b<->c*b<=a:=by
 have e:a/b*b=a:=by grind
 constructor
 ·intro h;have:=vf h (q9 hb)
  rwa [e]at this
 ·intro h;exact zcs (by rw[e];exact h) hb
theorem qgb {a b c:Rat} (hb:0<b):a/b<c<->a<c*b:=by
 have:=zzd (a:=a) (c:=c) hb;constructor
 ·intro h;exact q6.1 fun x=>q6.2 h (this.2 x)
 ·intro h;exact q6.1 fun x=>q6.2 h (this.1 x)
theorem zpp {x y p:Nat} (hx:x≠0) (hy:y≠0):p<bl (x*2^(p+3+bl y-bl x)/y):=by
 have hk:=qk x (p+3+bl y-bl x) hx;generalize x*2^(p+3+bl y-bl x)=X at*;have hX:X≠0:=fun c=>by rw[c,ko]at hk;have:bl x≠0:=fun c=>hx (za6.1 c);omega
 have h1:2^(p+2+bl y)<=X:=(zeq hX).1 (by omega);have h2:2^(p+2)<=X/y:=by
  rw[qH (qK hy)];rw[qI]at h1;exact Nat.le_trans (Nat.mul_le_mul_left _ (qM (zfb y))) h1
 have h3:X/y≠0:=by have:=q4 (p+2);omega
 have:=(zeq h3).2 h2;omega
theorem zpr {a b:Dy} (ha:VD a) (hb':VD b) (hb0:nm b≠0) {p:Nat} (hp:8<=p/\p<=512):RT p (dv a/dv b) (fun up=>um a b p up):=by
 have hb:0<vN (nm b) b.e:=zx2 _ hb0;have hv:dv a/dv b=if(a.neg != b.neg)=true then-(vN (nm a) a.e/vN (nm b) b.e)else vN (nm a) a.e/vN (nm b) b.e:=by
  unfold dv;cases a.neg<;>cases b.neg<;>simp<;>grind
 have hD:(fun up=>um a b p up)=fun up=>zbe (a.neg != b.neg) (nm a*2^zaa a b p/nm b) (a.e-zaa a b p-b.e) (decide (nm a*2^zaa a b p % nm b≠0)) p up:=by
  funext up;unfold um;rw[if_neg hb0]
 rw[hv,hD];have hx:vN (nm a) a.e=vN (nm a*2^zaa a b p) (a.e-zaa a b p):=by rw[zc3];congr 1;omega
 have hq: ∀q,vN q (a.e-zaa a b p-b.e)*vN (nm b) b.e=vN (q*nm b) (a.e-zaa a b p):=fun q=>by rw[zra];congr 1;omega
 have hdm:=qN (nm a*2^zaa a b p) (nm b);have hml:=qU (nm a*2^zaa a b p) (qK hb0);refine zfm hp _ ?_ ?_ ?_ ?_ ?_ ?_
 ·rw[zzd hb,hq,hx,yu];omega
 ·rw[qgb hb,hq,hx,zmo,qR];omega
 ·intro h;have h:nm a*2^zaa a b p % nm b=0:=by simpa using h
  have e1:vN (nm a*2^zaa a b p/nm b) (a.e-zaa a b p-b.e)*vN (nm b) b.e=vN (nm a) a.e:=by
   rw[hq,hx];congr 1;omega
  rw[←e1];have:vN (nm b) b.e≠0:=fun c=>by rw[c]at hb;grind
  grind
 ·intro h;have h:nm a*2^zaa a b p % nm b≠0:=by simpa using h
  refine q6.1 fun c=>?_
  have h2:=vf c (q9 hb);have e1:vN (nm a) a.e/vN (nm b) b.e*vN (nm b) b.e=vN (nm a) a.e:=by
   have:vN (nm b) b.e≠0:=fun c=>by rw[c]at hb;grind
   grind
  rw[e1,hq,hx,yu]at h2;omega
 ·intro h;have h:nm a*2^zaa a b p % nm b≠0:=by simpa using h
  have ha0:nm a≠0:=fun c=>by rw[c,Nat.zero_mul,Nat.zero_mod]at h;exact h rfl
  exact zpp ha0 hb0
 ·intro h;by_cases ha0:nm a=0
  ·have h1:=zq7 ha ha0;have h2:=hb'.exp;omega
  ·have:=zpp (p:=p) ha0 hb0;have h2:nm a*2^zaa a b p/nm b=nm a*2^(p+3+bl (nm b)-bl (nm a))/nm b:=rfl;rw[←h2,h,ko]at this;omega
theorem qb0 (d:Dy) (t:Int) (h:t<=d.e):dv d=(zi d t:Rat)*pw t:=by
 have e:vN (nm d) d.e=((nm d*2^(d.e-t).toNat :Nat):Rat)*pw t:=by rw[xu _ _ t h];rfl
 unfold dv zi;rw[e]
 cases d.neg with
 |true=>
  simp only[if_true,qO,qC];rw[Rat.neg_mul]
 |false=>
  simp only[q5,if_false,qC]
theorem zk5 (x y:Int):(zv9 x y<0<->x<y)/\(0<zv9 x y<->y<x)/\(zv9 x y=0<->x=y):=by
 unfold zv9;split
 ·omega
 ·split<;>omega
theorem zad {x y t:Rat} (ht:0<t):x*t<y*t<->x<y:=by
 constructor
 ·intro h;exact q6.1 fun c=>q6.2 h (vf c (q9 ht))
 ·intro h;exact Rat.mul_lt_mul_of_pos_right h ht
theorem zbw (a b:Dy):(qe a b<0<->dv a<dv b)/\(0<qe a b<->dv b<dv a)/\(qe a b=0<->dv a=dv b):=by
 have ha:=qb0 a (min a.e b.e) (by omega);have hb:=qb0 b (min a.e b.e) (by omega);have hp:=zbi (min a.e b.e);obtain⟨h1,h2,h3⟩:=zk5 (zi a (min a.e b.e)) (zi b (min a.e b.e));rw[ha,hb];unfold qe;rw[h1,h2,h3,zad hp,zad hp,q7,q7];refine⟨Iff.rfl,Iff.rfl,⟨fun h=>by rw[h],fun h=>?_⟩⟩;have h4: ¬((zi a (min a.e b.e):Rat)<zi b (min a.e b.e)):=fun c=>by have:=(zad hp).2 c;rw[h]at this;exact qF this
 have h5: ¬((zi b (min a.e b.e):Rat)<zi a (min a.e b.e)):=fun c=>by have:=(zad hp).2 c;rw[h]at this;exact qF this
 rw[q7]at h4 h5;omega
theorem kw {a b:Dy}:qe a b<=0<->dv a<=dv b:=by
 have h:=(zbw a b).2.1;constructor
 ·intro h1;exact qG.1 fun c=>by have:=h.2 c;omega
 ·intro h1;exact Int.not_lt.1 fun c=>qG.2 h1 (h.1 c)
theorem ziw {a b:Dy}:0<=qe a b<->dv b<=dv a:=by
 have h:=(zbw a b).1;constructor
 ·intro h1;exact qG.1 fun c=>by have:=h.2 c;omega
 ·intro h1;exact Int.not_lt.1 fun c=>qG.2 h1 (h.1 c)
theorem zfh (d:Dy):(wk d<0<->dv d<0)/\(0<wk d<->0<dv d)/\(wk d=0<->dv d=0):=by
 have ha:=qb0 d d.e (Int.le_refl _);have hp:=zbi d.e;obtain⟨h1,h2,h3⟩:=zk5 (zi d d.e) 0;rw[zq6 d d.e,h1,h2,h3,ha];have e0:(0:Rat)=((0:Int):Rat)*pw d.e:=by rw[show((0:Int):Rat)=0 from rfl,qQ]
 have g1:(zi d d.e:Rat)*pw d.e<0<->zi d d.e<0:=by
  conv=>lhs;rhs;rw[e0]
  rw[zad hp,q7]
 have g2:0<(zi d d.e:Rat)*pw d.e<->0<zi d d.e:=by
  conv=>lhs;lhs;rw[e0]
  rw[zad hp,q7]
 refine⟨g1.symm,g2.symm,⟨fun h=>by rw[h];exact e0.symm,fun h=>?_⟩⟩;have k1: ¬zi d d.e<0:=fun c=>by have:=g1.2 c;rw[h]at this;exact qF this
 have k2: ¬0<zi d d.e:=fun c=>by have:=g2.2 c;rw[h]at this;exact qF this
 omega
theorem zrb (a b:Nat) (e:Int):vN a e+vN b e=vN (a+b) e:=by unfold vN;rw[zwi,Rat.add_mul]
theorem zn7 {a b:Nat} (h:b<=a) (e:Int):vN a e-vN b e=vN (a-b) e:=by
 have:=zrb (a-b) b e;rw[show a-b+b=a by omega]at this;grind
theorem zty (n:Nat) (e w:Int):vN (ja n e false w).1 w<=vN n e/\vN n e<vN ((ja n e false w).1+1) w/\((ja n e false w).2=false->vN n e=vN (ja n e false w).1 w)/\((ja n e false w).2=true->vN (ja n e false w).1 w<vN n e/\e<w):=by
 by_cases h:w<=e
 ·have e1:ja n e false w=(n*2^(e-w).toNat,false):=by unfold ja;rw[if_pos h]
  have e2:=xu n e w h;rw[e1];simp only;rw[←e2];refine⟨q3,?_,fun _=>rfl,fun c=>by cases c⟩;rw[e2];exact zed _ _
 ·obtain⟨h1,h2,h3,h4⟩:=zg5 (m:=n) (more:=false) h;refine⟨h1,zyh (zed n e) h2,fun c=>(h3 c).2.symm,fun c=>⟨?_,by omega⟩⟩;rcases h4 c with h5|h5
  ·cases h5
  ·exact q6.1 h5
theorem zx5 {c d:Dy} (hc:VD c) (hd:VD d) (c0:nm c≠0) (d0':nm d≠0) (hle:zu d<=zu c) {p:Nat} (hp:8<=p/\p<=512):RT p (dv c+dv d) (fun up=>qcq c d p up):=by
 obtain⟨l1,l2,l3,l4⟩:=zni hc hd c0 hle d0' hp;have tc:zu c=bl (nm c)+c.e:=by unfold zu;rw[if_neg c0]
 have td:zu d=bl (nm d)+d.e:=by unfold zu;rw[if_neg d0']
 have hlow:d.e<jr c d p->jr c d p<=zu c-p-8/\2<zu c-zu d:=fun h=>by
  unfold jr at h⊢;by_cases h2:zu c-zu d<=2
  ·rw[if_pos h2]at h;omega
  ·rw[if_neg h2];omega
 obtain⟨f1,f2,f3,f4⟩:=zty (nm d) d.e (jr c d p);have hXv:vN (nm c) c.e=vN (nm c*2^(c.e-jr c d p).toNat) (jr c d p):=xu _ _ _ l1;have hXb:=qk (nm c) (c.e-jr c d p).toNat c0;have hFb:d.e<jr c d p->(ja (nm d) d.e false (jr c d p)).1<2^(zu d-jr c d p).toNat :=fun h=>by
  have e1:(ja (nm d) d.e false (jr c d p)).1=nm d/2^(jr c d p-d.e).toNat :=by unfold ja;rw[if_neg (by omega)]
  rw[e1,Nat.div_lt_iff_lt_mul (q4 _),←qI];exact qD (zfb (nm d)) (qB (by decide) (by omega))
 have hxv: ∀y:Dy,dv y=if y.neg=true then-(vN (nm y) y.e)else vN (nm y) y.e:=fun y=>rfl
 have hXge:2^((zu c-jr c d p).toNat -1)<=nm c*2^(c.e-jr c d p).toNat :=by
  have hX0:nm c*2^(c.e-jr c d p).toNat ≠0:=Nat.mul_ne_zero c0 (by have:=q4 (c.e-jr c d p).toNat;omega);have hb0:bl (nm c)≠0:=fun x=>c0 (za6.1 x)
  exact(zeq hX0).1 (by omega)
 unfold qcq zhs;rw[hxv c,hxv d,hXv];generalize nm c*2^(c.e-jr c d p).toNat =X at*;generalize hF:ja (nm d) d.e false (jr c d p)=F at*;generalize jr c d p=w at*;generalize vN (nm d) d.e=y at*;have hX0:X≠0:=by have:=q4 ((zu c-w).toNat -1);omega
 by_cases hs:c.neg=d.neg
 ·
  rw[if_pos hs];simp only;have hne: ¬(X+F.1=0/\F.2=false):=fun h=>hX0 (by omega)
  have hval:(if c.neg=true then-(vN X w)else vN X w)+(if d.neg=true then-y else y)=if(c.neg != false)=true then-(vN X w+y)else vN X w+y:=by
   rw[←hs];cases c.neg<;>simp<;>grind
  rw[hval];have hfun:(fun up=>if X+F.1=0/\F.2=false then(d0,(0:Int))else zbe (c.neg != false) (X+F.1) w F.2 p up)=fun up=>zbe (c.neg != false) (X+F.1) w F.2 p up:=by
   funext up;rw[if_neg hne]
  rw[hfun];have a1:=zrb X F.1 w;have a2:=zrb X (F.1+1) w;refine zfm hp _ ?_ ?_ ?_ ?_ ?_ ?_
  ·rw[←a1];grind
  ·rw[show X+F.1+1=X+(F.1+1) by omega,←a2];grind
  ·intro h;rw[←a1,f3 h]
  ·intro h;rw[←a1];have:=(f4 h).1;grind
  ·intro h;obtain⟨h1,h2⟩:=hlow (f4 h).2;have h3:bl X<=bl (X+F.1):=uo (by omega);omega
  ·intro h;omega
 ·
  rw[if_neg hs];have hval: ∀z:Rat,z=vN X w-y->(if c.neg=true then-(vN X w)else vN X w)+(if d.neg=true then-y else y)=if c.neg=true then-z else z:=fun z hz=>by
   subst hz;cases hc':c.neg<;>cases hd':d.neg<;>simp[hc',hd']at hs⊢ <;>grind
  have hU:F.2=true->upN F true=F.1+1/\F.1+1<=2^((zu c-w).toNat -3)/\2^((zu c-w).toNat -3)*4<=X/\p+8<=(zu c-w).toNat :=fun h=>by
   obtain⟨h1,h2⟩:=hlow (f4 h).2;have h3:=hFb (f4 h).2;refine⟨by unfold upN;rw[h];rfl,?_,?_,by omega⟩
   ·have h4:2^(zu d-w).toNat <=2^((zu c-w).toNat -3):=qB (by decide) (by omega);omega
   ·have h4:2^((zu c-w).toNat -1)=2^((zu c-w).toNat -3)*4:=by
     rw[show(zu c-w).toNat -1=((zu c-w).toNat -3)+2 by omega,qI]
    omega
  have hUf:F.2=false->upN F true=F.1:=fun h=>by unfold upN;rw[h];rfl
  by_cases hlt:X<upN F true
  ·rw[if_pos hlt];simp only;have hFf:F.2=false:=by
    cases hF2:F.2 with
    |false=>rfl
    |true=>obtain⟨u1,u2,u3,_⟩:=hU hF2;omega
   have hUe:=hUf hFf;rw[hUe]at hlt⊢;have hfun:(fun up=>if F.1-X=0/\True then(d0,(0:Int))else zbe (c.neg != true) (F.1-X) w false p up)=fun up=>zbe (c.neg != true) (F.1-X) w false p up:=by
    funext up;rw[if_neg fun h=>by omega]
   rw[hfun];have a1:=zn7 (qM hlt) w;have hv:(if c.neg=true then-(vN X w)else vN X w)+(if d.neg=true then-y else y)=if(c.neg != true)=true then-(vN (F.1-X) w)else vN (F.1-X) w:=by
    rw[hval (vN X w-y) rfl,←a1,f3 hFf];cases c.neg<;>simp<;>grind
   rw[hv];exact zdb hp _ fun h=>by omega
  ·rw[if_neg hlt];simp only;rw[hval (vN X w-y) rfl]
   cases hF2:F.2 with
   |false=>
    have hUe:=hUf hF2;rw[hUe]at hlt⊢;have a1:=zn7 (a:=X) (b:=F.1) (by omega) w;by_cases hz:X-F.1=0
    ·have hfun:(fun up=>if X-F.1=0/\false=false then(d0,(0:Int))else zbe (c.neg != false) (X-F.1) w false p up)=fun _=>(d0,0):=by
      funext up;rw[if_pos ⟨hz,rfl⟩]
     rw[hfun,f3 hF2,a1,hz,uj];have e0:(if c.neg=true then-(0:Rat)else 0)=0:=by split<;>grind
     rw[e0];refine⟨⟨fun _=>⟨by rw[ym];exact q3,by rw[ym];exact .inl (zf1 p)⟩,fun z _ h=>⟨rfl,by rw[ym];exact h⟩⟩,⟨fun _=>⟨by rw[ym];exact q3,by rw[ym];exact .inl (zf1 p)⟩,fun z _ h=>⟨rfl,by rw[ym];exact h⟩⟩⟩
    ·have hfun:(fun up=>if X-F.1=0/\false=false then(d0,(0:Int))else zbe (c.neg != false) (X-F.1) w false p up)=fun up=>zbe (c.neg != false) (X-F.1) w false p up:=by
      funext up;rw[if_neg fun h=>hz h.1]
     rw[hfun,f3 hF2,a1];have e0:(c.neg != false)=c.neg:=by cases c.neg<;>rfl
     rw[e0];exact zdb hp _ fun h=>absurd h hz
   |true=>
    obtain⟨u1,u2,u3,u4⟩:=hU hF2;rw[u1];have a1:=zn7 (a:=X) (b:=F.1+1) (by omega) w;have a2:=zn7 (a:=X) (b:=F.1) (by omega) w;have hpos:=q4 ((zu c-w).toNat -3);have hfun:(fun up=>if X-(F.1+1)=0/\true=false then(d0,(0:Int))else zbe (c.neg != false) (X-(F.1+1)) w true p up)=fun up=>zbe (c.neg != false) (X-(F.1+1)) w true p up:=by
     funext up;rw[if_neg fun h=>by cases h.2]
    rw[hfun];have e0:(c.neg != false)=c.neg:=by cases c.neg<;>rfl
    rw[e0];have hy1:=(f4 hF2).1;refine zfm hp _ ?_ ?_ ?_ ?_ ?_ ?_
    ·rw[←a1];grind
    ·rw[show X-(F.1+1)+1=X-F.1 by omega,←a2];grind
    ·intro h;cases h
    ·intro _;rw[←a1];grind
    ·intro _;have h5:2^((zu c-w).toNat -3)<=X-(F.1+1):=by omega
     have h6:=(zeq (n:=X-(F.1+1)) (k:=(zu c-w).toNat -3) (by omega)).2 h5;omega
    ·intro h;omega
theorem zhb {d:Dy} (h:nm d=0):dv d=0:=by unfold dv;rw[h,uj];split<;>rfl
theorem zby {a b:Dy} (ha:VD a) (hb:VD b) {p:Nat} (hp:8<=p/\p<=512):RT p (dv a+dv b) (fun up=>zan a b p up):=by
 by_cases a0:nm a=0
 ·have h:=ur hb hp;have e:(fun up=>zan a b p up)=fun up=>wo b p up:=by funext up;unfold zan;rw[if_pos a0]
  rw[e,zhb a0,Rat.zero_add];exact h
 by_cases b0:nm b=0
 ·have h:=ur ha hp;have e:(fun up=>zan a b p up)=fun up=>wo a p up:=by funext up;unfold zan;rw[if_neg a0,if_pos b0]
  rw[e,zhb b0,Rat.add_zero];exact h
 have e:(fun up=>zan a b p up)=fun up=>qcq (zhy a b) (zh3 a b) p up:=by funext up;unfold zan;rw[if_neg a0,if_neg b0]
 rw[e];by_cases ht:zu a<zu b
 ·have e1:zhy a b=b/\zh3 a b=a:=by unfold zhy zh3;rw[if_pos ht,if_pos ht];exact⟨rfl,rfl⟩
  rw[e1.1,e1.2,Rat.add_comm];exact zx5 hb ha b0 a0 (by omega) hp
 ·have e1:zhy a b=a/\zh3 a b=b:=by unfold zhy zh3;rw[if_neg ht,if_neg ht];exact⟨rfl,rfl⟩
  rw[e1.1,e1.2];exact zx5 ha hb a0 b0 (by omega) hp
def inI (q:Rat) (x:Iv):Prop:=x.all=true\/(dv x.lo<=q/\q<=dv x.hi)
theorem KI.dle {x:Iv} (k:KI x):dv x.lo<=dv x.hi:=kw.1 k.le
theorem zxw {x:Iv} (h:CI x) (h1:x.all=false) (h2:dv x.lo<=dv x.hi):KI x:=by
 rcases h with rfl|⟨_,a,b⟩
 ·cases h1
 ·exact⟨h1,a,b,kw.2 h2⟩
theorem ut {a b:Dy×Int}:(jq a b).all =false<->a.2=0/\b.2=0:=by
 unfold jq;split
 ·rename_i h;constructor
  ·intro c;cases c
  ·rintro⟨h1,h2⟩;exact absurd (by simp[h1,h2]) (not_not_intro h)
 ·rename_i h;constructor
  ·intro _;exact⟨by simp only[not_or,Decidable.not_not]at h;exact h.1,by simp only[not_or,Decidable.not_not]at h;exact h.2⟩
  ·intro _;rfl
theorem zaw {a b:Dy×Int} (h:(jq a b).all =false):jq a b=⟨a.1,b.1,false⟩:=by
 have:=ut.1 h;unfold jq;rw[if_neg (by simp[this.1,this.2])]
theorem qec {p:Nat} {y z:Rat} {F G:Bool->Dy×Int} (hF:RT p y F) (hG:RT p z G) {q:Rat} (h1:y<=q) (h2:q<=z):inI q (jq (F false) (G true)):=by
 cases h:(jq (F false) (G true)).all with
 |true=>exact .inl h
 |false=>
  obtain⟨e1,e2⟩:=ut.1 h;rw[zaw h];exact .inr ⟨q2 (hF.1.1 e1).1 h1,q2 h2 (hG.2.1 e2).1⟩
theorem qar {p:Nat} {y z:Rat} {F G:Bool->Dy×Int} (hF:RT p y F) (hG:RT p z G) (hc:CI (jq (F false) (G true))) (h:y<=z):VI (jq (F false) (G true)):=by
 cases ha:(jq (F false) (G true)).all with
 |true=>
  rcases hc with hc|⟨h1,_⟩
  ·exact .inr hc
  ·rw[ha]at h1;cases h1
 |false=>
  refine .inl (zxw hc ha ?_);obtain⟨e1,e2⟩:=ut.1 ha;rw[zaw ha];exact q2 (hF.1.1 e1).1 (q2 h (hG.2.1 e2).1)
theorem zdq {x y:Iv} (hx:RI x) (hy:RI y):(kB x&&kB y)=true<->KI x/\KI y:=by rw[Bool.and_eq_true,zy hx,zy hy]
theorem yt {x:Iv} (h:VI x):x.all=false<->KI x:=by
 rcases h with h|rfl
 ·exact⟨fun _=>h,fun _=>h.all⟩
 ·exact⟨(fun c=>by cases c),(fun k=>k.all)⟩
theorem zu8 (q:Rat):inI q wI0:= .inl rfl
theorem zpz {x y:Iv} (hx:KI x) (hy:KI y) {p:Int} (hp:pcB p=true):yo x y p=jq (zan x.lo y.lo p.toNat false) (zan x.hi y.hi p.toNat true):=by
 unfold yo;rw[if_pos ⟨(zdq hx.ri hy.ri).2 ⟨hx,hy⟩,hp⟩]
theorem qcp {x y:Iv} (hx:RI x) (hy:RI y) {p:Int} (h: ¬(KI x/\KI y)):yo x y p=wI0:=by
 unfold yo;rw[if_neg fun c=>h ((zdq hx hy).1 c.1)]
theorem zho {x y:Iv} (hx:VI x) (hy:VI y) {p:Int} (hp:pcB p=true):VI (yo x y p):=by
 by_cases h:KI x/\KI y
 ·rw[zpz h.1 h.2 hp];refine qar (zby h.1.lo h.2.lo (qu hp)) (zby h.1.hi h.2.hi (qu hp)) (by rw[←zpz h.1 h.2 hp];exact zp4 _ _ _) ?_;have:=h.1.dle;have:=h.2.dle;grind
 ·rw[qcp hx.ri hy.ri h];exact .inr rfl
theorem zi4 {x y:Iv} (hx:VI x) (hy:VI y) {p:Int} (hp:pcB p=true) {a b:Rat} (ha:inI a x) (hb:inI b y):inI (a+b) (yo x y p):=by
 by_cases h:KI x/\KI y
 ·rw[zpz h.1 h.2 hp];rcases ha with ha|ha
  ·rw[h.1.all]at ha;cases ha
  rcases hb with hb|hb
  ·rw[h.2.all]at hb;cases hb
  exact qec (zby h.1.lo h.2.lo (qu hp)) (zby h.1.hi h.2.hi (qu hp)) (by grind) (by grind)
 ·rw[qcp hx.ri hy.ri h];exact zu8 _
theorem zic {x:Iv} (hx:KI x):zd9 x=⟨uy x.hi,uy x.lo,false⟩:=by unfold zd9;rw[if_pos ((zy hx.ri).2 hx)]
theorem neg_w {x:Iv} (hx:RI x) (h: ¬KI x):zd9 x=wI0:=by unfold zd9;rw[if_neg fun c=>h ((zy hx).1 c)]
theorem zk9 {x:Iv} (hx:VI x):VI (zd9 x):=by
 by_cases h:KI x
 ·rw[zic h];refine .inl ⟨rfl,zd4 h.hi,zd4 h.lo,kw.2 ?_⟩;simp only[zck];have:=h.dle;grind
 ·rw[neg_w hx.ri h];exact .inr rfl
def zlv (op:Rat->Rat->Rat) (x y:Iv) (P:Rat->Prop):Prop:=P (op (dv x.lo) (dv y.lo))/\P (op (dv x.lo) (dv y.hi))/\P (op (dv x.hi) (dv y.lo))/\P (op (dv x.hi) (dv y.hi))
def zku (op:Rat->Rat->Rat) (x y:Iv) (P:Rat->Prop):Prop:=P (op (dv x.lo) (dv y.lo))\/P (op (dv x.lo) (dv y.hi))\/P (op (dv x.hi) (dv y.lo))\/P (op (dv x.hi) (dv y.hi))
structure F4 (p:Nat) (op:Rat->Rat->Rat) (dn up:Dy->Dy->Dy×Int) (x y:Iv):Prop where
 rt1:RT p (op (dv x.lo) (dv y.lo)) (fun u=>if u=true then up x.lo y.lo else dn x.lo y.lo)
 rt2:RT p (op (dv x.lo) (dv y.hi)) (fun u=>if u=true then up x.lo y.hi else dn x.lo y.hi)
 rt3:RT p (op (dv x.hi) (dv y.lo)) (fun u=>if u=true then up x.hi y.lo else dn x.hi y.lo)
 rt4:RT p (op (dv x.hi) (dv y.hi)) (fun u=>if u=true then up x.hi y.hi else dn x.hi y.hi)
theorem zmu {dn up:Dy×Int} {o:Iv} {K:Iv->Iv} (h:(stI dn up o K).all =false):dn.2=0/\up.2=0/\ ∃o':Iv,stI dn up o K=K o'/\o'.all=false/\(o'.lo=dn.1\/o'.lo=o.lo)/\(o'.hi=up.1\/o'.hi=o.hi)/\dv o'.lo<=dv dn.1/\dv o'.lo<=dv o.lo/\dv up.1<=dv o'.hi/\dv o.hi<=dv o'.hi:=by
 unfold stI at h⊢;by_cases he:dn.2≠0\/up.2≠0
 ·rw[if_pos he]at h;cases h
 ·rw[if_neg he]at h⊢;simp only[not_or,Decidable.not_not]at he;refine⟨he.1,he.2,_,rfl,rfl,?_,?_,?_,?_,?_,?_⟩
  ·simp only;split<;>simp
  ·simp only;split<;>simp
  ·simp only;split
   ·exact q3
   ·rename_i hc;have:0<=qe dn.1 o.lo:=by omega
    exact ziw.1 this
  ·simp only;split
   ·rename_i hc;exact kw.1 (by omega)
   ·exact q3
  ·simp only;split
   ·exact q3
   ·rename_i hc;exact kw.1 (by omega)
  ·simp only;split
   ·rename_i hc;exact ziw.1 (by omega)
   ·exact q3
theorem qac {dn up:Dy×Int} {o:Iv} {K:Iv->Iv} (h1:dn.2=0) (h2:up.2=0): ∃o':Iv,o'.all=false/\stI dn up o K=K o':=by
 unfold stI;rw[if_neg (by simp[h1,h2])];exact⟨_,rfl,rfl⟩
theorem zlu {dn up:Dy->Dy->Dy×Int} {x y:Iv} (h:(jo dn up x y).all =false):
 ((dn x.lo y.lo).2=0/\(dn x.lo y.hi).2=0/\(dn x.hi y.lo).2=0/\(dn x.hi y.hi).2=0)/\((up x.lo y.lo).2=0/\(up x.lo y.hi).2=0/\(up x.hi y.lo).2=0/\(up x.hi y.hi).2=0)/\
 (∀t:Rat,t<=dv (dn x.lo y.lo).1->t<=dv (dn x.lo y.hi).1->t<=dv (dn x.hi y.lo).1->t<=dv (dn x.hi y.hi).1->t<=dv (jo dn up x y).lo)/\
 (∀t:Rat,dv (up x.lo y.lo).1<=t->dv (up x.lo y.hi).1<=t->dv (up x.hi y.lo).1<=t->dv (up x.hi y.hi).1<=t->dv (jo dn up x y).hi <=t)/\
 (dv (jo dn up x y).lo <=dv (dn x.lo y.lo).1/\dv (jo dn up x y).lo <=dv (dn x.lo y.hi).1/\dv (jo dn up x y).lo <=dv (dn x.hi y.lo).1/\dv (jo dn up x y).lo <=dv (dn x.hi y.hi).1)/\
 (dv (up x.lo y.lo).1<=dv (jo dn up x y).hi /\dv (up x.lo y.hi).1<=dv (jo dn up x y).hi /\dv (up x.hi y.lo).1<=dv (jo dn up x y).hi /\dv (up x.hi y.hi).1<=dv (jo dn up x y).hi):=by
 rw[zj8]at h⊢;by_cases he:(dn x.lo y.lo).2≠0\/(up x.lo y.lo).2≠0
 ·unfold s0I at h;rw[if_pos he]at h;cases h
 have e0: ∀K,s0I (dn x.lo y.lo) (up x.lo y.lo) K=K ⟨(dn x.lo y.lo).1,(up x.lo y.lo).1,false⟩:=fun K=>by unfold s0I;rw[if_neg he]
 simp only[not_or,Decidable.not_not]at he;rw[e0]at h⊢;obtain⟨a1,a2,o1,a3,_,a5,a6,a7,a8,a9,a10⟩:=zmu h;rw[a3]at h⊢;obtain⟨b1,b2,o2,b3,_,b5,b6,b7,b8,b9,b10⟩:=zmu h;rw[b3]at h⊢;obtain⟨c1,c2,o3,c3,_,c5,c6,c7,c8,c9,c10⟩:=zmu h;rw[c3];simp only at*;refine⟨⟨he.1,a1,b1,c1⟩,⟨he.2,a2,b2,c2⟩,?_,?_,⟨?_,?_,?_,?_⟩,⟨?_,?_,?_,?_⟩⟩
 ·intro t t1 t2 t3 t4;rcases c5 with c|c<;>rw[c]
  ·exact t4
  ·rcases b5 with c|c<;>rw[c]
   ·exact t3
   ·rcases a5 with c|c<;>rw[c]
    ·exact t2
    ·exact t1
 ·intro t t1 t2 t3 t4;rcases c6 with c|c<;>rw[c]
  ·exact t4
  ·rcases b6 with c|c<;>rw[c]
   ·exact t3
   ·rcases a6 with c|c<;>rw[c]
    ·exact t2
    ·exact t1
 ·exact q2 c8 (q2 b8 a8)
 ·exact q2 c8 (q2 b8 a7)
 ·exact q2 c8 b7
 ·exact c7
 ·exact q2 a10 (q2 b10 c10)
 ·exact q2 a9 (q2 b10 c10)
 ·exact q2 b9 c10
 ·exact c9
theorem zxd {dn up:Dy->Dy->Dy×Int} {x y:Iv} (h1:(dn x.lo y.lo).2=0/\(dn x.lo y.hi).2=0/\(dn x.hi y.lo).2=0/\(dn x.hi y.hi).2=0) (h2:(up x.lo y.lo).2=0/\(up x.lo y.hi).2=0/\(up x.hi y.lo).2=0/\(up x.hi y.hi).2=0):(jo dn up x y).all =false:=by
 rw[zj8];have e0: ∀K,s0I (dn x.lo y.lo) (up x.lo y.lo) K=K ⟨(dn x.lo y.lo).1,(up x.lo y.lo).1,false⟩:=fun K=>by unfold s0I;rw[if_neg (by simp[h1.1,h2.1])]
 rw[e0];obtain⟨o1,_,e1⟩:=qac (dn:=dn x.lo y.hi) (up:=up x.lo y.hi) (o:=⟨(dn x.lo y.lo).1,(up x.lo y.lo).1,false⟩) (K:=fun o=>stI (dn x.hi y.lo) (up x.hi y.lo) o (fun o=>stI (dn x.hi y.hi) (up x.hi y.hi) o (fun o=>o))) h1.2.1 h2.2.1;rw[e1];obtain⟨o2,_,e2⟩:=qac (dn:=dn x.hi y.lo) (up:=up x.hi y.lo) (o:=o1) (K:=fun o=>stI (dn x.hi y.hi) (up x.hi y.hi) o (fun o=>o)) h1.2.2.1 h2.2.2.1;rw[e2];obtain⟨o3,h3,e3⟩:=qac (dn:=dn x.hi y.hi) (up:=up x.hi y.hi) (o:=o2) (K:=fun o=>o) h1.2.2.2 h2.2.2.2;rw[e3];exact h3
theorem qg3 {p:Nat} {op:Rat->Rat->Rat} {dn up:Dy->Dy->Dy×Int} {x y:Iv} (f:F4 p op dn up x y) {q:Rat} (h1:zku op x y (fun z=>z<=q)) (h2:zku op x y (fun z=>q<=z)):inI q (jo dn up x y):=by
 cases ha:(jo dn up x y).all with
 |true=>exact .inl ha
 |false=>
  obtain⟨d,u,_,_,⟨l1,l2,l3,l4⟩,⟨r1,r2,r3,r4⟩⟩:=zlu ha;have g1:=(f.rt1.1.1 d.1).1;have g2:=(f.rt2.1.1 d.2.1).1;have g3:=(f.rt3.1.1 d.2.2.1).1;have g4:=(f.rt4.1.1 d.2.2.2).1;have k1:=(f.rt1.2.1 u.1).1;have k2:=(f.rt2.2.1 u.2.1).1;have k3:=(f.rt3.2.1 u.2.2.1).1;have k4:=(f.rt4.2.1 u.2.2.2).1;simp only[if_true,q5,if_false]at g1 g2 g3 g4 k1 k2 k3 k4;refine .inr ⟨?_,?_⟩
  ·rcases h1 with h|h|h|h
   ·exact q2 l1 (q2 g1 h)
   ·exact q2 l2 (q2 g2 h)
   ·exact q2 l3 (q2 g3 h)
   ·exact q2 l4 (q2 g4 h)
  ·rcases h2 with h|h|h|h
   ·exact q2 h (q2 k1 r1)
   ·exact q2 h (q2 k2 r2)
   ·exact q2 h (q2 k3 r3)
   ·exact q2 h (q2 k4 r4)
theorem zsz {a b x1 x2:Rat} (h1:x1<=a) (h2:a<=x2):(x1*b<=a*b\/x2*b<=a*b)/\(a*b<=x1*b\/a*b<=x2*b):=by
 by_cases hb:0<=b
 ·exact⟨.inl (vf h1 hb),.inr (vf h2 hb)⟩
 ·have hb':0<= -b:=by grind
  have e1:=vf h1 hb';have e2:=vf h2 hb';exact⟨.inr (by grind),.inl (by grind)⟩
theorem zjv {a b y1 y2:Rat} (h1:y1<=b) (h2:b<=y2):(a*y1<=a*b\/a*y2<=a*b)/\(a*b<=a*y1\/a*b<=a*y2):=by
 have:=zsz (b:=a) h1 h2;rw[qA y1,qA y2,qA b]at this;exact this
theorem zrp {x y:Iv} {a b:Rat} (h1:dv x.lo<=a) (h2:a<=dv x.hi) (h3:dv y.lo<=b) (h4:b<=dv y.hi):zku (fun u v=>u*v) x y (fun z=>z<=a*b)/\zku (fun u v=>u*v) x y (fun z=>a*b<=z):=by
 obtain⟨m1,m2⟩:=zsz (b:=b) h1 h2;obtain⟨l1,l2⟩:=zjv (a:=dv x.lo) h3 h4;obtain⟨u1,u2⟩:=zjv (a:=dv x.hi) h3 h4;unfold zku;constructor
 ·rcases m1 with m|m
  ·rcases l1 with l|l
   ·exact .inl (q2 l m)
   ·exact .inr (.inl (q2 l m))
  ·rcases u1 with l|l
   ·exact .inr (.inr (.inl (q2 l m)))
   ·exact .inr (.inr (.inr (q2 l m)))
 ·rcases m2 with m|m
  ·rcases l2 with l|l
   ·exact .inl (q2 m l)
   ·exact .inr (.inl (q2 m l))
  ·rcases u2 with l|l
   ·exact .inr (.inr (.inl (q2 m l)))
   ·exact .inr (.inr (.inr (q2 m l)))
theorem qbo (F:Bool->Dy×Int):(fun u=>if u=true then F true else F false)=F:=by funext u;cases u<;>rfl
theorem ze6 {p:Nat} {y:Rat} {F:Bool->Dy×Int} (h:RT p y F):RT p y (fun u=>if u=true then F true else F false):=by rw[qbo];exact h
theorem zld {x y:Iv} (hx:KI x) (hy:KI y) {p:Nat} (hp:8<=p/\p<=512):F4 p (fun u v=>u*v) (fun a b=>ue a b p false) (fun a b=>ue a b p true) x y:=
 ⟨ze6 (zie hx.lo hy.lo hp),ze6 (zie hx.lo hy.hi hp),ze6 (zie hx.hi hy.lo hp),ze6 (zie hx.hi hy.hi hp)⟩
theorem zlc {x y:Iv} (hx:KI x) (hy:KI y) {p:Int} (hp:pcB p=true):jh x y p=jo (fun a b=>ue a b p.toNat false) (fun a b=>ue a b p.toNat true) x y:=by
 unfold jh;rw[if_pos ⟨(zdq hx.ri hy.ri).2 ⟨hx,hy⟩,hp⟩]
theorem zwl {x y:Iv} (hx:RI x) (hy:RI y) {p:Int} (h: ¬(KI x/\KI y)):jh x y p=wI0:=by
 unfold jh;rw[if_neg fun c=>h ((zdq hx hy).1 c.1)]
theorem zcj {x y:Iv} (hx:VI x) (hy:VI y) {p:Int} (hp:pcB p=true) {a b:Rat} (ha:inI a x) (hb:inI b y):inI (a*b) (jh x y p):=by
 by_cases h:KI x/\KI y
 ·rw[zlc h.1 h.2 hp];rcases ha with ha|ha
  ·rw[h.1.all]at ha;cases ha
  rcases hb with hb|hb
  ·rw[h.2.all]at hb;cases hb
  obtain⟨s1,s2⟩:=zrp ha.1 ha.2 hb.1 hb.2;exact qg3 (zld h.1 h.2 (qu hp)) s1 s2
 ·rw[zwl hx.ri hy.ri h];exact zu8 _
theorem zd3 {x:Iv} (h:CI x) {q:Rat} (hq:inI q x):VI x:=by
 cases ha:x.all with
 |true=>
  rcases h with h|⟨h1,_⟩
  ·exact .inr h
  ·rw[ha]at h1;cases h1
 |false=>
  rcases hq with hq|hq
  ·rw[ha]at hq;cases hq
  ·exact .inl (zxw h ha (q2 hq.1 hq.2))
theorem znj {x:Iv} (h:VI x):inI (dv x.lo) x:=by
 rcases h with k|rfl
 ·exact .inr ⟨q3,k.dle⟩
 ·exact zu8 _
theorem wq {x y:Iv} (hx:VI x) (hy:VI y) {p:Int} (hp:pcB p=true):VI (jh x y p):=zd3 (zzp x y p) (zcj hx hy hp (znj hx) (znj hy))
theorem zgc {y:Iv} (hy:KI y):zmy y≠0<->(0<dv y.lo\/dv y.hi<0):=by
 have h1:=(zfh y.lo).2.1;have h2:=(zfh y.hi).1;unfold zmy;rw[if_pos ((zy hy.ri).2 hy)];by_cases c1:0<wk y.lo
 ·rw[if_pos c1];exact⟨fun _=> .inl (h1.1 c1),fun _=>by decide⟩
 ·rw[if_neg c1];by_cases c2:wk y.hi<0
  ·rw[if_pos c2];exact⟨fun _=> .inr (h2.1 c2),fun _=>by decide⟩
  ·rw[if_neg c2];exact⟨fun c=>absurd rfl c,fun c=>by rcases c with c|c;exact absurd (h1.2 c) c1;exact absurd (h2.2 c) c2⟩
theorem zns {a b c:Rat} (h:0<a\/c<0) (h1:a<=b) (h2:b<=c):c⁻¹ <=b⁻¹ /\b⁻¹ <=a⁻¹ :=by
 have key: ∀u v:Rat,0<u->u<=v->v⁻¹ <=u⁻¹ :=fun u v hu huv=>by
  have hv:0<v:=by grind
  have hi:0<u⁻¹ :=by have:=qS.2 hu;exact this
  have hj:0<v⁻¹ :=by have:=qS.2 hv;exact this
  have e1:v*v⁻¹ =1:=qL v (by grind);have e2:u*u⁻¹ =1:=qL u (by grind);have h3:u*v⁻¹ <=v*v⁻¹ :=vf huv (q9 hj);rw[e1,←e2]at h3;have h4:v⁻¹ *u<=u⁻¹ *u:=by rw[qA v⁻¹,qA u⁻¹];exact h3
  exact zcs h4 hu
 rcases h with h|h
 ·exact⟨key b c (by grind) h2,key a b h h1⟩
 ·have k1:=key (-c) (-b) (by grind) (by grind);have k2:=key (-b) (-a) (by grind) (by grind);have e: ∀u:Rat,(-u)⁻¹ = -(u⁻¹):=fun u=>by grind
  rw[e,e]at k1 k2;constructor<;>grind
theorem zrq {x y:Iv} {a b:Rat} (hs:0<dv y.lo\/dv y.hi<0) (h1:dv x.lo<=a) (h2:a<=dv x.hi) (h3:dv y.lo<=b) (h4:b<=dv y.hi):zku (fun u v=>u/v) x y (fun z=>z<=a/b)/\zku (fun u v=>u/v) x y (fun z=>a/b<=z):=by
 obtain⟨i1,i2⟩:=zns hs h3 h4;obtain⟨m1,m2⟩:=zsz (b:=b⁻¹) h1 h2;obtain⟨l1,l2⟩:=zjv (a:=dv x.lo) i1 i2;obtain⟨u1,u2⟩:=zjv (a:=dv x.hi) i1 i2;have e: ∀u v:Rat,u/v=u*v⁻¹ :=fun u v=>Rat.div_def u v
 unfold zku;simp only[e];constructor
 ·rcases m1 with m|m
  ·rcases l1 with l|l
   ·exact .inr (.inl (q2 l m))
   ·exact .inl (q2 l m)
  ·rcases u1 with l|l
   ·exact .inr (.inr (.inr (q2 l m)))
   ·exact .inr (.inr (.inl (q2 l m)))
 ·rcases m2 with m|m
  ·rcases l2 with l|l
   ·exact .inr (.inl (q2 m l))
   ·exact .inl (q2 m l)
  ·rcases u2 with l|l
   ·exact .inr (.inr (.inr (q2 m l)))
   ·exact .inr (.inr (.inl (q2 m l)))
theorem qeo {d:Dy} (h:dv d≠0):nm d≠0:=fun c=>h (zhb c)
theorem zps {x y:Iv} (hx:KI x) (hy:KI y) (hs:0<dv y.lo\/dv y.hi<0) {p:Nat} (hp:8<=p/\p<=512):F4 p (fun u v=>u/v) (fun a b=>um a b p false) (fun a b=>um a b p true) x y:=by
 have hl:nm y.lo≠0:=qeo (by have:=hy.dle;grind);have hh:nm y.hi≠0:=qeo (by have:=hy.dle;grind);exact⟨ze6 (zpr hx.lo hy.lo hl hp),ze6 (zpr hx.lo hy.hi hh hp),ze6 (zpr hx.hi hy.lo hl hp),ze6 (zpr hx.hi hy.hi hh hp)⟩
theorem zkd {x y:Iv} (hx:KI x) (hy:KI y) (hs:0<dv y.lo\/dv y.hi<0) {p:Int} (hp:pcB p=true):zcx x y p=jo (fun a b=>um a b p.toNat false) (fun a b=>um a b p.toNat true) x y:=by
 unfold zcx;rw[if_pos ⟨(zdq hx.ri hy.ri).2 ⟨hx,hy⟩,hp,(zgc hy).2 hs⟩]
theorem zze {x y:Iv} (hx:RI x) (hy:RI y) {p:Int} (h: ¬(KI x/\KI y/\(0<dv y.lo\/dv y.hi<0))):zcx x y p=wI0:=by
 unfold zcx;rw[if_neg fun c=>?_];obtain⟨k1,k2⟩:=(zdq hx hy).1 c.1;exact h ⟨k1,k2,(zgc k2).1 c.2.2⟩
theorem znw {x y:Iv} (hx:VI x) (hy:VI y) {p:Int} (hp:pcB p=true) {a b:Rat} (ha:inI a x) (hb:inI b y):inI (a/b) (zcx x y p):=by
 by_cases h:KI x/\KI y/\(0<dv y.lo\/dv y.hi<0)
 ·rw[zkd h.1 h.2.1 h.2.2 hp];rcases ha with ha|ha
  ·rw[h.1.all]at ha;cases ha
  rcases hb with hb|hb
  ·rw[h.2.1.all]at hb;cases hb
  obtain⟨s1,s2⟩:=zrq h.2.2 ha.1 ha.2 hb.1 hb.2;exact qg3 (zps h.1 h.2.1 h.2.2 (qu hp)) s1 s2
 ·rw[zze hx.ri hy.ri h];exact zu8 _
theorem zhd {x y:Iv} (hx:VI x) (hy:VI y) {p:Int} (hp:pcB p=true):VI (zcx x y p):=zd3 (qha x y p) (znw hx hy hp (znj hx) (znj hy))
def qd (q:Rat):Rat:=if q<0 then-q else q
theorem zx (q:Rat):0<=qd q:=by unfold qd;split<;>grind
theorem zpn (d:Dy):dv (zbd d)=qd (dv d):=by
 have h:dv (zbd d)=vN (nm d) d.e:=rfl;rw[h];have h2:=zc4 (nm d) d.e;unfold dv qd
 cases d.neg with
 |true=>simp only[if_true];split<;>grind
 |false=>simp only[q5,if_false];split<;>grind
theorem zgn (a b:Dy):dv (xf a b)<=dv a/\dv (xf a b)<=dv b/\(xf a b=a\/xf a b=b):=by
 unfold xf;split
 ·rename_i h;exact⟨q3,kw.1 h,.inl rfl⟩
 ·rename_i h;exact⟨ziw.1 (by omega),q3,.inr rfl⟩
theorem zbk (a b:Dy):dv a<=dv (yj a b)/\dv b<=dv (yj a b)/\(yj a b=a\/yj a b=b):=by
 unfold yj;split
 ·rename_i h;exact⟨q3,ziw.1 h,.inl rfl⟩
 ·rename_i h;exact⟨kw.1 (by omega),q3,.inr rfl⟩
theorem zmf {x:Iv} (k:KI x) {a:Rat} (h1:dv x.lo<=a) (h2:a<=dv x.hi):0<=dv (zft x)/\dv (zft x)<=qd a/\qd a<=dv (jd x):=by
 obtain⟨m1,m2,_⟩:=zbk (zbd x.lo) (zbd x.hi);obtain⟨l1,l2,l3⟩:=zgn (zbd x.lo) (zbd x.hi);rw[zpn]at m1 l1;rw[zpn]at m2 l2;have hs:=zgc k;have n1:=zx (dv x.lo);have n2:=zx (dv x.hi);have hm:jd x=yj (zbd x.lo) (zbd x.hi):=rfl;rw[hm];have hmag:qd a<=dv (yj (zbd x.lo) (zbd x.hi)):=by
  have e1: -(dv x.lo)<=qd (dv x.lo):=by unfold qd;split<;>grind
  have e2:dv x.hi<=qd (dv x.hi):=by unfold qd;split<;>grind
  unfold qd at*;grind
 unfold zft;by_cases h0:zmy x=0
 ·rw[if_pos h0,ym];exact⟨q3,zx a,hmag⟩
 ·rw[if_neg h0];refine⟨?_,?_,hmag⟩
  ·rcases l3 with e|e<;>rw[e,zpn]
   ·exact n1
   ·exact n2
  ·rcases hs.1 h0 with c|c
   ·have e1:qd (dv x.lo)=dv x.lo:=by unfold qd;rw[if_neg (by grind)]
    have e2:qd a=a:=by unfold qd;rw[if_neg (by grind)]
    rw[e1]at l1;rw[e2];exact q2 l1 h1
   ·have e1:qd (dv x.hi)= -(dv x.hi):=by unfold qd;rw[if_pos c]
    have e2:qd a= -a:=by unfold qd;rw[if_pos (by grind)]
    rw[e1]at l2;rw[e2];grind
def rpw (q:Rat):Nat->Rat
 |0=>1
 |n+1=>rpw q n*q
theorem zb2 {a b c d:Rat} (h0:0<=a) (h1:a<=b) (h2:0<=c) (h3:c<=d):a*c<=b*d:=by
 have e1:a*c<=b*c:=vf h1 h2;have e2:c*b<=d*b:=vf h3 (by grind);rw[qA c,qA d]at e2;exact q2 e1 e2
theorem kv (n:Int):dv (za4 n)=(n:Rat):=by
 unfold za4;rw[zbv];have hv:vN n.natAbs 0=((n.natAbs:Nat):Rat):=by
  unfold vN;have:pw 0=1:=by have:=wp 0;simpa using this
  rw[this,Rat.mul_one]
 rw[hv];by_cases h:n<0
 ·rw[decide_eq_true h,if_pos rfl];have e:n= -(n.natAbs:Int):=by omega
  conv=>rhs;rw[e]
  rw[qO,qC]
 ·rw[decide_eq_false h,if_neg (by decide)];have e:n=(n.natAbs:Int):=by omega
  conv=>rhs;rw[e]
  rw[qC]
end Go.Proofs.YtbolipecnhlnnaaGreatDoor
