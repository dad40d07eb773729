/- Rounding as a law of rational numbers: the greatest number of p bits below a number, the least one above it. -/
import Derived.Test.YthbgbmdmimejiaaGreatDoorMYz
set_option linter.all false
open Bool renaming false_eq_true->q7,and_false->qE,and_self->qQ
open Nat renaming two_pow_pos->q4,pow_le_pow_right->q9,lt_of_lt_of_le->qD,pow_add->qF,le_div_iff_mul_le->qH,pos_of_ne_zero->qJ,le_of_lt->qL,div_add_mod'->qM,mul_ne_zero->qO,succ_mul->qS,not_le->qU,mod_lt->qV,not_lt->qW
open Rat renaming le_trans->q2,le_refl->q3,not_le->q5,le_of_lt->q6,intCast_lt_intCast->q8,mul_comm->qd,intCast_natCast->qn,mul_lt_mul_of_pos_right->qA,not_lt->qB,mul_nonneg->qC,lt_irrefl->qG,neg_neg->qI,mul_inv_cancel->qK,one_mul->qN,intCast_neg->qP,zero_mul->qR,inv_pos->qT
namespace Go.Proofs.YthbgbmdmimejiaaGreatDoor
open Go Go.Sx
set_option maxHeartbeats 2000000
def pw(e:Int):Rat:=(2:Rat)^e
theorem pwA(a b:Int):pw (a+b)=pw a*pw b:=Rat.zpow_add OA a b
theorem jz(e:Int):0<pw e:=Rat.zpow_pos OA
theorem wa(k:Nat):pw (k:Int)=((2^k:Nat):Rat):=by
 unfold pw;rw[Rat.zpow_natCast,Rat.natCast_pow];rfl
theorem wz{a b:Nat}:(a:Rat)<=(b:Rat)<->a<=b:=Rat.natCast_le_natCast
theorem zle{a b:Nat}:(a:Rat)<(b:Rat)<->a<b:=Rat.natCast_lt_natCast
theorem qv(a b:Nat):((a*b:Nat):Rat)=a*b:=Rat.natCast_mul a b
theorem wh(a b:Nat):((a+b:Nat):Rat)=a+b:=Rat.natCast_add a b
theorem za8(a:Nat):(0:Rat)<=a:=Rat.natCast_nonneg
theorem qca{a b c:Rat}(h1:a<b)(h2:b<=c):a<c:=by grind
theorem qw{a b c:Rat}(h:a<=b)(hc:0<=c):a*c<=b*c:=Rat.mul_le_mul_of_nonneg_right h hc
theorem zd2{a b c:Rat}(h:a*c<=b*c)(hc:0<c):a<=b:=Rat.le_of_mul_le_mul_right h hc
def vN(n:Nat)(e:Int):Rat:=(n:Rat)*pw e
theorem xv{a b:Nat}{e:Int}:vN a e<=vN b e<->a<=b:=by
 unfold vN;constructor
 .intro h;exact wz.1 (zd2 h (jz e))
 .intro h;exact qw (wz.2 h) (q6 (jz e))
theorem zog{a b:Nat}{e:Int}:vN a e<vN b e<->a<b:=by
 have h1:=xv (a:=b) (b:=a) (e:=e);constructor
 .intro h;exact qU.1 fun c=>qB.2 (h1.2 c) h
 .intro h;exact q5.1 fun c=>by have:=h1.1 c;omega
theorem zaw(n k:Nat)(e:Int):vN (n*2^k) e=vN n (e+k):=by
 unfold vN;rw[pwA,wa,qv,Rat.mul_assoc,qd (pw e)]
theorem za5(n:Nat)(e u:Int)(h:u<=e):vN n e=vN (n*2^(e-u).toNat) u:=by
 rw[zaw];congr 1;omega
theorem zb8(n:Nat)(e:Int):0<=vN n e:=qC (za8 n) (q6 (jz e))
theorem ye(e:Int):vN 0 e=0:=by unfold vN;rw[show((0:Nat):Rat)=0 from rfl,qR]
theorem zpw(e:Int):vN 1 e=pw e:=by unfold vN;rw[show((1:Nat):Rat)=1 from rfl,qN]
theorem zf9(k:Nat)(e:Int):vN (2^k) e=pw (e+k):=by
 have:=zaw 1 k e;rw[Nat.one_mul]at this;rw[this,zpw]
theorem za7{a b:Int}:pw a<=pw b<->a<=b:=by
 have key:∀ {a b:Int},a<=b->pw a<=pw b:=fun {a b}h=>by
  rw[<-zpw a,<-zpw b,za5 1 b a h,xv];have:=q4 (b-a).toNat;omega
 constructor
 .intro h;refine Int.not_lt.1 fun c=>?_
  have h1:pw (b+1)<=pw a:=key O;have h2:pw (b+1)=pw b*2:=by rw[pwA];congr 1
  have h3:=jz b;grind
 .exact key
def dv(d:Dy):Rat:=if d.neg=true then-(vN (nm d) d.e)else vN (nm d) d.e
theorem zkf(neg:Bool)(n:Nat)(e:Int):dv (cnN neg n e)=if neg=true then-(vN n e)else vN n e:=by
 by_cases h:n=0
 .subst h;have e1:cnN neg 0 e=d0:=by unfold cnN;rw[Z4 rfl]
  rw[e1,ye];unfold dv;rw[Z5 OA,qfg,ye];split<;>rfl
 .obtain⟨m,hm,hm1,hm2,_⟩:=zit h;have hc:cnN neg n e=⟨neg,toL m,e+tz n⟩:=by unfold cnN;rw[Z5 h,hm2]
  have hv:vN n e=vN m (e+tz n):=by
   conv=>lhs;rw[hm]
   exact zaw m (tz n) e
  unfold dv;rw[hc,qcl,hv]
def inF(p:Nat)(z:Rat):Prop:=∃(k:Nat)(u:Int),z=vN k u/\k<=2^p/\ -16384<=u/\z<pw 16384
theorem zai{n:Nat}{e t:Int}(h:(bl n:Int)+e<=t):vN n e<pw t:=by
 have h1:vN n e<vN (2^bl n) e:=zog.2 (zd1 n);rw[zf9]at h1;exact qca h1 (za7.2 O)
theorem yf{n:Nat}{e t:Int}(h:t<(bl n:Int)+e)(hn:n≠0):pw t<=vN n e:=by
 have h0:bl n≠0:=fun c=>hn (zap.1 c)
 have h1:2^(bl n-1)<=n:=(zd8 hn).1 O;have h2:vN (2^(bl n-1)) e<=vN n e:=xv.2 h1;rw[zf9]at h2;exact q2 (za7.2 O) h2
theorem zmd(m:Nat)(e p:Int):unN m e p=e+bl m-p\/(unN m e p= -16384/\e+bl m-p<= -16384):=by unfold unN;omega
theorem grid{p:Nat}{k:Nat}{u w:Int}(hk:k<=2^p):(w<=u/\∃j:Nat,vN k u=vN j w)\/(u<w/\vN k u<=pw (w+p-1)):=by
 by_cases h:w<=u
 .exact .inl ⟨h,_,za5 k u w h⟩
 .refine .inr ⟨O,?_⟩;have h1:vN k u<=vN (2^p) u:=xv.2 hk;rw[zf9]at h1;exact q2 h1 (za7.2 O)
theorem zil{m:Nat}{e:Int}{more:Bool}{u:Int}(h:¬u<=e):vN (jq m e more u).1 u<=vN m e/\vN (m+1) e<=vN ((jq m e more u).1+1) u/\((jq m e more u).2=false->more=false/\vN (jq m e more u).1 u=vN m e)/\((jq m e more u).2=true->more=true\/¬vN m e<=vN (jq m e more u).1 u):=by
 unfold jq;rw[Z5 h];simp only;have hk:=q4 (u-e).toNat;have e1:∀n,vN n u=vN (n*2^(u-e).toNat) e:=fun n=>za5 n u e O
 have h1:=qM m (2^(u-e).toNat);have h2:=qV m hk;rw[e1,e1,xv,xv,qS];refine⟨O,O,?_,?_⟩
 .intro h3;simp only[Bool.or_eq_false_iff,Z3,Decidable.not_not]at h3;refine⟨h3.1,?_⟩
  congr 1;omega
 .intro h3;simp only[Bool.or_eq_true,Z2]at h3;refine h3.imp id fun h4=>?_
  rw[xv];omega
theorem qa2{L:Rat->Prop}(hL:∀a b,a<=b->L b->L a){m:Nat}{e:Int}{more:Bool}{p:Nat}(hp:8<=p/\p<=512)(h0:L (vN m e))(h1:∀z,L z->z<=vN (m+1) e)(h1':¬L (vN (m+1) e))(hx:more=false->∀z,L z->z<=vN m e)(hm:more=true->p<bl m)(he:m=0->e<=16384):
 (zc0 m e more p false).2=0/\L (dv (zc0 m e more p false).1)/\inF p (dv (zc0 m e more p false).1)/\∀z,inF p z->L z->z<=dv (zc0 m e more p false).1:=by
 have hub:=zt2 m e p;have huc:=zmd m e p;have hfb:=zlv m e more p;have hup:upN (jq m e more (unN m e p)) false=(jq m e more (unN m e p)).1:=by unfold upN;simp
 have hlead:unN m e p=e+bl m-p->m≠0->pw (unN m e p+p-1)<=vN (jq m e more (unN m e p)).1 (unN m e p)/\pw (unN m e p+p-1)<=vN m e:=by
  intro h hm0;have hb0:bl m≠0:=fun c=>hm0 (zap.1 c)
  have h2:pw (unN m e p+p-1)<=vN m e:=yf O hm0;refine⟨?_,h2⟩;by_cases hu:unN m e p<=e
  .have:vN (jq m e more (unN m e p)).1 (unN m e p)=vN m e:=by
    unfold jq;rw[Z4 hu];exact(za5 m e _ hu).symm
   rw[this];exact h2
  .have h3:(jq m e more (unN m e p)).1=m/2^(unN m e p-e).toNat :=by unfold jq;rw[Z5 hu]
   have h4:2^(p-1)<=m/2^(unN m e p-e).toNat :=by
    rw[qH (q4 _),<-qF];exact(zd8 hm0).1 O
   rw[h3];have h5:vN (2^(p-1)) (unN m e p)<=vN (m/2^(unN m e p-e).toNat) (unN m e p):=xv.2 h4;rw[zf9]at h5;refine q2 (za7.2 O) h5
 have hq1:L (vN (jq m e more (unN m e p)).1 (unN m e p)):=by
  by_cases hu:unN m e p<=e
  .have:vN (jq m e more (unN m e p)).1 (unN m e p)=vN m e:=by
    unfold jq;rw[Z4 hu];exact(za5 m e _ hu).symm
   rw[this];exact h0
  .exact hL _ _ (zil hu).1 h0
 have hq2:∀j,L (vN j (unN m e p))->vN j (unN m e p)<=vN (jq m e more (unN m e p)).1 (unN m e p):=by
  intro j hj;by_cases hu:unN m e p<=e
  .have hmf:more=false:=by
    cases hmo:more with
    |false=>rfl
    |true=>
     have:=hm hmo;rcases huc with h|h<;>omega
   have:vN (jq m e more (unN m e p)).1 (unN m e p)=vN m e:=by
    unfold jq;rw[Z4 hu];exact(za5 m e _ hu).symm
   rw[this];exact hx hmf _ hj
  .rw[xv];refine qW.1 fun c=>?_
   have h3:vN ((jq m e more (unN m e p)).1+1) (unN m e p)<=vN j (unN m e p):=xv.2 c;exact h1' (hL _ _ (q2 (zil hu).2.1 h3) hj)
 unfold zc0;rw[hup];generalize (jq m e more (unN m e p)).1=q at*;generalize unN m e p=w at*;split
 .rename_i hov;simp only[q7,if_false];have hq0:q≠0:=fun c=>by
   rw[c,ux]at hov;rcases huc with h|h
   .by_cases hm0:m=0
    .have:=he hm0;rw[hm0,ux]at h;omega
    .have h3:=(hlead h hm0).1;rw[c,ye]at h3;exact q5.2 (jz _) h3
   .omega
  have hbig:pw 16384<=vN q w:=yf O hq0;rw[zkf,Z5 OA];have hp2:=q4 p;have hlt:vN (2^p-1) (16384-p)<pw 16384:=by
   have:vN (2^p-1) (16384-p)<vN (2^p) (16384-p):=zog.2 O;rw[zf9]at this;have e2:(16384-(p:Int)+p)=16384:=O
   rwa [e2]at this
  refine⟨trivial,hL _ _ (q2 (q6 hlt) hbig) hq1,⟨2^p-1,16384-p,rfl,O,O,hlt⟩,fun z hz _=>?_⟩;obtain⟨k,u,rfl,hk,hu,hz16⟩:=hz;rcases grid (w:=16384-p) hk (u:=u)with ⟨_,j,hj⟩|⟨_,hj⟩
  .rw[hj]at hz16⊢;rw[xv];have e3:pw 16384=vN (2^p) (16384-p):=by rw[zf9];congr 1;omega
   rw[e3,zog]at hz16;omega
  .refine q2 hj ?_;have e4:pw (16384-(p:Int)+p-1)=vN (2^(p-1)) (16384-p):=by rw[zf9];congr 1;omega
   rw[e4,xv];have:2^p=2*2^(p-1):=by rw[Nat.mul_comm,<-Nat.pow_succ];congr 1;omega
   have:=q4 (p-1);omega
 .rename_i hov;simp only;rw[zkf,Z5 OA];refine⟨trivial,hq1,⟨q,w,rfl,?_,hub,zai O⟩,fun z hz hLz=>?_⟩
  .exact qL (qD (zd1 q) (q9 OA hfb))
  .obtain⟨k,u,rfl,hk,hu,_⟩:=hz;rcases grid (w:=w) hk (u:=u)with ⟨_,j,hj⟩|⟨hlt,hj⟩
   .rw[hj]at hLz⊢;exact hq2 j hLz
   .rcases huc with h|h
    .by_cases hm0:m=0
     .subst hm0;have hmf:more=false:=by
       cases hmo:more with
       |false=>rfl
       |true=>have:=hm hmo;rw[ux]at this;omega
      have h3:=hx hmf _ hLz;rw[ye]at h3;exact q2 h3 (zb8 q w)
     .exact q2 hj (hlead h hm0).1
    .omega
theorem zk5{a b:Rat}(h1:a<=b)(h2:b<=a):a=b:=by grind
theorem qlr{U:Rat->Prop}(hU:∀a b,a<=b->U a->U b){m:Nat}{e:Int}{more:Bool}{p:Nat}(hp:8<=p/\p<=512)(h0:more=false->U (vN m e))(h0':U (vN (m+1) e))(h1:∀z,U z->vN m e<=z)(h1':more=true->¬U (vN m e))(hm:more=true->p<bl m)(he:m=0->e<=16384):
 ((zc0 m e more p true).2=0->U (dv (zc0 m e more p true).1)/\inF p (dv (zc0 m e more p true).1))/\∀z,inF p z->U z->(zc0 m e more p true).2=0/\dv (zc0 m e more p true).1<=z:=by
 have hub:=zt2 m e p;have huc:=zmd m e p;have hfb:=zlv m e more p;have hmf:unN m e p<=e->more=false:=fun hu=>by
  cases hmo:more with
  |false=>rfl
  |true=>
   have:=hm hmo;rcases huc with h|h<;>omega
 have hex:unN m e p<=e->vN (jq m e more (unN m e p)).1 (unN m e p)=vN m e/\(jq m e more (unN m e p)).2=false:=fun hu=>by
  have:=hmf hu;unfold jq;rw[Z4 hu];exact⟨(za5 m e _ hu).symm,this⟩
 have hA:U (vN (upN (jq m e more (unN m e p)) true) (unN m e p)):=by
  by_cases hu:unN m e p<=e
  .obtain⟨e1,e2⟩:=hex hu;unfold upN;rw[e2];simp only[qE,q7,if_false];rw[e1];exact h0 (hmf hu)
  .obtain⟨f1,f2,f3,f4⟩:=zil (m:=m) (more:=more) hu;unfold upN
   cases hF:(jq m e more (unN m e p)).2 with
   |false=>
    simp only[qE,q7,if_false];obtain⟨g1,g2⟩:=f3 hF;rw[g2];exact h0 g1
   |true=>
    simp only[qQ,if_true];exact hU _ _ f2 h0'
 have hB:∀j,U (vN j (unN m e p))->upN (jq m e more (unN m e p)) true<=j:=by
  intro j hj;have hle:=h1 _ hj;by_cases hu:unN m e p<=e
  .obtain⟨e1,e2⟩:=hex hu;unfold upN;rw[e2];simp only[qE,q7,if_false];rw[<-e1,xv]at hle;exact hle
  .obtain⟨f1,f2,f3,f4⟩:=zil (m:=m) (more:=more) hu;unfold upN
   cases hF:(jq m e more (unN m e p)).2 with
   |false=>
    simp only[qE,q7,if_false];obtain⟨g1,g2⟩:=f3 hF;rw[<-g2,xv]at hle;exact hle
   |true=>
    simp only[qQ,if_true];refine qU.1 fun c=>?_
    have h3:vN j (unN m e p)<=vN (jq m e more (unN m e p)).1 (unN m e p):=xv.2 c;rcases f4 hF with h|h
    .refine h1' h ?_;rw[zk5 hle (q2 h3 f1)];exact hj
    .exact h (q2 hle h3)
 have hq0:m=0->upN (jq m e more (unN m e p)) true=0:=fun h=>by
  have hmo:more=false:=by
   cases hmo:more with
   |false=>rfl
   |true=>have:=hm hmo;rw[h,ux]at this;omega
  subst h hmo;unfold jq upN;split<;>simp
 have hle:upN (jq m e more (unN m e p)) true<=2^p:=by
  have h3:(jq m e more (unN m e p)).1<2^p:=qD (zd1 _) (q9 OA hfb);unfold upN;split<;>omega
 have hlead:∀z,U z->z<=pw (unN m e p+p-1)->unN m e p=e+bl m-p->vN (upN (jq m e more (unN m e p)) true) (unN m e p)<=z:=by
  intro z hz hz2 h;by_cases hm0:m=0
  .rw[hq0 hm0,ye];exact q2 (zb8 m e) (h1 z hz)
  .have hb0:bl m≠0:=fun c=>hm0 (zap.1 c)
   have h2:pw (unN m e p+p-1)<=vN m e:=yf O hm0;have h3:z=vN (2^(p-1)) (unN m e p):=by
    rw[zf9];have:unN m e p+((p-1:Nat):Int)=unN m e p+p-1:=O;rw[this];exact zk5 hz2 (q2 h2 (h1 z hz))
   rw[h3]at hz⊢;exact xv.2 (hB _ hz)
 have hall:∀z,inF p z->U z->vN (upN (jq m e more (unN m e p)) true) (unN m e p)<=z:=by
  intro z hz hUz;obtain⟨k,u,rfl,hk,hu,_⟩:=hz;rcases grid (w:=unN m e p) hk (u:=u)with ⟨_,j,hj⟩|⟨hlt,hj⟩
  .rw[hj]at hUz⊢;exact xv.2 (hB j hUz)
  .rcases huc with h|h
   .exact hlead _ hUz hj h
   .omega
 unfold zc0;generalize upN (jq m e more (unN m e p)) true=q at*;generalize unN m e p=w at*;by_cases hov:16384<(bl q:Int)+w
 .rw[Z4 hov];simp only[if_true];refine⟨fun h=>absurd h OA,fun z hz hUz=>?_⟩;have hqn:q≠0:=fun c=>by
   rw[c,ux]at hov;rcases huc with h|h
   .by_cases hm0:m=0
    .have:=he hm0;rw[hm0,ux]at h;omega
    .have hb0:bl m≠0:=fun c=>hm0 (zap.1 c)
     rw[c,ye]at hA;have h3:=h1 _ hA;have h4:pw (w+p-1)<=vN m e:=yf O hm0;exact q5.2 (jz _) (q2 h4 h3)
   .omega
  have h3:=hall z hz hUz;have h4:pw 16384<=vN q w:=yf O hqn;obtain⟨_,_,_,_,_,h5⟩:=hz;exact absurd (q2 h4 h3) (q5.2 h5)
 .rw[Z5 hov];simp only;rw[zkf,Z5 OA];exact⟨fun _=>⟨hA,q,w,rfl,hle,hub,zai O⟩,fun z hz hUz=>⟨trivial,hall z hz hUz⟩⟩
def Fp(p:Nat)(z:Rat):Prop:=inF p z\/inF p (-z)
def RD(p:Nat)(L:Rat->Prop)(r:Dy×Int):Prop:=(r.2=0->L (dv r.1)/\Fp p (dv r.1))/\∀z,Fp p z->L z->r.2=0/\z<=dv r.1
def RU(p:Nat)(U:Rat->Prop)(r:Dy×Int):Prop:=(r.2=0->U (dv r.1)/\Fp p (dv r.1))/\∀z,Fp p z->U z->r.2=0/\dv r.1<=z
theorem zbm{d:Dy}:dv (zad d)= -dv d:=by
 unfold zad dv;by_cases h:nm d=0
 .rw[Z4 h,Z5 OA,qfg,h,ye,ye];split<;>rfl
 .rw[Z5 h];have h2:nm ⟨!d.neg,d.m,d.e⟩=nm d:=rfl;rw[h2];cases d.neg<;>simp
theorem zl0:dv d0=0:=by
 unfold dv;rw[Z5 OA,qfg,ye]
theorem zdf(p:Nat):inF p 0:=⟨0,0,(ye 0).symm,Nat.zero_le _,OA,jz _⟩
theorem zj0{p:Nat}{z:Rat}(h:inF p z):0<=z:=by
 obtain⟨k,u,rfl,_⟩:=h;exact zb8 k u
theorem zqg{L U:Rat->Prop}{m:Nat}{e:Int}{more:Bool}{p:Nat}(hp:8<=p/\p<=512)(neg:Bool)
 (hL:∀a b,a<=b->L b->L a) (hU:∀a b,a<=b->U a->U b) (l0:L (vN m e)) (l1:∀z,L z->z<=vN (m+1) e) (l1':¬L (vN (m+1) e)) (lx:more=false->∀z,L z->z<=vN m e)
 (u0:more=false->U (vN m e)) (u0':U (vN (m+1) e)) (u1:∀z,U z->vN m e<=z) (u1':more=true->¬U (vN m e)) (hm:more=true->p<bl m) (he:m=0->e<=16384):
 RD p (fun z=>if neg=true then U (-z)else L z) (zb1 neg m e more p false)/\RU p (fun z=>if neg=true then L (-z)else U z) (zb1 neg m e more p true):=by
 have hL0:L 0:=hL _ _ (zb8 m e) l0;obtain⟨d1,d2,d3,d4⟩:=qa2 hL hp l0 l1 l1' lx hm he;obtain⟨c1,c2⟩:=qlr hU hp u0 u0' u1 u1' hm he;have hUn:∀z,U z->0<=z:=fun z hz=>q2 (zb8 m e) (u1 z hz)
 have hr0:0<=dv (zc0 m e more p false).1:=zj0 d3
 cases neg with
 |false=>
  have e1:zb1 false m e more p false=zc0 m e more p false:=by unfold zb1;rw[Z5 OC];rfl
  have e2:zb1 false m e more p true=zc0 m e more p true:=by unfold zb1;rw[Z5 OC];rfl
  rw[e1,e2];refine⟨⟨fun _=>⟨by simpa using d2,.inl d3⟩,fun z hz hz2=>⟨d1,?_⟩⟩,⟨fun h=>?_,fun z hz hz2=>?_⟩⟩
  .rcases hz with hz|hz
   .exact d4 z hz (by simpa using hz2)
   .have:=zj0 hz;grind
  .obtain⟨h1,h2⟩:=c1 h;exact⟨by simpa using h1,.inl h2⟩
  .have hz3:U z:=by simpa using hz2
   rcases hz with hz|hz
   .exact c2 z hz hz3
   .have h3:=zj0 hz;have h4:=hUn z hz3;have h5:z=0:=by grind
    subst h5;exact c2 0 (zdf p) hz3
 |true=>
  have e1:zb1 true m e more p false=if(zc0 m e more p true).2=0 then(zad (zc0 m e more p true).1,0)else zc0 m e more p true:=by
   unfold zb1;simp only[and_true];rfl
  have e2:zb1 true m e more p true=(zad (zc0 m e more p false).1,0):=by
   unfold zb1;simp only[and_true];rw[Z4 (by exact d1)];rfl
  rw[e1,e2];refine⟨⟨fun h=>?_,fun z hz hz2=>?_⟩,⟨fun _=>?_,fun z hz hz2=>⟨rfl,?_⟩⟩⟩
  .by_cases hc:(zc0 m e more p true).2=0
   .rw[Z4 hc];obtain⟨h1,h2⟩:=c1 hc;simp only[zbm,if_true];refine⟨?_,.inr ?_⟩
    .rw[qI];exact h1
    .rw[qI];exact h2
   .rw[Z5 hc]at h;exact absurd h hc
  .have hz3:U (-z):=by simpa using hz2
   have hz4:inF p (-z):=by
    rcases hz with hz|hz
    .have h3:=zj0 hz;have h4:=hUn _ hz3;have h5:z=0:=by grind
     subst h5;have:(-0:Rat)=0:=by grind
     rw[this];exact zdf p
    .exact hz
   obtain⟨h1,h2⟩:=c2 _ hz4 hz3;rw[Z4 h1];refine⟨rfl,?_⟩;simp only[zbm];grind
  .simp only[zbm,if_true];refine⟨?_,.inr ?_⟩
   .rw[qI];exact d2
   .rw[qI];exact d3
  .have hz3:L (-z):=by simpa using hz2
   simp only[zbm];rcases hz with hz|hz
   .have:=zj0 hz;grind
   .have:=d4 _ hz hz3;grind
theorem RD.congr{p:Nat}{L L':Rat->Prop}{r:Dy×Int}(h:RD p L r)(hl:∀z,L z<->L' z):RD p L' r:=
 ⟨fun e=>⟨(hl _).1 (h.1 e).1,(h.1 e).2⟩,fun z hz hz2=>h.2 z hz ((hl z).2 hz2)⟩
theorem RU.congr{p:Nat}{U U':Rat->Prop}{r:Dy×Int}(h:RU p U r)(hl:∀z,U z<->U' z):RU p U' r:=
 ⟨fun e=>⟨(hl _).1 (h.1 e).1,(h.1 e).2⟩,fun z hz hz2=>h.2 z hz ((hl z).2 hz2)⟩
def RT(p:Nat)(y:Rat)(F:Bool->Dy×Int):Prop:=RD p (fun z=>z<=y) (F false)/\RU p (fun z=>y<=z) (F true)
theorem zg1{x:Rat}{m:Nat}{e:Int}{more:Bool}{p:Nat}(hp:8<=p/\p<=512)(neg:Bool)(h1:vN m e<=x)(h2:x<vN (m+1) e)(h3:more=false->x=vN m e)(h4:more=true->vN m e<x)(hm:more=true->p<bl m)(he:m=0->e<=16384):
 RT p (if neg=true then-x else x) (fun up=>zb1 neg m e more p up):=by
 obtain⟨a,b⟩:=zqg (L:=fun z=>z<=x) (U:=fun z=>x<=z) hp neg (fun a b h1 h2=>q2 h1 h2) (fun a b h1 h2=>q2 h2 h1) h1 (fun z hz=>q2 hz (q6 h2)) (q5.2 h2)
  (fun h z hz=>by rw[<-h3 h];exact hz) (fun h=>by rw[h3 h];exact q3) (q6 h2) (fun z hz=>q2 h1 hz) (fun h=>q5.2 (h4 h)) hm he
 refine⟨a.congr fun z=>?_,b.congr fun z=>?_⟩
 .cases neg with
  |true=>simp only[if_true];constructor<;>intro h<;>grind
  |false=>simp
 .cases neg with
  |true=>simp only[if_true];constructor<;>intro h<;>grind
  |false=>simp
theorem zfi(m:Nat)(e:Int):vN m e<vN (m+1) e:=zog.2 (Nat.lt_succ_self m)
theorem zeh{m:Nat}{e:Int}{p:Nat}(hp:8<=p/\p<=512)(neg:Bool)(he:m=0->e<=16384):
 RT p (if neg=true then-(vN m e)else vN m e) (fun up=>zb1 neg m e false p up):=
 zg1 hp neg q3 (zfi m e) (fun _=>rfl) (fun h=>by cases h) (fun h=>by cases h) he
theorem jf{d:Dy}(hd:VD d){p:Nat}(hp:8<=p/\p<=512):RT p (dv d) (fun up=>ql d p up):=by
 have:=zeh (m:=nm d) (e:=d.e) hp d.neg (fun _=>hd.exp.2.1);exact this
theorem ztz(a b:Nat)(e f:Int):vN a e*vN b f=vN (a*b) (e+f):=by
 unfold vN;rw[pwA,qv];grind
theorem qln{a b:Dy}:dv a*dv b=if(a.neg != b.neg)=true then-(vN (nm a*nm b) (a.e+b.e))else vN (nm a*nm b) (a.e+b.e):=by
 rw[<-ztz];unfold dv;cases a.neg<;>cases b.neg<;>simp<;>grind
theorem ztv{d:Dy}(h:VD d)(h0:nm d=0):d.e=0:=by
 rcases h.ok with ⟨_,_,h3⟩|⟨h3,_⟩
 .exact h3
 .omega
theorem zb3{a b:Dy}(ha:VD a)(hb:VD b){p:Nat}(hp:8<=p/\p<=512):RT p (dv a*dv b) (fun up=>kf a b p up):=by
 rw[qln];refine zeh hp _ fun h=>?_
 have a2:=ha.exp;have b2:=hb.exp;rcases Nat.mul_eq_zero.1 h with h|h
 .have:=ztv ha h;omega
 .have:=ztv hb h;omega
theorem qby{n:Nat}(e:Int)(h:n≠0):0<vN n e:=by
 rw[<-ye e,zog];omega
theorem qdc{a b c:Rat}(hb:0<b):c<=a/b<->c*b<=a:=by
 have e:a/b*b=a:=by grind
 constructor
 .intro h;have:=qw h (q6 hb)
  rwa [e]at this
 .intro h;exact zd2 (by rw[e];exact h) hb
theorem qlq{a b c:Rat}(hb:0<b):a/b<c<->a<c*b:=by
 have:=qdc (a:=a) (c:=c) hb;constructor
 .intro h;exact q5.1 fun x=>q5.2 h (this.2 x)
 .intro h;exact q5.1 fun x=>q5.2 h (this.1 x)
theorem zrr{x y p:Nat}(hx:x≠0)(hy:y≠0):p<bl (x*2^(p+3+bl y-bl x)/y):=by
 have hk:=qr x (p+3+bl y-bl x) hx;generalize x*2^(p+3+bl y-bl x)=X at*;have hX:X≠0:=fun c=>by rw[c,ux]at hk;have:bl x≠0:=fun c=>hx (zap.1 c);omega
 have h1:2^(p+2+bl y)<=X:=(zd8 hX).1 O;have h2:2^(p+2)<=X/y:=by
  rw[qH (qJ hy)];rw[qF]at h1;exact Nat.le_trans (Nat.mul_le_mul_left _ (qL (zd1 y))) h1
 have h3:X/y≠0:=by have:=q4 (p+2);omega
 have:=(zd8 h3).2 h2;omega
theorem znz{a b:Dy}(ha:VD a)(hb':VD b)(hb0:nm b≠0){p:Nat}(hp:8<=p/\p<=512):RT p (dv a/dv b) (fun up=>ut a b p up):=by
 have hb:0<vN (nm b) b.e:=qby _ hb0;have hv:dv a/dv b=if(a.neg != b.neg)=true then-(vN (nm a) a.e/vN (nm b) b.e)else vN (nm a) a.e/vN (nm b) b.e:=by
  unfold dv;cases a.neg<;>cases b.neg<;>simp<;>grind
 have hD:(fun up=>ut a b p up)=fun up=>zb1 (a.neg != b.neg) (nm a*2^zbb a b p/nm b) (a.e-zbb a b p-b.e) (decide (nm a*2^zbb a b p % nm b≠0)) p up:=by
  funext up;unfold ut;rw[Z5 hb0]
 rw[hv,hD];have hx:vN (nm a) a.e=vN (nm a*2^zbb a b p) (a.e-zbb a b p):=by rw[zaw];congr 1;omega
 have hq:∀q,vN q (a.e-zbb a b p-b.e)*vN (nm b) b.e=vN (q*nm b) (a.e-zbb a b p):=fun q=>by rw[ztz];congr 1;omega
 have hdm:=qM (nm a*2^zbb a b p) (nm b);have hml:=qV (nm a*2^zbb a b p) (qJ hb0);refine zg1 hp _ ?_ ?_ ?_ ?_ ?_ ?_
 .rw[qdc hb,hq,hx,xv];omega
 .rw[qlq hb,hq,hx,zog,qS];omega
 .intro h;have h:nm a*2^zbb a b p % nm b=0:=by simpa using h
  have e1:vN (nm a*2^zbb a b p/nm b) (a.e-zbb a b p-b.e)*vN (nm b) b.e=vN (nm a) a.e:=by
   rw[hq,hx];congr 1;omega
  rw[<-e1];have:vN (nm b) b.e≠0:=fun c=>by rw[c]at hb;grind
  grind
 .intro h;have h:nm a*2^zbb a b p % nm b≠0:=by simpa using h
  refine q5.1 fun c=>?_
  have h2:=qw c (q6 hb);have e1:vN (nm a) a.e/vN (nm b) b.e*vN (nm b) b.e=vN (nm a) a.e:=by
   have:vN (nm b) b.e≠0:=fun c=>by rw[c]at hb;grind
   grind
  rw[e1,hq,hx,xv]at h2;omega
 .intro h;have h:nm a*2^zbb a b p % nm b≠0:=by simpa using h
  have ha0:nm a≠0:=fun c=>by rw[c,Nat.zero_mul,Nat.zero_mod]at h;exact h rfl
  exact zrr ha0 hb0
 .intro h;by_cases ha0:nm a=0
  .have h1:=ztv ha ha0;have h2:=hb'.exp;omega
  .have:=zrr (p:=p) ha0 hb0;have h2:nm a*2^zbb a b p/nm b=nm a*2^(p+3+bl (nm b)-bl (nm a))/nm b:=rfl;rw[<-h2,h,ux]at this;omega
def sqL(v z:Rat):Prop:=z<=0\/z*z<=v
def sqU(v z:Rat):Prop:=0<=z/\v<=z*z
theorem zkt{a b:Rat}(h0:0<=a)(h:a<=b):a*a<=b*b:=by
 have h1:a*a<=b*a:=qw h h0;have h2:a*b<=b*b:=qw h (by grind);grind
theorem zga{a b:Rat}(h0:0<=b)(h:a*a<=b*b):a<=b:=by
 refine qB.1 fun c=>?_
 have h1:b*b<=b*a:=by
  have:=qw (q6 c) h0;grind
 have h2:b*a<a*a:=by
  have:=qA c (show 0<a by grind);exact this
 grind
theorem xf{d:Dy}(hn:d.neg=false){p:Nat}(hp:8<=p/\p<=512)(h0:nm d≠0):RD p (sqL (dv d)) (kp d p false)/\RU p (sqU (dv d)) (kp d p true):=by
 have hdv:dv d=vN (nm d) d.e:=by unfold dv;rw[hn,Z5 OA]
 have hpar:(d.e-sqK d p) % 2=0:=by unfold sqK;split<;>omega
 have hD:∀up,kp d p up=zb1 false (sqN (nm d*2^sqK d p)) ((d.e-sqK d p)/2) (decide (sqN (nm d*2^sqK d p)*sqN (nm d*2^sqK d p)≠nm d*2^sqK d p)) p up:=fun up=>by
  unfold kp zb1;rw[Z5 h0,Z5 OC];cases up<;>rfl
 have hx:dv d=vN (nm d*2^sqK d p) (d.e-sqK d p):=by rw[hdv,zaw];congr 1;omega
 have hs:∀q,vN q ((d.e-sqK d p)/2)*vN q ((d.e-sqK d p)/2)=vN (q*q) (d.e-sqK d p):=fun q=>by rw[ztz];congr 1;omega
 obtain⟨s1,s2⟩:=zku (nm d*2^sqK d p);have hM:2^(2*p+3)<=nm d*2^sqK d p:=by
  have hk:=qr (nm d) (sqK d p) h0;have hne:nm d*2^sqK d p≠0:=qO h0 (by have:=q4 (sqK d p);omega);refine(zd8 hne).1 ?_;have:2*p+4-bl (nm d)<=sqK d p:=by unfold sqK;split<;>omega
  omega
 have hbits:p<bl (sqN (nm d*2^sqK d p)):=by
  have h1:2^(p+1)<=sqN (nm d*2^sqK d p):=by
   refine qW.1 fun c=>?_
   have h2:(sqN (nm d*2^sqK d p)+1)*(sqN (nm d*2^sqK d p)+1)<=2^(p+1)*2^(p+1):=Nat.mul_le_mul c c;rw[<-qF]at h2;have h3:2^(p+1+(p+1))<=2^(2*p+3):=q9 OA O;omega
  have hne:sqN (nm d*2^sqK d p)≠0:=by have:=q4 (p+1);omega
  have:=(zd8 hne).2 h1;omega
 rw[hD,hD,hx];generalize nm d*2^sqK d p=M at*;generalize sqN M=s at*;generalize (d.e-(sqK d p:Int))/2=e at*;generalize d.e-(sqK d p:Int)=f at*;have hv0:0<=vN M f:=zb8 M f;have l0:vN s e*vN s e<=vN M f:=by rw[hs,xv];exact s1
 have l1:vN M f<vN (s+1) e*vN (s+1) e:=by rw[hs,zog];exact s2
 obtain⟨a,b⟩:=zqg (L:=sqL (vN M f)) (U:=sqU (vN M f)) (m:=s) (e:=e) (more:=decide (s*s≠M)) hp false
  (fun a b h1 h2=>by
    rcases h2 with h2|h2
    .exact .inl (q2 h1 h2)
    .by_cases ha:a<=0
     .exact .inl ha
     .exact .inr (q2 (zkt (q6 (q5.1 ha)) h1) h2))
  (fun a b h1 h2=>⟨q2 h2.1 h1,q2 h2.2 (zkt h2.1 h1)⟩)
  (.inr l0)
  (fun z hz=>by
    rcases hz with hz|hz
    .exact q2 hz (zb8 _ _)
    .exact zga (zb8 _ _) (q2 hz (q6 l1)))
  (fun h=>by
    rcases h with h|h
    .exact q5.2 (qby e (Nat.succ_ne_zero s)) h
    .exact q5.2 l1 h)
  (fun h z hz=>by
    have h:s*s=M:=by simpa using h
    rcases hz with hz|hz
    .exact q2 hz (zb8 _ _)
    .refine zga (zb8 _ _) ?_;rw[hs,h];exact hz)
  (fun h=>by
    have h:s*s=M:=by simpa using h
    exact⟨zb8 _ _,by rw[hs,h];exact q3⟩)
  ⟨zb8 _ _,q6 l1⟩
  (fun z hz=>zga hz.1 (q2 l0 hz.2))
  (fun h hU=>by
    have h:s*s≠M:=by simpa using h
    have h2:=hU.2;rw[hs,xv]at h2;omega)
  (fun _=>hbits)
  (fun h=>by rw[h,ux]at hbits;omega)
 exact⟨a.congr fun z=>OC,b.congr fun z=>OC⟩
theorem qgf(d:Dy)(t:Int)(h:t<=d.e):dv d=(zi d t:Rat)*pw t:=by
 have e:vN (nm d) d.e=((nm d*2^(d.e-t).toNat :Nat):Rat)*pw t:=by rw[za5 _ _ t h];rfl
 unfold dv zi;rw[e]
 cases d.neg with
 |true=>
  simp only[if_true,qP,qn];rw[Rat.neg_mul]
 |false=>
  simp only[q7,if_false,qn]
theorem zmw(x y:Int):(zvx x y<0<->x<y)/\(0<zvx x y<->y<x)/\(zvx x y=0<->x=y):=by
 unfold zvx;split
 .omega
 .split<;>omega
theorem zbe{x y t:Rat}(ht:0<t):x*t<y*t<->x<y:=by
 constructor
 .intro h;exact q5.1 fun c=>q5.2 h (qw c (q6 ht))
 .intro h;exact qA h ht
theorem ze9(a b:Dy):(qu a b<0<->dv a<dv b)/\(0<qu a b<->dv b<dv a)/\(qu a b=0<->dv a=dv b):=by
 have ha:=qgf a (min a.e b.e) O;have hb:=qgf b (min a.e b.e) O;have hp:=jz (min a.e b.e);obtain⟨h1,h2,h3⟩:=zmw (zi a (min a.e b.e)) (zi b (min a.e b.e));rw[ha,hb];unfold qu;rw[h1,h2,h3,zbe hp,zbe hp,q8,q8];refine⟨Iff.rfl,Iff.rfl,⟨fun h=>by rw[h],fun h=>?_⟩⟩;have h4:¬((zi a (min a.e b.e):Rat)<zi b (min a.e b.e)):=fun c=>by have:=(zbe hp).2 c;rw[h]at this;exact qG this
 have h5:¬((zi b (min a.e b.e):Rat)<zi a (min a.e b.e)):=fun c=>by have:=(zbe hp).2 c;rw[h]at this;exact qG this
 rw[q8]at h4 h5;omega
theorem yn{a b:Dy}:qu a b<=0<->dv a<=dv b:=by
 have h:=(ze9 a b).2.1;constructor
 .intro h1;exact qB.1 fun c=>by have:=h.2 c;omega
 .intro h1;exact Int.not_lt.1 fun c=>qB.2 h1 (h.1 c)
theorem zr3{a b:Dy}:0<=qu a b<->dv b<=dv a:=by
 have h:=(ze9 a b).1;constructor
 .intro h1;exact qB.1 fun c=>by have:=h.2 c;omega
 .intro h1;exact Int.not_lt.1 fun c=>qB.2 h1 (h.1 c)
theorem kg(d:Dy):(wy d<0<->dv d<0)/\(0<wy d<->0<dv d)/\(wy d=0<->dv d=0):=by
 have ha:=qgf d d.e (Int.le_refl _);have hp:=jz d.e;obtain⟨h1,h2,h3⟩:=zmw (zi d d.e) 0;rw[zpq d d.e,h1,h2,h3,ha];have e0:(0:Rat)=((0:Int):Rat)*pw d.e:=by rw[show((0:Int):Rat)=0 from rfl,qR]
 have g1:(zi d d.e:Rat)*pw d.e<0<->zi d d.e<0:=by
  conv=>lhs;rhs;rw[e0]
  rw[zbe hp,q8]
 have g2:0<(zi d d.e:Rat)*pw d.e<->0<zi d d.e:=by
  conv=>lhs;lhs;rw[e0]
  rw[zbe hp,q8]
 refine⟨g1.symm,g2.symm,⟨fun h=>by rw[h];exact e0.symm,fun h=>?_⟩⟩;have k1:¬zi d d.e<0:=fun c=>by have:=g1.2 c;rw[h]at this;exact qG this
 have k2:¬0<zi d d.e:=fun c=>by have:=g2.2 c;rw[h]at this;exact qG this
 omega
theorem zt0(a b:Nat)(e:Int):vN a e+vN b e=vN (a+b) e:=by unfold vN;rw[wh,Rat.add_mul]
theorem zpv{a b:Nat}(h:b<=a)(e:Int):vN a e-vN b e=vN (a-b) e:=by
 have:=zt0 (a-b) b e;rw[(O:a-b+b=a)]at this;grind
theorem zw6(n:Nat)(e w:Int):vN (jq n e false w).1 w<=vN n e/\vN n e<vN ((jq n e false w).1+1) w/\((jq n e false w).2=false->vN n e=vN (jq n e false w).1 w)/\((jq n e false w).2=true->vN (jq n e false w).1 w<vN n e/\e<w):=by
 by_cases h:w<=e
 .have e1:jq n e false w=(n*2^(e-w).toNat,false):=by unfold jq;rw[Z4 h]
  have e2:=za5 n e w h;rw[e1];simp only;rw[<-e2];refine⟨q3,?_,fun _=>rfl,fun c=>by cases c⟩;rw[e2];exact zfi _ _
 .obtain⟨h1,h2,h3,h4⟩:=zil (m:=n) (more:=false) h;refine⟨h1,qca (zfi n e) h2,fun c=>(h3 c).2.symm,fun c=>⟨?_,O⟩⟩;rcases h4 c with h5|h5
  .cases h5
  .exact q5.1 h5
theorem qb4{c d:Dy}(hc:VD c)(hd:VD d)(c0:nm c≠0)(d0':nm d≠0)(hle:zf d<=zf c){p:Nat}(hp:8<=p/\p<=512):RT p (dv c+dv d) (fun up=>qg4 c d p up):=by
 obtain⟨l1,l2,l3,l4⟩:=zo3 hc hd c0 hle d0' hp;have tc:zf c=bl (nm c)+c.e:=by unfold zf;rw[Z5 c0]
 have td:zf d=bl (nm d)+d.e:=by unfold zf;rw[Z5 d0']
 have hlow:d.e<kw c d p->kw c d p<=zf c-p-8/\2<zf c-zf d:=fun h=>by
  unfold kw at h⊢;by_cases h2:zf c-zf d<=2
  .rw[Z4 h2]at h;omega
  .rw[Z5 h2];omega
 obtain⟨f1,f2,f3,f4⟩:=zw6 (nm d) d.e (kw c d p);have hXv:vN (nm c) c.e=vN (nm c*2^(c.e-kw c d p).toNat) (kw c d p):=za5 _ _ _ l1;have hXb:=qr (nm c) (c.e-kw c d p).toNat c0;have hFb:d.e<kw c d p->(jq (nm d) d.e false (kw c d p)).1<2^(zf d-kw c d p).toNat :=fun h=>by
  have e1:(jq (nm d) d.e false (kw c d p)).1=nm d/2^(kw c d p-d.e).toNat :=by unfold jq;rw[Z5 O]
  rw[e1,Nat.div_lt_iff_lt_mul (q4 _),<-qF];exact qD (zd1 (nm d)) (q9 OA O)
 have hxv:∀y:Dy,dv y=if y.neg=true then-(vN (nm y) y.e)else vN (nm y) y.e:=fun y=>rfl
 have hXge:2^((zf c-kw c d p).toNat -1)<=nm c*2^(c.e-kw c d p).toNat :=by
  have hX0:nm c*2^(c.e-kw c d p).toNat ≠0:=qO c0 (by have:=q4 (c.e-kw c d p).toNat;omega);have hb0:bl (nm c)≠0:=fun x=>c0 (zap.1 x)
  exact(zd8 hX0).1 O
 unfold qg4 zja;rw[hxv c,hxv d,hXv];generalize nm c*2^(c.e-kw c d p).toNat =X at*;generalize hF:jq (nm d) d.e false (kw c d p)=F at*;generalize kw c d p=w at*;generalize vN (nm d) d.e=y at*;have hX0:X≠0:=by have:=q4 ((zf c-w).toNat -1);omega
 by_cases hs:c.neg=d.neg
 .
  rw[Z4 hs];simp only;have hne:¬(X+F.1=0/\F.2=false):=fun h=>hX0 O
  have hval:(if c.neg=true then-(vN X w)else vN X w)+(if d.neg=true then-y else y)=if(c.neg != false)=true then-(vN X w+y)else vN X w+y:=by
   rw[<-hs];cases c.neg<;>simp<;>grind
  rw[hval];have hfun:(fun up=>if X+F.1=0/\F.2=false then(d0,(0:Int))else zb1 (c.neg != false) (X+F.1) w F.2 p up)=fun up=>zb1 (c.neg != false) (X+F.1) w F.2 p up:=by
   funext up;rw[Z5 hne]
  rw[hfun];have a1:=zt0 X F.1 w;have a2:=zt0 X (F.1+1) w;refine zg1 hp _ ?_ ?_ ?_ ?_ ?_ ?_
  .rw[<-a1];grind
  .rw[(O:X+F.1+1=X+(F.1+1)),<-a2];grind
  .intro h;rw[<-a1,f3 h]
  .intro h;rw[<-a1];have:=(f4 h).1;grind
  .intro h;obtain⟨h1,h2⟩:=hlow (f4 h).2;have h3:bl X<=bl (X+F.1):=zy O;omega
  .intro h;omega
 .
  rw[Z5 hs];have hval:∀z:Rat,z=vN X w-y->(if c.neg=true then-(vN X w)else vN X w)+(if d.neg=true then-y else y)=if c.neg=true then-z else z:=fun z hz=>by
   subst hz;cases hc':c.neg<;>cases hd':d.neg<;>simp[hc',hd']at hs⊢ <;>grind
  have hU:F.2=true->upN F true=F.1+1/\F.1+1<=2^((zf c-w).toNat -3)/\2^((zf c-w).toNat -3)*4<=X/\p+8<=(zf c-w).toNat :=fun h=>by
   obtain⟨h1,h2⟩:=hlow (f4 h).2;have h3:=hFb (f4 h).2;refine⟨by unfold upN;rw[h];rfl,?_,?_,O⟩
   .have h4:2^(zf d-w).toNat <=2^((zf c-w).toNat -3):=q9 OA O;omega
   .have h4:2^((zf c-w).toNat -1)=2^((zf c-w).toNat -3)*4:=by
     rw[show(zf c-w).toNat -1=((zf c-w).toNat -3)+2 by omega,qF]
    omega
  have hUf:F.2=false->upN F true=F.1:=fun h=>by unfold upN;rw[h];rfl
  by_cases hlt:X<upN F true
  .rw[Z4 hlt];simp only;have hFf:F.2=false:=by
    cases hF2:F.2 with
    |false=>rfl
    |true=>obtain⟨u1,u2,u3,_⟩:=hU hF2;omega
   have hUe:=hUf hFf;rw[hUe]at hlt⊢;have hfun:(fun up=>if F.1-X=0/\True then(d0,(0:Int))else zb1 (c.neg != true) (F.1-X) w false p up)=fun up=>zb1 (c.neg != true) (F.1-X) w false p up:=by
    funext up;rw[Z5 fun h=>O]
   rw[hfun];have a1:=zpv (qL hlt) w;have hv:(if c.neg=true then-(vN X w)else vN X w)+(if d.neg=true then-y else y)=if(c.neg != true)=true then-(vN (F.1-X) w)else vN (F.1-X) w:=by
    rw[hval (vN X w-y) rfl,<-a1,f3 hFf];cases c.neg<;>simp<;>grind
   rw[hv];exact zeh hp _ fun h=>O
  .rw[Z5 hlt];simp only;rw[hval (vN X w-y) rfl]
   cases hF2:F.2 with
   |false=>
    have hUe:=hUf hF2;rw[hUe]at hlt⊢;have a1:=zpv (a:=X) (b:=F.1) O w;by_cases hz:X-F.1=0
    .have hfun:(fun up=>if X-F.1=0/\false=false then(d0,(0:Int))else zb1 (c.neg != false) (X-F.1) w false p up)=fun _=>(d0,0):=by
      funext up;rw[Z4 ⟨hz,rfl⟩]
     rw[hfun,f3 hF2,a1,hz,ye];have e0:(if c.neg=true then-(0:Rat)else 0)=0:=by split<;>grind
     rw[e0];refine⟨⟨fun _=>⟨by rw[zl0];exact q3,by rw[zl0];exact .inl (zdf p)⟩,fun z _ h=>⟨rfl,by rw[zl0];exact h⟩⟩,⟨fun _=>⟨by rw[zl0];exact q3,by rw[zl0];exact .inl (zdf p)⟩,fun z _ h=>⟨rfl,by rw[zl0];exact h⟩⟩⟩
    .have hfun:(fun up=>if X-F.1=0/\false=false then(d0,(0:Int))else zb1 (c.neg != false) (X-F.1) w false p up)=fun up=>zb1 (c.neg != false) (X-F.1) w false p up:=by
      funext up;rw[Z5 fun h=>hz h.1]
     rw[hfun,f3 hF2,a1];have e0:(c.neg != false)=c.neg:=by cases c.neg<;>rfl
     rw[e0];exact zeh hp _ fun h=>absurd h hz
   |true=>
    obtain⟨u1,u2,u3,u4⟩:=hU hF2;rw[u1];have a1:=zpv (a:=X) (b:=F.1+1) O w;have a2:=zpv (a:=X) (b:=F.1) O w;have hpos:=q4 ((zf c-w).toNat -3);have hfun:(fun up=>if X-(F.1+1)=0/\true=false then(d0,(0:Int))else zb1 (c.neg != false) (X-(F.1+1)) w true p up)=fun up=>zb1 (c.neg != false) (X-(F.1+1)) w true p up:=by
     funext up;rw[Z5 fun h=>by cases h.2]
    rw[hfun];have e0:(c.neg != false)=c.neg:=by cases c.neg<;>rfl
    rw[e0];have hy1:=(f4 hF2).1;refine zg1 hp _ ?_ ?_ ?_ ?_ ?_ ?_
    .rw[<-a1];grind
    .rw[(O:X-(F.1+1)+1=X-F.1),<-a2];grind
    .intro h;cases h
    .intro _;rw[<-a1];grind
    .intro _;have h5:2^((zf c-w).toNat -3)<=X-(F.1+1):=O;have h6:=(zd8 (n:=X-(F.1+1)) (k:=(zf c-w).toNat -3) O).2 h5;omega
    .intro h;omega
theorem zpg{d:Dy}(h:nm d=0):dv d=0:=by unfold dv;rw[h,ye];split<;>rfl
theorem zkl{a b:Dy}(ha:VD a)(hb:VD b){p:Nat}(hp:8<=p/\p<=512):RT p (dv a+dv b) (fun up=>zdk a b p up):=by
 by_cases a0:nm a=0
 .have h:=jf hb hp;have e:(fun up=>zdk a b p up)=fun up=>ql b p up:=by funext up;unfold zdk;rw[Z4 a0]
  rw[e,zpg a0,Rat.zero_add];exact h
 by_cases b0:nm b=0
 .have h:=jf ha hp;have e:(fun up=>zdk a b p up)=fun up=>ql a p up:=by funext up;unfold zdk;rw[Z5 a0,Z4 b0]
  rw[e,zpg b0,Rat.add_zero];exact h
 have e:(fun up=>zdk a b p up)=fun up=>qg4 (zjf a b) (zjk a b) p up:=by funext up;unfold zdk;rw[Z5 a0,Z5 b0]
 rw[e];by_cases ht:zf a<zf b
 .have e1:zjf a b=b/\zjk a b=a:=by unfold zjf zjk;rw[Z4 ht,Z4 ht];exact⟨rfl,rfl⟩
  rw[e1.1,e1.2,Rat.add_comm];exact qb4 hb ha b0 a0 O hp
 .have e1:zjf a b=a/\zjk a b=b:=by unfold zjf zjk;rw[Z5 ht,Z5 ht];exact⟨rfl,rfl⟩
  rw[e1.1,e1.2];exact qb4 ha hb a0 b0 O hp
def inI(q:Rat)(x:Iv):Prop:=x.all=true\/(dv x.lo<=q/\q<=dv x.hi)
def zud(x y:Iv):Prop:=y.all=true\/(x.all=false/\y.all=false/\dv y.lo<=dv x.lo/\dv x.hi<=dv y.hi)
theorem KI.dle{x:Iv}(k:KI x):dv x.lo<=dv x.hi:=yn.1 k.le
theorem ztp{x:Iv}(h:CI x)(h1:x.all=false)(h2:dv x.lo<=dv x.hi):KI x:=by
 rcases h with rfl|⟨_,a,b⟩
 .cases h1
 .exact⟨h1,a,b,yn.2 h2⟩
theorem zyq{p:Nat}{y y':Rat}{r r':Dy×Int}(h':RU p (fun z=>y'<=z) r')(h:RU p (fun z=>y<=z) r)(hle:y<=y')(h0:r'.2=0):r.2=0/\dv r.1<=dv r'.1:=by
 obtain⟨a,b⟩:=h'.1 h0;exact h.2 _ b (q2 hle a)
theorem kj{a b:Dy×Int}:(ve a b).all =false<->a.2=0/\b.2=0:=by
 unfold ve;split
 .rename_i h;constructor
  .intro c;cases c
  .rintro⟨h1,h2⟩;exact absurd (by simp[h1,h2]) (not_not_intro h)
 .rename_i h;constructor
  .intro _;exact⟨by simp only[not_or,Decidable.not_not]at h;exact h.1,by simp only[not_or,Decidable.not_not]at h;exact h.2⟩
  .intro _;rfl
theorem uj{a b:Dy×Int}(h:(ve a b).all =false):ve a b=⟨a.1,b.1,false⟩:=by
 have:=kj.1 h;unfold ve;rw[Z5 (by simp[this.1,this.2])]
theorem zzy{p:Nat}{y z:Rat}{F G:Bool->Dy×Int}(hF:RT p y F)(hG:RT p z G){q:Rat}(h1:y<=q)(h2:q<=z):inI q (ve (F false) (G true)):=by
 cases h:(ve (F false) (G true)).all with
 |true=>exact .inl h
 |false=>
  obtain⟨e1,e2⟩:=kj.1 h;rw[uj h];exact .inr ⟨q2 (hF.1.1 e1).1 h1,q2 h2 (hG.2.1 e2).1⟩
theorem zsu{p:Nat}{y z:Rat}{F G:Bool->Dy×Int}(hF:RT p y F)(hG:RT p z G)(hc:CI (ve (F false) (G true)))(h:y<=z):VI (ve (F false) (G true)):=by
 cases ha:(ve (F false) (G true)).all with
 |true=>
  rcases hc with hc|⟨h1,_⟩
  .exact .inr hc
  .rw[ha]at h1;cases h1
 |false=>
  refine .inl (ztp hc ha ?_);obtain⟨e1,e2⟩:=kj.1 ha;rw[uj ha];exact q2 (hF.1.1 e1).1 (q2 h (hG.2.1 e2).1)
theorem zjx{x y:Iv}(hx:RI x)(hy:RI y):(kB x&&kB y)=true<->KI x/\KI y:=by rw[Bool.and_eq_true,zq hx,zq hy]
theorem qbw{x:Iv}(h:VI x):x.all=false<->KI x:=by
 rcases h with h|rfl
 .exact⟨fun _=>h,fun _=>h.all⟩
 .exact⟨(fun c=>by cases c),(fun k=>k.all)⟩
theorem zi5(q:Rat):inI q wI0:=.inl rfl
theorem zsb{x y:Iv}(hx:KI x)(hy:KI y){p:Int}(hp:pcB p=true):ym x y p=ve (zdk x.lo y.lo p.toNat false) (zdk x.hi y.hi p.toNat true):=by
 unfold ym;rw[Z4 ⟨(zjx hx.ri hy.ri).2 ⟨hx,hy⟩,hp⟩]
theorem qg2{x y:Iv}(hx:RI x)(hy:RI y){p:Int}(h:¬(KI x/\KI y)):ym x y p=wI0:=by
 unfold ym;rw[Z5 fun c=>h ((zjx hx hy).1 c.1)]
theorem zfb{x y:Iv}(hx:VI x)(hy:VI y){p:Int}(hp:pcB p=true):VI (ym x y p):=by
 by_cases h:KI x/\KI y
 .rw[zsb h.1 h.2 hp];refine zsu (zkl h.1.lo h.2.lo (qe hp)) (zkl h.1.hi h.2.hi (qe hp)) (by rw[<-zsb h.1 h.2 hp];exact zgo _ _ _) ?_;have:=h.1.dle;have:=h.2.dle;grind
 .rw[qg2 hx.ri hy.ri h];exact .inr rfl
theorem zfa{x y:Iv}(hx:VI x)(hy:VI y){p:Int}(hp:pcB p=true){a b:Rat}(ha:inI a x)(hb:inI b y):inI (a+b) (ym x y p):=by
 by_cases h:KI x/\KI y
 .rw[zsb h.1 h.2 hp];rcases ha with ha|ha
  .rw[h.1.all]at ha;cases ha
  rcases hb with hb|hb
  .rw[h.2.all]at hb;cases hb
  exact zzy (zkl h.1.lo h.2.lo (qe hp)) (zkl h.1.hi h.2.hi (qe hp)) (by grind) (by grind)
 .rw[qg2 hx.ri hy.ri h];exact zi5 _
theorem sub_K{x y:Iv}(h:zud x y)(hx:VI x)(hy:KI y):KI x/\dv y.lo<=dv x.lo/\dv x.hi<=dv y.hi:=by
 rcases h with h|⟨h1,_,h3⟩
 .rw[hy.all]at h;cases h
 .exact⟨(qbw hx).1 h1,h3⟩
theorem qcm{x:Iv}(hx:KI x):zge x=⟨zad x.hi,zad x.lo,false⟩:=by unfold zge;rw[Z4 ((zq hx.ri).2 hx)]
theorem qj0{x:Iv}(hx:RI x)(h:¬KI x):zge x=wI0:=by unfold zge;rw[Z5 fun c=>h ((zq hx).1 c)]
theorem zv8{x:Iv}(hx:VI x):VI (zge x):=by
 by_cases h:KI x
 .rw[qcm h];refine .inl ⟨rfl,zaq h.hi,zaq h.lo,yn.2 ?_⟩;simp only[zbm];have:=h.dle;grind
 .rw[qj0 hx.ri h];exact .inr rfl
theorem zv7{x:Iv}(hx:VI x){a:Rat}(ha:inI a x):inI (-a) (zge x):=by
 by_cases h:KI x
 .rw[qcm h];rcases ha with ha|ha
  .rw[h.all]at ha;cases ha
  refine .inr ?_;simp only[zbm];grind
 .rw[qj0 hx.ri h];exact zi5 _
theorem qit{x y:Iv}(hx:VI x)(hy:VI y){p:Int}(hp:pcB p=true):VI (qef x y p):=zfb hx (zv8 hy) hp
theorem qis{x y:Iv}(hx:VI x)(hy:VI y){p:Int}(hp:pcB p=true){a b:Rat}(ha:inI a x)(hb:inI b y):inI (a-b) (qef x y p):=by
 have:=zfa hx (zv8 hy) hp ha (zv7 hy hb)
 rwa [<-Rat.sub_eq_add_neg]at this
def qf2(op:Rat->Rat->Rat)(x y:Iv)(P:Rat->Prop):Prop:=P (op (dv x.lo) (dv y.lo))/\P (op (dv x.lo) (dv y.hi))/\P (op (dv x.hi) (dv y.lo))/\P (op (dv x.hi) (dv y.hi))
def zmh(op:Rat->Rat->Rat)(x y:Iv)(P:Rat->Prop):Prop:=P (op (dv x.lo) (dv y.lo))\/P (op (dv x.lo) (dv y.hi))\/P (op (dv x.hi) (dv y.lo))\/P (op (dv x.hi) (dv y.hi))
structure F4(p:Nat)(op:Rat->Rat->Rat)(dn up:Dy->Dy->Dy×Int)(x y:Iv):Prop where
 rt1:RT p (op (dv x.lo) (dv y.lo)) (fun u=>if u=true then up x.lo y.lo else dn x.lo y.lo)
 rt2:RT p (op (dv x.lo) (dv y.hi)) (fun u=>if u=true then up x.lo y.hi else dn x.lo y.hi)
 rt3:RT p (op (dv x.hi) (dv y.lo)) (fun u=>if u=true then up x.hi y.lo else dn x.hi y.lo)
 rt4:RT p (op (dv x.hi) (dv y.hi)) (fun u=>if u=true then up x.hi y.hi else dn x.hi y.hi)
theorem zoj{dn up:Dy×Int}{o:Iv}{K:Iv->Iv}(h:(stI dn up o K).all =false):dn.2=0/\up.2=0/\∃o':Iv,stI dn up o K=K o'/\o'.all=false/\(o'.lo=dn.1\/o'.lo=o.lo)/\(o'.hi=up.1\/o'.hi=o.hi)/\dv o'.lo<=dv dn.1/\dv o'.lo<=dv o.lo/\dv up.1<=dv o'.hi/\dv o.hi<=dv o'.hi:=by
 unfold stI at h⊢;by_cases he:dn.2≠0\/up.2≠0
 .rw[Z4 he]at h;cases h
 .rw[Z5 he]at h⊢;simp only[not_or,Decidable.not_not]at he;refine⟨he.1,he.2,_,rfl,rfl,?_,?_,?_,?_,?_,?_⟩
  .simp only;split<;>simp
  .simp only;split<;>simp
  .simp only;split
   .exact q3
   .rename_i hc;have:0<=qu dn.1 o.lo:=O;exact zr3.1 this
  .simp only;split
   .rename_i hc;exact yn.1 O
   .exact q3
  .simp only;split
   .exact q3
   .rename_i hc;exact yn.1 O
  .simp only;split
   .rename_i hc;exact zr3.1 O
   .exact q3
theorem znm{dn up:Dy->Dy->Dy×Int}{x y:Iv}(h:(ur dn up x y).all =false):
 ((dn x.lo y.lo).2=0/\(dn x.lo y.hi).2=0/\(dn x.hi y.lo).2=0/\(dn x.hi y.hi).2=0)/\((up x.lo y.lo).2=0/\(up x.lo y.hi).2=0/\(up x.hi y.lo).2=0/\(up x.hi y.hi).2=0)/\
 (∀t:Rat,t<=dv (dn x.lo y.lo).1->t<=dv (dn x.lo y.hi).1->t<=dv (dn x.hi y.lo).1->t<=dv (dn x.hi y.hi).1->t<=dv (ur dn up x y).lo)/\
 (∀t:Rat,dv (up x.lo y.lo).1<=t->dv (up x.lo y.hi).1<=t->dv (up x.hi y.lo).1<=t->dv (up x.hi y.hi).1<=t->dv (ur dn up x y).hi <=t)/\
 (dv (ur dn up x y).lo <=dv (dn x.lo y.lo).1/\dv (ur dn up x y).lo <=dv (dn x.lo y.hi).1/\dv (ur dn up x y).lo <=dv (dn x.hi y.lo).1/\dv (ur dn up x y).lo <=dv (dn x.hi y.hi).1)/\
 (dv (up x.lo y.lo).1<=dv (ur dn up x y).hi /\dv (up x.lo y.hi).1<=dv (ur dn up x y).hi /\dv (up x.hi y.lo).1<=dv (ur dn up x y).hi /\dv (up x.hi y.hi).1<=dv (ur dn up x y).hi):=by
 rw[zrh]at h⊢;by_cases he:(dn x.lo y.lo).2≠0\/(up x.lo y.lo).2≠0
 .unfold s0I at h;rw[Z4 he]at h;cases h
 have e0:∀K,s0I (dn x.lo y.lo) (up x.lo y.lo) K=K ⟨(dn x.lo y.lo).1,(up x.lo y.lo).1,false⟩:=fun K=>by unfold s0I;rw[Z5 he]
 simp only[not_or,Decidable.not_not]at he;rw[e0]at h⊢;obtain⟨a1,a2,o1,a3,_,a5,a6,a7,a8,a9,a10⟩:=zoj h;rw[a3]at h⊢;obtain⟨b1,b2,o2,b3,_,b5,b6,b7,b8,b9,b10⟩:=zoj h;rw[b3]at h⊢;obtain⟨c1,c2,o3,c3,_,c5,c6,c7,c8,c9,c10⟩:=zoj h;rw[c3];simp only at*;refine⟨⟨he.1,a1,b1,c1⟩,⟨he.2,a2,b2,c2⟩,?_,?_,⟨?_,?_,?_,?_⟩,⟨?_,?_,?_,?_⟩⟩
 .intro t t1 t2 t3 t4;rcases c5 with c|c<;>rw[c]
  .exact t4
  .rcases b5 with c|c<;>rw[c]
   .exact t3
   .rcases a5 with c|c<;>rw[c]
    .exact t2
    .exact t1
 .intro t t1 t2 t3 t4;rcases c6 with c|c<;>rw[c]
  .exact t4
  .rcases b6 with c|c<;>rw[c]
   .exact t3
   .rcases a6 with c|c<;>rw[c]
    .exact t2
    .exact t1
 .exact q2 c8 (q2 b8 a8)
 .exact q2 c8 (q2 b8 a7)
 .exact q2 c8 b7
 .exact c7
 .exact q2 a10 (q2 b10 c10)
 .exact q2 a9 (q2 b10 c10)
 .exact q2 b9 c10
 .exact c9
theorem qmf{p:Nat}{op:Rat->Rat->Rat}{dn up:Dy->Dy->Dy×Int}{x y:Iv}(f:F4 p op dn up x y){q:Rat}(h1:zmh op x y (fun z=>z<=q))(h2:zmh op x y (fun z=>q<=z)):inI q (ur dn up x y):=by
 cases ha:(ur dn up x y).all with
 |true=>exact .inl ha
 |false=>
  obtain⟨d,u,_,_,⟨l1,l2,l3,l4⟩,⟨r1,r2,r3,r4⟩⟩:=znm ha;have g1:=(f.rt1.1.1 d.1).1;have g2:=(f.rt2.1.1 d.2.1).1;have g3:=(f.rt3.1.1 d.2.2.1).1;have g4:=(f.rt4.1.1 d.2.2.2).1;have k1:=(f.rt1.2.1 u.1).1;have k2:=(f.rt2.2.1 u.2.1).1;have k3:=(f.rt3.2.1 u.2.2.1).1;have k4:=(f.rt4.2.1 u.2.2.2).1;simp only[if_true,q7,if_false]at g1 g2 g3 g4 k1 k2 k3 k4;refine .inr ⟨?_,?_⟩
  .rcases h1 with h|h|h|h
   .exact q2 l1 (q2 g1 h)
   .exact q2 l2 (q2 g2 h)
   .exact q2 l3 (q2 g3 h)
   .exact q2 l4 (q2 g4 h)
  .rcases h2 with h|h|h|h
   .exact q2 h (q2 k1 r1)
   .exact q2 h (q2 k2 r2)
   .exact q2 h (q2 k3 r3)
   .exact q2 h (q2 k4 r4)
theorem zwb{a b x1 x2:Rat}(h1:x1<=a)(h2:a<=x2):(x1*b<=a*b\/x2*b<=a*b)/\(a*b<=x1*b\/a*b<=x2*b):=by
 by_cases hb:0<=b
 .exact⟨.inl (qw h1 hb),.inr (qw h2 hb)⟩
 .have hb':0<= -b:=by grind
  have e1:=qw h1 hb';have e2:=qw h2 hb';exact⟨.inr (by grind),.inl (by grind)⟩
theorem zlf{a b y1 y2:Rat}(h1:y1<=b)(h2:b<=y2):(a*y1<=a*b\/a*y2<=a*b)/\(a*b<=a*y1\/a*b<=a*y2):=by
 have:=zwb (b:=a) h1 h2;rw[qd y1,qd y2,qd b]at this;exact this
theorem zuh{x y:Iv}{a b:Rat}(h1:dv x.lo<=a)(h2:a<=dv x.hi)(h3:dv y.lo<=b)(h4:b<=dv y.hi):zmh (fun u v=>u*v) x y (fun z=>z<=a*b)/\zmh (fun u v=>u*v) x y (fun z=>a*b<=z):=by
 obtain⟨m1,m2⟩:=zwb (b:=b) h1 h2;obtain⟨l1,l2⟩:=zlf (a:=dv x.lo) h3 h4;obtain⟨u1,u2⟩:=zlf (a:=dv x.hi) h3 h4;unfold zmh;constructor
 .rcases m1 with m|m
  .rcases l1 with l|l
   .exact .inl (q2 l m)
   .exact .inr (.inl (q2 l m))
  .rcases u1 with l|l
   .exact .inr (.inr (.inl (q2 l m)))
   .exact .inr (.inr (.inr (q2 l m)))
 .rcases m2 with m|m
  .rcases l2 with l|l
   .exact .inl (q2 m l)
   .exact .inr (.inl (q2 m l))
  .rcases u2 with l|l
   .exact .inr (.inr (.inl (q2 m l)))
   .exact .inr (.inr (.inr (q2 m l)))
theorem qft(F:Bool->Dy×Int):(fun u=>if u=true then F true else F false)=F:=by funext u;cases u<;>rfl
theorem zgm{p:Nat}{y:Rat}{F:Bool->Dy×Int}(h:RT p y F):RT p y (fun u=>if u=true then F true else F false):=by rw[qft];exact h
theorem qco{x y:Iv}(hx:KI x)(hy:KI y){p:Nat}(hp:8<=p/\p<=512):F4 p (fun u v=>u*v) (fun a b=>kf a b p false) (fun a b=>kf a b p true) x y:=
 ⟨zgm (zb3 hx.lo hy.lo hp),zgm (zb3 hx.lo hy.hi hp),zgm (zb3 hx.hi hy.lo hp),zgm (zb3 hx.hi hy.hi hp)⟩
theorem qcn{x y:Iv}(hx:KI x)(hy:KI y){p:Int}(hp:pcB p=true):za9 x y p=ur (fun a b=>kf a b p.toNat false) (fun a b=>kf a b p.toNat true) x y:=by
 unfold za9;rw[Z4 ⟨(zjx hx.ri hy.ri).2 ⟨hx,hy⟩,hp⟩]
theorem qj6{x y:Iv}(hx:RI x)(hy:RI y){p:Int}(h:¬(KI x/\KI y)):za9 x y p=wI0:=by
 unfold za9;rw[Z5 fun c=>h ((zjx hx hy).1 c.1)]
theorem zm3{x y:Iv}(hx:VI x)(hy:VI y){p:Int}(hp:pcB p=true){a b:Rat}(ha:inI a x)(hb:inI b y):inI (a*b) (za9 x y p):=by
 by_cases h:KI x/\KI y
 .rw[qcn h.1 h.2 hp];rcases ha with ha|ha
  .rw[h.1.all]at ha;cases ha
  rcases hb with hb|hb
  .rw[h.2.all]at hb;cases hb
  obtain⟨s1,s2⟩:=zuh ha.1 ha.2 hb.1 hb.2;exact qmf (qco h.1 h.2 (qe hp)) s1 s2
 .rw[qj6 hx.ri hy.ri h];exact zi5 _
theorem za3{x:Iv}(h:CI x){q:Rat}(hq:inI q x):VI x:=by
 cases ha:x.all with
 |true=>
  rcases h with h|⟨h1,_⟩
  .exact .inr h
  .rw[ha]at h1;cases h1
 |false=>
  rcases hq with hq|hq
  .rw[ha]at hq;cases hq
  .exact .inl (ztp h ha (q2 hq.1 hq.2))
theorem zjd{x:Iv}(h:VI x):inI (dv x.lo) x:=by
 rcases h with k|rfl
 .exact .inr ⟨q3,k.dle⟩
 .exact zi5 _
theorem zm4{x y:Iv}(hx:VI x)(hy:VI y){p:Int}(hp:pcB p=true):VI (za9 x y p):=za3 (zyw x y p) (zm3 hx hy hp (zjd hx) (zjd hy))
theorem zhr{y:Iv}(hy:KI y):zoo y≠0<->(0<dv y.lo\/dv y.hi<0):=by
 have h1:=(kg y.lo).2.1;have h2:=(kg y.hi).1;unfold zoo;rw[Z4 ((zq hy.ri).2 hy)];by_cases c1:0<wy y.lo
 .rw[Z4 c1];exact⟨fun _=>.inl (h1.1 c1),fun _=>OA⟩
 .rw[Z5 c1];by_cases c2:wy y.hi<0
  .rw[Z4 c2];exact⟨fun _=>.inr (h2.1 c2),fun _=>OA⟩
  .rw[Z5 c2];exact⟨fun c=>absurd rfl c,fun c=>by rcases c with c|c;exact absurd (h1.2 c) c1;exact absurd (h2.2 c) c2⟩
theorem zpd{a b c:Rat}(h:0<a\/c<0)(h1:a<=b)(h2:b<=c):c⁻¹ <=b⁻¹ /\b⁻¹ <=a⁻¹ :=by
 have key:∀u v:Rat,0<u->u<=v->v⁻¹ <=u⁻¹ :=fun u v hu huv=>by
  have hv:0<v:=by grind
  have hi:0<u⁻¹ :=by have:=qT.2 hu;exact this
  have hj:0<v⁻¹ :=by have:=qT.2 hv;exact this
  have e1:v*v⁻¹ =1:=qK v (by grind);have e2:u*u⁻¹ =1:=qK u (by grind);have h3:u*v⁻¹ <=v*v⁻¹ :=qw huv (q6 hj);rw[e1,<-e2]at h3;have h4:v⁻¹ *u<=u⁻¹ *u:=by rw[qd v⁻¹,qd u⁻¹];exact h3
  exact zd2 h4 hu
 rcases h with h|h
 .exact⟨key b c (by grind) h2,key a b h h1⟩
 .have k1:=key (-c) (-b) (by grind) (by grind);have k2:=key (-b) (-a) (by grind) (by grind);have e:∀u:Rat,(-u)⁻¹ = -(u⁻¹):=fun u=>by grind
  rw[e,e]at k1 k2;constructor<;>grind
theorem zui{x y:Iv}{a b:Rat}(hs:0<dv y.lo\/dv y.hi<0)(h1:dv x.lo<=a)(h2:a<=dv x.hi)(h3:dv y.lo<=b)(h4:b<=dv y.hi):zmh (fun u v=>u/v) x y (fun z=>z<=a/b)/\zmh (fun u v=>u/v) x y (fun z=>a/b<=z):=by
 obtain⟨i1,i2⟩:=zpd hs h3 h4;obtain⟨m1,m2⟩:=zwb (b:=b⁻¹) h1 h2;obtain⟨l1,l2⟩:=zlf (a:=dv x.lo) i1 i2;obtain⟨u1,u2⟩:=zlf (a:=dv x.hi) i1 i2;have e:∀u v:Rat,u/v=u*v⁻¹ :=fun u v=>Rat.div_def u v
 unfold zmh;simp only[e];constructor
 .rcases m1 with m|m
  .rcases l1 with l|l
   .exact .inr (.inl (q2 l m))
   .exact .inl (q2 l m)
  .rcases u1 with l|l
   .exact .inr (.inr (.inr (q2 l m)))
   .exact .inr (.inr (.inl (q2 l m)))
 .rcases m2 with m|m
  .rcases l2 with l|l
   .exact .inr (.inl (q2 m l))
   .exact .inl (q2 m l)
  .rcases u2 with l|l
   .exact .inr (.inr (.inr (q2 m l)))
   .exact .inr (.inr (.inl (q2 m l)))
theorem qaa{d:Dy}(h:dv d≠0):nm d≠0:=fun c=>h (zpg c)
theorem zrt{x y:Iv}(hx:KI x)(hy:KI y)(hs:0<dv y.lo\/dv y.hi<0){p:Nat}(hp:8<=p/\p<=512):F4 p (fun u v=>u/v) (fun a b=>ut a b p false) (fun a b=>ut a b p true) x y:=by
 have hl:nm y.lo≠0:=qaa (by have:=hy.dle;grind);have hh:nm y.hi≠0:=qaa (by have:=hy.dle;grind);exact⟨zgm (znz hx.lo hy.lo hl hp),zgm (znz hx.lo hy.hi hh hp),zgm (znz hx.hi hy.lo hl hp),zgm (znz hx.hi hy.hi hh hp)⟩
theorem zl1{x y:Iv}(hx:KI x)(hy:KI y)(hs:0<dv y.lo\/dv y.hi<0){p:Int}(hp:pcB p=true):xt x y p=ur (fun a b=>ut a b p.toNat false) (fun a b=>ut a b p.toNat true) x y:=by
 unfold xt;rw[Z4 ⟨(zjx hx.ri hy.ri).2 ⟨hx,hy⟩,hp,(zhr hy).2 hs⟩]
theorem zxs{x y:Iv}(hx:RI x)(hy:RI y){p:Int}(h:¬(KI x/\KI y/\(0<dv y.lo\/dv y.hi<0))):xt x y p=wI0:=by
 unfold xt;rw[Z5 fun c=>?_];obtain⟨k1,k2⟩:=(zjx hx hy).1 c.1;exact h ⟨k1,k2,(zhr k2).1 c.2.2⟩
theorem zf3{x y:Iv}(hx:VI x)(hy:VI y){p:Int}(hp:pcB p=true){a b:Rat}(ha:inI a x)(hb:inI b y):inI (a/b) (xt x y p):=by
 by_cases h:KI x/\KI y/\(0<dv y.lo\/dv y.hi<0)
 .rw[zl1 h.1 h.2.1 h.2.2 hp];rcases ha with ha|ha
  .rw[h.1.all]at ha;cases ha
  rcases hb with hb|hb
  .rw[h.2.1.all]at hb;cases hb
  obtain⟨s1,s2⟩:=zui h.2.2 ha.1 ha.2 hb.1 hb.2;exact qmf (zrt h.1 h.2.1 h.2.2 (qe hp)) s1 s2
 .rw[zxs hx.ri hy.ri h];exact zi5 _
theorem zcz{x y:Iv}(hx:VI x)(hy:VI y){p:Int}(hp:pcB p=true):VI (xt x y p):=za3 (qdq x y p) (zf3 hx hy hp (zjd hx) (zjd hy))
theorem zks{x:Iv}(hx:KI x)(hs:0<dv x.lo){p:Int}(hp:pcB p=true):xw x p=ve (kp x.lo p.toNat false) (kp x.hi p.toNat true):=by
 unfold xw;rw[Z4 ⟨(zq hx.ri).2 hx,hp,(kg x.lo).2.1.2 hs⟩]
theorem zuf{x:Iv}(hx:RI x){p:Int}(h:¬(KI x/\0<dv x.lo)):xw x p=wI0:=by
 unfold xw;rw[Z5 fun c=>h ⟨(zq hx).1 c.1,(kg x.lo).2.1.1 c.2.2⟩]
theorem yc{d:Dy}(h:0<dv d):d.neg=false/\nm d≠0:=by
 refine⟨zvr ((kg d).2.1.2 h),qaa (by grind)⟩
theorem zug{x:Iv}(hx:VI x){p:Int}(hp:pcB p=true):VI (xw x p):=by
 by_cases h:KI x/\0<dv x.lo
 .have hh:0<dv x.hi:=by have:=h.1.dle;grind
  obtain⟨n1,n2⟩:=yc h.2;obtain⟨n3,n4⟩:=yc hh;have l:=(xf n1 (qe hp) n2).1;have u:=(xf n3 (qe hp) n4).2;have hc:=zyv x p;rw[zks h.1 h.2 hp]at hc⊢
  cases ha:(ve (kp x.lo p.toNat false) (kp x.hi p.toNat true)).all with
  |true=>
   rcases hc with hc|⟨h1,_⟩
   .exact .inr hc
   .rw[ha]at h1;cases h1
  |false=>
   obtain⟨e1,e2⟩:=kj.1 ha;refine .inl (ztp hc ha ?_);rw[uj ha];have hl:=(l.1 e1).1;have hu:=(u.1 e2).1;simp only;rcases hl with hl|hl
   .exact q2 hl hu.1
   .exact zga hu.1 (q2 hl (q2 h.1.dle hu.2))
 .rw[zuf hx.ri h];exact .inr rfl
theorem zzj{x x':Iv}(hx:VI x)(hx':VI x'){p:Int}(hp:pcB p=true)(h1:zud x x'):zud (xw x p) (xw x' p):=by
 by_cases h:KI x'/\0<dv x'.lo
 .obtain⟨kx,a1,a2⟩:=sub_K h1 hx h.1;have ex:=kx.dle;have hp1:0<dv x.lo:=by grind
  have hp2:0<dv x.hi:=by grind
  have hp3:0<dv x'.hi:=by grind
  obtain⟨n1,n2⟩:=yc hp1;obtain⟨n3,n4⟩:=yc hp2;obtain⟨n5,n6⟩:=yc h.2;obtain⟨n7,n8⟩:=yc hp3;have l:=(xf n1 (qe hp) n2).1;have u:=(xf n3 (qe hp) n4).2;have l':=(xf n5 (qe hp) n6).1;have u':=(xf n7 (qe hp) n8).2;rw[zks h.1 h.2 hp,zks kx hp1 hp]
  cases ha:(ve (kp x'.lo p.toNat false) (kp x'.hi p.toNat true)).all with
  |true=>exact .inl ha
  |false=>
   obtain⟨e1,e2⟩:=kj.1 ha;obtain⟨v1,v2⟩:=l'.1 e1;obtain⟨w1,w2⟩:=u'.1 e2;obtain⟨b1,b2⟩:=l.2 _ v2 (v1.imp id fun c=>q2 c a1);obtain⟨c1,c2⟩:=u.2 _ w2 ⟨w1.1,q2 a2 w1.2⟩;have hb:=kj.2 ⟨b1,c1⟩;rw[uj ha,uj hb];exact .inr ⟨rfl,rfl,b2,c2⟩
 .rw[zuf hx'.ri h];exact .inl rfl
def zg(q:Rat):Rat:=if q<0 then-q else q
theorem zw(q:Rat):0<=zg q:=by unfold zg;split<;>grind
theorem zrp(d:Dy):dv (zcc d)=zg (dv d):=by
 have h:dv (zcc d)=vN (nm d) d.e:=rfl;rw[h];have h2:=zb8 (nm d) d.e;unfold dv zg
 cases d.neg with
 |true=>simp only[if_true];split<;>grind
 |false=>simp only[q7,if_false];split<;>grind
theorem zcq(a b:Dy):dv (yk a b)<=dv a/\dv (yk a b)<=dv b/\(yk a b=a\/yk a b=b):=by
 unfold yk;split
 .rename_i h;exact⟨q3,yn.1 h,.inl rfl⟩
 .rename_i h;exact⟨zr3.1 O,q3,.inr rfl⟩
theorem xi(a b:Dy):dv a<=dv (yi a b)/\dv b<=dv (yi a b)/\(yi a b=a\/yi a b=b):=by
 unfold yi;split
 .rename_i h;exact⟨q3,zr3.1 h,.inl rfl⟩
 .rename_i h;exact⟨yn.1 O,q3,.inr rfl⟩
theorem ziz{x:Iv}(k:KI x){a:Rat}(h1:dv x.lo<=a)(h2:a<=dv x.hi):0<=dv (zc8 x)/\dv (zc8 x)<=zg a/\zg a<=dv (kr x):=by
 obtain⟨m1,m2,_⟩:=xi (zcc x.lo) (zcc x.hi);obtain⟨l1,l2,l3⟩:=zcq (zcc x.lo) (zcc x.hi);rw[zrp]at m1 l1;rw[zrp]at m2 l2;have hs:=zhr k;have n1:=zw (dv x.lo);have n2:=zw (dv x.hi);have hm:kr x=yi (zcc x.lo) (zcc x.hi):=rfl;rw[hm];have hmag:zg a<=dv (yi (zcc x.lo) (zcc x.hi)):=by
  have e1: -(dv x.lo)<=zg (dv x.lo):=by unfold zg;split<;>grind
  have e2:dv x.hi<=zg (dv x.hi):=by unfold zg;split<;>grind
  unfold zg at*;grind
 unfold zc8;by_cases h0:zoo x=0
 .rw[Z4 h0,zl0];exact⟨q3,zw a,hmag⟩
 .rw[Z5 h0];refine⟨?_,?_,hmag⟩
  .rcases l3 with e|e<;>rw[e,zrp]
   .exact n1
   .exact n2
  .rcases hs.1 h0 with c|c
   .have e1:zg (dv x.lo)=dv x.lo:=by unfold zg;rw[Z5 (by grind)]
    have e2:zg a=a:=by unfold zg;rw[Z5 (by grind)]
    rw[e1]at l1;rw[e2];exact q2 l1 h1
   .have e1:zg (dv x.hi)= -(dv x.hi):=by unfold zg;rw[Z4 c]
    have e2:zg a= -a:=by unfold zg;rw[Z4 (by grind)]
    rw[e1]at l2;rw[e2];grind
def rpw(q:Rat):Nat->Rat
 |0=>1
 |n+1=>rpw q n*q
theorem zqf{q:Rat}(h:0<=q):∀n,0<=rpw q n
 |0=>by show(0:Rat)<=1;decide
 |n+1=>qC (zqf h n) h
theorem za0{a b c d:Rat}(h0:0<=a)(h1:a<=b)(h2:0<=c)(h3:c<=d):a*c<=b*d:=by
 have e1:a*c<=b*c:=qw h1 h2;have e2:c*b<=d*b:=qw h3 (by grind);rw[qd c,qd d]at e2;exact q2 e1 e2
theorem zhs(q:Rat):∀n,rpw (-q) n=if n % 2=0 then rpw q n else-(rpw q n)
 |0=>rfl
 |n+1=>by
  simp only[rpw];rw[zhs q n];by_cases h:n % 2=0
  .rw[Z4 h,Z5 O];grind
  .rw[Z5 h,Z4 O];grind
theorem zbf{d:Dy}{p:Nat}{up:Bool}:∀ {k:Nat}{r:Dy×Int},(zam d p up k r).2=0->r.2=0
 |0,_,h=>h
 |k+1,r,h=>by
  simp only[zam]at h;split at h
  .assumption
  .exact h
theorem zqq{p:Nat}(hp:8<=p/\p<=512){d d':Dy}(hd:VD d)(hd':VD d')(h0:0<=dv d)(hle:dv d<=dv d'):∀k(r r':Dy×Int),VD r.1->VD r'.1->r.2=0->0<=dv r.1->dv r.1<=dv r'.1->(zam d' p true k r').2=0->
 (zam d p true k r).2=0/\0<=dv (zam d p true k r).1/\dv (zam d p true k r).1<=dv (zam d' p true k r').1
 |0,r,r',_,_,e,n,l,_=>⟨e,n,l⟩
 |k+1,r,r',v,v',e,n,l,e'=>by
  have er:=zbf e';simp only[zam]at e'⊢;rw[Z4 er]at e'⊢;rw[Z4 e];have m:=(zb3 v hd hp).2;have m':=(zb3 v' hd' hp).2;have z0:0<=dv r.1*dv d:=qC n h0;have zz:=za0 n l h0 hle;have e2:=zbf e';obtain⟨g1,g2⟩:=zyq m' m zz e2;have g3:=(m.1 g1).1;exact zqq hp hd hd' h0 hle k _ _ (uc _ _ _ _ hp) (uc _ _ _ _ hp) g1 (q2 z0 g3) g2 e'
theorem zvp{p n:Nat}(hp:8<=p/\p<=512){d d':Dy}(hd:VD d)(hd':VD d')(h0:0<=dv d)(hle:dv d<=dv d')(he:(zej d' n p true).2=0):
 (zej d n p true).2=0/\0<=dv (zej d n p true).1/\dv (zej d n p true).1<=dv (zej d' n p true).1:=by
 have m:=(jf hd hp).2;have m':=(jf hd' hp).2;have e1:=zbf he;obtain⟨g1,g2⟩:=zyq m' m hle e1;have g3:=(m.1 g1).1;exact zqq hp hd hd' h0 hle _ _ _ (wk _ _ _ hp) (wk _ _ _ hp) g1 (q2 h0 g3) g2 he
theorem zh1{p:Nat}(hp:8<=p/\p<=512){d:Dy}(hd:VD d)(h0:0<=dv d){q:Rat}(hq:dv d<=q):∀k j(r:Dy×Int),VD r.1->r.2=0->0<=dv r.1->dv r.1<=rpw q j->dv (zam d p false k r).1<=rpw q (j+k)
 |0,j,r,_,_,_,l=>l
 |k+1,j,r,v,e,n,l=>by
  simp only[zam];rw[Z4 e];have m:=(zb3 v hd hp).1;have z0:0<=dv r.1*dv d:=qC n h0;obtain⟨f1,f2⟩:=m.2 0 (.inl (zdf p)) z0;have f3:=(m.1 f1).1;have:=zh1 hp hd h0 hq k (j+1) _ (uc _ _ _ _ hp) f1 f2 (q2 f3 (za0 n l h0 hq))
  rwa [(O:j+1+k=j+(k+1))]at this
theorem zjq{p n:Nat}(hp:8<=p/\p<=512)(hn:1<=n){d:Dy}(hd:VD d)(h0:0<=dv d){q:Rat}(hq:dv d<=q):dv (zej d n p false).1<=rpw q n:=by
 have m:=(jf hd hp).1;obtain⟨f1,f2⟩:=m.2 0 (.inl (zdf p)) h0;have f3:=(m.1 f1).1;have:=zh1 hp hd h0 hq (n-1) 1 _ (wk _ _ _ hp) f1 f2 (by simp only[rpw];rw[qN];exact q2 f3 hq)
 rwa [(O:1+(n-1)=n)]at this
theorem zh0{p:Nat}(hp:8<=p/\p<=512){d:Dy}(hd:VD d){q:Rat}(h0:0<=q)(hq:q<=dv d):∀k j(r:Dy×Int),VD r.1->rpw q j<=dv r.1->(zam d p true k r).2=0->rpw q (j+k)<=dv (zam d p true k r).1
 |0,j,r,_,l,_=>l
 |k+1,j,r,v,l,e=>by
  have er:=zbf e;simp only[zam]at e⊢;rw[Z4 er]at e⊢;have m:=(zb3 v hd hp).2;have f3:=(m.1 (zbf e)).1;have:=zh0 hp hd h0 hq k (j+1) _ (uc _ _ _ _ hp) (q2 (za0 (zqf h0 j) l h0 hq) f3) e
  rwa [(O:j+1+k=j+(k+1))]at this
theorem zjp{p n:Nat}(hp:8<=p/\p<=512)(hn:1<=n){d:Dy}(hd:VD d){q:Rat}(h0:0<=q)(hq:q<=dv d)(he:(zej d n p true).2=0):rpw q n<=dv (zej d n p true).1:=by
 have m:=(jf hd hp).2;have f3:=(m.1 (zbf he)).1;have:=zh0 hp hd h0 hq (n-1) 1 _ (wk _ _ _ hp) (by simp only[rpw];rw[qN];exact q2 hq f3) he
 rwa [(O:1+(n-1)=n)]at this
theorem zxm{d:Dy}{n p:Nat}{up:Bool}(h:dv d<0):ze5 d n p up=(zad (zej (zad d) n p (!up)).1,(zej (zad d) n p (!up)).2):=by
 unfold ze5;rw[Z4 ((kg d).1.2 h)]
theorem zxl{d:Dy}{n p:Nat}{up:Bool}(h:0<=dv d):ze5 d n p up=zej d n p up:=by
 unfold ze5;rw[Z5 fun c=>by have:=(kg d).1.1 c;grind]
theorem zxn{p n:Nat}(hp:8<=p/\p<=512)(hn:1<=n){d:Dy}(hd:VD d){q:Rat}(hq:dv d<=q)(hpar:n % 2=1\/0<=dv d)(he:(ze5 d n p false).2=0):dv (ze5 d n p false).1<=rpw q n:=by
 by_cases c:dv d<0
 .rw[zxm c]at he⊢;have hodd:n % 2=1:=hpar.elim id fun h=>absurd c (by grind)
  have hz:0<=dv (zad d):=by rw[zbm];grind
  simp only[zbm,Bool.not_false]at he⊢;by_cases cq:q<0
  .have:=zjp hp hn (zaq hd) (q:= -q) (by grind) (by rw[zbm];grind) he;rw[zhs,Z5 O]at this;grind
  .obtain⟨_,a3,_⟩:=zvp (n:=n) hp (zaq hd) (zaq hd) hz q3 he;have:=zqf (q:=q) (by grind) n;grind
 .rw[zxl (by grind)];exact zjq hp hn hd (by grind) hq
theorem zxk{p n:Nat}(hp:8<=p/\p<=512)(hn:1<=n){d:Dy}(hd:VD d){q:Rat}(hq:q<=dv d)(hpar:n % 2=1\/0<=q)(he:(ze5 d n p true).2=0):rpw q n<=dv (ze5 d n p true).1:=by
 by_cases c:dv d<0
 .have hodd:n % 2=1:=hpar.elim id fun h=>absurd c (by grind)
  rw[zxm c];simp only[zbm,Bool.not_true];have:=zjq (n:=n) hp hn (zaq hd) (by rw[zbm];grind) (q:= -q) (by rw[zbm];grind);rw[zhs,Z5 O]at this;grind
 .have h0:0<=dv d:=by grind
  rw[zxl h0]at he⊢;by_cases cq:q<0
  .have hodd:n % 2=1:=hpar.elim id fun h=>absurd cq (by grind)
   obtain⟨_,a3,_⟩:=zvp (n:=n) hp hd hd h0 q3 he;have h1:=zqf (q:= -q) (by grind) n;rw[zhs,Z5 O]at h1;grind
  .exact zjp hp hn hd (by grind) hq he
theorem qg5{x:Iv}(k:KI x):KI (zyh x):=by
 rw[zsc ((zq k.ri).2 k)];have h:=ziz k (a:=dv x.lo) q3 k.dle;exact⟨rfl,zgk k,zb7 k,yn.2 (q2 h.2.1 h.2.2)⟩
theorem qjo{x:Iv}(k:KI x){n p:Int}(hp:pcB p=true)(hn:0<=n/\n<=16):zl7 x n p=if n=0 then qc (wx 1)else pwK (if n % 2=0 then zyh x else x) n.toNat p.toNat:=by
 unfold zl7;rw[Z4 ⟨(zq k.ri).2 k,hp,hn⟩]
theorem pow_w{x:Iv}(hx:RI x){n p:Int}(h:¬KI x):zl7 x n p=wI0:=by
 unfold zl7;rw[Z5 fun c=>h ((zq hx).1 c.1)]
theorem je(n:Int):dv (wx n)=(n:Rat):=by
 unfold wx;rw[zkf];have hv:vN n.natAbs 0=((n.natAbs:Nat):Rat):=by
  unfold vN;have:pw 0=1:=by have:=wa 0;simpa using this
  rw[this,Rat.mul_one]
 rw[hv];by_cases h:n<0
 .rw[Z6 h,Z4 rfl];have e:n= -(n.natAbs:Int):=O;conv=>rhs;rw[e]
  rw[qP,qn]
 .rw[Z7 h,Z5 OA];have e:n=(n.natAbs:Int):=O;conv=>rhs;rw[e]
  rw[qn]
theorem qjl{y:Iv}(k:KI y){n p:Nat}(hp:8<=p/\p<=512)(hn:1<=n){q:Rat}(h1:dv y.lo<=q)(h2:q<=dv y.hi)(hpar:n % 2=1\/0<=dv y.lo):inI (rpw q n) (pwK y n p):=by
 unfold pwK
 cases ha:(ve (ze5 y.lo n p false) (ze5 y.hi n p true)).all with
 |true=>exact .inl ha
 |false=>
  obtain⟨e1,e2⟩:=kj.1 ha;rw[uj ha];exact .inr ⟨zxn hp hn k.lo h1 hpar e1,zxk hp hn k.hi h2 (hpar.imp id fun c=>q2 c h1) e2⟩
theorem zvn{x:Iv}(hx:VI x){n p:Int}(hp:pcB p=true)(hn:0<=n/\n<=16){q:Rat}(hq:inI q x):inI (rpw q n.toNat) (zl7 x n p):=by
 by_cases k:KI x
 .rw[qjo k hp hn];rcases hq with hq|hq
  .rw[k.all]at hq;cases hq
  by_cases h0:n=0
  .subst h0;rw[Z4 rfl];refine .inr ⟨?_,?_⟩
   .show dv (wx 1)<=1;rw[je];decide
   .show 1<=dv (wx 1);rw[je];decide
  .rw[Z5 h0];by_cases he:n % 2=0
   .rw[Z4 he];have ka:=qg5 k;have ha:=ziz k hq.1 hq.2;have e:zyh x=⟨zc8 x,kr x,false⟩:=zsc ((zq k.ri).2 k);have hr:rpw (zg q) n.toNat=rpw q n.toNat:=by
     unfold zg;split
     .rw[zhs,Z4 O]
     .rfl
    rw[<-hr];refine qjl ka (qe hp) O ?_ ?_ (.inr ?_)
    .rw[e];exact ha.2.1
    .rw[e];exact ha.2.2
    .rw[e];exact ha.1
   .rw[Z5 he];exact qjl k (qe hp) O hq.1 hq.2 (.inl O)
 .rw[pow_w hx.ri k];exact zi5 _
theorem qjp{x:Iv}(hx:VI x){n p:Int}(hp:pcB p=true):VI (zl7 x n p):=by
 by_cases hn:0<=n/\n<=16
 .exact za3 (qdp x n p) (zvn hx hp hn (zjd hx))
 .have:zl7 x n p=wI0:=by unfold zl7;rw[Z5 fun c=>hn c.2.2]
  rw[this];exact .inr rfl
