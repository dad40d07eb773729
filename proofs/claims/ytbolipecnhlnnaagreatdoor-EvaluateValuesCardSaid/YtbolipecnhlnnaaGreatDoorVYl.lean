/- Rounding as a law of rational numbers: the greatest number of p bits below a number, the least one above it. -/
import Derived.Test.YtbolipecnhlnnaaGreatDoorVYz
set_option linter.all false
open Bool renaming false_eq_true->q5,and_false->qC,and_self->qO
open Nat renaming two_pow_pos->q2,pow_le_pow_right->q7,lt_of_lt_of_le->qB,pow_add->qD,le_div_iff_mul_le->qF,pos_of_ne_zero->qH,le_of_lt->qJ,div_add_mod'->qK,mul_ne_zero->qM,succ_mul->qQ,not_le->qS,mod_lt->qT,not_lt->qU
open Rat renaming le_trans->q0,le_refl->q1,not_le->q3,le_of_lt->q4,intCast_lt_intCast->q6,mul_comm->q8,intCast_natCast->q9,mul_lt_mul_of_pos_right->qd,not_lt->qn,mul_nonneg->qA,lt_irrefl->qE,neg_neg->qG,mul_inv_cancel->qI,one_mul->qL,intCast_neg->qN,zero_mul->qP,inv_pos->qR
namespace Go.Proofs.YtbolipecnhlnnaaGreatDoor
open Go Go.Sx
set_option maxHeartbeats 2000000
def pw(e:Int):Rat:=(2:Rat)^e
theorem pwA(a b:Int):pw (a+b)=pw a*pw b:=Rat.zpow_add OA a b
theorem zd0(e:Int):0<pw e:=Rat.zpow_pos OA
theorem zca(k:Nat):pw (k:Int)=((2^k:Nat):Rat):=by
 unfold pw;rw[Rat.zpow_natCast,Rat.natCast_pow];rfl
theorem zwa{a b:Nat}:(a:Rat)<=(b:Rat)<->a<=b:=Rat.natCast_le_natCast
theorem zq4(a b:Nat):((a*b:Nat):Rat)=a*b:=Rat.natCast_mul a b
theorem qag(a b:Nat):((a+b:Nat):Rat)=a+b:=Rat.natCast_add a b
theorem zv9(a:Nat):(0:Rat)<=a:=Rat.natCast_nonneg
theorem qch{a b c:Rat}(h1:a<b)(h2:b<=c):a<c:=by grind
theorem qv{a b c:Rat}(h:a<=b)(hc:0<=c):a*c<=b*c:=Rat.mul_le_mul_of_nonneg_right h hc
theorem zef{a b c:Rat}(h:a*c<=b*c)(hc:0<c):a<=b:=Rat.le_of_mul_le_mul_right h hc
def vN(n:Nat)(e:Int):Rat:=(n:Rat)*pw e
theorem yk{a b:Nat}{e:Int}:vN a e<=vN b e<->a<=b:=by
 unfold vN;constructor
 .intro h;exact zwa.1 (zef h (zd0 e))
 .intro h;exact qv (zwa.2 h) (q4 (zd0 e))
theorem zky{a b:Nat}{e:Int}:vN a e<vN b e<->a<b:=by
 have h1:=yk (a:=b) (b:=a) (e:=e);constructor
 .intro h;exact qS.1 fun c=>qn.2 (h1.2 c) h
 .intro h;exact q3.1 fun c=>by have:=h1.1 c;omega
theorem zbg(n k:Nat)(e:Int):vN (n*2^k) e=vN n (e+k):=by
 unfold vN;rw[pwA,zca,zq4,Rat.mul_assoc,q8 (pw e)]
theorem yb(n:Nat)(e u:Int)(h:u<=e):vN n e=vN (n*2^(e-u).toNat) u:=by
 rw[zbg];congr 1;omega
theorem zdq(n:Nat)(e:Int):0<=vN n e:=qA (zv9 n) (q4 (zd0 e))
theorem uz(e:Int):vN 0 e=0:=by unfold vN;rw[show((0:Nat):Rat)=0 from rfl,qP]
theorem zp9(e:Int):vN 1 e=pw e:=by unfold vN;rw[show((1:Nat):Rat)=1 from rfl,qL]
theorem zgb(k:Nat)(e:Int):vN (2^k) e=pw (e+k):=by
 have:=zbg 1 k e;rw[Nat.one_mul]at this;rw[this,zp9]
theorem zf1{a b:Int}:pw a<=pw b<->a<=b:=by
 have key:∀ {a b:Int},a<=b->pw a<=pw b:=fun {a b}h=>by
  rw[<-zp9 a,<-zp9 b,yb 1 b a h,yk];have:=q2 (b-a).toNat;omega
 constructor
 .intro h;refine Int.not_lt.1 fun c=>?_
  have h1:pw (b+1)<=pw a:=key O;have h2:pw (b+1)=pw b*2:=by rw[pwA];congr 1
  have h3:=zd0 b;grind
 .exact key
def dv(d:Dy):Rat:=if d.neg=true then-(vN (nm d) d.e)else vN (nm d) d.e
theorem zfp(neg:Bool)(n:Nat)(e:Int):dv (cnN neg n e)=if neg=true then-(vN n e)else vN n e:=by
 by_cases h:n=0
 .subst h;have e1:cnN neg 0 e=d0:=by unfold cnN;rw[Z4 rfl]
  rw[e1,uz];unfold dv;rw[Z5 OA,zv5,uz];split<;>rfl
 .obtain⟨m,hm,hm1,hm2,_⟩:=zen h;have hc:cnN neg n e=⟨neg,toL m,e+tz n⟩:=by unfold cnN;rw[Z5 h,hm2]
  have hv:vN n e=vN m (e+tz n):=by
   conv=>lhs;rw[hm]
   exact zbg m (tz n) e
  unfold dv;rw[hc,xu,hv]
def inF(p:Nat)(z:Rat):Prop:=∃(k:Nat)(u:Int),z=vN k u/\k<=2^p/\ -16384<=u/\z<pw 16384
theorem zb2{n:Nat}{e t:Int}(h:(bl n:Int)+e<=t):vN n e<pw t:=by
 have h1:vN n e<vN (2^bl n) e:=zky.2 (zbb n);rw[zgb]at h1;exact qch h1 (zf1.2 O)
theorem yc{n:Nat}{e t:Int}(h:t<(bl n:Int)+e)(hn:n≠0):pw t<=vN n e:=by
 have h0:bl n≠0:=fun c=>hn (uj.1 c)
 have h1:2^(bl n-1)<=n:=(xj hn).1 O;have h2:vN (2^(bl n-1)) e<=vN n e:=yk.2 h1;rw[zgb]at h2;exact q0 (zf1.2 O) h2
theorem zmq(m:Nat)(e p:Int):unN m e p=e+bl m-p\/(unN m e p= -16384/\e+bl m-p<= -16384):=by unfold unN;omega
theorem grid{p:Nat}{k:Nat}{u w:Int}(hk:k<=2^p):(w<=u/\∃j:Nat,vN k u=vN j w)\/(u<w/\vN k u<=pw (w+p-1)):=by
 by_cases h:w<=u
 .exact .inl ⟨h,_,yb k u w h⟩
 .refine .inr ⟨O,?_⟩;have h1:vN k u<=vN (2^p) u:=yk.2 hk;rw[zgb]at h1;exact q0 h1 (zf1.2 O)
theorem zis{m:Nat}{e:Int}{more:Bool}{u:Int}(h:¬u<=e):vN (jh m e more u).1 u<=vN m e/\vN (m+1) e<=vN ((jh m e more u).1+1) u/\((jh m e more u).2=false->more=false/\vN (jh m e more u).1 u=vN m e)/\((jh m e more u).2=true->more=true\/¬vN m e<=vN (jh m e more u).1 u):=by
 unfold jh;rw[Z5 h];simp only;have hk:=q2 (u-e).toNat;have e1:∀n,vN n u=vN (n*2^(u-e).toNat) e:=fun n=>yb n u e O
 have h1:=qK m (2^(u-e).toNat);have h2:=qT m hk;rw[e1,e1,yk,yk,qQ];refine⟨O,O,?_,?_⟩
 .intro h3;simp only[Bool.or_eq_false_iff,Z3,Decidable.not_not]at h3;refine⟨h3.1,?_⟩
  congr 1;omega
 .intro h3;simp only[Bool.or_eq_true,Z2]at h3;refine h3.imp id fun h4=>?_
  rw[yk];omega
theorem qbf{L:Rat->Prop}(hL:∀a b,a<=b->L b->L a){m:Nat}{e:Int}{more:Bool}{p:Nat}(hp:8<=p/\p<=512)(h0:L (vN m e))(h1:∀z,L z->z<=vN (m+1) e)(h1':¬L (vN (m+1) e))(hx:more=false->∀z,L z->z<=vN m e)(hm:more=true->p<bl m)(he:m=0->e<=16384):
 (zbq m e more p false).2=0/\L (dv (zbq m e more p false).1)/\inF p (dv (zbq m e more p false).1)/\∀z,inF p z->L z->z<=dv (zbq m e more p false).1:=by
 have hub:=zt3 m e p;have huc:=zmq m e p;have hfb:=zma m e more p;have hup:upN (jh m e more (unN m e p)) false=(jh m e more (unN m e p)).1:=by unfold upN;simp
 have hlead:unN m e p=e+bl m-p->m≠0->pw (unN m e p+p-1)<=vN (jh m e more (unN m e p)).1 (unN m e p)/\pw (unN m e p+p-1)<=vN m e:=by
  intro h hm0;have hb0:bl m≠0:=fun c=>hm0 (uj.1 c)
  have h2:pw (unN m e p+p-1)<=vN m e:=yc O hm0;refine⟨?_,h2⟩;by_cases hu:unN m e p<=e
  .have:vN (jh m e more (unN m e p)).1 (unN m e p)=vN m e:=by
    unfold jh;rw[Z4 hu];exact(yb m e _ hu).symm
   rw[this];exact h2
  .have h3:(jh m e more (unN m e p)).1=m/2^(unN m e p-e).toNat :=by unfold jh;rw[Z5 hu]
   have h4:2^(p-1)<=m/2^(unN m e p-e).toNat :=by
    rw[qF (q2 _),<-qD];exact(xj hm0).1 O
   rw[h3];have h5:vN (2^(p-1)) (unN m e p)<=vN (m/2^(unN m e p-e).toNat) (unN m e p):=yk.2 h4;rw[zgb]at h5;refine q0 (zf1.2 O) h5
 have hq1:L (vN (jh m e more (unN m e p)).1 (unN m e p)):=by
  by_cases hu:unN m e p<=e
  .have:vN (jh m e more (unN m e p)).1 (unN m e p)=vN m e:=by
    unfold jh;rw[Z4 hu];exact(yb m e _ hu).symm
   rw[this];exact h0
  .exact hL _ _ (zis hu).1 h0
 have hq2:∀j,L (vN j (unN m e p))->vN j (unN m e p)<=vN (jh m e more (unN m e p)).1 (unN m e p):=by
  intro j hj;by_cases hu:unN m e p<=e
  .have hmf:more=false:=by
    cases hmo:more with
    |false=>rfl
    |true=>
     have:=hm hmo;rcases huc with h|h<;>omega
   have:vN (jh m e more (unN m e p)).1 (unN m e p)=vN m e:=by
    unfold jh;rw[Z4 hu];exact(yb m e _ hu).symm
   rw[this];exact hx hmf _ hj
  .rw[yk];refine qU.1 fun c=>?_
   have h3:vN ((jh m e more (unN m e p)).1+1) (unN m e p)<=vN j (unN m e p):=yk.2 c;exact h1' (hL _ _ (q0 (zis hu).2.1 h3) hj)
 unfold zbq;rw[hup];generalize (jh m e more (unN m e p)).1=q at*;generalize unN m e p=w at*;split
 .rename_i hov;simp only[q5,if_false];have hq0:q≠0:=fun c=>by
   rw[c,vl]at hov;rcases huc with h|h
   .by_cases hm0:m=0
    .have:=he hm0;rw[hm0,vl]at h;omega
    .have h3:=(hlead h hm0).1;rw[c,uz]at h3;exact q3.2 (zd0 _) h3
   .omega
  have hbig:pw 16384<=vN q w:=yc O hq0;rw[zfp,Z5 OA];have hp2:=q2 p;have hlt:vN (2^p-1) (16384-p)<pw 16384:=by
   have:vN (2^p-1) (16384-p)<vN (2^p) (16384-p):=zky.2 O;rw[zgb]at this;have e2:(16384-(p:Int)+p)=16384:=O
   rwa [e2]at this
  refine⟨trivial,hL _ _ (q0 (q4 hlt) hbig) hq1,⟨2^p-1,16384-p,rfl,O,O,hlt⟩,fun z hz _=>?_⟩;obtain⟨k,u,rfl,hk,hu,hz16⟩:=hz;rcases grid (w:=16384-p) hk (u:=u)with ⟨_,j,hj⟩|⟨_,hj⟩
  .rw[hj]at hz16⊢;rw[yk];have e3:pw 16384=vN (2^p) (16384-p):=by rw[zgb];congr 1;omega
   rw[e3,zky]at hz16;omega
  .refine q0 hj ?_;have e4:pw (16384-(p:Int)+p-1)=vN (2^(p-1)) (16384-p):=by rw[zgb];congr 1;omega
   rw[e4,yk];have:2^p=2*2^(p-1):=by rw[Nat.mul_comm,<-Nat.pow_succ];congr 1;omega
   have:=q2 (p-1);omega
 .rename_i hov;simp only;rw[zfp,Z5 OA];refine⟨trivial,hq1,⟨q,w,rfl,?_,hub,zb2 O⟩,fun z hz hLz=>?_⟩
  .exact qJ (qB (zbb q) (q7 OA hfb))
  .obtain⟨k,u,rfl,hk,hu,_⟩:=hz;rcases grid (w:=w) hk (u:=u)with ⟨_,j,hj⟩|⟨hlt,hj⟩
   .rw[hj]at hLz⊢;exact hq2 j hLz
   .rcases huc with h|h
    .by_cases hm0:m=0
     .subst hm0;have hmf:more=false:=by
       cases hmo:more with
       |false=>rfl
       |true=>have:=hm hmo;rw[vl]at this;omega
      have h3:=hx hmf _ hLz;rw[uz]at h3;exact q0 h3 (zdq q w)
     .exact q0 hj (hlead h hm0).1
    .omega
theorem zc2{a b:Rat}(h1:a<=b)(h2:b<=a):a=b:=by grind
theorem qlm{U:Rat->Prop}(hU:∀a b,a<=b->U a->U b){m:Nat}{e:Int}{more:Bool}{p:Nat}(hp:8<=p/\p<=512)(h0:more=false->U (vN m e))(h0':U (vN (m+1) e))(h1:∀z,U z->vN m e<=z)(h1':more=true->¬U (vN m e))(hm:more=true->p<bl m)(he:m=0->e<=16384):
 ((zbq m e more p true).2=0->U (dv (zbq m e more p true).1)/\inF p (dv (zbq m e more p true).1))/\∀z,inF p z->U z->(zbq m e more p true).2=0/\dv (zbq m e more p true).1<=z:=by
 have hub:=zt3 m e p;have huc:=zmq m e p;have hfb:=zma m e more p;have hmf:unN m e p<=e->more=false:=fun hu=>by
  cases hmo:more with
  |false=>rfl
  |true=>
   have:=hm hmo;rcases huc with h|h<;>omega
 have hex:unN m e p<=e->vN (jh m e more (unN m e p)).1 (unN m e p)=vN m e/\(jh m e more (unN m e p)).2=false:=fun hu=>by
  have:=hmf hu;unfold jh;rw[Z4 hu];exact⟨(yb m e _ hu).symm,this⟩
 have hA:U (vN (upN (jh m e more (unN m e p)) true) (unN m e p)):=by
  by_cases hu:unN m e p<=e
  .obtain⟨e1,e2⟩:=hex hu;unfold upN;rw[e2];simp only[qC,q5,if_false];rw[e1];exact h0 (hmf hu)
  .obtain⟨f1,f2,f3,f4⟩:=zis (m:=m) (more:=more) hu;unfold upN
   cases hF:(jh m e more (unN m e p)).2 with
   |false=>
    simp only[qC,q5,if_false];obtain⟨g1,g2⟩:=f3 hF;rw[g2];exact h0 g1
   |true=>
    simp only[qO,if_true];exact hU _ _ f2 h0'
 have hB:∀j,U (vN j (unN m e p))->upN (jh m e more (unN m e p)) true<=j:=by
  intro j hj;have hle:=h1 _ hj;by_cases hu:unN m e p<=e
  .obtain⟨e1,e2⟩:=hex hu;unfold upN;rw[e2];simp only[qC,q5,if_false];rw[<-e1,yk]at hle;exact hle
  .obtain⟨f1,f2,f3,f4⟩:=zis (m:=m) (more:=more) hu;unfold upN
   cases hF:(jh m e more (unN m e p)).2 with
   |false=>
    simp only[qC,q5,if_false];obtain⟨g1,g2⟩:=f3 hF;rw[<-g2,yk]at hle;exact hle
   |true=>
    simp only[qO,if_true];refine qS.1 fun c=>?_
    have h3:vN j (unN m e p)<=vN (jh m e more (unN m e p)).1 (unN m e p):=yk.2 c;rcases f4 hF with h|h
    .refine h1' h ?_;rw[zc2 hle (q0 h3 f1)];exact hj
    .exact h (q0 hle h3)
 have hq0:m=0->upN (jh m e more (unN m e p)) true=0:=fun h=>by
  have hmo:more=false:=by
   cases hmo:more with
   |false=>rfl
   |true=>have:=hm hmo;rw[h,vl]at this;omega
  subst h hmo;unfold jh upN;split<;>simp
 have hle:upN (jh m e more (unN m e p)) true<=2^p:=by
  have h3:(jh m e more (unN m e p)).1<2^p:=qB (zbb _) (q7 OA hfb);unfold upN;split<;>omega
 have hlead:∀z,U z->z<=pw (unN m e p+p-1)->unN m e p=e+bl m-p->vN (upN (jh m e more (unN m e p)) true) (unN m e p)<=z:=by
  intro z hz hz2 h;by_cases hm0:m=0
  .rw[hq0 hm0,uz];exact q0 (zdq m e) (h1 z hz)
  .have hb0:bl m≠0:=fun c=>hm0 (uj.1 c)
   have h2:pw (unN m e p+p-1)<=vN m e:=yc O hm0;have h3:z=vN (2^(p-1)) (unN m e p):=by
    rw[zgb];have:unN m e p+((p-1:Nat):Int)=unN m e p+p-1:=O;rw[this];exact zc2 hz2 (q0 h2 (h1 z hz))
   rw[h3]at hz⊢;exact yk.2 (hB _ hz)
 have hall:∀z,inF p z->U z->vN (upN (jh m e more (unN m e p)) true) (unN m e p)<=z:=by
  intro z hz hUz;obtain⟨k,u,rfl,hk,hu,_⟩:=hz;rcases grid (w:=unN m e p) hk (u:=u)with ⟨_,j,hj⟩|⟨hlt,hj⟩
  .rw[hj]at hUz⊢;exact yk.2 (hB j hUz)
  .rcases huc with h|h
   .exact hlead _ hUz hj h
   .omega
 unfold zbq;generalize upN (jh m e more (unN m e p)) true=q at*;generalize unN m e p=w at*;by_cases hov:16384<(bl q:Int)+w
 .rw[Z4 hov];simp only[if_true];refine⟨fun h=>absurd h OA,fun z hz hUz=>?_⟩;have hqn:q≠0:=fun c=>by
   rw[c,vl]at hov;rcases huc with h|h
   .by_cases hm0:m=0
    .have:=he hm0;rw[hm0,vl]at h;omega
    .have hb0:bl m≠0:=fun c=>hm0 (uj.1 c)
     rw[c,uz]at hA;have h3:=h1 _ hA;have h4:pw (w+p-1)<=vN m e:=yc O hm0;exact q3.2 (zd0 _) (q0 h4 h3)
   .omega
  have h3:=hall z hz hUz;have h4:pw 16384<=vN q w:=yc O hqn;obtain⟨_,_,_,_,_,h5⟩:=hz;exact absurd (q0 h4 h3) (q3.2 h5)
 .rw[Z5 hov];simp only;rw[zfp,Z5 OA];exact⟨fun _=>⟨hA,q,w,rfl,hle,hub,zb2 O⟩,fun z hz hUz=>⟨trivial,hall z hz hUz⟩⟩
def Fp(p:Nat)(z:Rat):Prop:=inF p z\/inF p (-z)
def RD(p:Nat)(L:Rat->Prop)(r:Dy×Int):Prop:=(r.2=0->L (dv r.1)/\Fp p (dv r.1))/\∀z,Fp p z->L z->r.2=0/\z<=dv r.1
def RU(p:Nat)(U:Rat->Prop)(r:Dy×Int):Prop:=(r.2=0->U (dv r.1)/\Fp p (dv r.1))/\∀z,Fp p z->U z->r.2=0/\dv r.1<=z
theorem xf{d:Dy}:dv (jm d)= -dv d:=by
 unfold jm dv;by_cases h:nm d=0
 .rw[Z4 h,Z5 OA,zv5,h,uz,uz];split<;>rfl
 .rw[Z5 h];have h2:nm ⟨!d.neg,d.m,d.e⟩=nm d:=rfl;rw[h2];cases d.neg<;>simp
theorem zek:dv d0=0:=by
 unfold dv;rw[Z5 OA,zv5,uz]
theorem zaz(p:Nat):inF p 0:=⟨0,0,(uz 0).symm,Nat.zero_le _,OA,zd0 _⟩
theorem zkd{p:Nat}{z:Rat}(h:inF p z):0<=z:=by
 obtain⟨k,u,rfl,_⟩:=h;exact zdq k u
theorem zqv{L U:Rat->Prop}{m:Nat}{e:Int}{more:Bool}{p:Nat}(hp:8<=p/\p<=512)(neg:Bool)
 (hL:∀a b,a<=b->L b->L a) (hU:∀a b,a<=b->U a->U b) (l0:L (vN m e)) (l1:∀z,L z->z<=vN (m+1) e) (l1':¬L (vN (m+1) e)) (lx:more=false->∀z,L z->z<=vN m e)
 (u0:more=false->U (vN m e)) (u0':U (vN (m+1) e)) (u1:∀z,U z->vN m e<=z) (u1':more=true->¬U (vN m e)) (hm:more=true->p<bl m) (he:m=0->e<=16384):
 RD p (fun z=>if neg=true then U (-z)else L z) (xy neg m e more p false)/\RU p (fun z=>if neg=true then L (-z)else U z) (xy neg m e more p true):=by
 have hL0:L 0:=hL _ _ (zdq m e) l0;obtain⟨d1,d2,d3,d4⟩:=qbf hL hp l0 l1 l1' lx hm he;obtain⟨c1,c2⟩:=qlm hU hp u0 u0' u1 u1' hm he;have hUn:∀z,U z->0<=z:=fun z hz=>q0 (zdq m e) (u1 z hz)
 have hr0:0<=dv (zbq m e more p false).1:=zkd d3
 cases neg with
 |false=>
  have e1:xy false m e more p false=zbq m e more p false:=by unfold xy;rw[Z5 OC];rfl
  have e2:xy false m e more p true=zbq m e more p true:=by unfold xy;rw[Z5 OC];rfl
  rw[e1,e2];refine⟨⟨fun _=>⟨by simpa using d2,.inl d3⟩,fun z hz hz2=>⟨d1,?_⟩⟩,⟨fun h=>?_,fun z hz hz2=>?_⟩⟩
  .rcases hz with hz|hz
   .exact d4 z hz (by simpa using hz2)
   .have:=zkd hz;grind
  .obtain⟨h1,h2⟩:=c1 h;exact⟨by simpa using h1,.inl h2⟩
  .have hz3:U z:=by simpa using hz2
   rcases hz with hz|hz
   .exact c2 z hz hz3
   .have h3:=zkd hz;have h4:=hUn z hz3;have h5:z=0:=by grind
    subst h5;exact c2 0 (zaz p) hz3
 |true=>
  have e1:xy true m e more p false=if(zbq m e more p true).2=0 then(jm (zbq m e more p true).1,0)else zbq m e more p true:=by
   unfold xy;simp only[and_true];rfl
  have e2:xy true m e more p true=(jm (zbq m e more p false).1,0):=by
   unfold xy;simp only[and_true];rw[Z4 (by exact d1)];rfl
  rw[e1,e2];refine⟨⟨fun h=>?_,fun z hz hz2=>?_⟩,⟨fun _=>?_,fun z hz hz2=>⟨rfl,?_⟩⟩⟩
  .by_cases hc:(zbq m e more p true).2=0
   .rw[Z4 hc];obtain⟨h1,h2⟩:=c1 hc;simp only[xf,if_true];refine⟨?_,.inr ?_⟩
    .rw[qG];exact h1
    .rw[qG];exact h2
   .rw[Z5 hc]at h;exact absurd h hc
  .have hz3:U (-z):=by simpa using hz2
   have hz4:inF p (-z):=by
    rcases hz with hz|hz
    .have h3:=zkd hz;have h4:=hUn _ hz3;have h5:z=0:=by grind
     subst h5;have:(-0:Rat)=0:=by grind
     rw[this];exact zaz p
    .exact hz
   obtain⟨h1,h2⟩:=c2 _ hz4 hz3;rw[Z4 h1];refine⟨rfl,?_⟩;simp only[xf];grind
  .simp only[xf,if_true];refine⟨?_,.inr ?_⟩
   .rw[qG];exact d2
   .rw[qG];exact d3
  .have hz3:L (-z):=by simpa using hz2
   simp only[xf];rcases hz with hz|hz
   .have:=zkd hz;grind
   .have:=d4 _ hz hz3;grind
theorem RD.congr{p:Nat}{L L':Rat->Prop}{r:Dy×Int}(h:RD p L r)(hl:∀z,L z<->L' z):RD p L' r:=
 ⟨fun e=>⟨(hl _).1 (h.1 e).1,(h.1 e).2⟩,fun z hz hz2=>h.2 z hz ((hl z).2 hz2)⟩
theorem RU.congr{p:Nat}{U U':Rat->Prop}{r:Dy×Int}(h:RU p U r)(hl:∀z,U z<->U' z):RU p U' r:=
 ⟨fun e=>⟨(hl _).1 (h.1 e).1,(h.1 e).2⟩,fun z hz hz2=>h.2 z hz ((hl z).2 hz2)⟩
def RT(p:Nat)(y:Rat)(F:Bool->Dy×Int):Prop:=RD p (fun z=>z<=y) (F false)/\RU p (fun z=>y<=z) (F true)
theorem zc1{x:Rat}{m:Nat}{e:Int}{more:Bool}{p:Nat}(hp:8<=p/\p<=512)(neg:Bool)(h1:vN m e<=x)(h2:x<vN (m+1) e)(h3:more=false->x=vN m e)(h4:more=true->vN m e<x)(hm:more=true->p<bl m)(he:m=0->e<=16384):
 RT p (if neg=true then-x else x) (fun up=>xy neg m e more p up):=by
 obtain⟨a,b⟩:=zqv (L:=fun z=>z<=x) (U:=fun z=>x<=z) hp neg (fun a b h1 h2=>q0 h1 h2) (fun a b h1 h2=>q0 h2 h1) h1 (fun z hz=>q0 hz (q4 h2)) (q3.2 h2)
  (fun h z hz=>by rw[<-h3 h];exact hz) (fun h=>by rw[h3 h];exact q1) (q4 h2) (fun z hz=>q0 h1 hz) (fun h=>q3.2 (h4 h)) hm he
 refine⟨a.congr fun z=>?_,b.congr fun z=>?_⟩
 .cases neg with
  |true=>simp only[if_true];constructor<;>intro h<;>grind
  |false=>simp
 .cases neg with
  |true=>simp only[if_true];constructor<;>intro h<;>grind
  |false=>simp
theorem zfw(m:Nat)(e:Int):vN m e<vN (m+1) e:=zky.2 (Nat.lt_succ_self m)
theorem zb8{m:Nat}{e:Int}{p:Nat}(hp:8<=p/\p<=512)(neg:Bool)(he:m=0->e<=16384):
 RT p (if neg=true then-(vN m e)else vN m e) (fun up=>xy neg m e false p up):=
 zc1 hp neg q1 (zfw m e) (fun _=>rfl) (fun h=>by cases h) (fun h=>by cases h) he
theorem kd{d:Dy}(hd:VD d){p:Nat}(hp:8<=p/\p<=512):RT p (dv d) (fun up=>qt d p up):=by
 have:=zb8 (m:=nm d) (e:=d.e) hp d.neg (fun _=>hd.exp.2.1);exact this
theorem zmp(a b:Nat)(e f:Int):vN a e*vN b f=vN (a*b) (e+f):=by
 unfold vN;rw[pwA,zq4];grind
theorem qlk{a b:Dy}:dv a*dv b=if(a.neg != b.neg)=true then-(vN (nm a*nm b) (a.e+b.e))else vN (nm a*nm b) (a.e+b.e):=by
 rw[<-zmp];unfold dv;cases a.neg<;>cases b.neg<;>simp<;>grind
theorem zty{d:Dy}(h:VD d)(h0:nm d=0):d.e=0:=by
 rcases h.ok with ⟨_,_,h3⟩|⟨h3,_⟩
 .exact h3
 .omega
theorem zbu{a b:Dy}(ha:VD a)(hb:VD b){p:Nat}(hp:8<=p/\p<=512):RT p (dv a*dv b) (fun up=>wz a b p up):=by
 rw[qlk];refine zb8 hp _ fun h=>?_
 have a2:=ha.exp;have b2:=hb.exp;rcases Nat.mul_eq_zero.1 h with h|h
 .have:=zty ha h;omega
 .have:=zty hb h;omega
theorem zhq{n:Nat}(e:Int)(h:n≠0):0<vN n e:=by
 rw[<-uz e,zky];omega
theorem zry{a b c:Rat}(hb:0<b):c<=a/b<->c*b<=a:=by
 have e:a/b*b=a:=by grind
 constructor
 .intro h;have:=qv h (q4 hb)
  rwa [e]at this
 .intro h;exact zef (by rw[e];exact h) hb
theorem zxl{a b c:Rat}(hb:0<b):a/b<c<->a<c*b:=by
 have:=zry (a:=a) (c:=c) hb;constructor
 .intro h;exact q3.1 fun x=>q3.2 h (this.2 x)
 .intro h;exact q3.1 fun x=>q3.2 h (this.1 x)
theorem zr0{x y p:Nat}(hx:x≠0)(hy:y≠0):p<bl (x*2^(p+3+bl y-bl x)/y):=by
 have hk:=zq x (p+3+bl y-bl x) hx;generalize x*2^(p+3+bl y-bl x)=X at*;have hX:X≠0:=fun c=>by rw[c,vl]at hk;have:bl x≠0:=fun c=>hx (uj.1 c);omega
 have h1:2^(p+2+bl y)<=X:=(xj hX).1 O;have h2:2^(p+2)<=X/y:=by
  rw[qF (qH hy)];rw[qD]at h1;exact Nat.le_trans (Nat.mul_le_mul_left _ (qJ (zbb y))) h1
 have h3:X/y≠0:=by have:=q2 (p+2);omega
 have:=(xj h3).2 h2;omega
theorem zgj{a b:Dy}(ha:VD a)(hb':VD b)(hb0:nm b≠0){p:Nat}(hp:8<=p/\p<=512):RT p (dv a/dv b) (fun up=>ui a b p up):=by
 have hb:0<vN (nm b) b.e:=zhq _ hb0;have hv:dv a/dv b=if(a.neg != b.neg)=true then-(vN (nm a) a.e/vN (nm b) b.e)else vN (nm a) a.e/vN (nm b) b.e:=by
  unfold dv;cases a.neg<;>cases b.neg<;>simp<;>grind
 have hD:(fun up=>ui a b p up)=fun up=>xy (a.neg != b.neg) (nm a*2^za4 a b p/nm b) (a.e-za4 a b p-b.e) (decide (nm a*2^za4 a b p % nm b≠0)) p up:=by
  funext up;unfold ui;rw[Z5 hb0]
 rw[hv,hD];have hx:vN (nm a) a.e=vN (nm a*2^za4 a b p) (a.e-za4 a b p):=by rw[zbg];congr 1;omega
 have hq:∀q,vN q (a.e-za4 a b p-b.e)*vN (nm b) b.e=vN (q*nm b) (a.e-za4 a b p):=fun q=>by rw[zmp];congr 1;omega
 have hdm:=qK (nm a*2^za4 a b p) (nm b);have hml:=qT (nm a*2^za4 a b p) (qH hb0);refine zc1 hp _ ?_ ?_ ?_ ?_ ?_ ?_
 .rw[zry hb,hq,hx,yk];omega
 .rw[zxl hb,hq,hx,zky,qQ];omega
 .intro h;have h:nm a*2^za4 a b p % nm b=0:=by simpa using h
  have e1:vN (nm a*2^za4 a b p/nm b) (a.e-za4 a b p-b.e)*vN (nm b) b.e=vN (nm a) a.e:=by
   rw[hq,hx];congr 1;omega
  rw[<-e1];have:vN (nm b) b.e≠0:=fun c=>by rw[c]at hb;grind
  grind
 .intro h;have h:nm a*2^za4 a b p % nm b≠0:=by simpa using h
  refine q3.1 fun c=>?_
  have h2:=qv c (q4 hb);have e1:vN (nm a) a.e/vN (nm b) b.e*vN (nm b) b.e=vN (nm a) a.e:=by
   have:vN (nm b) b.e≠0:=fun c=>by rw[c]at hb;grind
   grind
  rw[e1,hq,hx,yk]at h2;omega
 .intro h;have h:nm a*2^za4 a b p % nm b≠0:=by simpa using h
  have ha0:nm a≠0:=fun c=>by rw[c,Nat.zero_mul,Nat.zero_mod]at h;exact h rfl
  exact zr0 ha0 hb0
 .intro h;by_cases ha0:nm a=0
  .have h1:=zty ha ha0;have h2:=hb'.exp;omega
  .have:=zr0 (p:=p) ha0 hb0;have h2:nm a*2^za4 a b p/nm b=nm a*2^(p+3+bl (nm b)-bl (nm a))/nm b:=rfl;rw[<-h2,h,vl]at this;omega
def sqL(v z:Rat):Prop:=z<=0\/z*z<=v
def sqU(v z:Rat):Prop:=0<=z/\v<=z*z
theorem zk3{a b:Rat}(h0:0<=a)(h:a<=b):a*a<=b*b:=by
 have h1:a*a<=b*a:=qv h h0;have h2:a*b<=b*b:=qv h (by grind);grind
theorem zql{a b:Rat}(h0:0<=b)(h:a*a<=b*b):a<=b:=by
 refine qn.1 fun c=>?_
 have h1:b*b<=b*a:=by
  have:=qv (q4 c) h0;grind
 have h2:b*a<a*a:=by
  have:=qd c (show 0<a by grind);exact this
 grind
theorem zmr{d:Dy}(hn:d.neg=false){p:Nat}(hp:8<=p/\p<=512)(h0:nm d≠0):RD p (sqL (dv d)) (jo d p false)/\RU p (sqU (dv d)) (jo d p true):=by
 have hdv:dv d=vN (nm d) d.e:=by unfold dv;rw[hn,Z5 OA]
 have hpar:(d.e-sqK d p) % 2=0:=by unfold sqK;split<;>omega
 have hD:∀up,jo d p up=xy false (sqN (nm d*2^sqK d p)) ((d.e-sqK d p)/2) (decide (sqN (nm d*2^sqK d p)*sqN (nm d*2^sqK d p)≠nm d*2^sqK d p)) p up:=fun up=>by
  unfold jo xy;rw[Z5 h0,Z5 OC];cases up<;>rfl
 have hx:dv d=vN (nm d*2^sqK d p) (d.e-sqK d p):=by rw[hdv,zbg];congr 1;omega
 have hs:∀q,vN q ((d.e-sqK d p)/2)*vN q ((d.e-sqK d p)/2)=vN (q*q) (d.e-sqK d p):=fun q=>by rw[zmp];congr 1;omega
 obtain⟨s1,s2⟩:=zey (nm d*2^sqK d p);have hM:2^(2*p+3)<=nm d*2^sqK d p:=by
  have hk:=zq (nm d) (sqK d p) h0;have hne:nm d*2^sqK d p≠0:=qM h0 (by have:=q2 (sqK d p);omega);refine(xj hne).1 ?_;have:2*p+4-bl (nm d)<=sqK d p:=by unfold sqK;split<;>omega
  omega
 have hbits:p<bl (sqN (nm d*2^sqK d p)):=by
  have h1:2^(p+1)<=sqN (nm d*2^sqK d p):=by
   refine qU.1 fun c=>?_
   have h2:(sqN (nm d*2^sqK d p)+1)*(sqN (nm d*2^sqK d p)+1)<=2^(p+1)*2^(p+1):=Nat.mul_le_mul c c;rw[<-qD]at h2;have h3:2^(p+1+(p+1))<=2^(2*p+3):=q7 OA O;omega
  have hne:sqN (nm d*2^sqK d p)≠0:=by have:=q2 (p+1);omega
  have:=(xj hne).2 h1;omega
 rw[hD,hD,hx];generalize nm d*2^sqK d p=M at*;generalize sqN M=s at*;generalize (d.e-(sqK d p:Int))/2=e at*;generalize d.e-(sqK d p:Int)=f at*;have hv0:0<=vN M f:=zdq M f;have l0:vN s e*vN s e<=vN M f:=by rw[hs,yk];exact s1
 have l1:vN M f<vN (s+1) e*vN (s+1) e:=by rw[hs,zky];exact s2
 obtain⟨a,b⟩:=zqv (L:=sqL (vN M f)) (U:=sqU (vN M f)) (m:=s) (e:=e) (more:=decide (s*s≠M)) hp false
  (fun a b h1 h2=>by
    rcases h2 with h2|h2
    .exact .inl (q0 h1 h2)
    .by_cases ha:a<=0
     .exact .inl ha
     .exact .inr (q0 (zk3 (q4 (q3.1 ha)) h1) h2))
  (fun a b h1 h2=>⟨q0 h2.1 h1,q0 h2.2 (zk3 h2.1 h1)⟩)
  (.inr l0)
  (fun z hz=>by
    rcases hz with hz|hz
    .exact q0 hz (zdq _ _)
    .exact zql (zdq _ _) (q0 hz (q4 l1)))
  (fun h=>by
    rcases h with h|h
    .exact q3.2 (zhq e (Nat.succ_ne_zero s)) h
    .exact q3.2 l1 h)
  (fun h z hz=>by
    have h:s*s=M:=by simpa using h
    rcases hz with hz|hz
    .exact q0 hz (zdq _ _)
    .refine zql (zdq _ _) ?_;rw[hs,h];exact hz)
  (fun h=>by
    have h:s*s=M:=by simpa using h
    exact⟨zdq _ _,by rw[hs,h];exact q1⟩)
  ⟨zdq _ _,q4 l1⟩
  (fun z hz=>zql hz.1 (q0 l0 hz.2))
  (fun h hU=>by
    have h:s*s≠M:=by simpa using h
    have h2:=hU.2;rw[hs,yk]at h2;omega)
  (fun _=>hbits)
  (fun h=>by rw[h,vl]at hbits;omega)
 exact⟨a.congr fun z=>OC,b.congr fun z=>OC⟩
theorem qgk(d:Dy)(t:Int)(h:t<=d.e):dv d=(zi d t:Rat)*pw t:=by
 have e:vN (nm d) d.e=((nm d*2^(d.e-t).toNat :Nat):Rat)*pw t:=by rw[yb _ _ t h];rfl
 unfold dv zi;rw[e]
 cases d.neg with
 |true=>
  simp only[if_true,qN,q9];rw[Rat.neg_mul]
 |false=>
  simp only[q5,if_false,q9]
theorem zm5(x y:Int):(zvs x y<0<->x<y)/\(0<zvs x y<->y<x)/\(zvs x y=0<->x=y):=by
 unfold zvs;split
 .omega
 .split<;>omega
theorem za7{x y t:Rat}(ht:0<t):x*t<y*t<->x<y:=by
 constructor
 .intro h;exact q3.1 fun c=>q3.2 h (qv c (q4 ht))
 .intro h;exact qd h ht
theorem zar(a b:Dy):(qo a b<0<->dv a<dv b)/\(0<qo a b<->dv b<dv a)/\(qo a b=0<->dv a=dv b):=by
 have ha:=qgk a (min a.e b.e) O;have hb:=qgk b (min a.e b.e) O;have hp:=zd0 (min a.e b.e);obtain⟨h1,h2,h3⟩:=zm5 (zi a (min a.e b.e)) (zi b (min a.e b.e));rw[ha,hb];unfold qo;rw[h1,h2,h3,za7 hp,za7 hp,q6,q6];refine⟨Iff.rfl,Iff.rfl,⟨fun h=>by rw[h],fun h=>?_⟩⟩;have h4:¬((zi a (min a.e b.e):Rat)<zi b (min a.e b.e)):=fun c=>by have:=(za7 hp).2 c;rw[h]at this;exact qE this
 have h5:¬((zi b (min a.e b.e):Rat)<zi a (min a.e b.e)):=fun c=>by have:=(za7 hp).2 c;rw[h]at this;exact qE this
 rw[q6]at h4 h5;omega
theorem xg{a b:Dy}:qo a b<=0<->dv a<=dv b:=by
 have h:=(zar a b).2.1;constructor
 .intro h1;exact qn.1 fun c=>by have:=h.2 c;omega
 .intro h1;exact Int.not_lt.1 fun c=>qn.2 h1 (h.1 c)
theorem zkt{a b:Dy}:0<=qo a b<->dv b<=dv a:=by
 have h:=(zar a b).1;constructor
 .intro h1;exact qn.1 fun c=>by have:=h.2 c;omega
 .intro h1;exact Int.not_lt.1 fun c=>qn.2 h1 (h.1 c)
theorem kc(d:Dy):(vg d<0<->dv d<0)/\(0<vg d<->0<dv d)/\(vg d=0<->dv d=0):=by
 have ha:=qgk d d.e (Int.le_refl _);have hp:=zd0 d.e;obtain⟨h1,h2,h3⟩:=zm5 (zi d d.e) 0;rw[zp3 d d.e,h1,h2,h3,ha];have e0:(0:Rat)=((0:Int):Rat)*pw d.e:=by rw[show((0:Int):Rat)=0 from rfl,qP]
 have g1:(zi d d.e:Rat)*pw d.e<0<->zi d d.e<0:=by
  conv=>lhs;rhs;rw[e0]
  rw[za7 hp,q6]
 have g2:0<(zi d d.e:Rat)*pw d.e<->0<zi d d.e:=by
  conv=>lhs;lhs;rw[e0]
  rw[za7 hp,q6]
 refine⟨g1.symm,g2.symm,⟨fun h=>by rw[h];exact e0.symm,fun h=>?_⟩⟩;have k1:¬zi d d.e<0:=fun c=>by have:=g1.2 c;rw[h]at this;exact qE this
 have k2:¬0<zi d d.e:=fun c=>by have:=g2.2 c;rw[h]at this;exact qE this
 omega
theorem zqa(a b:Nat)(e:Int):vN a e+vN b e=vN (a+b) e:=by unfold vN;rw[qag,Rat.add_mul]
theorem zjo{a b:Nat}(h:b<=a)(e:Int):vN a e-vN b e=vN (a-b) e:=by
 have:=zqa (a-b) b e;rw[(O:a-b+b=a)]at this;grind
theorem zw2(n:Nat)(e w:Int):vN (jh n e false w).1 w<=vN n e/\vN n e<vN ((jh n e false w).1+1) w/\((jh n e false w).2=false->vN n e=vN (jh n e false w).1 w)/\((jh n e false w).2=true->vN (jh n e false w).1 w<vN n e/\e<w):=by
 by_cases h:w<=e
 .have e1:jh n e false w=(n*2^(e-w).toNat,false):=by unfold jh;rw[Z4 h]
  have e2:=yb n e w h;rw[e1];simp only;rw[<-e2];refine⟨q1,?_,fun _=>rfl,fun c=>by cases c⟩;rw[e2];exact zfw _ _
 .obtain⟨h1,h2,h3,h4⟩:=zis (m:=n) (more:=false) h;refine⟨h1,qch (zfw n e) h2,fun c=>(h3 c).2.symm,fun c=>⟨?_,O⟩⟩;rcases h4 c with h5|h5
  .cases h5
  .exact q3.1 h5
theorem qce{c d:Dy}(hc:VD c)(hd:VD d)(c0:nm c≠0)(d0':nm d≠0)(hle:zn d<=zn c){p:Nat}(hp:8<=p/\p<=512):RT p (dv c+dv d) (fun up=>qhb c d p up):=by
 obtain⟨l1,l2,l3,l4⟩:=zpb hc hd c0 hle d0' hp;have tc:zn c=bl (nm c)+c.e:=by unfold zn;rw[Z5 c0]
 have td:zn d=bl (nm d)+d.e:=by unfold zn;rw[Z5 d0']
 have hlow:d.e<uh c d p->uh c d p<=zn c-p-8/\2<zn c-zn d:=fun h=>by
  unfold uh at h⊢;by_cases h2:zn c-zn d<=2
  .rw[Z4 h2]at h;omega
  .rw[Z5 h2];omega
 obtain⟨f1,f2,f3,f4⟩:=zw2 (nm d) d.e (uh c d p);have hXv:vN (nm c) c.e=vN (nm c*2^(c.e-uh c d p).toNat) (uh c d p):=yb _ _ _ l1;have hXb:=zq (nm c) (c.e-uh c d p).toNat c0;have hFb:d.e<uh c d p->(jh (nm d) d.e false (uh c d p)).1<2^(zn d-uh c d p).toNat :=fun h=>by
  have e1:(jh (nm d) d.e false (uh c d p)).1=nm d/2^(uh c d p-d.e).toNat :=by unfold jh;rw[Z5 O]
  rw[e1,Nat.div_lt_iff_lt_mul (q2 _),<-qD];exact qB (zbb (nm d)) (q7 OA O)
 have hxv:∀y:Dy,dv y=if y.neg=true then-(vN (nm y) y.e)else vN (nm y) y.e:=fun y=>rfl
 have hXge:2^((zn c-uh c d p).toNat -1)<=nm c*2^(c.e-uh c d p).toNat :=by
  have hX0:nm c*2^(c.e-uh c d p).toNat ≠0:=qM c0 (by have:=q2 (c.e-uh c d p).toNat;omega);have hb0:bl (nm c)≠0:=fun x=>c0 (uj.1 x)
  exact(xj hX0).1 O
 unfold qhb zjc;rw[hxv c,hxv d,hXv];generalize nm c*2^(c.e-uh c d p).toNat =X at*;generalize hF:jh (nm d) d.e false (uh c d p)=F at*;generalize uh c d p=w at*;generalize vN (nm d) d.e=y at*;have hX0:X≠0:=by have:=q2 ((zn c-w).toNat -1);omega
 by_cases hs:c.neg=d.neg
 .
  rw[Z4 hs];simp only;have hne:¬(X+F.1=0/\F.2=false):=fun h=>hX0 O
  have hval:(if c.neg=true then-(vN X w)else vN X w)+(if d.neg=true then-y else y)=if(c.neg != false)=true then-(vN X w+y)else vN X w+y:=by
   rw[<-hs];cases c.neg<;>simp<;>grind
  rw[hval];have hfun:(fun up=>if X+F.1=0/\F.2=false then(d0,(0:Int))else xy (c.neg != false) (X+F.1) w F.2 p up)=fun up=>xy (c.neg != false) (X+F.1) w F.2 p up:=by
   funext up;rw[Z5 hne]
  rw[hfun];have a1:=zqa X F.1 w;have a2:=zqa X (F.1+1) w;refine zc1 hp _ ?_ ?_ ?_ ?_ ?_ ?_
  .rw[<-a1];grind
  .rw[(O:X+F.1+1=X+(F.1+1)),<-a2];grind
  .intro h;rw[<-a1,f3 h]
  .intro h;rw[<-a1];have:=(f4 h).1;grind
  .intro h;obtain⟨h1,h2⟩:=hlow (f4 h).2;have h3:bl X<=bl (X+F.1):=qc O;omega
  .intro h;omega
 .
  rw[Z5 hs];have hval:∀z:Rat,z=vN X w-y->(if c.neg=true then-(vN X w)else vN X w)+(if d.neg=true then-y else y)=if c.neg=true then-z else z:=fun z hz=>by
   subst hz;cases hc':c.neg<;>cases hd':d.neg<;>simp[hc',hd']at hs⊢ <;>grind
  have hU:F.2=true->upN F true=F.1+1/\F.1+1<=2^((zn c-w).toNat -3)/\2^((zn c-w).toNat -3)*4<=X/\p+8<=(zn c-w).toNat :=fun h=>by
   obtain⟨h1,h2⟩:=hlow (f4 h).2;have h3:=hFb (f4 h).2;refine⟨by unfold upN;rw[h];rfl,?_,?_,O⟩
   .have h4:2^(zn d-w).toNat <=2^((zn c-w).toNat -3):=q7 OA O;omega
   .have h4:2^((zn c-w).toNat -1)=2^((zn c-w).toNat -3)*4:=by
     rw[show(zn c-w).toNat -1=((zn c-w).toNat -3)+2 by omega,qD]
    omega
  have hUf:F.2=false->upN F true=F.1:=fun h=>by unfold upN;rw[h];rfl
  by_cases hlt:X<upN F true
  .rw[Z4 hlt];simp only;have hFf:F.2=false:=by
    cases hF2:F.2 with
    |false=>rfl
    |true=>obtain⟨u1,u2,u3,_⟩:=hU hF2;omega
   have hUe:=hUf hFf;rw[hUe]at hlt⊢;have hfun:(fun up=>if F.1-X=0/\True then(d0,(0:Int))else xy (c.neg != true) (F.1-X) w false p up)=fun up=>xy (c.neg != true) (F.1-X) w false p up:=by
    funext up;rw[Z5 fun h=>O]
   rw[hfun];have a1:=zjo (qJ hlt) w;have hv:(if c.neg=true then-(vN X w)else vN X w)+(if d.neg=true then-y else y)=if(c.neg != true)=true then-(vN (F.1-X) w)else vN (F.1-X) w:=by
    rw[hval (vN X w-y) rfl,<-a1,f3 hFf];cases c.neg<;>simp<;>grind
   rw[hv];exact zb8 hp _ fun h=>O
  .rw[Z5 hlt];simp only;rw[hval (vN X w-y) rfl]
   cases hF2:F.2 with
   |false=>
    have hUe:=hUf hF2;rw[hUe]at hlt⊢;have a1:=zjo (a:=X) (b:=F.1) O w;by_cases hz:X-F.1=0
    .have hfun:(fun up=>if X-F.1=0/\false=false then(d0,(0:Int))else xy (c.neg != false) (X-F.1) w false p up)=fun _=>(d0,0):=by
      funext up;rw[Z4 ⟨hz,rfl⟩]
     rw[hfun,f3 hF2,a1,hz,uz];have e0:(if c.neg=true then-(0:Rat)else 0)=0:=by split<;>grind
     rw[e0];refine⟨⟨fun _=>⟨by rw[zek];exact q1,by rw[zek];exact .inl (zaz p)⟩,fun z _ h=>⟨rfl,by rw[zek];exact h⟩⟩,⟨fun _=>⟨by rw[zek];exact q1,by rw[zek];exact .inl (zaz p)⟩,fun z _ h=>⟨rfl,by rw[zek];exact h⟩⟩⟩
    .have hfun:(fun up=>if X-F.1=0/\false=false then(d0,(0:Int))else xy (c.neg != false) (X-F.1) w false p up)=fun up=>xy (c.neg != false) (X-F.1) w false p up:=by
      funext up;rw[Z5 fun h=>hz h.1]
     rw[hfun,f3 hF2,a1];have e0:(c.neg != false)=c.neg:=by cases c.neg<;>rfl
     rw[e0];exact zb8 hp _ fun h=>absurd h hz
   |true=>
    obtain⟨u1,u2,u3,u4⟩:=hU hF2;rw[u1];have a1:=zjo (a:=X) (b:=F.1+1) O w;have a2:=zjo (a:=X) (b:=F.1) O w;have hpos:=q2 ((zn c-w).toNat -3);have hfun:(fun up=>if X-(F.1+1)=0/\true=false then(d0,(0:Int))else xy (c.neg != false) (X-(F.1+1)) w true p up)=fun up=>xy (c.neg != false) (X-(F.1+1)) w true p up:=by
     funext up;rw[Z5 fun h=>by cases h.2]
    rw[hfun];have e0:(c.neg != false)=c.neg:=by cases c.neg<;>rfl
    rw[e0];have hy1:=(f4 hF2).1;refine zc1 hp _ ?_ ?_ ?_ ?_ ?_ ?_
    .rw[<-a1];grind
    .rw[(O:X-(F.1+1)+1=X-F.1),<-a2];grind
    .intro h;cases h
    .intro _;rw[<-a1];grind
    .intro _;have h5:2^((zn c-w).toNat -3)<=X-(F.1+1):=O;have h6:=(xj (n:=X-(F.1+1)) (k:=(zn c-w).toNat -3) O).2 h5;omega
    .intro h;omega
theorem xq{d:Dy}(h:nm d=0):dv d=0:=by unfold dv;rw[h,uz];split<;>rfl
theorem zgm{a b:Dy}(ha:VD a)(hb:VD b){p:Nat}(hp:8<=p/\p<=512):RT p (dv a+dv b) (fun up=>zdo a b p up):=by
 by_cases a0:nm a=0
 .have h:=kd hb hp;have e:(fun up=>zdo a b p up)=fun up=>qt b p up:=by funext up;unfold zdo;rw[Z4 a0]
  rw[e,xq a0,Rat.zero_add];exact h
 by_cases b0:nm b=0
 .have h:=kd ha hp;have e:(fun up=>zdo a b p up)=fun up=>qt a p up:=by funext up;unfold zdo;rw[Z5 a0,Z4 b0]
  rw[e,xq b0,Rat.add_zero];exact h
 have e:(fun up=>zdo a b p up)=fun up=>qhb (zjj a b) (zjs a b) p up:=by funext up;unfold zdo;rw[Z5 a0,Z5 b0]
 rw[e];by_cases ht:zn a<zn b
 .have e1:zjj a b=b/\zjs a b=a:=by unfold zjj zjs;rw[Z4 ht,Z4 ht];exact⟨rfl,rfl⟩
  rw[e1.1,e1.2,Rat.add_comm];exact qce hb ha b0 a0 O hp
 .have e1:zjj a b=a/\zjs a b=b:=by unfold zjj zjs;rw[Z5 ht,Z5 ht];exact⟨rfl,rfl⟩
  rw[e1.1,e1.2];exact qce ha hb a0 b0 O hp
def inI(q:Rat)(x:Iv):Prop:=x.all=true\/(dv x.lo<=q/\q<=dv x.hi)
theorem KI.dle{x:Iv}(k:KI x):dv x.lo<=dv x.hi:=xg.1 k.le
theorem ztt{x:Iv}(h:CI x)(h1:x.all=false)(h2:dv x.lo<=dv x.hi):KI x:=by
 rcases h with rfl|⟨_,a,b⟩
 .cases h1
 .exact⟨h1,a,b,xg.2 h2⟩
theorem zyj{p:Nat}{y y':Rat}{r r':Dy×Int}(h':RU p (fun z=>y'<=z) r')(h:RU p (fun z=>y<=z) r)(hle:y<=y')(h0:r'.2=0):r.2=0/\dv r.1<=dv r'.1:=by
 obtain⟨a,b⟩:=h'.1 h0;exact h.2 _ b (q0 hle a)
theorem yw{a b:Dy×Int}:(vh a b).all =false<->a.2=0/\b.2=0:=by
 unfold vh;split
 .rename_i h;constructor
  .intro c;cases c
  .rintro⟨h1,h2⟩;exact absurd (by simp[h1,h2]) (not_not_intro h)
 .rename_i h;constructor
  .intro _;exact⟨by simp only[not_or,Decidable.not_not]at h;exact h.1,by simp only[not_or,Decidable.not_not]at h;exact h.2⟩
  .intro _;rfl
theorem xp{a b:Dy×Int}(h:(vh a b).all =false):vh a b=⟨a.1,b.1,false⟩:=by
 have:=yw.1 h;unfold vh;rw[Z5 (by simp[this.1,this.2])]
theorem qe3{p:Nat}{y z:Rat}{F G:Bool->Dy×Int}(hF:RT p y F)(hG:RT p z G){q:Rat}(h1:y<=q)(h2:q<=z):inI q (vh (F false) (G true)):=by
 cases h:(vh (F false) (G true)).all with
 |true=>exact .inl h
 |false=>
  obtain⟨e1,e2⟩:=yw.1 h;rw[xp h];exact .inr ⟨q0 (hF.1.1 e1).1 h1,q0 h2 (hG.2.1 e2).1⟩
theorem zsz{p:Nat}{y z:Rat}{F G:Bool->Dy×Int}(hF:RT p y F)(hG:RT p z G)(hc:CI (vh (F false) (G true)))(h:y<=z):VI (vh (F false) (G true)):=by
 cases ha:(vh (F false) (G true)).all with
 |true=>
  rcases hc with hc|⟨h1,_⟩
  .exact .inr hc
  .rw[ha]at h1;cases h1
 |false=>
  refine .inl (ztt hc ha ?_);obtain⟨e1,e2⟩:=yw.1 ha;rw[xp ha];exact q0 (hF.1.1 e1).1 (q0 h (hG.2.1 e2).1)
theorem zkb{x y:Iv}(hx:RI x)(hy:RI y):(kB x&&kB y)=true<->KI x/\KI y:=by rw[Bool.and_eq_true,zp hx,zp hy]
theorem qij{x:Iv}(h:VI x):x.all=false<->KI x:=by
 rcases h with h|rfl
 .exact⟨fun _=>h,fun _=>h.all⟩
 .exact⟨(fun c=>by cases c),(fun k=>k.all)⟩
theorem zys(q:Rat):inI q wI0:=.inl rfl
theorem zsi{x y:Iv}(hx:KI x)(hy:KI y){p:Int}(hp:pcB p=true):yi x y p=vh (zdo x.lo y.lo p.toNat false) (zdo x.hi y.hi p.toNat true):=by
 unfold yi;rw[Z4 ⟨(zkb hx.ri hy.ri).2 ⟨hx,hy⟩,hp⟩]
theorem qha{x y:Iv}(hx:RI x)(hy:RI y){p:Int}(h:¬(KI x/\KI y)):yi x y p=wI0:=by
 unfold yi;rw[Z5 fun c=>h ((zkb hx hy).1 c.1)]
theorem zfs{x y:Iv}(hx:VI x)(hy:VI y){p:Int}(hp:pcB p=true):VI (yi x y p):=by
 by_cases h:KI x/\KI y
 .rw[zsi h.1 h.2 hp];refine zsz (zgm h.1.lo h.2.lo (qk hp)) (zgm h.1.hi h.2.hi (qk hp)) (by rw[<-zsi h.1 h.2 hp];exact zgr _ _ _) ?_;have:=h.1.dle;have:=h.2.dle;grind
 .rw[qha hx.ri hy.ri h];exact .inr rfl
theorem zi6{x y:Iv}(hx:VI x)(hy:VI y){p:Int}(hp:pcB p=true){a b:Rat}(ha:inI a x)(hb:inI b y):inI (a+b) (yi x y p):=by
 by_cases h:KI x/\KI y
 .rw[zsi h.1 h.2 hp];rcases ha with ha|ha
  .rw[h.1.all]at ha;cases ha
  rcases hb with hb|hb
  .rw[h.2.all]at hb;cases hb
  exact qe3 (zgm h.1.lo h.2.lo (qk hp)) (zgm h.1.hi h.2.hi (qk hp)) (by grind) (by grind)
 .rw[qha hx.ri hy.ri h];exact zys _
theorem qjz{x:Iv}(hx:KI x):zd1 x=⟨jm x.hi,jm x.lo,false⟩:=by unfold zd1;rw[Z4 ((zp hx.ri).2 hx)]
theorem neg_w{x:Iv}(hx:RI x)(h:¬KI x):zd1 x=wI0:=by unfold zd1;rw[Z5 fun c=>h ((zp hx).1 c)]
theorem qcs{x:Iv}(hx:VI x):VI (zd1 x):=by
 by_cases h:KI x
 .rw[qjz h];refine .inl ⟨rfl,ua h.hi,ua h.lo,xg.2 ?_⟩;simp only[xf];have:=h.dle;grind
 .rw[neg_w hx.ri h];exact .inr rfl
theorem qiy{x y:Iv}(hx:VI x)(hy:VI y){p:Int}(hp:pcB p=true):VI (zzf x y p):=zfs hx (qcs hy) hp
def qgc(op:Rat->Rat->Rat)(x y:Iv)(P:Rat->Prop):Prop:=P (op (dv x.lo) (dv y.lo))/\P (op (dv x.lo) (dv y.hi))/\P (op (dv x.hi) (dv y.lo))/\P (op (dv x.hi) (dv y.hi))
def zms(op:Rat->Rat->Rat)(x y:Iv)(P:Rat->Prop):Prop:=P (op (dv x.lo) (dv y.lo))\/P (op (dv x.lo) (dv y.hi))\/P (op (dv x.hi) (dv y.lo))\/P (op (dv x.hi) (dv y.hi))
structure F4(p:Nat)(op:Rat->Rat->Rat)(dn up:Dy->Dy->Dy×Int)(x y:Iv):Prop where
 rt1:RT p (op (dv x.lo) (dv y.lo)) (fun u=>if u=true then up x.lo y.lo else dn x.lo y.lo)
 rt2:RT p (op (dv x.lo) (dv y.hi)) (fun u=>if u=true then up x.lo y.hi else dn x.lo y.hi)
 rt3:RT p (op (dv x.hi) (dv y.lo)) (fun u=>if u=true then up x.hi y.lo else dn x.hi y.lo)
 rt4:RT p (op (dv x.hi) (dv y.hi)) (fun u=>if u=true then up x.hi y.hi else dn x.hi y.hi)
theorem zor{dn up:Dy×Int}{o:Iv}{K:Iv->Iv}(h:(stI dn up o K).all =false):dn.2=0/\up.2=0/\∃o':Iv,stI dn up o K=K o'/\o'.all=false/\(o'.lo=dn.1\/o'.lo=o.lo)/\(o'.hi=up.1\/o'.hi=o.hi)/\dv o'.lo<=dv dn.1/\dv o'.lo<=dv o.lo/\dv up.1<=dv o'.hi/\dv o.hi<=dv o'.hi:=by
 unfold stI at h⊢;by_cases he:dn.2≠0\/up.2≠0
 .rw[Z4 he]at h;cases h
 .rw[Z5 he]at h⊢;simp only[not_or,Decidable.not_not]at he;refine⟨he.1,he.2,_,rfl,rfl,?_,?_,?_,?_,?_,?_⟩
  .simp only;split<;>simp
  .simp only;split<;>simp
  .simp only;split
   .exact q1
   .rename_i hc;have:0<=qo dn.1 o.lo:=O;exact zkt.1 this
  .simp only;split
   .rename_i hc;exact xg.1 O
   .exact q1
  .simp only;split
   .exact q1
   .rename_i hc;exact xg.1 O
  .simp only;split
   .rename_i hc;exact zkt.1 O
   .exact q1
theorem znx{dn up:Dy->Dy->Dy×Int}{x y:Iv}(h:(jy dn up x y).all =false):
 ((dn x.lo y.lo).2=0/\(dn x.lo y.hi).2=0/\(dn x.hi y.lo).2=0/\(dn x.hi y.hi).2=0)/\((up x.lo y.lo).2=0/\(up x.lo y.hi).2=0/\(up x.hi y.lo).2=0/\(up x.hi y.hi).2=0)/\
 (∀t:Rat,t<=dv (dn x.lo y.lo).1->t<=dv (dn x.lo y.hi).1->t<=dv (dn x.hi y.lo).1->t<=dv (dn x.hi y.hi).1->t<=dv (jy dn up x y).lo)/\
 (∀t:Rat,dv (up x.lo y.lo).1<=t->dv (up x.lo y.hi).1<=t->dv (up x.hi y.lo).1<=t->dv (up x.hi y.hi).1<=t->dv (jy dn up x y).hi <=t)/\
 (dv (jy dn up x y).lo <=dv (dn x.lo y.lo).1/\dv (jy dn up x y).lo <=dv (dn x.lo y.hi).1/\dv (jy dn up x y).lo <=dv (dn x.hi y.lo).1/\dv (jy dn up x y).lo <=dv (dn x.hi y.hi).1)/\
 (dv (up x.lo y.lo).1<=dv (jy dn up x y).hi /\dv (up x.lo y.hi).1<=dv (jy dn up x y).hi /\dv (up x.hi y.lo).1<=dv (jy dn up x y).hi /\dv (up x.hi y.hi).1<=dv (jy dn up x y).hi):=by
 rw[zhk]at h⊢;by_cases he:(dn x.lo y.lo).2≠0\/(up x.lo y.lo).2≠0
 .unfold s0I at h;rw[Z4 he]at h;cases h
 have e0:∀K,s0I (dn x.lo y.lo) (up x.lo y.lo) K=K ⟨(dn x.lo y.lo).1,(up x.lo y.lo).1,false⟩:=fun K=>by unfold s0I;rw[Z5 he]
 simp only[not_or,Decidable.not_not]at he;rw[e0]at h⊢;obtain⟨a1,a2,o1,a3,_,a5,a6,a7,a8,a9,a10⟩:=zor h;rw[a3]at h⊢;obtain⟨b1,b2,o2,b3,_,b5,b6,b7,b8,b9,b10⟩:=zor h;rw[b3]at h⊢;obtain⟨c1,c2,o3,c3,_,c5,c6,c7,c8,c9,c10⟩:=zor h;rw[c3];simp only at*;refine⟨⟨he.1,a1,b1,c1⟩,⟨he.2,a2,b2,c2⟩,?_,?_,⟨?_,?_,?_,?_⟩,⟨?_,?_,?_,?_⟩⟩
 .intro t t1 t2 t3 t4;rcases c5 with c|c<;>rw[c]
  .exact t4
  .rcases b5 with c|c<;>rw[c]
   .exact t3
   .rcases a5 with c|c<;>rw[c]
    .exact t2
    .exact t1
 .intro t t1 t2 t3 t4;rcases c6 with c|c<;>rw[c]
  .exact t4
  .rcases b6 with c|c<;>rw[c]
   .exact t3
   .rcases a6 with c|c<;>rw[c]
    .exact t2
    .exact t1
 .exact q0 c8 (q0 b8 a8)
 .exact q0 c8 (q0 b8 a7)
 .exact q0 c8 b7
 .exact c7
 .exact q0 a10 (q0 b10 c10)
 .exact q0 a9 (q0 b10 c10)
 .exact q0 b9 c10
 .exact c9
theorem qme{p:Nat}{op:Rat->Rat->Rat}{dn up:Dy->Dy->Dy×Int}{x y:Iv}(f:F4 p op dn up x y){q:Rat}(h1:zms op x y (fun z=>z<=q))(h2:zms op x y (fun z=>q<=z)):inI q (jy dn up x y):=by
 cases ha:(jy dn up x y).all with
 |true=>exact .inl ha
 |false=>
  obtain⟨d,u,_,_,⟨l1,l2,l3,l4⟩,⟨r1,r2,r3,r4⟩⟩:=znx ha;have g1:=(f.rt1.1.1 d.1).1;have g2:=(f.rt2.1.1 d.2.1).1;have g3:=(f.rt3.1.1 d.2.2.1).1;have g4:=(f.rt4.1.1 d.2.2.2).1;have k1:=(f.rt1.2.1 u.1).1;have k2:=(f.rt2.2.1 u.2.1).1;have k3:=(f.rt3.2.1 u.2.2.1).1;have k4:=(f.rt4.2.1 u.2.2.2).1;simp only[if_true,q5,if_false]at g1 g2 g3 g4 k1 k2 k3 k4;refine .inr ⟨?_,?_⟩
  .rcases h1 with h|h|h|h
   .exact q0 l1 (q0 g1 h)
   .exact q0 l2 (q0 g2 h)
   .exact q0 l3 (q0 g3 h)
   .exact q0 l4 (q0 g4 h)
  .rcases h2 with h|h|h|h
   .exact q0 h (q0 k1 r1)
   .exact q0 h (q0 k2 r2)
   .exact q0 h (q0 k3 r3)
   .exact q0 h (q0 k4 r4)
theorem zwb{a b x1 x2:Rat}(h1:x1<=a)(h2:a<=x2):(x1*b<=a*b\/x2*b<=a*b)/\(a*b<=x1*b\/a*b<=x2*b):=by
 by_cases hb:0<=b
 .exact⟨.inl (qv h1 hb),.inr (qv h2 hb)⟩
 .have hb':0<= -b:=by grind
  have e1:=qv h1 hb';have e2:=qv h2 hb';exact⟨.inr (by grind),.inl (by grind)⟩
theorem zls{a b y1 y2:Rat}(h1:y1<=b)(h2:b<=y2):(a*y1<=a*b\/a*y2<=a*b)/\(a*b<=a*y1\/a*b<=a*y2):=by
 have:=zwb (b:=a) h1 h2;rw[q8 y1,q8 y2,q8 b]at this;exact this
theorem zuf{x y:Iv}{a b:Rat}(h1:dv x.lo<=a)(h2:a<=dv x.hi)(h3:dv y.lo<=b)(h4:b<=dv y.hi):zms (fun u v=>u*v) x y (fun z=>z<=a*b)/\zms (fun u v=>u*v) x y (fun z=>a*b<=z):=by
 obtain⟨m1,m2⟩:=zwb (b:=b) h1 h2;obtain⟨l1,l2⟩:=zls (a:=dv x.lo) h3 h4;obtain⟨u1,u2⟩:=zls (a:=dv x.hi) h3 h4;unfold zms;constructor
 .rcases m1 with m|m
  .rcases l1 with l|l
   .exact .inl (q0 l m)
   .exact .inr (.inl (q0 l m))
  .rcases u1 with l|l
   .exact .inr (.inr (.inl (q0 l m)))
   .exact .inr (.inr (.inr (q0 l m)))
 .rcases m2 with m|m
  .rcases l2 with l|l
   .exact .inl (q0 m l)
   .exact .inr (.inl (q0 m l))
  .rcases u2 with l|l
   .exact .inr (.inr (.inl (q0 m l)))
   .exact .inr (.inr (.inr (q0 m l)))
theorem qf2(F:Bool->Dy×Int):(fun u=>if u=true then F true else F false)=F:=by funext u;cases u<;>rfl
theorem zgp{p:Nat}{y:Rat}{F:Bool->Dy×Int}(h:RT p y F):RT p y (fun u=>if u=true then F true else F false):=by rw[qf2];exact h
theorem qcu{x y:Iv}(hx:KI x)(hy:KI y){p:Nat}(hp:8<=p/\p<=512):F4 p (fun u v=>u*v) (fun a b=>wz a b p false) (fun a b=>wz a b p true) x y:=
 ⟨zgp (zbu hx.lo hy.lo hp),zgp (zbu hx.lo hy.hi hp),zgp (zbu hx.hi hy.lo hp),zgp (zbu hx.hi hy.hi hp)⟩
theorem qct{x y:Iv}(hx:KI x)(hy:KI y){p:Int}(hp:pcB p=true):zax x y p=jy (fun a b=>wz a b p.toNat false) (fun a b=>wz a b p.toNat true) x y:=by
 unfold zax;rw[Z4 ⟨(zkb hx.ri hy.ri).2 ⟨hx,hy⟩,hp⟩]
theorem qj0{x y:Iv}(hx:RI x)(hy:RI y){p:Int}(h:¬(KI x/\KI y)):zax x y p=wI0:=by
 unfold zax;rw[Z5 fun c=>h ((zkb hx hy).1 c.1)]
theorem zq7{x y:Iv}(hx:VI x)(hy:VI y){p:Int}(hp:pcB p=true){a b:Rat}(ha:inI a x)(hb:inI b y):inI (a*b) (zax x y p):=by
 by_cases h:KI x/\KI y
 .rw[qct h.1 h.2 hp];rcases ha with ha|ha
  .rw[h.1.all]at ha;cases ha
  rcases hb with hb|hb
  .rw[h.2.all]at hb;cases hb
  obtain⟨s1,s2⟩:=zuf ha.1 ha.2 hb.1 hb.2;exact qme (qcu h.1 h.2 (qk hp)) s1 s2
 .rw[qj0 hx.ri hy.ri h];exact zys _
theorem za0{x:Iv}(h:CI x){q:Rat}(hq:inI q x):VI x:=by
 cases ha:x.all with
 |true=>
  rcases h with h|⟨h1,_⟩
  .exact .inr h
  .rw[ha]at h1;cases h1
 |false=>
  rcases hq with hq|hq
  .rw[ha]at hq;cases hq
  .exact .inl (ztt h ha (q0 hq.1 hq.2))
theorem zni{x:Iv}(h:VI x):inI (dv x.lo) x:=by
 rcases h with k|rfl
 .exact .inr ⟨q1,k.dle⟩
 .exact zys _
theorem znd{x y:Iv}(hx:VI x)(hy:VI y){p:Int}(hp:pcB p=true):VI (zax x y p):=za0 (zyq x y p) (zq7 hx hy hp (zni hx) (zni hy))
theorem ze0{y:Iv}(hy:KI y):zdr y≠0<->(0<dv y.lo\/dv y.hi<0):=by
 have h1:=(kc y.lo).2.1;have h2:=(kc y.hi).1;unfold zdr;rw[Z4 ((zp hy.ri).2 hy)];by_cases c1:0<vg y.lo
 .rw[Z4 c1];exact⟨fun _=>.inl (h1.1 c1),fun _=>OA⟩
 .rw[Z5 c1];by_cases c2:vg y.hi<0
  .rw[Z4 c2];exact⟨fun _=>.inr (h2.1 c2),fun _=>OA⟩
  .rw[Z5 c2];exact⟨fun c=>absurd rfl c,fun c=>by rcases c with c|c;exact absurd (h1.2 c) c1;exact absurd (h2.2 c) c2⟩
theorem zpj{a b c:Rat}(h:0<a\/c<0)(h1:a<=b)(h2:b<=c):c⁻¹ <=b⁻¹ /\b⁻¹ <=a⁻¹ :=by
 have key:∀u v:Rat,0<u->u<=v->v⁻¹ <=u⁻¹ :=fun u v hu huv=>by
  have hv:0<v:=by grind
  have hi:0<u⁻¹ :=by have:=qR.2 hu;exact this
  have hj:0<v⁻¹ :=by have:=qR.2 hv;exact this
  have e1:v*v⁻¹ =1:=qI v (by grind);have e2:u*u⁻¹ =1:=qI u (by grind);have h3:u*v⁻¹ <=v*v⁻¹ :=qv huv (q4 hj);rw[e1,<-e2]at h3;have h4:v⁻¹ *u<=u⁻¹ *u:=by rw[q8 v⁻¹,q8 u⁻¹];exact h3
  exact zef h4 hu
 rcases h with h|h
 .exact⟨key b c (by grind) h2,key a b h h1⟩
 .have k1:=key (-c) (-b) (by grind) (by grind);have k2:=key (-b) (-a) (by grind) (by grind);have e:∀u:Rat,(-u)⁻¹ = -(u⁻¹):=fun u=>by grind
  rw[e,e]at k1 k2;constructor<;>grind
theorem zug{x y:Iv}{a b:Rat}(hs:0<dv y.lo\/dv y.hi<0)(h1:dv x.lo<=a)(h2:a<=dv x.hi)(h3:dv y.lo<=b)(h4:b<=dv y.hi):zms (fun u v=>u/v) x y (fun z=>z<=a/b)/\zms (fun u v=>u/v) x y (fun z=>a/b<=z):=by
 obtain⟨i1,i2⟩:=zpj hs h3 h4;obtain⟨m1,m2⟩:=zwb (b:=b⁻¹) h1 h2;obtain⟨l1,l2⟩:=zls (a:=dv x.lo) i1 i2;obtain⟨u1,u2⟩:=zls (a:=dv x.hi) i1 i2;have e:∀u v:Rat,u/v=u*v⁻¹ :=fun u v=>Rat.div_def u v
 unfold zms;simp only[e];constructor
 .rcases m1 with m|m
  .rcases l1 with l|l
   .exact .inr (.inl (q0 l m))
   .exact .inl (q0 l m)
  .rcases u1 with l|l
   .exact .inr (.inr (.inr (q0 l m)))
   .exact .inr (.inr (.inl (q0 l m)))
 .rcases m2 with m|m
  .rcases l2 with l|l
   .exact .inr (.inl (q0 m l))
   .exact .inl (q0 m l)
  .rcases u2 with l|l
   .exact .inr (.inr (.inr (q0 m l)))
   .exact .inr (.inr (.inl (q0 m l)))
theorem qac{d:Dy}(h:dv d≠0):nm d≠0:=fun c=>h (xq c)
theorem zr2{x y:Iv}(hx:KI x)(hy:KI y)(hs:0<dv y.lo\/dv y.hi<0){p:Nat}(hp:8<=p/\p<=512):F4 p (fun u v=>u/v) (fun a b=>ui a b p false) (fun a b=>ui a b p true) x y:=by
 have hl:nm y.lo≠0:=qac (by have:=hy.dle;grind);have hh:nm y.hi≠0:=qac (by have:=hy.dle;grind);exact⟨zgp (zgj hx.lo hy.lo hl hp),zgp (zgj hx.lo hy.hi hh hp),zgp (zgj hx.hi hy.lo hl hp),zgp (zgj hx.hi hy.hi hh hp)⟩
theorem zmf{x y:Iv}(hx:KI x)(hy:KI y)(hs:0<dv y.lo\/dv y.hi<0){p:Int}(hp:pcB p=true):xr x y p=jy (fun a b=>ui a b p.toNat false) (fun a b=>ui a b p.toNat true) x y:=by
 unfold xr;rw[Z4 ⟨(zkb hx.ri hy.ri).2 ⟨hx,hy⟩,hp,(ze0 hy).2 hs⟩]
theorem zxn{x y:Iv}(hx:RI x)(hy:RI y){p:Int}(h:¬(KI x/\KI y/\(0<dv y.lo\/dv y.hi<0))):xr x y p=wI0:=by
 unfold xr;rw[Z5 fun c=>?_];obtain⟨k1,k2⟩:=(zkb hx hy).1 c.1;exact h ⟨k1,k2,(ze0 k2).1 c.2.2⟩
theorem zix{x y:Iv}(hx:VI x)(hy:VI y){p:Int}(hp:pcB p=true){a b:Rat}(ha:inI a x)(hb:inI b y):inI (a/b) (xr x y p):=by
 by_cases h:KI x/\KI y/\(0<dv y.lo\/dv y.hi<0)
 .rw[zmf h.1 h.2.1 h.2.2 hp];rcases ha with ha|ha
  .rw[h.1.all]at ha;cases ha
  rcases hb with hb|hb
  .rw[h.2.1.all]at hb;cases hb
  obtain⟨s1,s2⟩:=zug h.2.2 ha.1 ha.2 hb.1 hb.2;exact qme (zr2 h.1 h.2.1 h.2.2 (qk hp)) s1 s2
 .rw[zxn hx.ri hy.ri h];exact zys _
theorem zcp{x y:Iv}(hx:VI x)(hy:VI y){p:Int}(hp:pcB p=true):VI (xr x y p):=za0 (qdw x y p) (zix hx hy hp (zni hx) (zni hy))
theorem qen{x:Iv}(hx:KI x)(hs:0<dv x.lo){p:Int}(hp:pcB p=true):zbw x p=vh (jo x.lo p.toNat false) (jo x.hi p.toNat true):=by
 unfold zbw;rw[Z4 ⟨(zp hx.ri).2 hx,hp,(kc x.lo).2.1.2 hs⟩]
theorem qiz{x:Iv}(hx:RI x){p:Int}(h:¬(KI x/\0<dv x.lo)):zbw x p=wI0:=by
 unfold zbw;rw[Z5 fun c=>h ⟨(zp hx).1 c.1,(kc x.lo).2.1.1 c.2.2⟩]
theorem zj4{d:Dy}(h:0<dv d):d.neg=false/\nm d≠0:=by
 refine⟨zvp ((kc d).2.1.2 h),qac (by grind)⟩
theorem qeo{x:Iv}(hx:VI x){p:Int}(hp:pcB p=true):VI (zbw x p):=by
 by_cases h:KI x/\0<dv x.lo
 .have hh:0<dv x.hi:=by have:=h.1.dle;grind
  obtain⟨n1,n2⟩:=zj4 h.2;obtain⟨n3,n4⟩:=zj4 hh;have l:=(zmr n1 (qk hp) n2).1;have u:=(zmr n3 (qk hp) n4).2;have hc:=zyp x p;rw[qen h.1 h.2 hp]at hc⊢
  cases ha:(vh (jo x.lo p.toNat false) (jo x.hi p.toNat true)).all with
  |true=>
   rcases hc with hc|⟨h1,_⟩
   .exact .inr hc
   .rw[ha]at h1;cases h1
  |false=>
   obtain⟨e1,e2⟩:=yw.1 ha;refine .inl (ztt hc ha ?_);rw[xp ha];have hl:=(l.1 e1).1;have hu:=(u.1 e2).1;simp only;rcases hl with hl|hl
   .exact q0 hl hu.1
   .exact zql hu.1 (q0 hl (q0 h.1.dle hu.2))
 .rw[qiz hx.ri h];exact .inr rfl
def vf(q:Rat):Rat:=if q<0 then-q else q
theorem wu(q:Rat):0<=vf q:=by unfold vf;split<;>grind
theorem zbv(d:Dy):dv (xt d)=vf (dv d):=by
 have h:dv (xt d)=vN (nm d) d.e:=rfl;rw[h];have h2:=zdq (nm d) d.e;unfold dv vf
 cases d.neg with
 |true=>simp only[if_true];split<;>grind
 |false=>simp only[q5,if_false];split<;>grind
theorem znj(a b:Dy):dv (yr a b)<=dv a/\dv (yr a b)<=dv b/\(yr a b=a\/yr a b=b):=by
 unfold yr;split
 .rename_i h;exact⟨q1,xg.1 h,.inl rfl⟩
 .rename_i h;exact⟨zkt.1 O,q1,.inr rfl⟩
theorem xc(a b:Dy):dv a<=dv (uq a b)/\dv b<=dv (uq a b)/\(uq a b=a\/uq a b=b):=by
 unfold uq;split
 .rename_i h;exact⟨q1,zkt.1 h,.inl rfl⟩
 .rename_i h;exact⟨xg.1 O,q1,.inr rfl⟩
theorem zi7{x:Iv}(k:KI x){a:Rat}(h1:dv x.lo<=a)(h2:a<=dv x.hi):0<=dv (zb1 x)/\dv (zb1 x)<=vf a/\vf a<=dv (kz x):=by
 obtain⟨m1,m2,_⟩:=xc (xt x.lo) (xt x.hi);obtain⟨l1,l2,l3⟩:=znj (xt x.lo) (xt x.hi);rw[zbv]at m1 l1;rw[zbv]at m2 l2;have hs:=ze0 k;have n1:=wu (dv x.lo);have n2:=wu (dv x.hi);have hm:kz x=uq (xt x.lo) (xt x.hi):=rfl;rw[hm];have hmag:vf a<=dv (uq (xt x.lo) (xt x.hi)):=by
  have e1: -(dv x.lo)<=vf (dv x.lo):=by unfold vf;split<;>grind
  have e2:dv x.hi<=vf (dv x.hi):=by unfold vf;split<;>grind
  unfold vf at*;grind
 unfold zb1;by_cases h0:zdr x=0
 .rw[Z4 h0,zek];exact⟨q1,wu a,hmag⟩
 .rw[Z5 h0];refine⟨?_,?_,hmag⟩
  .rcases l3 with e|e<;>rw[e,zbv]
   .exact n1
   .exact n2
  .rcases hs.1 h0 with c|c
   .have e1:vf (dv x.lo)=dv x.lo:=by unfold vf;rw[Z5 (by grind)]
    have e2:vf a=a:=by unfold vf;rw[Z5 (by grind)]
    rw[e1]at l1;rw[e2];exact q0 l1 h1
   .have e1:vf (dv x.hi)= -(dv x.hi):=by unfold vf;rw[Z4 c]
    have e2:vf a= -a:=by unfold vf;rw[Z4 (by grind)]
    rw[e1]at l2;rw[e2];grind
def rpw(q:Rat):Nat->Rat
 |0=>1
 |n+1=>rpw q n*q
theorem zqu{q:Rat}(h:0<=q):∀n,0<=rpw q n
 |0=>by show(0:Rat)<=1;decide
 |n+1=>qA (zqu h n) h
theorem zc6{a b c d:Rat}(h0:0<=a)(h1:a<=b)(h2:0<=c)(h3:c<=d):a*c<=b*d:=by
 have e1:a*c<=b*c:=qv h1 h2;have e2:c*b<=d*b:=qv h3 (by grind);rw[q8 c,q8 d]at e2;exact q0 e1 e2
theorem zh0(q:Rat):∀n,rpw (-q) n=if n % 2=0 then rpw q n else-(rpw q n)
 |0=>rfl
 |n+1=>by
  simp only[rpw];rw[zh0 q n];by_cases h:n % 2=0
  .rw[Z4 h,Z5 O];grind
  .rw[Z5 h,Z4 O];grind
theorem za8{d:Dy}{p:Nat}{up:Bool}:∀ {k:Nat}{r:Dy×Int},(yf d p up k r).2=0->r.2=0
 |0,_,h=>h
 |k+1,r,h=>by
  simp only[yf]at h;split at h
  .assumption
  .exact h
theorem zqy{p:Nat}(hp:8<=p/\p<=512){d d':Dy}(hd:VD d)(hd':VD d')(h0:0<=dv d)(hle:dv d<=dv d'):∀k(r r':Dy×Int),VD r.1->VD r'.1->r.2=0->0<=dv r.1->dv r.1<=dv r'.1->(yf d' p true k r').2=0->
 (yf d p true k r).2=0/\0<=dv (yf d p true k r).1/\dv (yf d p true k r).1<=dv (yf d' p true k r').1
 |0,r,r',_,_,e,n,l,_=>⟨e,n,l⟩
 |k+1,r,r',v,v',e,n,l,e'=>by
  have er:=za8 e';simp only[yf]at e'⊢;rw[Z4 er]at e'⊢;rw[Z4 e];have m:=(zbu v hd hp).2;have m':=(zbu v' hd' hp).2;have z0:0<=dv r.1*dv d:=qA n h0;have zz:=zc6 n l h0 hle;have e2:=za8 e';obtain⟨g1,g2⟩:=zyj m' m zz e2;have g3:=(m.1 g1).1;exact zqy hp hd hd' h0 hle k _ _ (kj _ _ _ _ hp) (kj _ _ _ _ hp) g1 (q0 z0 g3) g2 e'
theorem zvn{p n:Nat}(hp:8<=p/\p<=512){d d':Dy}(hd:VD d)(hd':VD d')(h0:0<=dv d)(hle:dv d<=dv d')(he:(zcb d' n p true).2=0):
 (zcb d n p true).2=0/\0<=dv (zcb d n p true).1/\dv (zcb d n p true).1<=dv (zcb d' n p true).1:=by
 have m:=(kd hd hp).2;have m':=(kd hd' hp).2;have e1:=za8 he;obtain⟨g1,g2⟩:=zyj m' m hle e1;have g3:=(m.1 g1).1;exact zqy hp hd hd' h0 hle _ _ _ (wd _ _ _ hp) (wd _ _ _ hp) g1 (q0 h0 g3) g2 he
theorem zh7{p:Nat}(hp:8<=p/\p<=512){d:Dy}(hd:VD d)(h0:0<=dv d){q:Rat}(hq:dv d<=q):∀k j(r:Dy×Int),VD r.1->r.2=0->0<=dv r.1->dv r.1<=rpw q j->dv (yf d p false k r).1<=rpw q (j+k)
 |0,j,r,_,_,_,l=>l
 |k+1,j,r,v,e,n,l=>by
  simp only[yf];rw[Z4 e];have m:=(zbu v hd hp).1;have z0:0<=dv r.1*dv d:=qA n h0;obtain⟨f1,f2⟩:=m.2 0 (.inl (zaz p)) z0;have f3:=(m.1 f1).1;have:=zh7 hp hd h0 hq k (j+1) _ (kj _ _ _ _ hp) f1 f2 (q0 f3 (zc6 n l h0 hq))
  rwa [(O:j+1+k=j+(k+1))]at this
theorem zj1{p n:Nat}(hp:8<=p/\p<=512)(hn:1<=n){d:Dy}(hd:VD d)(h0:0<=dv d){q:Rat}(hq:dv d<=q):dv (zcb d n p false).1<=rpw q n:=by
 have m:=(kd hd hp).1;obtain⟨f1,f2⟩:=m.2 0 (.inl (zaz p)) h0;have f3:=(m.1 f1).1;have:=zh7 hp hd h0 hq (n-1) 1 _ (wd _ _ _ hp) f1 f2 (by simp only[rpw];rw[qL];exact q0 f3 hq)
 rwa [(O:1+(n-1)=n)]at this
theorem zh6{p:Nat}(hp:8<=p/\p<=512){d:Dy}(hd:VD d){q:Rat}(h0:0<=q)(hq:q<=dv d):∀k j(r:Dy×Int),VD r.1->rpw q j<=dv r.1->(yf d p true k r).2=0->rpw q (j+k)<=dv (yf d p true k r).1
 |0,j,r,_,l,_=>l
 |k+1,j,r,v,l,e=>by
  have er:=za8 e;simp only[yf]at e⊢;rw[Z4 er]at e⊢;have m:=(zbu v hd hp).2;have f3:=(m.1 (za8 e)).1;have:=zh6 hp hd h0 hq k (j+1) _ (kj _ _ _ _ hp) (q0 (zc6 (zqu h0 j) l h0 hq) f3) e
  rwa [(O:j+1+k=j+(k+1))]at this
theorem zj0{p n:Nat}(hp:8<=p/\p<=512)(hn:1<=n){d:Dy}(hd:VD d){q:Rat}(h0:0<=q)(hq:q<=dv d)(he:(zcb d n p true).2=0):rpw q n<=dv (zcb d n p true).1:=by
 have m:=(kd hd hp).2;have f3:=(m.1 (za8 he)).1;have:=zh6 hp hd h0 hq (n-1) 1 _ (wd _ _ _ hp) (by simp only[rpw];rw[qL];exact q0 hq f3) he
 rwa [(O:1+(n-1)=n)]at this
theorem zxd{d:Dy}{n p:Nat}{up:Bool}(h:dv d<0):zco d n p up=(jm (zcb (jm d) n p (!up)).1,(zcb (jm d) n p (!up)).2):=by
 unfold zco;rw[Z4 ((kc d).1.2 h)]
theorem zxc{d:Dy}{n p:Nat}{up:Bool}(h:0<=dv d):zco d n p up=zcb d n p up:=by
 unfold zco;rw[Z5 fun c=>by have:=(kc d).1.1 c;grind]
theorem zxe{p n:Nat}(hp:8<=p/\p<=512)(hn:1<=n){d:Dy}(hd:VD d){q:Rat}(hq:dv d<=q)(hpar:n % 2=1\/0<=dv d)(he:(zco d n p false).2=0):dv (zco d n p false).1<=rpw q n:=by
 by_cases c:dv d<0
 .rw[zxd c]at he⊢;have hodd:n % 2=1:=hpar.elim id fun h=>absurd c (by grind)
  have hz:0<=dv (jm d):=by rw[xf];grind
  simp only[xf,Bool.not_false]at he⊢;by_cases cq:q<0
  .have:=zj0 hp hn (ua hd) (q:= -q) (by grind) (by rw[xf];grind) he;rw[zh0,Z5 O]at this;grind
  .obtain⟨_,a3,_⟩:=zvn (n:=n) hp (ua hd) (ua hd) hz q1 he;have:=zqu (q:=q) (by grind) n;grind
 .rw[zxc (by grind)];exact zj1 hp hn hd (by grind) hq
theorem zxb{p n:Nat}(hp:8<=p/\p<=512)(hn:1<=n){d:Dy}(hd:VD d){q:Rat}(hq:q<=dv d)(hpar:n % 2=1\/0<=q)(he:(zco d n p true).2=0):rpw q n<=dv (zco d n p true).1:=by
 by_cases c:dv d<0
 .have hodd:n % 2=1:=hpar.elim id fun h=>absurd c (by grind)
  rw[zxd c];simp only[xf,Bool.not_true];have:=zj1 (n:=n) hp hn (ua hd) (by rw[xf];grind) (q:= -q) (by rw[xf];grind);rw[zh0,Z5 O]at this;grind
 .have h0:0<=dv d:=by grind
  rw[zxc h0]at he⊢;by_cases cq:q<0
  .have hodd:n % 2=1:=hpar.elim id fun h=>absurd cq (by grind)
   obtain⟨_,a3,_⟩:=zvn (n:=n) hp hd hd h0 q1 he;have h1:=zqu (q:= -q) (by grind) n;rw[zh0,Z5 O]at h1;grind
  .exact zj0 hp hn hd (by grind) hq he
theorem zyd{x:Iv}(k:KI x):KI (zon x):=by
 rw[zsk ((zp k.ri).2 k)];have h:=zi7 k (a:=dv x.lo) q1 k.dle;exact⟨rfl,zgn k,zbf k,xg.2 (q0 h.2.1 h.2.2)⟩
theorem qjt{x:Iv}(k:KI x){n p:Int}(hp:pcB p=true)(hn:0<=n/\n<=16):zje x n p=if n=0 then ve (wl 1)else pwK (if n % 2=0 then zon x else x) n.toNat p.toNat:=by
 unfold zje;rw[Z4 ⟨(zp k.ri).2 k,hp,hn⟩]
theorem pow_w{x:Iv}(hx:RI x){n p:Int}(h:¬KI x):zje x n p=wI0:=by
 unfold zje;rw[Z5 fun c=>h ((zp hx).1 c.1)]
theorem kq(n:Int):dv (wl n)=(n:Rat):=by
 unfold wl;rw[zfp];have hv:vN n.natAbs 0=((n.natAbs:Nat):Rat):=by
  unfold vN;have:pw 0=1:=by have:=zca 0;simpa using this
  rw[this,Rat.mul_one]
 rw[hv];by_cases h:n<0
 .rw[Z6 h,Z4 rfl];have e:n= -(n.natAbs:Int):=O;conv=>rhs;rw[e]
  rw[qN,q9]
 .rw[Z7 h,Z5 OA];have e:n=(n.natAbs:Int):=O;conv=>rhs;rw[e]
  rw[q9]
theorem qjr{y:Iv}(k:KI y){n p:Nat}(hp:8<=p/\p<=512)(hn:1<=n){q:Rat}(h1:dv y.lo<=q)(h2:q<=dv y.hi)(hpar:n % 2=1\/0<=dv y.lo):inI (rpw q n) (pwK y n p):=by
 unfold pwK
 cases ha:(vh (zco y.lo n p false) (zco y.hi n p true)).all with
 |true=>exact .inl ha
 |false=>
  obtain⟨e1,e2⟩:=yw.1 ha;rw[xp ha];exact .inr ⟨zxe hp hn k.lo h1 hpar e1,zxb hp hn k.hi h2 (hpar.imp id fun c=>q0 c h1) e2⟩
theorem qjs{x:Iv}(hx:VI x){n p:Int}(hp:pcB p=true)(hn:0<=n/\n<=16){q:Rat}(hq:inI q x):inI (rpw q n.toNat) (zje x n p):=by
 by_cases k:KI x
 .rw[qjt k hp hn];rcases hq with hq|hq
  .rw[k.all]at hq;cases hq
  by_cases h0:n=0
  .subst h0;rw[Z4 rfl];refine .inr ⟨?_,?_⟩
   .show dv (wl 1)<=1;rw[kq];decide
   .show 1<=dv (wl 1);rw[kq];decide
  .rw[Z5 h0];by_cases he:n % 2=0
   .rw[Z4 he];have ka:=zyd k;have ha:=zi7 k hq.1 hq.2;have e:zon x=⟨zb1 x,kz x,false⟩:=zsk ((zp k.ri).2 k);have hr:rpw (vf q) n.toNat=rpw q n.toNat:=by
     unfold vf;split
     .rw[zh0,Z4 O]
     .rfl
    rw[<-hr];refine qjr ka (qk hp) O ?_ ?_ (.inr ?_)
    .rw[e];exact ha.2.1
    .rw[e];exact ha.2.2
    .rw[e];exact ha.1
   .rw[Z5 he];exact qjr k (qk hp) O hq.1 hq.2 (.inl O)
 .rw[pow_w hx.ri k];exact zys _
theorem qju{x:Iv}(hx:VI x){n p:Int}(hp:pcB p=true):VI (zje x n p):=by
 by_cases hn:0<=n/\n<=16
 .exact za0 (qdt x n p) (qjs hx hp hn (zni hx))
 .have:zje x n p=wI0:=by unfold zje;rw[Z5 fun c=>hn c.2.2]
  rw[this];exact .inr rfl
