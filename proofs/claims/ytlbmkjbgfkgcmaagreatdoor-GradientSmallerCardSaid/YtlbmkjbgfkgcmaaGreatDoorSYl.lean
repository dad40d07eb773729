/- Rounding as a law of rational numbers: the greatest number of p bits below a number, the least one above it. -/
import Derived.Test.YtlbmkjbgfkgcmaaGreatDoorSYy
set_option linter.all false
open Bool renaming false_eq_true->q3,and_false->qJ,not_true->qO,not_false->qW,and_self->qX
open Nat renaming two_pow_pos->q2,pow_le_pow_right->qC,lt_of_lt_of_le->qI,pow_add->qK,le_div_iff_mul_le->qM,pos_of_ne_zero->qP,le_of_lt->qR,div_add_mod'->qS,mul_ne_zero->qU,succ_mul->qZ,not_le->w3,mod_lt->w4,not_lt->w5
open Rat renaming le_trans->q0,le_refl->q1,not_le->q9,le_of_lt->qA,intCast_lt_intCast->qB,mul_comm->qD,intCast_natCast->qE,mul_nonneg->qF,mul_lt_mul_of_pos_right->qG,not_lt->qH,lt_irrefl->qL,neg_neg->qN,mul_inv_cancel->qQ,one_mul->qT,intCast_neg->qV,zero_mul->qY,inv_pos->w0
namespace Go.Proofs.YtlbmkjbgfkgcmaaGreatDoor
open Go Go.Sx
set_option maxHeartbeats 2000000
def pw(e:Int):Rat:=(2:Rat)^e
theorem pwA(a b:Int):pw (a+b)=pw a*pw b:=Rat.zpow_add OA a b
theorem zck(e:Int):0<pw e:=Rat.zpow_pos OA
theorem zrw(k:Nat):pw (k:Int)=((2^k:Nat):Rat):=by
 unfold pw;rw[Rat.zpow_natCast,Rat.natCast_pow];rfl
theorem zsh{a b:Nat}:(a:Rat)<=(b:Rat)<->a<=b:=Rat.natCast_le_natCast
theorem zn9(a b:Nat):((a*b:Nat):Rat)=a*b:=Rat.natCast_mul a b
theorem zv6(a b:Nat):((a+b:Nat):Rat)=a+b:=Rat.natCast_add a b
theorem qac(a:Nat):(0:Rat)<=a:=Rat.natCast_nonneg
theorem zxz{a b c:Rat}(h1:a<b)(h2:b<=c):a<c:=by grind
theorem vg{a b c:Rat}(h:a<=b)(hc:0<=c):a*c<=b*c:=Rat.mul_le_mul_of_nonneg_right h hc
theorem zct{a b c:Rat}(h:a*c<=b*c)(hc:0<c):a<=b:=Rat.le_of_mul_le_mul_right h hc
def vN(n:Nat)(e:Int):Rat:=(n:Rat)*pw e
theorem xv{a b:Nat}{e:Int}:vN a e<=vN b e<->a<=b:=by
 unfold vN;constructor
 .intro h;exact zsh.1 (zct h (zck e))
 .intro h;exact vg (zsh.2 h) (qA (zck e))
theorem zl0{a b:Nat}{e:Int}:vN a e<vN b e<->a<b:=by
 have h1:=xv (a:=b) (b:=a) (e:=e);constructor
 .intro h;exact w3.1 fun c=>qH.2 (h1.2 c) h
 .intro h;exact q9.1 fun c=>by have:=h1.1 c;omega
theorem zc9(n k:Nat)(e:Int):vN (n*2^k) e=vN n (e+k):=by
 unfold vN;rw[pwA,zrw,zn9,Rat.mul_assoc,qD (pw e)]
theorem xw(n:Nat)(e u:Int)(h:u<=e):vN n e=vN (n*2^(e-u).toNat) u:=by
 rw[zc9];congr 1;omega
theorem zda(n:Nat)(e:Int):0<=vN n e:=qF (qac n) (qA (zck e))
theorem ur(e:Int):vN 0 e=0:=by unfold vN;rw[show((0:Nat):Rat)=0 from rfl,qY]
theorem znb(e:Int):vN 1 e=pw e:=by unfold vN;rw[show((1:Nat):Rat)=1 from rfl,qT]
theorem zev(k:Nat)(e:Int):vN (2^k) e=pw (e+k):=by
 have:=zc9 1 k e;rw[Nat.one_mul]at this;rw[this,znb]
theorem zi5{a b:Int}:pw a<=pw b<->a<=b:=by
 have key:∀ {a b:Int},a<=b->pw a<=pw b:=fun {a b}h=>by
  rw[<-znb a,<-znb b,xw 1 b a h,xv];have:=q2 (b-a).toNat;omega
 constructor
 .intro h;refine Int.not_lt.1 fun c=>?_
  have h1:pw (b+1)<=pw a:=key O;have h2:pw (b+1)=pw b*2:=by rw[pwA];congr 1
  have h3:=zck b;grind
 .exact key
def dv(d:Dy):Rat:=if d.neg=true then-(vN (nm d) d.e)else vN (nm d) d.e
theorem zle(neg:Bool)(n:Nat)(e:Int):dv (cnN neg n e)=if neg=true then-(vN n e)else vN n e:=by
 by_cases h:n=0
 .subst h;have e1:cnN neg 0 e=d0:=by unfold cnN;rw[Z6 rfl]
  rw[e1,ur];unfold dv;rw[Z7 OA,zsd,ur];split<;>rfl
 .obtain⟨m,hm,hm1,hm2,_⟩:=zep h;have hc:cnN neg n e=⟨neg,toL m,e+tz n⟩:=by unfold cnN;rw[Z7 h,hm2]
  have hv:vN n e=vN m (e+tz n):=by
   conv=>lhs;rw[hm]
   exact zc9 m (tz n) e
  unfold dv;rw[hc,zal,hv]
def inF(p:Nat)(z:Rat):Prop:=∃(k:Nat)(u:Int),z=vN k u/\k<=2^p/\ -16384<=u/\z<pw 16384
theorem zdb{n:Nat}{e t:Int}(h:(bl n:Int)+e<=t):vN n e<pw t:=by
 have h1:vN n e<vN (2^bl n) e:=zl0.2 (zcs n);rw[zev]at h1;exact zxz h1 (zi5.2 O)
theorem yb{n:Nat}{e t:Int}(h:t<(bl n:Int)+e)(hn:n≠0):pw t<=vN n e:=by
 have h0:bl n≠0:=fun c=>hn (uq.1 c)
 have h1:2^(bl n-1)<=n:=(zbr hn).1 O;have h2:vN (2^(bl n-1)) e<=vN n e:=xv.2 h1;rw[zev]at h2;exact q0 (zi5.2 O) h2
theorem zj6(m:Nat)(e p:Int):unN m e p=e+bl m-p\/(unN m e p= -16384/\e+bl m-p<= -16384):=by unfold unN;omega
theorem grid{p:Nat}{k:Nat}{u w:Int}(hk:k<=2^p):(w<=u/\∃j:Nat,vN k u=vN j w)\/(u<w/\vN k u<=pw (w+p-1)):=by
 by_cases h:w<=u
 .exact .inl ⟨h,_,xw k u w h⟩
 .refine .inr ⟨O,?_⟩;have h1:vN k u<=vN (2^p) u:=xv.2 hk;rw[zev]at h1;exact q0 h1 (zi5.2 O)
theorem zgu{m:Nat}{e:Int}{more:Bool}{u:Int}(h:¬u<=e):vN (wt m e more u).1 u<=vN m e/\vN (m+1) e<=vN ((wt m e more u).1+1) u/\((wt m e more u).2=false->more=false/\vN (wt m e more u).1 u=vN m e)/\((wt m e more u).2=true->more=true\/¬vN m e<=vN (wt m e more u).1 u):=by
 unfold wt;rw[Z7 h];simp only;have hk:=q2 (u-e).toNat;have e1:∀n,vN n u=vN (n*2^(u-e).toNat) e:=fun n=>xw n u e O
 have h1:=qS m (2^(u-e).toNat);have h2:=w4 m hk;rw[e1,e1,xv,xv,qZ];refine⟨O,O,?_,?_⟩
 .intro h3;simp only[Bool.or_eq_false_iff,Z5,Decidable.not_not]at h3;refine⟨h3.1,?_⟩
  congr 1;omega
 .intro h3;simp only[Bool.or_eq_true,Z4]at h3;refine h3.imp id fun h4=>?_
  rw[xv];omega
theorem zwz{L:Rat->Prop}(hL:∀a b,a<=b->L b->L a){m:Nat}{e:Int}{more:Bool}{p:Nat}(hp:8<=p/\p<=512)(h0:L (vN m e))(h1:∀z,L z->z<=vN (m+1) e)(h1':¬L (vN (m+1) e))(hx:more=false->∀z,L z->z<=vN m e)(hm:more=true->p<bl m)(he:m=0->e<=16384):
 (zbb m e more p false).2=0/\L (dv (zbb m e more p false).1)/\inF p (dv (zbb m e more p false).1)/\∀z,inF p z->L z->z<=dv (zbb m e more p false).1:=by
 have hub:=zqo m e p;have huc:=zj6 m e p;have hfb:=zjq m e more p;have hup:upN (wt m e more (unN m e p)) false=(wt m e more (unN m e p)).1:=by unfold upN;simp
 have hlead:unN m e p=e+bl m-p->m≠0->pw (unN m e p+p-1)<=vN (wt m e more (unN m e p)).1 (unN m e p)/\pw (unN m e p+p-1)<=vN m e:=by
  intro h hm0;have hb0:bl m≠0:=fun c=>hm0 (uq.1 c)
  have h2:pw (unN m e p+p-1)<=vN m e:=yb O hm0;refine⟨?_,h2⟩;by_cases hu:unN m e p<=e
  .have:vN (wt m e more (unN m e p)).1 (unN m e p)=vN m e:=by
    unfold wt;rw[Z6 hu];exact(xw m e _ hu).symm
   rw[this];exact h2
  .have h3:(wt m e more (unN m e p)).1=m/2^(unN m e p-e).toNat :=by unfold wt;rw[Z7 hu]
   have h4:2^(p-1)<=m/2^(unN m e p-e).toNat :=by
    rw[qM (q2 _),<-qK];exact(zbr hm0).1 O
   rw[h3];have h5:vN (2^(p-1)) (unN m e p)<=vN (m/2^(unN m e p-e).toNat) (unN m e p):=xv.2 h4;rw[zev]at h5;refine q0 (zi5.2 O) h5
 have hq1:L (vN (wt m e more (unN m e p)).1 (unN m e p)):=by
  by_cases hu:unN m e p<=e
  .have:vN (wt m e more (unN m e p)).1 (unN m e p)=vN m e:=by
    unfold wt;rw[Z6 hu];exact(xw m e _ hu).symm
   rw[this];exact h0
  .exact hL _ _ (zgu hu).1 h0
 have hq2:∀j,L (vN j (unN m e p))->vN j (unN m e p)<=vN (wt m e more (unN m e p)).1 (unN m e p):=by
  intro j hj;by_cases hu:unN m e p<=e
  .have hmf:more=false:=by
    cases hmo:more with
    |false=>rfl
    |true=>
     have:=hm hmo;rcases huc with h|h<;>omega
   have:vN (wt m e more (unN m e p)).1 (unN m e p)=vN m e:=by
    unfold wt;rw[Z6 hu];exact(xw m e _ hu).symm
   rw[this];exact hx hmf _ hj
  .rw[xv];refine w5.1 fun c=>?_
   have h3:vN ((wt m e more (unN m e p)).1+1) (unN m e p)<=vN j (unN m e p):=xv.2 c;exact h1' (hL _ _ (q0 (zgu hu).2.1 h3) hj)
 unfold zbb;rw[hup];generalize (wt m e more (unN m e p)).1=q at*;generalize unN m e p=w at*;split
 .rename_i hov;simp only[q3,if_false];have hq0:q≠0:=fun c=>by
   rw[c,ja]at hov;rcases huc with h|h
   .by_cases hm0:m=0
    .have:=he hm0;rw[hm0,ja]at h;omega
    .have h3:=(hlead h hm0).1;rw[c,ur]at h3;exact q9.2 (zck _) h3
   .omega
  have hbig:pw 16384<=vN q w:=yb O hq0;rw[zle,Z7 OA];have hp2:=q2 p;have hlt:vN (2^p-1) (16384-p)<pw 16384:=by
   have:vN (2^p-1) (16384-p)<vN (2^p) (16384-p):=zl0.2 O;rw[zev]at this;have e2:(16384-(p:Int)+p)=16384:=O
   rwa [e2]at this
  refine⟨trivial,hL _ _ (q0 (qA hlt) hbig) hq1,⟨2^p-1,16384-p,rfl,O,O,hlt⟩,fun z hz _=>?_⟩;obtain⟨k,u,rfl,hk,hu,hz16⟩:=hz;rcases grid (w:=16384-p) hk (u:=u)with ⟨_,j,hj⟩|⟨_,hj⟩
  .rw[hj]at hz16⊢;rw[xv];have e3:pw 16384=vN (2^p) (16384-p):=by rw[zev];congr 1;omega
   rw[e3,zl0]at hz16;omega
  .refine q0 hj ?_;have e4:pw (16384-(p:Int)+p-1)=vN (2^(p-1)) (16384-p):=by rw[zev];congr 1;omega
   rw[e4,xv];have:2^p=2*2^(p-1):=by rw[Nat.mul_comm,<-Nat.pow_succ];congr 1;omega
   have:=q2 (p-1);omega
 .rename_i hov;simp only;rw[zle,Z7 OA];refine⟨trivial,hq1,⟨q,w,rfl,?_,hub,zdb O⟩,fun z hz hLz=>?_⟩
  .exact qR (qI (zcs q) (qC OA hfb))
  .obtain⟨k,u,rfl,hk,hu,_⟩:=hz;rcases grid (w:=w) hk (u:=u)with ⟨_,j,hj⟩|⟨hlt,hj⟩
   .rw[hj]at hLz⊢;exact hq2 j hLz
   .rcases huc with h|h
    .by_cases hm0:m=0
     .subst hm0;have hmf:more=false:=by
       cases hmo:more with
       |false=>rfl
       |true=>have:=hm hmo;rw[ja]at this;omega
      have h3:=hx hmf _ hLz;rw[ur]at h3;exact q0 h3 (zda q w)
     .exact q0 hj (hlead h hm0).1
    .omega
theorem znv{a b:Rat}(h1:a<=b)(h2:b<=a):a=b:=by grind
theorem qe7{U:Rat->Prop}(hU:∀a b,a<=b->U a->U b){m:Nat}{e:Int}{more:Bool}{p:Nat}(hp:8<=p/\p<=512)(h0:more=false->U (vN m e))(h0':U (vN (m+1) e))(h1:∀z,U z->vN m e<=z)(h1':more=true->¬U (vN m e))(hm:more=true->p<bl m)(he:m=0->e<=16384):
 ((zbb m e more p true).2=0->U (dv (zbb m e more p true).1)/\inF p (dv (zbb m e more p true).1))/\∀z,inF p z->U z->(zbb m e more p true).2=0/\dv (zbb m e more p true).1<=z:=by
 have hub:=zqo m e p;have huc:=zj6 m e p;have hfb:=zjq m e more p;have hmf:unN m e p<=e->more=false:=fun hu=>by
  cases hmo:more with
  |false=>rfl
  |true=>
   have:=hm hmo;rcases huc with h|h<;>omega
 have hex:unN m e p<=e->vN (wt m e more (unN m e p)).1 (unN m e p)=vN m e/\(wt m e more (unN m e p)).2=false:=fun hu=>by
  have:=hmf hu;unfold wt;rw[Z6 hu];exact⟨(xw m e _ hu).symm,this⟩
 have hA:U (vN (upN (wt m e more (unN m e p)) true) (unN m e p)):=by
  by_cases hu:unN m e p<=e
  .obtain⟨e1,e2⟩:=hex hu;unfold upN;rw[e2];simp only[qJ,q3,if_false];rw[e1];exact h0 (hmf hu)
  .obtain⟨f1,f2,f3,f4⟩:=zgu (m:=m) (more:=more) hu;unfold upN
   cases hF:(wt m e more (unN m e p)).2 with
   |false=>
    simp only[qJ,q3,if_false];obtain⟨g1,g2⟩:=f3 hF;rw[g2];exact h0 g1
   |true=>
    simp only[qX,if_true];exact hU _ _ f2 h0'
 have hB:∀j,U (vN j (unN m e p))->upN (wt m e more (unN m e p)) true<=j:=by
  intro j hj;have hle:=h1 _ hj;by_cases hu:unN m e p<=e
  .obtain⟨e1,e2⟩:=hex hu;unfold upN;rw[e2];simp only[qJ,q3,if_false];rw[<-e1,xv]at hle;exact hle
  .obtain⟨f1,f2,f3,f4⟩:=zgu (m:=m) (more:=more) hu;unfold upN
   cases hF:(wt m e more (unN m e p)).2 with
   |false=>
    simp only[qJ,q3,if_false];obtain⟨g1,g2⟩:=f3 hF;rw[<-g2,xv]at hle;exact hle
   |true=>
    simp only[qX,if_true];refine w3.1 fun c=>?_
    have h3:vN j (unN m e p)<=vN (wt m e more (unN m e p)).1 (unN m e p):=xv.2 c;rcases f4 hF with h|h
    .refine h1' h ?_;rw[znv hle (q0 h3 f1)];exact hj
    .exact h (q0 hle h3)
 have hq0:m=0->upN (wt m e more (unN m e p)) true=0:=fun h=>by
  have hmo:more=false:=by
   cases hmo:more with
   |false=>rfl
   |true=>have:=hm hmo;rw[h,ja]at this;omega
  subst h hmo;unfold wt upN;split<;>simp
 have hle:upN (wt m e more (unN m e p)) true<=2^p:=by
  have h3:(wt m e more (unN m e p)).1<2^p:=qI (zcs _) (qC OA hfb);unfold upN;split<;>omega
 have hlead:∀z,U z->z<=pw (unN m e p+p-1)->unN m e p=e+bl m-p->vN (upN (wt m e more (unN m e p)) true) (unN m e p)<=z:=by
  intro z hz hz2 h;by_cases hm0:m=0
  .rw[hq0 hm0,ur];exact q0 (zda m e) (h1 z hz)
  .have hb0:bl m≠0:=fun c=>hm0 (uq.1 c)
   have h2:pw (unN m e p+p-1)<=vN m e:=yb O hm0;have h3:z=vN (2^(p-1)) (unN m e p):=by
    rw[zev];have:unN m e p+((p-1:Nat):Int)=unN m e p+p-1:=O;rw[this];exact znv hz2 (q0 h2 (h1 z hz))
   rw[h3]at hz⊢;exact xv.2 (hB _ hz)
 have hall:∀z,inF p z->U z->vN (upN (wt m e more (unN m e p)) true) (unN m e p)<=z:=by
  intro z hz hUz;obtain⟨k,u,rfl,hk,hu,_⟩:=hz;rcases grid (w:=unN m e p) hk (u:=u)with ⟨_,j,hj⟩|⟨hlt,hj⟩
  .rw[hj]at hUz⊢;exact xv.2 (hB j hUz)
  .rcases huc with h|h
   .exact hlead _ hUz hj h
   .omega
 unfold zbb;generalize upN (wt m e more (unN m e p)) true=q at*;generalize unN m e p=w at*;by_cases hov:16384<(bl q:Int)+w
 .rw[Z6 hov];simp only[if_true];refine⟨fun h=>absurd h OA,fun z hz hUz=>?_⟩;have hqn:q≠0:=fun c=>by
   rw[c,ja]at hov;rcases huc with h|h
   .by_cases hm0:m=0
    .have:=he hm0;rw[hm0,ja]at h;omega
    .have hb0:bl m≠0:=fun c=>hm0 (uq.1 c)
     rw[c,ur]at hA;have h3:=h1 _ hA;have h4:pw (w+p-1)<=vN m e:=yb O hm0;exact q9.2 (zck _) (q0 h4 h3)
   .omega
  have h3:=hall z hz hUz;have h4:pw 16384<=vN q w:=yb O hqn;obtain⟨_,_,_,_,_,h5⟩:=hz;exact absurd (q0 h4 h3) (q9.2 h5)
 .rw[Z7 hov];simp only;rw[zle,Z7 OA];exact⟨fun _=>⟨hA,q,w,rfl,hle,hub,zdb O⟩,fun z hz hUz=>⟨trivial,hall z hz hUz⟩⟩
def Fp(p:Nat)(z:Rat):Prop:=inF p z\/inF p (-z)
def RD(p:Nat)(L:Rat->Prop)(r:Dy×Int):Prop:=(r.2=0->L (dv r.1)/\Fp p (dv r.1))/\∀z,Fp p z->L z->r.2=0/\z<=dv r.1
def RU(p:Nat)(U:Rat->Prop)(r:Dy×Int):Prop:=(r.2=0->U (dv r.1)/\Fp p (dv r.1))/\∀z,Fp p z->U z->r.2=0/\dv r.1<=z
theorem ji{d:Dy}:dv (kc d)= -dv d:=by
 unfold kc dv;by_cases h:nm d=0
 .rw[Z6 h,Z7 OA,zsd,h,ur,ur];split<;>rfl
 .rw[Z7 h];have h2:nm ⟨!d.neg,d.m,d.e⟩=nm d:=rfl;rw[h2];cases d.neg<;>simp
theorem zld:dv d0=0:=by
 unfold dv;rw[Z7 OA,zsd,ur]
theorem xt(p:Nat):inF p 0:=⟨0,0,(ur 0).symm,Nat.zero_le _,OA,zck _⟩
theorem zh1{p:Nat}{z:Rat}(h:inF p z):0<=z:=by
 obtain⟨k,u,rfl,_⟩:=h;exact zda k u
theorem znu{L U:Rat->Prop}{m:Nat}{e:Int}{more:Bool}{p:Nat}(hp:8<=p/\p<=512)(neg:Bool)
 (hL:∀a b,a<=b->L b->L a) (hU:∀a b,a<=b->U a->U b) (l0:L (vN m e)) (l1:∀z,L z->z<=vN (m+1) e) (l1':¬L (vN (m+1) e)) (lx:more=false->∀z,L z->z<=vN m e)
 (u0:more=false->U (vN m e)) (u0':U (vN (m+1) e)) (u1:∀z,U z->vN m e<=z) (u1':more=true->¬U (vN m e)) (hm:more=true->p<bl m) (he:m=0->e<=16384):
 RD p (fun z=>if neg=true then U (-z)else L z) (zar neg m e more p false)/\RU p (fun z=>if neg=true then L (-z)else U z) (zar neg m e more p true):=by
 have hL0:L 0:=hL _ _ (zda m e) l0;obtain⟨d1,d2,d3,d4⟩:=zwz hL hp l0 l1 l1' lx hm he;obtain⟨c1,c2⟩:=qe7 hU hp u0 u0' u1 u1' hm he;have hUn:∀z,U z->0<=z:=fun z hz=>q0 (zda m e) (u1 z hz)
 have hr0:0<=dv (zbb m e more p false).1:=zh1 d3
 cases neg with
 |false=>
  have e1:zar false m e more p false=zbb m e more p false:=by unfold zar;rw[Z7 OC];rfl
  have e2:zar false m e more p true=zbb m e more p true:=by unfold zar;rw[Z7 OC];rfl
  rw[e1,e2];refine⟨⟨fun _=>⟨by simpa using d2,.inl d3⟩,fun z hz hz2=>⟨d1,?_⟩⟩,⟨fun h=>?_,fun z hz hz2=>?_⟩⟩
  .rcases hz with hz|hz
   .exact d4 z hz (by simpa using hz2)
   .have:=zh1 hz;grind
  .obtain⟨h1,h2⟩:=c1 h;exact⟨by simpa using h1,.inl h2⟩
  .have hz3:U z:=by simpa using hz2
   rcases hz with hz|hz
   .exact c2 z hz hz3
   .have h3:=zh1 hz;have h4:=hUn z hz3;have h5:z=0:=by grind
    subst h5;exact c2 0 (xt p) hz3
 |true=>
  have e1:zar true m e more p false=if(zbb m e more p true).2=0 then(kc (zbb m e more p true).1,0)else zbb m e more p true:=by
   unfold zar;simp only[and_true];rfl
  have e2:zar true m e more p true=(kc (zbb m e more p false).1,0):=by
   unfold zar;simp only[and_true];rw[Z6 (by exact d1)];rfl
  rw[e1,e2];refine⟨⟨fun h=>?_,fun z hz hz2=>?_⟩,⟨fun _=>?_,fun z hz hz2=>⟨rfl,?_⟩⟩⟩
  .by_cases hc:(zbb m e more p true).2=0
   .rw[Z6 hc];obtain⟨h1,h2⟩:=c1 hc;simp only[ji,if_true];refine⟨?_,.inr ?_⟩
    .rw[qN];exact h1
    .rw[qN];exact h2
   .rw[Z7 hc]at h;exact absurd h hc
  .have hz3:U (-z):=by simpa using hz2
   have hz4:inF p (-z):=by
    rcases hz with hz|hz
    .have h3:=zh1 hz;have h4:=hUn _ hz3;have h5:z=0:=by grind
     subst h5;have:(-0:Rat)=0:=by grind
     rw[this];exact xt p
    .exact hz
   obtain⟨h1,h2⟩:=c2 _ hz4 hz3;rw[Z6 h1];refine⟨rfl,?_⟩;simp only[ji];grind
  .simp only[ji,if_true];refine⟨?_,.inr ?_⟩
   .rw[qN];exact d2
   .rw[qN];exact d3
  .have hz3:L (-z):=by simpa using hz2
   simp only[ji];rcases hz with hz|hz
   .have:=zh1 hz;grind
   .have:=d4 _ hz hz3;grind
theorem RD.congr{p:Nat}{L L':Rat->Prop}{r:Dy×Int}(h:RD p L r)(hl:∀z,L z<->L' z):RD p L' r:=
 ⟨fun e=>⟨(hl _).1 (h.1 e).1,(h.1 e).2⟩,fun z hz hz2=>h.2 z hz ((hl z).2 hz2)⟩
theorem RU.congr{p:Nat}{U U':Rat->Prop}{r:Dy×Int}(h:RU p U r)(hl:∀z,U z<->U' z):RU p U' r:=
 ⟨fun e=>⟨(hl _).1 (h.1 e).1,(h.1 e).2⟩,fun z hz hz2=>h.2 z hz ((hl z).2 hz2)⟩
def RT(p:Nat)(y:Rat)(F:Bool->Dy×Int):Prop:=RD p (fun z=>z<=y) (F false)/\RU p (fun z=>y<=z) (F true)
theorem zff{x:Rat}{m:Nat}{e:Int}{more:Bool}{p:Nat}(hp:8<=p/\p<=512)(neg:Bool)(h1:vN m e<=x)(h2:x<vN (m+1) e)(h3:more=false->x=vN m e)(h4:more=true->vN m e<x)(hm:more=true->p<bl m)(he:m=0->e<=16384):
 RT p (if neg=true then-x else x) (fun up=>zar neg m e more p up):=by
 obtain⟨a,b⟩:=znu (L:=fun z=>z<=x) (U:=fun z=>x<=z) hp neg (fun a b h1 h2=>q0 h1 h2) (fun a b h1 h2=>q0 h2 h1) h1 (fun z hz=>q0 hz (qA h2)) (q9.2 h2)
  (fun h z hz=>by rw[<-h3 h];exact hz) (fun h=>by rw[h3 h];exact q1) (qA h2) (fun z hz=>q0 h1 hz) (fun h=>q9.2 (h4 h)) hm he
 refine⟨a.congr fun z=>?_,b.congr fun z=>?_⟩
 .cases neg with
  |true=>simp only[if_true];constructor<;>intro h<;>grind
  |false=>simp
 .cases neg with
  |true=>simp only[if_true];constructor<;>intro h<;>grind
  |false=>simp
theorem zd9(m:Nat)(e:Int):vN m e<vN (m+1) e:=zl0.2 (Nat.lt_succ_self m)
theorem zdh{m:Nat}{e:Int}{p:Nat}(hp:8<=p/\p<=512)(neg:Bool)(he:m=0->e<=16384):
 RT p (if neg=true then-(vN m e)else vN m e) (fun up=>zar neg m e false p up):=
 zff hp neg q1 (zd9 m e) (fun _=>rfl) (fun h=>by cases h) (fun h=>by cases h) he
theorem kb{d:Dy}(hd:VD d){p:Nat}(hp:8<=p/\p<=512):RT p (dv d) (fun up=>qr d p up):=by
 have:=zdh (m:=nm d) (e:=d.e) hp d.neg (fun _=>hd.exp.2.1);exact this
theorem zql(a b:Nat)(e f:Int):vN a e*vN b f=vN (a*b) (e+f):=by
 unfold vN;rw[pwA,zn9];grind
theorem qe4{a b:Dy}:dv a*dv b=if(a.neg != b.neg)=true then-(vN (nm a*nm b) (a.e+b.e))else vN (nm a*nm b) (a.e+b.e):=by
 rw[<-zql];unfold dv;cases a.neg<;>cases b.neg<;>simp<;>grind
theorem zqi{d:Dy}(h:VD d)(h0:nm d=0):d.e=0:=by
 rcases h.ok with ⟨_,_,h3⟩|⟨h3,_⟩
 .exact h3
 .omega
theorem za4{a b:Dy}(ha:VD a)(hb:VD b){p:Nat}(hp:8<=p/\p<=512):RT p (dv a*dv b) (fun up=>jt a b p up):=by
 rw[qe4];refine zdh hp _ fun h=>?_
 have a2:=ha.exp;have b2:=hb.exp;rcases Nat.mul_eq_zero.1 h with h|h
 .have:=zqi ha h;omega
 .have:=zqi hb h;omega
theorem zxp{n:Nat}(e:Int)(h:n≠0):0<vN n e:=by
 rw[<-ur e,zl0];omega
theorem zyh{a b c:Rat}(hb:0<b):c<=a/b<->c*b<=a:=by
 have e:a/b*b=a:=by grind
 constructor
 .intro h;have:=vg h (qA hb)
  rwa [e]at this
 .intro h;exact zct (by rw[e];exact h) hb
theorem qe6{a b c:Rat}(hb:0<b):a/b<c<->a<c*b:=by
 have:=zyh (a:=a) (c:=c) hb;constructor
 .intro h;exact q9.1 fun x=>q9.2 h (this.2 x)
 .intro h;exact q9.1 fun x=>q9.2 h (this.1 x)
theorem zoy{x y p:Nat}(hx:x≠0)(hy:y≠0):p<bl (x*2^(p+3+bl y-bl x)/y):=by
 have hk:=zu x (p+3+bl y-bl x) hx;generalize x*2^(p+3+bl y-bl x)=X at*;have hX:X≠0:=fun c=>by rw[c,ja]at hk;have:bl x≠0:=fun c=>hx (uq.1 c);omega
 have h1:2^(p+2+bl y)<=X:=(zbr hX).1 O;have h2:2^(p+2)<=X/y:=by
  rw[qM (qP hy)];rw[qK]at h1;exact Nat.le_trans (Nat.mul_le_mul_left _ (qR (zcs y))) h1
 have h3:X/y≠0:=by have:=q2 (p+2);omega
 have:=(zbr h3).2 h2;omega
theorem zlj{a b:Dy}(ha:VD a)(hb':VD b)(hb0:nm b≠0){p:Nat}(hp:8<=p/\p<=512):RT p (dv a/dv b) (fun up=>kp a b p up):=by
 have hb:0<vN (nm b) b.e:=zxp _ hb0;have hv:dv a/dv b=if(a.neg != b.neg)=true then-(vN (nm a) a.e/vN (nm b) b.e)else vN (nm a) a.e/vN (nm b) b.e:=by
  unfold dv;cases a.neg<;>cases b.neg<;>simp<;>grind
 have hD:(fun up=>kp a b p up)=fun up=>zar (a.neg != b.neg) (nm a*2^zab a b p/nm b) (a.e-zab a b p-b.e) (decide (nm a*2^zab a b p % nm b≠0)) p up:=by
  funext up;unfold kp;rw[Z7 hb0]
 rw[hv,hD];have hx:vN (nm a) a.e=vN (nm a*2^zab a b p) (a.e-zab a b p):=by rw[zc9];congr 1;omega
 have hq:∀q,vN q (a.e-zab a b p-b.e)*vN (nm b) b.e=vN (q*nm b) (a.e-zab a b p):=fun q=>by rw[zql];congr 1;omega
 have hdm:=qS (nm a*2^zab a b p) (nm b);have hml:=w4 (nm a*2^zab a b p) (qP hb0);refine zff hp _ ?_ ?_ ?_ ?_ ?_ ?_
 .rw[zyh hb,hq,hx,xv];omega
 .rw[qe6 hb,hq,hx,zl0,qZ];omega
 .intro h;have h:nm a*2^zab a b p % nm b=0:=by simpa using h
  have e1:vN (nm a*2^zab a b p/nm b) (a.e-zab a b p-b.e)*vN (nm b) b.e=vN (nm a) a.e:=by
   rw[hq,hx];congr 1;omega
  rw[<-e1];have:vN (nm b) b.e≠0:=fun c=>by rw[c]at hb;grind
  grind
 .intro h;have h:nm a*2^zab a b p % nm b≠0:=by simpa using h
  refine q9.1 fun c=>?_
  have h2:=vg c (qA hb);have e1:vN (nm a) a.e/vN (nm b) b.e*vN (nm b) b.e=vN (nm a) a.e:=by
   have:vN (nm b) b.e≠0:=fun c=>by rw[c]at hb;grind
   grind
  rw[e1,hq,hx,xv]at h2;omega
 .intro h;have h:nm a*2^zab a b p % nm b≠0:=by simpa using h
  have ha0:nm a≠0:=fun c=>by rw[c,Nat.zero_mul,Nat.zero_mod]at h;exact h rfl
  exact zoy ha0 hb0
 .intro h;by_cases ha0:nm a=0
  .have h1:=zqi ha ha0;have h2:=hb'.exp;omega
  .have:=zoy (p:=p) ha0 hb0;have h2:nm a*2^zab a b p/nm b=nm a*2^(p+3+bl (nm b)-bl (nm a))/nm b:=rfl;rw[<-h2,h,ja]at this;omega
def sqL(v z:Rat):Prop:=z<=0\/z*z<=v
def sqU(v z:Rat):Prop:=0<=z/\v<=z*z
theorem ziv{a b:Rat}(h0:0<=a)(h:a<=b):a*a<=b*b:=by
 have h1:a*a<=b*a:=vg h h0;have h2:a*b<=b*b:=vg h (by grind);grind
theorem znn{a b:Rat}(h0:0<=b)(h:a*a<=b*b):a<=b:=by
 refine qH.1 fun c=>?_
 have h1:b*b<=b*a:=by
  have:=vg (qA c) h0;grind
 have h2:b*a<a*a:=by
  have:=qG c (show 0<a by grind);exact this
 grind
theorem zac{d:Dy}(hn:d.neg=false){p:Nat}(hp:8<=p/\p<=512)(h0:nm d≠0):RD p (sqL (dv d)) (ua d p false)/\RU p (sqU (dv d)) (ua d p true):=by
 have hdv:dv d=vN (nm d) d.e:=by unfold dv;rw[hn,Z7 OA]
 have hpar:(d.e-sqK d p) % 2=0:=by unfold sqK;split<;>omega
 have hD:∀up,ua d p up=zar false (sqN (nm d*2^sqK d p)) ((d.e-sqK d p)/2) (decide (sqN (nm d*2^sqK d p)*sqN (nm d*2^sqK d p)≠nm d*2^sqK d p)) p up:=fun up=>by
  unfold ua zar;rw[Z7 h0,Z7 OC];cases up<;>rfl
 have hx:dv d=vN (nm d*2^sqK d p) (d.e-sqK d p):=by rw[hdv,zc9];congr 1;omega
 have hs:∀q,vN q ((d.e-sqK d p)/2)*vN q ((d.e-sqK d p)/2)=vN (q*q) (d.e-sqK d p):=fun q=>by rw[zql];congr 1;omega
 obtain⟨s1,s2⟩:=ziw (nm d*2^sqK d p);have hM:2^(2*p+3)<=nm d*2^sqK d p:=by
  have hk:=zu (nm d) (sqK d p) h0;have hne:nm d*2^sqK d p≠0:=qU h0 (by have:=q2 (sqK d p);omega);refine(zbr hne).1 ?_;have:2*p+4-bl (nm d)<=sqK d p:=by unfold sqK;split<;>omega
  omega
 have hbits:p<bl (sqN (nm d*2^sqK d p)):=by
  have h1:2^(p+1)<=sqN (nm d*2^sqK d p):=by
   refine w5.1 fun c=>?_
   have h2:(sqN (nm d*2^sqK d p)+1)*(sqN (nm d*2^sqK d p)+1)<=2^(p+1)*2^(p+1):=Nat.mul_le_mul c c;rw[<-qK]at h2;have h3:2^(p+1+(p+1))<=2^(2*p+3):=qC OA O;omega
  have hne:sqN (nm d*2^sqK d p)≠0:=by have:=q2 (p+1);omega
  have:=(zbr hne).2 h1;omega
 rw[hD,hD,hx];generalize nm d*2^sqK d p=M at*;generalize sqN M=s at*;generalize (d.e-(sqK d p:Int))/2=e at*;generalize d.e-(sqK d p:Int)=f at*;have hv0:0<=vN M f:=zda M f;have l0:vN s e*vN s e<=vN M f:=by rw[hs,xv];exact s1
 have l1:vN M f<vN (s+1) e*vN (s+1) e:=by rw[hs,zl0];exact s2
 obtain⟨a,b⟩:=znu (L:=sqL (vN M f)) (U:=sqU (vN M f)) (m:=s) (e:=e) (more:=decide (s*s≠M)) hp false
  (fun a b h1 h2=>by
    rcases h2 with h2|h2
    .exact .inl (q0 h1 h2)
    .by_cases ha:a<=0
     .exact .inl ha
     .exact .inr (q0 (ziv (qA (q9.1 ha)) h1) h2))
  (fun a b h1 h2=>⟨q0 h2.1 h1,q0 h2.2 (ziv h2.1 h1)⟩)
  (.inr l0)
  (fun z hz=>by
    rcases hz with hz|hz
    .exact q0 hz (zda _ _)
    .exact znn (zda _ _) (q0 hz (qA l1)))
  (fun h=>by
    rcases h with h|h
    .exact q9.2 (zxp e (Nat.succ_ne_zero s)) h
    .exact q9.2 l1 h)
  (fun h z hz=>by
    have h:s*s=M:=by simpa using h
    rcases hz with hz|hz
    .exact q0 hz (zda _ _)
    .refine znn (zda _ _) ?_;rw[hs,h];exact hz)
  (fun h=>by
    have h:s*s=M:=by simpa using h
    exact⟨zda _ _,by rw[hs,h];exact q1⟩)
  ⟨zda _ _,qA l1⟩
  (fun z hz=>znn hz.1 (q0 l0 hz.2))
  (fun h hU=>by
    have h:s*s≠M:=by simpa using h
    have h2:=hU.2;rw[hs,xv]at h2;omega)
  (fun _=>hbits)
  (fun h=>by rw[h,ja]at hbits;omega)
 exact⟨a.congr fun z=>OC,b.congr fun z=>OC⟩
theorem qa4(d:Dy)(t:Int)(h:t<=d.e):dv d=(zi d t:Rat)*pw t:=by
 have e:vN (nm d) d.e=((nm d*2^(d.e-t).toNat :Nat):Rat)*pw t:=by rw[xw _ _ t h];rfl
 unfold dv zi;rw[e]
 cases d.neg with
 |true=>
  simp only[if_true,qV,qE];rw[Rat.neg_mul]
 |false=>
  simp only[q3,if_false,qE]
theorem zkj(x y:Int):(zr7 x y<0<->x<y)/\(0<zr7 x y<->y<x)/\(zr7 x y=0<->x=y):=by
 unfold zr7;split
 .omega
 .split<;>omega
theorem zaf{x y t:Rat}(ht:0<t):x*t<y*t<->x<y:=by
 constructor
 .intro h;exact q9.1 fun c=>q9.2 h (vg c (qA ht))
 .intro h;exact qG h ht
theorem zlq(a b:Dy):(qd a b<0<->dv a<dv b)/\(0<qd a b<->dv b<dv a)/\(qd a b=0<->dv a=dv b):=by
 have ha:=qa4 a (min a.e b.e) O;have hb:=qa4 b (min a.e b.e) O;have hp:=zck (min a.e b.e);obtain⟨h1,h2,h3⟩:=zkj (zi a (min a.e b.e)) (zi b (min a.e b.e));rw[ha,hb];unfold qd;rw[h1,h2,h3,zaf hp,zaf hp,qB,qB];refine⟨Iff.rfl,Iff.rfl,⟨fun h=>by rw[h],fun h=>?_⟩⟩;have h4:¬((zi a (min a.e b.e):Rat)<zi b (min a.e b.e)):=fun c=>by have:=(zaf hp).2 c;rw[h]at this;exact qL this
 have h5:¬((zi b (min a.e b.e):Rat)<zi a (min a.e b.e)):=fun c=>by have:=(zaf hp).2 c;rw[h]at this;exact qL this
 rw[qB]at h4 h5;omega
theorem ui{a b:Dy}:qd a b<=0<->dv a<=dv b:=by
 have h:=(zlq a b).2.1;constructor
 .intro h1;exact qH.1 fun c=>by have:=h.2 c;omega
 .intro h1;exact Int.not_lt.1 fun c=>qH.2 h1 (h.1 c)
theorem zo4{a b:Dy}:0<=qd a b<->dv b<=dv a:=by
 have h:=(zlq a b).1;constructor
 .intro h1;exact qH.1 fun c=>by have:=h.2 c;omega
 .intro h1;exact Int.not_lt.1 fun c=>qH.2 h1 (h.1 c)
theorem yq(d:Dy):(qx d<0<->dv d<0)/\(0<qx d<->0<dv d)/\(qx d=0<->dv d=0):=by
 have ha:=qa4 d d.e (Int.le_refl _);have hp:=zck d.e;obtain⟨h1,h2,h3⟩:=zkj (zi d d.e) 0;rw[zm6 d d.e,h1,h2,h3,ha];have e0:(0:Rat)=((0:Int):Rat)*pw d.e:=by rw[show((0:Int):Rat)=0 from rfl,qY]
 have g1:(zi d d.e:Rat)*pw d.e<0<->zi d d.e<0:=by
  conv=>lhs;rhs;rw[e0]
  rw[zaf hp,qB]
 have g2:0<(zi d d.e:Rat)*pw d.e<->0<zi d d.e:=by
  conv=>lhs;lhs;rw[e0]
  rw[zaf hp,qB]
 refine⟨g1.symm,g2.symm,⟨fun h=>by rw[h];exact e0.symm,fun h=>?_⟩⟩;have k1:¬zi d d.e<0:=fun c=>by have:=g1.2 c;rw[h]at this;exact qL this
 have k2:¬0<zi d d.e:=fun c=>by have:=g2.2 c;rw[h]at this;exact qL this
 omega
theorem zqm(a b:Nat)(e:Int):vN a e+vN b e=vN (a+b) e:=by unfold vN;rw[zv6,Rat.add_mul]
theorem zna{a b:Nat}(h:b<=a)(e:Int):vN a e-vN b e=vN (a-b) e:=by
 have:=zqm (a-b) b e;rw[(O:a-b+b=a)]at this;grind
theorem zti(n:Nat)(e w:Int):vN (wt n e false w).1 w<=vN n e/\vN n e<vN ((wt n e false w).1+1) w/\((wt n e false w).2=false->vN n e=vN (wt n e false w).1 w)/\((wt n e false w).2=true->vN (wt n e false w).1 w<vN n e/\e<w):=by
 by_cases h:w<=e
 .have e1:wt n e false w=(n*2^(e-w).toNat,false):=by unfold wt;rw[Z6 h]
  have e2:=xw n e w h;rw[e1];simp only;rw[<-e2];refine⟨q1,?_,fun _=>rfl,fun c=>by cases c⟩;rw[e2];exact zd9 _ _
 .obtain⟨h1,h2,h3,h4⟩:=zgu (m:=n) (more:=false) h;refine⟨h1,zxz (zd9 n e) h2,fun c=>(h3 c).2.symm,fun c=>⟨?_,O⟩⟩;rcases h4 c with h5|h5
  .cases h5
  .exact q9.1 h5
theorem zxt{c d:Dy}(hc:VD c)(hd:VD d)(c0:nm c≠0)(d0':nm d≠0)(hle:zg d<=zg c){p:Nat}(hp:8<=p/\p<=512):RT p (dv c+dv d) (fun up=>qbr c d p up):=by
 obtain⟨l1,l2,l3,l4⟩:=zmm hc hd c0 hle d0' hp;have tc:zg c=bl (nm c)+c.e:=by unfold zg;rw[Z7 c0]
 have td:zg d=bl (nm d)+d.e:=by unfold zg;rw[Z7 d0']
 have hlow:d.e<jz c d p->jz c d p<=zg c-p-8/\2<zg c-zg d:=fun h=>by
  unfold jz at h⊢;by_cases h2:zg c-zg d<=2
  .rw[Z6 h2]at h;omega
  .rw[Z7 h2];omega
 obtain⟨f1,f2,f3,f4⟩:=zti (nm d) d.e (jz c d p);have hXv:vN (nm c) c.e=vN (nm c*2^(c.e-jz c d p).toNat) (jz c d p):=xw _ _ _ l1;have hXb:=zu (nm c) (c.e-jz c d p).toNat c0;have hFb:d.e<jz c d p->(wt (nm d) d.e false (jz c d p)).1<2^(zg d-jz c d p).toNat :=fun h=>by
  have e1:(wt (nm d) d.e false (jz c d p)).1=nm d/2^(jz c d p-d.e).toNat :=by unfold wt;rw[Z7 O]
  rw[e1,Nat.div_lt_iff_lt_mul (q2 _),<-qK];exact qI (zcs (nm d)) (qC OA O)
 have hxv:∀y:Dy,dv y=if y.neg=true then-(vN (nm y) y.e)else vN (nm y) y.e:=fun y=>rfl
 have hXge:2^((zg c-jz c d p).toNat -1)<=nm c*2^(c.e-jz c d p).toNat :=by
  have hX0:nm c*2^(c.e-jz c d p).toNat ≠0:=qU c0 (by have:=q2 (c.e-jz c d p).toNat;omega);have hb0:bl (nm c)≠0:=fun x=>c0 (uq.1 x)
  exact(zbr hX0).1 O
 unfold qbr zhb;rw[hxv c,hxv d,hXv];generalize nm c*2^(c.e-jz c d p).toNat =X at*;generalize hF:wt (nm d) d.e false (jz c d p)=F at*;generalize jz c d p=w at*;generalize vN (nm d) d.e=y at*;have hX0:X≠0:=by have:=q2 ((zg c-w).toNat -1);omega
 by_cases hs:c.neg=d.neg
 .
  rw[Z6 hs];simp only;have hne:¬(X+F.1=0/\F.2=false):=fun h=>hX0 O
  have hval:(if c.neg=true then-(vN X w)else vN X w)+(if d.neg=true then-y else y)=if(c.neg != false)=true then-(vN X w+y)else vN X w+y:=by
   rw[<-hs];cases c.neg<;>simp<;>grind
  rw[hval];have hfun:(fun up=>if X+F.1=0/\F.2=false then(d0,(0:Int))else zar (c.neg != false) (X+F.1) w F.2 p up)=fun up=>zar (c.neg != false) (X+F.1) w F.2 p up:=by
   funext up;rw[Z7 hne]
  rw[hfun];have a1:=zqm X F.1 w;have a2:=zqm X (F.1+1) w;refine zff hp _ ?_ ?_ ?_ ?_ ?_ ?_
  .rw[<-a1];grind
  .rw[(O:X+F.1+1=X+(F.1+1)),<-a2];grind
  .intro h;rw[<-a1,f3 h]
  .intro h;rw[<-a1];have:=(f4 h).1;grind
  .intro h;obtain⟨h1,h2⟩:=hlow (f4 h).2;have h3:bl X<=bl (X+F.1):=zx O;omega
  .intro h;omega
 .
  rw[Z7 hs];have hval:∀z:Rat,z=vN X w-y->(if c.neg=true then-(vN X w)else vN X w)+(if d.neg=true then-y else y)=if c.neg=true then-z else z:=fun z hz=>by
   subst hz;cases hc':c.neg<;>cases hd':d.neg<;>simp[hc',hd']at hs⊢ <;>grind
  have hU:F.2=true->upN F true=F.1+1/\F.1+1<=2^((zg c-w).toNat -3)/\2^((zg c-w).toNat -3)*4<=X/\p+8<=(zg c-w).toNat :=fun h=>by
   obtain⟨h1,h2⟩:=hlow (f4 h).2;have h3:=hFb (f4 h).2;refine⟨by unfold upN;rw[h];rfl,?_,?_,O⟩
   .have h4:2^(zg d-w).toNat <=2^((zg c-w).toNat -3):=qC OA O;omega
   .have h4:2^((zg c-w).toNat -1)=2^((zg c-w).toNat -3)*4:=by
     rw[show(zg c-w).toNat -1=((zg c-w).toNat -3)+2 by omega,qK]
    omega
  have hUf:F.2=false->upN F true=F.1:=fun h=>by unfold upN;rw[h];rfl
  by_cases hlt:X<upN F true
  .rw[Z6 hlt];simp only;have hFf:F.2=false:=by
    cases hF2:F.2 with
    |false=>rfl
    |true=>obtain⟨u1,u2,u3,_⟩:=hU hF2;omega
   have hUe:=hUf hFf;rw[hUe]at hlt⊢;have hfun:(fun up=>if F.1-X=0/\True then(d0,(0:Int))else zar (c.neg != true) (F.1-X) w false p up)=fun up=>zar (c.neg != true) (F.1-X) w false p up:=by
    funext up;rw[Z7 fun h=>O]
   rw[hfun];have a1:=zna (qR hlt) w;have hv:(if c.neg=true then-(vN X w)else vN X w)+(if d.neg=true then-y else y)=if(c.neg != true)=true then-(vN (F.1-X) w)else vN (F.1-X) w:=by
    rw[hval (vN X w-y) rfl,<-a1,f3 hFf];cases c.neg<;>simp<;>grind
   rw[hv];exact zdh hp _ fun h=>O
  .rw[Z7 hlt];simp only;rw[hval (vN X w-y) rfl]
   cases hF2:F.2 with
   |false=>
    have hUe:=hUf hF2;rw[hUe]at hlt⊢;have a1:=zna (a:=X) (b:=F.1) O w;by_cases hz:X-F.1=0
    .have hfun:(fun up=>if X-F.1=0/\false=false then(d0,(0:Int))else zar (c.neg != false) (X-F.1) w false p up)=fun _=>(d0,0):=by
      funext up;rw[Z6 ⟨hz,rfl⟩]
     rw[hfun,f3 hF2,a1,hz,ur];have e0:(if c.neg=true then-(0:Rat)else 0)=0:=by split<;>grind
     rw[e0];refine⟨⟨fun _=>⟨by rw[zld];exact q1,by rw[zld];exact .inl (xt p)⟩,fun z _ h=>⟨rfl,by rw[zld];exact h⟩⟩,⟨fun _=>⟨by rw[zld];exact q1,by rw[zld];exact .inl (xt p)⟩,fun z _ h=>⟨rfl,by rw[zld];exact h⟩⟩⟩
    .have hfun:(fun up=>if X-F.1=0/\false=false then(d0,(0:Int))else zar (c.neg != false) (X-F.1) w false p up)=fun up=>zar (c.neg != false) (X-F.1) w false p up:=by
      funext up;rw[Z7 fun h=>hz h.1]
     rw[hfun,f3 hF2,a1];have e0:(c.neg != false)=c.neg:=by cases c.neg<;>rfl
     rw[e0];exact zdh hp _ fun h=>absurd h hz
   |true=>
    obtain⟨u1,u2,u3,u4⟩:=hU hF2;rw[u1];have a1:=zna (a:=X) (b:=F.1+1) O w;have a2:=zna (a:=X) (b:=F.1) O w;have hpos:=q2 ((zg c-w).toNat -3);have hfun:(fun up=>if X-(F.1+1)=0/\true=false then(d0,(0:Int))else zar (c.neg != false) (X-(F.1+1)) w true p up)=fun up=>zar (c.neg != false) (X-(F.1+1)) w true p up:=by
     funext up;rw[Z7 fun h=>by cases h.2]
    rw[hfun];have e0:(c.neg != false)=c.neg:=by cases c.neg<;>rfl
    rw[e0];have hy1:=(f4 hF2).1;refine zff hp _ ?_ ?_ ?_ ?_ ?_ ?_
    .rw[<-a1];grind
    .rw[(O:X-(F.1+1)+1=X-F.1),<-a2];grind
    .intro h;cases h
    .intro _;rw[<-a1];grind
    .intro _;have h5:2^((zg c-w).toNat -3)<=X-(F.1+1):=O;have h6:=(zbr (n:=X-(F.1+1)) (k:=(zg c-w).toNat -3) O).2 h5;omega
    .intro h;omega
theorem zmz{d:Dy}(h:nm d=0):dv d=0:=by unfold dv;rw[h,ur];split<;>rfl
theorem ze4{a b:Dy}(ha:VD a)(hb:VD b){p:Nat}(hp:8<=p/\p<=512):RT p (dv a+dv b) (fun up=>zas a b p up):=by
 by_cases a0:nm a=0
 .have h:=kb hb hp;have e:(fun up=>zas a b p up)=fun up=>qr b p up:=by funext up;unfold zas;rw[Z6 a0]
  rw[e,zmz a0,Rat.zero_add];exact h
 by_cases b0:nm b=0
 .have h:=kb ha hp;have e:(fun up=>zas a b p up)=fun up=>qr a p up:=by funext up;unfold zas;rw[Z7 a0,Z6 b0]
  rw[e,zmz b0,Rat.add_zero];exact h
 have e:(fun up=>zas a b p up)=fun up=>qbr (zhf a b) (zhm a b) p up:=by funext up;unfold zas;rw[Z7 a0,Z7 b0]
 rw[e];by_cases ht:zg a<zg b
 .have e1:zhf a b=b/\zhm a b=a:=by unfold zhf zhm;rw[Z6 ht,Z6 ht];exact⟨rfl,rfl⟩
  rw[e1.1,e1.2,Rat.add_comm];exact zxt hb ha b0 a0 O hp
 .have e1:zhf a b=a/\zhm a b=b:=by unfold zhf zhm;rw[Z7 ht,Z7 ht];exact⟨rfl,rfl⟩
  rw[e1.1,e1.2];exact zxt ha hb a0 b0 O hp
def inI(q:Rat)(x:Iv):Prop:=x.all=true\/(dv x.lo<=q/\q<=dv x.hi)
def uf(x y:Iv):Prop:=y.all=true\/(x.all=false/\y.all=false/\dv y.lo<=dv x.lo/\dv x.hi<=dv y.hi)
theorem KI.dle{x:Iv}(k:KI x):dv x.lo<=dv x.hi:=ui.1 k.le
theorem zxg{x:Iv}(h:CI x)(h1:x.all=false)(h2:dv x.lo<=dv x.hi):KI x:=by
 rcases h with rfl|⟨_,a,b⟩
 .cases h1
 .exact⟨h1,a,b,ui.2 h2⟩
theorem zc2{p:Nat}{y y':Rat}{r r':Dy×Int}(h':RD p (fun z=>z<=y') r')(h:RD p (fun z=>z<=y) r)(hle:y'<=y)(h0:r'.2=0):r.2=0/\dv r'.1<=dv r.1:=by
 obtain⟨a,b⟩:=h'.1 h0;exact h.2 _ b (q0 a hle)
theorem zc1{p:Nat}{y y':Rat}{r r':Dy×Int}(h':RU p (fun z=>y'<=z) r')(h:RU p (fun z=>y<=z) r)(hle:y<=y')(h0:r'.2=0):r.2=0/\dv r.1<=dv r'.1:=by
 obtain⟨a,b⟩:=h'.1 h0;exact h.2 _ b (q0 hle a)
theorem jh{a b:Dy×Int}:(qy a b).all =false<->a.2=0/\b.2=0:=by
 unfold qy;split
 .rename_i h;constructor
  .intro c;cases c
  .rintro⟨h1,h2⟩;exact absurd (by simp[h1,h2]) (not_not_intro h)
 .rename_i h;constructor
  .intro _;exact⟨by simp only[not_or,Decidable.not_not]at h;exact h.1,by simp only[not_or,Decidable.not_not]at h;exact h.2⟩
  .intro _;rfl
theorem jw{a b:Dy×Int}(h:(qy a b).all =false):qy a b=⟨a.1,b.1,false⟩:=by
 have:=jh.1 h;unfold qy;rw[Z7 (by simp[this.1,this.2])]
theorem rt_in{p:Nat}{y z:Rat}{F G:Bool->Dy×Int}(hF:RT p y F)(hG:RT p z G){q:Rat}(h1:y<=q)(h2:q<=z):inI q (qy (F false) (G true)):=by
 cases h:(qy (F false) (G true)).all with
 |true=>exact .inl h
 |false=>
  obtain⟨e1,e2⟩:=jh.1 h;rw[jw h];exact .inr ⟨q0 (hF.1.1 e1).1 h1,q0 h2 (hG.2.1 e2).1⟩
theorem qdg{p:Nat}{y z y' z':Rat}{F G F' G':Bool->Dy×Int}(hF:RT p y F)(hG:RT p z G)(hF':RT p y' F')(hG':RT p z' G')(h1:y'<=y)(h2:z<=z'):uf (qy (F false) (G true)) (qy (F' false) (G' true)):=by
 cases h:(qy (F' false) (G' true)).all with
 |true=>exact .inl h
 |false=>
  obtain⟨e1,e2⟩:=jh.1 h;obtain⟨a1,a2⟩:=zc2 hF'.1 hF.1 h1 e1;obtain⟨b1,b2⟩:=zc1 hG'.2 hG.2 h2 e2;have h3:=jh.2 ⟨a1,b1⟩;rw[jw h,jw h3];exact .inr ⟨rfl,rfl,a2,b2⟩
theorem zrn{p:Nat}{y z:Rat}{F G:Bool->Dy×Int}(hF:RT p y F)(hG:RT p z G)(hc:CI (qy (F false) (G true)))(h:y<=z):VI (qy (F false) (G true)):=by
 cases ha:(qy (F false) (G true)).all with
 |true=>
  rcases hc with hc|⟨h1,_⟩
  .exact .inr hc
  .rw[ha]at h1;cases h1
 |false=>
  refine .inl (zxg hc ha ?_);obtain⟨e1,e2⟩:=jh.1 ha;rw[jw ha];exact q0 (hF.1.1 e1).1 (q0 h (hG.2.1 e2).1)
theorem zhz{x y:Iv}(hx:RI x)(hy:RI y):(kB x&&kB y)=true<->KI x/\KI y:=by rw[Bool.and_eq_true,zq hx,zq hy]
theorem zqk{x:Iv}(h:VI x):x.all=false<->KI x:=by
 rcases h with h|rfl
 .exact⟨fun _=>h,fun _=>h.all⟩
 .exact⟨(fun c=>by cases c),(fun k=>k.all)⟩
theorem w_in(q:Rat):inI q wI0:=.inl rfl
theorem zlv{x y:Iv}(hx:KI x)(hy:KI y){p:Int}(hp:pcB p=true):um x y p=qy (zas x.lo y.lo p.toNat false) (zas x.hi y.hi p.toNat true):=by
 unfold um;rw[Z6 ⟨(zhz hx.ri hy.ri).2 ⟨hx,hy⟩,hp⟩]
theorem qbq{x y:Iv}(hx:RI x)(hy:RI y){p:Int}(h:¬(KI x/\KI y)):um x y p=wI0:=by
 unfold um;rw[Z7 fun c=>h ((zhz hx hy).1 c.1)]
theorem zuc{x y:Iv}(hx:VI x)(hy:VI y){p:Int}(hp:pcB p=true):VI (um x y p):=by
 by_cases h:KI x/\KI y
 .rw[zlv h.1 h.2 hp];refine zrn (ze4 h.1.lo h.2.lo (qn hp)) (ze4 h.1.hi h.2.hi (qn hp)) (by rw[<-zlv h.1 h.2 hp];exact za6 _ _ _) ?_;have:=h.1.dle;have:=h.2.dle;grind
 .rw[qbq hx.ri hy.ri h];exact .inr rfl
theorem ziu{x y:Iv}(h:uf x y)(hx:VI x)(hy:KI y):KI x/\dv y.lo<=dv x.lo/\dv x.hi<=dv y.hi:=by
 rcases h with h|⟨h1,_,h3⟩
 .rw[hy.all]at h;cases h
 .exact⟨(zqk hx).1 h1,h3⟩
theorem zua{x y x' y':Iv}(hx:VI x)(hy:VI y)(hx':VI x')(hy':VI y'){p:Int}(hp:pcB p=true)(h1:uf x x')(h2:uf y y'):uf (um x y p) (um x' y' p):=by
 by_cases h:KI x'/\KI y'
 .obtain⟨kx,a1,a2⟩:=ziu h1 hx h.1;obtain⟨ky,b1,b2⟩:=ziu h2 hy h.2;rw[zlv h.1 h.2 hp,zlv kx ky hp];exact qdg (ze4 kx.lo ky.lo (qn hp)) (ze4 kx.hi ky.hi (qn hp)) (ze4 h.1.lo h.2.lo (qn hp)) (ze4 h.1.hi h.2.hi (qn hp)) (by grind) (by grind)
 .rw[qbq hx'.ri hy'.ri h];exact .inl rfl
theorem zsf{x:Iv}(hx:KI x):zc4 x=⟨kc x.hi,kc x.lo,false⟩:=by unfold zc4;rw[Z6 ((zq hx.ri).2 hx)]
theorem qdy{x:Iv}(hx:RI x)(h:¬KI x):zc4 x=wI0:=by unfold zc4;rw[Z7 fun c=>h ((zq hx).1 c)]
theorem zhv{x:Iv}(hx:VI x):VI (zc4 x):=by
 by_cases h:KI x
 .rw[zsf h];refine .inl ⟨rfl,jl h.hi,jl h.lo,ui.2 ?_⟩;simp only[ji];have:=h.dle;grind
 .rw[qdy hx.ri h];exact .inr rfl
theorem zmj{x x':Iv}(hx:VI x)(hx':VI x')(h:uf x x'):uf (zc4 x) (zc4 x'):=by
 by_cases k:KI x'
 .obtain⟨kx,a1,a2⟩:=ziu h hx k;rw[zsf k,zsf kx];refine .inr ⟨rfl,rfl,?_,?_⟩<;>simp only[ji]<;>grind
 .rw[qdy hx'.ri k];exact .inl rfl
theorem qc6{x y:Iv}(hx:VI x)(hy:VI y){p:Int}(hp:pcB p=true):VI (zg9 x y p):=zuc hx (zhv hy) hp
theorem zze{x y x' y':Iv}(hx:VI x)(hy:VI y)(hx':VI x')(hy':VI y'){p:Int}(hp:pcB p=true)(h1:uf x x')(h2:uf y y'):uf (zg9 x y p) (zg9 x' y' p):=
 zua hx (zhv hy) hx' (zhv hy') hp h1 (zmj hy hy' h2)
def ztf(op:Rat->Rat->Rat)(x y:Iv)(P:Rat->Prop):Prop:=P (op (dv x.lo) (dv y.lo))/\P (op (dv x.lo) (dv y.hi))/\P (op (dv x.hi) (dv y.lo))/\P (op (dv x.hi) (dv y.hi))
def ze8(op:Rat->Rat->Rat)(x y:Iv)(P:Rat->Prop):Prop:=P (op (dv x.lo) (dv y.lo))\/P (op (dv x.lo) (dv y.hi))\/P (op (dv x.hi) (dv y.lo))\/P (op (dv x.hi) (dv y.hi))
structure F4(p:Nat)(op:Rat->Rat->Rat)(dn up:Dy->Dy->Dy×Int)(x y:Iv):Prop where
 rt1:RT p (op (dv x.lo) (dv y.lo)) (fun u=>if u=true then up x.lo y.lo else dn x.lo y.lo)
 rt2:RT p (op (dv x.lo) (dv y.hi)) (fun u=>if u=true then up x.lo y.hi else dn x.lo y.hi)
 rt3:RT p (op (dv x.hi) (dv y.lo)) (fun u=>if u=true then up x.hi y.lo else dn x.hi y.lo)
 rt4:RT p (op (dv x.hi) (dv y.hi)) (fun u=>if u=true then up x.hi y.hi else dn x.hi y.hi)
theorem zl5{dn up:Dy×Int}{o:Iv}{K:Iv->Iv}(h:(stI dn up o K).all =false):dn.2=0/\up.2=0/\∃o':Iv,stI dn up o K=K o'/\o'.all=false/\(o'.lo=dn.1\/o'.lo=o.lo)/\(o'.hi=up.1\/o'.hi=o.hi)/\dv o'.lo<=dv dn.1/\dv o'.lo<=dv o.lo/\dv up.1<=dv o'.hi/\dv o.hi<=dv o'.hi:=by
 unfold stI at h⊢;by_cases he:dn.2≠0\/up.2≠0
 .rw[Z6 he]at h;cases h
 .rw[Z7 he]at h⊢;simp only[not_or,Decidable.not_not]at he;refine⟨he.1,he.2,_,rfl,rfl,?_,?_,?_,?_,?_,?_⟩
  .simp only;split<;>simp
  .simp only;split<;>simp
  .simp only;split
   .exact q1
   .rename_i hc;have:0<=qd dn.1 o.lo:=O;exact zo4.1 this
  .simp only;split
   .rename_i hc;exact ui.1 O
   .exact q1
  .simp only;split
   .exact q1
   .rename_i hc;exact ui.1 O
  .simp only;split
   .rename_i hc;exact zo4.1 O
   .exact q1
theorem zzf{dn up:Dy×Int}{o:Iv}{K:Iv->Iv}(h1:dn.2=0)(h2:up.2=0):∃o':Iv,o'.all=false/\stI dn up o K=K o':=by
 unfold stI;rw[Z7 (by simp[h1,h2])];exact⟨_,rfl,rfl⟩
theorem zd0{dn up:Dy->Dy->Dy×Int}{x y:Iv}(h:(jd dn up x y).all =false):
 ((dn x.lo y.lo).2=0/\(dn x.lo y.hi).2=0/\(dn x.hi y.lo).2=0/\(dn x.hi y.hi).2=0)/\((up x.lo y.lo).2=0/\(up x.lo y.hi).2=0/\(up x.hi y.lo).2=0/\(up x.hi y.hi).2=0)/\
 (∀t:Rat,t<=dv (dn x.lo y.lo).1->t<=dv (dn x.lo y.hi).1->t<=dv (dn x.hi y.lo).1->t<=dv (dn x.hi y.hi).1->t<=dv (jd dn up x y).lo)/\
 (∀t:Rat,dv (up x.lo y.lo).1<=t->dv (up x.lo y.hi).1<=t->dv (up x.hi y.lo).1<=t->dv (up x.hi y.hi).1<=t->dv (jd dn up x y).hi <=t)/\
 (dv (jd dn up x y).lo <=dv (dn x.lo y.lo).1/\dv (jd dn up x y).lo <=dv (dn x.lo y.hi).1/\dv (jd dn up x y).lo <=dv (dn x.hi y.lo).1/\dv (jd dn up x y).lo <=dv (dn x.hi y.hi).1)/\
 (dv (up x.lo y.lo).1<=dv (jd dn up x y).hi /\dv (up x.lo y.hi).1<=dv (jd dn up x y).hi /\dv (up x.hi y.lo).1<=dv (jd dn up x y).hi /\dv (up x.hi y.hi).1<=dv (jd dn up x y).hi):=by
 rw[zjp]at h⊢;by_cases he:(dn x.lo y.lo).2≠0\/(up x.lo y.lo).2≠0
 .unfold s0I at h;rw[Z6 he]at h;cases h
 have e0:∀K,s0I (dn x.lo y.lo) (up x.lo y.lo) K=K ⟨(dn x.lo y.lo).1,(up x.lo y.lo).1,false⟩:=fun K=>by unfold s0I;rw[Z7 he]
 simp only[not_or,Decidable.not_not]at he;rw[e0]at h⊢;obtain⟨a1,a2,o1,a3,_,a5,a6,a7,a8,a9,a10⟩:=zl5 h;rw[a3]at h⊢;obtain⟨b1,b2,o2,b3,_,b5,b6,b7,b8,b9,b10⟩:=zl5 h;rw[b3]at h⊢;obtain⟨c1,c2,o3,c3,_,c5,c6,c7,c8,c9,c10⟩:=zl5 h;rw[c3];simp only at*;refine⟨⟨he.1,a1,b1,c1⟩,⟨he.2,a2,b2,c2⟩,?_,?_,⟨?_,?_,?_,?_⟩,⟨?_,?_,?_,?_⟩⟩
 .intro t t1 t2 t3 t4;rcases c5 with c|c<;>rw[c]
  .exact t4
  .rcases b5 with c|c<;>rw[c]
   .exact t3
   .rcases a5 with c|c<;>rw[c]
    .exact t2
    .exact t1
 .intro t t1 t2 t3 t4;rcases c6 with c|c<;>rw[c]
  .exact t4
  .rcases b6 with c|c<;>rw[c]
   .exact t3
   .rcases a6 with c|c<;>rw[c]
    .exact t2
    .exact t1
 .exact q0 c8 (q0 b8 a8)
 .exact q0 c8 (q0 b8 a7)
 .exact q0 c8 b7
 .exact c7
 .exact q0 a10 (q0 b10 c10)
 .exact q0 a9 (q0 b10 c10)
 .exact q0 b9 c10
 .exact c9
theorem zwu{dn up:Dy->Dy->Dy×Int}{x y:Iv}(h1:(dn x.lo y.lo).2=0/\(dn x.lo y.hi).2=0/\(dn x.hi y.lo).2=0/\(dn x.hi y.hi).2=0)(h2:(up x.lo y.lo).2=0/\(up x.lo y.hi).2=0/\(up x.hi y.lo).2=0/\(up x.hi y.hi).2=0):(jd dn up x y).all =false:=by
 rw[zjp];have e0:∀K,s0I (dn x.lo y.lo) (up x.lo y.lo) K=K ⟨(dn x.lo y.lo).1,(up x.lo y.lo).1,false⟩:=fun K=>by unfold s0I;rw[Z7 (by simp[h1.1,h2.1])]
 rw[e0];obtain⟨o1,_,e1⟩:=zzf (dn:=dn x.lo y.hi) (up:=up x.lo y.hi) (o:=⟨(dn x.lo y.lo).1,(up x.lo y.lo).1,false⟩) (K:=fun o=>stI (dn x.hi y.lo) (up x.hi y.lo) o (fun o=>stI (dn x.hi y.hi) (up x.hi y.hi) o (fun o=>o))) h1.2.1 h2.2.1;rw[e1];obtain⟨o2,_,e2⟩:=zzf (dn:=dn x.hi y.lo) (up:=up x.hi y.lo) (o:=o1) (K:=fun o=>stI (dn x.hi y.hi) (up x.hi y.hi) o (fun o=>o)) h1.2.2.1 h2.2.2.1;rw[e2];obtain⟨o3,h3,e3⟩:=zzf (dn:=dn x.hi y.hi) (up:=up x.hi y.hi) (o:=o2) (K:=fun o=>o) h1.2.2.2 h2.2.2.2;rw[e3];exact h3
theorem qf1{p:Nat}{op:Rat->Rat->Rat}{dn up:Dy->Dy->Dy×Int}{x y:Iv}(f:F4 p op dn up x y){q:Rat}(h1:ze8 op x y (fun z=>z<=q))(h2:ze8 op x y (fun z=>q<=z)):inI q (jd dn up x y):=by
 cases ha:(jd dn up x y).all with
 |true=>exact .inl ha
 |false=>
  obtain⟨d,u,_,_,⟨l1,l2,l3,l4⟩,⟨r1,r2,r3,r4⟩⟩:=zd0 ha;have g1:=(f.rt1.1.1 d.1).1;have g2:=(f.rt2.1.1 d.2.1).1;have g3:=(f.rt3.1.1 d.2.2.1).1;have g4:=(f.rt4.1.1 d.2.2.2).1;have k1:=(f.rt1.2.1 u.1).1;have k2:=(f.rt2.2.1 u.2.1).1;have k3:=(f.rt3.2.1 u.2.2.1).1;have k4:=(f.rt4.2.1 u.2.2.2).1;simp only[if_true,q3,if_false]at g1 g2 g3 g4 k1 k2 k3 k4;refine .inr ⟨?_,?_⟩
  .rcases h1 with h|h|h|h
   .exact q0 l1 (q0 g1 h)
   .exact q0 l2 (q0 g2 h)
   .exact q0 l3 (q0 g3 h)
   .exact q0 l4 (q0 g4 h)
  .rcases h2 with h|h|h|h
   .exact q0 h (q0 k1 r1)
   .exact q0 h (q0 k2 r2)
   .exact q0 h (q0 k3 r3)
   .exact q0 h (q0 k4 r4)
theorem zyt{p:Nat}{op:Rat->Rat->Rat}{dn up:Dy->Dy->Dy×Int}{x y x' y':Iv}(f:F4 p op dn up x y)(f':F4 p op dn up x' y')(h1:ztf op x y (fun q=>ze8 op x' y' (fun z=>z<=q)))(h2:ztf op x y (fun q=>ze8 op x' y' (fun z=>q<=z))):uf (jd dn up x y) (jd dn up x' y'):=by
 cases ha:(jd dn up x' y').all with
 |true=>exact .inl ha
 |false=>
  obtain⟨d,u,_,_,⟨l1,l2,l3,l4⟩,⟨r1,r2,r3,r4⟩⟩:=zd0 ha;have f1:=f'.rt1;have f2:=f'.rt2;have f3:=f'.rt3;have f4:=f'.rt4;have lowK:∀(q:Rat)(r:Dy×Int),RD p (fun z=>z<=q) r->ze8 op x' y' (fun z=>z<=q)->r.2=0/\dv (jd dn up x' y').lo <=dv r.1:=by
   intro q r hr hs;rcases hs with h|h|h|h
   .obtain⟨a,b⟩:=zc2 f1.1 hr h d.1;exact⟨a,q0 l1 b⟩
   .obtain⟨a,b⟩:=zc2 f2.1 hr h d.2.1;exact⟨a,q0 l2 b⟩
   .obtain⟨a,b⟩:=zc2 f3.1 hr h d.2.2.1;exact⟨a,q0 l3 b⟩
   .obtain⟨a,b⟩:=zc2 f4.1 hr h d.2.2.2;exact⟨a,q0 l4 b⟩
  have hiK:∀(q:Rat)(r:Dy×Int),RU p (fun z=>q<=z) r->ze8 op x' y' (fun z=>q<=z)->r.2=0/\dv r.1<=dv (jd dn up x' y').hi :=by
   intro q r hr hs;rcases hs with h|h|h|h
   .obtain⟨a,b⟩:=zc1 f1.2 hr h u.1;exact⟨a,q0 b r1⟩
   .obtain⟨a,b⟩:=zc1 f2.2 hr h u.2.1;exact⟨a,q0 b r2⟩
   .obtain⟨a,b⟩:=zc1 f3.2 hr h u.2.2.1;exact⟨a,q0 b r3⟩
   .obtain⟨a,b⟩:=zc1 f4.2 hr h u.2.2.2;exact⟨a,q0 b r4⟩
  obtain⟨a1,a2⟩:=lowK _ _ f.rt1.1 h1.1;obtain⟨b1,b2⟩:=lowK _ _ f.rt2.1 h1.2.1;obtain⟨c1,c2⟩:=lowK _ _ f.rt3.1 h1.2.2.1;obtain⟨e1,e2⟩:=lowK _ _ f.rt4.1 h1.2.2.2;obtain⟨A1,A2⟩:=hiK _ _ f.rt1.2 h2.1;obtain⟨B1,B2⟩:=hiK _ _ f.rt2.2 h2.2.1;obtain⟨C1,C2⟩:=hiK _ _ f.rt3.2 h2.2.2.1;obtain⟨E1,E2⟩:=hiK _ _ f.rt4.2 h2.2.2.2;simp only[if_true,q3,if_false]at a1 a2 b1 b2 c1 c2 e1 e2 A1 A2 B1 B2 C1 C2 E1 E2;have hb:=zwu (dn:=dn) (up:=up) (x:=x) (y:=y) ⟨a1,b1,c1,e1⟩ ⟨A1,B1,C1,E1⟩;obtain⟨_,_,g1,g2,_,_⟩:=zd0 hb;exact .inr ⟨hb,ha,g1 _ a2 b2 c2 e2,g2 _ A2 B2 C2 E2⟩
theorem zsi{a b x1 x2:Rat}(h1:x1<=a)(h2:a<=x2):(x1*b<=a*b\/x2*b<=a*b)/\(a*b<=x1*b\/a*b<=x2*b):=by
 by_cases hb:0<=b
 .exact⟨.inl (vg h1 hb),.inr (vg h2 hb)⟩
 .have hb':0<= -b:=by grind
  have e1:=vg h1 hb';have e2:=vg h2 hb';exact⟨.inr (by grind),.inl (by grind)⟩
theorem zjc{a b y1 y2:Rat}(h1:y1<=b)(h2:b<=y2):(a*y1<=a*b\/a*y2<=a*b)/\(a*b<=a*y1\/a*b<=a*y2):=by
 have:=zsi (b:=a) h1 h2;rw[qD y1,qD y2,qD b]at this;exact this
theorem zj8{x y:Iv}{a b:Rat}(h1:dv x.lo<=a)(h2:a<=dv x.hi)(h3:dv y.lo<=b)(h4:b<=dv y.hi):ze8 (fun u v=>u*v) x y (fun z=>z<=a*b)/\ze8 (fun u v=>u*v) x y (fun z=>a*b<=z):=by
 obtain⟨m1,m2⟩:=zsi (b:=b) h1 h2;obtain⟨l1,l2⟩:=zjc (a:=dv x.lo) h3 h4;obtain⟨u1,u2⟩:=zjc (a:=dv x.hi) h3 h4;unfold ze8;constructor
 .rcases m1 with m|m
  .rcases l1 with l|l
   .exact .inl (q0 l m)
   .exact .inr (.inl (q0 l m))
  .rcases u1 with l|l
   .exact .inr (.inr (.inl (q0 l m)))
   .exact .inr (.inr (.inr (q0 l m)))
 .rcases m2 with m|m
  .rcases l2 with l|l
   .exact .inl (q0 m l)
   .exact .inr (.inl (q0 m l))
  .rcases u2 with l|l
   .exact .inr (.inr (.inl (q0 m l)))
   .exact .inr (.inr (.inr (q0 m l)))
theorem qap(F:Bool->Dy×Int):(fun u=>if u=true then F true else F false)=F:=by funext u;cases u<;>rfl
theorem ze6{p:Nat}{y:Rat}{F:Bool->Dy×Int}(h:RT p y F):RT p y (fun u=>if u=true then F true else F false):=by rw[qap];exact h
theorem zoc{x y:Iv}(hx:KI x)(hy:KI y){p:Nat}(hp:8<=p/\p<=512):F4 p (fun u v=>u*v) (fun a b=>jt a b p false) (fun a b=>jt a b p true) x y:=
 ⟨ze6 (za4 hx.lo hy.lo hp),ze6 (za4 hx.lo hy.hi hp),ze6 (za4 hx.hi hy.lo hp),ze6 (za4 hx.hi hy.hi hp)⟩
theorem zob{x y:Iv}(hx:KI x)(hy:KI y){p:Int}(hp:pcB p=true):kw x y p=jd (fun a b=>jt a b p.toNat false) (fun a b=>jt a b p.toNat true) x y:=by
 unfold kw;rw[Z6 ⟨(zhz hx.ri hy.ri).2 ⟨hx,hy⟩,hp⟩]
theorem qad{x y:Iv}(hx:RI x)(hy:RI y){p:Int}(h:¬(KI x/\KI y)):kw x y p=wI0:=by
 unfold kw;rw[Z7 fun c=>h ((zhz hx hy).1 c.1)]
theorem qdz{x y:Iv}(hx:VI x)(hy:VI y){p:Int}(hp:pcB p=true){a b:Rat}(ha:inI a x)(hb:inI b y):inI (a*b) (kw x y p):=by
 by_cases h:KI x/\KI y
 .rw[zob h.1 h.2 hp];rcases ha with ha|ha
  .rw[h.1.all]at ha;cases ha
  rcases hb with hb|hb
  .rw[h.2.all]at hb;cases hb
  obtain⟨s1,s2⟩:=zj8 ha.1 ha.2 hb.1 hb.2;exact qf1 (zoc h.1 h.2 (qn hp)) s1 s2
 .rw[qad hx.ri hy.ri h];exact w_in _
theorem zjy{x:Iv}(h:CI x){q:Rat}(hq:inI q x):VI x:=by
 cases ha:x.all with
 |true=>
  rcases h with h|⟨h1,_⟩
  .exact .inr h
  .rw[ha]at h1;cases h1
 |false=>
  rcases hq with hq|hq
  .rw[ha]at hq;cases hq
  .exact .inl (zxg h ha (q0 hq.1 hq.2))
theorem zsr{x:Iv}(h:VI x):inI (dv x.lo) x:=by
 rcases h with k|rfl
 .exact .inr ⟨q1,k.dle⟩
 .exact w_in _
theorem zx4{x y:Iv}(hx:VI x)(hy:VI y){p:Int}(hp:pcB p=true):VI (kw x y p):=zjy (zbv x y p) (qdz hx hy hp (zsr hx) (zsr hy))
theorem qae{x y x' y':Iv}(hx:VI x)(hy:VI y)(hx':VI x')(hy':VI y'){p:Int}(hp:pcB p=true)(h1:uf x x')(h2:uf y y'):uf (kw x y p) (kw x' y' p):=by
 by_cases h:KI x'/\KI y'
 .obtain⟨kx,a1,a2⟩:=ziu h1 hx h.1;obtain⟨ky,b1,b2⟩:=ziu h2 hy h.2;rw[zob h.1 h.2 hp,zob kx ky hp];have ex:=kx.dle;have ey:=ky.dle;have s:=fun(u v:Rat)(hu1:dv x'.lo<=u)(hu2:u<=dv x'.hi)(hv1:dv y'.lo<=v)(hv2:v<=dv y'.hi)=>zj8 (x:=x') (y:=y') hu1 hu2 hv1 hv2
  have s1:=s (dv x.lo) (dv y.lo) a1 (by grind) b1 (by grind);have s2:=s (dv x.lo) (dv y.hi) a1 (by grind) (by grind) b2;have s3:=s (dv x.hi) (dv y.lo) (by grind) a2 b1 (by grind);have s4:=s (dv x.hi) (dv y.hi) (by grind) a2 (by grind) b2;exact zyt (zoc kx ky (qn hp)) (zoc h.1 h.2 (qn hp)) ⟨s1.1,s2.1,s3.1,s4.1⟩ ⟨s1.2,s2.2,s3.2,s4.2⟩
 .rw[qad hx'.ri hy'.ri h];exact .inl rfl
theorem zde{y:Iv}(hy:KI y):zlx y≠0<->(0<dv y.lo\/dv y.hi<0):=by
 have h1:=(yq y.lo).2.1;have h2:=(yq y.hi).1;unfold zlx;rw[Z6 ((zq hy.ri).2 hy)];by_cases c1:0<qx y.lo
 .rw[Z6 c1];exact⟨fun _=>.inl (h1.1 c1),fun _=>OA⟩
 .rw[Z7 c1];by_cases c2:qx y.hi<0
  .rw[Z6 c2];exact⟨fun _=>.inr (h2.1 c2),fun _=>OA⟩
  .rw[Z7 c2];exact⟨fun c=>absurd rfl c,fun c=>by rcases c with c|c;exact absurd (h1.2 c) c1;exact absurd (h2.2 c) c2⟩
theorem zmv{a b c:Rat}(h:0<a\/c<0)(h1:a<=b)(h2:b<=c):c⁻¹ <=b⁻¹ /\b⁻¹ <=a⁻¹ :=by
 have key:∀u v:Rat,0<u->u<=v->v⁻¹ <=u⁻¹ :=fun u v hu huv=>by
  have hv:0<v:=by grind
  have hi:0<u⁻¹ :=by have:=w0.2 hu;exact this
  have hj:0<v⁻¹ :=by have:=w0.2 hv;exact this
  have e1:v*v⁻¹ =1:=qQ v (by grind);have e2:u*u⁻¹ =1:=qQ u (by grind);have h3:u*v⁻¹ <=v*v⁻¹ :=vg huv (qA hj);rw[e1,<-e2]at h3;have h4:v⁻¹ *u<=u⁻¹ *u:=by rw[qD v⁻¹,qD u⁻¹];exact h3
  exact zct h4 hu
 rcases h with h|h
 .exact⟨key b c (by grind) h2,key a b h h1⟩
 .have k1:=key (-c) (-b) (by grind) (by grind);have k2:=key (-b) (-a) (by grind) (by grind);have e:∀u:Rat,(-u)⁻¹ = -(u⁻¹):=fun u=>by grind
  rw[e,e]at k1 k2;constructor<;>grind
theorem zj9{x y:Iv}{a b:Rat}(hs:0<dv y.lo\/dv y.hi<0)(h1:dv x.lo<=a)(h2:a<=dv x.hi)(h3:dv y.lo<=b)(h4:b<=dv y.hi):ze8 (fun u v=>u/v) x y (fun z=>z<=a/b)/\ze8 (fun u v=>u/v) x y (fun z=>a/b<=z):=by
 obtain⟨i1,i2⟩:=zmv hs h3 h4;obtain⟨m1,m2⟩:=zsi (b:=b⁻¹) h1 h2;obtain⟨l1,l2⟩:=zjc (a:=dv x.lo) i1 i2;obtain⟨u1,u2⟩:=zjc (a:=dv x.hi) i1 i2;have e:∀u v:Rat,u/v=u*v⁻¹ :=fun u v=>Rat.div_def u v
 unfold ze8;simp only[e];constructor
 .rcases m1 with m|m
  .rcases l1 with l|l
   .exact .inr (.inl (q0 l m))
   .exact .inl (q0 l m)
  .rcases u1 with l|l
   .exact .inr (.inr (.inr (q0 l m)))
   .exact .inr (.inr (.inl (q0 l m)))
 .rcases m2 with m|m
  .rcases l2 with l|l
   .exact .inr (.inl (q0 m l))
   .exact .inl (q0 m l)
  .rcases u2 with l|l
   .exact .inr (.inr (.inr (q0 m l)))
   .exact .inr (.inr (.inl (q0 m l)))
theorem zv2{d:Dy}(h:dv d≠0):nm d≠0:=fun c=>h (zmz c)
theorem zie{x y:Iv}(hx:KI x)(hy:KI y)(hs:0<dv y.lo\/dv y.hi<0){p:Nat}(hp:8<=p/\p<=512):F4 p (fun u v=>u/v) (fun a b=>kp a b p false) (fun a b=>kp a b p true) x y:=by
 have hl:nm y.lo≠0:=zv2 (by have:=hy.dle;grind);have hh:nm y.hi≠0:=zv2 (by have:=hy.dle;grind);exact⟨ze6 (zlj hx.lo hy.lo hl hp),ze6 (zlj hx.lo hy.hi hh hp),ze6 (zlj hx.hi hy.lo hl hp),ze6 (zlj hx.hi hy.hi hh hp)⟩
theorem zeo{x y:Iv}(hx:KI x)(hy:KI y)(hs:0<dv y.lo\/dv y.hi<0){p:Int}(hp:pcB p=true):yf x y p=jd (fun a b=>kp a b p.toNat false) (fun a b=>kp a b p.toNat true) x y:=by
 unfold yf;rw[Z6 ⟨(zhz hx.ri hy.ri).2 ⟨hx,hy⟩,hp,(zde hy).2 hs⟩]
theorem zo0{x y:Iv}(hx:RI x)(hy:RI y){p:Int}(h:¬(KI x/\KI y/\(0<dv y.lo\/dv y.hi<0))):yf x y p=wI0:=by
 unfold yf;rw[Z7 fun c=>?_];obtain⟨k1,k2⟩:=(zhz hx hy).1 c.1;exact h ⟨k1,k2,(zde k2).1 c.2.2⟩
theorem qa6{x y:Iv}(hx:VI x)(hy:VI y){p:Int}(hp:pcB p=true){a b:Rat}(ha:inI a x)(hb:inI b y):inI (a/b) (yf x y p):=by
 by_cases h:KI x/\KI y/\(0<dv y.lo\/dv y.hi<0)
 .rw[zeo h.1 h.2.1 h.2.2 hp];rcases ha with ha|ha
  .rw[h.1.all]at ha;cases ha
  rcases hb with hb|hb
  .rw[h.2.1.all]at hb;cases hb
  obtain⟨s1,s2⟩:=zj9 h.2.2 ha.1 ha.2 hb.1 hb.2;exact qf1 (zie h.1 h.2.1 h.2.2 (qn hp)) s1 s2
 .rw[zo0 hx.ri hy.ri h];exact w_in _
theorem zju{x y:Iv}(hx:VI x)(hy:VI y){p:Int}(hp:pcB p=true):VI (yf x y p):=zjy (zuu x y p) (qa6 hx hy hp (zsr hx) (zsr hy))
theorem zwx{x y x' y':Iv}(hx:VI x)(hy:VI y)(hx':VI x')(hy':VI y'){p:Int}(hp:pcB p=true)(h1:uf x x')(h2:uf y y'):uf (yf x y p) (yf x' y' p):=by
 by_cases h:KI x'/\KI y'/\(0<dv y'.lo\/dv y'.hi<0)
 .obtain⟨kx,a1,a2⟩:=ziu h1 hx h.1;obtain⟨ky,b1,b2⟩:=ziu h2 hy h.2.1;have ex:=kx.dle;have ey:=ky.dle;have hs:0<dv y.lo\/dv y.hi<0:=by rcases h.2.2 with c|c;exact .inl (by grind);exact .inr (by grind)
  rw[zeo h.1 h.2.1 h.2.2 hp,zeo kx ky hs hp];have s:=fun(u v:Rat)(hu1:dv x'.lo<=u)(hu2:u<=dv x'.hi)(hv1:dv y'.lo<=v)(hv2:v<=dv y'.hi)=>zj9 (x:=x') (y:=y') h.2.2 hu1 hu2 hv1 hv2
  have s1:=s (dv x.lo) (dv y.lo) a1 (by grind) b1 (by grind);have s2:=s (dv x.lo) (dv y.hi) a1 (by grind) (by grind) b2;have s3:=s (dv x.hi) (dv y.lo) (by grind) a2 b1 (by grind);have s4:=s (dv x.hi) (dv y.hi) (by grind) a2 (by grind) b2;exact zyt (zie kx ky hs (qn hp)) (zie h.1 h.2.1 h.2.2 (qn hp)) ⟨s1.1,s2.1,s3.1,s4.1⟩ ⟨s1.2,s2.2,s3.2,s4.2⟩
 .rw[zo0 hx'.ri hy'.ri h];exact .inl rfl
theorem zl6{x:Iv}(hx:KI x)(hs:0<dv x.lo){p:Int}(hp:pcB p=true):zco x p=qy (ua x.lo p.toNat false) (ua x.hi p.toNat true):=by
 unfold zco;rw[Z6 ⟨(zq hx.ri).2 hx,hp,(yq x.lo).2.1.2 hs⟩]
theorem zxu{x:Iv}(hx:RI x){p:Int}(h:¬(KI x/\0<dv x.lo)):zco x p=wI0:=by
 unfold zco;rw[Z7 fun c=>h ⟨(zq hx).1 c.1,(yq x.lo).2.1.1 c.2.2⟩]
theorem yx{d:Dy}(h:0<dv d):d.neg=false/\nm d≠0:=by
 refine⟨zr3 ((yq d).2.1.2 h),zv2 (by grind)⟩
theorem zzg{x:Iv}(hx:VI x){p:Int}(hp:pcB p=true):VI (zco x p):=by
 by_cases h:KI x/\0<dv x.lo
 .have hh:0<dv x.hi:=by have:=h.1.dle;grind
  obtain⟨n1,n2⟩:=yx h.2;obtain⟨n3,n4⟩:=yx hh;have l:=(zac n1 (qn hp) n2).1;have u:=(zac n3 (qn hp) n4).2;have hc:=zup x p;rw[zl6 h.1 h.2 hp]at hc⊢
  cases ha:(qy (ua x.lo p.toNat false) (ua x.hi p.toNat true)).all with
  |true=>
   rcases hc with hc|⟨h1,_⟩
   .exact .inr hc
   .rw[ha]at h1;cases h1
  |false=>
   obtain⟨e1,e2⟩:=jh.1 ha;refine .inl (zxg hc ha ?_);rw[jw ha];have hl:=(l.1 e1).1;have hu:=(u.1 e2).1;simp only;rcases hl with hl|hl
   .exact q0 hl hu.1
   .exact znn hu.1 (q0 hl (q0 h.1.dle hu.2))
 .rw[zxu hx.ri h];exact .inr rfl
theorem zva{x x':Iv}(hx:VI x)(hx':VI x'){p:Int}(hp:pcB p=true)(h1:uf x x'):uf (zco x p) (zco x' p):=by
 by_cases h:KI x'/\0<dv x'.lo
 .obtain⟨kx,a1,a2⟩:=ziu h1 hx h.1;have ex:=kx.dle;have hp1:0<dv x.lo:=by grind
  have hp2:0<dv x.hi:=by grind
  have hp3:0<dv x'.hi:=by grind
  obtain⟨n1,n2⟩:=yx hp1;obtain⟨n3,n4⟩:=yx hp2;obtain⟨n5,n6⟩:=yx h.2;obtain⟨n7,n8⟩:=yx hp3;have l:=(zac n1 (qn hp) n2).1;have u:=(zac n3 (qn hp) n4).2;have l':=(zac n5 (qn hp) n6).1;have u':=(zac n7 (qn hp) n8).2;rw[zl6 h.1 h.2 hp,zl6 kx hp1 hp]
  cases ha:(qy (ua x'.lo p.toNat false) (ua x'.hi p.toNat true)).all with
  |true=>exact .inl ha
  |false=>
   obtain⟨e1,e2⟩:=jh.1 ha;obtain⟨v1,v2⟩:=l'.1 e1;obtain⟨w1,w2⟩:=u'.1 e2;obtain⟨b1,b2⟩:=l.2 _ v2 (v1.imp id fun c=>q0 c a1);obtain⟨c1,c2⟩:=u.2 _ w2 ⟨w1.1,q0 a2 w1.2⟩;have hb:=jh.2 ⟨b1,c1⟩;rw[jw ha,jw hb];exact .inr ⟨rfl,rfl,b2,c2⟩
 .rw[zxu hx'.ri h];exact .inl rfl
def zez(q:Rat):Rat:=if q<0 then-q else q
theorem zf5(q:Rat):0<=zez q:=by unfold zez;split<;>grind
theorem zid(d:Dy):dv (zaa d)=zez (dv d):=by
 have h:dv (zaa d)=vN (nm d) d.e:=rfl;rw[h];have h2:=zda (nm d) d.e;unfold dv zez
 cases d.neg with
 |true=>simp only[if_true];split<;>grind
 |false=>simp only[q3,if_false];split<;>grind
theorem zkt(a b:Dy):dv (xz a b)<=dv a/\dv (xz a b)<=dv b/\(xz a b=a\/xz a b=b):=by
 unfold xz;split
 .rename_i h;exact⟨q1,ui.1 h,.inl rfl⟩
 .rename_i h;exact⟨zo4.1 O,q1,.inr rfl⟩
theorem zgd(a b:Dy):dv a<=dv (yu a b)/\dv b<=dv (yu a b)/\(yu a b=a\/yu a b=b):=by
 unfold yu;split
 .rename_i h;exact⟨q1,zo4.1 h,.inl rfl⟩
 .rename_i h;exact⟨ui.1 O,q1,.inr rfl⟩
theorem zik{x:Iv}(k:KI x){a:Rat}(h1:dv x.lo<=a)(h2:a<=dv x.hi):0<=dv (zba x)/\dv (zba x)<=zez a/\zez a<=dv (kz x):=by
 obtain⟨m1,m2,_⟩:=zgd (zaa x.lo) (zaa x.hi);obtain⟨l1,l2,l3⟩:=zkt (zaa x.lo) (zaa x.hi);rw[zid]at m1 l1;rw[zid]at m2 l2;have hs:=zde k;have n1:=zf5 (dv x.lo);have n2:=zf5 (dv x.hi);have hm:kz x=yu (zaa x.lo) (zaa x.hi):=rfl;rw[hm];have hmag:zez a<=dv (yu (zaa x.lo) (zaa x.hi)):=by
  have e1: -(dv x.lo)<=zez (dv x.lo):=by unfold zez;split<;>grind
  have e2:dv x.hi<=zez (dv x.hi):=by unfold zez;split<;>grind
  unfold zez at*;grind
 unfold zba;by_cases h0:zlx x=0
 .rw[Z6 h0,zld];exact⟨q1,zf5 a,hmag⟩
 .rw[Z7 h0];refine⟨?_,?_,hmag⟩
  .rcases l3 with e|e<;>rw[e,zid]
   .exact n1
   .exact n2
  .rcases hs.1 h0 with c|c
   .have e1:zez (dv x.lo)=dv x.lo:=by unfold zez;rw[Z7 (by grind)]
    have e2:zez a=a:=by unfold zez;rw[Z7 (by grind)]
    rw[e1]at l1;rw[e2];exact q0 l1 h1
   .have e1:zez (dv x.hi)= -(dv x.hi):=by unfold zez;rw[Z6 c]
    have e2:zez a= -a:=by unfold zez;rw[Z6 (by grind)]
    rw[e1]at l2;rw[e2];grind
theorem qbs{x x':Iv}(k:KI x)(k':KI x')(h1:dv x'.lo<=dv x.lo)(h2:dv x.hi<=dv x'.hi):0<=dv (zba x')/\dv (zba x')<=dv (zba x)/\dv (kz x)<=dv (kz x'):=by
 have hd:=k.dle;have il:=zik k' h1 (q0 hd h2);have ih:=zik k' (q0 h1 hd) h2;refine⟨il.1,?_,?_⟩
 .unfold zba;by_cases h0:zlx x=0
  .rw[Z6 h0,zld];have hs:=zde k;have c1:¬0<dv x.lo:=fun c=>hs.2 (.inl c) h0
   have c2:¬dv x.hi<0:=fun c=>hs.2 (.inr c) h0
   have i0:=zik k' (a:=0) (by grind) (by grind);have e:zez 0=0:=by unfold zez;rw[Z7 (by grind)]
   rw[e]at i0;exact i0.2.1
  .rw[Z7 h0];obtain⟨_,_,l3⟩:=zkt (zaa x.lo) (zaa x.hi);rcases l3 with e|e<;>rw[e,zid]
   .exact il.2.1
   .exact ih.2.1
 .have hm:kz x=yu (zaa x.lo) (zaa x.hi):=rfl;rw[hm];obtain⟨_,_,l3⟩:=zgd (zaa x.lo) (zaa x.hi);rcases l3 with e|e<;>rw[e,zid]
  .exact il.2.2
  .exact ih.2.2
def rpw(q:Rat):Nat->Rat
 |0=>1
 |n+1=>rpw q n*q
theorem znt{q:Rat}(h:0<=q):∀n,0<=rpw q n
 |0=>by show(0:Rat)<=1;decide
 |n+1=>qF (znt h n) h
theorem zfi{a b c d:Rat}(h0:0<=a)(h1:a<=b)(h2:0<=c)(h3:c<=d):a*c<=b*d:=by
 have e1:a*c<=b*c:=vg h1 h2;have e2:c*b<=d*b:=vg h3 (by grind);rw[qD c,qD d]at e2;exact q0 e1 e2
theorem zf1(q:Rat):∀n,rpw (-q) n=if n % 2=0 then rpw q n else-(rpw q n)
 |0=>rfl
 |n+1=>by
  simp only[rpw];rw[zf1 q n];by_cases h:n % 2=0
  .rw[Z6 h,Z7 O];grind
  .rw[Z7 h,Z6 O];grind
theorem zah{d:Dy}{p:Nat}{up:Bool}:∀ {k:Nat}{r:Dy×Int},(ug d p up k r).2=0->r.2=0
 |0,_,h=>h
 |k+1,r,h=>by
  simp only[ug]at h;split at h
  .assumption
  .exact h
theorem znz{p:Nat}(hp:8<=p/\p<=512){d d':Dy}(hd:VD d)(hd':VD d')(h0:0<=dv d)(hle:dv d<=dv d'):∀k(r r':Dy×Int),VD r.1->VD r'.1->r.2=0->r'.2=0->0<=dv r.1->dv r.1<=dv r'.1->
 (ug d p false k r).2=0/\(ug d' p false k r').2=0/\0<=dv (ug d p false k r).1/\dv (ug d p false k r).1<=dv (ug d' p false k r').1
 |0,r,r',_,_,e,e',n,l=>⟨e,e',n,l⟩
 |k+1,r,r',v,v',e,e',n,l=>by
  simp only[ug];rw[Z6 e,Z6 e'];have m:=(za4 v hd hp).1;have m':=(za4 v' hd' hp).1;have z0:0<=dv r.1*dv d:=qF n h0;have zz:=zfi n l h0 hle;obtain⟨f1,f2⟩:=m.2 0 (.inl (xt p)) z0;obtain⟨g1,g2⟩:=zc2 m m' zz f1;exact znz hp hd hd' h0 hle k _ _ (jp _ _ _ _ hp) (jp _ _ _ _ hp) f1 g1 f2 g2
theorem zi6{p n:Nat}(hp:8<=p/\p<=512){d d':Dy}(hd:VD d)(hd':VD d')(h0:0<=dv d)(hle:dv d<=dv d'):
 (zby d n p false).2=0/\(zby d' n p false).2=0/\0<=dv (zby d n p false).1/\dv (zby d n p false).1<=dv (zby d' n p false).1:=by
 have m:=(kb hd hp).1;have m':=(kb hd' hp).1;obtain⟨f1,f2⟩:=m.2 0 (.inl (xt p)) h0;obtain⟨g1,g2⟩:=zc2 m m' hle f1;exact znz hp hd hd' h0 hle _ _ _ (vw _ _ _ hp) (vw _ _ _ hp) f1 g1 f2 g2
theorem zny{p:Nat}(hp:8<=p/\p<=512){d d':Dy}(hd:VD d)(hd':VD d')(h0:0<=dv d)(hle:dv d<=dv d'):∀k(r r':Dy×Int),VD r.1->VD r'.1->r.2=0->0<=dv r.1->dv r.1<=dv r'.1->(ug d' p true k r').2=0->
 (ug d p true k r).2=0/\0<=dv (ug d p true k r).1/\dv (ug d p true k r).1<=dv (ug d' p true k r').1
 |0,r,r',_,_,e,n,l,_=>⟨e,n,l⟩
 |k+1,r,r',v,v',e,n,l,e'=>by
  have er:=zah e';simp only[ug]at e'⊢;rw[Z6 er]at e'⊢;rw[Z6 e];have m:=(za4 v hd hp).2;have m':=(za4 v' hd' hp).2;have z0:0<=dv r.1*dv d:=qF n h0;have zz:=zfi n l h0 hle;have e2:=zah e';obtain⟨g1,g2⟩:=zc1 m' m zz e2;have g3:=(m.1 g1).1;exact zny hp hd hd' h0 hle k _ _ (jp _ _ _ _ hp) (jp _ _ _ _ hp) g1 (q0 z0 g3) g2 e'
theorem zec{p n:Nat}(hp:8<=p/\p<=512){d d':Dy}(hd:VD d)(hd':VD d')(h0:0<=dv d)(hle:dv d<=dv d')(he:(zby d' n p true).2=0):
 (zby d n p true).2=0/\0<=dv (zby d n p true).1/\dv (zby d n p true).1<=dv (zby d' n p true).1:=by
 have m:=(kb hd hp).2;have m':=(kb hd' hp).2;have e1:=zah he;obtain⟨g1,g2⟩:=zc1 m' m hle e1;have g3:=(m.1 g1).1;exact zny hp hd hd' h0 hle _ _ _ (vw _ _ _ hp) (vw _ _ _ hp) g1 (q0 h0 g3) g2 he
theorem zgb{p:Nat}(hp:8<=p/\p<=512){d:Dy}(hd:VD d)(h0:0<=dv d){q:Rat}(hq:dv d<=q):∀k j(r:Dy×Int),VD r.1->r.2=0->0<=dv r.1->dv r.1<=rpw q j->dv (ug d p false k r).1<=rpw q (j+k)
 |0,j,r,_,_,_,l=>l
 |k+1,j,r,v,e,n,l=>by
  simp only[ug];rw[Z6 e];have m:=(za4 v hd hp).1;have z0:0<=dv r.1*dv d:=qF n h0;obtain⟨f1,f2⟩:=m.2 0 (.inl (xt p)) z0;have f3:=(m.1 f1).1;have:=zgb hp hd h0 hq k (j+1) _ (jp _ _ _ _ hp) f1 f2 (q0 f3 (zfi n l h0 hq))
  rwa [(O:j+1+k=j+(k+1))]at this
theorem zht{p n:Nat}(hp:8<=p/\p<=512)(hn:1<=n){d:Dy}(hd:VD d)(h0:0<=dv d){q:Rat}(hq:dv d<=q):dv (zby d n p false).1<=rpw q n:=by
 have m:=(kb hd hp).1;obtain⟨f1,f2⟩:=m.2 0 (.inl (xt p)) h0;have f3:=(m.1 f1).1;have:=zgb hp hd h0 hq (n-1) 1 _ (vw _ _ _ hp) f1 f2 (by simp only[rpw];rw[qT];exact q0 f3 hq)
 rwa [(O:1+(n-1)=n)]at this
theorem zga{p:Nat}(hp:8<=p/\p<=512){d:Dy}(hd:VD d){q:Rat}(h0:0<=q)(hq:q<=dv d):∀k j(r:Dy×Int),VD r.1->rpw q j<=dv r.1->(ug d p true k r).2=0->rpw q (j+k)<=dv (ug d p true k r).1
 |0,j,r,_,l,_=>l
 |k+1,j,r,v,l,e=>by
  have er:=zah e;simp only[ug]at e⊢;rw[Z6 er]at e⊢;have m:=(za4 v hd hp).2;have f3:=(m.1 (zah e)).1;have:=zga hp hd h0 hq k (j+1) _ (jp _ _ _ _ hp) (q0 (zfi (znt h0 j) l h0 hq) f3) e
  rwa [(O:j+1+k=j+(k+1))]at this
theorem zhs{p n:Nat}(hp:8<=p/\p<=512)(hn:1<=n){d:Dy}(hd:VD d){q:Rat}(h0:0<=q)(hq:q<=dv d)(he:(zby d n p true).2=0):rpw q n<=dv (zby d n p true).1:=by
 have m:=(kb hd hp).2;have f3:=(m.1 (zah he)).1;have:=zga hp hd h0 hq (n-1) 1 _ (vw _ _ _ hp) (by simp only[rpw];rw[qT];exact q0 hq f3) he
 rwa [(O:1+(n-1)=n)]at this
theorem zcw{d:Dy}{n p:Nat}{up:Bool}(h:dv d<0):za0 d n p up=(kc (zby (kc d) n p (!up)).1,(zby (kc d) n p (!up)).2):=by
 unfold za0;rw[Z6 ((yq d).1.2 h)]
theorem zcv{d:Dy}{n p:Nat}{up:Bool}(h:0<=dv d):za0 d n p up=zby d n p up:=by
 unfold za0;rw[Z7 fun c=>by have:=(yq d).1.1 c;grind]
theorem qe0{p n:Nat}(hp:8<=p/\p<=512){d d':Dy}(hd:VD d)(hd':VD d')(hle:dv d'<=dv d)(he:(za0 d' n p false).2=0):(za0 d n p false).2=0/\dv (za0 d' n p false).1<=dv (za0 d n p false).1:=by
 by_cases c':dv d'<0
 .rw[zcw c']at he⊢;have hz:0<=dv (kc d'):=by rw[ji];grind
  by_cases c:dv d<0
  .rw[zcw c];obtain⟨a1,_,a2⟩:=zec (n:=n) hp (jl hd) (jl hd') (by rw[ji];grind) (by rw[ji,ji];grind) he;refine⟨a1,?_⟩;simp only[ji]at a2⊢;grind
  .rw[zcv (by grind)];obtain⟨b1,_,b3,_⟩:=zi6 (n:=n) hp hd hd (by grind) q1;obtain⟨_,a3,_⟩:=zec (n:=n) hp (jl hd') (jl hd') hz q1 he;refine⟨b1,?_⟩;simp only[ji,qW];grind
 .have h0:0<=dv d':=by grind
  rw[zcv h0]at he⊢;rw[zcv (q0 h0 hle)];obtain⟨_,b2,_,b4⟩:=zi6 (n:=n) hp hd' hd h0 hle;exact⟨b2,b4⟩
theorem qez{p n:Nat}(hp:8<=p/\p<=512){d d':Dy}(hd:VD d)(hd':VD d')(hle:dv d<=dv d')(he:(za0 d' n p true).2=0):(za0 d n p true).2=0/\dv (za0 d n p true).1<=dv (za0 d' n p true).1:=by
 by_cases c':dv d'<0
 .have c:dv d<0:=by grind
  rw[zcw c',zcw c];obtain⟨_,b2,_,b4⟩:=zi6 (n:=n) hp (jl hd') (jl hd) (by rw[ji];grind) (by rw[ji,ji];grind);refine⟨b2,?_⟩;simp only[ji,qO]at b4⊢;grind
 .have h0':0<=dv d':=by grind
  rw[zcv h0']at he⊢;by_cases c:dv d<0
  .rw[zcw c];obtain⟨b1,_,b3,_⟩:=zi6 (n:=n) hp (jl hd) (jl hd) (by rw[ji];grind) q1;obtain⟨_,a3,_⟩:=zec (n:=n) hp hd' hd' h0' q1 he;refine⟨b1,?_⟩;simp only[ji,qO];grind
  .rw[zcv (by grind)];obtain⟨a1,_,a3⟩:=zec (n:=n) hp hd hd' (by grind) hle he;exact⟨a1,a3⟩
theorem ztp{p n:Nat}(hp:8<=p/\p<=512)(hn:1<=n){d:Dy}(hd:VD d){q:Rat}(hq:dv d<=q)(hpar:n % 2=1\/0<=dv d)(he:(za0 d n p false).2=0):dv (za0 d n p false).1<=rpw q n:=by
 by_cases c:dv d<0
 .rw[zcw c]at he⊢;have hodd:n % 2=1:=hpar.elim id fun h=>absurd c (by grind)
  have hz:0<=dv (kc d):=by rw[ji];grind
  simp only[ji,qW]at he⊢;by_cases cq:q<0
  .have:=zhs hp hn (jl hd) (q:= -q) (by grind) (by rw[ji];grind) he;rw[zf1,Z7 O]at this;grind
  .obtain⟨_,a3,_⟩:=zec (n:=n) hp (jl hd) (jl hd) hz q1 he;have:=znt (q:=q) (by grind) n;grind
 .rw[zcv (by grind)];exact zht hp hn hd (by grind) hq
theorem zto{p n:Nat}(hp:8<=p/\p<=512)(hn:1<=n){d:Dy}(hd:VD d){q:Rat}(hq:q<=dv d)(hpar:n % 2=1\/0<=q)(he:(za0 d n p true).2=0):rpw q n<=dv (za0 d n p true).1:=by
 by_cases c:dv d<0
 .have hodd:n % 2=1:=hpar.elim id fun h=>absurd c (by grind)
  rw[zcw c];simp only[ji,qO];have:=zht (n:=n) hp hn (jl hd) (by rw[ji];grind) (q:= -q) (by rw[ji];grind);rw[zf1,Z7 O]at this;grind
 .have h0:0<=dv d:=by grind
  rw[zcv h0]at he⊢;by_cases cq:q<0
  .have hodd:n % 2=1:=hpar.elim id fun h=>absurd cq (by grind)
   obtain⟨_,a3,_⟩:=zec (n:=n) hp hd hd h0 q1 he;have h1:=znt (q:= -q) (by grind) n;rw[zf1,Z7 O]at h1;grind
  .exact zhs hp hn hd (by grind) hq he
theorem zm5{x:Iv}(k:KI x):KI (zud x):=by
 rw[ze5 ((zq k.ri).2 k)];have h:=zik k (a:=dv x.lo) q1 k.dle;exact⟨rfl,zil k,zcn k,ui.2 (q0 h.2.1 h.2.2)⟩
theorem zr0{x:Iv}(k:KI x){n p:Int}(hp:pcB p=true)(hn:0<=n/\n<=16):ze9 x n p=if n=0 then qs (wo 1)else pwK (if n % 2=0 then zud x else x) n.toNat p.toNat:=by
 unfold ze9;rw[Z6 ⟨(zq k.ri).2 k,hp,hn⟩]
theorem qds{x:Iv}(hx:RI x){n p:Int}(h:¬KI x):ze9 x n p=wI0:=by
 unfold ze9;rw[Z7 fun c=>h ((zq hx).1 c.1)]
theorem yn(n:Int):dv (wo n)=(n:Rat):=by
 unfold wo;rw[zle];have hv:vN n.natAbs 0=((n.natAbs:Nat):Rat):=by
  unfold vN;have:pw 0=1:=by have:=zrw 0;simpa using this
  rw[this,Rat.mul_one]
 rw[hv];by_cases h:n<0
 .rw[Z8 h,Z6 rfl];have e:n= -(n.natAbs:Int):=O;conv=>rhs;rw[e]
  rw[qV,qE]
 .rw[Z9 h,Z7 OA];have e:n=(n.natAbs:Int):=O;conv=>rhs;rw[e]
  rw[qE]
theorem qdr{y:Iv}(k:KI y){n p:Nat}(hp:8<=p/\p<=512)(hn:1<=n){q:Rat}(h1:dv y.lo<=q)(h2:q<=dv y.hi)(hpar:n % 2=1\/0<=dv y.lo):inI (rpw q n) (pwK y n p):=by
 unfold pwK
 cases ha:(qy (za0 y.lo n p false) (za0 y.hi n p true)).all with
 |true=>exact .inl ha
 |false=>
  obtain⟨e1,e2⟩:=jh.1 ha;rw[jw ha];exact .inr ⟨ztp hp hn k.lo h1 hpar e1,zto hp hn k.hi h2 (hpar.imp id fun c=>q0 c h1) e2⟩
theorem qdt{x:Iv}(hx:VI x){n p:Int}(hp:pcB p=true)(hn:0<=n/\n<=16){q:Rat}(hq:inI q x):inI (rpw q n.toNat) (ze9 x n p):=by
 by_cases k:KI x
 .rw[zr0 k hp hn];rcases hq with hq|hq
  .rw[k.all]at hq;cases hq
  by_cases h0:n=0
  .subst h0;rw[Z6 rfl];refine .inr ⟨?_,?_⟩
   .show dv (wo 1)<=1;rw[yn];decide
   .show 1<=dv (wo 1);rw[yn];decide
  .rw[Z7 h0];by_cases he:n % 2=0
   .rw[Z6 he];have ka:=zm5 k;have ha:=zik k hq.1 hq.2;have e:zud x=⟨zba x,kz x,false⟩:=ze5 ((zq k.ri).2 k);have hr:rpw (zez q) n.toNat=rpw q n.toNat:=by
     unfold zez;split
     .rw[zf1,Z6 O]
     .rfl
    rw[<-hr];refine qdr ka (qn hp) O ?_ ?_ (.inr ?_)
    .rw[e];exact ha.2.1
    .rw[e];exact ha.2.2
    .rw[e];exact ha.1
   .rw[Z7 he];exact qdr k (qn hp) O hq.1 hq.2 (.inl O)
 .rw[qds hx.ri k];exact w_in _
theorem zr1{x:Iv}(hx:VI x){n p:Int}(hp:pcB p=true):VI (ze9 x n p):=by
 by_cases hn:0<=n/\n<=16
 .exact zjy (zuq x n p) (qdt hx hp hn (zsr hx))
 .have:ze9 x n p=wI0:=by unfold ze9;rw[Z7 fun c=>hn c.2.2]
  rw[this];exact .inr rfl
theorem zry{y y':Iv}(k:KI y)(k':KI y'){n p:Nat}(hp:8<=p/\p<=512)(h1:dv y'.lo<=dv y.lo)(h2:dv y.hi<=dv y'.hi):uf (pwK y n p) (pwK y' n p):=by
 unfold pwK
 cases ha:(qy (za0 y'.lo n p false) (za0 y'.hi n p true)).all with
 |true=>exact .inl ha
 |false=>
  obtain⟨e1,e2⟩:=jh.1 ha;obtain⟨a1,a2⟩:=qe0 hp k.lo k'.lo h1 e1;obtain⟨b1,b2⟩:=qez hp k.hi k'.hi h2 e2;have hb:=jh.2 ⟨a1,b1⟩;rw[jw ha,jw hb];exact .inr ⟨rfl,rfl,a2,b2⟩
theorem zrz{x x':Iv}(hx:VI x)(hx':VI x'){n p:Int}(hp:pcB p=true)(h:uf x x'):uf (ze9 x n p) (ze9 x' n p):=by
 by_cases hn:0<=n/\n<=16
 rotate_left
 .have:ze9 x' n p=wI0:=by unfold ze9;rw[Z7 fun c=>hn c.2.2]
  rw[this];exact .inl rfl
 by_cases k':KI x'
 .obtain⟨k,a1,a2⟩:=ziu h hx k';rw[zr0 k hp hn,zr0 k' hp hn];by_cases h0:n=0
  .rw[Z6 h0,Z6 h0];exact .inr ⟨rfl,rfl,q1,q1⟩
  .rw[Z7 h0,Z7 h0];by_cases he:n % 2=0
   .rw[Z6 he,Z6 he];obtain⟨_,i2,i3⟩:=qbs k k' a1 a2;refine zry (zm5 k) (zm5 k') (qn hp) ?_ ?_
    .rw[ze5 ((zq k.ri).2 k),ze5 ((zq k'.ri).2 k')];exact i2
    .rw[ze5 ((zq k.ri).2 k),ze5 ((zq k'.ri).2 k')];exact i3
   .rw[Z7 he,Z7 he];exact zry k k' (qn hp) a1 a2
 .rw[qds hx'.ri k'];exact .inl rfl
