/- Rounding as a law of rational numbers: the greatest number of p bits below a number, the least one above it. -/
import Derived.Test.YtlbmkjbgfkgcmaaGreatDoorTYy
set_option linter.all false
open Bool renaming false_eq_true->q3,and_false->qG,and_self->qR
open Nat renaming two_pow_pos->q2,pow_le_pow_right->qC,lt_of_lt_of_le->qF,le_div_iff_mul_le->qJ,pow_add->qK,pos_of_ne_zero->qM,le_of_lt->qO,div_add_mod'->qP,succ_mul->qT,not_le->qV,mod_lt->qW
open Rat renaming le_trans->q0,le_refl->q1,not_le->q4,intCast_lt_intCast->qA,le_of_lt->qB,intCast_natCast->qD,mul_comm->qE,lt_irrefl->qH,not_lt->qI,neg_neg->qL,mul_inv_cancel->qN,intCast_neg->qQ,zero_mul->qS,inv_pos->qU
namespace Go.Proofs.YtlbmkjbgfkgcmaaGreatDoor
open Go Go.Sx
set_option maxHeartbeats 2000000
def pw(e:Int):Rat:=(2:Rat)^e
theorem pwA(a b:Int):pw (a+b)=pw a*pw b:=Rat.zpow_add OA a b
theorem zc3(e:Int):0<pw e:=Rat.zpow_pos OA
theorem zso(k:Nat):pw (k:Int)=((2^k:Nat):Rat):=by
 unfold pw;rw[Rat.zpow_natCast,Rat.natCast_pow];rfl
theorem zs7{a b:Nat}:(a:Rat)<=(b:Rat)<->a<=b:=Rat.natCast_le_natCast
theorem zox(a b:Nat):((a*b:Nat):Rat)=a*b:=Rat.natCast_mul a b
theorem zwl(a b:Nat):((a+b:Nat):Rat)=a+b:=Rat.natCast_add a b
theorem qar(a:Nat):(0:Rat)<=a:=Rat.natCast_nonneg
theorem zyc{a b c:Rat}(h1:a<b)(h2:b<=c):a<c:=by grind
theorem vz{a b c:Rat}(h:a<=b)(hc:0<=c):a*c<=b*c:=Rat.mul_le_mul_of_nonneg_right h hc
theorem zdc{a b c:Rat}(h:a*c<=b*c)(hc:0<c):a<=b:=Rat.le_of_mul_le_mul_right h hc
def vN(n:Nat)(e:Int):Rat:=(n:Rat)*pw e
theorem yj{a b:Nat}{e:Int}:vN a e<=vN b e<->a<=b:=by
 unfold vN;constructor
 .intro h;exact zs7.1 (zdc h (zc3 e))
 .intro h;exact vz (zs7.2 h) (qB (zc3 e))
theorem zkw{a b:Nat}{e:Int}:vN a e<vN b e<->a<b:=by
 have h1:=yj (a:=b) (b:=a) (e:=e);constructor
 .intro h;exact qV.1 fun c=>qI.2 (h1.2 c) h
 .intro h;exact q4.1 fun c=>by have:=h1.1 c;omega
theorem zb8(n k:Nat)(e:Int):vN (n*2^k) e=vN n (e+k):=by
 unfold vN;rw[pwA,zso,zox,Rat.mul_assoc,qE (pw e)]
theorem ui(n:Nat)(e u:Int)(h:u<=e):vN n e=vN (n*2^(e-u).toNat) u:=by
 rw[zb8];congr 1;omega
theorem zkv(n:Nat)(e:Int):0<=vN n e:=Rat.mul_nonneg (qar n) (qB (zc3 e))
theorem ut(e:Int):vN 0 e=0:=by unfold vN;rw[show((0:Nat):Rat)=0 from rfl,qS]
theorem znx(e:Int):vN 1 e=pw e:=by unfold vN;rw[show((1:Nat):Rat)=1 from rfl,Rat.one_mul]
theorem zfb(k:Nat)(e:Int):vN (2^k) e=pw (e+k):=by
 have:=zb8 1 k e;rw[Nat.one_mul]at this;rw[this,znx]
theorem zjs{a b:Int}:pw a<=pw b<->a<=b:=by
 have key:∀ {a b:Int},a<=b->pw a<=pw b:=fun {a b}h=>by
  rw[<-znx a,<-znx b,ui 1 b a h,yj];have:=q2 (b-a).toNat;omega
 constructor
 .intro h;refine Int.not_lt.1 fun c=>?_
  have h1:pw (b+1)<=pw a:=key O;have h2:pw (b+1)=pw b*2:=by rw[pwA];congr 1
  have h3:=zc3 b;grind
 .exact key
def dv(d:Dy):Rat:=if d.neg=true then-(vN (nm d) d.e)else vN (nm d) d.e
theorem zel(neg:Bool)(n:Nat)(e:Int):dv (cnN neg n e)=if neg=true then-(vN n e)else vN n e:=by
 by_cases h:n=0
 .subst h;have e1:cnN neg 0 e=d0:=by unfold cnN;rw[Z6 rfl]
  rw[e1,ut];unfold dv;rw[Z7 OA,zs4,ut];split<;>rfl
 .obtain⟨m,hm,hm1,hm2,_⟩:=zdh h;have hc:cnN neg n e=⟨neg,toL m,e+tz n⟩:=by unfold cnN;rw[Z7 h,hm2]
  have hv:vN n e=vN m (e+tz n):=by
   conv=>lhs;rw[hm]
   exact zb8 m (tz n) e
  unfold dv;rw[hc,yr,hv]
def inF(p:Nat)(z:Rat):Prop:=∃(k:Nat)(u:Int),z=vN k u/\k<=2^p/\ -16384<=u/\z<pw 16384
theorem zdq{n:Nat}{e t:Int}(h:(bl n:Int)+e<=t):vN n e<pw t:=by
 have h1:vN n e<vN (2^bl n) e:=zkw.2 (zaq n);rw[zfb]at h1;exact zyc h1 (zjs.2 O)
theorem yd{n:Nat}{e t:Int}(h:t<(bl n:Int)+e)(hn:n≠0):pw t<=vN n e:=by
 have h0:bl n≠0:=fun c=>hn (kj.1 c)
 have h1:2^(bl n-1)<=n:=(xd hn).1 O;have h2:vN (2^(bl n-1)) e<=vN n e:=yj.2 h1;rw[zfb]at h2;exact q0 (zjs.2 O) h2
theorem zkx(m:Nat)(e p:Int):unN m e p=e+bl m-p\/(unN m e p= -16384/\e+bl m-p<= -16384):=by unfold unN;omega
theorem grid{p:Nat}{k:Nat}{u w:Int}(hk:k<=2^p):(w<=u/\∃j:Nat,vN k u=vN j w)\/(u<w/\vN k u<=pw (w+p-1)):=by
 by_cases h:w<=u
 .exact .inl ⟨h,_,ui k u w h⟩
 .refine .inr ⟨O,?_⟩;have h1:vN k u<=vN (2^p) u:=yj.2 hk;rw[zfb]at h1;exact q0 h1 (zjs.2 O)
theorem zg9{m:Nat}{e:Int}{more:Bool}{u:Int}(h:¬u<=e):vN (wz m e more u).1 u<=vN m e/\vN (m+1) e<=vN ((wz m e more u).1+1) u/\((wz m e more u).2=false->more=false/\vN (wz m e more u).1 u=vN m e)/\((wz m e more u).2=true->more=true\/¬vN m e<=vN (wz m e more u).1 u):=by
 unfold wz;rw[Z7 h];simp only;have hk:=q2 (u-e).toNat;have e1:∀n,vN n u=vN (n*2^(u-e).toNat) e:=fun n=>ui n u e O
 have h1:=qP m (2^(u-e).toNat);have h2:=qW m hk;rw[e1,e1,yj,yj,qT];refine⟨O,O,?_,?_⟩
 .intro h3;simp only[Bool.or_eq_false_iff,Z5,Decidable.not_not]at h3;refine⟨h3.1,?_⟩
  congr 1;omega
 .intro h3;simp only[Bool.or_eq_true,Z4]at h3;refine h3.imp id fun h4=>?_
  rw[yj];omega
theorem zxg{L:Rat->Prop}(hL:∀a b,a<=b->L b->L a){m:Nat}{e:Int}{more:Bool}{p:Nat}(hp:8<=p/\p<=512)(h0:L (vN m e))(h1:∀z,L z->z<=vN (m+1) e)(h1':¬L (vN (m+1) e))(hx:more=false->∀z,L z->z<=vN m e)(hm:more=true->p<bl m)(he:m=0->e<=16384):
 (za8 m e more p false).2=0/\L (dv (za8 m e more p false).1)/\inF p (dv (za8 m e more p false).1)/\∀z,inF p z->L z->z<=dv (za8 m e more p false).1:=by
 have hub:=zra m e p;have huc:=zkx m e p;have hfb:=zkf m e more p;have hup:upN (wz m e more (unN m e p)) false=(wz m e more (unN m e p)).1:=by unfold upN;simp
 have hlead:unN m e p=e+bl m-p->m≠0->pw (unN m e p+p-1)<=vN (wz m e more (unN m e p)).1 (unN m e p)/\pw (unN m e p+p-1)<=vN m e:=by
  intro h hm0;have hb0:bl m≠0:=fun c=>hm0 (kj.1 c)
  have h2:pw (unN m e p+p-1)<=vN m e:=yd O hm0;refine⟨?_,h2⟩;by_cases hu:unN m e p<=e
  .have:vN (wz m e more (unN m e p)).1 (unN m e p)=vN m e:=by
    unfold wz;rw[Z6 hu];exact(ui m e _ hu).symm
   rw[this];exact h2
  .have h3:(wz m e more (unN m e p)).1=m/2^(unN m e p-e).toNat :=by unfold wz;rw[Z7 hu]
   have h4:2^(p-1)<=m/2^(unN m e p-e).toNat :=by
    rw[qJ (q2 _),<-qK];exact(xd hm0).1 O
   rw[h3];have h5:vN (2^(p-1)) (unN m e p)<=vN (m/2^(unN m e p-e).toNat) (unN m e p):=yj.2 h4;rw[zfb]at h5;refine q0 (zjs.2 O) h5
 have hq1:L (vN (wz m e more (unN m e p)).1 (unN m e p)):=by
  by_cases hu:unN m e p<=e
  .have:vN (wz m e more (unN m e p)).1 (unN m e p)=vN m e:=by
    unfold wz;rw[Z6 hu];exact(ui m e _ hu).symm
   rw[this];exact h0
  .exact hL _ _ (zg9 hu).1 h0
 have hq2:∀j,L (vN j (unN m e p))->vN j (unN m e p)<=vN (wz m e more (unN m e p)).1 (unN m e p):=by
  intro j hj;by_cases hu:unN m e p<=e
  .have hmf:more=false:=by
    cases hmo:more with
    |false=>rfl
    |true=>
     have:=hm hmo;rcases huc with h|h<;>omega
   have:vN (wz m e more (unN m e p)).1 (unN m e p)=vN m e:=by
    unfold wz;rw[Z6 hu];exact(ui m e _ hu).symm
   rw[this];exact hx hmf _ hj
  .rw[yj];refine Nat.not_lt.1 fun c=>?_
   have h3:vN ((wz m e more (unN m e p)).1+1) (unN m e p)<=vN j (unN m e p):=yj.2 c;exact h1' (hL _ _ (q0 (zg9 hu).2.1 h3) hj)
 unfold za8;rw[hup];generalize (wz m e more (unN m e p)).1=q at*;generalize unN m e p=w at*;split
 .rename_i hov;simp only[q3,if_false];have hq0:q≠0:=fun c=>by
   rw[c,qx]at hov;rcases huc with h|h
   .by_cases hm0:m=0
    .have:=he hm0;rw[hm0,qx]at h;omega
    .have h3:=(hlead h hm0).1;rw[c,ut]at h3;exact q4.2 (zc3 _) h3
   .omega
  have hbig:pw 16384<=vN q w:=yd O hq0;rw[zel,Z7 OA];have hp2:=q2 p;have hlt:vN (2^p-1) (16384-p)<pw 16384:=by
   have:vN (2^p-1) (16384-p)<vN (2^p) (16384-p):=zkw.2 O;rw[zfb]at this;have e2:(16384-(p:Int)+p)=16384:=O
   rwa [e2]at this
  refine⟨trivial,hL _ _ (q0 (qB hlt) hbig) hq1,⟨2^p-1,16384-p,rfl,O,O,hlt⟩,fun z hz _=>?_⟩;obtain⟨k,u,rfl,hk,hu,hz16⟩:=hz;rcases grid (w:=16384-p) hk (u:=u)with ⟨_,j,hj⟩|⟨_,hj⟩
  .rw[hj]at hz16⊢;rw[yj];have e3:pw 16384=vN (2^p) (16384-p):=by rw[zfb];congr 1;omega
   rw[e3,zkw]at hz16;omega
  .refine q0 hj ?_;have e4:pw (16384-(p:Int)+p-1)=vN (2^(p-1)) (16384-p):=by rw[zfb];congr 1;omega
   rw[e4,yj];have:2^p=2*2^(p-1):=by rw[Nat.mul_comm,<-Nat.pow_succ];congr 1;omega
   have:=q2 (p-1);omega
 .rename_i hov;simp only;rw[zel,Z7 OA];refine⟨trivial,hq1,⟨q,w,rfl,?_,hub,zdq O⟩,fun z hz hLz=>?_⟩
  .exact qO (qF (zaq q) (qC OA hfb))
  .obtain⟨k,u,rfl,hk,hu,_⟩:=hz;rcases grid (w:=w) hk (u:=u)with ⟨_,j,hj⟩|⟨hlt,hj⟩
   .rw[hj]at hLz⊢;exact hq2 j hLz
   .rcases huc with h|h
    .by_cases hm0:m=0
     .subst hm0;have hmf:more=false:=by
       cases hmo:more with
       |false=>rfl
       |true=>have:=hm hmo;rw[qx]at this;omega
      have h3:=hx hmf _ hLz;rw[ut]at h3;exact q0 h3 (zkv q w)
     .exact q0 hj (hlead h hm0).1
    .omega
theorem zdv{a b:Rat}(h1:a<=b)(h2:b<=a):a=b:=by grind
theorem qfn{U:Rat->Prop}(hU:∀a b,a<=b->U a->U b){m:Nat}{e:Int}{more:Bool}{p:Nat}(hp:8<=p/\p<=512)(h0:more=false->U (vN m e))(h0':U (vN (m+1) e))(h1:∀z,U z->vN m e<=z)(h1':more=true->¬U (vN m e))(hm:more=true->p<bl m)(he:m=0->e<=16384):
 ((za8 m e more p true).2=0->U (dv (za8 m e more p true).1)/\inF p (dv (za8 m e more p true).1))/\∀z,inF p z->U z->(za8 m e more p true).2=0/\dv (za8 m e more p true).1<=z:=by
 have hub:=zra m e p;have huc:=zkx m e p;have hfb:=zkf m e more p;have hmf:unN m e p<=e->more=false:=fun hu=>by
  cases hmo:more with
  |false=>rfl
  |true=>
   have:=hm hmo;rcases huc with h|h<;>omega
 have hex:unN m e p<=e->vN (wz m e more (unN m e p)).1 (unN m e p)=vN m e/\(wz m e more (unN m e p)).2=false:=fun hu=>by
  have:=hmf hu;unfold wz;rw[Z6 hu];exact⟨(ui m e _ hu).symm,this⟩
 have hA:U (vN (upN (wz m e more (unN m e p)) true) (unN m e p)):=by
  by_cases hu:unN m e p<=e
  .obtain⟨e1,e2⟩:=hex hu;unfold upN;rw[e2];simp only[qG,q3,if_false];rw[e1];exact h0 (hmf hu)
  .obtain⟨f1,f2,f3,f4⟩:=zg9 (m:=m) (more:=more) hu;unfold upN
   cases hF:(wz m e more (unN m e p)).2 with
   |false=>
    simp only[qG,q3,if_false];obtain⟨g1,g2⟩:=f3 hF;rw[g2];exact h0 g1
   |true=>
    simp only[qR,if_true];exact hU _ _ f2 h0'
 have hB:∀j,U (vN j (unN m e p))->upN (wz m e more (unN m e p)) true<=j:=by
  intro j hj;have hle:=h1 _ hj;by_cases hu:unN m e p<=e
  .obtain⟨e1,e2⟩:=hex hu;unfold upN;rw[e2];simp only[qG,q3,if_false];rw[<-e1,yj]at hle;exact hle
  .obtain⟨f1,f2,f3,f4⟩:=zg9 (m:=m) (more:=more) hu;unfold upN
   cases hF:(wz m e more (unN m e p)).2 with
   |false=>
    simp only[qG,q3,if_false];obtain⟨g1,g2⟩:=f3 hF;rw[<-g2,yj]at hle;exact hle
   |true=>
    simp only[qR,if_true];refine qV.1 fun c=>?_
    have h3:vN j (unN m e p)<=vN (wz m e more (unN m e p)).1 (unN m e p):=yj.2 c;rcases f4 hF with h|h
    .refine h1' h ?_;rw[zdv hle (q0 h3 f1)];exact hj
    .exact h (q0 hle h3)
 have hq0:m=0->upN (wz m e more (unN m e p)) true=0:=fun h=>by
  have hmo:more=false:=by
   cases hmo:more with
   |false=>rfl
   |true=>have:=hm hmo;rw[h,qx]at this;omega
  subst h hmo;unfold wz upN;split<;>simp
 have hle:upN (wz m e more (unN m e p)) true<=2^p:=by
  have h3:(wz m e more (unN m e p)).1<2^p:=qF (zaq _) (qC OA hfb);unfold upN;split<;>omega
 have hlead:∀z,U z->z<=pw (unN m e p+p-1)->unN m e p=e+bl m-p->vN (upN (wz m e more (unN m e p)) true) (unN m e p)<=z:=by
  intro z hz hz2 h;by_cases hm0:m=0
  .rw[hq0 hm0,ut];exact q0 (zkv m e) (h1 z hz)
  .have hb0:bl m≠0:=fun c=>hm0 (kj.1 c)
   have h2:pw (unN m e p+p-1)<=vN m e:=yd O hm0;have h3:z=vN (2^(p-1)) (unN m e p):=by
    rw[zfb];have:unN m e p+((p-1:Nat):Int)=unN m e p+p-1:=O;rw[this];exact zdv hz2 (q0 h2 (h1 z hz))
   rw[h3]at hz⊢;exact yj.2 (hB _ hz)
 have hall:∀z,inF p z->U z->vN (upN (wz m e more (unN m e p)) true) (unN m e p)<=z:=by
  intro z hz hUz;obtain⟨k,u,rfl,hk,hu,_⟩:=hz;rcases grid (w:=unN m e p) hk (u:=u)with ⟨_,j,hj⟩|⟨hlt,hj⟩
  .rw[hj]at hUz⊢;exact yj.2 (hB j hUz)
  .rcases huc with h|h
   .exact hlead _ hUz hj h
   .omega
 unfold za8;generalize upN (wz m e more (unN m e p)) true=q at*;generalize unN m e p=w at*;by_cases hov:16384<(bl q:Int)+w
 .rw[Z6 hov];simp only[if_true];refine⟨fun h=>absurd h OA,fun z hz hUz=>?_⟩;have hqn:q≠0:=fun c=>by
   rw[c,qx]at hov;rcases huc with h|h
   .by_cases hm0:m=0
    .have:=he hm0;rw[hm0,qx]at h;omega
    .have hb0:bl m≠0:=fun c=>hm0 (kj.1 c)
     rw[c,ut]at hA;have h3:=h1 _ hA;have h4:pw (w+p-1)<=vN m e:=yd O hm0;exact q4.2 (zc3 _) (q0 h4 h3)
   .omega
  have h3:=hall z hz hUz;have h4:pw 16384<=vN q w:=yd O hqn;obtain⟨_,_,_,_,_,h5⟩:=hz;exact absurd (q0 h4 h3) (q4.2 h5)
 .rw[Z7 hov];simp only;rw[zel,Z7 OA];exact⟨fun _=>⟨hA,q,w,rfl,hle,hub,zdq O⟩,fun z hz hUz=>⟨trivial,hall z hz hUz⟩⟩
def Fp(p:Nat)(z:Rat):Prop:=inF p z\/inF p (-z)
def RD(p:Nat)(L:Rat->Prop)(r:Dy×Int):Prop:=(r.2=0->L (dv r.1)/\Fp p (dv r.1))/\∀z,Fp p z->L z->r.2=0/\z<=dv r.1
def RU(p:Nat)(U:Rat->Prop)(r:Dy×Int):Prop:=(r.2=0->U (dv r.1)/\Fp p (dv r.1))/\∀z,Fp p z->U z->r.2=0/\dv r.1<=z
theorem zek{d:Dy}:dv (jp d)= -dv d:=by
 unfold jp dv;by_cases h:nm d=0
 .rw[Z6 h,Z7 OA,zs4,h,ut,ut];split<;>rfl
 .rw[Z7 h];have h2:nm ⟨!d.neg,d.m,d.e⟩=nm d:=rfl;rw[h2];cases d.neg<;>simp
theorem ze4:dv d0=0:=by
 unfold dv;rw[Z7 OA,zs4,ut]
theorem zcm(p:Nat):inF p 0:=⟨0,0,(ut 0).symm,Nat.zero_le _,OA,zc3 _⟩
theorem ziu{p:Nat}{z:Rat}(h:inF p z):0<=z:=by
 obtain⟨k,u,rfl,_⟩:=h;exact zkv k u
theorem zv5{L U:Rat->Prop}{m:Nat}{e:Int}{more:Bool}{p:Nat}(hp:8<=p/\p<=512)(neg:Bool)
 (hL:∀a b,a<=b->L b->L a) (hU:∀a b,a<=b->U a->U b) (l0:L (vN m e)) (l1:∀z,L z->z<=vN (m+1) e) (l1':¬L (vN (m+1) e)) (lx:more=false->∀z,L z->z<=vN m e)
 (u0:more=false->U (vN m e)) (u0':U (vN (m+1) e)) (u1:∀z,U z->vN m e<=z) (u1':more=true->¬U (vN m e)) (hm:more=true->p<bl m) (he:m=0->e<=16384):
 RD p (fun z=>if neg=true then U (-z)else L z) (xi neg m e more p false)/\RU p (fun z=>if neg=true then L (-z)else U z) (xi neg m e more p true):=by
 have hL0:L 0:=hL _ _ (zkv m e) l0;obtain⟨d1,d2,d3,d4⟩:=zxg hL hp l0 l1 l1' lx hm he;obtain⟨c1,c2⟩:=qfn hU hp u0 u0' u1 u1' hm he;have hUn:∀z,U z->0<=z:=fun z hz=>q0 (zkv m e) (u1 z hz)
 have hr0:0<=dv (za8 m e more p false).1:=ziu d3
 cases neg with
 |false=>
  have e1:xi false m e more p false=za8 m e more p false:=by unfold xi;rw[Z7 OC];rfl
  have e2:xi false m e more p true=za8 m e more p true:=by unfold xi;rw[Z7 OC];rfl
  rw[e1,e2];refine⟨⟨fun _=>⟨by simpa using d2,.inl d3⟩,fun z hz hz2=>⟨d1,?_⟩⟩,⟨fun h=>?_,fun z hz hz2=>?_⟩⟩
  .rcases hz with hz|hz
   .exact d4 z hz (by simpa using hz2)
   .have:=ziu hz;grind
  .obtain⟨h1,h2⟩:=c1 h;exact⟨by simpa using h1,.inl h2⟩
  .have hz3:U z:=by simpa using hz2
   rcases hz with hz|hz
   .exact c2 z hz hz3
   .have h3:=ziu hz;have h4:=hUn z hz3;have h5:z=0:=by grind
    subst h5;exact c2 0 (zcm p) hz3
 |true=>
  have e1:xi true m e more p false=if(za8 m e more p true).2=0 then(jp (za8 m e more p true).1,0)else za8 m e more p true:=by
   unfold xi;simp only[and_true];rfl
  have e2:xi true m e more p true=(jp (za8 m e more p false).1,0):=by
   unfold xi;simp only[and_true];rw[Z6 (by exact d1)];rfl
  rw[e1,e2];refine⟨⟨fun h=>?_,fun z hz hz2=>?_⟩,⟨fun _=>?_,fun z hz hz2=>⟨rfl,?_⟩⟩⟩
  .by_cases hc:(za8 m e more p true).2=0
   .rw[Z6 hc];obtain⟨h1,h2⟩:=c1 hc;simp only[zek,if_true];refine⟨?_,.inr ?_⟩
    .rw[qL];exact h1
    .rw[qL];exact h2
   .rw[Z7 hc]at h;exact absurd h hc
  .have hz3:U (-z):=by simpa using hz2
   have hz4:inF p (-z):=by
    rcases hz with hz|hz
    .have h3:=ziu hz;have h4:=hUn _ hz3;have h5:z=0:=by grind
     subst h5;have:(-0:Rat)=0:=by grind
     rw[this];exact zcm p
    .exact hz
   obtain⟨h1,h2⟩:=c2 _ hz4 hz3;rw[Z6 h1];refine⟨rfl,?_⟩;simp only[zek];grind
  .simp only[zek,if_true];refine⟨?_,.inr ?_⟩
   .rw[qL];exact d2
   .rw[qL];exact d3
  .have hz3:L (-z):=by simpa using hz2
   simp only[zek];rcases hz with hz|hz
   .have:=ziu hz;grind
   .have:=d4 _ hz hz3;grind
theorem RD.congr{p:Nat}{L L':Rat->Prop}{r:Dy×Int}(h:RD p L r)(hl:∀z,L z<->L' z):RD p L' r:=
 ⟨fun e=>⟨(hl _).1 (h.1 e).1,(h.1 e).2⟩,fun z hz hz2=>h.2 z hz ((hl z).2 hz2)⟩
theorem RU.congr{p:Nat}{U U':Rat->Prop}{r:Dy×Int}(h:RU p U r)(hl:∀z,U z<->U' z):RU p U' r:=
 ⟨fun e=>⟨(hl _).1 (h.1 e).1,(h.1 e).2⟩,fun z hz hz2=>h.2 z hz ((hl z).2 hz2)⟩
def RT(p:Nat)(y:Rat)(F:Bool->Dy×Int):Prop:=RD p (fun z=>z<=y) (F false)/\RU p (fun z=>y<=z) (F true)
theorem zcb{x:Rat}{m:Nat}{e:Int}{more:Bool}{p:Nat}(hp:8<=p/\p<=512)(neg:Bool)(h1:vN m e<=x)(h2:x<vN (m+1) e)(h3:more=false->x=vN m e)(h4:more=true->vN m e<x)(hm:more=true->p<bl m)(he:m=0->e<=16384):
 RT p (if neg=true then-x else x) (fun up=>xi neg m e more p up):=by
 obtain⟨a,b⟩:=zv5 (L:=fun z=>z<=x) (U:=fun z=>x<=z) hp neg (fun a b h1 h2=>q0 h1 h2) (fun a b h1 h2=>q0 h2 h1) h1 (fun z hz=>q0 hz (qB h2)) (q4.2 h2)
  (fun h z hz=>by rw[<-h3 h];exact hz) (fun h=>by rw[h3 h];exact q1) (qB h2) (fun z hz=>q0 h1 hz) (fun h=>q4.2 (h4 h)) hm he
 refine⟨a.congr fun z=>?_,b.congr fun z=>?_⟩
 .cases neg with
  |true=>simp only[if_true];constructor<;>intro h<;>grind
  |false=>simp
 .cases neg with
  |true=>simp only[if_true];constructor<;>intro h<;>grind
  |false=>simp
theorem zer(m:Nat)(e:Int):vN m e<vN (m+1) e:=zkw.2 (Nat.lt_succ_self m)
theorem zbl{m:Nat}{e:Int}{p:Nat}(hp:8<=p/\p<=512)(neg:Bool)(he:m=0->e<=16384):
 RT p (if neg=true then-(vN m e)else vN m e) (fun up=>xi neg m e false p up):=
 zcb hp neg q1 (zer m e) (fun _=>rfl) (fun h=>by cases h) (fun h=>by cases h) he
theorem zca{d:Dy}(hd:VD d){p:Nat}(hp:8<=p/\p<=512):RT p (dv d) (fun up=>qm d p up):=by
 have:=zbl (m:=nm d) (e:=d.e) hp d.neg (fun _=>hd.exp.2.1);exact this
theorem zny(a b:Nat)(e f:Int):vN a e*vN b f=vN (a*b) (e+f):=by
 unfold vN;rw[pwA,zox];grind
theorem qfl{a b:Dy}:dv a*dv b=if(a.neg != b.neg)=true then-(vN (nm a*nm b) (a.e+b.e))else vN (nm a*nm b) (a.e+b.e):=by
 rw[<-zny];unfold dv;cases a.neg<;>cases b.neg<;>simp<;>grind
theorem zq7{d:Dy}(h:VD d)(h0:nm d=0):d.e=0:=by
 rcases h.ok with ⟨_,_,h3⟩|⟨h3,_⟩
 .exact h3
 .omega
theorem zin{a b:Dy}(ha:VD a)(hb:VD b){p:Nat}(hp:8<=p/\p<=512):RT p (dv a*dv b) (fun up=>ug a b p up):=by
 rw[qfl];refine zbl hp _ fun h=>?_
 have a2:=ha.exp;have b2:=hb.exp;rcases Nat.mul_eq_zero.1 h with h|h
 .have:=zq7 ha h;omega
 .have:=zq7 hb h;omega
theorem zia{n:Nat}(e:Int)(h:n≠0):0<vN n e:=by
 rw[<-ut e,zkw];omega
theorem zpl{a b c:Rat}(hb:0<b):c<=a/b<->c*b<=a:=by
 have e:a/b*b=a:=by grind
 constructor
 .intro h;have:=vz h (qB hb)
  rwa [e]at this
 .intro h;exact zdc (by rw[e];exact h) hb
theorem zt9{a b c:Rat}(hb:0<b):a/b<c<->a<c*b:=by
 have:=zpl (a:=a) (c:=c) hb;constructor
 .intro h;exact q4.1 fun x=>q4.2 h (this.2 x)
 .intro h;exact q4.1 fun x=>q4.2 h (this.1 x)
theorem zpn{x y p:Nat}(hx:x≠0)(hy:y≠0):p<bl (x*2^(p+3+bl y-bl x)/y):=by
 have hk:=zq x (p+3+bl y-bl x) hx;generalize x*2^(p+3+bl y-bl x)=X at*;have hX:X≠0:=fun c=>by rw[c,qx]at hk;have:bl x≠0:=fun c=>hx (kj.1 c);omega
 have h1:2^(p+2+bl y)<=X:=(xd hX).1 O;have h2:2^(p+2)<=X/y:=by
  rw[qJ (qM hy)];rw[qK]at h1;exact Nat.le_trans (Nat.mul_le_mul_left _ (qO (zaq y))) h1
 have h3:X/y≠0:=by have:=q2 (p+2);omega
 have:=(xd h3).2 h2;omega
theorem zhj{a b:Dy}(ha:VD a)(hb':VD b)(hb0:nm b≠0){p:Nat}(hp:8<=p/\p<=512):RT p (dv a/dv b) (fun up=>zbv a b p up):=by
 have hb:0<vN (nm b) b.e:=zia _ hb0;have hv:dv a/dv b=if(a.neg != b.neg)=true then-(vN (nm a) a.e/vN (nm b) b.e)else vN (nm a) a.e/vN (nm b) b.e:=by
  unfold dv;cases a.neg<;>cases b.neg<;>simp<;>grind
 have hD:(fun up=>zbv a b p up)=fun up=>xi (a.neg != b.neg) (nm a*2^zaf a b p/nm b) (a.e-zaf a b p-b.e) (decide (nm a*2^zaf a b p % nm b≠0)) p up:=by
  funext up;unfold zbv;rw[Z7 hb0]
 rw[hv,hD];have hx:vN (nm a) a.e=vN (nm a*2^zaf a b p) (a.e-zaf a b p):=by rw[zb8];congr 1;omega
 have hq:∀q,vN q (a.e-zaf a b p-b.e)*vN (nm b) b.e=vN (q*nm b) (a.e-zaf a b p):=fun q=>by rw[zny];congr 1;omega
 have hdm:=qP (nm a*2^zaf a b p) (nm b);have hml:=qW (nm a*2^zaf a b p) (qM hb0);refine zcb hp _ ?_ ?_ ?_ ?_ ?_ ?_
 .rw[zpl hb,hq,hx,yj];omega
 .rw[zt9 hb,hq,hx,zkw,qT];omega
 .intro h;have h:nm a*2^zaf a b p % nm b=0:=by simpa using h
  have e1:vN (nm a*2^zaf a b p/nm b) (a.e-zaf a b p-b.e)*vN (nm b) b.e=vN (nm a) a.e:=by
   rw[hq,hx];congr 1;omega
  rw[<-e1];have:vN (nm b) b.e≠0:=fun c=>by rw[c]at hb;grind
  grind
 .intro h;have h:nm a*2^zaf a b p % nm b≠0:=by simpa using h
  refine q4.1 fun c=>?_
  have h2:=vz c (qB hb);have e1:vN (nm a) a.e/vN (nm b) b.e*vN (nm b) b.e=vN (nm a) a.e:=by
   have:vN (nm b) b.e≠0:=fun c=>by rw[c]at hb;grind
   grind
  rw[e1,hq,hx,yj]at h2;omega
 .intro h;have h:nm a*2^zaf a b p % nm b≠0:=by simpa using h
  have ha0:nm a≠0:=fun c=>by rw[c,Nat.zero_mul,Nat.zero_mod]at h;exact h rfl
  exact zpn ha0 hb0
 .intro h;by_cases ha0:nm a=0
  .have h1:=zq7 ha ha0;have h2:=hb'.exp;omega
  .have:=zpn (p:=p) ha0 hb0;have h2:nm a*2^zaf a b p/nm b=nm a*2^(p+3+bl (nm b)-bl (nm a))/nm b:=rfl;rw[<-h2,h,qx]at this;omega
theorem zrp{a b:Rat}(h0:0<=a)(h:a<=b):a*a<=b*b:=by
 have h1:a*a<=b*a:=vz h h0;have h2:a*b<=b*b:=vz h (by grind);grind
theorem qbm(d:Dy)(t:Int)(h:t<=d.e):dv d=(zi d t:Rat)*pw t:=by
 have e:vN (nm d) d.e=((nm d*2^(d.e-t).toNat :Nat):Rat)*pw t:=by rw[ui _ _ t h];rfl
 unfold dv zi;rw[e]
 cases d.neg with
 |true=>
  simp only[if_true,qQ,qD];rw[Rat.neg_mul]
 |false=>
  simp only[q3,if_false,qD]
theorem zk9(x y:Int):(zsu x y<0<->x<y)/\(0<zsu x y<->y<x)/\(zsu x y=0<->x=y):=by
 unfold zsu;split
 .omega
 .split<;>omega
theorem zak{x y t:Rat}(ht:0<t):x*t<y*t<->x<y:=by
 constructor
 .intro h;exact q4.1 fun c=>q4.2 h (vz c (qB ht))
 .intro h;exact Rat.mul_lt_mul_of_pos_right h ht
theorem zaw(a b:Dy):(wa a b<0<->dv a<dv b)/\(0<wa a b<->dv b<dv a)/\(wa a b=0<->dv a=dv b):=by
 have ha:=qbm a (min a.e b.e) O;have hb:=qbm b (min a.e b.e) O;have hp:=zc3 (min a.e b.e);obtain⟨h1,h2,h3⟩:=zk9 (zi a (min a.e b.e)) (zi b (min a.e b.e));rw[ha,hb];unfold wa;rw[h1,h2,h3,zak hp,zak hp,qA,qA];refine⟨Iff.rfl,Iff.rfl,⟨fun h=>by rw[h],fun h=>?_⟩⟩;have h4:¬((zi a (min a.e b.e):Rat)<zi b (min a.e b.e)):=fun c=>by have:=(zak hp).2 c;rw[h]at this;exact qH this
 have h5:¬((zi b (min a.e b.e):Rat)<zi a (min a.e b.e)):=fun c=>by have:=(zak hp).2 c;rw[h]at this;exact qH this
 rw[qA]at h4 h5;omega
theorem zbx{a b:Dy}:wa a b<=0<->dv a<=dv b:=by
 have h:=(zaw a b).2.1;constructor
 .intro h1;exact qI.1 fun c=>by have:=h.2 c;omega
 .intro h1;exact Int.not_lt.1 fun c=>qI.2 h1 (h.1 c)
theorem zi6{a b:Dy}:0<=wa a b<->dv b<=dv a:=by
 have h:=(zaw a b).1;constructor
 .intro h1;exact qI.1 fun c=>by have:=h.2 c;omega
 .intro h1;exact Int.not_lt.1 fun c=>qI.2 h1 (h.1 c)
theorem za0(d:Dy):(qs d<0<->dv d<0)/\(0<qs d<->0<dv d)/\(qs d=0<->dv d=0):=by
 have ha:=qbm d d.e (Int.le_refl _);have hp:=zc3 d.e;obtain⟨h1,h2,h3⟩:=zk9 (zi d d.e) 0;rw[zns d d.e,h1,h2,h3,ha];have e0:(0:Rat)=((0:Int):Rat)*pw d.e:=by rw[show((0:Int):Rat)=0 from rfl,qS]
 have g1:(zi d d.e:Rat)*pw d.e<0<->zi d d.e<0:=by
  conv=>lhs;rhs;rw[e0]
  rw[zak hp,qA]
 have g2:0<(zi d d.e:Rat)*pw d.e<->0<zi d d.e:=by
  conv=>lhs;lhs;rw[e0]
  rw[zak hp,qA]
 refine⟨g1.symm,g2.symm,⟨fun h=>by rw[h];exact e0.symm,fun h=>?_⟩⟩;have k1:¬zi d d.e<0:=fun c=>by have:=g1.2 c;rw[h]at this;exact qH this
 have k2:¬0<zi d d.e:=fun c=>by have:=g2.2 c;rw[h]at this;exact qH this
 omega
theorem znz(a b:Nat)(e:Int):vN a e+vN b e=vN (a+b) e:=by unfold vN;rw[zwl,Rat.add_mul]
theorem zh9{a b:Nat}(h:b<=a)(e:Int):vN a e-vN b e=vN (a-b) e:=by
 have:=znz (a-b) b e;rw[(O:a-b+b=a)]at this;grind
theorem zt0(n:Nat)(e w:Int):vN (wz n e false w).1 w<=vN n e/\vN n e<vN ((wz n e false w).1+1) w/\((wz n e false w).2=false->vN n e=vN (wz n e false w).1 w)/\((wz n e false w).2=true->vN (wz n e false w).1 w<vN n e/\e<w):=by
 by_cases h:w<=e
 .have e1:wz n e false w=(n*2^(e-w).toNat,false):=by unfold wz;rw[Z6 h]
  have e2:=ui n e w h;rw[e1];simp only;rw[<-e2];refine⟨q1,?_,fun _=>rfl,fun c=>by cases c⟩;rw[e2];exact zer _ _
 .obtain⟨h1,h2,h3,h4⟩:=zg9 (m:=n) (more:=false) h;refine⟨h1,zyc (zer n e) h2,fun c=>(h3 c).2.symm,fun c=>⟨?_,O⟩⟩;rcases h4 c with h5|h5
  .cases h5
  .exact q4.1 h5
theorem zx9{c d:Dy}(hc:VD c)(hd:VD d)(c0:nm c≠0)(d0':nm d≠0)(hle:zn d<=zn c){p:Nat}(hp:8<=p/\p<=512):RT p (dv c+dv d) (fun up=>qb9 c d p up):=by
 obtain⟨l1,l2,l3,l4⟩:=zm9 hc hd c0 hle d0' hp;have tc:zn c=bl (nm c)+c.e:=by unfold zn;rw[Z7 c0]
 have td:zn d=bl (nm d)+d.e:=by unfold zn;rw[Z7 d0']
 have hlow:d.e<kg c d p->kg c d p<=zn c-p-8/\2<zn c-zn d:=fun h=>by
  unfold kg at h⊢;by_cases h2:zn c-zn d<=2
  .rw[Z6 h2]at h;omega
  .rw[Z7 h2];omega
 obtain⟨f1,f2,f3,f4⟩:=zt0 (nm d) d.e (kg c d p);have hXv:vN (nm c) c.e=vN (nm c*2^(c.e-kg c d p).toNat) (kg c d p):=ui _ _ _ l1;have hXb:=zq (nm c) (c.e-kg c d p).toNat c0;have hFb:d.e<kg c d p->(wz (nm d) d.e false (kg c d p)).1<2^(zn d-kg c d p).toNat :=fun h=>by
  have e1:(wz (nm d) d.e false (kg c d p)).1=nm d/2^(kg c d p-d.e).toNat :=by unfold wz;rw[Z7 O]
  rw[e1,Nat.div_lt_iff_lt_mul (q2 _),<-qK];exact qF (zaq (nm d)) (qC OA O)
 have hxv:∀y:Dy,dv y=if y.neg=true then-(vN (nm y) y.e)else vN (nm y) y.e:=fun y=>rfl
 have hXge:2^((zn c-kg c d p).toNat -1)<=nm c*2^(c.e-kg c d p).toNat :=by
  have hX0:nm c*2^(c.e-kg c d p).toNat ≠0:=Nat.mul_ne_zero c0 (by have:=q2 (c.e-kg c d p).toNat;omega);have hb0:bl (nm c)≠0:=fun x=>c0 (kj.1 x)
  exact(xd hX0).1 O
 unfold qb9 zhy;rw[hxv c,hxv d,hXv];generalize nm c*2^(c.e-kg c d p).toNat =X at*;generalize hF:wz (nm d) d.e false (kg c d p)=F at*;generalize kg c d p=w at*;generalize vN (nm d) d.e=y at*;have hX0:X≠0:=by have:=q2 ((zn c-w).toNat -1);omega
 by_cases hs:c.neg=d.neg
 .
  rw[Z6 hs];simp only;have hne:¬(X+F.1=0/\F.2=false):=fun h=>hX0 O
  have hval:(if c.neg=true then-(vN X w)else vN X w)+(if d.neg=true then-y else y)=if(c.neg != false)=true then-(vN X w+y)else vN X w+y:=by
   rw[<-hs];cases c.neg<;>simp<;>grind
  rw[hval];have hfun:(fun up=>if X+F.1=0/\F.2=false then(d0,(0:Int))else xi (c.neg != false) (X+F.1) w F.2 p up)=fun up=>xi (c.neg != false) (X+F.1) w F.2 p up:=by
   funext up;rw[Z7 hne]
  rw[hfun];have a1:=znz X F.1 w;have a2:=znz X (F.1+1) w;refine zcb hp _ ?_ ?_ ?_ ?_ ?_ ?_
  .rw[<-a1];grind
  .rw[(O:X+F.1+1=X+(F.1+1)),<-a2];grind
  .intro h;rw[<-a1,f3 h]
  .intro h;rw[<-a1];have:=(f4 h).1;grind
  .intro h;obtain⟨h1,h2⟩:=hlow (f4 h).2;have h3:bl X<=bl (X+F.1):=zz O;omega
  .intro h;omega
 .
  rw[Z7 hs];have hval:∀z:Rat,z=vN X w-y->(if c.neg=true then-(vN X w)else vN X w)+(if d.neg=true then-y else y)=if c.neg=true then-z else z:=fun z hz=>by
   subst hz;cases hc':c.neg<;>cases hd':d.neg<;>simp[hc',hd']at hs⊢ <;>grind
  have hU:F.2=true->upN F true=F.1+1/\F.1+1<=2^((zn c-w).toNat -3)/\2^((zn c-w).toNat -3)*4<=X/\p+8<=(zn c-w).toNat :=fun h=>by
   obtain⟨h1,h2⟩:=hlow (f4 h).2;have h3:=hFb (f4 h).2;refine⟨by unfold upN;rw[h];rfl,?_,?_,O⟩
   .have h4:2^(zn d-w).toNat <=2^((zn c-w).toNat -3):=qC OA O;omega
   .have h4:2^((zn c-w).toNat -1)=2^((zn c-w).toNat -3)*4:=by
     rw[show(zn c-w).toNat -1=((zn c-w).toNat -3)+2 by omega,qK]
    omega
  have hUf:F.2=false->upN F true=F.1:=fun h=>by unfold upN;rw[h];rfl
  by_cases hlt:X<upN F true
  .rw[Z6 hlt];simp only;have hFf:F.2=false:=by
    cases hF2:F.2 with
    |false=>rfl
    |true=>obtain⟨u1,u2,u3,_⟩:=hU hF2;omega
   have hUe:=hUf hFf;rw[hUe]at hlt⊢;have hfun:(fun up=>if F.1-X=0/\True then(d0,(0:Int))else xi (c.neg != true) (F.1-X) w false p up)=fun up=>xi (c.neg != true) (F.1-X) w false p up:=by
    funext up;rw[Z7 fun h=>O]
   rw[hfun];have a1:=zh9 (qO hlt) w;have hv:(if c.neg=true then-(vN X w)else vN X w)+(if d.neg=true then-y else y)=if(c.neg != true)=true then-(vN (F.1-X) w)else vN (F.1-X) w:=by
    rw[hval (vN X w-y) rfl,<-a1,f3 hFf];cases c.neg<;>simp<;>grind
   rw[hv];exact zbl hp _ fun h=>O
  .rw[Z7 hlt];simp only;rw[hval (vN X w-y) rfl]
   cases hF2:F.2 with
   |false=>
    have hUe:=hUf hF2;rw[hUe]at hlt⊢;have a1:=zh9 (a:=X) (b:=F.1) O w;by_cases hz:X-F.1=0
    .have hfun:(fun up=>if X-F.1=0/\false=false then(d0,(0:Int))else xi (c.neg != false) (X-F.1) w false p up)=fun _=>(d0,0):=by
      funext up;rw[Z6 ⟨hz,rfl⟩]
     rw[hfun,f3 hF2,a1,hz,ut];have e0:(if c.neg=true then-(0:Rat)else 0)=0:=by split<;>grind
     rw[e0];refine⟨⟨fun _=>⟨by rw[ze4];exact q1,by rw[ze4];exact .inl (zcm p)⟩,fun z _ h=>⟨rfl,by rw[ze4];exact h⟩⟩,⟨fun _=>⟨by rw[ze4];exact q1,by rw[ze4];exact .inl (zcm p)⟩,fun z _ h=>⟨rfl,by rw[ze4];exact h⟩⟩⟩
    .have hfun:(fun up=>if X-F.1=0/\false=false then(d0,(0:Int))else xi (c.neg != false) (X-F.1) w false p up)=fun up=>xi (c.neg != false) (X-F.1) w false p up:=by
      funext up;rw[Z7 fun h=>hz h.1]
     rw[hfun,f3 hF2,a1];have e0:(c.neg != false)=c.neg:=by cases c.neg<;>rfl
     rw[e0];exact zbl hp _ fun h=>absurd h hz
   |true=>
    obtain⟨u1,u2,u3,u4⟩:=hU hF2;rw[u1];have a1:=zh9 (a:=X) (b:=F.1+1) O w;have a2:=zh9 (a:=X) (b:=F.1) O w;have hpos:=q2 ((zn c-w).toNat -3);have hfun:(fun up=>if X-(F.1+1)=0/\true=false then(d0,(0:Int))else xi (c.neg != false) (X-(F.1+1)) w true p up)=fun up=>xi (c.neg != false) (X-(F.1+1)) w true p up:=by
     funext up;rw[Z7 fun h=>by cases h.2]
    rw[hfun];have e0:(c.neg != false)=c.neg:=by cases c.neg<;>rfl
    rw[e0];have hy1:=(f4 hF2).1;refine zcb hp _ ?_ ?_ ?_ ?_ ?_ ?_
    .rw[<-a1];grind
    .rw[(O:X-(F.1+1)+1=X-F.1),<-a2];grind
    .intro h;cases h
    .intro _;rw[<-a1];grind
    .intro _;have h5:2^((zn c-w).toNat -3)<=X-(F.1+1):=O;have h6:=(xd (n:=X-(F.1+1)) (k:=(zn c-w).toNat -3) O).2 h5;omega
    .intro h;omega
theorem yp{d:Dy}(h:nm d=0):dv d=0:=by unfold dv;rw[h,ut];split<;>rfl
theorem zja{a b:Dy}(ha:VD a)(hb:VD b){p:Nat}(hp:8<=p/\p<=512):RT p (dv a+dv b) (fun up=>zay a b p up):=by
 by_cases a0:nm a=0
 .have h:=zca hb hp;have e:(fun up=>zay a b p up)=fun up=>qm b p up:=by funext up;unfold zay;rw[Z6 a0]
  rw[e,yp a0,Rat.zero_add];exact h
 by_cases b0:nm b=0
 .have h:=zca ha hp;have e:(fun up=>zay a b p up)=fun up=>qm a p up:=by funext up;unfold zay;rw[Z7 a0,Z6 b0]
  rw[e,yp b0,Rat.add_zero];exact h
 have e:(fun up=>zay a b p up)=fun up=>qb9 (zh3 a b) (zid a b) p up:=by funext up;unfold zay;rw[Z7 a0,Z7 b0]
 rw[e];by_cases ht:zn a<zn b
 .have e1:zh3 a b=b/\zid a b=a:=by unfold zh3 zid;rw[Z6 ht,Z6 ht];exact⟨rfl,rfl⟩
  rw[e1.1,e1.2,Rat.add_comm];exact zx9 hb ha b0 a0 O hp
 .have e1:zh3 a b=a/\zid a b=b:=by unfold zh3 zid;rw[Z7 ht,Z7 ht];exact⟨rfl,rfl⟩
  rw[e1.1,e1.2];exact zx9 ha hb a0 b0 O hp
def inI(q:Rat)(x:Iv):Prop:=x.all=true\/(dv x.lo<=q/\q<=dv x.hi)
theorem KI.dle{x:Iv}(k:KI x):dv x.lo<=dv x.hi:=zbx.1 k.le
theorem qcf{x:Iv}(h:CI x)(h1:x.all=false)(h2:dv x.lo<=dv x.hi):KI x:=by
 rcases h with rfl|⟨_,a,b⟩
 .cases h1
 .exact⟨h1,a,b,zbx.2 h2⟩
theorem zd4{a b:Dy×Int}:(vl a b).all =false<->a.2=0/\b.2=0:=by
 unfold vl;split
 .rename_i h;constructor
  .intro c;cases c
  .rintro⟨h1,h2⟩;exact absurd (by simp[h1,h2]) (not_not_intro h)
 .rename_i h;constructor
  .intro _;exact⟨by simp only[not_or,Decidable.not_not]at h;exact h.1,by simp only[not_or,Decidable.not_not]at h;exact h.2⟩
  .intro _;rfl
theorem zdb{a b:Dy×Int}(h:(vl a b).all =false):vl a b=⟨a.1,b.1,false⟩:=by
 have:=zd4.1 h;unfold vl;rw[Z7 (by simp[this.1,this.2])]
theorem zv3{p:Nat}{y z:Rat}{F G:Bool->Dy×Int}(hF:RT p y F)(hG:RT p z G)(hc:CI (vl (F false) (G true)))(h:y<=z):VI (vl (F false) (G true)):=by
 cases ha:(vl (F false) (G true)).all with
 |true=>
  rcases hc with hc|⟨h1,_⟩
  .exact .inr hc
  .rw[ha]at h1;cases h1
 |false=>
  refine .inl (qcf hc ha ?_);obtain⟨e1,e2⟩:=zd4.1 ha;rw[zdb ha];exact q0 (hF.1.1 e1).1 (q0 h (hG.2.1 e2).1)
theorem zis{x y:Iv}(hx:RI x)(hy:RI y):(kB x&&kB y)=true<->KI x/\KI y:=by rw[Bool.and_eq_true,zw hx,zw hy]
theorem w_in(q:Rat):inI q wI0:=.inl rfl
theorem zuv{x y:Iv}(hx:KI x)(hy:KI y){p:Int}(hp:pcB p=true):kp x y p=vl (zay x.lo y.lo p.toNat false) (zay x.hi y.hi p.toNat true):=by
 unfold kp;rw[Z6 ⟨(zis hx.ri hy.ri).2 ⟨hx,hy⟩,hp⟩]
theorem qf8{x y:Iv}(hx:RI x)(hy:RI y){p:Int}(h:¬(KI x/\KI y)):kp x y p=wI0:=by
 unfold kp;rw[Z7 fun c=>h ((zis hx hy).1 c.1)]
theorem qf9{x y:Iv}(hx:VI x)(hy:VI y){p:Int}(hp:pcB p=true):VI (kp x y p):=by
 by_cases h:KI x/\KI y
 .rw[zuv h.1 h.2 hp];refine zv3 (zja h.1.lo h.2.lo (vj hp)) (zja h.1.hi h.2.hi (vj hp)) (by rw[<-zuv h.1 h.2 hp];exact zax _ _ _) ?_;have:=h.1.dle;have:=h.2.dle;grind
 .rw[qf8 hx.ri hy.ri h];exact .inr rfl
def qbf(op:Rat->Rat->Rat)(x y:Iv)(P:Rat->Prop):Prop:=P (op (dv x.lo) (dv y.lo))/\P (op (dv x.lo) (dv y.hi))/\P (op (dv x.hi) (dv y.lo))/\P (op (dv x.hi) (dv y.hi))
def zkz(op:Rat->Rat->Rat)(x y:Iv)(P:Rat->Prop):Prop:=P (op (dv x.lo) (dv y.lo))\/P (op (dv x.lo) (dv y.hi))\/P (op (dv x.hi) (dv y.lo))\/P (op (dv x.hi) (dv y.hi))
structure F4(p:Nat)(op:Rat->Rat->Rat)(dn up:Dy->Dy->Dy×Int)(x y:Iv):Prop where
 rt1:RT p (op (dv x.lo) (dv y.lo)) (fun u=>if u=true then up x.lo y.lo else dn x.lo y.lo)
 rt2:RT p (op (dv x.lo) (dv y.hi)) (fun u=>if u=true then up x.lo y.hi else dn x.lo y.hi)
 rt3:RT p (op (dv x.hi) (dv y.lo)) (fun u=>if u=true then up x.hi y.lo else dn x.hi y.lo)
 rt4:RT p (op (dv x.hi) (dv y.hi)) (fun u=>if u=true then up x.hi y.hi else dn x.hi y.hi)
theorem zmt{dn up:Dy×Int}{o:Iv}{K:Iv->Iv}(h:(stI dn up o K).all =false):dn.2=0/\up.2=0/\∃o':Iv,stI dn up o K=K o'/\o'.all=false/\(o'.lo=dn.1\/o'.lo=o.lo)/\(o'.hi=up.1\/o'.hi=o.hi)/\dv o'.lo<=dv dn.1/\dv o'.lo<=dv o.lo/\dv up.1<=dv o'.hi/\dv o.hi<=dv o'.hi:=by
 unfold stI at h⊢;by_cases he:dn.2≠0\/up.2≠0
 .rw[Z6 he]at h;cases h
 .rw[Z7 he]at h⊢;simp only[not_or,Decidable.not_not]at he;refine⟨he.1,he.2,_,rfl,rfl,?_,?_,?_,?_,?_,?_⟩
  .simp only;split<;>simp
  .simp only;split<;>simp
  .simp only;split
   .exact q1
   .rename_i hc;have:0<=wa dn.1 o.lo:=O;exact zi6.1 this
  .simp only;split
   .rename_i hc;exact zbx.1 O
   .exact q1
  .simp only;split
   .exact q1
   .rename_i hc;exact zbx.1 O
  .simp only;split
   .rename_i hc;exact zi6.1 O
   .exact q1
theorem zl0{dn up:Dy->Dy->Dy×Int}{x y:Iv}(h:(jt dn up x y).all =false):
 ((dn x.lo y.lo).2=0/\(dn x.lo y.hi).2=0/\(dn x.hi y.lo).2=0/\(dn x.hi y.hi).2=0)/\((up x.lo y.lo).2=0/\(up x.lo y.hi).2=0/\(up x.hi y.lo).2=0/\(up x.hi y.hi).2=0)/\
 (∀t:Rat,t<=dv (dn x.lo y.lo).1->t<=dv (dn x.lo y.hi).1->t<=dv (dn x.hi y.lo).1->t<=dv (dn x.hi y.hi).1->t<=dv (jt dn up x y).lo)/\
 (∀t:Rat,dv (up x.lo y.lo).1<=t->dv (up x.lo y.hi).1<=t->dv (up x.hi y.lo).1<=t->dv (up x.hi y.hi).1<=t->dv (jt dn up x y).hi <=t)/\
 (dv (jt dn up x y).lo <=dv (dn x.lo y.lo).1/\dv (jt dn up x y).lo <=dv (dn x.lo y.hi).1/\dv (jt dn up x y).lo <=dv (dn x.hi y.lo).1/\dv (jt dn up x y).lo <=dv (dn x.hi y.hi).1)/\
 (dv (up x.lo y.lo).1<=dv (jt dn up x y).hi /\dv (up x.lo y.hi).1<=dv (jt dn up x y).hi /\dv (up x.hi y.lo).1<=dv (jt dn up x y).hi /\dv (up x.hi y.hi).1<=dv (jt dn up x y).hi):=by
 rw[zf5]at h⊢;by_cases he:(dn x.lo y.lo).2≠0\/(up x.lo y.lo).2≠0
 .unfold s0I at h;rw[Z6 he]at h;cases h
 have e0:∀K,s0I (dn x.lo y.lo) (up x.lo y.lo) K=K ⟨(dn x.lo y.lo).1,(up x.lo y.lo).1,false⟩:=fun K=>by unfold s0I;rw[Z7 he]
 simp only[not_or,Decidable.not_not]at he;rw[e0]at h⊢;obtain⟨a1,a2,o1,a3,_,a5,a6,a7,a8,a9,a10⟩:=zmt h;rw[a3]at h⊢;obtain⟨b1,b2,o2,b3,_,b5,b6,b7,b8,b9,b10⟩:=zmt h;rw[b3]at h⊢;obtain⟨c1,c2,o3,c3,_,c5,c6,c7,c8,c9,c10⟩:=zmt h;rw[c3];simp only at*;refine⟨⟨he.1,a1,b1,c1⟩,⟨he.2,a2,b2,c2⟩,?_,?_,⟨?_,?_,?_,?_⟩,⟨?_,?_,?_,?_⟩⟩
 .intro t t1 t2 t3 t4;rcases c5 with c|c<;>rw[c]
  .exact t4
  .rcases b5 with c|c<;>rw[c]
   .exact t3
   .rcases a5 with c|c<;>rw[c]
    .exact t2
    .exact t1
 .intro t t1 t2 t3 t4;rcases c6 with c|c<;>rw[c]
  .exact t4
  .rcases b6 with c|c<;>rw[c]
   .exact t3
   .rcases a6 with c|c<;>rw[c]
    .exact t2
    .exact t1
 .exact q0 c8 (q0 b8 a8)
 .exact q0 c8 (q0 b8 a7)
 .exact q0 c8 b7
 .exact c7
 .exact q0 a10 (q0 b10 c10)
 .exact q0 a9 (q0 b10 c10)
 .exact q0 b9 c10
 .exact c9
theorem qgi{p:Nat}{op:Rat->Rat->Rat}{dn up:Dy->Dy->Dy×Int}{x y:Iv}(f:F4 p op dn up x y){q:Rat}(h1:zkz op x y (fun z=>z<=q))(h2:zkz op x y (fun z=>q<=z)):inI q (jt dn up x y):=by
 cases ha:(jt dn up x y).all with
 |true=>exact .inl ha
 |false=>
  obtain⟨d,u,_,_,⟨l1,l2,l3,l4⟩,⟨r1,r2,r3,r4⟩⟩:=zl0 ha;have g1:=(f.rt1.1.1 d.1).1;have g2:=(f.rt2.1.1 d.2.1).1;have g3:=(f.rt3.1.1 d.2.2.1).1;have g4:=(f.rt4.1.1 d.2.2.2).1;have k1:=(f.rt1.2.1 u.1).1;have k2:=(f.rt2.2.1 u.2.1).1;have k3:=(f.rt3.2.1 u.2.2.1).1;have k4:=(f.rt4.2.1 u.2.2.2).1;simp only[if_true,q3,if_false]at g1 g2 g3 g4 k1 k2 k3 k4;refine .inr ⟨?_,?_⟩
  .rcases h1 with h|h|h|h
   .exact q0 l1 (q0 g1 h)
   .exact q0 l2 (q0 g2 h)
   .exact q0 l3 (q0 g3 h)
   .exact q0 l4 (q0 g4 h)
  .rcases h2 with h|h|h|h
   .exact q0 h (q0 k1 r1)
   .exact q0 h (q0 k2 r2)
   .exact q0 h (q0 k3 r3)
   .exact q0 h (q0 k4 r4)
theorem zs8{a b x1 x2:Rat}(h1:x1<=a)(h2:a<=x2):(x1*b<=a*b\/x2*b<=a*b)/\(a*b<=x1*b\/a*b<=x2*b):=by
 by_cases hb:0<=b
 .exact⟨.inl (vz h1 hb),.inr (vz h2 hb)⟩
 .have hb':0<= -b:=by grind
  have e1:=vz h1 hb';have e2:=vz h2 hb';exact⟨.inr (by grind),.inl (by grind)⟩
theorem zj0{a b y1 y2:Rat}(h1:y1<=b)(h2:b<=y2):(a*y1<=a*b\/a*y2<=a*b)/\(a*b<=a*y1\/a*b<=a*y2):=by
 have:=zs8 (b:=a) h1 h2;rw[qE y1,qE y2,qE b]at this;exact this
theorem zrq{x y:Iv}{a b:Rat}(h1:dv x.lo<=a)(h2:a<=dv x.hi)(h3:dv y.lo<=b)(h4:b<=dv y.hi):zkz (fun u v=>u*v) x y (fun z=>z<=a*b)/\zkz (fun u v=>u*v) x y (fun z=>a*b<=z):=by
 obtain⟨m1,m2⟩:=zs8 (b:=b) h1 h2;obtain⟨l1,l2⟩:=zj0 (a:=dv x.lo) h3 h4;obtain⟨u1,u2⟩:=zj0 (a:=dv x.hi) h3 h4;unfold zkz;constructor
 .rcases m1 with m|m
  .rcases l1 with l|l
   .exact .inl (q0 l m)
   .exact .inr (.inl (q0 l m))
  .rcases u1 with l|l
   .exact .inr (.inr (.inl (q0 l m)))
   .exact .inr (.inr (.inr (q0 l m)))
 .rcases m2 with m|m
  .rcases l2 with l|l
   .exact .inl (q0 m l)
   .exact .inr (.inl (q0 m l))
  .rcases u2 with l|l
   .exact .inr (.inr (.inl (q0 m l)))
   .exact .inr (.inr (.inr (q0 m l)))
theorem qa4(F:Bool->Dy×Int):(fun u=>if u=true then F true else F false)=F:=by funext u;cases u<;>rfl
theorem zfk{p:Nat}{y:Rat}{F:Bool->Dy×Int}(h:RT p y F):RT p y (fun u=>if u=true then F true else F false):=by rw[qa4];exact h
theorem zyk{x y:Iv}(hx:KI x)(hy:KI y){p:Nat}(hp:8<=p/\p<=512):F4 p (fun u v=>u*v) (fun a b=>ug a b p false) (fun a b=>ug a b p true) x y:=
 ⟨zfk (zin hx.lo hy.lo hp),zfk (zin hx.lo hy.hi hp),zfk (zin hx.hi hy.lo hp),zfk (zin hx.hi hy.hi hp)⟩
theorem zyj{x y:Iv}(hx:KI x)(hy:KI y){p:Int}(hp:pcB p=true):ja x y p=jt (fun a b=>ug a b p.toNat false) (fun a b=>ug a b p.toNat true) x y:=by
 unfold ja;rw[Z6 ⟨(zis hx.ri hy.ri).2 ⟨hx,hy⟩,hp⟩]
theorem qef{x y:Iv}(hx:RI x)(hy:RI y){p:Int}(h:¬(KI x/\KI y)):ja x y p=wI0:=by
 unfold ja;rw[Z7 fun c=>h ((zis hx hy).1 c.1)]
theorem qeg{x y:Iv}(hx:VI x)(hy:VI y){p:Int}(hp:pcB p=true){a b:Rat}(ha:inI a x)(hb:inI b y):inI (a*b) (ja x y p):=by
 by_cases h:KI x/\KI y
 .rw[zyj h.1 h.2 hp];rcases ha with ha|ha
  .rw[h.1.all]at ha;cases ha
  rcases hb with hb|hb
  .rw[h.2.all]at hb;cases hb
  obtain⟨s1,s2⟩:=zrq ha.1 ha.2 hb.1 hb.2;exact qgi (zyk h.1 h.2 (vj hp)) s1 s2
 .rw[qef hx.ri hy.ri h];exact w_in _
theorem zp2{x:Iv}(h:CI x){q:Rat}(hq:inI q x):VI x:=by
 cases ha:x.all with
 |true=>
  rcases h with h|⟨h1,_⟩
  .exact .inr h
  .rw[ha]at h1;cases h1
 |false=>
  rcases hq with hq|hq
  .rw[ha]at hq;cases hq
  .exact .inl (qcf h ha (q0 hq.1 hq.2))
theorem zwr{x:Iv}(h:VI x):inI (dv x.lo) x:=by
 rcases h with k|rfl
 .exact .inr ⟨q1,k.dle⟩
 .exact w_in _
theorem qeh{x y:Iv}(hx:VI x)(hy:VI y){p:Int}(hp:pcB p=true):VI (ja x y p):=zp2 (zbd x y p) (qeg hx hy hp (zwr hx) (zwr hy))
theorem zds{y:Iv}(hy:KI y):zct y≠0<->(0<dv y.lo\/dv y.hi<0):=by
 have h1:=(za0 y.lo).2.1;have h2:=(za0 y.hi).1;unfold zct;rw[Z6 ((zw hy.ri).2 hy)];by_cases c1:0<qs y.lo
 .rw[Z6 c1];exact⟨fun _=>.inl (h1.1 c1),fun _=>OA⟩
 .rw[Z7 c1];by_cases c2:qs y.hi<0
  .rw[Z6 c2];exact⟨fun _=>.inr (h2.1 c2),fun _=>OA⟩
  .rw[Z7 c2];exact⟨fun c=>absurd rfl c,fun c=>by rcases c with c|c;exact absurd (h1.2 c) c1;exact absurd (h2.2 c) c2⟩
theorem znh{a b c:Rat}(h:0<a\/c<0)(h1:a<=b)(h2:b<=c):c⁻¹ <=b⁻¹ /\b⁻¹ <=a⁻¹ :=by
 have key:∀u v:Rat,0<u->u<=v->v⁻¹ <=u⁻¹ :=fun u v hu huv=>by
  have hv:0<v:=by grind
  have hi:0<u⁻¹ :=by have:=qU.2 hu;exact this
  have hj:0<v⁻¹ :=by have:=qU.2 hv;exact this
  have e1:v*v⁻¹ =1:=qN v (by grind);have e2:u*u⁻¹ =1:=qN u (by grind);have h3:u*v⁻¹ <=v*v⁻¹ :=vz huv (qB hj);rw[e1,<-e2]at h3;have h4:v⁻¹ *u<=u⁻¹ *u:=by rw[qE v⁻¹,qE u⁻¹];exact h3
  exact zdc h4 hu
 rcases h with h|h
 .exact⟨key b c (by grind) h2,key a b h h1⟩
 .have k1:=key (-c) (-b) (by grind) (by grind);have k2:=key (-b) (-a) (by grind) (by grind);have e:∀u:Rat,(-u)⁻¹ = -(u⁻¹):=fun u=>by grind
  rw[e,e]at k1 k2;constructor<;>grind
theorem zrr{x y:Iv}{a b:Rat}(hs:0<dv y.lo\/dv y.hi<0)(h1:dv x.lo<=a)(h2:a<=dv x.hi)(h3:dv y.lo<=b)(h4:b<=dv y.hi):zkz (fun u v=>u/v) x y (fun z=>z<=a/b)/\zkz (fun u v=>u/v) x y (fun z=>a/b<=z):=by
 obtain⟨i1,i2⟩:=znh hs h3 h4;obtain⟨m1,m2⟩:=zs8 (b:=b⁻¹) h1 h2;obtain⟨l1,l2⟩:=zj0 (a:=dv x.lo) i1 i2;obtain⟨u1,u2⟩:=zj0 (a:=dv x.hi) i1 i2;have e:∀u v:Rat,u/v=u*v⁻¹ :=fun u v=>Rat.div_def u v
 unfold zkz;simp only[e];constructor
 .rcases m1 with m|m
  .rcases l1 with l|l
   .exact .inr (.inl (q0 l m))
   .exact .inl (q0 l m)
  .rcases u1 with l|l
   .exact .inr (.inr (.inr (q0 l m)))
   .exact .inr (.inr (.inl (q0 l m)))
 .rcases m2 with m|m
  .rcases l2 with l|l
   .exact .inr (.inl (q0 m l))
   .exact .inl (q0 m l)
  .rcases u2 with l|l
   .exact .inr (.inr (.inr (q0 m l)))
   .exact .inr (.inr (.inl (q0 m l)))
theorem qee{d:Dy}(h:dv d≠0):nm d≠0:=fun c=>h (yp c)
theorem zpp{x y:Iv}(hx:KI x)(hy:KI y)(hs:0<dv y.lo\/dv y.hi<0){p:Nat}(hp:8<=p/\p<=512):F4 p (fun u v=>u/v) (fun a b=>zbv a b p false) (fun a b=>zbv a b p true) x y:=by
 have hl:nm y.lo≠0:=qee (by have:=hy.dle;grind);have hh:nm y.hi≠0:=qee (by have:=hy.dle;grind);exact⟨zfk (zhj hx.lo hy.lo hl hp),zfk (zhj hx.lo hy.hi hh hp),zfk (zhj hx.hi hy.lo hl hp),zfk (zhj hx.hi hy.hi hh hp)⟩
theorem zkj{x y:Iv}(hx:KI x)(hy:KI y)(hs:0<dv y.lo\/dv y.hi<0){p:Int}(hp:pcB p=true):uq x y p=jt (fun a b=>zbv a b p.toNat false) (fun a b=>zbv a b p.toNat true) x y:=by
 unfold uq;rw[Z6 ⟨(zis hx.ri hy.ri).2 ⟨hx,hy⟩,hp,(zds hy).2 hs⟩]
theorem zub{x y:Iv}(hx:RI x)(hy:RI y){p:Int}(h:¬(KI x/\KI y/\(0<dv y.lo\/dv y.hi<0))):uq x y p=wI0:=by
 unfold uq;rw[Z7 fun c=>?_];obtain⟨k1,k2⟩:=(zis hx hy).1 c.1;exact h ⟨k1,k2,(zds k2).1 c.2.2⟩
theorem qbq{x y:Iv}(hx:VI x)(hy:VI y){p:Int}(hp:pcB p=true){a b:Rat}(ha:inI a x)(hb:inI b y):inI (a/b) (uq x y p):=by
 by_cases h:KI x/\KI y/\(0<dv y.lo\/dv y.hi<0)
 .rw[zkj h.1 h.2.1 h.2.2 hp];rcases ha with ha|ha
  .rw[h.1.all]at ha;cases ha
  rcases hb with hb|hb
  .rw[h.2.1.all]at hb;cases hb
  obtain⟨s1,s2⟩:=zrr h.2.2 ha.1 ha.2 hb.1 hb.2;exact qgi (zpp h.1 h.2.1 h.2.2 (vj hp)) s1 s2
 .rw[zub hx.ri hy.ri h];exact w_in _
theorem znm{x y:Iv}(hx:VI x)(hy:VI y){p:Int}(hp:pcB p=true):VI (uq x y p):=zp2 (zva x y p) (qbq hx hy hp (zwr hx) (zwr hy))
def zc2(q:Rat):Rat:=if q<0 then-q else q
theorem zgl(q:Rat):0<=zc2 q:=by unfold zc2;split<;>grind
theorem zbc(d:Dy):dv (yq d)=zc2 (dv d):=by
 have h:dv (yq d)=vN (nm d) d.e:=rfl;rw[h];have h2:=zkv (nm d) d.e;unfold dv zc2
 cases d.neg with
 |true=>simp only[if_true];split<;>grind
 |false=>simp only[q3,if_false];split<;>grind
theorem zll(a b:Dy):dv (xn a b)<=dv a/\dv (xn a b)<=dv b/\(xn a b=a\/xn a b=b):=by
 unfold xn;split
 .rename_i h;exact⟨q1,zbx.1 h,.inl rfl⟩
 .rename_i h;exact⟨zi6.1 O,q1,.inr rfl⟩
theorem xm(a b:Dy):dv a<=dv (uk a b)/\dv b<=dv (uk a b)/\(uk a b=a\/uk a b=b):=by
 unfold uk;split
 .rename_i h;exact⟨q1,zi6.1 h,.inl rfl⟩
 .rename_i h;exact⟨zbx.1 O,q1,.inr rfl⟩
theorem zy9{x:Iv}(k:KI x){a:Rat}(h1:dv x.lo<=a)(h2:a<=dv x.hi):0<=dv (zcw x)/\dv (zcw x)<=zc2 a/\zc2 a<=dv (ul x):=by
 obtain⟨m1,m2,_⟩:=xm (yq x.lo) (yq x.hi);obtain⟨l1,l2,l3⟩:=zll (yq x.lo) (yq x.hi);rw[zbc]at m1 l1;rw[zbc]at m2 l2;have hs:=zds k;have n1:=zgl (dv x.lo);have n2:=zgl (dv x.hi);have hm:ul x=uk (yq x.lo) (yq x.hi):=rfl;rw[hm];have hmag:zc2 a<=dv (uk (yq x.lo) (yq x.hi)):=by
  have e1: -(dv x.lo)<=zc2 (dv x.lo):=by unfold zc2;split<;>grind
  have e2:dv x.hi<=zc2 (dv x.hi):=by unfold zc2;split<;>grind
  unfold zc2 at*;grind
 unfold zcw;by_cases h0:zct x=0
 .rw[Z6 h0,ze4];exact⟨q1,zgl a,hmag⟩
 .rw[Z7 h0];refine⟨?_,?_,hmag⟩
  .rcases l3 with e|e<;>rw[e,zbc]
   .exact n1
   .exact n2
  .rcases hs.1 h0 with c|c
   .have e1:zc2 (dv x.lo)=dv x.lo:=by unfold zc2;rw[Z7 (by grind)]
    have e2:zc2 a=a:=by unfold zc2;rw[Z7 (by grind)]
    rw[e1]at l1;rw[e2];exact q0 l1 h1
   .have e1:zc2 (dv x.hi)= -(dv x.hi):=by unfold zc2;rw[Z6 c]
    have e2:zc2 a= -a:=by unfold zc2;rw[Z6 (by grind)]
    rw[e1]at l2;rw[e2];grind
theorem qcb{x:Iv}(k:KI x):KI (zp1 x):=by
 rw[zux ((zw k.ri).2 k)];have h:=zy9 k (a:=dv x.lo) q1 k.dle;exact⟨rfl,zjb k,zb3 k,zbx.2 (q0 h.2.1 h.2.2)⟩
theorem zbu(n:Int):dv (wg n)=(n:Rat):=by
 unfold wg;rw[zel];have hv:vN n.natAbs 0=((n.natAbs:Nat):Rat):=by
  unfold vN;have:pw 0=1:=by have:=zso 0;simpa using this
  rw[this,Rat.mul_one]
 rw[hv];by_cases h:n<0
 .rw[Z8 h,Z6 rfl];have e:n= -(n.natAbs:Int):=O;conv=>rhs;rw[e]
  rw[qQ,qD]
 .rw[Z9 h,Z7 OA];have e:n=(n.natAbs:Int):=O;conv=>rhs;rw[e]
  rw[qD]
