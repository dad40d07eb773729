/-
  matexp.both contains the exponential function and its integral.
-/
import Derived.Test.YtgehdbenidimlaaGreatDoorQNe
import Derived.Test.YtgehdbenidimlaaGreatDoorQMa
import Derived.Test.YtgehdbenidimlaaGreatDoorQNg
import Derived.Test.YtgehdbenidimlaaGreatDoorQRb
set_option linter.unusedVariables false
set_option linter.unusedSimpArgs false
namespace Go.Proofs.YtgehdbenidimlaaGreatDoor
open Go Go.Sx
set_option maxHeartbeats 2000000
theorem nQ_ex (k:Nat) (A:Nat→Nat→Rat): ∃U,nQ k A U:=
 ⟨sQ (fun i=>sQ (fun r=>zeo (A i r)) k) k,fun i hi=>sQ_el (f:=fun i=>sQ (fun r=>zeo (A i r)) k) (fun _ _=>sQ_nn fun _ _=>zen _) i hi⟩
section
variable {k i j:Nat} {m:Mx} (vm:VM (k+1) (k+1) m) (hi:i≤k) (hj:j≤k) {p:Int} (hp:pcB p=true)
include vm hi hj hp
theorem step_all {K:Nat} (hK:1≤K∧K≤100000) {s:MSt} (h1:VM (k+1) (k+1) s.term) (h2:VM (k+1) (k+1) s.exp) (h3:VM (k+1) (k+1) s.phi):
 (VM (k+1) (k+1) (zj4 m p K s).term ∧VM (k+1) (k+1) (zj4 m p K s).exp ∧VM (k+1) (k+1) (zj4 m p K s).phi)∧((atM s.exp i j).all =true→(atM (zj4 m p K s).exp i j).all =true)∧((atM (muM s.term m p).1 i j).all =true→(atM (zj4 m p K s).exp i j).all =true):=by
 have hb:=zk7 (k:=K) hK.1 (by omega) hp
 have hb2:=zk7 (k:=K+1) (by omega) (by omega) hp
 have hm:=(zns h1 vm hp).2
 have ht:=zc9 hm hb hp
 have hE:=(zla h2 ht hp).2
 have hF:=(zla h3 (zc9 ht hb2 hp) hp).2
 have e:atM (zj4 m p K s).exp i j=zas (atM s.exp i j) (atM (scM (muM s.term m p).1 (byI K p) p) i j) p:=at_ad h2 ht hp (by omega) (by omega)
 have e2:atM (scM (muM s.term m p).1 (byI K p) p) i j=xe (byI K p) (atM (muM s.term m p).1 i j) p:=at_sc hm hb hp (by omega) (by omega)
 have v1:=qad h2 (i:=i) (j:=j) (by omega) (by omega)
 have v2:=qad ht (i:=i) (j:=j) (by omega) (by omega)
 have v3:=qad hm (i:=i) (j:=j) (by omega) (by omega)
 exact⟨⟨ht,hE,hF⟩,fun h=>by rw[e];exact add_all v1 v2 (.inl h),fun h=>by rw[e];exact add_all v1 v2 (.inr (by
  show(atM (scM (muM s.term m p).1 (byI K p) p) i j).all =true
  rw[e2];exact mul_all hb v3 (.inr h)))⟩
theorem ser_all {u:Iv}: ∀(f K:Nat) (s:MSt) (r:Iv),1≤K→K+f≤10000→VM (k+1) (k+1) s.term→VM (k+1) (k+1) s.exp→VM (k+1) (k+1) s.phi→(atM s.exp i j).all =true→(atM (zkb m u p f K s r).1.exp i j).all =true
 |0,_,_,_,_,_,_,_,_,h=>h
 |f+1,K,s,r,h1,h2,h3,h4,h5,h=>by
  obtain⟨⟨a1,a2,a3⟩,a4,_⟩:=step_all vm hi hj hp (K:=K) ⟨h1,by omega⟩ h3 h4 h5
  unfold zkb
  split
  ·exact a4 h
  ·exact ser_all f (K+1) _ _ (by omega) (by omega) a1 a2 a3 (a4 h)
theorem sta_all {hI:Iv} (h:(atM m i j).all =true):(atM (zt1 m hI p).exp i j).all =true:=by
 have hid:VM (k+1) (k+1) (idM m.length):=by rw[vm.len];exact zzi vm.n1
 have hui:VI (ke (nmM m p).1):= .inl (zxg (zpm (a:=m) (p:=p) vm.el).1)
 obtain⟨⟨a1,a2,a3⟩,_,a5⟩:=step_all vm hi hj hp (K:=1) ⟨Nat.le_refl _,by omega⟩ (s:=⟨idM m.length,idM m.length,idM m.length⟩) hid hid hid
 have hmu:(atM (muM (idM m.length) m p).1 i j).all =true:=by
  rw[at_mu hid vm hp (by omega) (by omega)]
  exact dt_all hp k i (fun r hr=>qad hid (by omega) (by omega)) (fun r hr=>qad vm (by omega) (by omega)) hi (.inr h)
 have key: ∀(f:Nat) (r:Iv),f≤9000→(atM (zkb m (ke (nmM m p).1) p (f+1) 1 ⟨idM m.length,idM m.length,idM m.length⟩ r).1.exp i j).all =true∧VM (k+1) (k+1) (zkb m (ke (nmM m p).1) p (f+1) 1 ⟨idM m.length,idM m.length,idM m.length⟩ r).1.exp :=by
  intro f r hf
  unfold zkb
  split
  ·exact⟨a5 hmu,a2⟩
  ·refine⟨ser_all vm hi hj hp f 2 _ _ (by omega) (by omega) a1 a2 a3 (a5 hmu),?_⟩
   have: ∀(f K:Nat) (s:MSt) (r:Iv),1≤K→K+f≤10000→VM (k+1) (k+1) s.term→VM (k+1) (k+1) s.exp→VM (k+1) (k+1) s.phi→VM (k+1) (k+1) (zkb m (ke (nmM m p).1) p f K s r).1.exp :=by
    intro f
    induction f with
    |zero=>exact fun _ _ _ _ _ _ h4 _=>h4
    |succ f ih=>
     intro K s r h1 h2 h3 h4 h5
     obtain⟨⟨b1,b2,b3⟩,_⟩:=step_all vm hi hj hp (K:=K) ⟨h1,by omega⟩ h3 h4 h5
     unfold zkb
     split
     ·exact b2
     ·exact ih (K+1) _ _ (by omega) (by omega) b1 b2 b3
   exact this f 2 _ _ (by omega) (by omega) a1 a2 a3
 obtain⟨q1,q2⟩:=key 699 (whI 1) (by omega)
 have hr:VI (zkb m (ke (nmM m p).1) p 700 1 ⟨idM m.length,idM m.length,idM m.length⟩ (whI 1)).2:=by
  have: ∀(f K:Nat) (s:MSt) (r:Iv),1≤K→K+f≤10000→VI r→VI (zkb m (ke (nmM m p).1) p f K s r).2:=by
   intro f
   induction f with
   |zero=>exact fun _ _ _ _ _ h=>h
   |succ f ih=>
    intro K s r h1 h2 h3
    have hb:=zk7 (k:=K) h1 (by omega) hp
    have hr:=xl (xl h3 hui hp) hb hp
    unfold zkb
    split
    ·exact hr
    ·exact ih (K+1) _ _ (by omega) (by omega) hr
  exact this 700 1 _ _ (by omega) (by omega) (zfr (by decide))
 show(atM (arM (zkb m (ke (nmM m p).1) p 700 1 ⟨idM m.length,idM m.length,idM m.length⟩ (whI 1)).1.exp _ p) i j).all =true
 rw[at_ar q2 (by omega) (by omega)]
 exact add_all (qad q2 (by omega) (by omega)) (zqc (zy0 hr).ri hr.ri) (.inl q1)
end
theorem dblN_all {k i j:Nat} (hi:i≤k) (hj:j≤k) {q:Int} (hq:pcB q=true): ∀(s:Nat) (x:MPr),VM (k+1) (k+1) x.exp→VM (k+1) (k+1) x.phi→(atM x.exp i j).all =true→(atM (ztc q s x).exp i j).all =true∧VM (k+1) (k+1) (ztc q s x).exp
 |0,_,h1,_,h=>⟨h,h1⟩
 |s+1,x,h1,h2,h=>by
  obtain⟨d1,d2⟩:=zuo h1 h2 hq
  refine dblN_all hi hj hq s (zwy q x) d1 d2 ?_
  show(atM (muM x.exp x.exp q).1 i j).all =true
  rw[at_mu h1 h1 hq (by omega) (by omega)]
  exact dt_all hq k i (fun r hr=>qad h1 (by omega) (by omega)) (fun r hr=>qad h1 (by omega) (by omega)) hi (.inr h)
theorem kn_all {k i j:Nat} {m:Mx} (vm:VM (k+1) (k+1) m) (hi:i≤k) (hj:j≤k) {p:Int} (h:(atM m i j).all =true):knM (rdM m p)=false:=by
 have v:=zr8 vm p
 obtain⟨r,_,hm,_,hx⟩:=at_eq v (i:=i) (j:=j) (by omega) (by omega)
 have e:(atM (rdM m p) i j).all =true:=by
  rw[at_rd vm (by omega) (by omega)]
  unfold za1
  rw[if_neg fun c=>by
   have:=((vn (qad vm (i:=i) (j:=j) (by omega) (by omega)).ri).1 c.1).all
   rw[h]at this;cases this]
  rfl
 unfold knM
 have:((rdM m p).any fun r=>r.any fun x=>x.all)=true:=by
  rw[List.any_eq_true]
  refine⟨r,hm,?_⟩
  rw[List.any_eq_true]
  exact⟨_,List.mem_of_getElem? hx,e⟩
 rw[this];rfl
theorem bot_in {k:Nat} (hk:k+1≤3) {A:Nat→Nat→Rat} {a:Mx} (ha:inM (k+1) (k+1) A a) {t:Iv} (kt:KI t) {τ:Rat} (hτ:inI τ t) {p:Int} (hp:pcB p=true) {y:MPr} (h:zc5 a t p=some y):
 liM k (xQ k A τ) y.exp∧liM k (yQ k A τ) y.phi:=by
 have hp2:8≤p∧p≤512:=by
  obtain⟨q,rfl,hq⟩:=xc.1 hp
  omega
 have hq:pcB (min (p+40) 512)=true:=by unfold pcB;simp;omega
 generalize hqq:min (p+40) 512=q at*
 obtain⟨N,b,hN⟩: ∃N b,nmM (scM a t q) q=(N,b):=⟨_,_,rfl⟩
 have hN':nmM (scM a t (min (p+40) 512)) (min (p+40) 512)=(N,b):=by rw[hqq];exact hN
 rw[zq6 hN']at h
 split at h
 ·cases h
 rename_i hc
 have hb:b=true:=by cases b;exact absurd (.inl rfl) hc;rfl
 subst hb
 rw[hqq]at h
 have hs0:((hvS N).toNat :Int)=hvS N:=by unfold hvS;omega
 have hbd:=zwh ha.v kt hq hN
 rw[←hs0]at hbd
 generalize (hvS N).toNat =s at*
 have vh:=zdn (.inl kt:VI t) (-(s:Int))
 have vsc:=zc9 ha.v vh hq
 obtain⟨v1,v2⟩:=zt0 vsc vh hq
 have hel: ∀r∈scM a (qw t (-(s:Int))) q,∀x∈r,bI (pw (-1)) x:=fun r hr x hx=>by
  unfold scM at hr
  rw[if_pos (by rw[ha.v.ok,(yu vh.ri).2 vh,hq];rfl)]at hr
  obtain⟨i,r0,_,hr0,rfl⟩:=yp hr
  obtain⟨j,x0,_,hx0,rfl⟩:=yp hx
  exact hbd r0 hr0 x0 hx0
 have hin:=scale_in (.inl kt:VI t) (j:= -(s:Int)) hτ
 unfold zz5 at h
 simp only at h
 split at h
 ·rename_i hkn
  cases h
  have hknown: ∀r∈scM a (qw t (-(s:Int))) q,∀x∈r,kI (pw (-1)) x:=fun r hr x hx=>by
   refine kI_of (hel r hr x hx) ?_
   cases hxa:x.all with
   |false=>rfl
   |true=>
    obtain⟨i,hi⟩:=List.getElem?_of_mem hr
    obtain⟨j,hj⟩:=List.getElem?_of_mem hx
    have hil:=(List.getElem?_eq_some_iff.1 hi).1
    have hjl:=(List.getElem?_eq_some_iff.1 hj).1
    rw[vsc.len]at hil
    rw[vsc.row r hr]at hjl
    have e:=sta_all vsc (i:=i) (j:=j) (by omega) (by omega) hq (hI:=qw t (-(s:Int))) (by rw[at_of hi hj];exact hxa)
    obtain⟨e2,e3⟩:=dblN_all (i:=i) (j:=j) (by omega) (by omega) hq s _ v1 v2 e
    have e4:=kn_all e3 (i:=i) (j:=j) (by omega) (by omega) (p:=p) e2
    rw[e4]at hkn
    simp at hkn
  obtain⟨D,hD⟩:=nm_ok vsc hknown hq
  have hDle:dv D*2≤3:=by
   have h1:nmG q (scM a (qw t (-(s:Int))) q) d0=some D:=by
    unfold nmM at hD
    rw[if_pos (by rw[vsc.ok,hq];rfl)]at hD
    split at hD
    ·rename_i d hd;cases hD;exact hd
    ·cases hD
   have h2:=zyx hq (k:=k+1) (by omega) _ d0 D (fun r hr=>⟨vsc.row r hr,hel r hr⟩) (by rw[zaw];exact zfs _ _) h1
   have h3:vN (k+1) (-1)≤vN 3 (-1):=yx.2 hk
   have h4:vN 3 (-1)*2=3:=by
    unfold vN
    have:pw (-1)*2=1:=by
     have e1:(2:Rat)=pw 1:=by rw[show(1:Int)=((1:Nat):Int)from rfl,zga];rfl
     rw[e1,←pwA]
     rw[show(-1+1:Int)=((0:Nat):Int)from rfl,zga];rfl
    have e3:((3:Nat):Rat)=3:=rfl
    rw[e3,Rat.mul_assoc,this,Rat.mul_one]
   grind
  obtain⟨K,hK⟩:=sta_in ha vh hin hq hD hDle
  obtain⟨U,hU⟩:=nQ_ex k A
  obtain⟨l1,l2⟩:=dblN_in hU hq s _ _ (liM_of v1 fun N hN=>(hK N hN).1) (liM_of v2 fun N hN=>(hK N hN).2)
  have e:τ*pw (-(s:Int))*pw (s:Int)=τ:=by
   rw[Rat.mul_assoc,←pwA,show(-(s:Int)+s)=((0:Nat):Int) by omega,zga]
   simp
  rw[e]at l1 l2
  exact⟨liM_rd l1 p,liM_rd l2 p⟩
 ·cases h
end Go.Proofs.YtgehdbenidimlaaGreatDoor

namespace Go.Proofs.YtgehdbenidimlaaGreatDoor
open Go Go.Sx
set_option maxRecDepth 100000
set_option maxHeartbeats 2000000
structure kM (k:Nat) (B:Int) (m:Mx):Prop where
 v:VM (k+1) (k+1) m
 e: ∀i j,i<k+1→j<k+1→kI (pw B) (atM m i j)
theorem kM.mono {k:Nat} {B C:Int} {m:Mx} (h:kM k B m) (hb:B≤C):kM k C m:=⟨h.v,fun i j hi hj=>(h.e i j hi hj).mono (zhc.2 hb)⟩
theorem pw_two (a:Int):pw a+pw a=pw (a+1):=by
 rw[pwA]
 have:pw 1=2:=by rw[show(1:Int)=((1:Nat):Int)from rfl,zga];rfl
 rw[this];grind
theorem kI_w {n:Int} (h: -4611686018427387904≤n∧n≤4611686018427387904) {b:Rat} (h1: -b≤(n:Rat)) (h2:(n:Rat)≤b):kI b (whI n):=by
 have k:=zf3 h
 have e:dv (whI n).lo =(n:Rat):=zae n
 have e':dv (whI n).hi =(n:Rat):=zae n
 exact⟨k,by rw[e];exact h1,by rw[e'];exact h2⟩
theorem pw_0:pw 0=1:=by rw[show(0:Int)=((0:Nat):Int)from rfl,zga];rfl
theorem kI_1:kI (pw 0) (whI 1):=kI_w (by decide) (by rw[pw_0];decide) (by rw[pw_0];decide)
theorem kM_id {k:Nat} (hk:k≤2):kM k 0 (idM (k+1)):=by
 refine⟨zzi (by omega),fun i j hi hj=>?_⟩
 rw[at_id (by omega) hi hj]
 split
 ·exact kI_1
 ·exact kI_w (by decide) (by rw[pw_0];decide) (by rw[pw_0];decide)
theorem kM_sc {k:Nat} {B C:Int} {a:Mx} (h:kM k B a) {x:Iv} (hx:kI (pw C) x) {p:Int} (hp:pcB p=true) (hb: -16000≤C+B∧C+B≤16000):kM k (C+B) (scM a x p):=by
 refine⟨zc9 h.v (.inl hx.k) hp,fun i j hi hj=>?_⟩
 rw[at_sc h.v (.inl hx.k) hp hi hj,pwA]
 exact kI_mul hx (h.e i j hi hj) hp (by rw[←pwA];exact pwF (by omega) (by omega))
theorem kM_ad {k:Nat} {B:Int} {a b:Mx} (ha:kM k B a) (hb:kM k B b) {p:Int} (hp:pcB p=true) (h: -16000≤B∧B≤16000):kM k (B+1) (adM a b p).1:=by
 refine⟨(zla ha.v hb.v hp).2,fun i j hi hj=>?_⟩
 rw[at_ad ha.v hb.v hp hi hj]
 exact kI_add (ha.e i j hi hj) (hb.e i j hi hj) (by rw[pw_two];exact Rat.le_refl) hp (pwF (by omega) (by omega))
theorem kI_dt {p:Int} (hp:pcB p=true) {f g:Nat→Iv} {E:Int}: ∀k:Nat,k≤2→(∀r,r≤k→kI (pw E) (xe (f r) (g r) p))→ -16000≤E→E≤16000→kI (pw (E+k)) (dtF p f g k)
 |0,_,h,_,_=>by
  have:=h 0 (Nat.le_refl _)
  rw[show E+((0:Nat):Int)=E by omega]
  exact this
 |k+1,hk,h,h1,h2=>by
  have ih:=kI_dt hp k (by omega) (fun r hr=>h r (by omega)) h1 h2
  refine kI_add ih (h (k+1) (Nat.le_refl _)) ?_ hp (pwF (by omega) (by omega))
  have h3:pw E≤pw (E+k):=zhc.2 (by omega)
  have h4:=pw_two (E+k)
  rw[show E+(k:Int)+1=E+((k+1:Nat):Int) by omega]at h4
  grind
theorem kM_mu {k:Nat} (hk:k≤2) {B C:Int} {a b:Mx} (ha:kM k B a) (hb:kM k C b) {p:Int} (hp:pcB p=true) (h: -16000≤B+C∧B+C≤16000):kM k (B+C+2) (muM a b p).1:=by
 refine⟨(zns ha.v hb.v hp).2,fun i j hi hj=>?_⟩
 rw[at_mu ha.v hb.v hp hi hj]
 refine(kI_dt hp (E:=B+C) k hk (fun r hr=>?_) (by omega) (by omega)).mono (zhc.2 (by omega))
 rw[pwA]
 exact kI_mul (ha.e i r hi (by omega)) (hb.e r j (by omega) hj) hp (by rw[←pwA];exact pwF (by omega) (by omega))
theorem kI_by {k:Nat} (h:1≤k) (h2:k≤1000000) {p:Int} (hp:pcB p=true):kI (pw 0) (byI k p)∧(2≤k→kI (pw (-1)) (byI k p)):=by
 have hn:(0:Rat)<((k:Int):Rat):=by rw[Rat.intCast_natCast];exact Rat.natCast_pos.2 h
 have hi:=Rat.mul_inv_cancel ((k:Int):Rat) (by grind)
 have hi0:(0:Rat)<((k:Int):Rat)⁻¹ :=Rat.inv_pos.2 hn
 have key: ∀(c:Nat) (e:Int),c≤k→(c:Rat)*pw e=1→ -100≤e→e≤100→kI (pw e) (byI k p):=fun c e hc hce h3 h4=>by
  have h5:(c:Rat)≤((k:Int):Rat):=by rw[Rat.intCast_natCast];exact Rat.natCast_le_natCast.2 hc
  have h6:((k:Int):Rat)⁻¹ ≤pw e:=by
   have h7:=Rat.mul_le_mul_of_nonneg_right h5 (Rat.le_of_lt (Rat.mul_pos hi0 (za2 e)))
   have e1:(c:Rat)*(((k:Int):Rat)⁻¹ *pw e)=((k:Int):Rat)⁻¹ *((c:Rat)*pw e):=by grind
   have e2:((k:Int):Rat)*(((k:Int):Rat)⁻¹ *pw e)=(((k:Int):Rat)*((k:Int):Rat)⁻¹)*pw e:=by grind
   rw[e1,hce,e2,hi]at h7
   grind
  have:=kI_divn kI_1 (n:=(k:Int)) (by omega) (by omega) h6 hp (by rw[←pwA];exact pwF (by omega) (by omega))
  rw[←pwA,Int.zero_add]at this
  exact this
 refine⟨key 1 0 h (by rw[pw_0];exact Rat.mul_one _) (by decide) (by decide),fun h3=>key 2 (-1) h3 ?_ (by decide) (by decide)⟩
 have:=pw_two (-1)
 rw[show(-1+1:Int)=0 from rfl,pw_0]at this
 have e:((2:Nat):Rat)=2:=rfl
 rw[e];grind
theorem inF_n {p:Nat} (hp:11≤p) {c:Nat} (hc:c≤2000):inF p (c:Rat):=by
 refine⟨c,0,by unfold vN;rw[pw_0,Rat.mul_one],Nat.le_trans hc (Nat.le_trans (by decide:2000≤2^11) (Nat.pow_le_pow_right (by decide) hp)),by decide,?_⟩
 have h1:(c:Rat)≤pw 11:=by
  rw[show(11:Int)=((11:Nat):Int)from rfl,zga]
  exact Rat.natCast_le_natCast.2 (by omega)
 exact zvp h1 (zua (by decide))
structure kN (k c:Nat) (m:Mx):Prop where
 v:VM (k+1) (k+1) m
 e: ∀i j,i<k+1→j<k+1→kI (c:Rat) (atM m i j)
theorem kN_ad {k c:Nat} {a b:Mx} (ha:kN k c a) (hb:kM k 1 b) {p:Int} (hp:pcB p=true) (hp2:11≤p) (h:c+2≤2000):kN k (c+2) (adM a b p).1:=by
 refine⟨(zla ha.v hb.v hp).2,fun i j hi hj=>?_⟩
 rw[at_ad ha.v hb.v hp hi hj]
 refine kI_add (ha.e i j hi hj) (hb.e i j hi hj) ?_ hp (inF_n (by omega) h)
 have e1:pw 1=2:=by rw[show(1:Int)=((1:Nat):Int)from rfl,zga];rfl
 have e2:((c+2:Nat):Rat)=(c:Rat)+2:=Rat.natCast_add c 2
 rw[e1,e2];exact Rat.le_refl
structure kS (k K:Nat) (s:MSt) (r:Iv):Prop where
 t:kM k 1 s.term
 e:kN k (2*K+1) s.exp
 f:kN k (2*K+1) s.phi
 r:kI (pw 1) r
theorem kS_step {k:Nat} (hk:k≤2) {m:Mx} (hm:kM k (-1) m) {u:Iv} (hu:kI (pw 1) u) {p:Int} (hp:pcB p=true) (hp2:11≤p) {K:Nat} (hK:1≤K∧K≤800) {s:MSt} {r:Iv} (h:kS k K s r):kS k (K+1) (zj4 m p (K+1) s) (zxl u p (K+1) r):=by
 have b1:=(kI_by (k:=K+1) (by omega) (by omega) hp).2 (by omega)
 have b2:=(kI_by (k:=K+2) (by omega) (by omega) hp).1
 have ht:kM k 1 (zj4 m p (K+1) s).term :=kM_sc (kM_mu hk h.t hm hp (by omega)) b1 hp (by omega)
 have ht2:kM k 1 (scM (zj4 m p (K+1) s).term (byI (K+1+1) p) p):=kM_sc ht b2 hp (by omega)
 refine⟨ht,kN_ad h.e ht hp hp2 (by omega),kN_ad h.f ht2 hp hp2 (by omega),?_⟩
 have h1:=kI_mul h.r hu hp (by rw[←pwA];exact pwF (by decide) (by decide))
 rw[←pwA]at h1
 have h2:=kI_mul h1 b1 hp (by rw[←pwA];exact pwF (by decide) (by decide))
 rw[←pwA]at h2
 exact h2
theorem kS_one {k:Nat} (hk:k≤2) {m:Mx} (hm:kM k (-1) m) {u:Iv} (hu:kI (pw 1) u) {p:Int} (hp:pcB p=true) (hp2:11≤p):kS k 1 (zj4 m p 1 ⟨idM (k+1),idM (k+1),idM (k+1)⟩) (zxl u p 1 (whI 1)):=by
 have b1:=(kI_by (k:=1) (by omega) (by omega) hp).1
 have b2:=(kI_by (k:=2) (by omega) (by omega) hp).1
 have i1:kN k 1 (idM (k+1)):=⟨(kM_id hk).v,fun i j hi hj=>by have:=(kM_id hk).e i j hi hj;rw[pw_0]at this;exact this⟩
 have ht:kM k 1 (zj4 m p 1 ⟨idM (k+1),idM (k+1),idM (k+1)⟩).term :=kM_sc (kM_mu hk (kM_id hk) hm hp (by omega)) b1 hp (by omega)
 have ht2:kM k 1 (scM (zj4 m p 1 ⟨idM (k+1),idM (k+1),idM (k+1)⟩).term (byI 2 p) p):=kM_sc ht b2 hp (by omega)
 refine⟨ht,kN_ad i1 ht hp hp2 (by omega),kN_ad i1 ht2 hp hp2 (by omega),?_⟩
 have h1:=kI_mul kI_1 hu hp (by rw[←pwA];exact pwF (by decide) (by decide))
 rw[←pwA]at h1
 have h2:=kI_mul h1 b1 hp (by rw[←pwA];exact pwF (by decide) (by decide))
 rw[←pwA]at h2
 exact h2
theorem kS_ser {k:Nat} (hk:k≤2) {m:Mx} (hm:kM k (-1) m) {u:Iv} (hu:kI (pw 1) u) {p:Int} (hp:pcB p=true) (hp2:11≤p): ∀(f K:Nat) (s:MSt) (r:Iv),1≤K→K+f≤750→kS k K s r→ ∃K',K'≤750∧kS k K' (zkb m u p f (K+1) s r).1 (zkb m u p f (K+1) s r).2
 |0,K,s,r,_,h2,h=>⟨K,by omega,h⟩
 |f+1,K,s,r,h1,h2,h=>by
  have hs:=kS_step hk hm hu hp hp2 ⟨h1,by omega⟩ h
  unfold zkb
  split
  ·exact⟨K+1,by omega,hs⟩
  ·exact kS_ser hk hm hu hp hp2 f (K+1) _ _ (by omega) (by omega) hs
theorem kI_hull {b:Rat} {e:Iv} (h:kI b e):kI b (zdf (zfv e) e):=by
 have k:=h.k
 have hn:KI (zfv e):=by
  have:=zy0 (.inl k)
  rw[zyz k]at this⊢
  exact(zh6 this).1 rfl
 have h1:=h.lo
 have h2:=h.hi
 have h3:=k.dle
 unfold zdf
 rw[if_pos ((zex hn.ri k.ri).2 ⟨hn,k⟩)]
 refine⟨zwg hn k,?_,?_⟩
 ·show-b≤dv (xo (zfv e).lo e.lo)
  rw[zyz k]
  obtain⟨_,_,c|c⟩:=zp0 (zau e.hi) e.lo<;>rw[c]
  ·rw[zjd];grind
  ·exact h1
 ·show dv (uo (zfv e).hi e.hi)≤b
  rw[zyz k]
  obtain⟨_,_,c|c⟩:=zit (zau e.lo) e.hi<;>rw[c]
  ·rw[zjd];grind
  ·exact h2
theorem kM_ar {k K:Nat} (hK:K≤750) {x:Mx} (h:kN k (2*K+1) x) {r:Iv} (hr:kI (pw 1) r) {p:Int} (hp:pcB p=true):kM k 12 (arM x r p):=by
 refine⟨zxc h.v (.inl hr.k) hp,fun i j hi hj=>?_⟩
 rw[at_ar h.v hi hj]
 refine kI_add (h.e i j hi hj) (kI_hull hr) ?_ hp (pwF (by decide) (by decide))
 have h1:((2*K+1:Nat):Rat)≤pw 11:=by
  rw[show(11:Int)=((11:Nat):Int)from rfl,zga]
  exact Rat.natCast_le_natCast.2 (by omega)
 have h2:pw 1≤pw 11:=zhc.2 (by decide)
 have h3:=pw_two 11
 rw[show(11+1:Int)=12 from rfl]at h3
 grind
theorem kM_sta {k:Nat} (hk:k≤2) {m:Mx} (hm:kM k (-1) m) {h:Iv} (hh:kI (pw 5) h) {p:Int} (hp:pcB p=true) (hp2:11≤p) (hu:kI (pw 1) (ke (nmM m p).1)):kM k 17 (zt1 m h p).exp ∧kM k 17 (zt1 m h p).phi :=by
 have key: ∃K',K'≤750∧kS k K' (zkb m (ke (nmM m p).1) p 700 1 ⟨idM m.length,idM m.length,idM m.length⟩ (whI 1)).1 (zkb m (ke (nmM m p).1) p 700 1 ⟨idM m.length,idM m.length,idM m.length⟩ (whI 1)).2:=by
  rw[hm.v.len]
  have h1:=kS_one hk hm hu hp hp2
  unfold zkb
  split
  ·exact⟨1,by omega,h1⟩
  ·exact kS_ser hk hm hu hp hp2 699 1 _ _ (by omega) (by omega) h1
 obtain⟨K,hK,hs⟩:=key
 exact⟨(kM_ar hK hs.e hs.r hp).mono (by decide),kM_sc (kM_ar hK hs.f hs.r hp) hh hp (by decide)⟩
theorem kM_dbl {k:Nat} (hk:k≤2) {B:Int} (hB:0≤B∧2*B≤15000) {x:MPr} (h1:kM k B x.exp) (h2:kM k B x.phi) {q:Int} (hq:pcB q=true):kM k (2*B+3) (zwy q x).exp ∧kM k (2*B+3) (zwy q x).phi :=by
 have m1:=kM_mu hk h1 h1 hq (by omega)
 have m2:=kM_mu hk h1 h2 hq (by omega)
 refine⟨m1.mono (by omega),?_⟩
 have:=kM_ad (h2.mono (show B≤B+B+2 by omega)) m2 hq (by omega)
 exact this.mono (by omega)
theorem kM_dblN {k:Nat} (hk:k≤2) {q:Int} (hq:pcB q=true): ∀(s:Nat) (B:Int) (x:MPr),0≤B→(B+3)*2^s≤15000→kM k B x.exp→kM k B x.phi→ ∃C:Int,(0≤C∧C≤15000)∧kM k C (ztc q s x).exp ∧kM k C (ztc q s x).phi
 |0,B,x,h0,hB,h1,h2=>⟨B,⟨h0,by simp at hB;omega⟩,h1,h2⟩
 |s+1,B,x,h0,hB,h1,h2=>by
  have e:(B+3)*2^(s+1)=(2*B+3+3)*2^s:=by rw[Int.pow_succ];grind
  have hp0:(0:Int)<2^s:=Int.pow_pos (by decide)
  have hp:(1:Int)≤2^s:=by omega
  have hb:2*B+6≤15000:=by
   rw[e]at hB
   have:(2*B+3+3)*1≤(2*B+3+3)*2^s:=Int.mul_le_mul_of_nonneg_left hp (by omega)
   omega
  obtain⟨d1,d2⟩:=kM_dbl hk ⟨h0,by omega⟩ h1 h2 hq
  exact kM_dblN hk hq s (2*B+3) _ (by omega) (by rw[←e];exact hB) d1 d2
theorem kn_kM {k:Nat} {C:Int} (hC: -16000≤C∧C≤16000) {m:Mx} (h:kM k C m) {p:Int} (hp:pcB p=true):knM (rdM m p)=true:=by
 have v:=zr8 h.v p
 unfold knM
 have:((rdM m p).any fun r=>r.any fun x=>x.all)=false:=by
  rw[List.any_eq_false]
  intro r hr
  rw[List.any_eq_true]
  rintro⟨x,hx,hxa⟩
  obtain⟨i,hi⟩:=List.getElem?_of_mem hr
  obtain⟨j,hj⟩:=List.getElem?_of_mem hx
  have hil:=(List.getElem?_eq_some_iff.1 hi).1
  have hjl:=(List.getElem?_eq_some_iff.1 hj).1
  rw[v.len]at hil
  rw[v.row r hr]at hjl
  have e:=at_rd h.v (p:=p) hil hjl
  rw[at_of hi hj]at e
  have:=(kI_round (h.e i j hil hjl) hp (pwF (by omega) (by omega))).k.all
  rw[←e,hxa]at this
  cases this
 rw[this,v.len];simp
end Go.Proofs.YtgehdbenidimlaaGreatDoor

namespace Go.Proofs.YtgehdbenidimlaaGreatDoor
open Go Go.Sx
set_option maxRecDepth 100000
set_option maxHeartbeats 4000000
theorem row_n {p:Int} (hp:pcB p=true) (hp2:11≤p): ∀(l:List (Iv×Nat)) (s:Dy) (c:Nat),(∀q∈l,kI (q.2:Rat) q.1)→VD s→dv s≤(c:Rat)→c+(l.map (·.2)).sum ≤2000→ ∃S,zh3 p (l.map (·.1)) s=some S∧VD S∧dv S≤((c+(l.map (·.2)).sum :Nat):Rat)
 | [],s,c,_,hs,h1,_=>⟨s,rfl,hs,by simpa using h1⟩
 |(x,b)::l,s,c,hx,hs,h1,hc=>by
  have hb:=hx (x,b) (by simp)
  have hb:kI (b:Rat) x:=hb
  have k:=hb.k
  have hm:=(zy9 hb.b k).2.1
  simp only[List.map_cons,List.sum_cons]at hc⊢
  have hF:=inF_n (p:=p.toNat) (by omega) (c:=c+b) (by omega)
  have R1:=(zm2 hs (zrh k) (kf hp)).2.2 (((c+b:Nat)):Rat) (.inl hF) (by show dv s+dv (zdc x)≤_;rw[Rat.natCast_add];grind)
  obtain⟨S,h2,h3,h4⟩:=row_n hp hp2 l _ (c+b) (fun q hq=>hx q (List.mem_cons_of_mem _ hq)) (zjv _ _ _ _ (kf hp)) R1.2 (by omega)
  refine⟨S,?_,h3,by rw[show c+(b+(l.map (·.2)).sum)=c+b+(l.map (·.2)).sum by omega];exact h4⟩
  unfold zh3
  rw[if_pos ⟨(vn k.ri).2 k,R1.1⟩]
  exact h2
theorem nm_n {p:Int} (hp:pcB p=true) (hp2:11≤p) {M:Nat} (hM:M≤2000): ∀(m:List (List (Iv×Nat))) (D:Dy),(∀l∈m,(∀q∈l,kI (q.2:Rat) q.1)∧(l.map (·.2)).sum ≤M)→dv D≤(M:Rat)→ ∃E,nmG p (m.map fun l=>l.map (·.1)) D=some E∧dv E≤(M:Rat)
 | [],D,_,h=>⟨D,rfl,h⟩
 |l::m,D,h,hD=>by
  obtain⟨h1,h2⟩:=h l (by simp)
  obtain⟨S,e1,_,e2⟩:=row_n hp hp2 l d0 0 h1 qk (by rw[zaw];exact Rat.natCast_nonneg) (by omega)
  rw[Nat.zero_add]at e2
  have e3:dv S≤(M:Rat):=Rat.le_trans e2 (Rat.natCast_le_natCast.2 h2)
  simp only[List.map_cons]
  unfold nmG
  rw[e1]
  refine nm_n hp hp2 hM m _ (fun l hl=>h l (List.mem_cons_of_mem _ hl)) ?_
  show dv (if 0<qi S D then S else D)≤_
  split
  ·exact e3
  ·exact hD
theorem top_le {D:Dy} {e:Int} (h0:0≤dv D) (h1:dv D≤pw e) (he: -1≤e):zy D≤e+1:=by
 by_cases hn:nm D=0
 ·unfold zy;rw[if_pos hn];omega
 ·unfold zy
  rw[if_neg hn]
  have h3:=uh (n:=nm D) (e:=D.e) (t:=(bl (nm D):Int)+D.e-1) (by omega) hn
  have h4:vN (nm D) D.e≤pw e:=by
   have:=zfs (nm D) D.e
   have:=zda e
   unfold dv at h1 h0
   split at h1
   ·rename_i c
    rw[if_pos c]at h0
    grind
   ·exact h1
  have:=zhc.1 (Rat.le_trans h3 h4)
  omega
theorem halves: ∀(u:Fin 63) (s:Fin 8),(qw (whI ((u.val:Int)-31)) (-(s.val:Int))).all =false:=by decide+kernel
theorem half_kI {σ:Int} (h: -31≤σ∧σ≤31) {s:Nat} (hs:s≤7):kI (pw 5) (qw (whI σ) (-(s:Int))):=by
 have h1:=halves ⟨(σ+31).toNat,by omega⟩ ⟨s,by omega⟩
 have e:(((⟨(σ+31).toNat,by omega⟩:Fin 63).val :Int)-31)=σ:=by show(((σ+31).toNat :Nat):Int)-31=σ;omega
 rw[e]at h1
 have e5:pw 5=32:=zga 5
 have hk:kI (pw 5) (whI σ):=kI_w (by omega) (by
  rw[e5]
  have:((-32:Int):Rat)≤((σ:Int):Rat):=Rat.intCast_le_intCast.2 (by omega)
  have e:((-32:Int):Rat)= -32:=rfl
  rw[e]at this;exact this) (by
  rw[e5]
  have:((σ:Int):Rat)≤((32:Int):Rat):=Rat.intCast_le_intCast.2 (by omega)
  have e:((32:Int):Rat)=32:=rfl
  rw[e]at this;exact this)
 have h2:=ztk hk.b (-(s:Int))
 have h3:=kI_of h2 h1
 refine h3.mono ?_
 rw[←pwA]
 exact zhc.2 (by omega)
def upM (x y z:Int):Mx:= [[whI 0,whI x,whI y],[whI 0,whI 0,whI z],[whI 0,whI 0,whI 0]]
theorem kI_nat {n:Int} (h: -4611686018427387904≤n∧n≤4611686018427387904):kI ((n.natAbs:Nat):Rat) (whI n):=by
 have e1:(n:Rat)≤(((n.natAbs:Nat):Int):Rat):=Rat.intCast_le_intCast.2 (by omega)
 have e2:((-((n.natAbs:Nat):Int):Int):Rat)≤(n:Rat):=Rat.intCast_le_intCast.2 (by omega)
 rw[Rat.intCast_neg]at e2
 rw[Rat.intCast_natCast]at e1 e2
 exact kI_w h e2 e1
theorem up_VM {x y z:Int} (hx: -200≤x∧x≤200) (hy: -200≤y∧y≤200) (hz: -200≤z∧z≤200):VM 3 3 (upM x y z):=by
 refine⟨by decide,by decide,rfl,fun r hr=>?_,fun r hr w hw=>?_⟩
 ·simp only[upM,List.mem_cons,List.not_mem_nil,or_false]at hr
  rcases hr with rfl|rfl|rfl<;>rfl
 ·simp only[upM,List.mem_cons,List.not_mem_nil,or_false]at hr
  rcases hr with rfl|rfl|rfl<;>simp only[List.mem_cons,List.not_mem_nil,or_false]at hw<;>rcases hw with rfl|rfl|rfl<;>exact zfr (by omega)
theorem up_some {x y z σ:Int} (hσ: -31≤σ∧σ≤31) (h1:x.natAbs+y.natAbs≤16) (h2:z.natAbs≤16) (h3:σ.natAbs*x.natAbs+σ.natAbs*y.natAbs≤16) (h4:σ.natAbs*z.natAbs≤16) {p:Int} (hp:pcB p=true):
 ∃w,zc5 (upM x y z) (whI σ) p=some w:=by
 have hp2:8≤p∧p≤512:=by
  obtain⟨q,rfl,hq⟩:=xc.1 hp
  omega
 have hq:pcB (min (p+40) 512)=true:=by unfold pcB;simp;omega
 have hq2:11≤min (p+40) 512:=by omega
 generalize hqq:min (p+40) 512=q at*
 have va:=up_VM (x:=x) (y:=y) (z:=z) (by omega) (by omega) (by omega)
 have kt:KI (whI σ):=zf3 (by omega)
 have km: ∀n:Int,n.natAbs≤16→σ.natAbs*n.natAbs≤16→kI ((σ.natAbs*n.natAbs:Nat):Rat) (xe (whI σ) (whI n) q):=fun n hn1 hn=>by
  rw[Rat.natCast_mul]
  exact kI_mul (kI_nat (by omega)) (kI_nat (by omega)) hq (by rw[←Rat.natCast_mul];exact inF_n (by omega) (by omega))
 have hsc:scM (upM x y z) (whI σ) q=([[(xe (whI σ) (whI 0) q,0),(xe (whI σ) (whI x) q,σ.natAbs*x.natAbs),(xe (whI σ) (whI y) q,σ.natAbs*y.natAbs)],[(xe (whI σ) (whI 0) q,0),(xe (whI σ) (whI 0) q,0),(xe (whI σ) (whI z) q,σ.natAbs*z.natAbs)],[(xe (whI σ) (whI 0) q,0),(xe (whI σ) (whI 0) q,0),(xe (whI σ) (whI 0) q,0)]]:List (List (Iv×Nat))).map fun l=>l.map (·.1):=by
  unfold scM
  rw[if_pos (by rw[va.ok,(yu kt.ri).2 (.inl kt),hq];rfl)]
  rfl
 have k0:kI ((0:Nat):Rat) (xe (whI σ) (whI 0) q):=by
  have:=km 0 (by decide) (by simp)
  simpa using this
 obtain⟨E,hE,hE16⟩:=nm_n hq hq2 (M:=16) (by omega) [[(xe (whI σ) (whI 0) q,0),(xe (whI σ) (whI x) q,σ.natAbs*x.natAbs),(xe (whI σ) (whI y) q,σ.natAbs*y.natAbs)],[(xe (whI σ) (whI 0) q,0),(xe (whI σ) (whI 0) q,0),(xe (whI σ) (whI z) q,σ.natAbs*z.natAbs)],[(xe (whI σ) (whI 0) q,0),(xe (whI σ) (whI 0) q,0),(xe (whI σ) (whI 0) q,0)]] d0 (fun l hl=>by
  simp only[List.mem_cons,List.not_mem_nil,or_false]at hl
  rcases hl with rfl|rfl|rfl
  ·refine⟨fun r hr=>?_,by simp;omega⟩
   simp only[List.mem_cons,List.not_mem_nil,or_false]at hr
   rcases hr with rfl|rfl|rfl
   ·exact k0
   ·exact km x (by omega) (by omega)
   ·exact km y (by omega) (by omega)
  ·refine⟨fun r hr=>?_,by simp;omega⟩
   simp only[List.mem_cons,List.not_mem_nil,or_false]at hr
   rcases hr with rfl|rfl|rfl
   ·exact k0
   ·exact k0
   ·exact km z (by omega) (by omega)
  ·refine⟨fun r hr=>?_,by simp⟩
   simp only[List.mem_cons,List.not_mem_nil,or_false]at hr
   rcases hr with rfl|rfl|rfl<;>exact k0) (by rw[zaw];exact Rat.natCast_nonneg)
 rw[←hsc]at hE
 have vsc0:=zc9 va (.inl kt) hq
 have hN:nmM (scM (upM x y z) (whI σ) q) q=(E,true):=by
  unfold nmM
  rw[if_pos (by rw[vsc0.ok,hq];rfl),hE]
 have hN':nmM (scM (upM x y z) (whI σ) (min (p+40) 512)) (min (p+40) 512)=(E,true):=by rw[hqq];exact hN
 have hnd:=zpm (a:=scM (upM x y z) (whI σ) q) (p:=q) vsc0.el
 rw[hN]at hnd
 have hE4:dv E≤pw 4:=by
  have:pw 4=((16:Nat):Rat):=zga 4
  rw[this];exact hE16
 have hcmp: ¬(0<qi E (zd6 256)):=fun c=>by
  have:=(zfk E (zd6 256)).2.1.1 c
  rw[zae]at this
  have h8:((256:Int):Rat)=pw 8:=(zga 8).symm
  rw[h8]at this
  have:=zhc.2 (show(4:Int)≤8 by decide)
  grind
 have hnd2:0≤dv E:=hnd.2
 have htop:=top_le hnd2 hE4 (by decide)
 rw[zq6 hN',if_neg (by simp;omega),hqq]
 have hs0:((hvS E).toNat :Int)=hvS E:=by unfold hvS;omega
 have hs7:(hvS E).toNat ≤6:=by unfold hvS;omega
 have hbd:=zwh va kt hq hN
 rw[←hs0]at hbd
 generalize (hvS E).toNat =s at*
 have hhalf:=half_kI hσ (s:=s) (by omega)
 have vh:VI (qw (whI σ) (-(s:Int))):= .inl hhalf.k
 have vsc:=zc9 va vh hq
 have hm:kM 2 (-1) (scM (upM x y z) (qw (whI σ) (-(s:Int))) q):=by
  refine⟨vsc,fun i j hi hj=>?_⟩
  rw[at_sc va vh hq hi hj]
  obtain⟨r,hr1,hr2,_,hr4⟩:=at_eq va hi hj
  have hb:=hbd r hr2 _ (List.mem_of_getElem? hr4)
  refine kI_of hb ?_
  have hel:kI (pw 5) (atM (upM x y z) i j):=by
   have h16: ∀n:Int,n.natAbs≤16→kI (pw 5) (whI n):=fun n hn=>(kI_nat (by omega)).mono (by
    have:pw 5=((32:Nat):Rat):=zga 5
    rw[this];exact Rat.natCast_le_natCast.2 (by omega))
   match i,j,hi,hj with
   |0,0,_,_=>exact h16 0 (by decide)
   |0,1,_,_=>exact h16 x (by omega)
   |0,2,_,_=>exact h16 y (by omega)
   |1,0,_,_=>exact h16 0 (by decide)
   |1,1,_,_=>exact h16 0 (by decide)
   |1,2,_,_=>exact h16 z (by omega)
   |2,0,_,_=>exact h16 0 (by decide)
   |2,1,_,_=>exact h16 0 (by decide)
   |2,2,_,_=>exact h16 0 (by decide)
  exact(kI_mul hhalf hel hq (by rw[←pwA];exact pwF (by decide) (by decide))).k.all
 have hknown: ∀r∈scM (upM x y z) (qw (whI σ) (-(s:Int))) q,∀w∈r,kI (pw (-1)) w:=fun r hr w hw=>by
  obtain⟨i,hi⟩:=List.getElem?_of_mem hr
  obtain⟨j,hj⟩:=List.getElem?_of_mem hw
  have hil:=(List.getElem?_eq_some_iff.1 hi).1
  have hjl:=(List.getElem?_eq_some_iff.1 hj).1
  rw[vsc.len]at hil
  rw[vsc.row r hr]at hjl
  have:=hm.e i j hil hjl
  rw[at_of hi hj]at this
  exact this
 obtain⟨D,hD⟩:=nm_ok vsc hknown hq
 have hDle:dv D≤pw 1:=by
  have h1:nmG q (scM (upM x y z) (qw (whI σ) (-(s:Int))) q) d0=some D:=by
   unfold nmM at hD
   rw[if_pos (by rw[vsc.ok,hq];rfl)]at hD
   split at hD
   ·rename_i d hd;cases hD;exact hd
   ·cases hD
  have h2:=zyx hq (k:=3) (by omega) _ d0 D (fun r hr=>⟨vsc.row r hr,fun w hw=>(hknown r hr w hw).b⟩) (by rw[zaw];exact zfs _ _) h1
  have h3:vN 3 (-1)≤vN 4 (-1):=yx.2 (by decide)
  have h4:vN 4 (-1)=pw 1:=zc0 2 (-1)
  rw[h4]at h3
  exact Rat.le_trans h2 h3
 have hDv:=zpm (a:=scM (upM x y z) (qw (whI σ) (-(s:Int))) q) (p:=q) vsc.el
 have hu:kI (pw 1) (ke (nmM (scM (upM x y z) (qw (whI σ) (-(s:Int))) q) q).1):=by
  rw[hD]at hDv⊢
  refine⟨zxg hDv.1,?_,hDle⟩
  have:=zda 1
  have h0:0≤dv D:=hDv.2
  show-pw 1≤dv D
  grind
 obtain⟨m1,m2⟩:=kM_sta (by decide) hm hhalf hq hq2 hu
 obtain⟨C,hC,w1,w2⟩:=kM_dblN (by decide) hq s 17 _ (by decide) (by
  have:(2:Int)^s≤2^6:=by
   have:=Nat.pow_le_pow_right (show 0<2 by decide) hs7
   have e:((2^s:Nat):Int)=(2:Int)^s:=by simp
   have e2:((2^6:Nat):Int)=(2:Int)^6:=by simp
   rw[←e,←e2];omega
  have:(17+3)*(2:Int)^s≤(17+3)*2^6:=Int.mul_le_mul_of_nonneg_left this (by decide)
  omega) m1 m2
 unfold zz5
 simp only
 rw[kn_kM ⟨by omega,by omega⟩ w1 hp,kn_kM ⟨by omega,by omega⟩ w2 hp]
 exact⟨_,rfl⟩
end Go.Proofs.YtgehdbenidimlaaGreatDoor

namespace Go.Proofs.YtgehdbenidimlaaGreatDoor
open Go Go.Sx
set_option maxRecDepth 100000
set_option maxHeartbeats 8000000
set_option linter.unusedVariables false
structure Mt (x y:Iv):Prop where
 vx:VI x
 vy:VI y
 m:x.all=false→y.all=false→dv x.lo≤dv y.hi∧dv y.lo≤dv x.hi
theorem Mt_lim {x y:Iv} (hx:VI x) (hy:VI y) {s:Nat→Rat} (h1:lI s x) (h2:lI s y):Mt x y:=⟨hx,hy,fun a b=>⟨lI_meet h1 h2 a b,lI_meet h2 h1 b a⟩⟩
theorem mst_or (a b:Dy):mstR a b=a∨mstR a b=b:=by unfold mstR;split<;>simp
theorem lst_or (a b:Dy):lstR a b=a∨lstR a b=b:=by unfold lstR;split<;>simp
theorem n54 {x y:Iv} (h:Mt x y): ∃z:Iv,Fn 54 [] [.agg (ivC x),.agg (ivC y)] (.tup [.agg (ivC z),.bool true]) []:=by
 obtain⟨hx,hy,hm⟩:=h
 have c1:=r108 x hx.ri
 have c2:=r108 y hy.ri
 rw[(yu hx.ri).2 hx]at c1
 rw[(yu hy.ri).2 hy]at c2
 obtain⟨xl,xh,xa⟩:=x
 obtain⟨yl,yh,ya⟩:=y
 cases xa with
 |true=>
  refine⟨⟨yl,yh,ya⟩,?_⟩
  refine fnT hTM hmx Tryz.func54 rfl rfl (ex:= []) ?_
  conv=>whnf
  refine⟨[],_,c1,?_⟩
  conv=>whnf
  refine⟨[],_,c2,?_⟩
  conv=>whnf
  exact⟨lr rfl,lh0⟩
 |false=>
 cases ya with
 |true=>
  refine⟨⟨xl,xh,false⟩,?_⟩
  refine fnT hTM hmx Tryz.func54 rfl rfl (ex:= []) ?_
  conv=>whnf
  refine⟨[],_,c1,?_⟩
  conv=>whnf
  refine⟨[],_,c2,?_⟩
  conv=>whnf
  exact⟨lr rfl,lh0⟩
 |false=>
 have kx:=(zh6 hx).1 rfl
 have ky:=(zh6 hy).1 rfl
 obtain⟨m1,m2⟩:=hm rfl rfl
 have m1:dv xl≤dv yh:=m1
 have m2:dv yl≤dv xh:=m2
 have d1:dv xl≤dv xh:=kx.dle
 have d2:dv yl≤dv yh:=ky.dle
 have e1:Fn 102 [] [.agg (dyC xl),.agg (dyC yl)] (.agg (dyC (mstR xl yl))) []:=r163 kx.lo ky.lo
 have e2:Fn 103 [] [.agg (dyC xh),.agg (dyC yh)] (.agg (dyC (lstR xh yh))) []:=r162 kx.hi ky.hi
 have hA:VD (mstR xl yl)∧dv (mstR xl yl)≤dv xh∧dv (mstR xl yl)≤dv yh:=by
  rcases mst_or xl yl with e|e<;>rw[e]
  ·exact⟨kx.lo,d1,m1⟩
  ·exact⟨ky.lo,m2,d2⟩
 have hB:VD (lstR xh yh)∧dv (mstR xl yl)≤dv (lstR xh yh):=by
  rcases lst_or xh yh with e|e<;>rw[e]
  ·exact⟨kx.hi,hA.2.1⟩
  ·exact⟨ky.hi,hA.2.2⟩
 have e3:=r175 hA.1 hB.1
 have hc:=kw.2 hB.2
 generalize mstR xl yl=A at*
 generalize lstR xh yh=B at*
 refine⟨⟨A,B,false⟩,?_⟩
 refine fnT hTM hmx Tryz.func54 rfl rfl (ex:= []) ?_
 conv=>whnf
 refine⟨[],_,c1,?_⟩
 conv=>whnf
 refine⟨[],_,c2,?_⟩
 conv=>whnf
 refine⟨[],_,e1,?_⟩
 conv=>whnf
 refine⟨[],_,e2,?_⟩
 (refine⟨by kernel_rfl,by kernel_rfl,?_⟩;(conv=>whnf))
 refine⟨[],_,e3,?_⟩
 conv=>whnf
 refine brI (fun c=>absurd (of_decide_eq_true c) (by omega)) (fun c=>?_)
 conv=>whnf
 exact⟨lr rfl,lh0⟩
theorem n53 {x y:Iv} (h:Mt x y):Fn 53 [] [.agg (ivC x),.agg (ivC y)] (.bool true) []:=by
 obtain⟨z,hz⟩:=n54 h
 refine fnT hTM hmx Tryz.func53 rfl rfl (ex:= []) ?_
 conv=>whnf
 refine⟨[],_,hz,?_⟩
 conv=>whnf
 exact⟨lr rfl,lh0⟩
structure MtL (l m:List Iv):Prop where
 len:l.length=m.length
 b:l.length<1000000
 el: ∀(i:Nat) (x y:Iv),l[i]? =some x→m[i]? =some y→Mt x y
theorem n52 {l m:List Iv} (h:MtL l m):Fn 52 [] [.sl .iv l,.sl .iv m,.fn 53 []] (.bool true) []:=by
 have hl:=h.len
 have hb:=h.b
 have e:((l.length:Int) != (m.length:Int))=false:=by simp;omega
 refine fnT hTM hmx Tryz.func52 rfl rfl (ex:= []) ?_
 conv=>whnf
 rw[e]
 conv=>whnf
 refine⟨Nat,fun i=>i≤l.length,fun i=> [(17,.int .i64 i)],fun i=> [(8,.free),(9,.free)],fun i=>l.length-i,0,Nat.zero_le _,?_,fun i hi=>?_⟩
 ·((conv=>whnf);refine And.intro ?_ ?_;repeat' first|refine lc ?_ ?_|exact la0|exact lr rfl|exact ln0|refine lh1 ?_ ?_|exact lh0|exact bf0|exact bd0|refine bc0 ?_|exact bm0 rfl|exact bb0 rfl|exact bg0 rfl|exact li0 rfl|refine lg0 ?_|refine lt0 ?_|fail)
 (refine⟨by kernel_rfl,?_⟩;(conv=>whnf))
 refine brI (fun c=>?_) (fun c=>?_)
 ·have c:i<l.length:=by have:=of_decide_eq_true c;omega
  conv=>whnf
  refine⟨⟨by omega,by omega⟩,fun(x:Iv) hx=>?_⟩
  have hx:l[i]? =some x:=by simpa using hx
  conv=>whnf
  refine⟨⟨by omega,by omega⟩,fun(y:Iv) hy=>?_⟩
  have hy:m[i]? =some y:=by simpa using hy
  conv=>whnf
  refine⟨[],_,n53 (h.el i x y hx hy),?_⟩
  conv=>whnf
  refine⟨i+1,c,by show l.length-(i+1)<l.length-i;omega,?_⟩
  ((conv=>whnf);refine And.intro ?_ ?_;repeat' first|refine lc ?_ ?_|exact la0|exact lr rfl|exact ln0|refine lh1 ?_ ?_|exact lh0|exact bf0|exact bd0|refine bc0 ?_|exact bm0 rfl|exact bb0 rfl|exact bg0 rfl|exact li0 rfl|refine lg0 ?_|refine lt0 ?_|fail)
  exact ai0 (by rw[wI (by omega)];omega)
 ·conv=>whnf
  exact⟨lr rfl,lh0⟩
theorem n21 {l m:List Iv} (h:MtL l m):Fn 21 [] [.sl .iv l,.sl .iv m] (.bool true) []:=by
 refine fnT hTM hmx Tryz.func21 rfl rfl (ex:= []) ?_
 conv=>whnf
 refine⟨[],_,n52 h,?_⟩
 conv=>whnf
 exact⟨lr rfl,lh0⟩
structure MtM (l m:Mx):Prop where
 len:l.length=m.length
 b:l.length<1000000
 el: ∀(i:Nat) (x y:List Iv),l[i]? =some x→m[i]? =some y→MtL x y
theorem n69 {l m:Mx} (h:MtM l m):Fn 69 [] [.sl .vs l,.sl .vs m,.fn 21 []] (.bool true) []:=by
 have hl:=h.len
 have hb:=h.b
 have e:((l.length:Int) != (m.length:Int))=false:=by simp;omega
 refine fnT hTM hmx Tryz.func69 rfl rfl (ex:= []) ?_
 conv=>whnf
 rw[e]
 conv=>whnf
 refine⟨Nat,fun i=>i≤l.length,fun i=> [(17,.int .i64 i)],fun i=> [],fun i=>l.length-i,0,Nat.zero_le _,?_,fun i hi=>?_⟩
 ·((conv=>whnf);refine And.intro ?_ ?_;repeat' first|refine lc ?_ ?_|exact la0|exact lr rfl|exact ln0|refine lh1 ?_ ?_|exact lh0|exact bf0|exact bd0|refine bc0 ?_|exact bm0 rfl|exact bb0 rfl|exact bg0 rfl|exact li0 rfl|refine lg0 ?_|refine lt0 ?_|fail)
 (refine⟨by kernel_rfl,?_⟩;(conv=>whnf))
 refine brI (fun c=>?_) (fun c=>?_)
 ·have c:i<l.length:=by have:=of_decide_eq_true c;omega
  conv=>whnf
  refine⟨⟨by omega,by omega⟩,fun(x:List Iv) hx=>?_⟩
  have hx:l[i]? =some x:=by simpa using hx
  conv=>whnf
  refine⟨⟨by omega,by omega⟩,fun(y:List Iv) hy=>?_⟩
  have hy:m[i]? =some y:=by simpa using hy
  conv=>whnf
  refine⟨[],_,n21 (h.el i x y hx hy),?_⟩
  conv=>whnf
  refine⟨i+1,c,by show l.length-(i+1)<l.length-i;omega,?_⟩
  ((conv=>whnf);refine And.intro ?_ ?_;repeat' first|refine lc ?_ ?_|exact la0|exact lr rfl|exact ln0|refine lh1 ?_ ?_|exact lh0|exact bf0|exact bd0|refine bc0 ?_|exact bm0 rfl|exact bb0 rfl|exact bg0 rfl|exact li0 rfl|refine lg0 ?_|refine lt0 ?_|fail)
  exact ai0 (by rw[wI (by omega)];omega)
 ·conv=>whnf
  exact⟨lr rfl,lh0⟩
theorem n30 {l m:Mx} (h:MtM l m):Fn 30 [] [.sl .vs l,.sl .vs m] (.bool true) []:=by
 refine fnT hTM hmx Tryz.func30 rfl rfl (ex:= []) ?_
 conv=>whnf
 refine⟨[],_,n69 h,?_⟩
 conv=>whnf
 exact⟨lr rfl,lh0⟩
end Go.Proofs.YtgehdbenidimlaaGreatDoor

namespace Go.Proofs.YtgehdbenidimlaaGreatDoor
open Go Go.Sx
set_option maxRecDepth 100000
set_option maxHeartbeats 4000000
def upQ (x y z:Rat):Nat→Nat→Rat
 |0,1=>x
 |0,2=>y
 |1,2=>z
 | _,_=>0
def upQ2 (x z:Rat):Nat→Nat→Rat
 |0,2=>x*z
 | _,_=>0
theorem mQ3 (X Y:Nat→Nat→Rat) (a b:Nat):mQ 2 X Y a b=X a 0*Y 0 b+X a 1*Y 1 b+X a 2*Y 2 b:=rfl
theorem lt3 {P:Nat→Nat→Prop} (h00:P 0 0) (h01:P 0 1) (h02:P 0 2) (h10:P 1 0) (h11:P 1 1) (h12:P 1 2) (h20:P 2 0) (h21:P 2 1) (h22:P 2 2): ∀a b,a≤2→b≤2→P a b
 |0,0,_,_=>h00
 |0,1,_,_=>h01
 |0,2,_,_=>h02
 |1,0,_,_=>h10
 |1,1,_,_=>h11
 |1,2,_,_=>h12
 |2,0,_,_=>h20
 |2,1,_,_=>h21
 |2,2,_,_=>h22
 |0,b+3,_,h=>by omega
 |1,b+3,_,h=>by omega
 |2,b+3,_,h=>by omega
 |a+3,_,h,_=>by omega
section
variable (x y z:Rat)
theorem up1: ∀a b,a≤2→b≤2→pQ 2 (upQ x y z) 1 a b=upQ x y z a b:=by
 refine lt3 ?_ ?_ ?_ ?_ ?_ ?_ ?_ ?_ ?_<;>(show mQ 2 dlt (upQ x y z) _ _=_;rw[mQ3];simp[dlt,upQ,Rat.add_zero,Rat.zero_add])
theorem up2: ∀a b,a≤2→b≤2→pQ 2 (upQ x y z) 2 a b=upQ2 x z a b:=by
 have h:=up1 x y z
 refine lt3 ?_ ?_ ?_ ?_ ?_ ?_ ?_ ?_ ?_<;>(show mQ 2 (pQ 2 (upQ x y z) 1) (upQ x y z) _ _=_;rw[mQ3,h _ 0 (by decide) (by decide),h _ 1 (by decide) (by decide),h _ 2 (by decide) (by decide)];simp[upQ,upQ2,Rat.add_zero,Rat.zero_add])
theorem up3: ∀n a b,a≤2→b≤2→pQ 2 (upQ x y z) (n+3) a b=0
 |0=>by
  have h:=up2 x y z
  refine lt3 ?_ ?_ ?_ ?_ ?_ ?_ ?_ ?_ ?_<;>(show mQ 2 (pQ 2 (upQ x y z) 2) (upQ x y z) _ _=_;rw[mQ3,h _ 0 (by decide) (by decide),h _ 1 (by decide) (by decide),h _ 2 (by decide) (by decide)];simp[upQ,upQ2,Rat.add_zero,Rat.zero_add])
 |n+1=>fun a b ha hb=>by
  have h:=up3 n
  show mQ 2 (pQ 2 (upQ x y z) (n+3)) (upQ x y z) a b=0
  rw[mQ3,h a 0 ha (by decide),h a 1 ha (by decide),h a 2 ha (by decide)]
  grind
theorem gQ_up (c:Nat→Rat) {a b:Nat} (ha:a≤2) (hb:b≤2): ∀n,gQ c 2 (upQ x y z) (n+2) a b=c 0*dlt a b+c 1*upQ x y z a b+c 2*upQ2 x z a b
 |0=>by
  show c 0*dlt a b+c 1*pQ 2 (upQ x y z) 1 a b+c 2*pQ 2 (upQ x y z) 2 a b=_
  rw[up1 x y z a b ha hb,up2 x y z a b ha hb]
 |n+1=>by
  show gQ c 2 (upQ x y z) (n+2) a b+c (n+3)*pQ 2 (upQ x y z) (n+3) a b=_
  rw[gQ_up c ha hb n,up3 x y z n a b ha hb]
  grind
end
theorem lI_ev {s:Nat→Rat} {c:Rat} {w:Iv} (h:lI s w) (N:Nat) (he: ∀n,N≤n→s n=c):lI (fun _=>c) w:=
 h.nul fun e he'=>⟨N,fun n hn=>by
  show zeo (s n-c)≤e
  rw[he n hn,Rat.sub_self,rabs_0];grind⟩
theorem up_in {x y z:Int} (hx: -200≤x∧x≤200) (hy: -200≤y∧y≤200) (hz: -200≤z∧z≤200):inM (2+1) (2+1) (upQ x y z) (upM x y z):=by
 refine⟨up_VM hx hy hz,fun i j hi hj=>?_⟩
 have key: ∀a b,a≤2→b≤2→inI (upQ x y z a b) (atM (upM x y z) a b):=by
  refine lt3 ?_ ?_ ?_ ?_ ?_ ?_ ?_ ?_ ?_
  ·exact whq_in 0
  ·exact whq_in x
  ·exact whq_in y
  ·exact whq_in 0
  ·exact whq_in 0
  ·exact whq_in z
  ·exact whq_in 0
  ·exact whq_in 0
  ·exact whq_in 0
 exact key i j (by omega) (by omega)
def hfI (n:Int):Iv:=qw (whI n) (-1)
def sxI (n:Int):Iv:=zh5 (whI n) (whI 6) 100
def wtE (s x y z:Int):Mx:= [[whI 1,whI (s*x),zas (whI (s*y)) (hfI (s*s*x*z)) 100],[whI 0,whI 1,whI (s*z)],[whI 0,whI 0,whI 1]]
def wtP (s x y z:Int):Mx:= [[whI s,hfI (s*s*x),zas (hfI (s*s*y)) (sxI (s*s*s*x*z)) 100],[whI 0,whI s,hfI (s*s*z)],[whI 0,whI 0,whI s]]
theorem hf_in {n:Int} (h: -4611686018427387904≤n∧n≤4611686018427387904):VI (hfI n)∧inI ((n:Rat)/2) (hfI n):=by
 refine⟨zdn (zfr h) _,?_⟩
 have:=scale_in (zfr h) (j:= -1) (whq_in n)
 have e:(n:Rat)*pw (-1)=(n:Rat)/2:=by
  have:=pw_two (-1)
  rw[show(-1+1:Int)=0 from rfl,pw_0]at this
  grind
 rw[e]at this
 exact this
theorem sx_in {n:Int} (h: -4611686018427387904≤n∧n≤4611686018427387904):VI (sxI n)∧inI ((n:Rat)/6) (sxI n):=by
 refine⟨zk3 (zfr h) (zfr (by decide)) (by decide),?_⟩
 exact zws (zfr h) (zfr (by decide)) (by decide) (whq_in n) (whq_in 6)
theorem rQ123 (t:Rat):rQ t 0=1∧rQ t 1=t∧rQ t 2=t*t/2∧rQ t 3=t*t*t/6:=by
 have e1:rQ t 1=t:=by
  show(1:Rat)*t*(1/((0+1:Nat):Rat))=t
  rw[show((0+1:Nat):Rat)=1 from rfl];grind
 have e2:rQ t 2=t*t/2:=by
  show rQ t 1*t*(1/((1+1:Nat):Rat))=_
  rw[e1,show((1+1:Nat):Rat)=2 from rfl];grind
 refine⟨rfl,e1,e2,?_⟩
 show rQ t 2*t*(1/((2+1:Nat):Rat))=_
 rw[e2,show((2+1:Nat):Rat)=3 from rfl];grind
theorem MtM_of {a b:Mx} (va:VM 3 3 a) (hb:b.length=3∧ ∀r∈b,r.length=3) (h: ∀i j,i≤2→j≤2→Mt (atM a i j) (atM b i j)):MtM a b:=by
 refine⟨by rw[va.len,hb.1],by rw[va.len];decide,fun i r r' hr hr'=>?_⟩
 have hi:=(List.getElem?_eq_some_iff.1 hr).1
 rw[va.len]at hi
 have l1:=va.row r (List.mem_of_getElem? hr)
 have l2:=hb.2 r' (List.mem_of_getElem? hr')
 refine⟨by rw[l1,l2],by rw[l1];decide,fun j w w' hw hw'=>?_⟩
 have hj:=(List.getElem?_eq_some_iff.1 hw).1
 rw[l1]at hj
 have:=h i j (by omega) (by omega)
 rw[at_of hr hw,at_of hr' hw']at this
 exact this
theorem up_meet {x y z σ:Int} (hx: -128≤x∧x≤127) (hy: -128≤y∧y≤127) (hz: -128≤z∧z≤127) (hσ: -31≤σ∧σ≤31) (b1: -1000000000≤σ*x∧σ*x≤1000000000) (b2: -1000000000≤σ*y∧σ*y≤1000000000) (b3: -1000000000≤σ*z∧σ*z≤1000000000)
 (b4: -1000000000≤σ*σ*x*z∧σ*σ*x*z≤1000000000) (b5: -1000000000≤σ*σ*x∧σ*σ*x≤1000000000) (b6: -1000000000≤σ*σ*y∧σ*σ*y≤1000000000) (b7: -1000000000≤σ*σ*σ*x*z∧σ*σ*σ*x*z≤1000000000) (b8: -1000000000≤σ*σ*z∧σ*σ*z≤1000000000)
 {p:Int} (hp:pcB p=true) {w:MPr} (h:zc5 (upM x y z) (whI σ) p=some w):MtM w.exp (wtE σ x y z)∧MtM w.phi (wtP σ x y z):=by
 have kt:KI (whI σ):=zf3 (by omega)
 obtain⟨l1,l2⟩:=bot_in (k:=2) (by decide) (up_in (x:=x) (y:=y) (z:=z) (by omega) (by omega) (by omega)) kt (whq_in σ) hp h
 obtain⟨r0,r1,r2,r3⟩:=rQ123 (σ:Rat)
 have hE: ∀a b,a≤2→b≤2→lI (fun _=>dlt a b+(σ:Rat)*upQ x y z a b+((σ:Rat)*σ/2)*upQ2 x z a b) (atM w.exp a b):=fun a b ha hb=>
  lI_ev (l1.l a b ha hb) 2 fun n hn=>by
   obtain⟨d,rfl⟩:=Nat.exists_eq_add_of_le hn
   rw[Nat.add_comm 2 d]
   show gQ (rQ σ) 2 (upQ x y z) (d+2) a b=_
   rw[gQ_up x y z (rQ σ) ha hb d,r0,r1,r2,Rat.one_mul]
 have hP: ∀a b,a≤2→b≤2→lI (fun _=>(σ:Rat)*dlt a b+((σ:Rat)*σ/2)*upQ x y z a b+((σ:Rat)*σ*σ/6)*upQ2 x z a b) (atM w.phi a b):=fun a b ha hb=>
  lI_ev (l2.l a b ha hb) 2 fun n hn=>by
   obtain⟨d,rfl⟩:=Nat.exists_eq_add_of_le hn
   rw[Nat.add_comm 2 d]
   show gQ (fun i=>rQ σ (i+1)) 2 (upQ x y z) (d+2) a b=_
   rw[gQ_up x y z (fun i=>rQ σ (i+1)) ha hb d]
   show rQ σ 1*_+rQ σ 2*_+rQ σ 3*_=_
   rw[r1,r2,r3]
 have mk: ∀ {c:Rat} {u v:Iv} {q:Rat},VI u→lI (fun _=>c) u→VI v→inI q v→c=q→Mt u v:=fun h1 h2 h3 h4 e=>Mt_lim h1 h3 h2 (lI_con (by rw[e];exact h4))
 have vE:=fun a b (ha:a≤2) (hb:b≤2)=>qad l1.v (i:=a) (j:=b) (by omega) (by omega)
 have vP:=fun a b (ha:a≤2) (hb:b≤2)=>qad l2.v (i:=a) (j:=b) (by omega) (by omega)
 have w0:VI (whI 0):=zfr (by decide)
 have w1:VI (whI 1):=zfr (by decide)
 have ws:VI (whI σ):= .inl kt
 have c1:((1:Int):Rat)=1:=rfl
 have c0:((0:Int):Rat)=0:=rfl
 obtain⟨h1v,h1i⟩:=hf_in (n:=σ*σ*x*z) (by omega)
 obtain⟨h2v,h2i⟩:=hf_in (n:=σ*σ*x) (by omega)
 obtain⟨h3v,h3i⟩:=hf_in (n:=σ*σ*y) (by omega)
 obtain⟨h4v,h4i⟩:=hf_in (n:=σ*σ*z) (by omega)
 obtain⟨h5v,h5i⟩:=sx_in (n:=σ*σ*σ*x*z) (by omega)
 have wx:VI (whI (σ*x)):=zfr (by omega)
 have wy:VI (whI (σ*y)):=zfr (by omega)
 have wz:VI (whI (σ*z)):=zfr (by omega)
 have p100:pcB 100=true:=by decide
 have aE:=add_in wy h1v p100 (whq_in (σ*y)) h1i
 have aP:=add_in h3v h5v p100 h3i h5i
 simp only[Rat.intCast_mul]at h1i h2i h3i h4i h5i aE aP
 have iM: ∀n:Int,inI ((σ:Rat)*n) (whI (σ*n)):=fun n=>by
  have:=whq_in (σ*n)
  rw[Rat.intCast_mul]at this;exact this
 constructor
 ·refine MtM_of l1.v ⟨rfl,fun r hr=>?_⟩ (lt3 ?_ ?_ ?_ ?_ ?_ ?_ ?_ ?_ ?_)
  ·simp only[wtE,List.mem_cons,List.not_mem_nil,or_false]at hr
   rcases hr with rfl|rfl|rfl<;>rfl
  ·exact mk (vE 0 0 (by decide) (by decide)) (hE 0 0 (by decide) (by decide)) w1 (whq_in 1) (by simp[dlt,upQ,upQ2,Rat.add_zero,Rat.zero_add])
  ·exact mk (vE 0 1 (by decide) (by decide)) (hE 0 1 (by decide) (by decide)) wx (iM x) (by simp[dlt,upQ,upQ2,Rat.add_zero,Rat.zero_add])
  ·exact mk (vE 0 2 (by decide) (by decide)) (hE 0 2 (by decide) (by decide)) (zre wy h1v p100) aE (by simp only[dlt,upQ,upQ2];rw[if_neg (by decide)];grind)
  ·exact mk (vE 1 0 (by decide) (by decide)) (hE 1 0 (by decide) (by decide)) w0 (whq_in 0) (by simp[dlt,upQ,upQ2,Rat.add_zero,Rat.zero_add])
  ·exact mk (vE 1 1 (by decide) (by decide)) (hE 1 1 (by decide) (by decide)) w1 (whq_in 1) (by simp[dlt,upQ,upQ2,Rat.add_zero,Rat.zero_add])
  ·exact mk (vE 1 2 (by decide) (by decide)) (hE 1 2 (by decide) (by decide)) wz (iM z) (by simp[dlt,upQ,upQ2,Rat.add_zero,Rat.zero_add])
  ·exact mk (vE 2 0 (by decide) (by decide)) (hE 2 0 (by decide) (by decide)) w0 (whq_in 0) (by simp[dlt,upQ,upQ2,Rat.add_zero,Rat.zero_add])
  ·exact mk (vE 2 1 (by decide) (by decide)) (hE 2 1 (by decide) (by decide)) w0 (whq_in 0) (by simp[dlt,upQ,upQ2,Rat.add_zero,Rat.zero_add])
  ·exact mk (vE 2 2 (by decide) (by decide)) (hE 2 2 (by decide) (by decide)) w1 (whq_in 1) (by simp[dlt,upQ,upQ2,Rat.add_zero,Rat.zero_add])
 ·refine MtM_of l2.v ⟨rfl,fun r hr=>?_⟩ (lt3 ?_ ?_ ?_ ?_ ?_ ?_ ?_ ?_ ?_)
  ·simp only[wtP,List.mem_cons,List.not_mem_nil,or_false]at hr
   rcases hr with rfl|rfl|rfl<;>rfl
  ·exact mk (vP 0 0 (by decide) (by decide)) (hP 0 0 (by decide) (by decide)) ws (whq_in σ) (by simp[dlt,upQ,upQ2,Rat.add_zero,Rat.zero_add])
  ·exact mk (vP 0 1 (by decide) (by decide)) (hP 0 1 (by decide) (by decide)) h2v h2i (by simp only[dlt,upQ,upQ2];rw[if_neg (by decide)];grind)
  ·exact mk (vP 0 2 (by decide) (by decide)) (hP 0 2 (by decide) (by decide)) (zre h3v h5v p100) aP (by simp only[dlt,upQ,upQ2];rw[if_neg (by decide)];grind)
  ·exact mk (vP 1 0 (by decide) (by decide)) (hP 1 0 (by decide) (by decide)) w0 (whq_in 0) (by simp[dlt,upQ,upQ2,Rat.add_zero,Rat.zero_add])
  ·exact mk (vP 1 1 (by decide) (by decide)) (hP 1 1 (by decide) (by decide)) ws (whq_in σ) (by simp[dlt,upQ,upQ2,Rat.add_zero,Rat.zero_add])
  ·exact mk (vP 1 2 (by decide) (by decide)) (hP 1 2 (by decide) (by decide)) h4v h4i (by simp only[dlt,upQ,upQ2];rw[if_neg (by decide)];grind)
  ·exact mk (vP 2 0 (by decide) (by decide)) (hP 2 0 (by decide) (by decide)) w0 (whq_in 0) (by simp[dlt,upQ,upQ2,Rat.add_zero,Rat.zero_add])
  ·exact mk (vP 2 1 (by decide) (by decide)) (hP 2 1 (by decide) (by decide)) w0 (whq_in 0) (by simp[dlt,upQ,upQ2,Rat.add_zero,Rat.zero_add])
  ·exact mk (vP 2 2 (by decide) (by decide)) (hP 2 2 (by decide) (by decide)) ws (whq_in σ) (by simp[dlt,upQ,upQ2,Rat.add_zero,Rat.zero_add])
end Go.Proofs.YtgehdbenidimlaaGreatDoor

namespace Go.Proofs.YtgehdbenidimlaaGreatDoor
open Go Go.Sx
set_option maxRecDepth 100000
set_option maxHeartbeats 8000000
set_option linter.unusedVariables false
theorem n25 (n:Int) (h: -4611686018427387904≤n∧n≤4611686018427387904):Fn 25 G0 [.int .i64 n] (.agg (ivC (hfI n))) G0:=by
 have h1:=n24 n h
 have h2:Fn 26 G0 [.agg (ivC (whI n)),.int .i64 (-1)] (.agg (ivC (hfI n))) G0:=i191 (whI n) (zjz n h) (-1)
 generalize whI n=w at*
 generalize hfI n=v at*
 refine fnT hTM hmx Tryz.func25 rfl rfl (ex:= []) ?_
 conv=>whnf
 refine⟨[],_,h1,?_⟩
 conv=>whnf
 refine⟨[.gst JT],_,h2,?_⟩
 conv=>whnf
 exact⟨lr rfl,wv⟩
theorem n27 (n:Int) (h: -4611686018427387904≤n∧n≤4611686018427387904):Fn 27 G0 [.int .i64 n] (.agg (ivC (sxI n))) G0:=by
 have h1:=n24 n h
 have h6:=n24 6 (by decide)
 have h2:Fn 28 G0 [.agg (ivC (whI n)),.agg (ivC (whI 6)),.int .i64 100] (.agg (ivC (sxI n))) G0:=i85 (whI n) (whI 6) (zjz n h) (zjz 6 (by decide)) 100
 generalize whI n=w at*
 generalize whI 6=w6 at*
 generalize sxI n=v at*
 refine fnT hTM hmx Tryz.func27 rfl rfl (ex:= []) ?_
 conv=>whnf
 refine⟨[],_,h1,?_⟩
 conv=>whnf
 refine⟨[],_,h6,?_⟩
 conv=>whnf
 refine⟨[.gst JT],_,h2,?_⟩
 conv=>whnf
 exact⟨lr rfl,wv⟩
theorem n19 (P:Int) (h:0≤P∧P≤255):Fn 19 [] [.int .u8 P] (.int .i64 (24+P % 41)) []:=by
 refine fnT hTM hmx Tryz.func19 rfl rfl (ex:= []) ?_
 conv=>whnf
 refine⟨by decide,?_⟩
 conv=>whnf
 refine⟨ai0 ?_,lh0⟩
 rw[wI (x:=P) (by omega)]
 rw[Int.tmod_eq_emod_of_nonneg (by omega),wI (by omega)]
theorem mb {a b:Int} {A B:Nat} (ha: -(A:Int)≤a∧a≤A) (hb: -(B:Int)≤b∧b≤B): -((A*B:Nat):Int)≤a*b∧a*b≤((A*B:Nat):Int):=by
 have h1:a.natAbs≤A:=by omega
 have h2:b.natAbs≤B:=by omega
 have h3:=Nat.mul_le_mul h1 h2
 rw[←Int.natAbs_mul]at h3
 omega
noncomputable def bodyP:Code:=Tryz.f5.body.getD .skip
theorem n5t {x y z σ P:Int} (hx: -128≤x∧x≤127) (hy: -128≤y∧y≤127) (hz: -128≤z∧z≤127) (hσ: -31≤σ∧σ≤31) (hP:0≤P∧P≤255):
 SemOK Tryz.prog TM Tryz.f5.results.toList [] (.bool true) G0 (zcb 3 bodyP) ⟨[.any,.any,.any,.any,.int .u8 P,.any,.any,.any,.any,.any,.bool false,.int .i64 x,.int .i64 y,.int .i64 z,.int .i64 σ]++jt 197,G0⟩:=by
 have hp:pcB (24+P % 41)=true:=by unfold pcB;simp;omega
 have va:=up_VM (x:=x) (y:=y) (z:=z) (by omega) (by omega) (by omega)
 have kt:KI (whI σ):=zf3 (by omega)
 have hcas:zjr (upM x y z) (whI σ) (24+P % 41)=true:=by
  rw[zq4 _ kt.ri,va.ok,va.hd,(yu kt.ri).2 (.inl kt)]
  rw[decide_eq_true (show 8≤24+P % 41 by omega),decide_eq_true (show 24+P % 41≤512 by omega)]
  rfl
 have c14:=n14 (upM x y z) va.rx (whI σ) kt.ri (24+P % 41)
 have c15:=n15 (upM x y z) va.rx (whI σ) kt.ri (24+P % 41)
 have eE:zk1 (upM x y z) (whI σ) (24+P % 41)=(zc5 (upM x y z) (whI σ) (24+P % 41)).elim ([],13) (fun x=>(x.exp,0)):=by unfold zk1;rw[if_pos hcas];cases zc5 (upM x y z) (whI σ) (24+P % 41)<;>rfl
 have eP:zpg (upM x y z) (whI σ) (24+P % 41)=(zc5 (upM x y z) (whI σ) (24+P % 41)).elim ([],13) (fun x=>(x.phi,0)):=by unfold zpg;rw[if_pos hcas];cases zc5 (upM x y z) (whI σ) (24+P % 41)<;>rfl
 rw[eE]at c14
 rw[eP]at c15
 clear eE eP
 have w0:=n24 0 (by decide)
 have w1:=n24 1 (by decide)
 have wx:=n24 x (by omega)
 have wy:=n24 y (by omega)
 have wz:=n24 z (by omega)
 have ws:=n24 σ (by omega)
 have c19:=n19 P hP
 cases hbot:zc5 (upM x y z) (whI σ) (24+P % 41)with
 |none=>
  rw[hbot]at c14 c15
  have hno: ¬(x.natAbs+y.natAbs≤16∧z.natAbs≤16∧σ.natAbs*x.natAbs+σ.natAbs*y.natAbs≤16∧σ.natAbs*z.natAbs≤16):=fun⟨h1,h2,h3,h4⟩=>by
   obtain⟨w,hw⟩:=up_some hσ h1 h2 h3 h4 hp
   rw[hbot]at hw;cases hw
  have c14:Fn 14 G0 [.sl .vs [[whI 0,whI x,whI y],[whI 0,whI 0,whI z],[whI 0,whI 0,whI 0]],.agg (ivC (whI σ)),.int .i64 (24+P % 41)] (.tup [.sl .vs [],.int .i64 13]) G0:=c14
  have c15:Fn 15 G0 [.sl .vs [[whI 0,whI x,whI y],[whI 0,whI 0,whI z],[whI 0,whI 0,whI 0]],.agg (ivC (whI σ)),.int .i64 (24+P % 41)] (.tup [.sl .vs [],.int .i64 13]) G0:=c15
  generalize whI 0=i0 at*
  generalize whI x=ix at*
  generalize whI y=iy at*
  generalize whI z=iz at*
  generalize whI σ=is at*
  generalize 24+P % 41=p at*
  refine wb hTM hmx ?_
  conv=>whnf
  refine⟨[],_,w0,?_⟩
  conv=>whnf
  refine⟨[],_,wx,?_⟩
  conv=>whnf
  refine⟨[],_,wy,?_⟩
  conv=>whnf
  refine⟨[],_,w0,?_⟩
  conv=>whnf
  refine⟨[],_,w0,?_⟩
  conv=>whnf
  refine⟨[],_,wz,?_⟩
  conv=>whnf
  refine⟨[],_,w0,?_⟩
  conv=>whnf
  refine⟨[],_,w0,?_⟩
  conv=>whnf
  refine⟨[],_,w0,?_⟩
  conv=>whnf
  refine⟨[],_,ws,?_⟩
  conv=>whnf
  refine⟨[],_,c19,?_⟩
  conv=>whnf
  refine⟨[.gst JT],_,c14,?_⟩
  conv=>whnf
  refine⟨[],_,ws,?_⟩
  conv=>whnf
  refine⟨[],_,c19,?_⟩
  conv=>whnf
  refine⟨[.gst JT],_,c15,?_⟩
  conv=>whnf
  have ksg:IntKind.i64.wrap (0-σ)= -σ:=by rw[wI (by omega)];omega
  refine⟨by rw[ksg];split<;>split<;>omega,?_⟩
  conv=>whnf
  refine brI (fun c=>?_) (fun c=>?_)
  ·conv=>whnf
   exact⟨lr rfl,wv⟩
  ·have c:=of_decide_eq_false c
   conv=>whnf
   refine⟨by rw[ksg];split<;>split<;>omega,?_⟩
   conv=>whnf
   have kx:IntKind.i64.wrap (0-x)= -x:=by rw[wI (by omega)];omega
   have ky:IntKind.i64.wrap (0-y)= -y:=by rw[wI (by omega)];omega
   have kz:IntKind.i64.wrap (0-z)= -z:=by rw[wI (by omega)];omega
   have hd:(if(1:Int)>(if-σ>σ then-σ else σ)then 1 else(if-σ>σ then-σ else σ))=((max σ.natAbs 1:Nat):Int):=by split<;>split<;>omega
   have hx':(if-x>x then-x else x)=((x.natAbs:Nat):Int):=by split<;>omega
   have hy':(if-y>y then-y else y)=((y.natAbs:Nat):Int):=by split<;>omega
   have hz':(if-z>z then-z else z)=((z.natAbs:Nat):Int):=by split<;>omega
   have hq:Int.tdiv 16 ((max σ.natAbs 1:Nat):Int)=((16/max σ.natAbs 1:Nat):Int):=by
    rw[Int.tdiv_eq_ediv_of_nonneg (by decide)];rfl
   have hle:16/max σ.natAbs 1≤16:=Nat.div_le_self _ _
   have hml:max σ.natAbs 1*(16/max σ.natAbs 1)≤16:=Nat.mul_div_le _ _
   have m1:σ.natAbs≤max σ.natAbs 1:=Nat.le_max_left _ _
   refine⟨ab0 ?_,wv⟩
   rw[ksg,kx,ky,hd,hx',hy',hq]at c
   rw[ksg,kz,hd,hz',hq]
   generalize 16/max σ.natAbs 1=Q at*
   generalize max σ.natAbs 1=M at*
   rw[wI (x:=((x.natAbs:Nat):Int)+((y.natAbs:Nat):Int)) (by omega),wI (x:=(Q:Int)) (by omega)]at c
   rw[wI (x:=(Q:Int)) (by omega),decide_eq_true_eq]
   rcases Int.lt_or_le (Q:Int) ((z.natAbs:Nat):Int)with h|h
   ·exact h
   ·exfalso
    have g1:σ.natAbs*(x.natAbs+y.natAbs)≤M*Q:=Nat.mul_le_mul m1 (by omega)
    have g2:σ.natAbs*z.natAbs≤M*Q:=Nat.mul_le_mul m1 (by omega)
    rw[Nat.mul_add]at g1
    exact hno ⟨by omega,by omega,by omega,by omega⟩
 |some w=>
  rw[hbot]at c14 c15
  have c14:Fn 14 G0 [.sl .vs [[whI 0,whI x,whI y],[whI 0,whI 0,whI z],[whI 0,whI 0,whI 0]],.agg (ivC (whI σ)),.int .i64 (24+P % 41)] (.tup [.sl .vs w.exp,.int .i64 0]) G0:=c14
  have c15:Fn 15 G0 [.sl .vs [[whI 0,whI x,whI y],[whI 0,whI 0,whI z],[whI 0,whI 0,whI 0]],.agg (ivC (whI σ)),.int .i64 (24+P % 41)] (.tup [.sl .vs w.phi,.int .i64 0]) G0:=c15
  have b1:=mb (a:=σ) (b:=x) (A:=31) (B:=128) (by omega) (by omega)
  have b2:=mb (a:=σ) (b:=y) (A:=31) (B:=128) (by omega) (by omega)
  have b3:=mb (a:=σ) (b:=z) (A:=31) (B:=128) (by omega) (by omega)
  have bs:=mb (a:=σ) (b:=σ) (A:=31) (B:=31) (by omega) (by omega)
  have b5:=mb (a:=σ*σ) (b:=x) (A:=31*31) (B:=128) bs (by omega)
  have b6:=mb (a:=σ*σ) (b:=y) (A:=31*31) (B:=128) bs (by omega)
  have b8:=mb (a:=σ*σ) (b:=z) (A:=31*31) (B:=128) bs (by omega)
  have b4:=mb (a:=σ*σ*x) (b:=z) (A:=31*31*128) (B:=128) b5 (by omega)
  have bss:=mb (a:=σ*σ) (b:=σ) (A:=31*31) (B:=31) bs (by omega)
  have b7':=mb (a:=σ*σ*σ) (b:=x) (A:=31*31*31) (B:=128) bss (by omega)
  have b7:=mb (a:=σ*σ*σ*x) (b:=z) (A:=31*31*31*128) (B:=128) b7' (by omega)
  simp only[Nat.reduceMul]at b1 b2 b3 bs b5 b6 b8 b4 bss b7' b7
  obtain⟨m1,m2⟩:=up_meet hx hy hz hσ (by omega) (by omega) (by omega) (by omega) (by omega) (by omega) (by omega) (by omega) hp hbot
  have e1:=n30 m1
  have e2:=n30 m2
  unfold wtE at e1
  unfold wtP at e2
  have k1:IntKind.i64.wrap (σ*x)=σ*x:=wI (by omega)
  have k2:IntKind.i64.wrap (σ*y)=σ*y:=wI (by omega)
  have k3:IntKind.i64.wrap (σ*z)=σ*z:=wI (by omega)
  have ks:IntKind.i64.wrap (σ*σ)=σ*σ:=wI (by omega)
  have k5:IntKind.i64.wrap (IntKind.i64.wrap (σ*σ)*x)=σ*σ*x:=by rw[ks];exact wI (by omega)
  have k6:IntKind.i64.wrap (IntKind.i64.wrap (σ*σ)*y)=σ*σ*y:=by rw[ks];exact wI (by omega)
  have k8:IntKind.i64.wrap (IntKind.i64.wrap (σ*σ)*z)=σ*σ*z:=by rw[ks];exact wI (by omega)
  have k4:IntKind.i64.wrap (IntKind.i64.wrap (IntKind.i64.wrap (σ*σ)*x)*z)=σ*σ*x*z:=by rw[k5];exact wI (by omega)
  have kss:IntKind.i64.wrap (IntKind.i64.wrap (σ*σ)*σ)=σ*σ*σ:=by rw[ks];exact wI (by omega)
  have k7':IntKind.i64.wrap (IntKind.i64.wrap (IntKind.i64.wrap (σ*σ)*σ)*x)=σ*σ*σ*x:=by rw[kss];exact wI (by omega)
  have k7:IntKind.i64.wrap (IntKind.i64.wrap (IntKind.i64.wrap (IntKind.i64.wrap (σ*σ)*σ)*x)*z)=σ*σ*σ*x*z:=by rw[k7'];exact wI (by omega)
  have d1:=n24 (σ*x) (by omega)
  have d2:=n24 (σ*y) (by omega)
  have d3:=n24 (σ*z) (by omega)
  have d4:=n25 (σ*σ*x*z) (by omega)
  have d5:=n25 (σ*σ*x) (by omega)
  have d6:=n25 (σ*σ*y) (by omega)
  have d8:=n25 (σ*σ*z) (by omega)
  have d7:=n27 (σ*σ*σ*x*z) (by omega)
  have vh:=(hf_in (n:=σ*σ*x*z) (by omega)).1
  have vh2:=(hf_in (n:=σ*σ*y) (by omega)).1
  have vh3:=(sx_in (n:=σ*σ*σ*x*z) (by omega)).1
  have a1:Fn 29 G0 [.agg (ivC (whI (σ*y))),.agg (ivC (hfI (σ*σ*x*z))),.int .i64 100] (.agg (ivC (zas (whI (σ*y)) (hfI (σ*σ*x*z)) 100))) G0:=i82 _ _ (zjz _ (by omega)) vh.ri 100
  have a2:Fn 29 G0 [.agg (ivC (hfI (σ*σ*y))),.agg (ivC (sxI (σ*σ*σ*x*z))),.int .i64 100] (.agg (ivC (zas (hfI (σ*σ*y)) (sxI (σ*σ*σ*x*z)) 100))) G0:=i82 _ _ vh2.ri vh3.ri 100
  generalize zas (whI (σ*y)) (hfI (σ*σ*x*z)) 100=A1 at*
  generalize zas (hfI (σ*σ*y)) (sxI (σ*σ*σ*x*z)) 100=A2 at*
  generalize hfI (σ*σ*x*z)=H4 at*
  generalize hfI (σ*σ*x)=H5 at*
  generalize hfI (σ*σ*y)=H6 at*
  generalize hfI (σ*σ*z)=H8 at*
  generalize sxI (σ*σ*σ*x*z)=H7 at*
  generalize whI (σ*x)=i1 at*
  generalize whI (σ*y)=i2 at*
  generalize whI (σ*z)=i3 at*
  rw[←k1]at d1
  rw[←k2]at d2
  rw[←k3]at d3
  rw[←k4]at d4
  rw[←k5]at d5
  rw[←k6]at d6
  rw[←k8]at d8
  rw[←k7]at d7
  generalize whI 0=i0 at*
  generalize whI 1=i10 at*
  generalize whI x=ix at*
  generalize whI y=iy at*
  generalize whI z=iz at*
  generalize whI σ=is at*
  generalize 24+P % 41=p at*
  obtain⟨E,F⟩:=w
  refine wb hTM hmx ?_
  conv=>whnf
  refine⟨[],_,w0,?_⟩
  conv=>whnf
  refine⟨[],_,wx,?_⟩
  conv=>whnf
  refine⟨[],_,wy,?_⟩
  conv=>whnf
  refine⟨[],_,w0,?_⟩
  conv=>whnf
  refine⟨[],_,w0,?_⟩
  conv=>whnf
  refine⟨[],_,wz,?_⟩
  conv=>whnf
  refine⟨[],_,w0,?_⟩
  conv=>whnf
  refine⟨[],_,w0,?_⟩
  conv=>whnf
  refine⟨[],_,w0,?_⟩
  conv=>whnf
  refine⟨[],_,ws,?_⟩
  conv=>whnf
  refine⟨[],_,c19,?_⟩
  conv=>whnf
  refine⟨[.gst JT],_,c14,?_⟩
  conv=>whnf
  refine⟨[],_,ws,?_⟩
  conv=>whnf
  refine⟨[],_,c19,?_⟩
  conv=>whnf
  refine⟨[.gst JT],_,c15,?_⟩
  conv=>whnf
  refine⟨[],_,w1,?_⟩
  conv=>whnf
  refine⟨[],_,d1,?_⟩
  conv=>whnf
  refine⟨[],_,d2,?_⟩
  conv=>whnf
  refine⟨[.gst JT],_,d4,?_⟩
  conv=>whnf
  refine⟨[.gst JT],_,a1,?_⟩
  conv=>whnf
  refine⟨[],_,w0,?_⟩
  conv=>whnf
  refine⟨[],_,w1,?_⟩
  conv=>whnf
  refine⟨[],_,d3,?_⟩
  conv=>whnf
  refine⟨[],_,w0,?_⟩
  conv=>whnf
  refine⟨[],_,w0,?_⟩
  conv=>whnf
  refine⟨[],_,w1,?_⟩
  conv=>whnf
  refine⟨[],_,ws,?_⟩
  conv=>whnf
  refine⟨[.gst JT],_,d5,?_⟩
  conv=>whnf
  refine⟨[.gst JT],_,d6,?_⟩
  conv=>whnf
  refine⟨[.gst JT],_,d7,?_⟩
  conv=>whnf
  refine⟨[.gst JT],_,a2,?_⟩
  conv=>whnf
  refine⟨[],_,w0,?_⟩
  conv=>whnf
  refine⟨[],_,ws,?_⟩
  conv=>whnf
  refine⟨[.gst JT],_,d8,?_⟩
  conv=>whnf
  refine⟨[],_,w0,?_⟩
  conv=>whnf
  refine⟨[],_,w0,?_⟩
  conv=>whnf
  refine⟨[],_,ws,?_⟩
  conv=>whnf
  refine⟨[],_,e1,?_⟩
  conv=>whnf
  refine⟨[],_,e2,?_⟩
  conv=>whnf
  exact⟨lr rfl,wv⟩
end Go.Proofs.YtgehdbenidimlaaGreatDoor

namespace Go.Proofs.YtgehdbenidimlaaGreatDoor
open Go Go.Sx
set_option maxRecDepth 100000
set_option maxHeartbeats 8000000
set_option linter.unusedVariables false
theorem n5 {x y z σ P:Int} (hx: -128≤x∧x≤127) (hy: -128≤y∧y≤127) (hz: -128≤z∧z≤127) (hP:0≤P∧P≤255) (hs: -128≤σ∧σ≤127):
 Fn 5 G0 [.int .i8 x,.int .i8 y,.int .i8 z,.int .i8 σ,.int .u8 P] (.bool true) G0:=by
 by_cases h: -31≤σ∧σ≤31
 ·refine qy (code:=bodyP) hTM hmx Tryz.func5 rfl rfl (ex:= []) ?_
  conv=>whnf
  refine jb hTM hmx 3 (fun _:Unit=>⟨[.any,.any,.any,.any,.int .u8 P,.any,.any,.any,.any,.any,.bool false,.int .i64 x,.int .i64 y,.int .i64 z,.int .i64 σ]++jt 197,G0⟩) (fun _=>by kernel_rfl) ?_ (fun _=>n5t hx hy hz h hP)
  conv=>whnf
  refine⟨[.gst JT],_,n8,?_⟩
  conv=>whnf
  refine brI (fun c=>?_) (fun c=>?_)
  ·have c:=of_decide_eq_true c;omega
  conv=>whnf
  refine brI (fun c2=>?_) (fun c2=>?_)
  ·have c2:=of_decide_eq_true c2;omega
  conv=>whnf
  refine⟨(),?_⟩
  ((conv=>whnf);refine And.intro ?_ ?_;repeat' first|refine lc ?_ ?_|exact la0|exact lr rfl|exact ln0|refine lh1 ?_ ?_|exact lh0|exact bf0|exact bd0|refine bc0 ?_|exact bm0 rfl|exact bb0 rfl|exact bg0 rfl|exact li0 rfl|refine lg0 ?_|refine lt0 ?_|fail)
  ·exact ai0 (wI (by omega))
  ·exact ai0 (wI (by omega))
  ·exact ai0 (wI (by omega))
  ·exact ai0 (wI (by omega))
 ·refine fnT hTM hmx Tryz.func5 rfl rfl (ex:= []) ?_
  conv=>whnf
  refine⟨[.gst JT],_,n8,?_⟩
  conv=>whnf
  refine brI (fun c=>?_) (fun c=>?_)
  ·conv=>whnf
   refine⟨[.gst JT],_,n8,?_⟩
   conv=>whnf
   exact⟨lr rfl,wv⟩
  have c:=of_decide_eq_false c
  conv=>whnf
  refine brI (fun c2=>?_) (fun c2=>?_)
  ·conv=>whnf
   refine⟨[.gst JT],_,n8,?_⟩
   conv=>whnf
   exact⟨lr rfl,wv⟩
  have c2:=of_decide_eq_false c2
  omega
end Go.Proofs.YtgehdbenidimlaaGreatDoor
