/-
  matexp.both contains the exponential function and its integral.
-/
import Derived.Test.YtbolipecnhlnnaaGreatDoorQNe
import Derived.Test.YtbolipecnhlnnaaGreatDoorQMa
import Derived.Test.YtbolipecnhlnnaaGreatDoorQNg
import Derived.Test.YtbolipecnhlnnaaGreatDoorQRa
set_option linter.unusedVariables false
set_option linter.unusedSimpArgs false
open List renaming getElem?_eq_some_iff->q3,getElem?_of_mem->q4,any_eq_true->q6
open Rat renaming natCast_le_natCast->q5,intCast_natCast->q7,mul_one->q9,mul_assoc->qA,le_refl->qB
namespace Go.Proofs.YtbolipecnhlnnaaGreatDoor
open Go Go.Sx
set_option maxHeartbeats 2000000
theorem nQ_ex (k:Nat) (A:Nat->Nat->Rat): ∃U,nQ k A U:=
 ⟨sQ (fun i=>sQ (fun r=>qd (A i r)) k) k,fun i hi=>zvy (f:=fun i=>sQ (fun r=>qd (A i r)) k) (fun _ _=>zsb fun _ _=>zx _) i hi⟩
section
variable {k i j:Nat} {m:Mx} (vm:VM (k+1) (k+1) m) (hi:i<=k) (hj:j<=k) {p:Int} (hp:pcB p=true)
include vm hi hj hp
theorem zjb {K:Nat} (hK:1<=K/\K<=100000) {s:MSt} (h1:VM (k+1) (k+1) s.term) (h2:VM (k+1) (k+1) s.exp) (h3:VM (k+1) (k+1) s.phi):
 (VM (k+1) (k+1) (zd8 m p K s).term /\VM (k+1) (k+1) (zd8 m p K s).exp /\VM (k+1) (k+1) (zd8 m p K s).phi)/\((atM s.exp i j).all =true->(atM (zd8 m p K s).exp i j).all =true)/\((atM (muM s.term m p).1 i j).all =true->(atM (zd8 m p K s).exp i j).all =true):=by
 have hb:=zfe (k:=K) hK.1 (by omega) hp;have hb2:=zfe (k:=K+1) (by omega) (by omega) hp;have hm:=(zhv h1 vm hp).2;have ht:=zar hm hb hp;have hE:=(zeu h2 ht hp).2;have hF:=(zeu h3 (zar ht hb2 hp) hp).2;have e:atM (zd8 m p K s).exp i j=yo (atM s.exp i j) (atM (scM (muM s.term m p).1 (byI K p) p) i j) p:=zuy h2 ht hp (by omega) (by omega);have e2:atM (scM (muM s.term m p).1 (byI K p) p) i j=jh (byI K p) (atM (muM s.term m p).1 i j) p:=zxp hm hb hp (by omega) (by omega);have v1:=yn h2 (i:=i) (j:=j) (by omega) (by omega);have v2:=yn ht (i:=i) (j:=j) (by omega) (by omega);have v3:=yn hm (i:=i) (j:=j) (by omega) (by omega);exact⟨⟨ht,hE,hF⟩,fun h=>by rw[e];exact zhn v1 v2 (.inl h),fun h=>by rw[e];exact zhn v1 v2 (.inr (by
  show(atM (scM (muM s.term m p).1 (byI K p) p) i j).all =true;rw[e2];exact zne hb v3 (.inr h)))⟩
theorem zr4 {u:Iv}: ∀(f K:Nat) (s:MSt) (r:Iv),1<=K->K+f<=10000->VM (k+1) (k+1) s.term->VM (k+1) (k+1) s.exp->VM (k+1) (k+1) s.phi->(atM s.exp i j).all =true->(atM (xm m u p f K s r).1.exp i j).all =true
 |0,_,_,_,_,_,_,_,_,h=>h
 |f+1,K,s,r,h1,h2,h3,h4,h5,h=>by
  obtain⟨⟨a1,a2,a3⟩,a4,_⟩:=zjb vm hi hj hp (K:=K) ⟨h1,by omega⟩ h3 h4 h5;unfold xm;split
  ·exact a4 h
  ·exact zr4 f (K+1) _ _ (by omega) (by omega) a1 a2 a3 (a4 h)
theorem qab {hI:Iv} (h:(atM m i j).all =true):(atM (zmt m hI p).exp i j).all =true:=by
 have hid:VM (k+1) (k+1) (idM m.length):=by rw[vm.len];exact ztm vm.n1
 have hui:VI (zj (nmM m p).1):= .inl (zhq (zju (a:=m) (p:=p) vm.el).1);obtain⟨⟨a1,a2,a3⟩,_,a5⟩:=zjb vm hi hj hp (K:=1) ⟨Nat.le_refl _,by omega⟩ (s:=⟨idM m.length,idM m.length,idM m.length⟩) hid hid hid;have hmu:(atM (muM (idM m.length) m p).1 i j).all =true:=by
  rw[zuv hid vm hp (by omega) (by omega)];exact zt8 hp k i (fun r hr=>yn hid (by omega) (by omega)) (fun r hr=>yn vm (by omega) (by omega)) hi (.inr h)
 have key: ∀(f:Nat) (r:Iv),f<=9000->(atM (xm m (zj (nmM m p).1) p (f+1) 1 ⟨idM m.length,idM m.length,idM m.length⟩ r).1.exp i j).all =true/\VM (k+1) (k+1) (xm m (zj (nmM m p).1) p (f+1) 1 ⟨idM m.length,idM m.length,idM m.length⟩ r).1.exp :=by
  intro f r hf;unfold xm;split
  ·exact⟨a5 hmu,a2⟩
  ·refine⟨zr4 vm hi hj hp f 2 _ _ (by omega) (by omega) a1 a2 a3 (a5 hmu),?_⟩;have: ∀(f K:Nat) (s:MSt) (r:Iv),1<=K->K+f<=10000->VM (k+1) (k+1) s.term->VM (k+1) (k+1) s.exp->VM (k+1) (k+1) s.phi->VM (k+1) (k+1) (xm m (zj (nmM m p).1) p f K s r).1.exp :=by
    intro f
    induction f with
    |zero=>exact fun _ _ _ _ _ _ h4 _=>h4
    |succ f ih=>
     intro K s r h1 h2 h3 h4 h5;obtain⟨⟨b1,b2,b3⟩,_⟩:=zjb vm hi hj hp (K:=K) ⟨h1,by omega⟩ h3 h4 h5;unfold xm;split
     ·exact b2
     ·exact ih (K+1) _ _ (by omega) (by omega) b1 b2 b3
   exact this f 2 _ _ (by omega) (by omega) a1 a2 a3
 obtain⟨q1,q2⟩:=key 699 (whI 1) (by omega);have hr:VI (xm m (zj (nmM m p).1) p 700 1 ⟨idM m.length,idM m.length,idM m.length⟩ (whI 1)).2:=by
  have: ∀(f K:Nat) (s:MSt) (r:Iv),1<=K->K+f<=10000->VI r->VI (xm m (zj (nmM m p).1) p f K s r).2:=by
   intro f
   induction f with
   |zero=>exact fun _ _ _ _ _ h=>h
   |succ f ih=>
    intro K s r h1 h2 h3;have hb:=zfe (k:=K) h1 (by omega) hp;have hr:=wq (wq h3 hui hp) hb hp;unfold xm;split
    ·exact hr
    ·exact ih (K+1) _ _ (by omega) (by omega) hr
  exact this 700 1 _ _ (by omega) (by omega) (zao (by decide))
 show(atM (arM (xm m (zj (nmM m p).1) p 700 1 ⟨idM m.length,idM m.length,idM m.length⟩ (whI 1)).1.exp _ p) i j).all =true;rw[qco q2 (by omega) (by omega)];exact zhn (yn q2 (by omega) (by omega)) (zj3 (zk9 hr).ri hr.ri) (.inl q1)
end
theorem zpu {k i j:Nat} (hi:i<=k) (hj:j<=k) {q:Int} (hq:pcB q=true): ∀(s:Nat) (x:MPr),VM (k+1) (k+1) x.exp->VM (k+1) (k+1) x.phi->(atM x.exp i j).all =true->(atM (znz q s x).exp i j).all =true/\VM (k+1) (k+1) (znz q s x).exp
 |0,_,h1,_,h=>⟨h,h1⟩
 |s+1,x,h1,h2,h=>by
  obtain⟨d1,d2⟩:=zud h1 h2 hq;refine zpu hi hj hq s (zqu q x) d1 d2 ?_;show(atM (muM x.exp x.exp q).1 i j).all =true;rw[zuv h1 h1 hq (by omega) (by omega)];exact zt8 hq k i (fun r hr=>yn h1 (by omega) (by omega)) (fun r hr=>yn h1 (by omega) (by omega)) hi (.inr h)
theorem qfd {k i j:Nat} {m:Mx} (vm:VM (k+1) (k+1) m) (hi:i<=k) (hj:j<=k) {p:Int} (h:(atM m i j).all =true):knM (rdM m p)=false:=by
 have v:=zm3 vm p;obtain⟨r,_,hm,_,hx⟩:=zuw v (i:=i) (j:=j) (by omega) (by omega);have e:(atM (rdM m p) i j).all =true:=by
  rw[qcn vm (by omega) (by omega)];unfold wj;rw[if_neg fun c=>by
   have:=((zy (yn vm (i:=i) (j:=j) (by omega) (by omega)).ri).1 c.1).all;rw[h]at this;cases this]
  rfl
 unfold knM;have:((rdM m p).any fun r=>r.any fun x=>x.all)=true:=by
  rw[q6];refine⟨r,hm,?_⟩;rw[q6];exact⟨_,List.mem_of_getElem? hx,e⟩
 rw[this];rfl
theorem qgl {k:Nat} (hk:k+1<=3) {A:Nat->Nat->Rat} {a:Mx} (ha:inM (k+1) (k+1) A a) {t:Iv} (kt:KI t) {τ:Rat} (hτ:inI τ t) {p:Int} (hp:pcB p=true) {y:MPr} (h:zkh a t p=some y):
 liM k (xQ k A τ) y.exp/\liM k (yQ k A τ) y.phi:=by
 have hp2:8<=p/\p<=512:=by
  obtain⟨q,rfl,hq⟩:=jz.1 hp;omega
 have hq:pcB (min (p+40) 512)=true:=by unfold pcB;simp;omega
 generalize hqq:min (p+40) 512=q at*;obtain⟨N,b,hN⟩: ∃N b,nmM (scM a t q) q=(N,b):=⟨_,_,rfl⟩;have hN':nmM (scM a t (min (p+40) 512)) (min (p+40) 512)=(N,b):=by rw[hqq];exact hN
 rw[zkg hN']at h;split at h
 ·cases h
 rename_i hc;have hb:b=true:=by cases b;exact absurd (.inl rfl) hc;rfl
 subst hb;rw[hqq]at h;have hs0:((hvS N).toNat :Int)=hvS N:=by unfold hvS;omega
 have hbd:=znt ha.v kt hq hN;rw[←hs0]at hbd;generalize (hvS N).toNat =s at*;have vh:=zb0 (.inl kt:VI t) (-(s:Int));have vsc:=zar ha.v vh hq;obtain⟨v1,v2⟩:=zro vsc vh hq;have hel: ∀r∈scM a (zq t (-(s:Int))) q,∀x∈r,bI (pw (-1)) x:=fun r hr x hx=>by
  unfold scM at hr;rw[if_pos (by rw[ha.v.ok,(je vh.ri).2 vh,hq];rfl)]at hr;obtain⟨i,r0,_,hr0,rfl⟩:=wz hr;obtain⟨j,x0,_,hx0,rfl⟩:=wz hx;exact hbd r0 hr0 x0 hx0
 have hin:=zon (.inl kt:VI t) (j:= -(s:Int)) hτ;unfold qce at h;simp only at h;split at h
 ·rename_i hkn;cases h
  have hknown: ∀r∈scM a (zq t (-(s:Int))) q,∀x∈r,kI (pw (-1)) x:=fun r hr x hx=>by
   refine ztj (hel r hr x hx) ?_
   cases hxa:x.all with
   |false=>rfl
   |true=>
    obtain⟨i,hi⟩:=q4 hr;obtain⟨j,hj⟩:=q4 hx;have hil:=(q3.1 hi).1;have hjl:=(q3.1 hj).1;rw[vsc.len]at hil;rw[vsc.row r hr]at hjl;have e:=qab vsc (i:=i) (j:=j) (by omega) (by omega) hq (hI:=zq t (-(s:Int))) (by rw[zes hi hj];exact hxa);obtain⟨e2,e3⟩:=zpu (i:=i) (j:=j) (by omega) (by omega) hq s _ v1 v2 e;have e4:=qfd e3 (i:=i) (j:=j) (by omega) (by omega) (p:=p) e2;rw[e4]at hkn;simp at hkn
  obtain⟨D,hD⟩:=qen vsc hknown hq;have hDle:dv D*2<=3:=by
   have h1:nmG q (scM a (zq t (-(s:Int))) q) d0=some D:=by
    unfold nmM at hD;rw[if_pos (by rw[vsc.ok,hq];rfl)]at hD;split at hD
    ·rename_i d hd;cases hD;exact hd
    ·cases hD
   have h2:=zwe hq (k:=k+1) (by omega) _ d0 D (fun r hr=>⟨vsc.row r hr,hel r hr⟩) (by rw[ym];exact zc4 _ _) h1;have h3:vN (k+1) (-1)<=vN 3 (-1):=yu.2 hk;have h4:vN 3 (-1)*2=3:=by
    unfold vN;have:pw (-1)*2=1:=by
     have e1:(2:Rat)=pw 1:=by rw[show(1:Int)=((1:Nat):Int)from rfl,wp];rfl
     rw[e1,←pwA];rw[show(-1+1:Int)=((0:Nat):Int)from rfl,wp];rfl
    have e3:((3:Nat):Rat)=3:=rfl;rw[e3,qA,this,q9]
   grind
  obtain⟨K,hK⟩:=qd4 ha vh hin hq hD hDle;obtain⟨U,hU⟩:=nQ_ex k A;obtain⟨l1,l2⟩:=zue hU hq s _ _ (zyy v1 fun N hN=>(hK N hN).1) (zyy v2 fun N hN=>(hK N hN).2);have e:τ*pw (-(s:Int))*pw (s:Int)=τ:=by
   rw[qA,←pwA,show(-(s:Int)+s)=((0:Nat):Int) by omega,wp];simp
  rw[e]at l1 l2;exact⟨zyx l1 p,zyx l2 p⟩
 ·cases h
set_option maxRecDepth 100000
structure kM (k:Nat) (B:Int) (m:Mx):Prop where
 v:VM (k+1) (k+1) m
 e: ∀i j,i<k+1->j<k+1->kI (pw B) (atM m i j)
theorem kM.mono {k:Nat} {B C:Int} {m:Mx} (h:kM k B m) (hb:B<=C):kM k C m:=⟨h.v,fun i j hi hj=>(h.e i j hi hj).mono (xx.2 hb)⟩
theorem zou (a:Int):pw a+pw a=pw (a+1):=by
 rw[pwA];have:pw 1=2:=by rw[show(1:Int)=((1:Nat):Int)from rfl,wp];rfl
 rw[this];grind
theorem kI_w {n:Int} (h: -4611686018427387904<=n/\n<=4611686018427387904) {b:Rat} (h1: -b<=(n:Rat)) (h2:(n:Rat)<=b):kI b (whI n):=by
 have k:=zbf h;have e:dv (whI n).lo =(n:Rat):=kv n;have e':dv (whI n).hi =(n:Rat):=kv n;exact⟨k,by rw[e];exact h1,by rw[e'];exact h2⟩
theorem zv7:pw 0=1:=by rw[show(0:Int)=((0:Nat):Int)from rfl,wp];rfl
theorem kI_1:kI (pw 0) (whI 1):=kI_w (by decide) (by rw[zv7];decide) (by rw[zv7];decide)
theorem qbk {k:Nat} (hk:k<=2):kM k 0 (idM (k+1)):=by
 refine⟨ztm (by omega),fun i j hi hj=>?_⟩;rw[qgt (by omega) hi hj];split
 ·exact kI_1
 ·exact kI_w (by decide) (by rw[zv7];decide) (by rw[zv7];decide)
theorem zth {k:Nat} {B C:Int} {a:Mx} (h:kM k B a) {x:Iv} (hx:kI (pw C) x) {p:Int} (hp:pcB p=true) (hb: -16000<=C+B/\C+B<=16000):kM k (C+B) (scM a x p):=by
 refine⟨zar h.v (.inl hx.k) hp,fun i j hi hj=>?_⟩;rw[zxp h.v (.inl hx.k) hp hi hj,pwA];exact zgr hx (h.e i j hi hj) hp (by rw[←pwA];exact pwF (by omega) (by omega))
theorem kM_ad {k:Nat} {B:Int} {a b:Mx} (ha:kM k B a) (hb:kM k B b) {p:Int} (hp:pcB p=true) (h: -16000<=B/\B<=16000):kM k (B+1) (adM a b p).1:=by
 refine⟨(zeu ha.v hb.v hp).2,fun i j hi hj=>?_⟩;rw[zuy ha.v hb.v hp hi hj];exact zpc (ha.e i j hi hj) (hb.e i j hi hj) (by rw[zou];exact qB) hp (pwF (by omega) (by omega))
theorem qfj {p:Int} (hp:pcB p=true) {f g:Nat->Iv} {E:Int}: ∀k:Nat,k<=2->(∀r,r<=k->kI (pw E) (jh (f r) (g r) p))-> -16000<=E->E<=16000->kI (pw (E+k)) (dtF p f g k)
 |0,_,h,_,_=>by
  have:=h 0 (Nat.le_refl _);rw[show E+((0:Nat):Int)=E by omega];exact this
 |k+1,hk,h,h1,h2=>by
  have ih:=qfj hp k (by omega) (fun r hr=>h r (by omega)) h1 h2;refine zpc ih (h (k+1) (Nat.le_refl _)) ?_ hp (pwF (by omega) (by omega));have h3:pw E<=pw (E+k):=xx.2 (by omega);have h4:=zou (E+k);rw[show E+(k:Int)+1=E+((k+1:Nat):Int) by omega]at h4;grind
theorem zw0 {k:Nat} (hk:k<=2) {B C:Int} {a b:Mx} (ha:kM k B a) (hb:kM k C b) {p:Int} (hp:pcB p=true) (h: -16000<=B+C/\B+C<=16000):kM k (B+C+2) (muM a b p).1:=by
 refine⟨(zhv ha.v hb.v hp).2,fun i j hi hj=>?_⟩;rw[zuv ha.v hb.v hp hi hj];refine(qfj hp (E:=B+C) k hk (fun r hr=>?_) (by omega) (by omega)).mono (xx.2 (by omega));rw[pwA];exact zgr (ha.e i r hi (by omega)) (hb.e r j (by omega) hj) hp (by rw[←pwA];exact pwF (by omega) (by omega))
theorem zw2 {k:Nat} (h:1<=k) (h2:k<=1000000) {p:Int} (hp:pcB p=true):kI (pw 0) (byI k p)/\(2<=k->kI (pw (-1)) (byI k p)):=by
 have hn:(0:Rat)<((k:Int):Rat):=by rw[q7];exact Rat.natCast_pos.2 h
 have hi:=Rat.mul_inv_cancel ((k:Int):Rat) (by grind);have hi0:(0:Rat)<((k:Int):Rat)⁻¹ :=Rat.inv_pos.2 hn;have key: ∀(c:Nat) (e:Int),c<=k->(c:Rat)*pw e=1-> -100<=e->e<=100->kI (pw e) (byI k p):=fun c e hc hce h3 h4=>by
  have h5:(c:Rat)<=((k:Int):Rat):=by rw[q7];exact q5.2 hc
  have h6:((k:Int):Rat)⁻¹ <=pw e:=by
   have h7:=Rat.mul_le_mul_of_nonneg_right h5 (Rat.le_of_lt (Rat.mul_pos hi0 (zbi e)));have e1:(c:Rat)*(((k:Int):Rat)⁻¹ *pw e)=((k:Int):Rat)⁻¹ *((c:Rat)*pw e):=by grind
   have e2:((k:Int):Rat)*(((k:Int):Rat)⁻¹ *pw e)=(((k:Int):Rat)*((k:Int):Rat)⁻¹)*pw e:=by grind
   rw[e1,hce,e2,hi]at h7;grind
  have:=qbn kI_1 (n:=(k:Int)) (by omega) (by omega) h6 hp (by rw[←pwA];exact pwF (by omega) (by omega));rw[←pwA,Int.zero_add]at this;exact this
 refine⟨key 1 0 h (by rw[zv7];exact q9 _) (by decide) (by decide),fun h3=>key 2 (-1) h3 ?_ (by decide) (by decide)⟩;have:=zou (-1);rw[show(-1+1:Int)=0 from rfl,zv7]at this;have e:((2:Nat):Rat)=2:=rfl;rw[e];grind
theorem qfm {p:Nat} (hp:11<=p) {c:Nat} (hc:c<=2000):inF p (c:Rat):=by
 refine⟨c,0,by unfold vN;rw[zv7,q9],Nat.le_trans hc (Nat.le_trans (by decide:2000<=2^11) (Nat.pow_le_pow_right (by decide) hp)),by decide,?_⟩;have h1:(c:Rat)<=pw 11:=by
  rw[show(11:Int)=((11:Nat):Int)from rfl,wp];exact q5.2 (by omega)
 exact zm1 h1 (zso (by decide))
structure kN (k c:Nat) (m:Mx):Prop where
 v:VM (k+1) (k+1) m
 e: ∀i j,i<k+1->j<k+1->kI (c:Rat) (atM m i j)
theorem zwz {k c:Nat} {a b:Mx} (ha:kN k c a) (hb:kM k 1 b) {p:Int} (hp:pcB p=true) (hp2:11<=p) (h:c+2<=2000):kN k (c+2) (adM a b p).1:=by
 refine⟨(zeu ha.v hb.v hp).2,fun i j hi hj=>?_⟩;rw[zuy ha.v hb.v hp hi hj];refine zpc (ha.e i j hi hj) (hb.e i j hi hj) ?_ hp (qfm (by omega) h);have e1:pw 1=2:=by rw[show(1:Int)=((1:Nat):Int)from rfl,wp];rfl
 have e2:((c+2:Nat):Rat)=(c:Rat)+2:=Rat.natCast_add c 2;rw[e1,e2];exact qB
structure kS (k K:Nat) (s:MSt) (r:Iv):Prop where
 t:kM k 1 s.term
 e:kN k (2*K+1) s.exp
 f:kN k (2*K+1) s.phi
 r:kI (pw 1) r
theorem qbj {k:Nat} (hk:k<=2) {m:Mx} (hm:kM k (-1) m) {u:Iv} (hu:kI (pw 1) u) {p:Int} (hp:pcB p=true) (hp2:11<=p) {K:Nat} (hK:1<=K/\K<=800) {s:MSt} {r:Iv} (h:kS k K s r):kS k (K+1) (zd8 m p (K+1) s) (zvb u p (K+1) r):=by
 have b1:=(zw2 (k:=K+1) (by omega) (by omega) hp).2 (by omega);have b2:=(zw2 (k:=K+2) (by omega) (by omega) hp).1;have ht:kM k 1 (zd8 m p (K+1) s).term :=zth (zw0 hk h.t hm hp (by omega)) b1 hp (by omega);have ht2:kM k 1 (scM (zd8 m p (K+1) s).term (byI (K+1+1) p) p):=zth ht b2 hp (by omega);refine⟨ht,zwz h.e ht hp hp2 (by omega),zwz h.f ht2 hp hp2 (by omega),?_⟩;have h1:=zgr h.r hu hp (by rw[←pwA];exact pwF (by decide) (by decide));rw[←pwA]at h1;have h2:=zgr h1 b1 hp (by rw[←pwA];exact pwF (by decide) (by decide));rw[←pwA]at h2;exact h2
theorem qff {k:Nat} (hk:k<=2) {m:Mx} (hm:kM k (-1) m) {u:Iv} (hu:kI (pw 1) u) {p:Int} (hp:pcB p=true) (hp2:11<=p):kS k 1 (zd8 m p 1 ⟨idM (k+1),idM (k+1),idM (k+1)⟩) (zvb u p 1 (whI 1)):=by
 have b1:=(zw2 (k:=1) (by omega) (by omega) hp).1;have b2:=(zw2 (k:=2) (by omega) (by omega) hp).1;have i1:kN k 1 (idM (k+1)):=⟨(qbk hk).v,fun i j hi hj=>by have:=(qbk hk).e i j hi hj;rw[zv7]at this;exact this⟩;have ht:kM k 1 (zd8 m p 1 ⟨idM (k+1),idM (k+1),idM (k+1)⟩).term :=zth (zw0 hk (qbk hk) hm hp (by omega)) b1 hp (by omega);have ht2:kM k 1 (scM (zd8 m p 1 ⟨idM (k+1),idM (k+1),idM (k+1)⟩).term (byI 2 p) p):=zth ht b2 hp (by omega);refine⟨ht,zwz i1 ht hp hp2 (by omega),zwz i1 ht2 hp hp2 (by omega),?_⟩;have h1:=zgr kI_1 hu hp (by rw[←pwA];exact pwF (by decide) (by decide));rw[←pwA]at h1;have h2:=zgr h1 b1 hp (by rw[←pwA];exact pwF (by decide) (by decide));rw[←pwA]at h2;exact h2
theorem zy2 {k:Nat} (hk:k<=2) {m:Mx} (hm:kM k (-1) m) {u:Iv} (hu:kI (pw 1) u) {p:Int} (hp:pcB p=true) (hp2:11<=p): ∀(f K:Nat) (s:MSt) (r:Iv),1<=K->K+f<=750->kS k K s r-> ∃K',K'<=750/\kS k K' (xm m u p f (K+1) s r).1 (xm m u p f (K+1) s r).2
 |0,K,s,r,_,h2,h=>⟨K,by omega,h⟩
 |f+1,K,s,r,h1,h2,h=>by
  have hs:=qbj hk hm hu hp hp2 ⟨h1,by omega⟩ h;unfold xm;split
  ·exact⟨K+1,by omega,hs⟩
  ·exact zy2 hk hm hu hp hp2 f (K+1) _ _ (by omega) (by omega) hs
theorem qbm {b:Rat} {e:Iv} (h:kI b e):kI b (za9 (zd9 e) e):=by
 have k:=h.k;have hn:KI (zd9 e):=by
  have:=zk9 (.inl k);rw[zic k]at this⊢;exact(yt this).1 rfl
 have h1:=h.lo;have h2:=h.hi;have h3:=k.dle;unfold za9;rw[if_pos ((zdq hn.ri k.ri).2 ⟨hn,k⟩)];refine⟨zto hn k,?_,?_⟩
 ·show-b<=dv (xf (zd9 e).lo e.lo);rw[zic k];obtain⟨_,_,c|c⟩:=zgn (uy e.hi) e.lo<;>rw[c]
  ·rw[zck];grind
  ·exact h1
 ·show dv (yj (zd9 e).hi e.hi)<=b;rw[zic k];obtain⟨_,_,c|c⟩:=zbk (uy e.lo) e.hi<;>rw[c]
  ·rw[zck];grind
  ·exact h2
theorem qfi {k K:Nat} (hK:K<=750) {x:Mx} (h:kN k (2*K+1) x) {r:Iv} (hr:kI (pw 1) r) {p:Int} (hp:pcB p=true):kM k 12 (arM x r p):=by
 refine⟨zuz h.v (.inl hr.k) hp,fun i j hi hj=>?_⟩;rw[qco h.v hi hj];refine zpc (h.e i j hi hj) (qbm hr) ?_ hp (pwF (by decide) (by decide));have h1:((2*K+1:Nat):Rat)<=pw 11:=by
  rw[show(11:Int)=((11:Nat):Int)from rfl,wp];exact q5.2 (by omega)
 have h2:pw 1<=pw 11:=xx.2 (by decide);have h3:=zou 11;rw[show(11+1:Int)=12 from rfl]at h3;grind
theorem qfg {k:Nat} (hk:k<=2) {m:Mx} (hm:kM k (-1) m) {H:Int} (hH:0<=H/\H<=100) {h:Iv} (hh:kI (pw H) h) {p:Int} (hp:pcB p=true) (hp2:11<=p) (hu:kI (pw 1) (zj (nmM m p).1)):kM k (H+12) (zmt m h p).exp /\kM k (H+12) (zmt m h p).phi :=by
 have key: ∃K',K'<=750/\kS k K' (xm m (zj (nmM m p).1) p 700 1 ⟨idM m.length,idM m.length,idM m.length⟩ (whI 1)).1 (xm m (zj (nmM m p).1) p 700 1 ⟨idM m.length,idM m.length,idM m.length⟩ (whI 1)).2:=by
  rw[hm.v.len];have h1:=qff hk hm hu hp hp2;unfold xm;split
  ·exact⟨1,by omega,h1⟩
  ·exact zy2 hk hm hu hp hp2 699 1 _ _ (by omega) (by omega) h1
 obtain⟨K,hK,hs⟩:=key;exact⟨(qfi hK hs.e hs.r hp).mono (by omega),zth (qfi hK hs.f hs.r hp) hh hp (by omega)⟩
theorem qfh {k:Nat} (hk:k<=2) {B:Int} (hB:0<=B/\2*B<=15000) {x:MPr} (h1:kM k B x.exp) (h2:kM k B x.phi) {q:Int} (hq:pcB q=true):kM k (2*B+3) (zqu q x).exp /\kM k (2*B+3) (zqu q x).phi :=by
 have m1:=zw0 hk h1 h1 hq (by omega);have m2:=zw0 hk h1 h2 hq (by omega);refine⟨m1.mono (by omega),?_⟩;have:=kM_ad (h2.mono (show B<=B+B+2 by omega)) m2 hq (by omega);exact this.mono (by omega)
theorem zti {k:Nat} (hk:k<=2) {q:Int} (hq:pcB q=true): ∀(s:Nat) (B:Int) (x:MPr),0<=B->(B+3)*2^s<=15000->kM k B x.exp->kM k B x.phi-> ∃C:Int,(0<=C/\C<=15000)/\kM k C (znz q s x).exp /\kM k C (znz q s x).phi
 |0,B,x,h0,hB,h1,h2=>⟨B,⟨h0,by simp at hB;omega⟩,h1,h2⟩
 |s+1,B,x,h0,hB,h1,h2=>by
  have e:(B+3)*2^(s+1)=(2*B+3+3)*2^s:=by rw[Int.pow_succ];grind
  have hp0:(0:Int)<2^s:=Int.pow_pos (by decide);have hp:(1:Int)<=2^s:=by omega
  have hb:2*B+6<=15000:=by
   rw[e]at hB;have:(2*B+3+3)*1<=(2*B+3+3)*2^s:=Int.mul_le_mul_of_nonneg_left hp (by omega);omega
  obtain⟨d1,d2⟩:=qfh hk ⟨h0,by omega⟩ h1 h2 hq;exact zti hk hq s (2*B+3) _ (by omega) (by rw[←e];exact hB) d1 d2
theorem qfc {k:Nat} {C:Int} (hC: -16000<=C/\C<=16000) {m:Mx} (h:kM k C m) {p:Int} (hp:pcB p=true):knM (rdM m p)=true:=by
 have v:=zm3 h.v p;unfold knM;have:((rdM m p).any fun r=>r.any fun x=>x.all)=false:=by
  rw[List.any_eq_false];intro r hr;rw[q6];rintro⟨x,hx,hxa⟩;obtain⟨i,hi⟩:=q4 hr;obtain⟨j,hj⟩:=q4 hx;have hil:=(q3.1 hi).1;have hjl:=(q3.1 hj).1;rw[v.len]at hil;rw[v.row r hr]at hjl;have e:=qcn h.v (p:=p) hil hjl;rw[zes hi hj]at e;have:=(zw1 (h.e i j hil hjl) hp (pwF (by omega) (by omega))).k.all;rw[←e,hxa]at this;cases this
 rw[this,v.len];simp
set_option maxHeartbeats 4000000
theorem qdv {D:Dy} {e:Int} (h0:0<=dv D) (h1:dv D<=pw e) (he: -1<=e):zu D<=e+1:=by
 by_cases hn:nm D=0
 ·unfold zu;rw[if_pos hn];omega
 ·unfold zu;rw[if_neg hn];have h3:=jp (n:=nm D) (e:=D.e) (t:=(bl (nm D):Int)+D.e-1) (by omega) hn;have h4:vN (nm D) D.e<=pw e:=by
   have:=zc4 (nm D) D.e;have:=za8 e;unfold dv at h1 h0;split at h1
   ·rename_i c;rw[if_pos c]at h0;grind
   ·exact h1
  have:=xx.1 (Rat.le_trans h3 h4);omega
set_option maxHeartbeats 8000000
structure Mt (x y:Iv):Prop where
 vx:VI x
 vy:VI y
 m:x.all=false->y.all=false->dv x.lo<=dv y.hi/\dv y.lo<=dv x.hi
theorem zzm {x y:Iv} (hx:VI x) (hy:VI y) {s:Nat->Rat} (h1:lI s x) (h2:lI s y):Mt x y:=⟨hx,hy,fun a b=>⟨ztd h1 h2 a b,ztd h2 h1 b a⟩⟩
theorem qey (a b:Dy):zif a b=a\/zif a b=b:=by unfold zif;split<;>simp
theorem qe3 (a b:Dy):zwq a b=a\/zwq a b=b:=by unfold zwq;split<;>simp
theorem n54 {x y:Iv} (h:Mt x y): ∃z:Iv,Fn 22 [] [.agg (ivC x),.agg (ivC y)] (.tup [.agg (ivC z),.bool true]) []:=by
 obtain⟨hx,hy,hm⟩:=h;have c1:=qc0 x hx.ri;have c2:=qc0 y hy.ri;rw[(je hx.ri).2 hx]at c1;rw[(je hy.ri).2 hy]at c2;obtain⟨xl,xh,xa⟩:=x;obtain⟨yl,yh,ya⟩:=y
 cases xa with
 |true=>
  refine⟨⟨yl,yh,ya⟩,?_⟩;refine fnT hTM hmx Tryz.func22 rfl rfl (ex:= []) ?_;conv=>whnf
  refine gZn c1 ?_;conv=>whnf
  refine gZn c2 ?_;conv=>whnf
  exact⟨lr rfl,lh0⟩
 |false=>
 cases ya with
 |true=>
  refine⟨⟨xl,xh,false⟩,?_⟩;refine fnT hTM hmx Tryz.func22 rfl rfl (ex:= []) ?_;conv=>whnf
  refine gZn c1 ?_;conv=>whnf
  refine gZn c2 ?_;conv=>whnf
  exact⟨lr rfl,lh0⟩
 |false=>
 have kx:=(yt hx).1 rfl;have ky:=(yt hy).1 rfl;obtain⟨m1,m2⟩:=hm rfl rfl;have m1:dv xl<=dv yh:=m1;have m2:dv yl<=dv xh:=m2;have d1:dv xl<=dv xh:=kx.dle;have d2:dv yl<=dv yh:=ky.dle;have e1:Fn 75 [] [.agg (dyC xl),.agg (dyC yl)] (.agg (dyC (zif xl yl))) []:=r163 kx.lo ky.lo;have e2:Fn 76 [] [.agg (dyC xh),.agg (dyC yh)] (.agg (dyC (zwq xh yh))) []:=r162 kx.hi ky.hi;have hA:VD (zif xl yl)/\dv (zif xl yl)<=dv xh/\dv (zif xl yl)<=dv yh:=by
  rcases qey xl yl with e|e<;>rw[e]
  ·exact⟨kx.lo,d1,m1⟩
  ·exact⟨ky.lo,m2,d2⟩
 have hB:VD (zwq xh yh)/\dv (zif xl yl)<=dv (zwq xh yh):=by
  rcases qe3 xh yh with e|e<;>rw[e]
  ·exact⟨kx.hi,hA.2.1⟩
  ·exact⟨ky.hi,hA.2.2⟩
 have e3:=zv6 hA.1 hB.1;have hc:=kw.2 hB.2;generalize zif xl yl=A at*;generalize zwq xh yh=B at*;refine⟨⟨A,B,false⟩,?_⟩;refine fnT hTM hmx Tryz.func22 rfl rfl (ex:= []) ?_;conv=>whnf
 refine gZn c1 ?_;conv=>whnf
 refine gZn c2 ?_;conv=>whnf
 refine gZn e1 ?_;conv=>whnf
 refine gZn e2 ?_
 (refine⟨by kernel_rfl,by kernel_rfl,?_⟩;(conv=>whnf))
 refine gZn e3 ?_;conv=>whnf
 refine brI (fun c=>absurd (of_decide_eq_true c) (by omega)) (fun c=>?_);conv=>whnf
 exact⟨lr rfl,lh0⟩
section
variable (x y z:Rat)
end
theorem n19 (P:Int) (h:0<=P/\P<=255):Fn 12 [] [.int .u8 P] (.int .i64 (24+P % 41)) []:=by
 refine fnT hTM hmx Tryz.func12 rfl rfl (ex:= []) ?_;conv=>whnf
 refine⟨by decide,?_⟩;conv=>whnf
 refine⟨ai0 ?_,lh0⟩;rw[wI (x:=P) (by omega)];rw[Int.tmod_eq_emod_of_nonneg (by omega),wI (by omega)]
end Go.Proofs.YtbolipecnhlnnaaGreatDoor
