/- matexp.both contains the exponential function and its integral. -/
import Derived.Test.YtbolipecnhlnnaaGreatDoorTNe
import Derived.Test.YtbolipecnhlnnaaGreatDoorTNg
import Derived.Test.YtbolipecnhlnnaaGreatDoorTRa
set_option linter.unusedVariables false
set_option linter.unusedSimpArgs false
open List renaming getElem?_eq_some_iff->q0,getElem?_of_mem->q3,any_eq_true->q5
open Rat renaming natCast_le_natCast->q4,intCast_natCast->q6,mul_one->q7,mul_assoc->q8,le_refl->q9
namespace Go.Proofs.YtbolipecnhlnnaaGreatDoor
open Go Go.Sx
set_option maxHeartbeats 2000000
theorem nQ_ex (k:Nat) (A:Nat->Nat->Rat): ∃U,nQ k A U:=
 ⟨sQ (fun i=>sQ (fun r=>zk (A i r)) k) k,fun i hi=>qbe (f:=fun i=>sQ (fun r=>zk (A i r)) k) (fun _ _=>zsn fun _ _=>zz _) i hi⟩
section
variable {k i j:Nat} {m:Mx} (vm:VM (k+1) (k+1) m) (hi:i<=k) (hj:j<=k) {p:Int} (hp:pcB p=true)
include vm hi hj hp
theorem zjf {K:Nat} (hK:1<=K/\K<=100000) {s:MSt} (h1:VM (k+1) (k+1) s.term) (h2:VM (k+1) (k+1) s.exp) (h3:VM (k+1) (k+1) s.phi):
 (VM (k+1) (k+1) (zec m p K s).term /\VM (k+1) (k+1) (zec m p K s).exp /\VM (k+1) (k+1) (zec m p K s).phi)/\((atM s.exp i j).all =true->(atM (zec m p K s).exp i j).all =true)/\((atM (muM s.term m p).1 i j).all =true->(atM (zec m p K s).exp i j).all =true):=by
 have hb:=zfi (k:=K) hK.1 (by omega) hp;have hb2:=zfi (k:=K+1) (by omega) (by omega) hp;have hm:=(zh0 h1 vm hp).2;have ht:=za5 hm hb hp;have hE:=(zex h2 ht hp).2;have hF:=(zex h3 (za5 ht hb2 hp) hp).2;have e:atM (zec m p K s).exp i j=za3 (atM s.exp i j) (atM (scM (muM s.term m p).1 (byI K p) p) i j) p:=zva h2 ht hp (by omega) (by omega);have e2:atM (scM (muM s.term m p).1 (byI K p) p) i j=jr (byI K p) (atM (muM s.term m p).1 i j) p:=zx8 hm hb hp (by omega) (by omega);have v1:=xm h2 (i:=i) (j:=j) (by omega) (by omega);have v2:=xm ht (i:=i) (j:=j) (by omega) (by omega);have v3:=xm hm (i:=i) (j:=j) (by omega) (by omega);exact⟨⟨ht,hE,hF⟩,fun h=>by rw[e];exact zhu v1 v2 (.inl h),fun h=>by rw[e];exact zhu v1 v2 (.inr (by
  show(atM (scM (muM s.term m p).1 (byI K p) p) i j).all =true;rw[e2];exact znj hb v3 (.inr h)))⟩
theorem zsf {u:Iv}: ∀(f K:Nat) (s:MSt) (r:Iv),1<=K->K+f<=10000->VM (k+1) (k+1) s.term->VM (k+1) (k+1) s.exp->VM (k+1) (k+1) s.phi->(atM s.exp i j).all =true->(atM (xz m u p f K s r).1.exp i j).all =true
 |0,_,_,_,_,_,_,_,_,h=>h
 |f+1,K,s,r,h1,h2,h3,h4,h5,h=>by
  obtain⟨⟨a1,a2,a3⟩,a4,_⟩:=zjf vm hi hj hp (K:=K) ⟨h1,by omega⟩ h3 h4 h5;unfold xz;split
  .exact a4 h
  .exact zsf f (K+1) _ _ (by omega) (by omega) a1 a2 a3 (a4 h)
theorem qa3 {hI:Iv} (h:(atM m i j).all =true):(atM (zmy m hI p).exp i j).all =true:=by
 have hid:VM (k+1) (k+1) (idM m.length):=by rw[vm.len];exact zt4 vm.n1
 have hui:VI (zc (nmM m p).1):= .inl (zc2 (zjy (a:=m) (p:=p) vm.el).1);obtain⟨⟨a1,a2,a3⟩,_,a5⟩:=zjf vm hi hj hp (K:=1) ⟨Nat.le_refl _,by omega⟩ (s:=⟨idM m.length,idM m.length,idM m.length⟩) hid hid hid;have hmu:(atM (muM (idM m.length) m p).1 i j).all =true:=by
  rw[zu8 hid vm hp (by omega) (by omega)];exact zun hp k i (fun r hr=>xm hid (by omega) (by omega)) (fun r hr=>xm vm (by omega) (by omega)) hi (.inr h)
 have key: ∀(f:Nat) (r:Iv),f<=9000->(atM (xz m (zc (nmM m p).1) p (f+1) 1 ⟨idM m.length,idM m.length,idM m.length⟩ r).1.exp i j).all =true/\VM (k+1) (k+1) (xz m (zc (nmM m p).1) p (f+1) 1 ⟨idM m.length,idM m.length,idM m.length⟩ r).1.exp :=by
  intro f r hf;unfold xz;split
  .exact⟨a5 hmu,a2⟩
  .refine⟨zsf vm hi hj hp f 2 _ _ (by omega) (by omega) a1 a2 a3 (a5 hmu),?_⟩;have: ∀(f K:Nat) (s:MSt) (r:Iv),1<=K->K+f<=10000->VM (k+1) (k+1) s.term->VM (k+1) (k+1) s.exp->VM (k+1) (k+1) s.phi->VM (k+1) (k+1) (xz m (zc (nmM m p).1) p f K s r).1.exp :=by
    intro f
    induction f with
    |zero=>exact fun _ _ _ _ _ _ h4 _=>h4
    |succ f ih=>
     intro K s r h1 h2 h3 h4 h5;obtain⟨⟨b1,b2,b3⟩,_⟩:=zjf vm hi hj hp (K:=K) ⟨h1,by omega⟩ h3 h4 h5;unfold xz;split
     .exact b2
     .exact ih (K+1) _ _ (by omega) (by omega) b1 b2 b3
   exact this f 2 _ _ (by omega) (by omega) a1 a2 a3
 obtain⟨q1,q2⟩:=key 699 (whI 1) (by omega);have hr:VI (xz m (zc (nmM m p).1) p 700 1 ⟨idM m.length,idM m.length,idM m.length⟩ (whI 1)).2:=by
  have: ∀(f K:Nat) (s:MSt) (r:Iv),1<=K->K+f<=10000->VI r->VI (xz m (zc (nmM m p).1) p f K s r).2:=by
   intro f
   induction f with
   |zero=>exact fun _ _ _ _ _ h=>h
   |succ f ih=>
    intro K s r h1 h2 h3;have hb:=zfi (k:=K) h1 (by omega) hp;have hr:=wx (wx h3 hui hp) hb hp;unfold xz;split
    .exact hr
    .exact ih (K+1) _ _ (by omega) (by omega) hr
  exact this 700 1 _ _ (by omega) (by omega) (zcq (by decide))
 show(atM (arM (xz m (zc (nmM m p).1) p 700 1 ⟨idM m.length,idM m.length,idM m.length⟩ (whI 1)).1.exp _ p) i j).all =true;rw[qdk q2 (by omega) (by omega)];exact zhu (xm q2 (by omega) (by omega)) (zj9 (ze6 hr).ri hr.ri) (.inl q1)
end
theorem zpt {k i j:Nat} (hi:i<=k) (hj:j<=k) {q:Int} (hq:pcB q=true): ∀(s:Nat) (x:MPr),VM (k+1) (k+1) x.exp->VM (k+1) (k+1) x.phi->(atM x.exp i j).all =true->(atM (zn0 q s x).exp i j).all =true/\VM (k+1) (k+1) (zn0 q s x).exp
 |0,_,h1,_,h=>⟨h,h1⟩
 |s+1,x,h1,h2,h=>by
  obtain⟨d1,d2⟩:=zur h1 h2 hq;refine zpt hi hj hq s (zq0 q x) d1 d2 ?_;show(atM (muM x.exp x.exp q).1 i j).all =true;rw[zu8 h1 h1 hq (by omega) (by omega)];exact zun hq k i (fun r hr=>xm h1 (by omega) (by omega)) (fun r hr=>xm h1 (by omega) (by omega)) hi (.inr h)
theorem qgm {k i j:Nat} {m:Mx} (vm:VM (k+1) (k+1) m) (hi:i<=k) (hj:j<=k) {p:Int} (h:(atM m i j).all =true):knM (rdM m p)=false:=by
 have v:=zm9 vm p;obtain⟨r,_,hm,_,hx⟩:=zya v (i:=i) (j:=j) (by omega) (by omega);have e:(atM (rdM m p) i j).all =true:=by
  rw[qdj vm (by omega) (by omega)];unfold uo;rw[Z5 fun c=>by
   have:=((qh (xm vm (i:=i) (j:=j) (by omega) (by omega)).ri).1 c.1).all;rw[h]at this;cases this]
  rfl
 unfold knM;have:((rdM m p).any fun r=>r.any fun x=>x.all)=true:=by
  rw[q5];refine⟨r,hm,?_⟩;rw[q5];exact⟨_,List.mem_of_getElem? hx,e⟩
 rw[this];rfl
theorem qhr {k:Nat} (hk:k+1<=3) {A:Nat->Nat->Rat} {a:Mx} (ha:inM (k+1) (k+1) A a) {t:Iv} (kt:KI t) {Z:Rat} (hτ:inI Z t) {p:Int} (hp:pcB p=true) {y:MPr} (h:zkp a t p=some y):
 liM k (xQ k A Z) y.exp/\liM k (yQ k A Z) y.phi:=by
 have hp2:8<=p/\p<=512:=by
  obtain⟨q,rfl,hq⟩:=uu.1 hp;omega
 have hq:pcB (min (p+40) 512)=true:=by unfold pcB;simp;omega
 generalize hqq:min (p+40) 512=q at*;obtain⟨N,b,hN⟩: ∃N b,nmM (scM a t q) q=(N,b):=⟨_,_,rfl⟩;have hN':nmM (scM a t (min (p+40) 512)) (min (p+40) 512)=(N,b):=by rw[hqq];exact hN
 rw[zko hN']at h;split at h
 .cases h
 rename_i hc;have hb:b=true:=by cases b;exact absurd (.inl rfl) hc;rfl
 subst hb;rw[hqq]at h;have hs0:((hvS N).toNat :Int)=hvS N:=by unfold hvS;omega
 have hbd:=znx ha.v kt hq hN;rw[<-hs0]at hbd;generalize (hvS N).toNat =s at*;have vh:=zdd (.inl kt:VI t) (-(s:Int));have vsc:=za5 ha.v vh hq;obtain⟨v1,v2⟩:=zr0 vsc vh hq;have hel: ∀r∈scM a (qb t (-(s:Int))) q,∀x∈r,bI (pw (-1)) x:=fun r hr x hx=>by
  unfold scM at hr;rw[Z4 (by rw[ha.v.ok,(jf vh.ri).2 vh,hq];rfl)]at hr;obtain⟨i,r0,_,hr0,rfl⟩:=jl hr;obtain⟨j,x0,_,hx0,rfl⟩:=jl hx;exact hbd r0 hr0 x0 hx0
 have hin:=zwc (.inl kt:VI t) (j:= -(s:Int)) hτ;unfold qc9 at h;simp only at h;split at h
 .rename_i hkn;cases h
  have hknown: ∀r∈scM a (qb t (-(s:Int))) q,∀x∈r,kI (pw (-1)) x:=fun r hr x hx=>by
   refine zt0 (hel r hr x hx) ?_
   cases hxa:x.all with
   |false=>rfl
   |true=>
    obtain⟨i,hi⟩:=q3 hr;obtain⟨j,hj⟩:=q3 hx;have hil:=(q0.1 hi).1;have hjl:=(q0.1 hj).1;rw[vsc.len]at hil;rw[vsc.row r hr]at hjl;have e:=qa3 vsc (i:=i) (j:=j) (by omega) (by omega) hq (hI:=qb t (-(s:Int))) (by rw[zfj hi hj];exact hxa);obtain⟨e2,e3⟩:=zpt (i:=i) (j:=j) (by omega) (by omega) hq s _ v1 v2 e;have e4:=qgm e3 (i:=i) (j:=j) (by omega) (by omega) (p:=p) e2;rw[e4]at hkn;simp at hkn
  obtain⟨D,hD⟩:=qft vsc hknown hq;have hDle:dv D*2<=3:=by
   have h1:nmG q (scM a (qb t (-(s:Int))) q) d0=some D:=by
    unfold nmM at hD;rw[Z4 (by rw[vsc.ok,hq];rfl)]at hD;split at hD
    .rename_i d hd;cases hD;exact hd
    .cases hD
   have h2:=zwv hq (k:=k+1) (by omega) _ d0 D (fun r hr=>⟨vsc.row r hr,hel r hr⟩) (by rw[xq];exact zbj _ _) h1;have h3:vN (k+1) (-1)<=vN 3 (-1):=yf.2 hk;have h4:vN 3 (-1)*2=3:=by
    unfold vN;have:pw (-1)*2=1:=by
     have e1:(2:Rat)=pw 1:=by rw[show(1:Int)=((1:Nat):Int)from rfl,qv];rfl
     rw[e1,<-pwA];rw[show(-1+1:Int)=((0:Nat):Int)from rfl,qv];rfl
    have e3:((3:Nat):Rat)=3:=rfl;rw[e3,q8,this,q7]
   grind
  obtain⟨K,hK⟩:=qe5 ha vh hin hq hD hDle;obtain⟨U,hU⟩:=nQ_ex k A;obtain⟨l1,l2⟩:=zus hU hq s _ _ (zzo v1 fun N hN=>(hK N hN).1) (zzo v2 fun N hN=>(hK N hN).2);have e:Z*pw (-(s:Int))*pw (s:Int)=Z:=by
   rw[q8,<-pwA,show(-(s:Int)+s)=((0:Nat):Int) by omega,qv];simp
  rw[e]at l1 l2;exact⟨zzn l1 p,zzn l2 p⟩
 .cases h
set_option maxRecDepth 100000
structure kM (k:Nat) (B:Int) (m:Mx):Prop where
 v:VM (k+1) (k+1) m
 e: ∀i j,i<k+1->j<k+1->kI (pw B) (atM m i j)
theorem kM.mono {k:Nat} {B C:Int} {m:Mx} (h:kM k B m) (hb:B<=C):kM k C m:=⟨h.v,fun i j hi hj=>(h.e i j hi hj).mono (zal.2 hb)⟩
theorem zot (a:Int):pw a+pw a=pw (a+1):=by
 rw[pwA];have:pw 1=2:=by rw[show(1:Int)=((1:Nat):Int)from rfl,qv];rfl
 rw[this];grind
theorem kI_w {n:Int} (h: -4611686018427387904<=n/\n<=4611686018427387904) {b:Rat} (h1: -b<=(n:Rat)) (h2:(n:Rat)<=b):kI b (whI n):=by
 have k:=ze0 h;have e:dv (whI n).lo =(n:Rat):=ji n;have e':dv (whI n).hi =(n:Rat):=ji n;exact⟨k,by rw[e];exact h1,by rw[e'];exact h2⟩
theorem zwn:pw 0=1:=by rw[show(0:Int)=((0:Nat):Int)from rfl,qv];rfl
theorem kI_1:kI (pw 0) (whI 1):=kI_w (by decide) (by rw[zwn];decide) (by rw[zwn];decide)
theorem qce {k:Nat} (hk:k<=2):kM k 0 (idM (k+1)):=by
 refine⟨zt4 (by omega),fun i j hi hj=>?_⟩;rw[qh0 (by omega) hi hj];split
 .exact kI_1
 .exact kI_w (by decide) (by rw[zwn];decide) (by rw[zwn];decide)
theorem zty {k:Nat} {B C:Int} {a:Mx} (h:kM k B a) {x:Iv} (hx:kI (pw C) x) {p:Int} (hp:pcB p=true) (hb: -16000<=C+B/\C+B<=16000):kM k (C+B) (scM a x p):=by
 refine⟨za5 h.v (.inl hx.k) hp,fun i j hi hj=>?_⟩;rw[zx8 h.v (.inl hx.k) hp hi hj,pwA];exact zgy hx (h.e i j hi hj) hp (by rw[<-pwA];exact pwF (by omega) (by omega))
theorem kM_ad {k:Nat} {B:Int} {a b:Mx} (ha:kM k B a) (hb:kM k B b) {p:Int} (hp:pcB p=true) (h: -16000<=B/\B<=16000):kM k (B+1) (adM a b p).1:=by
 refine⟨(zex ha.v hb.v hp).2,fun i j hi hj=>?_⟩;rw[zva ha.v hb.v hp hi hj];exact zpa (ha.e i j hi hj) (hb.e i j hi hj) (by rw[zot];exact q9) hp (pwF (by omega) (by omega))
theorem qgs {p:Int} (hp:pcB p=true) {f g:Nat->Iv} {E:Int}: ∀k:Nat,k<=2->(∀r,r<=k->kI (pw E) (jr (f r) (g r) p))-> -16000<=E->E<=16000->kI (pw (E+k)) (dtF p f g k)
 |0,_,h,_,_=>by
  have:=h 0 (Nat.le_refl _);rw[show E+((0:Nat):Int)=E by omega];exact this
 |k+1,hk,h,h1,h2=>by
  have ih:=qgs hp k (by omega) (fun r hr=>h r (by omega)) h1 h2;refine zpa ih (h (k+1) (Nat.le_refl _)) ?_ hp (pwF (by omega) (by omega));have h3:pw E<=pw (E+k):=zal.2 (by omega);have h4:=zot (E+k);rw[show E+(k:Int)+1=E+((k+1:Nat):Int) by omega]at h4;grind
theorem zxh {k:Nat} (hk:k<=2) {B C:Int} {a b:Mx} (ha:kM k B a) (hb:kM k C b) {p:Int} (hp:pcB p=true) (h: -16000<=B+C/\B+C<=16000):kM k (B+C+2) (muM a b p).1:=by
 refine⟨(zh0 ha.v hb.v hp).2,fun i j hi hj=>?_⟩;rw[zu8 ha.v hb.v hp hi hj];refine(qgs hp (E:=B+C) k hk (fun r hr=>?_) (by omega) (by omega)).mono (zal.2 (by omega));rw[pwA];exact zgy (ha.e i r hi (by omega)) (hb.e r j (by omega) hj) hp (by rw[<-pwA];exact pwF (by omega) (by omega))
theorem zxj {k:Nat} (h:1<=k) (h2:k<=1000000) {p:Int} (hp:pcB p=true):kI (pw 0) (byI k p)/\(2<=k->kI (pw (-1)) (byI k p)):=by
 have hn:(0:Rat)<((k:Int):Rat):=by rw[q6];exact Rat.natCast_pos.2 h
 have hi:=Rat.mul_inv_cancel ((k:Int):Rat) (by grind);have hi0:(0:Rat)<((k:Int):Rat)⁻¹ :=Rat.inv_pos.2 hn;have key: ∀(c:Nat) (e:Int),c<=k->(c:Rat)*pw e=1-> -100<=e->e<=100->kI (pw e) (byI k p):=fun c e hc hce h3 h4=>by
  have h5:(c:Rat)<=((k:Int):Rat):=by rw[q6];exact q4.2 hc
  have h6:((k:Int):Rat)⁻¹ <=pw e:=by
   have h7:=Rat.mul_le_mul_of_nonneg_right h5 (Rat.le_of_lt (Rat.mul_pos hi0 (yg e)));have e1:(c:Rat)*(((k:Int):Rat)⁻¹ *pw e)=((k:Int):Rat)⁻¹ *((c:Rat)*pw e):=by grind
   have e2:((k:Int):Rat)*(((k:Int):Rat)⁻¹ *pw e)=(((k:Int):Rat)*((k:Int):Rat)⁻¹)*pw e:=by grind
   rw[e1,hce,e2,hi]at h7;grind
  have:=qch kI_1 (n:=(k:Int)) (by omega) (by omega) h6 hp (by rw[<-pwA];exact pwF (by omega) (by omega));rw[<-pwA,Int.zero_add]at this;exact this
 refine⟨key 1 0 h (by rw[zwn];exact q7 _) (by decide) (by decide),fun h3=>key 2 (-1) h3 ?_ (by decide) (by decide)⟩;have:=zot (-1);rw[show(-1+1:Int)=0 from rfl,zwn]at this;have e:((2:Nat):Rat)=2:=rfl;rw[e];grind
theorem qgw {p:Nat} (hp:11<=p) {c:Nat} (hc:c<=2000):inF p (c:Rat):=by
 refine⟨c,0,by unfold vN;rw[zwn,q7],Nat.le_trans hc (Nat.le_trans (by decide:2000<=2^11) (Nat.pow_le_pow_right (by decide) hp)),by decide,?_⟩;have h1:(c:Rat)<=pw 11:=by
  rw[show(11:Int)=((11:Nat):Int)from rfl,qv];exact q4.2 (by omega)
 exact zsu h1 (zs5 (by decide))
structure kN (k c:Nat) (m:Mx):Prop where
 v:VM (k+1) (k+1) m
 e: ∀i j,i<k+1->j<k+1->kI (c:Rat) (atM m i j)
theorem zxg {k c:Nat} {a b:Mx} (ha:kN k c a) (hb:kM k 1 b) {p:Int} (hp:pcB p=true) (hp2:11<=p) (h:c+2<=2000):kN k (c+2) (adM a b p).1:=by
 refine⟨(zex ha.v hb.v hp).2,fun i j hi hj=>?_⟩;rw[zva ha.v hb.v hp hi hj];refine zpa (ha.e i j hi hj) (hb.e i j hi hj) ?_ hp (qgw (by omega) h);have e1:pw 1=2:=by rw[show(1:Int)=((1:Nat):Int)from rfl,qv];rfl
 have e2:((c+2:Nat):Rat)=(c:Rat)+2:=Rat.natCast_add c 2;rw[e1,e2];exact q9
structure kS (k K:Nat) (s:MSt) (r:Iv):Prop where
 t:kM k 1 s.term
 e:kN k (2*K+1) s.exp
 f:kN k (2*K+1) s.phi
 r:kI (pw 1) r
theorem qcd {k:Nat} (hk:k<=2) {m:Mx} (hm:kM k (-1) m) {u:Iv} (hu:kI (pw 1) u) {p:Int} (hp:pcB p=true) (hp2:11<=p) {K:Nat} (hK:1<=K/\K<=800) {s:MSt} {r:Iv} (h:kS k K s r):kS k (K+1) (zec m p (K+1) s) (zvo u p (K+1) r):=by
 have b1:=(zxj (k:=K+1) (by omega) (by omega) hp).2 (by omega);have b2:=(zxj (k:=K+2) (by omega) (by omega) hp).1;have ht:kM k 1 (zec m p (K+1) s).term :=zty (zxh hk h.t hm hp (by omega)) b1 hp (by omega);have ht2:kM k 1 (scM (zec m p (K+1) s).term (byI (K+1+1) p) p):=zty ht b2 hp (by omega);refine⟨ht,zxg h.e ht hp hp2 (by omega),zxg h.f ht2 hp hp2 (by omega),?_⟩;have h1:=zgy h.r hu hp (by rw[<-pwA];exact pwF (by decide) (by decide));rw[<-pwA]at h1;have h2:=zgy h1 b1 hp (by rw[<-pwA];exact pwF (by decide) (by decide));rw[<-pwA]at h2;exact h2
theorem qgo {k:Nat} (hk:k<=2) {m:Mx} (hm:kM k (-1) m) {u:Iv} (hu:kI (pw 1) u) {p:Int} (hp:pcB p=true) (hp2:11<=p):kS k 1 (zec m p 1 ⟨idM (k+1),idM (k+1),idM (k+1)⟩) (zvo u p 1 (whI 1)):=by
 have b1:=(zxj (k:=1) (by omega) (by omega) hp).1;have b2:=(zxj (k:=2) (by omega) (by omega) hp).1;have i1:kN k 1 (idM (k+1)):=⟨(qce hk).v,fun i j hi hj=>by have:=(qce hk).e i j hi hj;rw[zwn]at this;exact this⟩;have ht:kM k 1 (zec m p 1 ⟨idM (k+1),idM (k+1),idM (k+1)⟩).term :=zty (zxh hk (qce hk) hm hp (by omega)) b1 hp (by omega);have ht2:kM k 1 (scM (zec m p 1 ⟨idM (k+1),idM (k+1),idM (k+1)⟩).term (byI 2 p) p):=zty ht b2 hp (by omega);refine⟨ht,zxg i1 ht hp hp2 (by omega),zxg i1 ht2 hp hp2 (by omega),?_⟩;have h1:=zgy kI_1 hu hp (by rw[<-pwA];exact pwF (by decide) (by decide));rw[<-pwA]at h1;have h2:=zgy h1 b1 hp (by rw[<-pwA];exact pwF (by decide) (by decide));rw[<-pwA]at h2;exact h2
theorem zzr {k:Nat} (hk:k<=2) {m:Mx} (hm:kM k (-1) m) {u:Iv} (hu:kI (pw 1) u) {p:Int} (hp:pcB p=true) (hp2:11<=p): ∀(f K:Nat) (s:MSt) (r:Iv),1<=K->K+f<=750->kS k K s r-> ∃K',K'<=750/\kS k K' (xz m u p f (K+1) s r).1 (xz m u p f (K+1) s r).2
 |0,K,s,r,_,h2,h=>⟨K,by omega,h⟩
 |f+1,K,s,r,h1,h2,h=>by
  have hs:=qcd hk hm hu hp hp2 ⟨h1,by omega⟩ h;unfold xz;split
  .exact⟨K+1,by omega,hs⟩
  .exact zzr hk hm hu hp hp2 f (K+1) _ _ (by omega) (by omega) hs
theorem qcg {b:Rat} {e:Iv} (h:kI b e):kI b (un (zay e) e):=by
 have k:=h.k;have hn:KI (zay e):=by
  have:=ze6 (.inl k);rw[zgs k]at this⊢;exact(yt this).1 rfl
 have h1:=h.lo;have h2:=h.hi;have h3:=k.dle;unfold un;rw[Z4 ((zdw hn.ri k.ri).2 ⟨hn,k⟩)];refine⟨zt5 hn k,?_,?_⟩
 .show-b<=dv (uw (zay e).lo e.lo);rw[zgs k];obtain⟨_,_,c|c⟩:=zbr (yn e.hi) e.lo<;>rw[c]
  .rw[zcn];grind
  .exact h1
 .show dv (kf (zay e).hi e.hi)<=b;rw[zgs k];obtain⟨_,_,c|c⟩:=xg (yn e.lo) e.hi<;>rw[c]
  .rw[zcn];grind
  .exact h2
theorem qgr {k K:Nat} (hK:K<=750) {x:Mx} (h:kN k (2*K+1) x) {r:Iv} (hr:kI (pw 1) r) {p:Int} (hp:pcB p=true):kM k 12 (arM x r p):=by
 refine⟨zvb h.v (.inl hr.k) hp,fun i j hi hj=>?_⟩;rw[qdk h.v hi hj];refine zpa (h.e i j hi hj) (qcg hr) ?_ hp (pwF (by decide) (by decide));have h1:((2*K+1:Nat):Rat)<=pw 11:=by
  rw[show(11:Int)=((11:Nat):Int)from rfl,qv];exact q4.2 (by omega)
 have h2:pw 1<=pw 11:=zal.2 (by decide);have h3:=zot 11;rw[show(11+1:Int)=12 from rfl]at h3;grind
theorem qgp {k:Nat} (hk:k<=2) {m:Mx} (hm:kM k (-1) m) {H:Int} (hH:0<=H/\H<=100) {h:Iv} (hh:kI (pw H) h) {p:Int} (hp:pcB p=true) (hp2:11<=p) (hu:kI (pw 1) (zc (nmM m p).1)):kM k (H+12) (zmy m h p).exp /\kM k (H+12) (zmy m h p).phi :=by
 have key: ∃K',K'<=750/\kS k K' (xz m (zc (nmM m p).1) p 700 1 ⟨idM m.length,idM m.length,idM m.length⟩ (whI 1)).1 (xz m (zc (nmM m p).1) p 700 1 ⟨idM m.length,idM m.length,idM m.length⟩ (whI 1)).2:=by
  rw[hm.v.len];have h1:=qgo hk hm hu hp hp2;unfold xz;split
  .exact⟨1,by omega,h1⟩
  .exact zzr hk hm hu hp hp2 699 1 _ _ (by omega) (by omega) h1
 obtain⟨K,hK,hs⟩:=key;exact⟨(qgr hK hs.e hs.r hp).mono (by omega),zty (qgr hK hs.f hs.r hp) hh hp (by omega)⟩
theorem qgq {k:Nat} (hk:k<=2) {B:Int} (hB:0<=B/\2*B<=15000) {x:MPr} (h1:kM k B x.exp) (h2:kM k B x.phi) {q:Int} (hq:pcB q=true):kM k (2*B+3) (zq0 q x).exp /\kM k (2*B+3) (zq0 q x).phi :=by
 have m1:=zxh hk h1 h1 hq (by omega);have m2:=zxh hk h1 h2 hq (by omega);refine⟨m1.mono (by omega),?_⟩;have:=kM_ad (h2.mono (show B<=B+B+2 by omega)) m2 hq (by omega);exact this.mono (by omega)
theorem ztz {k:Nat} (hk:k<=2) {q:Int} (hq:pcB q=true): ∀(s:Nat) (B:Int) (x:MPr),0<=B->(B+3)*2^s<=15000->kM k B x.exp->kM k B x.phi-> ∃C:Int,(0<=C/\C<=15000)/\kM k C (zn0 q s x).exp /\kM k C (zn0 q s x).phi
 |0,B,x,h0,hB,h1,h2=>⟨B,⟨h0,by simp at hB;omega⟩,h1,h2⟩
 |s+1,B,x,h0,hB,h1,h2=>by
  have e:(B+3)*2^(s+1)=(2*B+3+3)*2^s:=by rw[Int.pow_succ];grind
  have hp0:(0:Int)<2^s:=Int.pow_pos (by decide);have hp:(1:Int)<=2^s:=by omega
  have hb:2*B+6<=15000:=by
   rw[e]at hB;have:(2*B+3+3)*1<=(2*B+3+3)*2^s:=Int.mul_le_mul_of_nonneg_left hp (by omega);omega
  obtain⟨d1,d2⟩:=qgq hk ⟨h0,by omega⟩ h1 h2 hq;exact ztz hk hq s (2*B+3) _ (by omega) (by rw[<-e];exact hB) d1 d2
theorem qgl {k:Nat} {C:Int} (hC: -16000<=C/\C<=16000) {m:Mx} (h:kM k C m) {p:Int} (hp:pcB p=true):knM (rdM m p)=true:=by
 have v:=zm9 h.v p;unfold knM;have:((rdM m p).any fun r=>r.any fun x=>x.all)=false:=by
  rw[List.any_eq_false];intro r hr;rw[q5];rintro⟨x,hx,hxa⟩;obtain⟨i,hi⟩:=q3 hr;obtain⟨j,hj⟩:=q3 hx;have hil:=(q0.1 hi).1;have hjl:=(q0.1 hj).1;rw[v.len]at hil;rw[v.row r hr]at hjl;have e:=qdj h.v (p:=p) hil hjl;rw[zfj hi hj]at e;have:=(zxi (h.e i j hil hjl) hp (pwF (by omega) (by omega))).k.all;rw[<-e,hxa]at this;cases this
 rw[this,v.len];simp
set_option maxHeartbeats 4000000
theorem qet {D:Dy} {e:Int} (h0:0<=dv D) (h1:dv D<=pw e) (he: -1<=e):zo D<=e+1:=by
 by_cases hn:nm D=0
 .unfold zo;rw[Z4 hn];omega
 .unfold zo;rw[Z5 hn];have h3:=ui (n:=nm D) (e:=D.e) (t:=(bl (nm D):Int)+D.e-1) (by omega) hn;have h4:vN (nm D) D.e<=pw e:=by
   have:=zbj (nm D) D.e;have:=zcf e;unfold dv at h1 h0;split at h1
   .rename_i c;rw[Z4 c]at h0;grind
   .exact h1
  have:=zal.1 (Rat.le_trans h3 h4);omega
set_option maxHeartbeats 8000000
structure Mt (x y:Iv):Prop where
 vx:VI x
 vy:VI y
 m:x.all=false->y.all=false->dv x.lo<=dv y.hi/\dv y.lo<=dv x.hi
theorem zp8 {x y:Iv} (hx:VI x) (hy:VI y) {s:Nat->Rat} (h1:lI s x) (h2:lI s y):Mt x y:=⟨hx,hy,fun a b=>⟨zns h1 h2 a b,zns h2 h1 b a⟩⟩
theorem qf6 (a b:Dy):zii a b=a\/zii a b=b:=by unfold zii;split<;>simp
theorem qgb (a b:Dy):zw6 a b=a\/zw6 a b=b:=by unfold zw6;split<;>simp
theorem n54 {x y:Iv} (h:Mt x y): ∃z:Iv,Fn 22 [] [.agg (ivC x),.agg (ivC y)] (.tup [.agg (ivC z),.bool true]) []:=by
 obtain⟨hx,hy,hm⟩:=h;have c1:=qd2 x hx.ri;have c2:=qd2 y hy.ri;rw[(jf hx.ri).2 hx]at c1;rw[(jf hy.ri).2 hy]at c2;obtain⟨xl,xh,xa⟩:=x;obtain⟨yl,yh,ya⟩:=y
 cases xa with
 |true=>
  refine⟨⟨yl,yh,ya⟩,?_⟩;refine fnT hTM hmx Tryz.func22 rfl rfl (ex:= []) ?_;conv=>whnf
  refine gZn c1 ?_;conv=>whnf
  refine gZn c2 ?_;conv=>whnf
  exact⟨lr rfl,lh0⟩
 |false=>
 cases ya with
 |true=>
  refine⟨⟨xl,xh,false⟩,?_⟩;refine fnT hTM hmx Tryz.func22 rfl rfl (ex:= []) ?_;conv=>whnf
  refine gZn c1 ?_;conv=>whnf
  refine gZn c2 ?_;conv=>whnf
  exact⟨lr rfl,lh0⟩
 |false=>
 have kx:=(yt hx).1 rfl;have ky:=(yt hy).1 rfl;obtain⟨m1,m2⟩:=hm rfl rfl;have m1:dv xl<=dv yh:=m1;have m2:dv yl<=dv xh:=m2;have d1:dv xl<=dv xh:=kx.dle;have d2:dv yl<=dv yh:=ky.dle;have e1:Fn 75 [] [.agg (dyC xl),.agg (dyC yl)] (.agg (dyC (zii xl yl))) []:=r163 kx.lo ky.lo;have e2:Fn 76 [] [.agg (dyC xh),.agg (dyC yh)] (.agg (dyC (zw6 xh yh))) []:=r162 kx.hi ky.hi;have hA:VD (zii xl yl)/\dv (zii xl yl)<=dv xh/\dv (zii xl yl)<=dv yh:=by
  rcases qf6 xl yl with e|e<;>rw[e]
  .exact⟨kx.lo,d1,m1⟩
  .exact⟨ky.lo,m2,d2⟩
 have hB:VD (zw6 xh yh)/\dv (zii xl yl)<=dv (zw6 xh yh):=by
  rcases qgb xh yh with e|e<;>rw[e]
  .exact⟨kx.hi,hA.2.1⟩
  .exact⟨ky.hi,hA.2.2⟩
 have e3:=zwm hA.1 hB.1;have hc:=ju.2 hB.2;generalize zii xl yl=A at*;generalize zw6 xh yh=B at*;refine⟨⟨A,B,false⟩,?_⟩;refine fnT hTM hmx Tryz.func22 rfl rfl (ex:= []) ?_;conv=>whnf
 refine gZn c1 ?_;conv=>whnf
 refine gZn c2 ?_;conv=>whnf
 refine gZn e1 ?_;conv=>whnf
 refine gZn e2 ?_
 (refine⟨by kernel_rfl,by kernel_rfl,?_⟩;(conv=>whnf))
 refine gZn e3 ?_;conv=>whnf
 refine brI (fun c=>absurd (Z0 c) (by omega)) (fun c=>?_);conv=>whnf
 exact⟨lr rfl,lh0⟩
theorem n53 {x y:Iv} (h:Mt x y):Fn 60 [] [.agg (ivC x),.agg (ivC y)] (.bool true) []:=by
 obtain⟨z,hz⟩:=n54 h;refine fnT hTM hmx Tryz.func60 rfl rfl (ex:= []) ?_;conv=>whnf
 refine gZn hz ?_;conv=>whnf
 exact⟨lr rfl,lh0⟩
structure MtL (l m:List Iv):Prop where
 len:l.length=m.length
 b:l.length<1000000
 el: ∀(i:Nat) (x y:Iv),l[i]? =some x->m[i]? =some y->Mt x y
theorem n52 {l m:List Iv} (h:MtL l m):Fn 59 [] [.sl .iv l,.sl .iv m,.fn 60 []] (.bool true) []:=by
 have hl:=h.len;have hb:=h.b;have e:((l.length:Int) != (m.length:Int))=false:=by simp;omega
 refine fnT hTM hmx Tryz.func59 rfl rfl (ex:= []) ?_;conv=>whnf
 rw[e];conv=>whnf
 refine⟨Nat,fun i=>i<=l.length,fun i=> [(17,.int .i64 i)],fun i=> [(8,.free),(9,.free)],fun i=>l.length-i,0,Nat.zero_le _,?_,fun i hi=>?_⟩
 .exact KZ0
 (refine⟨by kernel_rfl,?_⟩;(conv=>whnf))
 refine brI (fun c=>?_) (fun c=>?_)
 .have c:i<l.length:=by have:=Z0 c;omega
  conv=>whnf
  refine⟨⟨by omega,by omega⟩,fun(x:Iv) hx=>?_⟩;have hx:l[i]? =some x:=by simpa using hx
  conv=>whnf
  refine⟨⟨by omega,by omega⟩,fun(y:Iv) hy=>?_⟩;have hy:m[i]? =some y:=by simpa using hy
  conv=>whnf
  refine gZn (n53 (h.el i x y hx hy)) ?_;conv=>whnf
  refine⟨i+1,c,by show l.length-(i+1)<l.length-i;omega,?_⟩
  ((conv=>whnf);refine And.intro ?_ ?_;repeat' first|refine lc ?_ ?_|exact la0|exact lr rfl|exact ln0|refine lh1 ?_ ?_|exact lh0|exact bf0|exact bd0|refine bc0 ?_|exact bm0 rfl|exact bb0 rfl|exact bg0 rfl|exact li0 rfl|refine lg0 ?_|refine lt0 ?_|fail)
  exact ai0 (by rw[wI (by omega)];omega)
 .conv=>whnf
  exact⟨lr rfl,lh0⟩
theorem n21 {l m:List Iv} (h:MtL l m):Fn 14 [] [.sl .iv l,.sl .iv m] (.bool true) []:=by
 refine fnT hTM hmx Tryz.func14 rfl rfl (ex:= []) ?_;conv=>whnf
 refine gZn (n52 h) ?_;conv=>whnf
 exact⟨lr rfl,lh0⟩
structure MtM (l m:Mx):Prop where
 len:l.length=m.length
 b:l.length<1000000
 el: ∀(i:Nat) (x y:List Iv),l[i]? =some x->m[i]? =some y->MtL x y
theorem n69 {l m:Mx} (h:MtM l m):Fn 87 [] [.sl .vs l,.sl .vs m,.fn 14 []] (.bool true) []:=by
 have hl:=h.len;have hb:=h.b;have e:((l.length:Int) != (m.length:Int))=false:=by simp;omega
 refine fnT hTM hmx Tryz.func87 rfl rfl (ex:= []) ?_;conv=>whnf
 rw[e];conv=>whnf
 refine⟨Nat,fun i=>i<=l.length,fun i=> [(17,.int .i64 i)],fun i=> [],fun i=>l.length-i,0,Nat.zero_le _,?_,fun i hi=>?_⟩
 .exact KZ0
 (refine⟨by kernel_rfl,?_⟩;(conv=>whnf))
 refine brI (fun c=>?_) (fun c=>?_)
 .have c:i<l.length:=by have:=Z0 c;omega
  conv=>whnf
  refine⟨⟨by omega,by omega⟩,fun(x:List Iv) hx=>?_⟩;have hx:l[i]? =some x:=by simpa using hx
  conv=>whnf
  refine⟨⟨by omega,by omega⟩,fun(y:List Iv) hy=>?_⟩;have hy:m[i]? =some y:=by simpa using hy
  conv=>whnf
  refine gZn (n21 (h.el i x y hx hy)) ?_;conv=>whnf
  refine⟨i+1,c,by show l.length-(i+1)<l.length-i;omega,?_⟩
  ((conv=>whnf);refine And.intro ?_ ?_;repeat' first|refine lc ?_ ?_|exact la0|exact lr rfl|exact ln0|refine lh1 ?_ ?_|exact lh0|exact bf0|exact bd0|refine bc0 ?_|exact bm0 rfl|exact bb0 rfl|exact bg0 rfl|exact li0 rfl|refine lg0 ?_|refine lt0 ?_|fail)
  exact ai0 (by rw[wI (by omega)];omega)
 .conv=>whnf
  exact⟨lr rfl,lh0⟩
theorem n30 {l m:Mx} (h:MtM l m):Fn 29 [] [.sl .vs l,.sl .vs m] (.bool true) []:=by
 refine fnT hTM hmx Tryz.func29 rfl rfl (ex:= []) ?_;conv=>whnf
 refine gZn (n69 h) ?_;conv=>whnf
 exact⟨lr rfl,lh0⟩
section
variable (x y z:Rat)
end
theorem n19 (P:Int) (h:0<=P/\P<=255):Fn 12 [] [.int .u8 P] (.int .i64 (24+P % 41)) []:=by
 refine fnT hTM hmx Tryz.func12 rfl rfl (ex:= []) ?_;conv=>whnf
 refine⟨by decide,?_⟩;conv=>whnf
 refine⟨ai0 ?_,lh0⟩;rw[wI (x:=P) (by omega)];rw[Int.tmod_eq_emod_of_nonneg (by omega),wI (by omega)]
