/- matexp.both contains the exponential function and its integral. -/
import Derived.Test.YtbolipecnhlnnaaGreatDoorLNe
import Derived.Test.YtbolipecnhlnnaaGreatDoorLNg
import Derived.Test.YtbolipecnhlnnaaGreatDoorLRa
set_option linter.all false
open List renaming getElem?_eq_some_iff->q0,getElem?_of_mem->q3,any_eq_true->q5
open Rat renaming natCast_le_natCast->q4,intCast_natCast->q6,mul_one->q7,mul_assoc->q8,le_refl->q9
namespace Go.Proofs.YtbolipecnhlnnaaGreatDoor
open Go Go.Sx
set_option maxHeartbeats 2000000
theorem nQ_ex(k:Nat)(A:Nat->Nat->Rat):∃U,nQ k A U:=
 ⟨sQ (fun i=>sQ (fun r=>qk (A i r)) k) k,fun i hi=>qcn (f:=fun i=>sQ (fun r=>qk (A i r)) k) (fun _ _=>zs6 fun _ _=>qj _) i hi⟩
section
variable {k i j:Nat} {m:Mx} (vm:VM (k+1) (k+1) m) (hi:i<=k) (hj:j<=k) {p:Int} (hp:pcB p=true)
include vm hi hj hp
theorem zj6{K:Nat}(hK:1<=K/\K<=100000){s:MSt}(h1:VM (k+1) (k+1) s.term)(h2:VM (k+1) (k+1) s.exp)(h3:VM (k+1) (k+1) s.phi):
 (VM (k+1) (k+1) (ze5 m p K s).term /\VM (k+1) (k+1) (ze5 m p K s).exp /\VM (k+1) (k+1) (ze5 m p K s).phi)/\((atM s.exp i j).all =true->(atM (ze5 m p K s).exp i j).all =true)/\((atM (muM s.term m p).1 i j).all =true->(atM (ze5 m p K s).exp i j).all =true):=by
 have hb:=zgd (k:=K) hK.1 O hp;have hb2:=zgd (k:=K+1) O O hp;have hm:=(zdf h1 vm hp).2;have ht:=yr hm hb hp;have hE:=(zbv h2 ht hp).2;have hF:=(zbv h3 (yr ht hb2 hp) hp).2;have e:atM (ze5 m p K s).exp i j=yp (atM s.exp i j) (atM (scM (muM s.term m p).1 (byI K p) p) i j) p:=zv5 h2 ht hp O O;have e2:atM (scM (muM s.term m p).1 (byI K p) p) i j=kf (byI K p) (atM (muM s.term m p).1 i j) p:=zzf hm hb hp O O;have v1:=xw h2 (i:=i) (j:=j) O O;have v2:=xw ht (i:=i) (j:=j) O O;have v3:=xw hm (i:=i) (j:=j) O O;exact⟨⟨ht,hE,hF⟩,fun h=>by rw[e];exact zia v1 v2 (.inl h),fun h=>by rw[e];exact zia v1 v2 (.inr (by
  show(atM (scM (muM s.term m p).1 (byI K p) p) i j).all =true;rw[e2];exact zn8 hb v3 (.inr h)))⟩
theorem zs1{u:Iv}:∀(f K:Nat)(s:MSt)(r:Iv),1<=K->K+f<=10000->VM (k+1) (k+1) s.term->VM (k+1) (k+1) s.exp->VM (k+1) (k+1) s.phi->(atM s.exp i j).all =true->(atM (zad m u p f K s r).1.exp i j).all =true
 |0,_,_,_,_,_,_,_,_,h=>h
 |f+1,K,s,r,h1,h2,h3,h4,h5,h=>by
  obtain⟨⟨a1,a2,a3⟩,a4,_⟩:=zj6 vm hi hj hp (K:=K) ⟨h1,O⟩ h3 h4 h5;unfold zad;split
  .exact a4 h
  .exact zs1 f (K+1) _ _ O O a1 a2 a3 (a4 h)
theorem qcd{hI:Iv}(h:(atM m i j).all =true):(atM (znr m hI p).exp i j).all =true:=by
 have hid:VM (k+1) (k+1) (idM m.length):=by rw[vm.len];exact zrl vm.n1
 have hui:VI (zx (nmM m p).1):=.inl (ziu (zko (a:=m) (p:=p) vm.el).1);obtain⟨⟨a1,a2,a3⟩,_,a5⟩:=zj6 vm hi hj hp (K:=1) ⟨Nat.le_refl _,O⟩ (s:=⟨idM m.length,idM m.length,idM m.length⟩) hid hid hid;have hmu:(atM (muM (idM m.length) m p).1 i j).all =true:=by
  rw[zv2 hid vm hp O O];exact zvd hp k i (fun r hr=>xw hid O O) (fun r hr=>xw vm O O) hi (.inr h)
 have key:∀(f:Nat)(r:Iv),f<=9000->(atM (zad m (zx (nmM m p).1) p (f+1) 1 ⟨idM m.length,idM m.length,idM m.length⟩ r).1.exp i j).all =true/\VM (k+1) (k+1) (zad m (zx (nmM m p).1) p (f+1) 1 ⟨idM m.length,idM m.length,idM m.length⟩ r).1.exp :=by
  intro f r hf;unfold zad;split
  .exact⟨a5 hmu,a2⟩
  .refine⟨zs1 vm hi hj hp f 2 _ _ O O a1 a2 a3 (a5 hmu),?_⟩;have:∀(f K:Nat)(s:MSt)(r:Iv),1<=K->K+f<=10000->VM (k+1) (k+1) s.term->VM (k+1) (k+1) s.exp->VM (k+1) (k+1) s.phi->VM (k+1) (k+1) (zad m (zx (nmM m p).1) p f K s r).1.exp :=by
    intro f
    induction f with
    |zero=>exact fun _ _ _ _ _ _ h4 _=>h4
    |succ f ih=>
     intro K s r h1 h2 h3 h4 h5;obtain⟨⟨b1,b2,b3⟩,_⟩:=zj6 vm hi hj hp (K:=K) ⟨h1,O⟩ h3 h4 h5;unfold zad;split
     .exact b2
     .exact ih (K+1) _ _ O O b1 b2 b3
   exact this f 2 _ _ O O a1 a2 a3
 obtain⟨q1,q2⟩:=key 699 (whI 1) O;have hr:VI (zad m (zx (nmM m p).1) p 700 1 ⟨idM m.length,idM m.length,idM m.length⟩ (whI 1)).2:=by
  have:∀(f K:Nat)(s:MSt)(r:Iv),1<=K->K+f<=10000->VI r->VI (zad m (zx (nmM m p).1) p f K s r).2:=by
   intro f
   induction f with
   |zero=>exact fun _ _ _ _ _ h=>h
   |succ f ih=>
    intro K s r h1 h2 h3;have hb:=zgd (k:=K) h1 O hp;have hr:=jg (jg h3 hui hp) hb hp;unfold zad;split
    .exact hr
    .exact ih (K+1) _ _ O O hr
  exact this 700 1 _ _ O O (uz OA)
 show(atM (arM (zad m (zx (nmM m p).1) p 700 1 ⟨idM m.length,idM m.length,idM m.length⟩ (whI 1)).1.exp _ p) i j).all =true;rw[qe0 q2 O O];exact zia (xw q2 O O) (zky (zl5 hr).ri hr.ri) (.inl q1)
end
theorem zqn{k i j:Nat}(hi:i<=k)(hj:j<=k){q:Int}(hq:pcB q=true):∀(s:Nat)(x:MPr),VM (k+1) (k+1) x.exp->VM (k+1) (k+1) x.phi->(atM x.exp i j).all =true->(atM (zc1 q s x).exp i j).all =true/\VM (k+1) (k+1) (zc1 q s x).exp
 |0,_,h1,_,h=>⟨h,h1⟩
 |s+1,x,h1,h2,h=>by
  obtain⟨d1,d2⟩:=zvm h1 h2 hq;refine zqn hi hj hq s (znh q x) d1 d2 ?_;show(atM (muM x.exp x.exp q).1 i j).all =true;rw[zv2 h1 h1 hq O O];exact zvd hq k i (fun r hr=>xw h1 O O) (fun r hr=>xw h1 O O) hi (.inr h)
theorem qhq{k i j:Nat}{m:Mx}(vm:VM (k+1) (k+1) m)(hi:i<=k)(hj:j<=k){p:Int}(h:(atM m i j).all =true):knM (rdM m p)=false:=by
 have v:=zlu vm p;obtain⟨r,_,hm,_,hx⟩:=zv3 v (i:=i) (j:=j) O O;have e:(atM (rdM m p) i j).all =true:=by
  rw[zzg vm O O];unfold ux;rw[Z5 fun c=>by
   have:=((qb (xw vm (i:=i) (j:=j) O O).ri).1 c.1).all;rw[h]at this;cases this]
  rfl
 unfold knM;have:((rdM m p).any fun r=>r.any fun x=>x.all)=true:=by
  rw[q5];refine⟨r,hm,?_⟩;rw[q5];exact⟨_,List.mem_of_getElem? hx,e⟩
 rw[this];rfl
theorem qiv{k:Nat}(hk:k+1<=3){A:Nat->Nat->Rat}{a:Mx}(ha:inM (k+1) (k+1) A a){t:Iv}(kt:KI t){Y:Rat}(hτ:inI Y t){p:Int}(hp:pcB p=true){y:MPr}(h:zlb a t p=some y):
 liM k (xQ k A Y) y.exp/\liM k (yQ k A Y) y.phi:=by
 have hp2:8<=p/\p<=512:=by
  obtain⟨q,rfl,hq⟩:=yu.1 hp;omega
 have hq:pcB (min (p+40) 512)=true:=by unfold pcB;simp;omega
 generalize hqq:min (p+40) 512=q at*;obtain⟨N,b,hN⟩:∃N b,nmM (scM a t q) q=(N,b):=⟨_,_,rfl⟩;have hN':nmM (scM a t (min (p+40) 512)) (min (p+40) 512)=(N,b):=by rw[hqq];exact hN
 rw[zla hN']at h;split at h
 .cases h
 rename_i hc;have hb:b=true:=by cases b;exact absurd (.inl rfl) hc;rfl
 subst hb;rw[hqq]at h;have hs0:((hvS N).toNat :Int)=hvS N:=by unfold hvS;omega
 have hbd:=zom ha.v kt hq hN;rw[<-hs0]at hbd;generalize (hvS N).toNat =s at*;have vh:=zbb (.inl kt:VI t) (-(s:Int));have vsc:=yr ha.v vh hq;obtain⟨v1,v2⟩:=zsk vsc vh hq;have hel:∀r∈scM a (zn t (-(s:Int))) q,∀x∈r,bI (pw (-1)) x:=fun r hr x hx=>by
  unfold scM at hr;rw[Z4 (by rw[ha.v.ok,(wu vh.ri).2 vh,hq];rfl)]at hr;obtain⟨i,r0,_,hr0,rfl⟩:=wl hr;obtain⟨j,x0,_,hx0,rfl⟩:=wl hx;exact hbd r0 hr0 x0 hx0
 have hin:=zpi (.inl kt:VI t) (j:= -(s:Int)) hτ;unfold qeo at h;simp only at h;split at h
 .rename_i hkn;cases h
  have hknown:∀r∈scM a (zn t (-(s:Int))) q,∀x∈r,kI (pw (-1)) x:=fun r hr x hx=>by
   refine zri (hel r hr x hx) ?_
   cases hxa:x.all with
   |false=>rfl
   |true=>
    obtain⟨i,hi⟩:=q3 hr;obtain⟨j,hj⟩:=q3 hx;have hil:=(q0.1 hi).1;have hjl:=(q0.1 hj).1;rw[vsc.len]at hil;rw[vsc.row r hr]at hjl;have e:=qcd vsc (i:=i) (j:=j) O O hq (hI:=zn t (-(s:Int))) (by rw[zci hi hj];exact hxa);obtain⟨e2,e3⟩:=zqn (i:=i) (j:=j) O O hq s _ v1 v2 e;have e4:=qhq e3 (i:=i) (j:=j) O O (p:=p) e2;rw[e4]at hkn;simp at hkn
  obtain⟨D,hD⟩:=qg2 vsc hknown hq;have hDle:dv D*2<=3:=by
   have h1:nmG q (scM a (zn t (-(s:Int))) q) d0=some D:=by
    unfold nmM at hD;rw[Z4 (by rw[vsc.ok,hq];rfl)]at hD;split at hD
    .rename_i d hd;cases hD;exact hd
    .cases hD
   have h2:=zxy hq (k:=k+1) O _ d0 D (fun r hr=>⟨vsc.row r hr,hel r hr⟩) (by rw[uw];exact zdc _ _) h1;have h3:vN (k+1) (-1)<=vN 3 (-1):=uk.2 hk;have h4:vN 3 (-1)*2=3:=by
    unfold vN;have:pw (-1)*2=1:=by
     have e1:(2:Rat)=pw 1:=by rw[show(1:Int)=((1:Nat):Int)from rfl,wq];rfl
     rw[e1,<-pwA];rw[show(-1+1:Int)=((0:Nat):Int)from rfl,wq];rfl
    have e3:((3:Nat):Rat)=3:=rfl;rw[e3,q8,this,q7]
   grind
  obtain⟨K,hK⟩:=qgg ha vh hin hq hD hDle;obtain⟨U,hU⟩:=nQ_ex k A;obtain⟨l1,l2⟩:=zop hU hq s _ _ (zp3 v1 fun N hN=>(hK N hN).1) (zp3 v2 fun N hN=>(hK N hN).2);have e:Y*pw (-(s:Int))*pw (s:Int)=Y:=by
   rw[q8,<-pwA,show(-(s:Int)+s)=((0:Nat):Int) by omega,wq];simp
  rw[e]at l1 l2;exact⟨qa1 l1 p,qa1 l2 p⟩
 .cases h
set_option maxRecDepth 100000
structure kM(k:Nat)(B:Int)(m:Mx):Prop where
 v:VM (k+1) (k+1) m
 e:∀i j,i<k+1->j<k+1->kI (pw B) (atM m i j)
theorem kM.mono{k:Nat}{B C:Int}{m:Mx}(h:kM k B m)(hb:B<=C):kM k C m:=⟨h.v,fun i j hi hj=>(h.e i j hi hj).mono (zat.2 hb)⟩
theorem zlx(a:Int):pw a+pw a=pw (a+1):=by
 rw[pwA];have:pw 1=2:=by rw[show(1:Int)=((1:Nat):Int)from rfl,wq];rfl
 rw[this];grind
theorem kI_w{n:Int}(h: -4611686018427387904<=n/\n<=4611686018427387904){b:Rat}(h1: -b<=(n:Rat))(h2:(n:Rat)<=b):kI b (whI n):=by
 have k:=zfv h;have e:dv (whI n).lo =(n:Rat):=uo n;have e':dv (whI n).hi =(n:Rat):=uo n;exact⟨k,by rw[e];exact h1,by rw[e'];exact h2⟩
theorem zwl:pw 0=1:=by rw[show(0:Int)=((0:Nat):Int)from rfl,wq];rfl
theorem kI_1:kI (pw 0) (whI 1):=kI_w OA (by rw[zwl];decide) (by rw[zwl];decide)
theorem qdp{k:Nat}(hk:k<=2):kM k 0 (idM (k+1)):=by
 refine⟨zrl O,fun i j hi hj=>?_⟩;rw[qi5 O hi hj];split
 .exact kI_1
 .exact kI_w OA (by rw[zwl];decide) (by rw[zwl];decide)
theorem zup{k:Nat}{B C:Int}{a:Mx}(h:kM k B a){x:Iv}(hx:kI (pw C) x){p:Int}(hp:pcB p=true)(hb: -16000<=C+B/\C+B<=16000):kM k (C+B) (scM a x p):=by
 refine⟨yr h.v (.inl hx.k) hp,fun i j hi hj=>?_⟩;rw[zzf h.v (.inl hx.k) hp hi hj,pwA];exact zf4 hx (h.e i j hi hj) hp (by rw[<-pwA];exact pwF O O)
theorem kM_ad{k:Nat}{B:Int}{a b:Mx}(ha:kM k B a)(hb:kM k B b){p:Int}(hp:pcB p=true)(h: -16000<=B/\B<=16000):kM k (B+1) (adM a b p).1:=by
 refine⟨(zbv ha.v hb.v hp).2,fun i j hi hj=>?_⟩;rw[zv5 ha.v hb.v hp hi hj];exact zmj (ha.e i j hi hj) (hb.e i j hi hj) (by rw[zlx];exact q9) hp (pwF O O)
theorem qds{p:Int}(hp:pcB p=true){f g:Nat->Iv}{E:Int}:∀k:Nat,k<=2->(∀r,r<=k->kI (pw E) (kf (f r) (g r) p))-> -16000<=E->E<=16000->kI (pw (E+k)) (dtF p f g k)
 |0,_,h,_,_=>by
  have:=h 0 (Nat.le_refl _);rw[(O:E+((0:Nat):Int)=E)];exact this
 |k+1,hk,h,h1,h2=>by
  have ih:=qds hp k O (fun r hr=>h r O) h1 h2;refine zmj ih (h (k+1) (Nat.le_refl _)) ?_ hp (pwF O O);have h3:pw E<=pw (E+k):=zat.2 O;have h4:=zlx (E+k);rw[(O:E+(k:Int)+1=E+((k+1:Nat):Int))]at h4;grind
theorem zyn{k:Nat}(hk:k<=2){B C:Int}{a b:Mx}(ha:kM k B a)(hb:kM k C b){p:Int}(hp:pcB p=true)(h: -16000<=B+C/\B+C<=16000):kM k (B+C+2) (muM a b p).1:=by
 refine⟨(zdf ha.v hb.v hp).2,fun i j hi hj=>?_⟩;rw[zv2 ha.v hb.v hp hi hj];refine(qds hp (E:=B+C) k hk (fun r hr=>?_) O O).mono (zat.2 O);rw[pwA];exact zf4 (ha.e i r hi O) (hb.e r j O hj) hp (by rw[<-pwA];exact pwF O O)
theorem zyo{k:Nat}(h:1<=k)(h2:k<=1000000){p:Int}(hp:pcB p=true):kI (pw 0) (byI k p)/\(2<=k->kI (pw (-1)) (byI k p)):=by
 have hn:(0:Rat)<((k:Int):Rat):=by rw[q6];exact Rat.natCast_pos.2 h
 have hi:=Rat.mul_inv_cancel ((k:Int):Rat) (by grind);have hi0:(0:Rat)<((k:Int):Rat)⁻¹ :=Rat.inv_pos.2 hn;have key:∀(c:Nat)(e:Int),c<=k->(c:Rat)*pw e=1-> -100<=e->e<=100->kI (pw e) (byI k p):=fun c e hc hce h3 h4=>by
  have h5:(c:Rat)<=((k:Int):Rat):=by rw[q6];exact q4.2 hc
  have h6:((k:Int):Rat)⁻¹ <=pw e:=by
   have h7:=Rat.mul_le_mul_of_nonneg_right h5 (Rat.le_of_lt (Rat.mul_pos hi0 (zb2 e)));have e1:(c:Rat)*(((k:Int):Rat)⁻¹ *pw e)=((k:Int):Rat)⁻¹ *((c:Rat)*pw e):=by grind
   have e2:((k:Int):Rat)*(((k:Int):Rat)⁻¹ *pw e)=(((k:Int):Rat)*((k:Int):Rat)⁻¹)*pw e:=by grind
   rw[e1,hce,e2,hi]at h7;grind
  have:=qdt kI_1 (n:=(k:Int)) O O h6 hp (by rw[<-pwA];exact pwF O O);rw[<-pwA,Int.zero_add]at this;exact this
 refine⟨key 1 0 h (by rw[zwl];exact q7 _) OA OA,fun h3=>key 2 (-1) h3 ?_ OA OA⟩;have:=zlx (-1);rw[show(-1+1:Int)=0 from rfl,zwl]at this;have e:((2:Nat):Rat)=2:=rfl;rw[e];grind
theorem qh0{p:Nat}(hp:11<=p){c:Nat}(hc:c<=2000):inF p (c:Rat):=by
 refine⟨c,0,by unfold vN;rw[zwl,q7],Nat.le_trans hc (Nat.le_trans (by decide:2000<=2^11) (Nat.pow_le_pow_right OA hp)),OA,?_⟩;have h1:(c:Rat)<=pw 11:=by
  rw[show(11:Int)=((11:Nat):Int)from rfl,wq];exact q4.2 O
 exact zte h1 (ztq OA)
structure kN(k c:Nat)(m:Mx):Prop where
 v:VM (k+1) (k+1) m
 e:∀i j,i<k+1->j<k+1->kI (c:Rat) (atM m i j)
theorem zym{k c:Nat}{a b:Mx}(ha:kN k c a)(hb:kM k 1 b){p:Int}(hp:pcB p=true)(hp2:11<=p)(h:c+2<=2000):kN k (c+2) (adM a b p).1:=by
 refine⟨(zbv ha.v hb.v hp).2,fun i j hi hj=>?_⟩;rw[zv5 ha.v hb.v hp hi hj];refine zmj (ha.e i j hi hj) (hb.e i j hi hj) ?_ hp (qh0 O h);have e1:pw 1=2:=by rw[show(1:Int)=((1:Nat):Int)from rfl,wq];rfl
 have e2:((c+2:Nat):Rat)=(c:Rat)+2:=Rat.natCast_add c 2;rw[e1,e2];exact q9
structure kS(k K:Nat)(s:MSt)(r:Iv):Prop where
 t:kM k 1 s.term
 e:kN k (2*K+1) s.exp
 f:kN k (2*K+1) s.phi
 r:kI (pw 1) r
theorem qdo{k:Nat}(hk:k<=2){m:Mx}(hm:kM k (-1) m){u:Iv}(hu:kI (pw 1) u){p:Int}(hp:pcB p=true)(hp2:11<=p){K:Nat}(hK:1<=K/\K<=800){s:MSt}{r:Iv}(h:kS k K s r):kS k (K+1) (ze5 m p (K+1) s) (zwk u p (K+1) r):=by
 have b1:=(zyo (k:=K+1) O O hp).2 O;have b2:=(zyo (k:=K+2) O O hp).1;have ht:kM k 1 (ze5 m p (K+1) s).term :=zup (zyn hk h.t hm hp O) b1 hp O;have ht2:kM k 1 (scM (ze5 m p (K+1) s).term (byI (K+1+1) p) p):=zup ht b2 hp O;refine⟨ht,zym h.e ht hp hp2 O,zym h.f ht2 hp hp2 O,?_⟩;have h1:=zf4 h.r hu hp (by rw[<-pwA];exact pwF OA OA);rw[<-pwA]at h1;have h2:=zf4 h1 b1 hp (by rw[<-pwA];exact pwF OA OA);rw[<-pwA]at h2;exact h2
theorem qhs{k:Nat}(hk:k<=2){m:Mx}(hm:kM k (-1) m){u:Iv}(hu:kI (pw 1) u){p:Int}(hp:pcB p=true)(hp2:11<=p):kS k 1 (ze5 m p 1 ⟨idM (k+1),idM (k+1),idM (k+1)⟩) (zwk u p 1 (whI 1)):=by
 have b1:=(zyo (k:=1) O O hp).1;have b2:=(zyo (k:=2) O O hp).1;have i1:kN k 1 (idM (k+1)):=⟨(qdp hk).v,fun i j hi hj=>by have:=(qdp hk).e i j hi hj;rw[zwl]at this;exact this⟩;have ht:kM k 1 (ze5 m p 1 ⟨idM (k+1),idM (k+1),idM (k+1)⟩).term :=zup (zyn hk (qdp hk) hm hp O) b1 hp O;have ht2:kM k 1 (scM (ze5 m p 1 ⟨idM (k+1),idM (k+1),idM (k+1)⟩).term (byI 2 p) p):=zup ht b2 hp O;refine⟨ht,zym i1 ht hp hp2 O,zym i1 ht2 hp hp2 O,?_⟩;have h1:=zf4 kI_1 hu hp (by rw[<-pwA];exact pwF OA OA);rw[<-pwA]at h1;have h2:=zf4 h1 b1 hp (by rw[<-pwA];exact pwF OA OA);rw[<-pwA]at h2;exact h2
theorem qa3{k:Nat}(hk:k<=2){m:Mx}(hm:kM k (-1) m){u:Iv}(hu:kI (pw 1) u){p:Int}(hp:pcB p=true)(hp2:11<=p):∀(f K:Nat)(s:MSt)(r:Iv),1<=K->K+f<=750->kS k K s r->∃K',K'<=750/\kS k K' (zad m u p f (K+1) s r).1 (zad m u p f (K+1) s r).2
 |0,K,s,r,_,h2,h=>⟨K,O,h⟩
 |f+1,K,s,r,h1,h2,h=>by
  have hs:=qdo hk hm hu hp hp2 ⟨h1,O⟩ h;unfold zad;split
  .exact⟨K+1,O,hs⟩
  .exact qa3 hk hm hu hp hp2 f (K+1) _ _ O O hs
theorem qdr{b:Rat}{e:Iv}(h:kI b e):kI b (zbr (ze6 e) e):=by
 have k:=h.k;have hn:KI (ze6 e):=by
  have:=zl5 (.inl k);rw[zi7 k]at this⊢;exact(xi this).1 rfl
 have h1:=h.lo;have h2:=h.hi;have h3:=k.dle;unfold zbr;rw[Z4 ((zek hn.ri k.ri).2 ⟨hn,k⟩)];refine⟨zut hn k,?_,?_⟩
 .show-b<=dv (za0 (ze6 e).lo e.lo);rw[zi7 k];obtain⟨_,_,c|c⟩:=zhf (jm e.hi) e.lo<;>rw[c]
  .rw[za4];grind
  .exact h1
 .show dv (xc (ze6 e).hi e.hi)<=b;rw[zi7 k];obtain⟨_,_,c|c⟩:=zb3 (jm e.lo) e.hi<;>rw[c]
  .rw[za4];grind
  .exact h2
theorem qhw{k K:Nat}(hK:K<=750){x:Mx}(h:kN k (2*K+1) x){r:Iv}(hr:kI (pw 1) r){p:Int}(hp:pcB p=true):kM k 12 (arM x r p):=by
 refine⟨zv6 h.v (.inl hr.k) hp,fun i j hi hj=>?_⟩;rw[qe0 h.v hi hj];refine zmj (h.e i j hi hj) (qdr hr) ?_ hp (pwF OA OA);have h1:((2*K+1:Nat):Rat)<=pw 11:=by
  rw[show(11:Int)=((11:Nat):Int)from rfl,wq];exact q4.2 O
 have h2:pw 1<=pw 11:=zat.2 OA;have h3:=zlx 11;rw[show(11+1:Int)=12 from rfl]at h3;grind
theorem qht{k:Nat}(hk:k<=2){m:Mx}(hm:kM k (-1) m){H:Int}(hH:0<=H/\H<=100){h:Iv}(hh:kI (pw H) h){p:Int}(hp:pcB p=true)(hp2:11<=p)(hu:kI (pw 1) (zx (nmM m p).1)):kM k (H+12) (znr m h p).exp /\kM k (H+12) (znr m h p).phi :=by
 have key:∃K',K'<=750/\kS k K' (zad m (zx (nmM m p).1) p 700 1 ⟨idM m.length,idM m.length,idM m.length⟩ (whI 1)).1 (zad m (zx (nmM m p).1) p 700 1 ⟨idM m.length,idM m.length,idM m.length⟩ (whI 1)).2:=by
  rw[hm.v.len];have h1:=qhs hk hm hu hp hp2;unfold zad;split
  .exact⟨1,O,h1⟩
  .exact qa3 hk hm hu hp hp2 699 1 _ _ O O h1
 obtain⟨K,hK,hs⟩:=key;exact⟨(qhw hK hs.e hs.r hp).mono O,zup (qhw hK hs.f hs.r hp) hh hp O⟩
theorem qhv{k:Nat}(hk:k<=2){B:Int}(hB:0<=B/\2*B<=15000){x:MPr}(h1:kM k B x.exp)(h2:kM k B x.phi){q:Int}(hq:pcB q=true):kM k (2*B+3) (znh q x).exp /\kM k (2*B+3) (znh q x).phi :=by
 have m1:=zyn hk h1 h1 hq O;have m2:=zyn hk h1 h2 hq O;refine⟨m1.mono O,?_⟩;have:=kM_ad (h2.mono (O:B<=B+B+2)) m2 hq O;exact this.mono O
theorem zuq{k:Nat}(hk:k<=2){q:Int}(hq:pcB q=true):∀(s:Nat)(B:Int)(x:MPr),0<=B->(B+3)*2^s<=15000->kM k B x.exp->kM k B x.phi->∃C:Int,(0<=C/\C<=15000)/\kM k C (zc1 q s x).exp /\kM k C (zc1 q s x).phi
 |0,B,x,h0,hB,h1,h2=>⟨B,⟨h0,by simp at hB;omega⟩,h1,h2⟩
 |s+1,B,x,h0,hB,h1,h2=>by
  have e:(B+3)*2^(s+1)=(2*B+3+3)*2^s:=by rw[Int.pow_succ];grind
  have hp0:(0:Int)<2^s:=Int.pow_pos OA;have hp:(1:Int)<=2^s:=O;have hb:2*B+6<=15000:=by
   rw[e]at hB;have:(2*B+3+3)*1<=(2*B+3+3)*2^s:=Int.mul_le_mul_of_nonneg_left hp O;omega
  obtain⟨d1,d2⟩:=qhv hk ⟨h0,O⟩ h1 h2 hq;exact zuq hk hq s (2*B+3) _ O (by rw[<-e];exact hB) d1 d2
theorem qhp{k:Nat}{C:Int}(hC: -16000<=C/\C<=16000){m:Mx}(h:kM k C m){p:Int}(hp:pcB p=true):knM (rdM m p)=true:=by
 have v:=zlu h.v p;unfold knM;have:((rdM m p).any fun r=>r.any fun x=>x.all)=false:=by
  rw[List.any_eq_false];intro r hr;rw[q5];rintro⟨x,hx,hxa⟩;obtain⟨i,hi⟩:=q3 hr;obtain⟨j,hj⟩:=q3 hx;have hil:=(q0.1 hi).1;have hjl:=(q0.1 hj).1;rw[v.len]at hil;rw[v.row r hr]at hjl;have e:=zzg h.v (p:=p) hil hjl;rw[zci hi hj]at e;have:=(zp6 (h.e i j hil hjl) hp (pwF O O)).k.all;rw[<-e,hxa]at this;cases this
 rw[this,v.len];simp
set_option maxHeartbeats 4000000
theorem qf6{D:Dy}{e:Int}(h0:0<=dv D)(h1:dv D<=pw e)(he: -1<=e):qd D<=e+1:=by
 by_cases hn:nm D=0
 .unfold qd;rw[Z4 hn];omega
 .unfold qd;rw[Z5 hn];have h3:=ym (n:=nm D) (e:=D.e) (t:=(bl (nm D):Int)+D.e-1) O hn;have h4:vN (nm D) D.e<=pw e:=by
   have:=zdc (nm D) D.e;have:=yz e;unfold dv at h1 h0;split at h1
   .rename_i c;rw[Z4 c]at h0;grind
   .exact h1
  have:=zat.1 (Rat.le_trans h3 h4);omega
set_option maxHeartbeats 8000000
structure Mt(x y:Iv):Prop where
 vx:VI x
 vy:VI y
 m:x.all=false->y.all=false->dv x.lo<=dv y.hi/\dv y.lo<=dv x.hi
theorem qjh{x y:Iv}(hx:VI x)(hy:VI y){s:Nat->Rat}(h1:lI s x)(h2:lI s y):Mt x y:=⟨hx,hy,fun a b=>⟨zuk h1 h2 a b,zuk h2 h1 b a⟩⟩
theorem qhb(a b:Dy):zc5 a b=a\/zc5 a b=b:=by unfold zc5;split<;>simp
theorem qhf(a b:Dy):zih a b=a\/zih a b=b:=by unfold zih;split<;>simp
theorem n54{x y:Iv}(h:Mt x y):∃z:Iv,Fn 22 [] [.agg (ivC x),.agg (ivC y)] (.tup [.agg (ivC z),.bool true]) []:=by
 obtain⟨hx,hy,hm⟩:=h;have c1:=zxp x hx.ri;have c2:=zxp y hy.ri;rw[(wu hx.ri).2 hx]at c1;rw[(wu hy.ri).2 hy]at c2;obtain⟨xl,xh,xa⟩:=x;obtain⟨yl,yh,ya⟩:=y
 cases xa with
 |true=>
  refine⟨⟨yl,yh,ya⟩,?_⟩;refine fZM Tryz.func22 rfl rfl ?_;conv=>whnf
  refine gZn c1 ?_;conv=>whnf
  refine gZn c2 ?_;conv=>whnf
  exact⟨lr rfl,lh0⟩
 |false=>
 cases ya with
 |true=>
  refine⟨⟨xl,xh,false⟩,?_⟩;refine fZM Tryz.func22 rfl rfl ?_;conv=>whnf
  refine gZn c1 ?_;conv=>whnf
  refine gZn c2 ?_;conv=>whnf
  exact⟨lr rfl,lh0⟩
 |false=>
 have kx:=(xi hx).1 rfl;have ky:=(xi hy).1 rfl;obtain⟨m1,m2⟩:=hm rfl rfl;have m1:dv xl<=dv yh:=m1;have m2:dv yl<=dv xh:=m2;have d1:dv xl<=dv xh:=kx.dle;have d2:dv yl<=dv yh:=ky.dle;have e1:Fn 75 [] [.agg (dyC xl),.agg (dyC yl)] (.agg (dyC (zc5 xl yl))) []:=qfh kx.lo ky.lo;have e2:Fn 76 [] [.agg (dyC xh),.agg (dyC yh)] (.agg (dyC (zih xh yh))) []:=qgz kx.hi ky.hi;have hA:VD (zc5 xl yl)/\dv (zc5 xl yl)<=dv xh/\dv (zc5 xl yl)<=dv yh:=by
  rcases qhb xl yl with e|e<;>rw[e]
  .exact⟨kx.lo,d1,m1⟩
  .exact⟨ky.lo,m2,d2⟩
 have hB:VD (zih xh yh)/\dv (zc5 xl yl)<=dv (zih xh yh):=by
  rcases qhf xh yh with e|e<;>rw[e]
  .exact⟨kx.hi,hA.2.1⟩
  .exact⟨ky.hi,hA.2.2⟩
 have e3:=zxo hA.1 hB.1;have hc:=jl.2 hB.2;generalize zc5 xl yl=A at*;generalize zih xh yh=B at*;refine⟨⟨A,B,false⟩,?_⟩;refine fZM Tryz.func22 rfl rfl ?_;conv=>whnf
 refine gZn c1 ?_;conv=>whnf
 refine gZn c2 ?_;conv=>whnf
 refine gZn e1 ?_;conv=>whnf
 refine gZn e2 ?_
 (refine⟨Z,Z,?_⟩;(conv=>whnf))
 refine gZn e3 ?_;conv=>whnf
 refine brI (fun c=>absurd (Z0 c) O) (fun c=>?_);conv=>whnf
 exact⟨lr rfl,lh0⟩
theorem n53{x y:Iv}(h:Mt x y):Fn 60 [] [.agg (ivC x),.agg (ivC y)] (.bool true) []:=by
 obtain⟨z,hz⟩:=n54 h;refine fZM Tryz.func60 rfl rfl ?_;conv=>whnf
 refine gZn hz ?_;conv=>whnf
 exact⟨lr rfl,lh0⟩
structure MtL(l m:List Iv):Prop where
 len:l.length=m.length
 b:l.length<1000000
 el:∀(i:Nat)(x y:Iv),l[i]? =some x->m[i]? =some y->Mt x y
theorem n52{l m:List Iv}(h:MtL l m):Fn 59 [] [.sl .iv l,.sl .iv m,.fn 60 []] (.bool true) []:=by
 have hl:=h.len;have hb:=h.b;have e:((l.length:Int) != (m.length:Int))=false:=OE;refine fZM Tryz.func59 rfl rfl ?_;conv=>whnf
 rw[e];conv=>whnf
 refine⟨Nat,fun i=>i<=l.length,fun i=> [(17,.int .i64 i)],fun i=> [(8,.free),(9,.free)],fun i=>l.length-i,0,Nat.zero_le _,?_,fun i hi=>?_⟩
 .exact KZ0
 (refine⟨Z,?_⟩;(conv=>whnf))
 refine brI (fun c=>?_) (fun c=>?_)
 .have c:i<l.length:=by have:=Z0 c;omega
  conv=>whnf
  refine⟨⟨O,O⟩,fun(x:Iv)hx=>?_⟩;have hx:l[i]? =some x:=by simpa using hx
  conv=>whnf
  refine⟨⟨O,O⟩,fun(y:Iv)hy=>?_⟩;have hy:m[i]? =some y:=by simpa using hy
  conv=>whnf
  refine gZn (n53 (h.el i x y hx hy)) ?_;conv=>whnf
  refine⟨i+1,c,by show l.length-(i+1)<l.length-i;omega,?_⟩;exact KZ0
 .conv=>whnf
  exact⟨lr rfl,lh0⟩
theorem n21{l m:List Iv}(h:MtL l m):Fn 14 [] [.sl .iv l,.sl .iv m] (.bool true) []:=by
 refine fZM Tryz.func14 rfl rfl ?_;conv=>whnf
 refine gZn (n52 h) ?_;conv=>whnf
 exact⟨lr rfl,lh0⟩
section
variable (x y z:Rat)
end
theorem n19(P:Int)(h:0<=P/\P<=255):Fn 12 [] [.int .u8 P] (.int .i64 (24+P % 41)) []:=by
 refine fZM Tryz.func12 rfl rfl ?_;conv=>whnf
 refine⟨OA,?_⟩;conv=>whnf
 refine⟨ai0 ?_,lh0⟩;rw[wI (x:=P) O];rw[Int.tmod_eq_emod_of_nonneg O,wI O]
