/-
  The enclosures of the exponential function are true.
-/
import Derived.Test.YtbolipecnhlnnaaGreatDoorQXe
import Derived.Test.YtbolipecnhlnnaaGreatDoorQMa
import Derived.Test.YtbolipecnhlnnaaGreatDoorQNk
set_option linter.unusedVariables false
set_option linter.unusedSimpArgs false
open Rat renaming mul_le_mul_of_nonneg_right->q3,mul_le_mul_of_nonneg_left->q4,le_refl->q5,le_trans->q6,mul_zero->q7,mul_comm->q9,div_def->qA,mul_one->qB
namespace Go.Proofs.YtbolipecnhlnnaaGreatDoor
open Go Go.Sx
set_option maxRecDepth 100000
set_option maxHeartbeats 4000000
theorem qd5 {x:Iv} (vx:VI x) {q:Rat} (h:inI q x) {p:Int} (hp:pcB p=true):inI (q*q) (sqI x p):=by
 unfold sqI;by_cases hk:kB x=true
 ·rw[if_pos ⟨hk,hp⟩];have k:=(zy vx.ri).1 hk;rcases h with c|⟨h1,h2⟩
  ·rw[k.all]at c;cases c
  obtain⟨a0,a1,a2⟩:=zmf k h1 h2
  cases ha:(jq (ue (zft x) (zft x) p.toNat false) (ue (jd x) (jd x) p.toNat true)).all with
  |true=>exact .inl ha
  |false=>
   obtain⟨o1,o2⟩:=ut.1 ha;rw[zaw ha];have l:=((zie (zp2 k) (zp2 k) (qu hp)).1.1 o1).1;have u:=((zie (xt k) (xt k) (qu hp)).2.1 o2).1;have r0:=zx q;have e:qd q*qd q=q*q:=by unfold qd;split<;>grind
   have s1:=q4 a1 a0;have s2:=q3 a1 r0;have s3:=q4 a2 r0;have s4:=q3 a2 (q6 r0 a2);exact .inr ⟨by grind,by grind⟩
 ·rw[if_neg fun c=>hk c.1];exact zu8 _
theorem lI_sq {s:Nat->Rat} {x:Iv} (vx:VI x) {p:Int} (hp:pcB p=true) (h:lI s x) (hb:Bnd s):lI (fun n=>s n*s n) (sqI x p):=fun e he=>by
 obtain⟨B,hB,hB'⟩:=hb;obtain⟨d0',d1⟩:=zbj he (show 0<=B+B+1 by grind);obtain⟨d,hd0,hd1,hd2⟩: ∃d:Rat,0<d/\d<=1/\d<=e/(B+B+1+1):=by
  rcases Rat.le_total (a:=e/(B+B+1+1)) (b:=1)with c|c
  ·exact⟨_,d0',c,q5⟩
  ·exact⟨1,by decide,q5,c⟩
 obtain⟨N,hN⟩:=h d hd0;refine⟨N,fun n hn=>?_⟩;obtain⟨q,hq,hq2⟩:=hN n hn;refine⟨q*q,qd5 vx hq hp,?_⟩;have h1:=hB' n;have e1:s n*s n-q*q=(s n-q)*(s n+q):=by grind
 rw[e1,zac];have h2:qd (s n+q)<=B+B+1:=by
  have h3:=zat (s n+s n) (-(s n-q));have h4:=zat (s n) (s n);rw[zas]at h3;rw[show s n+s n+ -(s n-q)=s n+q by grind]at h3;grind
 have h5:=q4 h2 (zx (s n-q));have h6:=q3 (q6 hq2 hd2) (show 0<=B+B+1 by grind);generalize e/(B+B+1+1)=z at*;grind
theorem rQ_z: ∀n,eS 0 n=1
 |0=>rfl
 |n+1=>by
  show eS 0 n+rQ 0 (n+1)=1;rw[rQ_z n,show rQ 0 (n+1)=0 by unfold rQ;grind];grind
theorem zzk {x:Iv} (vx:VI x) {q r:Rat} (h:inI q x) (hr:qd r<=qd q):inI r (arI x):=by
 unfold arI;split
 ·rename_i hk;have k:=(zy vx.ri).1 hk;rcases h with c|⟨h1,h2⟩
  ·rw[k.all]at c;cases c
  obtain⟨a0,a1,a2⟩:=zmf k h1 h2;obtain⟨r1,r2⟩:=ud r;refine .inr ⟨?_,?_⟩
  ·show dv (uy (jd x))<=r;rw[zck];grind
  ·show r<=dv (jd x);grind
 ·exact zu8 _
theorem zy9 {y:Iv} (vy:VI y) {q:Rat} (hq:inI q y) {p:Int} (hp:pcB p=true): ∀(f m:Nat) (t s:Iv),m+f<=100000->VI t->VI s->inI (rQ q m) t->inI (eS q m) s->
 ∃K,VI (exG y p f (m+1) t s).1/\VI (exG y p f (m+1) t s).2/\inI (rQ q K) (exG y p f (m+1) t s).1/\inI (eS q K) (exG y p f (m+1) t s).2
 |0,m,t,s,_,vt,vs,ht,hs=>⟨m,vt,vs,ht,hs⟩
 |f+1,m,t,s,hm,vt,vs,ht,hs=>by
  have vm:=wq vt vy hp;have vw:VI (whI ((m+1:Nat):Int)):=zao (by omega);have vd:=zhd vm vw hp;have i1:=znw vm vw hp (zcj vt vy hp ht hq) (zc0 ((m+1:Nat):Int));rw[Rat.intCast_natCast,qA]at i1;have e:rQ q m*q*((m+1:Nat):Rat)⁻¹ =rQ q (m+1):=by
   show _=rQ q m*q*(1/((m+1:Nat):Rat));rw[qA,Rat.one_mul]
  rw[e]at i1;have va:=zho vs vd hp;have i2:inI (eS q (m+1)) (yo s (zcx (jh t y p) (whI ((m+1:Nat):Int)) p) p):=zi4 vs vd hp hs i1;unfold exG;split
  ·exact⟨m+1,vd,va,i1,i2⟩
  ·exact zy9 vy hq hp f (m+1) _ _ (by omega) vd va i1 i2
theorem ex_li {y:Iv} (vy:VI y) {q:Rat} (hq:inI q y) (hb:qd q*2<=1) {p:Int} (hp:pcB p=true):VI (zvf y p)/\lI (eS q) (zvf y p):=by
 have hp2:8<=p/\p<=512:=by
  obtain⟨q,rfl,hq⟩:=jz.1 hp;omega
 obtain⟨K,v1,v2,i1,i2⟩:=zy9 vy hq hp (p.toNat+2) 0 (whI 1) (whI 1) (by omega) (zao (by decide)) (zao (by decide)) (zc0 1) (zc0 1);have hT: ∀n,K<=n->qd (eS q n-eS q K)<=qd (rQ q K):=fun n hn=>by
  rw[ze1];refine qbz ?_ hn;have:(1:Rat)<=((K+1:Nat):Rat):=by
   have:((1:Nat):Rat)<=((K+1:Nat):Rat):=Rat.natCast_le_natCast.2 (by omega);exact this
  exact q6 hb this
 have va:VI (arI (exG y p (p.toNat+2) 1 (whI 1) (whI 1)).1):=zd3 (qhb v1.ri) (zzk v1 i1 (q5 (a:=qd (rQ q K))));have hin: ∀n,K<=n->inI (eS q n) (zvf y p):=fun n hn=>by
  have:=zi4 v2 va hp i2 (zzk v1 i1 (hT n hn));rw[show eS q K+(eS q n-eS q K)=eS q n by grind]at this;exact this
 exact⟨zd3 (qg9 y p) (hin K (Nat.le_refl _)),ztc K hin⟩
theorem qfs {p:Int} (hp:pcB p=true): ∀(n:Nat) (y:Iv) (q:Rat),VI y->inI q y->qd q*2<=pw (n:Int)->VI (haI p n y)/\lI (eS q) (haI p n y)
 |0,y,q,vy,hq,hb=>ex_li vy hq (by rw[show pw ((0:Nat):Int)=1 by rw[wp];rfl]at hb;exact hb) hp
 |n+1,y,q,vy,hq,hb=>by
  have vz:=zb0 vy (-1);have hz:=zon vy (j:= -1) hq;have h2:pw (-1)*2=1:=by
   have e1:(2:Rat)=pw 1:=by rw[show(1:Int)=((1:Nat):Int)from rfl,wp];rfl
   rw[e1,←pwA,show(-1+1:Int)=((0:Nat):Int)from rfl,wp];rfl
  have e2:pw (((n+1:Nat)):Int)*pw (-1)=pw (n:Int):=by rw[←pwA];congr 1;omega
  have hb':qd (q*pw (-1))*2<=pw (n:Int):=by
   rw[zac,jn (za8 (-1)),←e2];have:=q3 hb (za8 (-1));grind
  obtain⟨v,l⟩:=qfs hp n (zq y (-1)) (q*pw (-1)) vz hz hb';have hs:=(lI_sq v hp l (zzb _)).nul (zt7 (q*pw (-1)) (q*pw (-1)));rw[show q*pw (-1)+q*pw (-1)=q by rw[←Rat.mul_add,show pw (-1)+pw (-1)=1 by grind,qB]]at hs;refine⟨?_,hs⟩;exact zd3 (qg5 p) (qd5 v (znj v) hp)
theorem qek {d:Dy} (hd:VD d) {p:Int} (hp:pcB p=true):VI (poI d p)/\lI (eS (dv d)) (poI d p):=by
 have hp2:8<=p/\p<=512:=by
  obtain⟨q,rfl,hq⟩:=jz.1 hp;omega
 unfold poI;split
 ·rename_i h0;have:dv d=0:=(zfh d).2.2.1 h0;rw[this];exact⟨zao (by decide),ztc 0 fun n _=>by rw[rQ_z];exact zc0 1⟩
 ·rename_i h0;have hn:nm d≠0:=fun c=>h0 (by unfold wk;rw[if_pos c])
  obtain⟨t1,t2⟩:=zpm hn;have hG:pcB (guP p (hvN d+24))=true:=qfu hp2 (by omega);have vp:VI (zj d):= .inl (zhq hd);have ip:inI (dv d) (zj d):= .inr ⟨q5,q5⟩;have hb:qd (dv d)*2<=pw ((hvN d:Nat):Int):=by
   have h1:qd (dv d)<=pw (zu d):=xw.2 ⟨t1,t2⟩;have h2:pw (zu d)*2=pw (zu d+1):=by
    rw[pwA,show pw 1=2 by rw[show(1:Int)=((1:Nat):Int)from rfl,wp];rfl]
   have h3:pw (zu d+1)<=pw ((hvN d:Nat):Int):=xx.2 (by unfold hvN;omega);grind
  obtain⟨v,l⟩:=qfs hG (hvN d) (wj (zj d) (guP p (hvN d+24))) (dv d) (zjm vp _) (zge vp ip) hb;exact⟨zjm v p,qe9 (fun q hq=>zge v hq) l⟩
theorem qfx {x:Iv} (vx:VI x) {q:Rat} (hq:inI q x) (p:Int):VI (zve x p)/\lI (eS q) (zve x p):=by
 have hw:VI wI0/\lI (eS q) wI0:=⟨.inr rfl,ztc 0 fun n _=>zu8 _⟩;unfold zve;split
 ·rename_i h;obtain⟨hf,_,_⟩:=h;unfold ftB at hf;rw[Bool.and_eq_true]at hf;have k:=(zy vx.ri).1 hf.1;rcases hq with c|⟨q1,q2⟩
  ·rw[k.all]at c;cases c
  obtain⟨v1,l1⟩:=qek k.lo hf.2;obtain⟨v2,l2⟩:=qek k.hi hf.2;have hc:CI (edI (poI x.lo p) (poI x.hi p)):=CI_ed (qg6 _ _) (qg6 _ _);unfold edI at hc⊢;split
  ·exact hw
  ·rename_i hn;rw[if_neg hn]at hc;have a1:(poI x.lo p).all =false:=by simpa using fun c=>hn (.inl c)
   have a2:(poI x.hi p).all =false:=by simpa using fun c=>hn (.inr c)
   have main: ∀e:Rat,0<e-> ∃N:Nat,∀n,N<=n->dv (poI x.lo p).lo -e<=eS q n/\eS q n<=dv (poI x.hi p).hi +e:=fun e he=>by
    obtain⟨e1,e2⟩:=zax he;obtain⟨N1,h1⟩:=zww l1 a1 e1;obtain⟨N2,h2⟩:=zww l2 a2 e1;obtain⟨N3,h3⟩:=zt6 q1 e1;obtain⟨N4,h4⟩:=zt6 q2 e1;refine⟨N1+N2+N3+N4,fun n hn=>?_⟩;have g1:=(h1 n (by omega)).1;have g2:=(h2 n (by omega)).2;have g3:=h3 n (by omega);have g4:=h4 n (by omega);constructor<;>grind
   have hle:dv (poI x.lo p).lo <=dv (poI x.hi p).hi :=zyz fun e he=>by
    obtain⟨e1,e2⟩:=zax he;obtain⟨N,hN⟩:=main _ e1;have:=hN N (Nat.le_refl _);grind
   exact⟨.inl (zxw hc rfl hle),qbi hle main⟩
 ·exact hw
def dgQ (f:Nat->Rat) (i j:Nat):Rat:=if i=j then f i else 0
theorem qem {k:Nat} {f:Nat->Rat} {a b:Nat} (hb:b<=k): ∀n,pQ k (dgQ f) n a b=if a=b then rpw (f a) n else 0
 |0=>by show dlt a b=_;unfold dlt;split<;>rfl
 |n+1=>by
  show mQ k (pQ k (dgQ f) n) (dgQ f) a b=_;unfold mQ;have e:sQ (fun r=>pQ k (dgQ f) n a r*dgQ f r b) k=sQ (fun r=>(pQ k (dgQ f) n a r*f b)*dlt r b) k:=yd fun r hr=>by
   unfold dgQ dlt;by_cases c:r=b
   ·subst c;rw[if_pos rfl,if_pos rfl,qB]
   ·rw[if_neg c,if_neg c,q7,q7]
  rw[e,qam,if_pos hb,qem hb n];by_cases c:a=b
  ·subst c;rw[if_pos rfl,if_pos rfl];rfl
  ·rw[if_neg c,if_neg c,Rat.zero_mul]
theorem sQ_0: ∀n,sQ (fun _=>(0:Rat)) n=0
 |0=>rfl
 |n+1=>by show sQ _ n+0=0;rw[sQ_0 n];exact Rat.add_zero 0
theorem qdj {k:Nat} {f:Nat->Rat} {a b:Nat} (hb:b<=k) (t:Rat) (n:Nat):xQ k (dgQ f) t n a b=if a=b then eS (t*f a) n else 0:=by
 unfold xQ gQ;have e:sQ (fun i=>rQ t i*pQ k (dgQ f) i a b) n=sQ (fun i=>if a=b then rQ (t*f a) i else 0) n:=yd fun i _=>by
  rw[qem hb];split
  ·exact zk1 t (f a) i
  ·rw[q7]
 rw[e];split
 ·rfl
 ·exact sQ_0 n
theorem zr8 {x:Iv} {B:Rat} (hb:kI B x) (h1: -80<=x.lo.e) (h2: -80<=x.hi.e) {s:Nat} (hs:s<=8):kI B (zq x (-(s:Int))):=by
 have k:=hb.k;have hk:kB x=true:=(zy k.ri).2 k;have ho: ∀d:Dy,VD d-> -80<=d.e->(vj d (-(s:Int))).2=0:=fun d v he=>by
  unfold vj;rw[if_neg (by unfold exB;simp;omega)];unfold ckN;rw[if_pos];have h1:=v.bits;have h2:=v.exp;exact zii h1 (by omega) (by omega)
 have ha:(zq x (-(s:Int))).all =false:=by
  unfold zq;rw[if_pos hk];exact ut.2 ⟨ho _ k.lo h1,ho _ k.hi h2⟩
 have h2:=ztj (zki hb.b (-(s:Int))) ha;refine h2.mono ?_;have h3:pw (-(s:Int))<=pw 0:=xx.2 (by omega);rw[zv7]at h3;have:=q4 h3 hb.nn;grind
theorem zo8 {x:Iv} (k:KI x):kI (dv (ze3 x)) x:=by
 obtain⟨h0,h1,h2,h3,h4⟩:=zs5 k;exact⟨k,h1,h4⟩
theorem qd7 {k:Nat} (hk:k<=2) {a:Mx} {t:Iv} (va:VM (k+1) (k+1) a) (hs:SmM a t) (kt:KI t) (hel: ∀r∈a,∀x∈r,KI x) {p:Int} (hp:pcB p=true): ∃w,zkh a t p=some w:=by
 have lt:=qbb hs.lt;have h20:=qa4 lt.2.2.2.2;refine qah hk va (fun r hr y hy=>(zo8 (hel r hr y hy)).mono (qa4 (qbb (hs.la r hr y hy)).2.2.2.2)) kt (fun s h8=>(zr8 (zo8 kt) lt.2.2.1 lt.2.2.2.1 h8).mono h20) (fun q hq r hr y hy=>?_) hp;have:=sm_sz hs kt hr hy (hel r hr y hy);rw[q9]at this;exact qbl (zo8 kt) (zo8 (hel r hr y hy)) this hq (pwF (by decide) (by decide))
theorem zxg {k:Nat} (hk:k<=2) {f:Nat->Rat} {m:Mx} (hm:inM (k+1) (k+1) (dgQ f) m) {t:Iv} (kt:KI t) {p:Int} (hp:pcB p=true) {w:MPr} (hw:zkh m t p=some w):
 VM (k+1) (k+1) w.exp/\ ∀i j,i<=k->j<=k->(i≠j->Mt (atM w.exp i j) (whI 0))/\(i=j-> ∀(u:Iv),VI u->inI (f i*dv t.hi) u->Mt (atM w.exp i j) (zve u p)):=by
 have ht:inI (dv t.hi) t:= .inr ⟨kt.dle,q5⟩;obtain⟨l1,_⟩:=qgl (by omega) hm kt ht hp hw;refine⟨l1.v,fun i j hi hj=>⟨fun c=>?_,fun c u vu hu=>?_⟩⟩
 ·have v:=yn l1.v (i:=i) (j:=j) (by omega) (by omega);refine zzm v (zao (by decide)) ((l1.l i j hi hj).cg (t:=fun _=>0) fun n=>?_) (qfb (zc0 0));rw[qdj hj,if_neg c]
 ·subst c;have v:=yn l1.v (i:=i) (j:=i) (by omega) (by omega);obtain⟨ve,le⟩:=qfx vu hu p;refine zzm v ve ((l1.l i i hi hi).cg (t:=eS (f i*dv t.hi)) fun n=>?_) le;rw[qdj hi,if_pos rfl,q9]
end Go.Proofs.YtbolipecnhlnnaaGreatDoor
