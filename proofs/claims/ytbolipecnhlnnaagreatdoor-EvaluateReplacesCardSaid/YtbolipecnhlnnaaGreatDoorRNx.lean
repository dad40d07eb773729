/-
  The enclosures of the exponential function are true.
-/
import Derived.Test.YtbolipecnhlnnaaGreatDoorRXf
import Derived.Test.YtbolipecnhlnnaaGreatDoorRMa
set_option linter.unusedVariables false
set_option linter.unusedSimpArgs false
open Rat renaming mul_le_mul_of_nonneg_right->q3,mul_le_mul_of_nonneg_left->q4,le_refl->q5,div_def->q6,mul_nonneg->q7,le_of_lt->q9,mul_inv_cancel->qd,le_trans->qn,le_total->qA,natCast_le_natCast->qB,intCast_natCast->qC,inv_pos->qD,sub_self->qE
namespace Go.Proofs.YtbolipecnhlnnaaGreatDoor
open Go Go.Sx
set_option maxRecDepth 100000
set_option maxHeartbeats 4000000
theorem zwm {x:Iv} (vx:VI x) {q:Rat} (h:inI q x) {p:Int} (hp:pcB p=true):inI (q*q) (sqI x p):=by
 unfold sqI;by_cases hk:kB x=true
 ·rw[if_pos ⟨hk,hp⟩];have k:=(zp vx.ri).1 hk;rcases h with c|⟨h1,h2⟩
  ·rw[k.all]at c;cases c
  obtain⟨a0,a1,a2⟩:=zhh k h1 h2
  cases ha:(wa (jv (zb3 x) (zb3 x) p.toNat false) (jv (jx x) (jx x) p.toNat true)).all with
  |true=>exact .inl ha
  |false=>
   obtain⟨o1,o2⟩:=uw.1 ha;rw[yg ha];have l:=((za0 (ze6 k) (ze6 k) (qr hp)).1.1 o1).1;have u:=((za0 (za4 k) (za4 k) (qr hp)).2.1 o2).1;have r0:=wd q;have e:qx q*qx q=q*q:=by unfold qx;split<;>grind
   have s1:=q4 a1 a0;have s2:=q3 a1 r0;have s3:=q4 a2 r0;have s4:=q3 a2 (qn r0 a2);exact .inr ⟨by grind,by grind⟩
 ·rw[if_neg fun c=>hk c.1];exact zv2 _
theorem lI_sq {s:Nat->Rat} {x:Iv} (vx:VI x) {p:Int} (hp:pcB p=true) (h:lI s x) (hb:Bnd s):lI (fun n=>s n*s n) (sqI x p):=fun e he=>by
 obtain⟨B,hB,hB'⟩:=hb;obtain⟨d0',d1⟩:=zdu he (show 0<=B+B+1 by grind);obtain⟨d,hd0,hd1,hd2⟩: ∃d:Rat,0<d/\d<=1/\d<=e/(B+B+1+1):=by
  rcases qA (a:=e/(B+B+1+1)) (b:=1)with c|c
  ·exact⟨_,d0',c,q5⟩
  ·exact⟨1,by decide,q5,c⟩
 obtain⟨N,hN⟩:=h d hd0;refine⟨N,fun n hn=>?_⟩;obtain⟨q,hq,hq2⟩:=hN n hn;refine⟨q*q,zwm vx hq hp,?_⟩;have h1:=hB' n;have e1:s n*s n-q*q=(s n-q)*(s n+q):=by grind
 rw[e1,zaz];have h2:qx (s n+q)<=B+B+1:=by
  have h3:=yq (s n+s n) (-(s n-q));have h4:=yq (s n) (s n);rw[zao]at h3;rw[show s n+s n+ -(s n-q)=s n+q by grind]at h3;grind
 have h5:=q4 h2 (wd (s n-q));have h6:=q3 (qn hq2 hd2) (show 0<=B+B+1 by grind);generalize e/(B+B+1+1)=z at*;grind
theorem rQ_z: ∀n,eS 0 n=1
 |0=>rfl
 |n+1=>by
  show eS 0 n+rQ 0 (n+1)=1;rw[rQ_z n,show rQ 0 (n+1)=0 by unfold rQ;grind];grind
theorem zp2 {x:Iv} (vx:VI x) {q r:Rat} (h:inI q x) (hr:qx r<=qx q):inI r (arI x):=by
 unfold arI;split
 ·rename_i hk;have k:=(zp vx.ri).1 hk;rcases h with c|⟨h1,h2⟩
  ·rw[k.all]at c;cases c
  obtain⟨a0,a1,a2⟩:=zhh k h1 h2;obtain⟨r1,r2⟩:=ug r;refine .inr ⟨?_,?_⟩
  ·show dv (yw (jx x))<=r;rw[za3];grind
  ·show r<=dv (jx x);grind
 ·exact zv2 _
theorem zzq {y:Iv} (vy:VI y) {q:Rat} (hq:inI q y) {p:Int} (hp:pcB p=true): ∀(f m:Nat) (t s:Iv),m+f<=100000->VI t->VI s->inI (rQ q m) t->inI (eS q m) s->
 ∃K,VI (exG y p f (m+1) t s).1/\VI (exG y p f (m+1) t s).2/\inI (rQ q K) (exG y p f (m+1) t s).1/\inI (eS q K) (exG y p f (m+1) t s).2
 |0,m,t,s,_,vt,vs,ht,hs=>⟨m,vt,vs,ht,hs⟩
 |f+1,m,t,s,hm,vt,vs,ht,hs=>by
  have vm:=zlc vt vy hp;have vw:VI (whI ((m+1:Nat):Int)):=zfb (by omega);have vd:=zbt vm vw hp;have i1:=zg6 vm vw hp (zoz vt vy hp ht hq) (zcp ((m+1:Nat):Int));rw[qC,q6]at i1;have e:rQ q m*q*((m+1:Nat):Rat)⁻¹ =rQ q (m+1):=by
   show _=rQ q m*q*(1/((m+1:Nat):Rat));rw[q6,Rat.one_mul]
  rw[e]at i1;have va:=zea vs vd hp;have i2:inI (eS q (m+1)) (uk s (ym (zac t y p) (whI ((m+1:Nat):Int)) p) p):=zhg vs vd hp hs i1;unfold exG;split
  ·exact⟨m+1,vd,va,i1,i2⟩
  ·exact zzq vy hq hp f (m+1) _ _ (by omega) vd va i1 i2
theorem ex_li {y:Iv} (vy:VI y) {q:Rat} (hq:inI q y) (hb:qx q*2<=1) {p:Int} (hp:pcB p=true):VI (zv9 y p)/\lI (eS q) (zv9 y p):=by
 have hp2:8<=p/\p<=512:=by
  obtain⟨q,rfl,hq⟩:=kg.1 hp;omega
 obtain⟨K,v1,v2,i1,i2⟩:=zzq vy hq hp (p.toNat+2) 0 (whI 1) (whI 1) (by omega) (zfb (by decide)) (zfb (by decide)) (zcp 1) (zcp 1);have hT: ∀n,K<=n->qx (eS q n-eS q K)<=qx (rQ q K):=fun n hn=>by
  rw[zh5];refine qcl ?_ hn;have:(1:Rat)<=((K+1:Nat):Rat):=by
   have:((1:Nat):Rat)<=((K+1:Nat):Rat):=qB.2 (by omega);exact this
  exact qn hb this
 have va:VI (arI (exG y p (p.toNat+2) 1 (whI 1) (whI 1)).1):=xw (zyo v1.ri) (zp2 v1 i1 (q5 (a:=qx (rQ q K))));have hin: ∀n,K<=n->inI (eS q n) (zv9 y p):=fun n hn=>by
  have:=zhg v2 va hp i2 (zp2 v1 i1 (hT n hn));rw[show eS q K+(eS q n-eS q K)=eS q n by grind]at this;exact this
 exact⟨xw (qhy y p) (hin K (Nat.le_refl _)),zq5 K hin⟩
theorem qgb {p:Int} (hp:pcB p=true): ∀(n:Nat) (y:Iv) (q:Rat),VI y->inI q y->qx q*2<=pw (n:Int)->VI (haI p n y)/\lI (eS q) (haI p n y)
 |0,y,q,vy,hq,hb=>ex_li vy hq (by rw[show pw ((0:Nat):Int)=1 by rw[zbf];rfl]at hb;exact hb) hp
 |n+1,y,q,vy,hq,hb=>by
  have vz:=zjj vy (-1);have hz:=zji vy (j:= -1) hq;have h2:pw (-1)*2=1:=by
   have e1:(2:Rat)=pw 1:=by rw[show(1:Int)=((1:Nat):Int)from rfl,zbf];rfl
   rw[e1,←pwA,show(-1+1:Int)=((0:Nat):Int)from rfl,zbf];rfl
  have e2:pw (((n+1:Nat)):Int)*pw (-1)=pw (n:Int):=by rw[←pwA];congr 1;omega
  have hb':qx (q*pw (-1))*2<=pw (n:Int):=by
   rw[zaz,jh (zeh (-1)),←e2];have:=q3 hb (zeh (-1));grind
  obtain⟨v,l⟩:=qgb hp n (wh y (-1)) (q*pw (-1)) vz hz hb';have hs:=(lI_sq v hp l (zzr _)).nul (zu1 (q*pw (-1)) (q*pw (-1)));rw[show q*pw (-1)+q*pw (-1)=q by rw[←Rat.mul_add,show pw (-1)+pw (-1)=1 by grind,Rat.mul_one]]at hs;refine⟨?_,hs⟩;exact xw (qdf p) (zwm v (zlh v) hp)
theorem qfd {d:Dy} (hd:VD d) {p:Int} (hp:pcB p=true):VI (poI d p)/\lI (eS (dv d)) (poI d p):=by
 have hp2:8<=p/\p<=512:=by
  obtain⟨q,rfl,hq⟩:=kg.1 hp;omega
 unfold poI;split
 ·rename_i h0;have:dv d=0:=(uf d).2.2.1 h0;rw[this];exact⟨zfb (by decide),zq5 0 fun n _=>by rw[rQ_z];exact zcp 1⟩
 ·rename_i h0;have hn:nm d≠0:=fun c=>h0 (by unfold wl;rw[if_pos c])
  obtain⟨t1,t2⟩:=zzs hn;have hG:pcB (guP p (hvN d+24))=true:=zq9 hp2 (by omega);have vp:VI (qp d):= .inl (zrk hd);have ip:inI (dv d) (qp d):= .inr ⟨q5,q5⟩;have hb:qx (dv d)*2<=pw ((hvN d:Nat):Int):=by
   have h1:qx (dv d)<=pw (zg d):=zeg.2 ⟨t1,t2⟩;have h2:pw (zg d)*2=pw (zg d+1):=by
    rw[pwA,show pw 1=2 by rw[show(1:Int)=((1:Nat):Int)from rfl,zbf];rfl]
   have h3:pw (zg d+1)<=pw ((hvN d:Nat):Int):=zei.2 (by unfold hvN;omega);grind
  obtain⟨v,l⟩:=qgb hG (hvN d) (qm (qp d) (guP p (hvN d+24))) (dv d) (zdn vp _) (zbe vp ip) hb;exact⟨zdn v p,qb5 (fun q hq=>zbe v hq) l⟩
theorem qgj {x:Iv} (vx:VI x) {q:Rat} (hq:inI q x) (p:Int):VI (zrb x p)/\lI (eS q) (zrb x p):=by
 have hw:VI wI0/\lI (eS q) wI0:=⟨.inr rfl,zq5 0 fun n _=>zv2 _⟩;unfold zrb;split
 ·rename_i h;obtain⟨hf,_,_⟩:=h;unfold ftB at hf;rw[Bool.and_eq_true]at hf;have k:=(zp vx.ri).1 hf.1;rcases hq with c|⟨q1,q2⟩
  ·rw[k.all]at c;cases c
  obtain⟨v1,l1⟩:=qfd k.lo hf.2;obtain⟨v2,l2⟩:=qfd k.hi hf.2;have hc:CI (edI (poI x.lo p) (poI x.hi p)):=zyn (zyl _ _) (zyl _ _);unfold edI at hc⊢;split
  ·exact hw
  ·rename_i hn;rw[if_neg hn]at hc;have a1:(poI x.lo p).all =false:=by simpa using fun c=>hn (.inl c)
   have a2:(poI x.hi p).all =false:=by simpa using fun c=>hn (.inr c)
   have main: ∀e:Rat,0<e-> ∃N:Nat,∀n,N<=n->dv (poI x.lo p).lo -e<=eS q n/\eS q n<=dv (poI x.hi p).hi +e:=fun e he=>by
    obtain⟨e1,e2⟩:=zat he;obtain⟨N1,h1⟩:=zxi l1 a1 e1;obtain⟨N2,h2⟩:=zxi l2 a2 e1;obtain⟨N3,h3⟩:=zu0 q1 e1;obtain⟨N4,h4⟩:=zu0 q2 e1;refine⟨N1+N2+N3+N4,fun n hn=>?_⟩;have g1:=(h1 n (by omega)).1;have g2:=(h2 n (by omega)).2;have g3:=h3 n (by omega);have g4:=h4 n (by omega);constructor<;>grind
   have hle:dv (poI x.lo p).lo <=dv (poI x.hi p).hi :=zzh fun e he=>by
    obtain⟨e1,e2⟩:=zat he;obtain⟨N,hN⟩:=main _ e1;have:=hN N (Nat.le_refl _);grind
   exact⟨.inl (zrl hc rfl hle),qb6 hle main⟩
 ·exact hw
def oQ (z:Rat):Nat->Rat
 |0=>z
 |k+1=>oQ z k*(z*z)
def aT (z:Rat) (k:Nat):Rat:=oQ z k/((2*k+1:Nat):Rat)
def aS (z:Rat) (n:Nat):Rat:=sQ (aT z) n
theorem qav (z:Rat):0<=z*z:=by
 rcases qA (a:=0) (b:=z)with c|c
 ·exact q7 c c
 ·have:=q7 (show 0<= -z by grind) (show 0<= -z by grind);grind
theorem ztn (z:Rat): ∀k,qx (oQ z k)=oQ (qx z) k
 |0=>rfl
 |k+1=>by
  show qx (oQ z k*(z*z))=oQ (qx z) k*(qx z*qx z);rw[zaz,ztn z k,zaz]
theorem zk7 {z:Rat} (h:0<=z): ∀k,0<=oQ z k
 |0=>h
 |k+1=>q7 (zk7 h k) (qav z)
theorem ztm (k:Nat):0<((2*k+1:Nat):Rat)⁻¹ /\((2*k+1:Nat):Rat)⁻¹ <=1:=by
 have h1:((1:Nat):Rat)<=((2*k+1:Nat):Rat):=qB.2 (by omega);have h2:(1:Rat)<=((2*k+1:Nat):Rat):=h1;generalize ((2*k+1:Nat):Rat)=c at*;have h0:0<c:=by grind
 have hi:=qD.2 h0;refine⟨hi,?_⟩;have:=q3 h2 (q9 hi);rw[qd _ (by grind)]at this;grind
theorem aT_le (z:Rat) (k:Nat):qx (aT z k)<=oQ (qx z) k:=by
 unfold aT;obtain⟨h1,h2⟩:=ztm k;rw[q6,zaz,ztn,jh (q9 h1)];have:=q4 h2 (zk7 (wd z) k);grind
theorem znv {z:Rat} (hz:z*z*2<=1) (K:Nat): ∀d:Nat,qx (aS z (K+d)-aS z K)<=oQ (qx z) K-oQ (qx z) (K+d)
 |0=>by rw[Nat.add_zero,qE,qE,zkx];exact q5
 |d+1=>by
  have ih:=znv hz K d;have e:aS z (K+(d+1))=aS z (K+d)+aT z (K+d+1):=rfl;have ht:=aT_le z (K+d+1);have h0:=zk7 (wd z) (K+d);have e2:oQ (qx z) (K+d+1)=oQ (qx z) (K+d)*(z*z):=by
   show oQ (qx z) (K+d)*(qx z*qx z)=_;rw[←zaz,jh (qav z)]
  have h1:oQ (qx z) (K+d+1)*2<=oQ (qx z) (K+d):=by
   rw[e2];have:=q4 hz h0;grind
  have h2:=yq (aS z (K+d)-aS z K) (aT z (K+d+1));rw[e,show aS z (K+d)+aT z (K+d+1)-aS z K=aS z (K+d)-aS z K+aT z (K+d+1) by grind,show K+(d+1)=K+d+1 from rfl];grind
theorem qhh {z:Rat} (hz:z*z*2<=1):Bnd (aS z):=⟨qx z+qx z,by have:=wd z;grind,fun n=>by
 have h:=znv hz 0 n;rw[Nat.zero_add]at h;have h1:=zk7 (wd z) n;have e:aS z 0=z:=by show z/((2*0+1:Nat):Rat)=z;rw[show((2*0+1:Nat):Rat)=1 from rfl,q6];grind
 have e2:oQ (qx z) 0=qx z:=rfl;rw[e,e2]at h;have h2:=yq (aS z n-z) z;rw[show aS z n-z+z=aS z n by grind]at h2;grind⟩
theorem qbp {x y:Rat} (h:x<=y): ∀k,oQ x k<=oQ y k:=fun k=>by
 have pos: ∀ {a b:Rat},0<=a->a<=b-> ∀k,oQ a k<=oQ b k:=by
  intro a b ha hab k
  induction k with
  |zero=>exact hab
  |succ k ih=>
   show oQ a k*(a*a)<=oQ b k*(b*b);have h1:a*a<=b*b:=by
    have h2:=q4 hab ha;have h3:=q3 hab (qn ha hab);grind
   have h4:=q4 h1 (zk7 ha k);have h5:=q3 ih (qav b);grind
 have neg: ∀(a:Rat) (k:Nat),oQ (-a) k= -oQ a k:=by
  intro a k
  induction k with
  |zero=>rfl
  |succ k ih=>show oQ (-a) k*(-a* -a)= -(oQ a k*(a*a));rw[ih];grind
 rcases qA (a:=0) (b:=x)with c|c
 ·exact pos c h k
 ·rcases qA (a:=0) (b:=y)with d|d
  ·have h1:=zk7 d k;have h2:=zk7 (show 0<= -x by grind) k;rw[neg]at h2;grind
  ·have:=pos (show 0<= -y by grind) (show-y<= -x by grind) k;rw[neg,neg]at this;grind
theorem zki {x y:Rat} (h:x<=y) (n:Nat):aS x n<=aS y n:=zga fun k _=>by
 unfold aT;rw[q6,q6];exact q3 (qbp h k) (q9 (ztm k).1)
theorem zp9 (x:Rat) (n:Nat):aS (-x) n= -aS x n:=by
 have neg: ∀(k:Nat),oQ (-x) k= -oQ x k:=by
  intro k
  induction k with
  |zero=>rfl
  |succ k ih=>show oQ (-x) k*(-x* -x)= -(oQ x k*(x*x));rw[ih];grind
 unfold aS;have e:sQ (aT (-x)) n=sQ (fun k=>(-1)*aT x k) n:=zgb fun k _=>by unfold aT;rw[neg,q6,q6];grind
 rw[e,zbd];grind
theorem zzg {z:Iv} (vz:VI z) {q:Rat} (hq:inI q z) {p:Int} (hp:pcB p=true): ∀(f m:Nat) (w s:Iv),m+f<=100000->VI w->VI s->inI (oQ q m) w->inI (aS q m) s->
 ∃K,VI (lgG (sqI z p) p f (2*m+3) w s).1/\VI (lgG (sqI z p) p f (2*m+3) w s).2/\inI (oQ q K) (lgG (sqI z p) p f (2*m+3) w s).1/\inI (aS q K) (lgG (sqI z p) p f (2*m+3) w s).2
 |0,m,w,s,_,vw,vs,hw,hs=>⟨m,vw,vs,hw,hs⟩
 |f+1,m,w,s,hm,vw,vs,hw,hs=>by
  unfold lgG;split
  ·exact⟨m,vw,vs,hw,hs⟩
  ·have vq:VI (sqI z p):=xw (qdf p) (zwm vz (zlh vz) hp);have vm:=zlc vw vq hp;have i1:inI (oQ q (m+1)) (zac w (sqI z p) p):=zoz vw vq hp hw (zwm vz hq hp);have vn:VI (whI ((2*m+3:Nat):Int)):=zfb (by omega);have vd:=zbt vm vn hp;have i2:=zg6 vm vn hp i1 (zcp ((2*m+3:Nat):Int));rw[qC]at i2;have i3:inI (aS q (m+1)) (uk s (ym (zac w (sqI z p) p) (whI ((2*m+3:Nat):Int)) p) p):=zhg vs vd hp hs i2;have:=zzg vz hq hp f (m+1) _ _ (by omega) vm (zea vs vd hp) i1 i3;rw[show 2*(m+1)+3=2*m+3+2 by omega]at this;exact this
theorem qfr {z:Iv} (vz:VI z) {q:Rat} (hq:inI q z) (hz:q*q*2<=1) {p:Int} (hp:pcB p=true):VI (loI z p)/\lI (fun n=>aS q n*2) (loI z p):=by
 have hp2:8<=p/\p<=512:=by
  obtain⟨q,rfl,hq⟩:=kg.1 hp;omega
 have i0:inI (aS q 0) z:=by
  have e:aS q 0=q:=by show q/((2*0+1:Nat):Rat)=q;rw[show((2*0+1:Nat):Rat)=1 from rfl,q6];grind
  rw[e];exact hq
 obtain⟨K,v1,v2,i1,i2⟩:=zzg vz hq hp (p.toNat+2) 0 z z (by omega) vz vz hq i0;have hT: ∀n,K<=n->qx (aS q n-aS q K)<=qx (oQ q K):=fun n hn=>by
  obtain⟨d,rfl⟩:=Nat.exists_eq_add_of_le hn;have h1:=znv hz K d;have h2:=zk7 (wd q) (K+d);rw[ztn];grind
 have va:VI (arI (lgG (sqI z p) p (p.toNat+2) 3 z z).1):=xw (zyo v1.ri) (zp2 v1 i1 (q5 (a:=qx (oQ q K))));have vs:=zea v2 va hp;have hin: ∀n,K<=n->inI (aS q n*2) (loI z p):=fun n hn=>by
  have:=zhg v2 va hp i2 (zp2 v1 i1 (hT n hn));rw[show aS q K+(aS q n-aS q K)=aS q n by grind]at this;have:=zji vs (j:=1) this;rw[show pw 1=2 by rw[show(1:Int)=((1:Nat):Int)from rfl,zbf];rfl]at this;exact this
 exact⟨zjj vs 1,zq5 K hin⟩
def zQ (d:Dy):Rat:=(dv d*pw (-(zg d))+ -1)/(dv d*pw (-(zg d))+1)
def lS (d:Dy) (n:Nat):Rat:=aS (zQ d) n*2+(zg d:Rat)*(aS (1/3) n*2)
theorem zjq {d:Dy} (v:VD d) (h:0<dv d):pw (zg d-1)<=dv d/\dv d<pw (zg d):=by
 have hn:nm d≠0:=fun c=>by
  have:dv d=0:=by unfold dv;rw[c];split<;>simp[ud]
  grind
 have h0:d.neg=false:=by
  cases hb:d.neg with
  |false=>rfl
  |true=>
   have:=zcy (nm d) d.e;unfold dv at h;rw[if_pos hb]at h;grind
 have e:dv d=vN (nm d) d.e:=by unfold dv;rw[if_neg (by rw[h0];simp)]
 have ht:zg d=bl (nm d)+d.e:=by unfold zg;rw[if_neg hn]
 rw[e];exact⟨ue (by omega) hn,zbb (by omega)⟩
theorem qe5 (t:Int):pw t*pw (-t)=1:=by rw[←pwA,show t+ -t=((0:Nat):Int) by omega,zbf];rfl
theorem qe6:pw (-1)=1/2:=by
 have h:=qe5 1;rw[show pw 1=2 by rw[show(1:Int)=((1:Nat):Int)from rfl,zbf];rfl]at h;grind
theorem qfp {d:Dy} (v:VD d) (h:0<dv d):1/2<=dv d*pw (-(zg d))/\dv d*pw (-(zg d))<=1:=by
 obtain⟨h1,h2⟩:=zjq v h;have n:=zeh (-(zg d));have a:=q3 h1 n;have b:=q3 (q9 h2) n;rw[qe5]at b;have e:pw (zg d-1)*pw (-(zg d))=1/2:=by
  rw[←pwA,show zg d-1+ -(zg d)= -1 by omega];exact qe6
 rw[e]at a;exact⟨a,b⟩
theorem zz8 {x y:Rat} (hx:1/2<=x) (h:x<=y):(x+ -1)/(x+1)<=(y+ -1)/(y+1):=by
 have px:0<x+1:=by grind
 have py:0<y+1:=by grind
 have ix:=qD.2 px;have iy:=qD.2 py;have ex:=qd (x+1) (by grind);have ey:=qd (y+1) (by grind);rw[q6,q6];generalize (x+1)⁻¹ =a at*;generalize (y+1)⁻¹ =b at*;have h1:=q7 (q7 (show 0<=y-x by grind) (q9 ix)) (q9 iy);have e1:(x+ -1)*a=1-2*a:=by grind
 have e2:(y+ -1)*b=1-2*b:=by grind
 have e3:(y-x)*a*b=a-b:=by grind
 grind
theorem qaa {d:Dy} (v:VD d) (h:0<dv d): -(1/3)<=zQ d/\zQ d<=0:=by
 obtain⟨h1,h2⟩:=qfp v h;unfold zQ;have a:=zz8 (x:=1/2) (by grind) h1;have b:=zz8 h1 h2;have ea:((1/2:Rat)+ -1)/(1/2+1)= -(1/3):=by decide+kernel
 have eb:((1:Rat)+ -1)/(1+1)=0:=by decide+kernel
 rw[ea]at a;rw[eb]at b;exact⟨a,b⟩
theorem zyw:(1/3:Rat)*(1/3)*2<=1:=by decide+kernel
theorem l2_li {p:Int} (hp:8<=p/\p<=512):VI (l2I p)/\lI (fun n=>aS (1/3) n*2) (l2I p):=by
 have hG:=zq9 hp (m:=16) (by decide);have vd:=zbt (zfb (n:=1) (by decide)) (zfb (n:=3) (by decide)) hG;have id:=zg6 (zfb (n:=1) (by decide)) (zfb (n:=3) (by decide)) hG (zcp 1) (zcp 3);have id:inI (1/3) (ym (whI 1) (whI 3) (guP p 16)):=id;obtain⟨v,l⟩:=qfr vd id zyw hG;exact⟨zdn v p,qb5 (fun q hq=>zbe v hq) l⟩
theorem qfs {d:Dy} (v:VD d) (h:0<dv d) {p:Int} (hp:8<=p/\p<=512):VI (lnI d p)/\lI (lS d) (lnI d p):=by
 obtain⟨z1,z2⟩:=qaa v h;have hzz:zQ d*zQ d*2<=1:=by
  have h1:=q7 (show 0<=zQ d+1/3 by grind) (show 0<= -zQ d by grind);grind
 unfold lnI;split
 ·rename_i h1;have e1:=(zha d (wx 1)).2.2.1 h1;rw[jr]at e1;have e1:dv d=1:=e1;refine⟨.inl ⟨rfl,qf,qf,by decide⟩,zq5 0 fun n _=>?_⟩;obtain⟨p1,p2⟩:=zjq v h;have ht:zg d=1:=by
   rw[e1,show(1:Rat)=pw ((0:Nat):Int) by rw[zbf];rfl]at p1 p2;have a:=zei.1 p1;have b: ¬pw (zg d)<=pw ((0:Nat):Int):=Rat.not_le.2 p2;have b: ¬zg d<=((0:Nat):Int):=fun c=>b (zei.2 c)
   omega
  have ez:zQ d= -(1/3):=by
   unfold zQ;rw[e1,ht];rw[qe6];decide+kernel
  have e0:lS d n=0:=by
   unfold lS;rw[ez,ht,zp9];have:((1:Int):Rat)=1:=rfl;rw[this];grind
  rw[e0];refine .inr ⟨?_,?_⟩
  ·show dv d0<=0;rw[zkf];exact q5
  ·show 0<=dv d0;rw[zkf];exact q5
 ·have hG:=zq9 hp (m:=40) (by decide);have hg2:8<=guP p 40/\guP p 40<=512:=by
   obtain⟨q,hq,hq2⟩:=kg.1 hG;omega
  have vp:VI (qp d):= .inl (zrk v);have ip:inI (dv d) (qp d):= .inr ⟨q5,q5⟩;have vr:=zdn vp (guP p 40);have vm:VI (lmI d (guP p 40)):=zjj vr _;have im:inI (dv d*pw (-(zg d))) (lmI d (guP p 40)):=zji vr (zbe vp ip);have w1:=zfb (n:=1) (by decide);have wm:=zfb (n:= -1) (by decide);have va:=zea vm wm hG;have vb:=zea vm w1 hG;have vz:VI (lzI d (guP p 40)):=zbt va vb hG;have iz:inI (zQ d) (lzI d (guP p 40)):=zg6 va vb hG (zhg vm wm hG im (zcp (-1))) (zhg vm w1 hG im (zcp 1));obtain⟨v1,l1⟩:=qfr vz iz hzz hG;obtain⟨v2,l2⟩:=l2_li hg2;have htr:=v.exp;have hb:=v.bits;have wt:VI (whI (zg d)):=zfb (by unfold zg;split<;>omega);have bb:Bnd fun n=>aS (1/3) n*2:=(qhh zyw).mul (Bnd.const 2)
  have v3:=zlc wt v2 hG;have l3:=qfx wt v2 hG (qfy (zcp (zg d))) l2 (Bnd.const _) bb;have v4:=zea v1 v3 hG;have l4:=qfz v1 v3 hG l1 l3;exact⟨zdn v4 p,qb5 (fun q hq=>zbe v4 hq) l4⟩
theorem qb4 {c d:Dy} (vc:VD c) (hc:0<dv c) (v:VD d) (h:dv c<=dv d) (n:Nat):lS c n<=lS d n:=by
 have hd:0<dv d:=by grind
 obtain⟨c1,c2⟩:=zjq vc hc;obtain⟨d1,d2⟩:=zjq v hd;have ht:zg c<=zg d:=by
  have: ¬pw (zg d)<=pw (zg c-1):=fun k=>by grind
  have: ¬zg d<=zg c-1:=fun k=>this (zei.2 k)
  omega
 have l2:0<=aS (1/3) n:=by
  have:=zki (x:=0) (y:=1/3) (by decide+kernel) n;have e:aS 0 n=0:=by have:=zp9 0 n;rw[show-(0:Rat)=0 by rfl]at this;grind
  rw[e]at this;exact this
 unfold lS;by_cases e:zg c=zg d
 ·have hz:zQ c<=zQ d:=by
   unfold zQ;rw[←e];refine zz8 ?_ (q3 h (zeh _));exact(qfp vc hc).1
  have:=zki hz n;rw[e];grind
 ·have hz:=zki (qaa vc hc).2 n;have e0:aS 0 n=0:=by have:=zp9 0 n;rw[show-(0:Rat)=0 by rfl]at this;grind
  have hz2:=zki (qaa v hd).1 n;rw[zp9]at hz2;have hi:((zg c+1:Int):Rat)<=(zg d:Rat):=Rat.intCast_le_intCast.2 (by omega);rw[Rat.intCast_add]at hi;have hi:(zg c:Rat)+1<=(zg d:Rat):=hi;have:=q3 hi l2;grind
theorem qfq {x:Iv} (vx:VI x) (p:Int):VI (zrp x p):=by
 unfold zrp;split
 ·rename_i hc;obtain⟨hf,h0⟩:=hc;unfold ftB at hf;rw[Bool.and_eq_true]at hf;have k:=(zp vx.ri).1 hf.1;have hp:8<=p/\p<=512:=by
   obtain⟨q,hq,hq2⟩:=kg.1 hf.2;omega
  have h0:=(uf x.lo).2.1.1 h0;obtain⟨v1,l1⟩:=qfs k.lo h0 hp;obtain⟨v2,l2⟩:=qfs k.hi (by have:=k.dle;grind) hp;have hcc:CI (edI (lnI x.lo p) (lnI x.hi p)):=zyn (zym _ _) (zym _ _);unfold edI at hcc⊢;split
  ·exact .inr rfl
  ·rename_i hn;rw[if_neg hn]at hcc;have a1:(lnI x.lo p).all =false:=by simpa using fun c=>hn (.inl c)
   have a2:(lnI x.hi p).all =false:=by simpa using fun c=>hn (.inr c)
   have hle:dv (lnI x.lo p).lo <=dv (lnI x.hi p).hi :=zzh fun e he=>by
    obtain⟨e1,e2⟩:=zat he;obtain⟨N1,h1⟩:=zxi l1 a1 e1;obtain⟨N2,h2⟩:=zxi l2 a2 e1;have g1:=(h1 (N1+N2) (by omega)).1;have g2:=(h2 (N1+N2) (by omega)).2;have g3:=qb4 k.lo h0 k.hi k.dle (N1+N2);grind
   exact .inl (zrl hcc rfl hle)
 ·exact .inr rfl
end Go.Proofs.YtbolipecnhlnnaaGreatDoor
