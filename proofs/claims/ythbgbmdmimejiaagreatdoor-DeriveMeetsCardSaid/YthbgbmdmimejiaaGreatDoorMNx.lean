/- The enclosures of the exponential function are true. -/
import Derived.Test.YthbgbmdmimejiaaGreatDoorMMa
set_option linter.all false
open Rat renaming mul_le_mul_of_nonneg_right->q3,mul_le_mul_of_nonneg_left->q4,le_refl->q5,div_def->q6,mul_nonneg->q7,le_of_lt->q8,mul_inv_cancel->q9,le_trans->qd,le_total->qn,natCast_le_natCast->qA,intCast_natCast->qB,inv_pos->qC,sub_self->qD
namespace Go.Proofs.YthbgbmdmimejiaaGreatDoor
open Go Go.Sx
set_option maxRecDepth 100000
set_option maxHeartbeats 4000000
theorem zzk{x:Iv}(vx:VI x){q:Rat}(h:inI q x){p:Int}(hp:pcB p=true):inI (q*q) (sqI x p):=by
 unfold sqI;by_cases hk:kB x=true
 .rw[Z4 ⟨hk,hp⟩];have k:=(zq vx.ri).1 hk;rcases h with c|⟨h1,h2⟩
  .rw[k.all]at c;cases c
  obtain⟨a0,a1,a2⟩:=ziz k h1 h2
  cases ha:(ve (kf (zc8 x) (zc8 x) p.toNat false) (kf (kr x) (kr x) p.toNat true)).all with
  |true=>exact .inl ha
  |false=>
   obtain⟨o1,o2⟩:=kj.1 ha;rw[uj ha];have l:=((zb3 (zgk k) (zgk k) (qe hp)).1.1 o1).1;have u:=((zb3 (zb7 k) (zb7 k) (qe hp)).2.1 o2).1;have r0:=zw q;have e:zg q*zg q=q*q:=by unfold zg;split<;>grind
   have s1:=q4 a1 a0;have s2:=q3 a1 r0;have s3:=q4 a2 r0;have s4:=q3 a2 (qd r0 a2);exact .inr ⟨by grind,by grind⟩
 .rw[Z5 fun c=>hk c.1];exact zi5 _
theorem lI_sq{s:Nat->Rat}{x:Iv}(vx:VI x){p:Int}(hp:pcB p=true)(h:lI s x)(hb:Bnd s):lI (fun n=>s n*s n) (sqI x p):=fun e he=>by
 obtain⟨B,hB,hB'⟩:=hb;obtain⟨d0',d1⟩:=zcn he (show 0<=B+B+1 by grind);obtain⟨d,hd0,hd1,hd2⟩:∃d:Rat,0<d/\d<=1/\d<=e/(B+B+1+1):=by
  rcases qn (a:=e/(B+B+1+1)) (b:=1)with c|c
  .exact⟨_,d0',c,q5⟩
  .exact⟨1,OA,q5,c⟩
 obtain⟨N,hN⟩:=h d hd0;refine⟨N,fun n hn=>?_⟩;obtain⟨q,hq,hq2⟩:=hN n hn;refine⟨q*q,zzk vx hq hp,?_⟩;have h1:=hB' n;have e1:s n*s n-q*q=(s n-q)*(s n+q):=by grind
 rw[e1,yg];have h2:zg (s n+q)<=B+B+1:=by
  have h3:=wu (s n+s n) (-(s n-q));have h4:=wu (s n) (s n);rw[qi]at h3;rw[show s n+s n+ -(s n-q)=s n+q by grind]at h3;grind
 have h5:=q4 h2 (zw (s n-q));have h6:=q3 (qd hq2 hd2) (show 0<=B+B+1 by grind);generalize e/(B+B+1+1)=z at*;grind
theorem rQ_z:∀n,eS 0 n=1
 |0=>rfl
 |n+1=>by
  show eS 0 n+rQ 0 (n+1)=1;rw[rQ_z n,show rQ 0 (n+1)=0 by unfold rQ;grind];grind
theorem zr8{x:Iv}(vx:VI x){q r:Rat}(h:inI q x)(hr:zg r<=zg q):inI r (arI x):=by
 unfold arI;split
 .rename_i hk;have k:=(zq vx.ri).1 hk;rcases h with c|⟨h1,h2⟩
  .rw[k.all]at c;cases c
  obtain⟨a0,a1,a2⟩:=ziz k h1 h2;obtain⟨r1,r2⟩:=kv r;refine .inr ⟨?_,?_⟩
  .show dv (zad (kr x))<=r;rw[zbm];grind
  .show r<=dv (kr x);grind
 .exact zi5 _
theorem qc9{y:Iv}(vy:VI y){q:Rat}(hq:inI q y){p:Int}(hp:pcB p=true):∀(f m:Nat)(t s:Iv),m+f<=100000->VI t->VI s->inI (rQ q m) t->inI (eS q m) s->
 ∃K,VI (exG y p f (m+1) t s).1/\VI (exG y p f (m+1) t s).2/\inI (rQ q K) (exG y p f (m+1) t s).1/\inI (eS q K) (exG y p f (m+1) t s).2
 |0,m,t,s,_,vt,vs,ht,hs=>⟨m,vt,vs,ht,hs⟩
 |f+1,m,t,s,hm,vt,vs,ht,hs=>by
  have vm:=zm4 vt vy hp;have vw:VI (whI ((m+1:Nat):Int)):=zgp O;have vd:=zcz vm vw hp;have i1:=zf3 vm vw hp (zm3 vt vy hp ht hq) (zce ((m+1:Nat):Int));rw[qB,q6]at i1;have e:rQ q m*q*((m+1:Nat):Rat)⁻¹ =rQ q (m+1):=by
   show _=rQ q m*q*(1/((m+1:Nat):Rat));rw[q6,Rat.one_mul]
  rw[e]at i1;have va:=zfb vs vd hp;have i2:inI (eS q (m+1)) (ym s (xt (za9 t y p) (whI ((m+1:Nat):Int)) p) p):=zfa vs vd hp hs i1;unfold exG;split
  .exact⟨m+1,vd,va,i1,i2⟩
  .exact qc9 vy hq hp f (m+1) _ _ O vd va i1 i2
theorem ex_li{y:Iv}(vy:VI y){q:Rat}(hq:inI q y)(hb:zg q*2<=1){p:Int}(hp:pcB p=true):VI (zy2 y p)/\lI (eS q) (zy2 y p):=by
 have hp2:8<=p/\p<=512:=by
  obtain⟨q,rfl,hq⟩:=kq.1 hp;omega
 obtain⟨K,v1,v2,i1,i2⟩:=qc9 vy hq hp (p.toNat+2) 0 (whI 1) (whI 1) O (zgp OA) (zgp OA) (zce 1) (zce 1);have hT:∀n,K<=n->zg (eS q n-eS q K)<=zg (rQ q K):=fun n hn=>by
  rw[zei];refine qgd ?_ hn;have:(1:Rat)<=((K+1:Nat):Rat):=by
   have:((1:Nat):Rat)<=((K+1:Nat):Rat):=qA.2 O;exact this
  exact qd hb this
 have va:VI (arI (exG y p (p.toNat+2) 1 (whI 1) (whI 1)).1):=za3 (qbo v1.ri) (zr8 v1 i1 (q5 (a:=zg (rQ q K))));have hin:∀n,K<=n->inI (eS q n) (zy2 y p):=fun n hn=>by
  have:=zfa v2 va hp i2 (zr8 v1 i1 (hT n hn));rw[show eS q K+(eS q n-eS q K)=eS q n by grind]at this;exact this
 exact⟨za3 (qmn y p) (hin K (Nat.le_refl _)),zft K hin⟩
theorem qk3{p:Int}(hp:pcB p=true):∀(n:Nat)(y:Iv)(q:Rat),VI y->inI q y->zg q*2<=pw (n:Int)->VI (haI p n y)/\lI (eS q) (haI p n y)
 |0,y,q,vy,hq,hb=>ex_li vy hq (by rw[show pw ((0:Nat):Int)=1 by rw[wa];rfl]at hb;exact hb) hp
 |n+1,y,q,vy,hq,hb=>by
  have vz:=zk3 vy (-1);have hz:=zk2 vy (j:= -1) hq;have h2:pw (-1)*2=1:=by
   have e1:(2:Rat)=pw 1:=by rw[show(1:Int)=((1:Nat):Int)from rfl,wa];rfl
   rw[e1,<-pwA,show(-1+1:Int)=((0:Nat):Int)from rfl,wa];rfl
  have e2:pw (((n+1:Nat)):Int)*pw (-1)=pw (n:Int):=by rw[<-pwA];congr 1;omega
  have hb':zg (q*pw (-1))*2<=pw (n:Int):=by
   rw[yg,qp (zfn (-1)),<-e2];have:=q3 hb (zfn (-1));grind
  obtain⟨v,l⟩:=qk3 hp n (wl y (-1)) (q*pw (-1)) vz hz hb';have hs:=(lI_sq v hp l (qda _)).nul (zxq (q*pw (-1)) (q*pw (-1)));rw[show q*pw (-1)+q*pw (-1)=q by rw[<-Rat.mul_add,show pw (-1)+pw (-1)=1 by grind,Rat.mul_one]]at hs;refine⟨?_,hs⟩;exact za3 (qhd p) (zzk v (zjd v) hp)
theorem qjr{d:Dy}(hd:VD d){p:Int}(hp:pcB p=true):VI (poI d p)/\lI (eS (dv d)) (poI d p):=by
 have hp2:8<=p/\p<=512:=by
  obtain⟨q,rfl,hq⟩:=kq.1 hp;omega
 unfold poI;split
 .rename_i h0;have:dv d=0:=(kg d).2.2.1 h0;rw[this];exact⟨zgp OA,zft 0 fun n _=>by rw[rQ_z];exact zce 1⟩
 .rename_i h0;have hn:nm d≠0:=fun c=>h0 (by unfold wy;rw[Z4 c])
  obtain⟨t1,t2⟩:=qdb hn;have hG:pcB (guP p (hvN d+24))=true:=ztd hp2 O;have vp:VI (qc d):=.inl (zn9 hd);have ip:inI (dv d) (qc d):=.inr ⟨q5,q5⟩;have hb:zg (dv d)*2<=pw ((hvN d:Nat):Int):=by
   have h1:zg (dv d)<=pw (zf d):=zd.2 ⟨t1,t2⟩;have h2:pw (zf d)*2=pw (zf d+1):=by
    rw[pwA,show pw 1=2 by rw[show(1:Int)=((1:Nat):Int)from rfl,wa];rfl]
   have h3:pw (zf d+1)<=pw ((hvN d:Nat):Int):=za7.2 (by unfold hvN;omega);grind
  obtain⟨v,l⟩:=qk3 hG (hvN d) (qs (qc d) (guP p (hvN d+24))) (dv d) (zeg vp _) (zcl vp ip) hb;exact⟨zeg v p,zs8 (fun q hq=>zcl v hq) l⟩
theorem zxd{x:Iv}(vx:VI x){q:Rat}(hq:inI q x)(p:Int):VI (zrn x p)/\lI (eS q) (zrn x p):=by
 have hw:VI wI0/\lI (eS q) wI0:=⟨.inr rfl,zft 0 fun n _=>zi5 _⟩;unfold zrn;split
 .rename_i h;obtain⟨hf,_,_⟩:=h;unfold ftB at hf;rw[Bool.and_eq_true]at hf;have k:=(zq vx.ri).1 hf.1;rcases hq with c|⟨q1,q2⟩
  .rw[k.all]at c;cases c
  obtain⟨v1,l1⟩:=qjr k.lo hf.2;obtain⟨v2,l2⟩:=qjr k.hi hf.2;have hc:CI (edI (poI x.lo p) (poI x.hi p)):=qbn (qbl _ _) (qbl _ _);unfold edI at hc⊢;split
  .exact hw
  .rename_i hn;rw[Z5 hn]at hc;have a1:(poI x.lo p).all =false:=by simpa using fun c=>hn (.inl c)
   have a2:(poI x.hi p).all =false:=by simpa using fun c=>hn (.inr c)
   have main:∀e:Rat,0<e->∃N:Nat,∀n,N<=n->dv (poI x.lo p).lo -e<=eS q n/\eS q n<=dv (poI x.hi p).hi +e:=fun e he=>by
    obtain⟨e1,e2⟩:=za1 he;obtain⟨N1,h1⟩:=zd3 l1 a1 e1;obtain⟨N2,h2⟩:=zd3 l2 a2 e1;obtain⟨N3,h3⟩:=zxp q1 e1;obtain⟨N4,h4⟩:=zxp q2 e1;refine⟨N1+N2+N3+N4,fun n hn=>?_⟩;have g1:=(h1 n O).1;have g2:=(h2 n O).2;have g3:=h3 n O;have g4:=h4 n O;constructor<;>grind
   have hle:dv (poI x.lo p).lo <=dv (poI x.hi p).hi :=znb fun e he=>by
    obtain⟨e1,e2⟩:=za1 he;obtain⟨N,hN⟩:=main _ e1;have:=hN N (Nat.le_refl _);grind
   exact⟨.inl (ztp hc rfl hle),zh6 hle main⟩
 .exact hw
def oQ(z:Rat):Nat->Rat
 |0=>z
 |k+1=>oQ z k*(z*z)
def aT(z:Rat)(k:Nat):Rat:=oQ z k/((2*k+1:Nat):Rat)
def aS(z:Rat)(n:Nat):Rat:=sQ (aT z) n
theorem zmg(z:Rat):0<=z*z:=by
 rcases qn (a:=0) (b:=z)with c|c
 .exact q7 c c
 .have:=q7 (show 0<= -z by grind) (show 0<= -z by grind);grind
theorem zv5(z:Rat):∀k,zg (oQ z k)=oQ (zg z) k
 |0=>rfl
 |k+1=>by
  show zg (oQ z k*(z*z))=oQ (zg z) k*(zg z*zg z);rw[yg,zv5 z k,yg]
theorem zmy{z:Rat}(h:0<=z):∀k,0<=oQ z k
 |0=>h
 |k+1=>q7 (zmy h k) (zmg z)
theorem zv4(k:Nat):0<((2*k+1:Nat):Rat)⁻¹ /\((2*k+1:Nat):Rat)⁻¹ <=1:=by
 have h1:((1:Nat):Rat)<=((2*k+1:Nat):Rat):=qA.2 O;have h2:(1:Rat)<=((2*k+1:Nat):Rat):=h1;generalize ((2*k+1:Nat):Rat)=c at*;have h0:0<c:=by grind
 have hi:=qC.2 h0;refine⟨hi,?_⟩;have:=q3 h2 (q8 hi);rw[q9 _ (by grind)]at this;grind
theorem aT_le(z:Rat)(k:Nat):zg (aT z k)<=oQ (zg z) k:=by
 unfold aT;obtain⟨h1,h2⟩:=zv4 k;rw[q6,yg,zv5,qp (q8 h1)];have:=q4 h2 (zmy (zw z) k);grind
theorem zpm{z:Rat}(hz:z*z*2<=1)(K:Nat):∀d:Nat,zg (aS z (K+d)-aS z K)<=oQ (zg z) K-oQ (zg z) (K+d)
 |0=>by rw[Nat.add_zero,qD,qD,zdt];exact q5
 |d+1=>by
  have ih:=zpm hz K d;have e:aS z (K+(d+1))=aS z (K+d)+aT z (K+d+1):=rfl;have ht:=aT_le z (K+d+1);have h0:=zmy (zw z) (K+d);have e2:oQ (zg z) (K+d+1)=oQ (zg z) (K+d)*(z*z):=by
   show oQ (zg z) (K+d)*(zg z*zg z)=_;rw[<-yg,qp (zmg z)]
  have h1:oQ (zg z) (K+d+1)*2<=oQ (zg z) (K+d):=by
   rw[e2];have:=q4 hz h0;grind
  have h2:=wu (aS z (K+d)-aS z K) (aT z (K+d+1));rw[e,show aS z (K+d)+aT z (K+d+1)-aS z K=aS z (K+d)-aS z K+aT z (K+d+1) by grind,show K+(d+1)=K+d+1 from rfl];grind
theorem ql7{z:Rat}(hz:z*z*2<=1):Bnd (aS z):=⟨zg z+zg z,by have:=zw z;grind,fun n=>by
 have h:=zpm hz 0 n;rw[Nat.zero_add]at h;have h1:=zmy (zw z) n;have e:aS z 0=z:=by show z/((2*0+1:Nat):Rat)=z;rw[show((2*0+1:Nat):Rat)=1 from rfl,q6];grind
 have e2:oQ (zg z) 0=zg z:=rfl;rw[e,e2]at h;have h2:=wu (aS z n-z) z;rw[show aS z n-z+z=aS z n by grind]at h2;grind⟩
theorem qfe{x y:Rat}(h:x<=y):∀k,oQ x k<=oQ y k:=fun k=>by
 have pos:∀ {a b:Rat},0<=a->a<=b->∀k,oQ a k<=oQ b k:=by
  intro a b ha hab k
  induction k with
  |zero=>exact hab
  |succ k ih=>
   show oQ a k*(a*a)<=oQ b k*(b*b);have h1:a*a<=b*b:=by
    have h2:=q4 hab ha;have h3:=q3 hab (qd ha hab);grind
   have h4:=q4 h1 (zmy ha k);have h5:=q3 ih (zmg b);grind
 have neg:∀(a:Rat)(k:Nat),oQ (-a) k= -oQ a k:=by
  intro a k
  induction k with
  |zero=>rfl
  |succ k ih=>show oQ (-a) k*(-a* -a)= -(oQ a k*(a*a));rw[ih];grind
 rcases qn (a:=0) (b:=x)with c|c
 .exact pos c h k
 .rcases qn (a:=0) (b:=y)with d|d
  .have h1:=zmy d k;have h2:=zmy (show 0<= -x by grind) k;rw[neg]at h2;grind
  .have:=pos (show 0<= -y by grind) (show-y<= -x by grind) k;rw[neg,neg]at this;grind
theorem zl4{x y:Rat}(h:x<=y)(n:Nat):aS x n<=aS y n:=zck fun k _=>by
 unfold aT;rw[q6,q6];exact q3 (qfe h k) (q8 (zv4 k).1)
theorem zn6(x:Rat)(n:Nat):aS (-x) n= -aS x n:=by
 have neg:∀(k:Nat),oQ (-x) k= -oQ x k:=by
  intro k
  induction k with
  |zero=>rfl
  |succ k ih=>show oQ (-x) k*(-x* -x)= -(oQ x k*(x*x));rw[ih];grind
 unfold aS;have e:sQ (aT (-x)) n=sQ (fun k=>(-1)*aT x k) n:=yr fun k _=>by unfold aT;rw[neg,q6,q6];grind
 rw[e,jv];grind
theorem qcu{z:Iv}(vz:VI z){q:Rat}(hq:inI q z){p:Int}(hp:pcB p=true):∀(f m:Nat)(w s:Iv),m+f<=100000->VI w->VI s->inI (oQ q m) w->inI (aS q m) s->
 ∃K,VI (lgG (sqI z p) p f (2*m+3) w s).1/\VI (lgG (sqI z p) p f (2*m+3) w s).2/\inI (oQ q K) (lgG (sqI z p) p f (2*m+3) w s).1/\inI (aS q K) (lgG (sqI z p) p f (2*m+3) w s).2
 |0,m,w,s,_,vw,vs,hw,hs=>⟨m,vw,vs,hw,hs⟩
 |f+1,m,w,s,hm,vw,vs,hw,hs=>by
  unfold lgG;split
  .exact⟨m,vw,vs,hw,hs⟩
  .have vq:VI (sqI z p):=za3 (qhd p) (zzk vz (zjd vz) hp);have vm:=zm4 vw vq hp;have i1:inI (oQ q (m+1)) (za9 w (sqI z p) p):=zm3 vw vq hp hw (zzk vz hq hp);have vn:VI (whI ((2*m+3:Nat):Int)):=zgp O;have vd:=zcz vm vn hp;have i2:=zf3 vm vn hp i1 (zce ((2*m+3:Nat):Int));rw[qB]at i2;have i3:inI (aS q (m+1)) (ym s (xt (za9 w (sqI z p) p) (whI ((2*m+3:Nat):Int)) p) p):=zfa vs vd hp hs i2;have:=qcu vz hq hp f (m+1) _ _ O vm (zfb vs vd hp) i1 i3;rw[(O:2*(m+1)+3=2*m+3+2)]at this;exact this
theorem qkk{z:Iv}(vz:VI z){q:Rat}(hq:inI q z)(hz:q*q*2<=1){p:Int}(hp:pcB p=true):VI (loI z p)/\lI (fun n=>aS q n*2) (loI z p):=by
 have hp2:8<=p/\p<=512:=by
  obtain⟨q,rfl,hq⟩:=kq.1 hp;omega
 have i0:inI (aS q 0) z:=by
  have e:aS q 0=q:=by show q/((2*0+1:Nat):Rat)=q;rw[show((2*0+1:Nat):Rat)=1 from rfl,q6];grind
  rw[e];exact hq
 obtain⟨K,v1,v2,i1,i2⟩:=qcu vz hq hp (p.toNat+2) 0 z z O vz vz hq i0;have hT:∀n,K<=n->zg (aS q n-aS q K)<=zg (oQ q K):=fun n hn=>by
  obtain⟨d,rfl⟩:=Nat.exists_eq_add_of_le hn;have h1:=zpm hz K d;have h2:=zmy (zw q) (K+d);rw[zv5];grind
 have va:VI (arI (lgG (sqI z p) p (p.toNat+2) 3 z z).1):=za3 (qbo v1.ri) (zr8 v1 i1 (q5 (a:=zg (oQ q K))));have vs:=zfb v2 va hp;have hin:∀n,K<=n->inI (aS q n*2) (loI z p):=fun n hn=>by
  have:=zfa v2 va hp i2 (zr8 v1 i1 (hT n hn));rw[show aS q K+(aS q n-aS q K)=aS q n by grind]at this;have:=zk2 vs (j:=1) this;rw[show pw 1=2 by rw[show(1:Int)=((1:Nat):Int)from rfl,wa];rfl]at this;exact this
 exact⟨zk3 vs 1,zft K hin⟩
def zQ(d:Dy):Rat:=(dv d*pw (-(zf d))+ -1)/(dv d*pw (-(zf d))+1)
def lS(d:Dy)(n:Nat):Rat:=aS (zQ d) n*2+(zf d:Rat)*(aS (1/3) n*2)
theorem zh2{d:Dy}(v:VD d)(h:0<dv d):pw (zf d-1)<=dv d/\dv d<pw (zf d):=by
 have hn:nm d≠0:=fun c=>by
  have:dv d=0:=by unfold dv;rw[c];split<;>simp[ye]
  grind
 have h0:d.neg=false:=by
  cases hb:d.neg with
  |false=>rfl
  |true=>
   have:=zb8 (nm d) d.e;unfold dv at h;rw[Z4 hb]at h;grind
 have e:dv d=vN (nm d) d.e:=by unfold dv;rw[Z5 (by rw[h0];simp)]
 have ht:zf d=bl (nm d)+d.e:=by unfold zf;rw[Z5 hn]
 rw[e];exact⟨yf O hn,zai O⟩
theorem qjj(t:Int):pw t*pw (-t)=1:=by rw[<-pwA,(O:t+ -t=((0:Nat):Int)),wa];rfl
theorem qex:pw (-1)=1/2:=by
 have h:=qjj 1;rw[show pw 1=2 by rw[show(1:Int)=((1:Nat):Int)from rfl,wa];rfl]at h;grind
theorem qkj{d:Dy}(v:VD d)(h:0<dv d):1/2<=dv d*pw (-(zf d))/\dv d*pw (-(zf d))<=1:=by
 obtain⟨h1,h2⟩:=zh2 v h;have n:=zfn (-(zf d));have a:=q3 h1 n;have b:=q3 (q8 h2) n;rw[qjj]at b;have e:pw (zf d-1)*pw (-(zf d))=1/2:=by
  rw[<-pwA,(O:zf d-1+ -(zf d)= -1)];exact qex
 rw[e]at a;exact⟨a,b⟩
theorem qds{x y:Rat}(hx:1/2<=x)(h:x<=y):(x+ -1)/(x+1)<=(y+ -1)/(y+1):=by
 have px:0<x+1:=by grind
 have py:0<y+1:=by grind
 have ix:=qC.2 px;have iy:=qC.2 py;have ex:=q9 (x+1) (by grind);have ey:=q9 (y+1) (by grind);rw[q6,q6];generalize (x+1)⁻¹ =a at*;generalize (y+1)⁻¹ =b at*;have h1:=q7 (q7 (show 0<=y-x by grind) (q8 ix)) (q8 iy);have e1:(x+ -1)*a=1-2*a:=by grind
 have e2:(y+ -1)*b=1-2*b:=by grind
 have e3:(y-x)*a*b=a-b:=by grind
 grind
theorem qdu{d:Dy}(v:VD d)(h:0<dv d): -(1/3)<=zQ d/\zQ d<=0:=by
 obtain⟨h1,h2⟩:=qkj v h;unfold zQ;have a:=qds (x:=1/2) (by grind) h1;have b:=qds h1 h2;have ea:((1/2:Rat)+ -1)/(1/2+1)= -(1/3):=OB;have eb:((1:Rat)+ -1)/(1+1)=0:=OB;rw[ea]at a;rw[eb]at b;exact⟨a,b⟩
theorem qb0:(1/3:Rat)*(1/3)*2<=1:=OB
theorem l2_li{p:Int}(hp:8<=p/\p<=512):VI (l2I p)/\lI (fun n=>aS (1/3) n*2) (l2I p):=by
 have hG:=ztd hp (m:=16) OA;have vd:=zcz (zgp (n:=1) OA) (zgp (n:=3) OA) hG;have id:=zf3 (zgp (n:=1) OA) (zgp (n:=3) OA) hG (zce 1) (zce 3);have id:inI (1/3) (xt (whI 1) (whI 3) (guP p 16)):=id;obtain⟨v,l⟩:=qkk vd id qb0 hG;exact⟨zeg v p,zs8 (fun q hq=>zcl v hq) l⟩
theorem qah{d:Dy}(v:VD d)(h:0<dv d){p:Int}(hp:8<=p/\p<=512):VI (lnI d p)/\lI (lS d) (lnI d p):=by
 obtain⟨z1,z2⟩:=qdu v h;have hzz:zQ d*zQ d*2<=1:=by
  have h1:=q7 (show 0<=zQ d+1/3 by grind) (show 0<= -zQ d by grind);grind
 unfold lnI;split
 .rename_i h1;have e1:=(ze9 d (wx 1)).2.2.1 h1;rw[je]at e1;have e1:dv d=1:=e1;refine⟨.inl ⟨rfl,qg,qg,OA⟩,zft 0 fun n _=>?_⟩;obtain⟨p1,p2⟩:=zh2 v h;have ht:zf d=1:=by
   rw[e1,show(1:Rat)=pw ((0:Nat):Int) by rw[wa];rfl]at p1 p2;have a:=za7.1 p1;have b:¬pw (zf d)<=pw ((0:Nat):Int):=Rat.not_le.2 p2;have b:¬zf d<=((0:Nat):Int):=fun c=>b (za7.2 c)
   omega
  have ez:zQ d= -(1/3):=by
   unfold zQ;rw[e1,ht];rw[qex];decide+kernel
  have e0:lS d n=0:=by
   unfold lS;rw[ez,ht,zn6];have:((1:Int):Rat)=1:=rfl;rw[this];grind
  rw[e0];refine .inr ⟨?_,?_⟩
  .show dv d0<=0;rw[zl0];exact q5
  .show 0<=dv d0;rw[zl0];exact q5
 .have hG:=ztd hp (m:=40) OA;have hg2:8<=guP p 40/\guP p 40<=512:=by
   obtain⟨q,hq,hq2⟩:=kq.1 hG;omega
  have vp:VI (qc d):=.inl (zn9 v);have ip:inI (dv d) (qc d):=.inr ⟨q5,q5⟩;have vr:=zeg vp (guP p 40);have vm:VI (lmI d (guP p 40)):=zk3 vr _;have im:inI (dv d*pw (-(zf d))) (lmI d (guP p 40)):=zk2 vr (zcl vp ip);have w1:=zgp (n:=1) OA;have wm:=zgp (n:= -1) OA;have va:=zfb vm wm hG;have vb:=zfb vm w1 hG;have vz:VI (lzI d (guP p 40)):=zcz va vb hG;have iz:inI (zQ d) (lzI d (guP p 40)):=zf3 va vb hG (zfa vm wm hG im (zce (-1))) (zfa vm w1 hG im (zce 1));obtain⟨v1,l1⟩:=qkk vz iz hzz hG;obtain⟨v2,l2⟩:=l2_li hg2;have htr:=v.exp;have hb:=v.bits;have wt:VI (whI (zf d)):=zgp (by unfold zf;split<;>omega);have bb:Bnd fun n=>aS (1/3) n*2:=(ql7 qb0).mul (Bnd.const 2)
  have v3:=zm4 wt v2 hG;have l3:=qkp wt v2 hG (qkq (zce (zf d))) l2 (Bnd.const _) bb;have v4:=zfb v1 v3 hG;have l4:=qkr v1 v3 hG l1 l3;exact⟨zeg v4 p,zs8 (fun q hq=>zcl v4 hq) l4⟩
theorem zo9{c d:Dy}(vc:VD c)(hc:0<dv c)(v:VD d)(h:dv c<=dv d)(n:Nat):lS c n<=lS d n:=by
 have hd:0<dv d:=by grind
 obtain⟨c1,c2⟩:=zh2 vc hc;obtain⟨d1,d2⟩:=zh2 v hd;have ht:zf c<=zf d:=by
  have:¬pw (zf d)<=pw (zf c-1):=fun k=>by grind
  have:¬zf d<=zf c-1:=fun k=>this (za7.2 k)
  omega
 have l2:0<=aS (1/3) n:=by
  have:=zl4 (x:=0) (y:=1/3) OB n;have e:aS 0 n=0:=by have:=zn6 0 n;rw[show-(0:Rat)=0 by rfl]at this;grind
  rw[e]at this;exact this
 unfold lS;by_cases e:zf c=zf d
 .have hz:zQ c<=zQ d:=by
   unfold zQ;rw[<-e];refine qds ?_ (q3 h (zfn _));exact(qkj vc hc).1
  have:=zl4 hz n;rw[e];grind
 .have hz:=zl4 (qdu vc hc).2 n;have e0:aS 0 n=0:=by have:=zn6 0 n;rw[show-(0:Rat)=0 by rfl]at this;grind
  have hz2:=zl4 (qdu v hd).1 n;rw[zn6]at hz2;have hi:((zf c+1:Int):Rat)<=(zf d:Rat):=Rat.intCast_le_intCast.2 O;rw[Rat.intCast_add]at hi;have hi:(zf c:Rat)+1<=(zf d:Rat):=hi;have:=q3 hi l2;grind
theorem qct{x:Iv}(vx:VI x)(p:Int):VI (zo4 x p):=by
 unfold zo4;split
 .rename_i hc;obtain⟨hf,h0⟩:=hc;unfold ftB at hf;rw[Bool.and_eq_true]at hf;have k:=(zq vx.ri).1 hf.1;have hp:8<=p/\p<=512:=by
   obtain⟨q,hq,hq2⟩:=kq.1 hf.2;omega
  have h0:=(kg x.lo).2.1.1 h0;obtain⟨v1,l1⟩:=qah k.lo h0 hp;obtain⟨v2,l2⟩:=qah k.hi (by have:=k.dle;grind) hp;have hcc:CI (edI (lnI x.lo p) (lnI x.hi p)):=qbn (qbm _ _) (qbm _ _);unfold edI at hcc⊢;split
  .exact .inr rfl
  .rename_i hn;rw[Z5 hn]at hcc;have a1:(lnI x.lo p).all =false:=by simpa using fun c=>hn (.inl c)
   have a2:(lnI x.hi p).all =false:=by simpa using fun c=>hn (.inr c)
   have hle:dv (lnI x.lo p).lo <=dv (lnI x.hi p).hi :=znb fun e he=>by
    obtain⟨e1,e2⟩:=za1 he;obtain⟨N1,h1⟩:=zd3 l1 a1 e1;obtain⟨N2,h2⟩:=zd3 l2 a2 e1;have g1:=(h1 (N1+N2) O).1;have g2:=(h2 (N1+N2) O).2;have g3:=zo9 k.lo h0 k.hi k.dle (N1+N2);grind
   exact .inl (ztp hcc rfl hle)
 .exact .inr rfl
