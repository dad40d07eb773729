/- The enclosures of the exponential function are true. -/
import Derived.Test.YtbolipecnhlnnaaGreatDoorVMa
set_option linter.all false
open Rat renaming mul_le_mul_of_nonneg_right->q0,mul_le_mul_of_nonneg_left->q3,le_refl->q4,div_def->q5,mul_nonneg->q6,le_of_lt->q7,mul_inv_cancel->q8,le_trans->q9,le_total->qd,natCast_le_natCast->qn,intCast_natCast->qA,inv_pos->qB,sub_self->qC
namespace Go.Proofs.YtbolipecnhlnnaaGreatDoor
open Go Go.Sx
set_option maxRecDepth 100000
set_option maxHeartbeats 4000000
theorem zzi{x:Iv}(vx:VI x){q:Rat}(h:inI q x){p:Int}(hp:pcB p=true):inI (q*q) (sqI x p):=by
 unfold sqI;by_cases hk:kB x=true
 .rw[Z4 ⟨hk,hp⟩];have k:=(zp vx.ri).1 hk;rcases h with c|⟨h1,h2⟩
  .rw[k.all]at c;cases c
  obtain⟨a0,a1,a2⟩:=zi7 k h1 h2
  cases ha:(vh (wz (zb1 x) (zb1 x) p.toNat false) (wz (kz x) (kz x) p.toNat true)).all with
  |true=>exact .inl ha
  |false=>
   obtain⟨o1,o2⟩:=yw.1 ha;rw[xp ha];have l:=((zbu (zgn k) (zgn k) (qk hp)).1.1 o1).1;have u:=((zbu (zbf k) (zbf k) (qk hp)).2.1 o2).1;have r0:=wu q;have e:vf q*vf q=q*q:=by unfold vf;split<;>grind
   have s1:=q3 a1 a0;have s2:=q0 a1 r0;have s3:=q3 a2 r0;have s4:=q0 a2 (q9 r0 a2);exact .inr ⟨by grind,by grind⟩
 .rw[Z5 fun c=>hk c.1];exact zys _
theorem lI_sq{s:Nat->Rat}{x:Iv}(vx:VI x){p:Int}(hp:pcB p=true)(h:lI s x)(hb:Bnd s):lI (fun n=>s n*s n) (sqI x p):=fun e he=>by
 obtain⟨B,hB,hB'⟩:=hb;obtain⟨d0',d1⟩:=zfa he (show 0<=B+B+1 by grind);obtain⟨d,hd0,hd1,hd2⟩:∃d:Rat,0<d/\d<=1/\d<=e/(B+B+1+1):=by
  rcases qd (a:=e/(B+B+1+1)) (b:=1)with c|c
  .exact⟨_,d0',c,q4⟩
  .exact⟨1,OA,q4,c⟩
 obtain⟨N,hN⟩:=h d hd0;refine⟨N,fun n hn=>?_⟩;obtain⟨q,hq,hq2⟩:=hN n hn;refine⟨q*q,zzi vx hq hp,?_⟩;have h1:=hB' n;have e1:s n*s n-q*q=(s n-q)*(s n+q):=by grind
 rw[e1,zbt];have h2:vf (s n+q)<=B+B+1:=by
  have h3:=zaa (s n+s n) (-(s n-q));have h4:=zaa (s n) (s n);rw[zbh]at h3;rw[show s n+s n+ -(s n-q)=s n+q by grind]at h3;grind
 have h5:=q3 h2 (wu (s n-q));have h6:=q0 (q9 hq2 hd2) (show 0<=B+B+1 by grind);generalize e/(B+B+1+1)=z at*;grind
theorem rQ_z:∀n,eS 0 n=1
 |0=>rfl
 |n+1=>by
  show eS 0 n+rQ 0 (n+1)=1;rw[rQ_z n,show rQ 0 (n+1)=0 by unfold rQ;grind];grind
theorem zsd{x:Iv}(vx:VI x){q r:Rat}(h:inI q x)(hr:vf r<=vf q):inI r (arI x):=by
 unfold arI;split
 .rename_i hk;have k:=(zp vx.ri).1 hk;rcases h with c|⟨h1,h2⟩
  .rw[k.all]at c;cases c
  obtain⟨a0,a1,a2⟩:=zi7 k h1 h2;obtain⟨r1,r2⟩:=ye r;refine .inr ⟨?_,?_⟩
  .show dv (jm (kz x))<=r;rw[xf];grind
  .show r<=dv (kz x);grind
 .exact zys _
theorem qda{y:Iv}(vy:VI y){q:Rat}(hq:inI q y){p:Int}(hp:pcB p=true):∀(f m:Nat)(t s:Iv),m+f<=100000->VI t->VI s->inI (rQ q m) t->inI (eS q m) s->
 ∃K,VI (exG y p f (m+1) t s).1/\VI (exG y p f (m+1) t s).2/\inI (rQ q K) (exG y p f (m+1) t s).1/\inI (eS q K) (exG y p f (m+1) t s).2
 |0,m,t,s,_,vt,vs,ht,hs=>⟨m,vt,vs,ht,hs⟩
 |f+1,m,t,s,hm,vt,vs,ht,hs=>by
  have vm:=znd vt vy hp;have vw:VI (whI ((m+1:Nat):Int)):=zgs O;have vd:=zcp vm vw hp;have i1:=zix vm vw hp (zq7 vt vy hp ht hq) (zdy ((m+1:Nat):Int));rw[qA,q5]at i1;have e:rQ q m*q*((m+1:Nat):Rat)⁻¹ =rQ q (m+1):=by
   show _=rQ q m*q*(1/((m+1:Nat):Rat));rw[q5,Rat.one_mul]
  rw[e]at i1;have va:=zfs vs vd hp;have i2:inI (eS q (m+1)) (yi s (xr (zax t y p) (whI ((m+1:Nat):Int)) p) p):=zi6 vs vd hp hs i1;unfold exG;split
  .exact⟨m+1,vd,va,i1,i2⟩
  .exact qda vy hq hp f (m+1) _ _ O vd va i1 i2
theorem ex_li{y:Iv}(vy:VI y){q:Rat}(hq:inI q y)(hb:vf q*2<=1){p:Int}(hp:pcB p=true):VI (zy3 y p)/\lI (eS q) (zy3 y p):=by
 have hp2:8<=p/\p<=512:=by
  obtain⟨q,rfl,hq⟩:=jx.1 hp;omega
 obtain⟨K,v1,v2,i1,i2⟩:=qda vy hq hp (p.toNat+2) 0 (whI 1) (whI 1) O (zgs OA) (zgs OA) (zdy 1) (zdy 1);have hT:∀n,K<=n->vf (eS q n-eS q K)<=vf (rQ q K):=fun n hn=>by
  rw[zjz];refine qgj ?_ hn;have:(1:Rat)<=((K+1:Nat):Rat):=by
   have:((1:Nat):Rat)<=((K+1:Nat):Rat):=qn.2 O;exact this
  exact q9 hb this
 have va:VI (arI (exG y p (p.toNat+2) 1 (whI 1) (whI 1)).1):=za0 (qb1 v1.ri) (zsd v1 i1 (q4 (a:=vf (rQ q K))));have hin:∀n,K<=n->inI (eS q n) (zy3 y p):=fun n hn=>by
  have:=zi6 v2 va hp i2 (zsd v1 i1 (hT n hn));rw[show eS q K+(eS q n-eS q K)=eS q n by grind]at this;exact this
 exact⟨za0 (qmk y p) (hin K (Nat.le_refl _)),zte K hin⟩
theorem qkt{p:Int}(hp:pcB p=true):∀(n:Nat)(y:Iv)(q:Rat),VI y->inI q y->vf q*2<=pw (n:Int)->VI (haI p n y)/\lI (eS q) (haI p n y)
 |0,y,q,vy,hq,hb=>ex_li vy hq (by rw[show pw ((0:Nat):Int)=1 by rw[zca];rfl]at hb;exact hb) hp
 |n+1,y,q,vy,hq,hb=>by
  have vz:=zlc vy (-1);have hz:=zlb vy (j:= -1) hq;have h2:pw (-1)*2=1:=by
   have e1:(2:Rat)=pw 1:=by rw[show(1:Int)=((1:Nat):Int)from rfl,zca];rfl
   rw[e1,<-pwA,show(-1+1:Int)=((0:Nat):Int)from rfl,zca];rfl
  have e2:pw (((n+1:Nat)):Int)*pw (-1)=pw (n:Int):=by rw[<-pwA];congr 1;omega
  have hb':vf (q*pw (-1))*2<=pw (n:Int):=by
   rw[zbt,jw (zf0 (-1)),<-e2];have:=q0 hb (zf0 (-1));grind
  obtain⟨v,l⟩:=qkt hp n (ww y (-1)) (q*pw (-1)) vz hz hb';have hs:=(lI_sq v hp l (qdb _)).nul (zxi (q*pw (-1)) (q*pw (-1)));rw[show q*pw (-1)+q*pw (-1)=q by rw[<-Rat.mul_add,show pw (-1)+pw (-1)=1 by grind,Rat.mul_one]]at hs;refine⟨?_,hs⟩;exact za0 (qhm p) (zzi v (zni v) hp)
theorem qjw{d:Dy}(hd:VD d){p:Int}(hp:pcB p=true):VI (poI d p)/\lI (eS (dv d)) (poI d p):=by
 have hp2:8<=p/\p<=512:=by
  obtain⟨q,rfl,hq⟩:=jx.1 hp;omega
 unfold poI;split
 .rename_i h0;have:dv d=0:=(kc d).2.2.1 h0;rw[this];exact⟨zgs OA,zte 0 fun n _=>by rw[rQ_z];exact zdy 1⟩
 .rename_i h0;have hn:nm d≠0:=fun c=>h0 (by unfold vg;rw[Z4 c])
  obtain⟨t1,t2⟩:=qdc hn;have hG:pcB (guP p (hvN d+24))=true:=zth hp2 O;have vp:VI (ve d):=.inl (zts hd);have ip:inI (dv d) (ve d):=.inr ⟨q4,q4⟩;have hb:vf (dv d)*2<=pw ((hvN d:Nat):Int):=by
   have h1:vf (dv d)<=pw (zn d):=zfz.2 ⟨t1,t2⟩;have h2:pw (zn d)*2=pw (zn d+1):=by
    rw[pwA,show pw 1=2 by rw[show(1:Int)=((1:Nat):Int)from rfl,zca];rfl]
   have h3:pw (zn d+1)<=pw ((hvN d:Nat):Int):=zf1.2 (by unfold hvN;omega);grind
  obtain⟨v,l⟩:=qkt hG (hvN d) (vi (ve d) (guP p (hvN d+24))) (dv d) (ze3 vp _) (zb7 vp ip) hb;exact⟨ze3 v p,qf0 (fun q hq=>zb7 v hq) l⟩
theorem qk2{x:Iv}(vx:VI x){q:Rat}(hq:inI q x)(p:Int):VI (zw3 x p)/\lI (eS q) (zw3 x p):=by
 have hw:VI wI0/\lI (eS q) wI0:=⟨.inr rfl,zte 0 fun n _=>zys _⟩;unfold zw3;split
 .rename_i h;obtain⟨hf,_,_⟩:=h;unfold ftB at hf;rw[Bool.and_eq_true]at hf;have k:=(zp vx.ri).1 hf.1;rcases hq with c|⟨q1,q2⟩
  .rw[k.all]at c;cases c
  obtain⟨v1,l1⟩:=qjw k.lo hf.2;obtain⟨v2,l2⟩:=qjw k.hi hf.2;have hc:CI (edI (poI x.lo p) (poI x.hi p)):=qb0 (qby _ _) (qby _ _);unfold edI at hc⊢;split
  .exact hw
  .rename_i hn;rw[Z5 hn]at hc;have a1:(poI x.lo p).all =false:=by simpa using fun c=>hn (.inl c)
   have a2:(poI x.hi p).all =false:=by simpa using fun c=>hn (.inr c)
   have main:∀e:Rat,0<e->∃N:Nat,∀n,N<=n->dv (poI x.lo p).lo -e<=eS q n/\eS q n<=dv (poI x.hi p).hi +e:=fun e he=>by
    obtain⟨e1,e2⟩:=zbl he;obtain⟨N1,h1⟩:=qas l1 a1 e1;obtain⟨N2,h2⟩:=qas l2 a2 e1;obtain⟨N3,h3⟩:=zxh q1 e1;obtain⟨N4,h4⟩:=zxh q2 e1;refine⟨N1+N2+N3+N4,fun n hn=>?_⟩;have g1:=(h1 n O).1;have g2:=(h2 n O).2;have g3:=h3 n O;have g4:=h4 n O;constructor<;>grind
   have hle:dv (poI x.lo p).lo <=dv (poI x.hi p).hi :=qc0 fun e he=>by
    obtain⟨e1,e2⟩:=zbl he;obtain⟨N,hN⟩:=main _ e1;have:=hN N (Nat.le_refl _);grind
   exact⟨.inl (ztt hc rfl hle),qf1 hle main⟩
 .exact hw
def oQ(z:Rat):Nat->Rat
 |0=>z
 |k+1=>oQ z k*(z*z)
def aT(z:Rat)(k:Nat):Rat:=oQ z k/((2*k+1:Nat):Rat)
def aS(z:Rat)(n:Nat):Rat:=sQ (aT z) n
theorem qep(z:Rat):0<=z*z:=by
 rcases qd (a:=0) (b:=z)with c|c
 .exact q6 c c
 .have:=q6 (show 0<= -z by grind) (show 0<= -z by grind);grind
theorem zv4(z:Rat):∀k,vf (oQ z k)=oQ (vf z) k
 |0=>rfl
 |k+1=>by
  show vf (oQ z k*(z*z))=oQ (vf z) k*(vf z*vf z);rw[zbt,zv4 z k,zbt]
theorem zm7{z:Rat}(h:0<=z):∀k,0<=oQ z k
 |0=>h
 |k+1=>q6 (zm7 h k) (qep z)
theorem zv3(k:Nat):0<((2*k+1:Nat):Rat)⁻¹ /\((2*k+1:Nat):Rat)⁻¹ <=1:=by
 have h1:((1:Nat):Rat)<=((2*k+1:Nat):Rat):=qn.2 O;have h2:(1:Rat)<=((2*k+1:Nat):Rat):=h1;generalize ((2*k+1:Nat):Rat)=c at*;have h0:0<c:=by grind
 have hi:=qB.2 h0;refine⟨hi,?_⟩;have:=q0 h2 (q7 hi);rw[q8 _ (by grind)]at this;grind
theorem aT_le(z:Rat)(k:Nat):vf (aT z k)<=oQ (vf z) k:=by
 unfold aT;obtain⟨h1,h2⟩:=zv3 k;rw[q5,zbt,zv4,jw (q7 h1)];have:=q3 h2 (zm7 (wu z) k);grind
theorem zp0{z:Rat}(hz:z*z*2<=1)(K:Nat):∀d:Nat,vf (aS z (K+d)-aS z K)<=oQ (vf z) K-oQ (vf z) (K+d)
 |0=>by rw[Nat.add_zero,qC,qC,zmy];exact q4
 |d+1=>by
  have ih:=zp0 hz K d;have e:aS z (K+(d+1))=aS z (K+d)+aT z (K+d+1):=rfl;have ht:=aT_le z (K+d+1);have h0:=zm7 (wu z) (K+d);have e2:oQ (vf z) (K+d+1)=oQ (vf z) (K+d)*(z*z):=by
   show oQ (vf z) (K+d)*(vf z*vf z)=_;rw[<-zbt,jw (qep z)]
  have h1:oQ (vf z) (K+d+1)*2<=oQ (vf z) (K+d):=by
   rw[e2];have:=q3 hz h0;grind
  have h2:=zaa (aS z (K+d)-aS z K) (aT z (K+d+1));rw[e,show aS z (K+d)+aT z (K+d+1)-aS z K=aS z (K+d)-aS z K+aT z (K+d+1) by grind,show K+(d+1)=K+d+1 from rfl];grind
theorem ql5{z:Rat}(hz:z*z*2<=1):Bnd (aS z):=⟨vf z+vf z,by have:=wu z;grind,fun n=>by
 have h:=zp0 hz 0 n;rw[Nat.zero_add]at h;have h1:=zm7 (wu z) n;have e:aS z 0=z:=by show z/((2*0+1:Nat):Rat)=z;rw[show((2*0+1:Nat):Rat)=1 from rfl,q5];grind
 have e2:oQ (vf z) 0=vf z:=rfl;rw[e,e2]at h;have h2:=zaa (aS z n-z) z;rw[show aS z n-z+z=aS z n by grind]at h2;grind⟩
theorem qfj{x y:Rat}(h:x<=y):∀k,oQ x k<=oQ y k:=fun k=>by
 have pos:∀ {a b:Rat},0<=a->a<=b->∀k,oQ a k<=oQ b k:=by
  intro a b ha hab k
  induction k with
  |zero=>exact hab
  |succ k ih=>
   show oQ a k*(a*a)<=oQ b k*(b*b);have h1:a*a<=b*b:=by
    have h2:=q3 hab ha;have h3:=q0 hab (q9 ha hab);grind
   have h4:=q3 h1 (zm7 ha k);have h5:=q0 ih (qep b);grind
 have neg:∀(a:Rat)(k:Nat),oQ (-a) k= -oQ a k:=by
  intro a k
  induction k with
  |zero=>rfl
  |succ k ih=>show oQ (-a) k*(-a* -a)= -(oQ a k*(a*a));rw[ih];grind
 rcases qd (a:=0) (b:=x)with c|c
 .exact pos c h k
 .rcases qd (a:=0) (b:=y)with d|d
  .have h1:=zm7 d k;have h2:=zm7 (show 0<= -x by grind) k;rw[neg]at h2;grind
  .have:=pos (show 0<= -y by grind) (show-y<= -x by grind) k;rw[neg,neg]at this;grind
theorem zmi{x y:Rat}(h:x<=y)(n:Nat):aS x n<=aS y n:=zhy fun k _=>by
 unfold aT;rw[q5,q5];exact q0 (qfj h k) (q7 (zv3 k).1)
theorem zsl(x:Rat)(n:Nat):aS (-x) n= -aS x n:=by
 have neg:∀(k:Nat),oQ (-x) k= -oQ x k:=by
  intro k
  induction k with
  |zero=>rfl
  |succ k ih=>show oQ (-x) k*(-x* -x)= -(oQ x k*(x*x));rw[ih];grind
 unfold aS;have e:sQ (aT (-x)) n=sQ (fun k=>(-1)*aT x k) n:=zhz fun k _=>by unfold aT;rw[neg,q5,q5];grind
 rw[e,zb6];grind
theorem qcz{z:Iv}(vz:VI z){q:Rat}(hq:inI q z){p:Int}(hp:pcB p=true):∀(f m:Nat)(w s:Iv),m+f<=100000->VI w->VI s->inI (oQ q m) w->inI (aS q m) s->
 ∃K,VI (lgG (sqI z p) p f (2*m+3) w s).1/\VI (lgG (sqI z p) p f (2*m+3) w s).2/\inI (oQ q K) (lgG (sqI z p) p f (2*m+3) w s).1/\inI (aS q K) (lgG (sqI z p) p f (2*m+3) w s).2
 |0,m,w,s,_,vw,vs,hw,hs=>⟨m,vw,vs,hw,hs⟩
 |f+1,m,w,s,hm,vw,vs,hw,hs=>by
  unfold lgG;split
  .exact⟨m,vw,vs,hw,hs⟩
  .have vq:VI (sqI z p):=za0 (qhm p) (zzi vz (zni vz) hp);have vm:=znd vw vq hp;have i1:inI (oQ q (m+1)) (zax w (sqI z p) p):=zq7 vw vq hp hw (zzi vz hq hp);have vn:VI (whI ((2*m+3:Nat):Int)):=zgs O;have vd:=zcp vm vn hp;have i2:=zix vm vn hp i1 (zdy ((2*m+3:Nat):Int));rw[qA]at i2;have i3:inI (aS q (m+1)) (yi s (xr (zax w (sqI z p) p) (whI ((2*m+3:Nat):Int)) p) p):=zi6 vs vd hp hs i2;have:=qcz vz hq hp f (m+1) _ _ O vm (zfs vs vd hp) i1 i3;rw[(O:2*(m+1)+3=2*m+3+2)]at this;exact this
theorem qj9{z:Iv}(vz:VI z){q:Rat}(hq:inI q z)(hz:q*q*2<=1){p:Int}(hp:pcB p=true):VI (loI z p)/\lI (fun n=>aS q n*2) (loI z p):=by
 have hp2:8<=p/\p<=512:=by
  obtain⟨q,rfl,hq⟩:=jx.1 hp;omega
 have i0:inI (aS q 0) z:=by
  have e:aS q 0=q:=by show q/((2*0+1:Nat):Rat)=q;rw[show((2*0+1:Nat):Rat)=1 from rfl,q5];grind
  rw[e];exact hq
 obtain⟨K,v1,v2,i1,i2⟩:=qcz vz hq hp (p.toNat+2) 0 z z O vz vz hq i0;have hT:∀n,K<=n->vf (aS q n-aS q K)<=vf (oQ q K):=fun n hn=>by
  obtain⟨d,rfl⟩:=Nat.exists_eq_add_of_le hn;have h1:=zp0 hz K d;have h2:=zm7 (wu q) (K+d);rw[zv4];grind
 have va:VI (arI (lgG (sqI z p) p (p.toNat+2) 3 z z).1):=za0 (qb1 v1.ri) (zsd v1 i1 (q4 (a:=vf (oQ q K))));have vs:=zfs v2 va hp;have hin:∀n,K<=n->inI (aS q n*2) (loI z p):=fun n hn=>by
  have:=zi6 v2 va hp i2 (zsd v1 i1 (hT n hn));rw[show aS q K+(aS q n-aS q K)=aS q n by grind]at this;have:=zlb vs (j:=1) this;rw[show pw 1=2 by rw[show(1:Int)=((1:Nat):Int)from rfl,zca];rfl]at this;exact this
 exact⟨zlc vs 1,zte K hin⟩
def zQ(d:Dy):Rat:=(dv d*pw (-(zn d))+ -1)/(dv d*pw (-(zn d))+1)
def lS(d:Dy)(n:Nat):Rat:=aS (zQ d) n*2+(zn d:Rat)*(aS (1/3) n*2)
theorem zli{d:Dy}(v:VD d)(h:0<dv d):pw (zn d-1)<=dv d/\dv d<pw (zn d):=by
 have hn:nm d≠0:=fun c=>by
  have:dv d=0:=by unfold dv;rw[c];split<;>simp[uz]
  grind
 have h0:d.neg=false:=by
  cases hb:d.neg with
  |false=>rfl
  |true=>
   have:=zdq (nm d) d.e;unfold dv at h;rw[Z4 hb]at h;grind
 have e:dv d=vN (nm d) d.e:=by unfold dv;rw[Z5 (by rw[h0];simp)]
 have ht:zn d=bl (nm d)+d.e:=by unfold zn;rw[Z5 hn]
 rw[e];exact⟨yc O hn,zb2 O⟩
theorem qjo(t:Int):pw t*pw (-t)=1:=by rw[<-pwA,(O:t+ -t=((0:Nat):Int)),zca];rfl
theorem qjp:pw (-1)=1/2:=by
 have h:=qjo 1;rw[show pw 1=2 by rw[show(1:Int)=((1:Nat):Int)from rfl,zca];rfl]at h;grind
theorem qj7{d:Dy}(v:VD d)(h:0<dv d):1/2<=dv d*pw (-(zn d))/\dv d*pw (-(zn d))<=1:=by
 obtain⟨h1,h2⟩:=zli v h;have n:=zf0 (-(zn d));have a:=q0 h1 n;have b:=q0 (q7 h2) n;rw[qjo]at b;have e:pw (zn d-1)*pw (-(zn d))=1/2:=by
  rw[<-pwA,(O:zn d-1+ -(zn d)= -1)];exact qjp
 rw[e]at a;exact⟨a,b⟩
theorem qdy{x y:Rat}(hx:1/2<=x)(h:x<=y):(x+ -1)/(x+1)<=(y+ -1)/(y+1):=by
 have px:0<x+1:=by grind
 have py:0<y+1:=by grind
 have ix:=qB.2 px;have iy:=qB.2 py;have ex:=q8 (x+1) (by grind);have ey:=q8 (y+1) (by grind);rw[q5,q5];generalize (x+1)⁻¹ =a at*;generalize (y+1)⁻¹ =b at*;have h1:=q6 (q6 (show 0<=y-x by grind) (q7 ix)) (q7 iy);have e1:(x+ -1)*a=1-2*a:=by grind
 have e2:(y+ -1)*b=1-2*b:=by grind
 have e3:(y-x)*a*b=a-b:=by grind
 grind
theorem qd1{d:Dy}(v:VD d)(h:0<dv d): -(1/3)<=zQ d/\zQ d<=0:=by
 obtain⟨h1,h2⟩:=qj7 v h;unfold zQ;have a:=qdy (x:=1/2) (by grind) h1;have b:=qdy h1 h2;have ea:((1/2:Rat)+ -1)/(1/2+1)= -(1/3):=OB;have eb:((1:Rat)+ -1)/(1+1)=0:=OB;rw[ea]at a;rw[eb]at b;exact⟨a,b⟩
theorem qcb:(1/3:Rat)*(1/3)*2<=1:=OB
theorem l2_li{p:Int}(hp:8<=p/\p<=512):VI (l2I p)/\lI (fun n=>aS (1/3) n*2) (l2I p):=by
 have hG:=zth hp (m:=16) OA;have vd:=zcp (zgs (n:=1) OA) (zgs (n:=3) OA) hG;have id:=zix (zgs (n:=1) OA) (zgs (n:=3) OA) hG (zdy 1) (zdy 3);have id:inI (1/3) (xr (whI 1) (whI 3) (guP p 16)):=id;obtain⟨v,l⟩:=qj9 vd id qcb hG;exact⟨ze3 v p,qf0 (fun q hq=>zb7 v hq) l⟩
theorem qka{d:Dy}(v:VD d)(h:0<dv d){p:Int}(hp:8<=p/\p<=512):VI (lnI d p)/\lI (lS d) (lnI d p):=by
 obtain⟨z1,z2⟩:=qd1 v h;have hzz:zQ d*zQ d*2<=1:=by
  have h1:=q6 (show 0<=zQ d+1/3 by grind) (show 0<= -zQ d by grind);grind
 unfold lnI;split
 .rename_i h1;have e1:=(zar d (wl 1)).2.2.1 h1;rw[kq]at e1;have e1:dv d=1:=e1;refine⟨.inl ⟨rfl,qg,qg,OA⟩,zte 0 fun n _=>?_⟩;obtain⟨p1,p2⟩:=zli v h;have ht:zn d=1:=by
   rw[e1,show(1:Rat)=pw ((0:Nat):Int) by rw[zca];rfl]at p1 p2;have a:=zf1.1 p1;have b:¬pw (zn d)<=pw ((0:Nat):Int):=Rat.not_le.2 p2;have b:¬zn d<=((0:Nat):Int):=fun c=>b (zf1.2 c)
   omega
  have ez:zQ d= -(1/3):=by
   unfold zQ;rw[e1,ht];rw[qjp];decide+kernel
  have e0:lS d n=0:=by
   unfold lS;rw[ez,ht,zsl];have:((1:Int):Rat)=1:=rfl;rw[this];grind
  rw[e0];refine .inr ⟨?_,?_⟩
  .show dv d0<=0;rw[zek];exact q4
  .show 0<=dv d0;rw[zek];exact q4
 .have hG:=zth hp (m:=40) OA;have hg2:8<=guP p 40/\guP p 40<=512:=by
   obtain⟨q,hq,hq2⟩:=jx.1 hG;omega
  have vp:VI (ve d):=.inl (zts v);have ip:inI (dv d) (ve d):=.inr ⟨q4,q4⟩;have vr:=ze3 vp (guP p 40);have vm:VI (lmI d (guP p 40)):=zlc vr _;have im:inI (dv d*pw (-(zn d))) (lmI d (guP p 40)):=zlb vr (zb7 vp ip);have w1:=zgs (n:=1) OA;have wm:=zgs (n:= -1) OA;have va:=zfs vm wm hG;have vb:=zfs vm w1 hG;have vz:VI (lzI d (guP p 40)):=zcp va vb hG;have iz:inI (zQ d) (lzI d (guP p 40)):=zix va vb hG (zi6 vm wm hG im (zdy (-1))) (zi6 vm w1 hG im (zdy 1));obtain⟨v1,l1⟩:=qj9 vz iz hzz hG;obtain⟨v2,l2⟩:=l2_li hg2;have htr:=v.exp;have hb:=v.bits;have wt:VI (whI (zn d)):=zgs (by unfold zn;split<;>omega);have bb:Bnd fun n=>aS (1/3) n*2:=(ql5 qcb).mul (Bnd.const 2)
  have v3:=znd wt v2 hG;have l3:=qkf wt v2 hG (qkg (zdy (zn d))) l2 (Bnd.const _) bb;have v4:=zfs v1 v3 hG;have l4:=qkh v1 v3 hG l1 l3;exact⟨ze3 v4 p,qf0 (fun q hq=>zb7 v4 hq) l4⟩
theorem qfz{c d:Dy}(vc:VD c)(hc:0<dv c)(v:VD d)(h:dv c<=dv d)(n:Nat):lS c n<=lS d n:=by
 have hd:0<dv d:=by grind
 obtain⟨c1,c2⟩:=zli vc hc;obtain⟨d1,d2⟩:=zli v hd;have ht:zn c<=zn d:=by
  have:¬pw (zn d)<=pw (zn c-1):=fun k=>by grind
  have:¬zn d<=zn c-1:=fun k=>this (zf1.2 k)
  omega
 have l2:0<=aS (1/3) n:=by
  have:=zmi (x:=0) (y:=1/3) OB n;have e:aS 0 n=0:=by have:=zsl 0 n;rw[show-(0:Rat)=0 by rfl]at this;grind
  rw[e]at this;exact this
 unfold lS;by_cases e:zn c=zn d
 .have hz:zQ c<=zQ d:=by
   unfold zQ;rw[<-e];refine qdy ?_ (q0 h (zf0 _));exact(qj7 vc hc).1
  have:=zmi hz n;rw[e];grind
 .have hz:=zmi (qd1 vc hc).2 n;have e0:aS 0 n=0:=by have:=zsl 0 n;rw[show-(0:Rat)=0 by rfl]at this;grind
  have hz2:=zmi (qd1 v hd).1 n;rw[zsl]at hz2;have hi:((zn c+1:Int):Rat)<=(zn d:Rat):=Rat.intCast_le_intCast.2 O;rw[Rat.intCast_add]at hi;have hi:(zn c:Rat)+1<=(zn d:Rat):=hi;have:=q0 hi l2;grind
theorem qj8{x:Iv}(vx:VI x)(p:Int):VI (zy1 x p):=by
 unfold zy1;split
 .rename_i hc;obtain⟨hf,h0⟩:=hc;unfold ftB at hf;rw[Bool.and_eq_true]at hf;have k:=(zp vx.ri).1 hf.1;have hp:8<=p/\p<=512:=by
   obtain⟨q,hq,hq2⟩:=jx.1 hf.2;omega
  have h0:=(kc x.lo).2.1.1 h0;obtain⟨v1,l1⟩:=qka k.lo h0 hp;obtain⟨v2,l2⟩:=qka k.hi (by have:=k.dle;grind) hp;have hcc:CI (edI (lnI x.lo p) (lnI x.hi p)):=qb0 (qbz _ _) (qbz _ _);unfold edI at hcc⊢;split
  .exact .inr rfl
  .rename_i hn;rw[Z5 hn]at hcc;have a1:(lnI x.lo p).all =false:=by simpa using fun c=>hn (.inl c)
   have a2:(lnI x.hi p).all =false:=by simpa using fun c=>hn (.inr c)
   have hle:dv (lnI x.lo p).lo <=dv (lnI x.hi p).hi :=qc0 fun e he=>by
    obtain⟨e1,e2⟩:=zbl he;obtain⟨N1,h1⟩:=qas l1 a1 e1;obtain⟨N2,h2⟩:=qas l2 a2 e1;have g1:=(h1 (N1+N2) O).1;have g2:=(h2 (N1+N2) O).2;have g3:=qfz k.lo h0 k.hi k.dle (N1+N2);grind
   exact .inl (ztt hcc rfl hle)
 .exact .inr rfl
