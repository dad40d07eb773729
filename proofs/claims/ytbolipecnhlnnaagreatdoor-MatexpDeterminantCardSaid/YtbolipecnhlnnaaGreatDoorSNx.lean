/- The enclosures of the exponential function are true. -/
import Derived.Test.YtbolipecnhlnnaaGreatDoorSMa
import Derived.Test.YtbolipecnhlnnaaGreatDoorSNk
set_option linter.unusedVariables false
set_option linter.unusedSimpArgs false
open Rat renaming mul_le_mul_of_nonneg_left->q0,mul_le_mul_of_nonneg_right->q3,mul_nonneg->q4,le_trans->q5,le_refl->q6,mul_one->q7,natCast_le_natCast->q8,mul_zero->q9,mul_comm->qA,mul_assoc->qB,one_mul->qC,le_total->qD,sub_self->qE,div_def->qF,mul_add->qG
namespace Go.Proofs.YtbolipecnhlnnaaGreatDoor
open Go Go.Sx
set_option maxRecDepth 100000
set_option maxHeartbeats 4000000
theorem qen {x:Iv} (vx:VI x) {q:Rat} (h:inI q x) {p:Int} (hp:pcB p=true):inI (q*q) (sqI x p):=by
 unfold sqI;by_cases hk:kB x=true
 .rw[Z4 ⟨hk,hp⟩];have k:=(qa vx.ri).1 hk;rcases h with c|⟨h1,h2⟩
  .rw[k.all]at c;cases c
  obtain⟨a0,a1,a2⟩:=zmp k h1 h2
  cases ha:(jy (um (zf0 x) (zf0 x) p.toNat false) (um (jk x) (jk x) p.toNat true)).all with
  |true=>exact .inl ha
  |false=>
   obtain⟨o1,o2⟩:=ye.1 ha;rw[za5 ha];have l:=((zim (zqb k) (zqb k) (qs hp)).1.1 o1).1;have u:=((zim (zaf k) (zaf k) (qs hp)).2.1 o2).1;have r0:=zm q;have e:zn q*zn q=q*q:=by unfold zn;split<;>grind
   have s1:=q0 a1 a0;have s2:=q3 a1 r0;have s3:=q0 a2 r0;have s4:=q3 a2 (q5 r0 a2);exact .inr ⟨by grind,by grind⟩
 .rw[Z5 fun c=>hk c.1];exact zrg _
theorem lI_sq {s:Nat->Rat} {x:Iv} (vx:VI x) {p:Int} (hp:pcB p=true) (h:lI s x) (hb:Bnd s):lI (fun n=>s n*s n) (sqI x p):=fun e he=>by
 obtain⟨B,hB,hB'⟩:=hb;obtain⟨d0',d1⟩:=ul he (show 0<=B+B+1 by grind);obtain⟨d,hd0,hd1,hd2⟩: ∃d:Rat,0<d/\d<=1/\d<=e/(B+B+1+1):=by
  rcases qD (a:=e/(B+B+1+1)) (b:=1)with c|c
  .exact⟨_,d0',c,q6⟩
  .exact⟨1,by decide,q6,c⟩
 obtain⟨N,hN⟩:=h d hd0;refine⟨N,fun n hn=>?_⟩;obtain⟨q,hq,hq2⟩:=hN n hn;refine⟨q*q,qen vx hq hp,?_⟩;have h1:=hB' n;have e1:s n*s n-q*q=(s n-q)*(s n+q):=by grind
 rw[e1,ue];have h2:zn (s n+q)<=B+B+1:=by
  have h3:=wz (s n+s n) (-(s n-q));have h4:=wz (s n) (s n);rw[yd]at h3;rw[show s n+s n+ -(s n-q)=s n+q by grind]at h3;grind
 have h5:=q0 h2 (zm (s n-q));have h6:=q3 (q5 hq2 hd2) (show 0<=B+B+1 by grind);generalize e/(B+B+1+1)=z at*;grind
theorem rQ_z: ∀n,eS 0 n=1
 |0=>rfl
 |n+1=>by
  show eS 0 n+rQ 0 (n+1)=1;rw[rQ_z n,show rQ 0 (n+1)=0 by unfold rQ;grind];grind
theorem zz3 {x:Iv} (vx:VI x) {q r:Rat} (h:inI q x) (hr:zn r<=zn q):inI r (arI x):=by
 unfold arI;split
 .rename_i hk;have k:=(qa vx.ri).1 hk;rcases h with c|⟨h1,h2⟩
  .rw[k.all]at c;cases c
  obtain⟨a0,a1,a2⟩:=zmp k h1 h2;obtain⟨r1,r2⟩:=wp r;refine .inr ⟨?_,?_⟩
  .show dv (yk (jk x))<=r;rw[zb2];grind
  .show r<=dv (jk x);grind
 .exact zrg _
theorem zzs {y:Iv} (vy:VI y) {q:Rat} (hq:inI q y) {p:Int} (hp:pcB p=true): ∀(f m:Nat) (t s:Iv),m+f<=100000->VI t->VI s->inI (rQ q m) t->inI (eS q m) s->
 ∃K,VI (exG y p f (m+1) t s).1/\VI (exG y p f (m+1) t s).2/\inI (rQ q K) (exG y p f (m+1) t s).1/\inI (eS q K) (exG y p f (m+1) t s).2
 |0,m,t,s,_,vt,vs,ht,hs=>⟨m,vt,vs,ht,hs⟩
 |f+1,m,t,s,hm,vt,vs,ht,hs=>by
  have vm:=wq vt vy hp;have vw:VI (whI ((m+1:Nat):Int)):=xq (by omega);have vd:=zew vm vw hp;have i1:=zn5 vm vw hp (zcs vt vy hp ht hq) (zcq ((m+1:Nat):Int));rw[Rat.intCast_natCast,qF]at i1;have e:rQ q m*q*((m+1:Nat):Rat)⁻¹ =rQ q (m+1):=by
   show _=rQ q m*q*(1/((m+1:Nat):Rat));rw[qF,qC]
  rw[e]at i1;have va:=zcu vs vd hp;have i2:inI (eS q (m+1)) (ka s (zct (wu t y p) (whI ((m+1:Nat):Int)) p) p):=zfb vs vd hp hs i1;unfold exG;split
  .exact⟨m+1,vd,va,i1,i2⟩
  .exact zzs vy hq hp f (m+1) _ _ (by omega) vd va i1 i2
theorem ex_li {y:Iv} (vy:VI y) {q:Rat} (hq:inI q y) (hb:zn q*2<=1) {p:Int} (hp:pcB p=true):VI (zvt y p)/\lI (eS q) (zvt y p):=by
 have hp2:8<=p/\p<=512:=by
  obtain⟨q,rfl,hq⟩:=kp.1 hp;omega
 obtain⟨K,v1,v2,i1,i2⟩:=zzs vy hq hp (p.toNat+2) 0 (whI 1) (whI 1) (by omega) (xq (by decide)) (xq (by decide)) (zcq 1) (zcq 1);have hT: ∀n,K<=n->zn (eS q n-eS q K)<=zn (rQ q K):=fun n hn=>by
  rw[ze8];refine qci ?_ hn;have:(1:Rat)<=((K+1:Nat):Rat):=by
   have:((1:Nat):Rat)<=((K+1:Nat):Rat):=q8.2 (by omega);exact this
  exact q5 hb this
 have va:VI (arI (exG y p (p.toNat+2) 1 (whI 1) (whI 1)).1):=zd9 (qh6 v1.ri) (zz3 v1 i1 (q6 (a:=zn (rQ q K))));have hin: ∀n,K<=n->inI (eS q n) (zvt y p):=fun n hn=>by
  have:=zfb v2 va hp i2 (zz3 v1 i1 (hT n hn));rw[show eS q K+(eS q n-eS q K)=eS q n by grind]at this;exact this
 exact⟨zd9 (qh4 y p) (hin K (Nat.le_refl _)),ztq K hin⟩
theorem qgf {p:Int} (hp:pcB p=true): ∀(n:Nat) (y:Iv) (q:Rat),VI y->inI q y->zn q*2<=pw (n:Int)->VI (haI p n y)/\lI (eS q) (haI p n y)
 |0,y,q,vy,hq,hb=>ex_li vy hq (by rw[show pw ((0:Nat):Int)=1 by rw[vj];rfl]at hb;exact hb) hp
 |n+1,y,q,vy,hq,hb=>by
  have vz:=zb9 vy (-1);have hz:=zox vy (j:= -1) hq;have h2:pw (-1)*2=1:=by
   have e1:(2:Rat)=pw 1:=by rw[show(1:Int)=((1:Nat):Int)from rfl,vj];rfl
   rw[e1,<-pwA,show(-1+1:Int)=((0:Nat):Int)from rfl,vj];rfl
  have e2:pw (((n+1:Nat)):Int)*pw (-1)=pw (n:Int):=by rw[<-pwA];congr 1;omega
  have hb':zn (q*pw (-1))*2<=pw (n:Int):=by
   rw[ue,jf (yw (-1)),<-e2];have:=q3 hb (yw (-1));grind
  obtain⟨v,l⟩:=qgf hp n (zu y (-1)) (q*pw (-1)) vz hz hb';have hs:=(lI_sq v hp l (zma _)).nul (zpu (q*pw (-1)) (q*pw (-1)));rw[show q*pw (-1)+q*pw (-1)=q by rw[<-qG,show pw (-1)+pw (-1)=1 by grind,q7]]at hs;refine⟨?_,hs⟩;exact zd9 (qh1 p) (qen v (znt v) hp)
theorem qe5 {d:Dy} (hd:VD d) {p:Int} (hp:pcB p=true):VI (poI d p)/\lI (eS (dv d)) (poI d p):=by
 have hp2:8<=p/\p<=512:=by
  obtain⟨q,rfl,hq⟩:=kp.1 hp;omega
 unfold poI;split
 .rename_i h0;have:dv d=0:=(zfp d).2.2.1 h0;rw[this];exact⟨xq (by decide),ztq 0 fun n _=>by rw[rQ_z];exact zcq 1⟩
 .rename_i h0;have hn:nm d≠0:=fun c=>h0 (by unfold wo;rw[Z4 c])
  obtain⟨t1,t2⟩:=zpv hn;have hG:pcB (guP p (hvN d+24))=true:=qgh hp2 (by omega);have vp:VI (zd d):= .inl (zbc hd);have ip:inI (dv d) (zd d):= .inr ⟨q6,q6⟩;have hb:zn (dv d)*2<=pw ((hvN d:Nat):Int):=by
   have h1:zn (dv d)<=pw (zy d):=jn.2 ⟨t1,t2⟩;have h2:pw (zy d)*2=pw (zy d+1):=by
    rw[pwA,show pw 1=2 by rw[show(1:Int)=((1:Nat):Int)from rfl,vj];rfl]
   have h3:pw (zy d+1)<=pw ((hvN d:Nat):Int):=xk.2 (by unfold hvN;omega);grind
  obtain⟨v,l⟩:=qgf hG (hvN d) (wm (zd d) (guP p (hvN d+24))) (dv d) (zju vp _) (zgm vp ip) hb;exact⟨zju v p,qfy (fun q hq=>zgm v hq) l⟩
theorem qgl {x:Iv} (vx:VI x) {q:Rat} (hq:inI q x) (p:Int):VI (zxx x p)/\lI (eS q) (zxx x p):=by
 have hw:VI wI0/\lI (eS q) wI0:=⟨.inr rfl,ztq 0 fun n _=>zrg _⟩;unfold zxx;split
 .rename_i h;obtain⟨hf,_,_⟩:=h;unfold ftB at hf;rw[Bool.and_eq_true]at hf;have k:=(qa vx.ri).1 hf.1;rcases hq with c|⟨q1,q2⟩
  .rw[k.all]at c;cases c
  obtain⟨v1,l1⟩:=qe5 k.lo hf.2;obtain⟨v2,l2⟩:=qe5 k.hi hf.2;have hc:CI (edI (poI x.lo p) (poI x.hi p)):=CI_ed (qh2 _ _) (qh2 _ _);unfold edI at hc⊢;split
  .exact hw
  .rename_i hn;rw[Z5 hn]at hc;have a1:(poI x.lo p).all =false:=by simpa using fun c=>hn (.inl c)
   have a2:(poI x.hi p).all =false:=by simpa using fun c=>hn (.inr c)
   have main: ∀e:Rat,0<e-> ∃N:Nat,∀n,N<=n->dv (poI x.lo p).lo -e<=eS q n/\eS q n<=dv (poI x.hi p).hi +e:=fun e he=>by
    obtain⟨e1,e2⟩:=yf he;obtain⟨N1,h1⟩:=zxe l1 a1 e1;obtain⟨N2,h2⟩:=zxe l2 a2 e1;obtain⟨N3,h3⟩:=zum q1 e1;obtain⟨N4,h4⟩:=zum q2 e1;refine⟨N1+N2+N3+N4,fun n hn=>?_⟩;have g1:=(h1 n (by omega)).1;have g2:=(h2 n (by omega)).2;have g3:=h3 n (by omega);have g4:=h4 n (by omega);constructor<;>grind
   have hle:dv (poI x.lo p).lo <=dv (poI x.hi p).hi :=zzj fun e he=>by
    obtain⟨e1,e2⟩:=yf he;obtain⟨N,hN⟩:=main _ e1;have:=hN N (Nat.le_refl _);grind
   exact⟨.inl (zye hc rfl hle),qb0 hle main⟩
 .exact hw
def dgQ (f:Nat->Rat) (i j:Nat):Rat:=if i=j then f i else 0
theorem qe7 {k:Nat} {f:Nat->Rat} {a b:Nat} (hb:b<=k): ∀n,pQ k (dgQ f) n a b=if a=b then rpw (f a) n else 0
 |0=>by show dlt a b=_;unfold dlt;split<;>rfl
 |n+1=>by
  show mQ k (pQ k (dgQ f) n) (dgQ f) a b=_;unfold mQ;have e:sQ (fun r=>pQ k (dgQ f) n a r*dgQ f r b) k=sQ (fun r=>(pQ k (dgQ f) n a r*f b)*dlt r b) k:=yo fun r hr=>by
   unfold dgQ dlt;by_cases c:r=b
   .subst c;rw[Z4 rfl,Z4 rfl,q7]
   .rw[Z5 c,Z5 c,q9,q9]
  rw[e,zwe,Z4 hb,qe7 hb n];by_cases c:a=b
  .subst c;rw[Z4 rfl,Z4 rfl];rfl
  .rw[Z5 c,Z5 c,Rat.zero_mul]
theorem sQ_0: ∀n,sQ (fun _=>(0:Rat)) n=0
 |0=>rfl
 |n+1=>by show sQ _ n+0=0;rw[sQ_0 n];exact Rat.add_zero 0
theorem xQ_dg {k:Nat} {f:Nat->Rat} {a b:Nat} (hb:b<=k) (t:Rat) (n:Nat):xQ k (dgQ f) t n a b=if a=b then eS (t*f a) n else 0:=by
 unfold xQ gQ;have e:sQ (fun i=>rQ t i*pQ k (dgQ f) i a b) n=sQ (fun i=>if a=b then rQ (t*f a) i else 0) n:=yo fun i _=>by
  rw[qe7 hb];split
  .exact zig t (f a) i
  .rw[q9]
 rw[e];split
 .rfl
 .exact sQ_0 n
theorem zqe (z:Rat):0<=z*z:=by
 rcases qD (a:=0) (b:=z)with c|c
 .exact q4 c c
 .have:=q4 (show 0<= -z by grind) (show 0<= -z by grind);grind
theorem qe1 (t:Int):pw t*pw (-t)=1:=by rw[<-pwA,show t+ -t=((0:Nat):Int) by omega,vj];rfl
set_option maxHeartbeats 8000000
def dtQ:Nat->(Nat->Nat->Rat)->Rat
 |0,M=>M 0 0
 |1,M=>M 0 0*M 1 1-M 0 1*M 1 0
 | _,M=>M 0 0*(M 1 1*M 2 2-M 1 2*M 2 1)-M 0 1*(M 1 0*M 2 2-M 1 2*M 2 0)+M 0 2*(M 1 0*M 2 1-M 1 1*M 2 0)
def teQ:Nat->(Nat->Nat->Rat)->Rat:=fun k A=>sQ (fun i=>A i i) k
theorem qcm (A B:Nat->Nat->Rat): ∀k,k<=2->dtQ k (mQ k A B)=dtQ k A*dtQ k B
 |0,_=>rfl
 |1,_=>by
  simp only[dtQ,mQ,sQ];grind
 |2,_=>by
  simp only[dtQ,mQ,sQ];grind
theorem zdh {a a' b b':Nat->Rat} (h1:Nul fun n=>a n-a' n) (h2:Nul fun n=>b n-b' n) (ha:Bnd a) (hb:Bnd b'):Nul fun n=>a n*b n-a' n*b' n:=by
 refine((h1.mul hb).add (h2.mul ha)).cg fun n=>?_
 grind
theorem zj1 {a a' b b':Nat->Rat} (h1:Nul fun n=>a n-a' n) (h2:Nul fun n=>b n-b' n):Nul fun n=>(a n-b n)-(a' n-b' n):=(h1.sub h2).cg fun n=>by grind
theorem zwt {a a' b b':Nat->Rat} (h1:Nul fun n=>a n-a' n) (h2:Nul fun n=>b n-b' n):Nul fun n=>(a n+b n)-(a' n+b' n):=(h1.add h2).cg fun n=>by grind
theorem Bnd.sub {s t:Nat->Rat} (hs:Bnd s) (ht:Bnd t):Bnd fun n=>s n-t n:=by
 have:=hs.add ((Bnd.const (-1)).mul ht);have e:(fun n=>s n+ -1*t n)=fun n=>s n-t n:=by funext n;grind
 rw[e]at this;exact this
theorem qg1 {U:Nat->Nat->Nat->Rat}: ∀k,k<=2->(∀i j,i<=k->j<=k->Bnd fun n=>U n i j)->Bnd fun n=>dtQ k (U n)
 |0,_,h=>h 0 0 (by decide) (by decide)
 |1,_,h=>((h 0 0 (by decide) (by decide)).mul (h 1 1 (by decide) (by decide))).sub ((h 0 1 (by decide) (by decide)).mul (h 1 0 (by decide) (by decide)))
 |2,_,h=>by
  have g:=fun i j (hi:i<=2) (hj:j<=2)=>h i j hi hj
  have m:=fun i j r s (hi:i<=2) (hj:j<=2) (hr:r<=2) (hs:s<=2)=>(g i j hi hj).mul (g r s hr hs)
  exact(((g 0 0 (by decide) (by decide)).mul ((m 1 1 2 2 (by decide) (by decide) (by decide) (by decide)).sub (m 1 2 2 1 (by decide) (by decide) (by decide) (by decide)))).sub
   ((g 0 1 (by decide) (by decide)).mul ((m 1 0 2 2 (by decide) (by decide) (by decide) (by decide)).sub (m 1 2 2 0 (by decide) (by decide) (by decide) (by decide))))).add
   ((g 0 2 (by decide) (by decide)).mul ((m 1 0 2 1 (by decide) (by decide) (by decide) (by decide)).sub (m 1 1 2 0 (by decide) (by decide) (by decide) (by decide))))
theorem qg0 {U V:Nat->Nat->Nat->Rat}: ∀k,k<=2->(∀i j,i<=k->j<=k->Nul fun n=>U n i j-V n i j)->(∀i j,i<=k->j<=k->Bnd fun n=>U n i j)->(∀i j,i<=k->j<=k->Bnd fun n=>V n i j)->Nul fun n=>dtQ k (U n)-dtQ k (V n)
 |0,_,h,_,_=>h 0 0 (by decide) (by decide)
 |1,_,h,u,v=>zj1 (zdh (h 0 0 (by decide) (by decide)) (h 1 1 (by decide) (by decide)) (u 0 0 (by decide) (by decide)) (v 1 1 (by decide) (by decide)))
   (zdh (h 0 1 (by decide) (by decide)) (h 1 0 (by decide) (by decide)) (u 0 1 (by decide) (by decide)) (v 1 0 (by decide) (by decide)))
 |2,_,h,u,v=>by
  have p:=fun i j r s (hi:i<=2) (hj:j<=2) (hr:r<=2) (hs:s<=2)=>zdh (h i j hi hj) (h r s hr hs) (u i j hi hj) (v r s hr hs)
  have bv:=fun i j r s (hi:i<=2) (hj:j<=2) (hr:r<=2) (hs:s<=2)=>(v i j hi hj).mul (v r s hr hs)
  have t:=fun a b i j r s i' j' r' s' (ha:a<=2) (hb:b<=2) (hi:i<=2) (hj:j<=2) (hr:r<=2) (hs:s<=2) (hi':i'<=2) (hj':j'<=2) (hr':r'<=2) (hs':s'<=2)=>
   zdh (h a b ha hb) (zj1 (p i j r s hi hj hr hs) (p i' j' r' s' hi' hj' hr' hs')) (u a b ha hb) ((bv i j r s hi hj hr hs).sub (bv i' j' r' s' hi' hj' hr' hs'))
  exact zwt (zj1 (t 0 0 1 1 2 2 1 2 2 1 (by decide) (by decide) (by decide) (by decide) (by decide) (by decide) (by decide) (by decide) (by decide) (by decide))
   (t 0 1 1 0 2 2 1 2 2 0 (by decide) (by decide) (by decide) (by decide) (by decide) (by decide) (by decide) (by decide) (by decide) (by decide)))
   (t 0 2 1 0 2 1 1 1 2 0 (by decide) (by decide) (by decide) (by decide) (by decide) (by decide) (by decide) (by decide) (by decide) (by decide))
structure Mf (f:Rat->Nat->Rat):Prop where
 mul: ∀s t,Nul fun n=>f s n*f t n-f (s+t) n
 bd: ∀t,Bnd (f t)
def sqN2:Nat->Rat->Rat
 |0,x=>x
 |s+1,x=>sqN2 s x*sqN2 s x
theorem zo2 {x m:Rat} (h:zn x<=m): ∀s,zn (sqN2 s x)<=sqN2 s m
 |0=>h
 |s+1=>by
  have ih:=zo2 h s;show zn (sqN2 s x*sqN2 s x)<=sqN2 s m*sqN2 s m;rw[ue];have h0:=zm (sqN2 s x);have h1:=q0 ih h0;have h2:=q3 ih (q5 h0 ih);grind
theorem zy3 {a b m:Rat} (ha:zn a<=m) (hb:zn b<=m) (hm:1<=m): ∀s:Nat,zn (sqN2 s a-sqN2 s b)<=pw (s:Int)*sqN2 s m*zn (a-b)
 |0=>by
  show zn (a-b)<=pw ((0:Nat):Int)*m*zn (a-b);rw[vj];have h0:=zm (a-b);have:=q3 hm h0;have e:((2^0:Nat):Rat)=1:=rfl;rw[e];grind
 |s+1=>by
  have ih:=zy3 ha hb hm s;have e:sqN2 (s+1) a-sqN2 (s+1) b=(sqN2 s a-sqN2 s b)*(sqN2 s a+sqN2 s b):=by
   show sqN2 s a*sqN2 s a-sqN2 s b*sqN2 s b=_;grind
  have h1:=wz (sqN2 s a) (sqN2 s b);have h2:=zo2 ha s;have h3:=zo2 hb s;have h4:zn (sqN2 s a+sqN2 s b)<=sqN2 s m+sqN2 s m:=by grind
  have e2:pw (((s+1:Nat)):Int)=pw (s:Int)*2:=by
   rw[show((s+1:Nat):Int)=(s:Int)+1 by omega,pwA,show pw 1=2 by rw[show(1:Int)=((1:Nat):Int)from rfl,vj];rfl]
  rw[e,ue,e2];show _<=pw (s:Int)*2*(sqN2 s m*sqN2 s m)*zn (a-b);have h5:=q0 h4 (zm (sqN2 s a-sqN2 s b));have h6:=q3 ih (show 0<=sqN2 s m+sqN2 s m by have:=zm (sqN2 s a);grind);grind
theorem Mf.pow {f:Rat->Nat->Rat} (h:Mf f): ∀(s:Nat) (t:Rat),(Nul fun n=>sqN2 s (f (t*pw (-(s:Int))) n)-f t n)/\Bnd fun n=>sqN2 s (f (t*pw (-(s:Int))) n)
 |0,t=>by
  have e:t*pw (-((0:Nat):Int))=t:=by rw[show-((0:Nat):Int)=((0:Nat):Int) by rfl,vj];simp
  rw[e];exact⟨Nul.zero.cg fun n=>by show(0:Rat)=f t n-f t n;grind,h.bd t⟩
 |s+1,t=>by
  obtain⟨i1,i2⟩:=h.pow s (t*pw (-1));have e:t*pw (-((s+1:Nat):Int))=t*pw (-1)*pw (-(s:Int)):=by
   rw[qB,<-pwA];congr 2;omega
  rw[e];have e1:t*pw (-1)+t*pw (-1)=t:=by
   have h2:pw (-1)+pw (-1)=1:=by
    have:=zla (-1);rw[this,show(-1+1:Int)=((0:Nat):Int)from rfl,vj];rfl
   rw[<-qG,h2,q7]
  have h1:=zdh i1 i1 i2 (h.bd _);have h2:=h.mul (t*pw (-1)) (t*pw (-1));rw[e1]at h2;exact⟨(h1.add h2).cg fun n=>by show _=sqN2 s _*sqN2 s _-f t n;grind,i2.mul i2⟩
structure Loc (f:Rat->Nat->Rat) (d:Rat):Prop where
 c: ∃C:Rat,0<=C/\ ∀h:Rat,zn h<=1-> ∀n,1<=n->zn (f h n-(1+h*d))<=C*(h*h)
theorem qgu (s:Nat) (c:Rat) (hc:0<=c): ∃B:Rat,∀s:Nat,sqN2 s (1+c*pw (-(s:Int)))<=B:=by
 have hm:Mf fun t n=>eS t n:=⟨fun s t=>zpu s t,fun t=>zma t⟩
 obtain⟨B,hB,hB'⟩:=zma c;refine⟨B+1,fun s=>?_⟩;obtain⟨N,hN⟩:=(hm.pow s c).1 1 (by decide);have h1:=hN (N+1) (by omega);have h2:=hB' (N+1);have h3:1+c*pw (-(s:Int))<=eS (c*pw (-(s:Int))) (N+1):=by
  have hx:=q4 hc (yw (-(s:Int)));have:=zsj (f:=rQ (c*pw (-(s:Int)))) (fun i=>zel hx i) (show 1<=N+1 by omega);have e:sQ (rQ (c*pw (-(s:Int)))) 1=1+c*pw (-(s:Int)):=by
   show(1:Rat)+1*(c*pw (-(s:Int)))*(1/((0+1:Nat):Rat))=_;rw[show(1:Rat)/((0+1:Nat):Rat)=1 by decide+kernel];grind
  rw[e]at this;exact this
 have h4:0<=1+c*pw (-(s:Int)):=by have:=q4 hc (yw (-(s:Int)));grind
 have h5:=zo2 (x:=1+c*pw (-(s:Int))) (m:=eS (c*pw (-(s:Int))) (N+1)) (by rw[jf h4];exact h3) s;have h6:=(wp (sqN2 s (1+c*pw (-(s:Int))))).2;have h7:=wp (sqN2 s (eS (c*pw (-(s:Int))) (N+1))-eS c (N+1));have h8:=wp (eS c (N+1));grind
theorem zo3 {e:Rat} (he:0<e): ∃s:Nat,pw (-(s:Int))<=e:=by
 obtain⟨n,hn⟩:=arch e⁻¹;refine⟨n,?_⟩;have h1:(n:Rat)<=pw (n:Int):=by
  rw[vj];exact q8.2 (Nat.le_of_lt Nat.lt_two_pow_self)
 have h2:=qe1 (n:Int);have h3:=q5 hn h1;have h4:=q3 h3 (q4 (Rat.le_of_lt he) (yw (-(n:Int))));have h5:=Rat.mul_inv_cancel e (by grind);have e1:e⁻¹ *(e*pw (-(n:Int)))=pw (-(n:Int)):=by
  rw[<-qB,qA e⁻¹ e,h5,qC]
 have e2:pw (n:Int)*(e*pw (-(n:Int)))=e:=by
  rw[qA e,<-qB,h2,qC]
 rw[e1,e2]at h4;exact h4
theorem Mf.eq {f g:Rat->Nat->Rat} (hf:Mf f) (hg:Mf g) {d:Rat} (lf:Loc f d) (lg:Loc g d) (t:Rat):Nul fun n=>f t n-g t n:=fun e he=>by
 obtain⟨C,hC,hC'⟩:=lf.c;obtain⟨D,hD,hD'⟩:=lg.c;have hd:=zm d;have ht:=zm t;obtain⟨B,hB⟩:=qgu 0 ((zn d+C+D)*zn t) (q4 (by grind) ht);have hB0:0<=B:=by
  have h1:=hB 0;have h2:=q4 (show 0<=zn d+C+D by grind) ht;have:sqN2 0 (1+(zn d+C+D)*zn t*pw (-((0:Nat):Int)))=1+(zn d+C+D)*zn t:=by
   show 1+(zn d+C+D)*zn t*pw (-((0:Nat):Int))=_;rw[show-((0:Nat):Int)=((0:Nat):Int) by rfl,vj,show((2^0:Nat):Rat)=1 from rfl,q7]
  rw[this]at h1;grind
 obtain⟨e1,e2⟩:=yf he;obtain⟨e3,e4⟩:=yf e1;have hK:0<=B*((C+D)*(t*t)):=q4 hB0 (q4 (by grind) (zqe t));obtain⟨d0',d1⟩:=ul e1 hK;obtain⟨d2',d3⟩:=ul (e:=1) (by decide) ht;obtain⟨s1,hs1⟩:=zo3 d0';obtain⟨s2,hs2⟩:=zo3 d2';obtain⟨s,hs,hs'⟩: ∃s:Nat,pw (-(s:Int))<=pw (-(s1:Int))/\pw (-(s:Int))<=pw (-(s2:Int)):=⟨s1+s2,xk.2 (by omega),xk.2 (by omega)⟩;have hs1:=q5 hs hs1;have hs2:=q5 hs' hs2;have hp:=yw (-(s:Int));obtain⟨N1,hN1⟩:=(hf.pow s t).1 _ e3;obtain⟨N2,hN2⟩:=(hg.pow s t).1 _ e3;refine⟨N1+N2+1,fun n hn=>?_⟩;have g1:=hN1 n (by omega);have g2:=hN2 n (by omega);have hh:zn (t*pw (-(s:Int)))=zn t*pw (-(s:Int)):=by rw[ue,jf hp]
 have hle:zn (t*pw (-(s:Int)))<=1:=by
  rw[hh];have:=q0 hs2 ht;grind
 have a1:=hC' _ hle n (by omega);have a2:=hD' _ hle n (by omega);have hsq:t*pw (-(s:Int))*(t*pw (-(s:Int)))<=zn (t*pw (-(s:Int))):=by
  have:t*pw (-(s:Int))*(t*pw (-(s:Int)))=zn (t*pw (-(s:Int)))*zn (t*pw (-(s:Int))):=by unfold zn;split<;>grind
  rw[this];have:=q0 hle (zm (t*pw (-(s:Int))));grind
 have hbd: ∀ {E x:Rat},0<=E->E<=C+D->zn (x-(1+t*pw (-(s:Int))*d))<=E*(t*pw (-(s:Int))*(t*pw (-(s:Int))))->zn x<=1+(zn d+C+D)*zn t*pw (-(s:Int)):=fun {E x} h0 h1 h2=>by
  have k1:=wz (x-(1+t*pw (-(s:Int))*d)) (1+t*pw (-(s:Int))*d);have k2:=wz 1 (t*pw (-(s:Int))*d);rw[zsq,ue,hh]at k2;rw[show x-(1+t*pw (-(s:Int))*d)+(1+t*pw (-(s:Int))*d)=x by grind]at k1;have k3:=q0 hsq h0;rw[hh]at k3;have k4:=q3 h1 (q4 ht hp);grind
 have b1:=hbd hC (by grind) a1;have b2:=hbd hD (by grind) a2;have hm:(1:Rat)<=1+(zn d+C+D)*zn t*pw (-(s:Int)):=by
  have:=q4 (q4 (show 0<=zn d+C+D by grind) ht) hp;grind
 have q:=zy3 b1 b2 hm s;have hBs:=hB s;have hdif:zn (f (t*pw (-(s:Int))) n-g (t*pw (-(s:Int))) n)<=(C+D)*(t*pw (-(s:Int))*(t*pw (-(s:Int)))):=by
  have k:=zjw (f (t*pw (-(s:Int))) n-(1+t*pw (-(s:Int))*d)) (g (t*pw (-(s:Int))) n-(1+t*pw (-(s:Int))*d));rw[show f (t*pw (-(s:Int))) n-(1+t*pw (-(s:Int))*d)-(g (t*pw (-(s:Int))) n-(1+t*pw (-(s:Int))*d))=f (t*pw (-(s:Int))) n-g (t*pw (-(s:Int))) n by grind]at k;grind
 have hps:=qe1 (s:Int);have key:pw (s:Int)*sqN2 s (1+(zn d+C+D)*zn t*pw (-(s:Int)))*zn (f (t*pw (-(s:Int))) n-g (t*pw (-(s:Int))) n)<=e/2:=by
  have k1:=q0 hBs (yw (s:Int));have k2:=q3 k1 (zm (f (t*pw (-(s:Int))) n-g (t*pw (-(s:Int))) n));have k3:=q0 hdif (q4 (yw (s:Int)) hB0);have k4:pw (s:Int)*B*((C+D)*(t*pw (-(s:Int))*(t*pw (-(s:Int)))))=B*((C+D)*(t*t))*pw (-(s:Int))*(pw (s:Int)*pw (-(s:Int))):=by grind
  rw[k4,hps,q7]at k3;have k5:=q0 hs1 hK;exact q5 k2 (q5 k3 (q5 k5 d1))
 have q':=q5 q key;have r1:=wz (f t n-sqN2 s (f (t*pw (-(s:Int))) n)) (sqN2 s (f (t*pw (-(s:Int))) n)-sqN2 s (g (t*pw (-(s:Int))) n));have r2:=wz (f t n-sqN2 s (f (t*pw (-(s:Int))) n)+(sqN2 s (f (t*pw (-(s:Int))) n)-sqN2 s (g (t*pw (-(s:Int))) n))) (sqN2 s (g (t*pw (-(s:Int))) n)-g t n);rw[show f t n-sqN2 s (f (t*pw (-(s:Int))) n)+(sqN2 s (f (t*pw (-(s:Int))) n)-sqN2 s (g (t*pw (-(s:Int))) n))+(sqN2 s (g (t*pw (-(s:Int))) n)-g t n)=f t n-g t n by grind]at r2;have r3:zn (f t n-sqN2 s (f (t*pw (-(s:Int))) n))=zn (sqN2 s (f (t*pw (-(s:Int))) n)-f t n):=by rw[<-yd];congr 1;grind
 rw[r3]at r1;grind
theorem zsn {x:Rat} (h0:0<=x) (h1:x<=1): ∀i,rpw x i<=1
 |0=>q6
 |i+1=>by
  have ih:=zsn h0 h1 i;have:=zyw h0 i;show rpw x i*x<=1;have:=q0 h1 this;grind
theorem rQ_sm {x U:Rat} (h0:0<=x) (h1:x<=1) (hU:0<=U) (i:Nat):rQ (x*U) (i+2)<=x*x*rQ U (i+2):=by
 have e:=zig U x (i+2);rw[qA x U,<-e];have h2:rpw x (i+2)<=x*x:=by
  show rpw x i*x*x<=x*x;have a:=zsn h0 h1 i;have b:=q3 a (q4 h0 h0);grind
 have:=q0 h2 (zel hU (i+2));grind
theorem x_loc {k:Nat} {A:Nat->Nat->Rat} {U:Rat} (hU:nQ k A U): ∃B:Rat,0<=B/\ ∀h:Rat,zn h<=1-> ∀n,1<=n-> ∀a b,a<=k->b<=k->zn (xQ k A h n a b-(dlt a b+h*A a b))<=B*(h*h):=by
 obtain⟨B,hB,hB'⟩:=zma U;have h0U:=zlk hU;refine⟨B,hB,fun h hh n hn a b ha hb=>?_⟩;obtain⟨d,rfl⟩:=Nat.exists_eq_add_of_le hn;have hx:=zm h;have ehh:zn h*zn h=h*h:=by unfold zn;split<;>grind
 have main: ∀d:Nat,zn (sQ (fun i=>rQ h i*pQ k A i a b) (1+d)-sQ (fun i=>rQ h i*pQ k A i a b) 1)<=h*h*(sQ (rQ U) (1+d)-sQ (rQ U) 1):=fun d=>by
  induction d with
  |zero=>rw[Nat.add_zero,qE,qE,zgq,q9];exact q6
  |succ d ih=>
   have e1:sQ (fun i=>rQ h i*pQ k A i a b) (1+(d+1))=sQ (fun i=>rQ h i*pQ k A i a b) (1+d)+rQ h (1+d+1)*pQ k A (1+d+1) a b:=rfl;have e2:sQ (rQ U) (1+(d+1))=sQ (rQ U) (1+d)+rQ U (1+d+1):=rfl;have g:=qgi hU (cx h) ha hb (1+d+1);have g2:=rQ_sm hx hh h0U d;rw[ehh]at g2;rw[show d+2=1+d+1 by omega]at g2;have t:=wz (sQ (fun i=>rQ h i*pQ k A i a b) (1+d)-sQ (fun i=>rQ h i*pQ k A i a b) 1) (rQ h (1+d+1)*pQ k A (1+d+1) a b);rw[e1,e2,show sQ (fun i=>rQ h i*pQ k A i a b) (1+d)+rQ h (1+d+1)*pQ k A (1+d+1) a b-sQ (fun i=>rQ h i*pQ k A i a b) 1=sQ (fun i=>rQ h i*pQ k A i a b) (1+d)-sQ (fun i=>rQ h i*pQ k A i a b) 1+rQ h (1+d+1)*pQ k A (1+d+1) a b by grind];grind
 have m:=main d;have e1:sQ (fun i=>rQ h i*pQ k A i a b) 1=dlt a b+h*A a b:=by
  show(1:Rat)*dlt a b+(1*h*(1/((0+1:Nat):Rat)))*pQ k A 1 a b=_;have p1:pQ k A 1 a b=A a b:=by
   show mQ k dlt A a b=A a b;unfold mQ;have:(fun q=>dlt a q*A q b)=fun q=>A q b*dlt q a:=by
    funext q;unfold dlt
    by_cases c:a=q
    .rw[Z4 c,Z4 c.symm];grind
    .rw[Z5 c,Z5 fun e=>c e.symm];grind
   rw[this,zwe,Z4 ha]
  rw[p1,show(1:Rat)/((0+1:Nat):Rat)=1 by decide+kernel];grind
 rw[e1]at m;have e3:=hB' (1+d);have e4:0<=sQ (rQ U) 1:=zqn fun i _=>zel h0U i
 have e5:=(wp (eS U (1+d))).2;have e6:sQ (rQ U) (1+d)-sQ (rQ U) 1<=B:=by
  show eS U (1+d)-_<=B;grind
 have e7:=q0 e6 (zqe h);show zn (sQ (fun i=>rQ h i*pQ k A i a b) (1+d)-(dlt a b+h*A a b))<=_;grind
theorem qdf (x:Rat):x-0=x:=by grind
theorem ab2 {m a b:Rat} (ha:zn a<=m) (hb:zn b<=m): -(m*m)<=a*b/\a*b<=m*m:=by
 obtain⟨a1,a2⟩:=jn.1 ha;obtain⟨b1,b2⟩:=jn.1 hb;exact jw a1 a2 b1 b2
theorem ab3 {m a b c:Rat} (ha:zn a<=m) (hb:zn b<=m) (hc:zn c<=m): -(m*m*m)<=a*b*c/\a*b*c<=m*m*m:=by
 obtain⟨a1,a2⟩:=ab2 ha hb;obtain⟨c1,c2⟩:=jn.1 hc;exact jw a1 a2 c1 c2
theorem zzv {A:Nat->Nat->Rat} {U:Rat}: ∀k,k<=2->nQ k A U->Loc (fun h n=>dtQ k (xQ k A h n)) (teQ k A):=fun k hk hU=>by
 obtain⟨B,hB,hx⟩:=x_loc hU;have h0U:=zlk hU;refine⟨3*B+6*((U+B)*(U+B))+6*((U+B)*(U+B)*(U+B)),?_,fun h hh n hn=>?_⟩
 .have h1:=q4 (show 0<=U+B by grind) (show 0<=U+B by grind);have h2:=q4 h1 (show 0<=U+B by grind);grind
 have hr:=zm h;have ehh:zn h*zn h=h*h:=by unfold zn;split<;>grind
 have e:=fun a b ha hb=>hx h hh n hn a b ha hb
 have hy: ∀a b,a<=k->b<=k->zn (xQ k A h n a b-dlt a b)<=zn h*(U+B):=fun a b ha hb=>by
  have e1:=e a b ha hb;have e2:=wz (xQ k A h n a b-(dlt a b+h*A a b)) (h*A a b);rw[show xQ k A h n a b-(dlt a b+h*A a b)+h*A a b=xQ k A h n a b-dlt a b by grind,ue]at e2;have e3:=q0 (zs9 hU ha hb) hr;have e4:=q0 hh hr;rw[ehh]at e4;have e5:=q0 e4 hB;grind
 have hd:=fun i hi=>jn.1 (e i i hi hi)
 have m2:zn h*(U+B)*(zn h*(U+B))=h*h*((U+B)*(U+B)):=by rw[<-ehh];grind
 have m3:zn h*(U+B)*(zn h*(U+B))*(zn h*(U+B))<=h*h*((U+B)*(U+B)*(U+B)):=by
  rw[m2];have h1:=q4 (zqe h) (q4 (show 0<=U+B by grind) (show 0<=U+B by grind));have h2:=q3 hh (show 0<=U+B by grind);have h3:=q0 h2 h1;grind
 have n2:=q4 (zqe h) (q4 (show 0<=U+B by grind) (show 0<=U+B by grind));have n3:=q4 (zqe h) (q4 (q4 (show 0<=U+B by grind) (show 0<=U+B by grind)) (show 0<=U+B by grind));have nB:=q4 (zqe h) hB;have ez:(3*B+6*((U+B)*(U+B))+6*((U+B)*(U+B)*(U+B)))*(h*h)=3*(B*(h*h))+6*(h*h*((U+B)*(U+B)))+6*(h*h*((U+B)*(U+B)*(U+B))):=by grind
 match k,hk with
 |0,_=>
  have d0:=hd 0 (by decide);show zn (xQ 0 A h n 0 0-(1+h*A 0 0))<=_;have e0:dlt 0 0=1:=rfl;rw[e0]at d0;rw[ez];generalize xQ 0 A h n 0 0=X at*;clear ez;refine jn.2 ⟨?_,?_⟩<;>grind
 |1,_=>
  have d0:=hd 0 (by decide);have d1:=hd 1 (by decide);have y00:=hy 0 0 (by decide) (by decide);have y01:=hy 0 1 (by decide) (by decide);have y10:=hy 1 0 (by decide) (by decide);have y11:=hy 1 1 (by decide) (by decide);have p1:=ab2 y00 y11;have p2:=ab2 y01 y10;rw[m2]at p1 p2;have f0:dlt 0 0=1:=rfl;have f1:dlt 1 1=1:=rfl;have f2:dlt 0 1=0:=rfl;have f3:dlt 1 0=0:=rfl;rw[f0]at d0;rw[f1]at d1;rw[f0,f1]at p1;rw[f2,f3]at p2;show zn (xQ 1 A h n 0 0*xQ 1 A h n 1 1-xQ 1 A h n 0 1*xQ 1 A h n 1 0-(1+h*(A 0 0+A 1 1)))<=_;generalize xQ 1 A h n 0 0=a at*;generalize xQ 1 A h n 0 1=b at*;generalize xQ 1 A h n 1 0=c at*;generalize xQ 1 A h n 1 1=d at*;clear hx hy hd e m2 m3 y00 y01 y10 y11;rw[ez];clear ez;generalize h*h*((U+B)*(U+B))=z at*;generalize h*h*((U+B)*(U+B)*(U+B))=z3 at*;generalize B*(h*h)=zb at*;refine jn.2 ⟨?_,?_⟩<;>grind
 |2,_=>
  have d0:=hd 0 (by decide);have d1:=hd 1 (by decide);have d2:=hd 2 (by decide);have y00:=hy 0 0 (by decide) (by decide);have y01:=hy 0 1 (by decide) (by decide);have y02:=hy 0 2 (by decide) (by decide);have y10:=hy 1 0 (by decide) (by decide);have y11:=hy 1 1 (by decide) (by decide);have y12:=hy 1 2 (by decide) (by decide);have y20:=hy 2 0 (by decide) (by decide);have y21:=hy 2 1 (by decide) (by decide);have y22:=hy 2 2 (by decide) (by decide);have f: ∀i j:Nat,dlt i j=if i=j then 1 else 0:=fun i j=>rfl
  rw[show dlt 0 0=1 from rfl]at d0 y00;rw[show dlt 1 1=1 from rfl]at d1 y11;rw[show dlt 2 2=1 from rfl]at d2 y22;rw[show dlt 0 1=0 from rfl,qdf]at y01;rw[show dlt 0 2=0 from rfl,qdf]at y02;rw[show dlt 1 0=0 from rfl,qdf]at y10;rw[show dlt 1 2=0 from rfl,qdf]at y12;rw[show dlt 2 0=0 from rfl,qdf]at y20;rw[show dlt 2 1=0 from rfl,qdf]at y21;show zn (xQ 2 A h n 0 0*(xQ 2 A h n 1 1*xQ 2 A h n 2 2-xQ 2 A h n 1 2*xQ 2 A h n 2 1)-xQ 2 A h n 0 1*(xQ 2 A h n 1 0*xQ 2 A h n 2 2-xQ 2 A h n 1 2*xQ 2 A h n 2 0)+xQ 2 A h n 0 2*(xQ 2 A h n 1 0*xQ 2 A h n 2 1-xQ 2 A h n 1 1*xQ 2 A h n 2 0)-(1+h*(A 0 0+A 1 1+A 2 2)))<=_;generalize xQ 2 A h n 0 0=x00 at*;generalize xQ 2 A h n 1 1=x11 at*;generalize xQ 2 A h n 2 2=x22 at*;generalize xQ 2 A h n 0 1=x01 at*;generalize xQ 2 A h n 0 2=x02 at*;generalize xQ 2 A h n 1 0=x10 at*;generalize xQ 2 A h n 1 2=x12 at*;generalize xQ 2 A h n 2 0=x20 at*;generalize xQ 2 A h n 2 1=x21 at*;obtain⟨a,ha⟩: ∃a,x00-1=a:=⟨_,rfl⟩;obtain⟨b,hb⟩: ∃b,x11-1=b:=⟨_,rfl⟩;obtain⟨c,hc⟩: ∃c,x22-1=c:=⟨_,rfl⟩;rw[ha]at y00;rw[hb]at y11;rw[hc]at y22;have p1:=ab2 y00 y11;have p2:=ab2 y00 y22;have p3:=ab2 y11 y22;have p4:=ab2 y01 y10;have p5:=ab2 y02 y20;have p6:=ab2 y12 y21;have t1:=ab3 y00 y11 y22;have t2:=ab3 y00 y12 y21;have t3:=ab3 y01 y10 y22;have t4:=ab3 y01 y12 y20;have t5:=ab3 y02 y10 y21;have t6:=ab3 y02 y11 y20;rw[m2]at p1 p2 p3 p4 p5 p6;clear hx hy hd e y00 y01 y02 y10 y11 y12 y20 y21 y22;generalize zn h*(U+B)*(zn h*(U+B))*(zn h*(U+B))=w at*;have ex:x00*(x11*x22-x12*x21)-x01*(x10*x22-x12*x20)+x02*(x10*x21-x11*x20)=1+(a+b+c)+(a*b+a*c+b*c-x01*x10-x02*x20-x12*x21)+(a*b*c-a*x12*x21-x01*x10*c+x01*x12*x20+x02*x10*x21-x02*b*x20):=by
   obtain rfl:x00=a+1:=by grind
   obtain rfl:x11=b+1:=by grind
   obtain rfl:x22=c+1:=by grind
   grind
  rw[ex,ez];obtain⟨d01,d02⟩:=d0;obtain⟨d11,d12⟩:=d1;obtain⟨d21,d22⟩:=d2;obtain⟨p11,p12⟩:=p1;obtain⟨p21,p22⟩:=p2;obtain⟨p31,p32⟩:=p3;obtain⟨p41,p42⟩:=p4;obtain⟨p51,p52⟩:=p5;obtain⟨p61,p62⟩:=p6;obtain⟨t11,t12⟩:=t1;obtain⟨t21,t22⟩:=t2;obtain⟨t31,t32⟩:=t3;obtain⟨t41,t42⟩:=t4;obtain⟨t51,t52⟩:=t5;obtain⟨t61,t62⟩:=t6;clear ex ez;generalize a*b*c=u1 at*;generalize a*x12*x21=u2 at*;generalize x01*x10*c=u3 at*;generalize x01*x12*x20=u4 at*;generalize x02*x10*x21=u5 at*;generalize x02*b*x20=u6 at*;generalize a*b=v1 at*;generalize a*c=v2 at*;generalize b*c=v3 at*;generalize x01*x10=v4 at*;generalize x02*x20=v5 at*;generalize x12*x21=v6 at*;generalize h*h*((U+B)*(U+B))=z at*;generalize h*h*((U+B)*(U+B)*(U+B))=z3 at*;generalize B*(h*h)=zb at*;have el:h*(A 0 0+A 1 1+A 2 2)=h*A 0 0+h*A 1 1+h*A 2 2:=by grind
  rw[el];clear el;generalize h*A 0 0=e0 at*;generalize h*A 1 1=e1 at*;generalize h*A 2 2=e2 at*;clear m2 hU f ehh hr hh hB h0U nB n2 n3;obtain rfl:x00=a+1:=by grind
  obtain rfl:x11=b+1:=by grind
  obtain rfl:x22=c+1:=by grind
  clear ha hb hc;refine jn.2 ⟨?_,?_⟩
  .clear p12 p22 p32 p41 p51 p61 t12 t21 t31 t42 t52 t61 d02 d12 d22;grind
  .clear p11 p21 p31 p42 p52 p62 t11 t22 t32 t41 t51 t62 d01 d11 d21;grind
theorem qct {k:Nat} (hk:k<=2) (A:Nat->Nat->Rat) (t:Rat):Nul fun n=>dtQ k (xQ k A t n)-eS (t*teQ k A) n:=by
 obtain⟨U,hU⟩:=zw0 k A;obtain⟨V,hV⟩:=zw0 0 (dgQ fun _=>teQ k A);have mf: ∀k A U,k<=2->nQ k A U->Mf fun t n=>dtQ k (xQ k A t n):=fun k A U hk hU=>⟨fun s t=>by
  have bx: ∀Z i j,i<=k->j<=k->Bnd fun N=>xQ k A Z N i j:=fun Z i j hi hj=>zoe hU hi hj Z
  have bm: ∀i j,i<=k->j<=k->Bnd fun N=>mQ k (xQ k A s N) (xQ k A t N) i j:=fun i j hi hj=>Bnd.sum fun r hr=>(bx s i r hi hr).mul (bx t r j hr hj)
  refine(qg0 k hk (fun i j hi hj=>zyg hU hi hj s t) bm fun i j hi hj=>bx (s+t) i j hi hj).cg fun n=>?_
  rw[qcm _ _ k hk],fun t=>qg1 k hk fun i j hi hj=>zoe hU hi hj t⟩
 have h:=(mf k A U hk hU).eq (mf 0 (dgQ fun _=>teQ k A) V (by decide) hV) (zzv k hk hU) (by
  have:=zzv (A:=dgQ fun _=>teQ k A) 0 (by decide) hV;exact this) t
 refine h.cg fun n=>?_
 show dtQ k (xQ k A t n)-xQ 0 (dgQ fun _=>teQ k A) t n 0 0=_;rw[xQ_dg (by decide),Z4 rfl]
def zq4 (s c:Nat):Bool:=decide (s/2^c % 2=1)
def zq8 (s:Nat):Nat->Nat
 |0=>0
 |c+1=>zq8 s c+(if zq4 s c=true then 1 else 0)
def sgI (k:Nat) (x:Iv):Iv:=if k % 2=1 then zbe x else x
def dtS (a:Mx) (p:Int) (M:List Iv) (s r:Nat):Nat->Nat×Iv
 |0=>(0,zd d0)
 |c+1=>if zq4 s c=true then((dtS a p M s r c).1+1,ka (dtS a p M s r c).2 (sgI (r-1+(dtS a p M s r c).1) (wu (atM a (r-1) c) (M[s-2^c]?.getD zI) p)) p)else dtS a p M s r c
def mnL (a:Mx) (p:Int) (n:Nat):Nat->List Iv
 |0=>(List.replicate (2^n) (zd d0)).set 0 (whI 1)
 |s+1=>(mnL a p n s).set (s+1) (dtS a p (mnL a p n s) (s+1) (zq8 (s+1) n) n).2
def zrd (a:Mx) (p:Int) (n:Nat):Iv:=(mnL a p n (2^n-1))[2^n-1]?.getD zI
structure JI (s:Nat->Rat) (x:Iv):Prop where
 v:VI x
 l:lI s x
 b:Bnd s
theorem JI.mul {s t:Nat->Rat} {x y:Iv} (hx:JI s x) (hy:JI t y) {p:Int} (hp:pcB p=true):JI (fun n=>s n*t n) (wu x y p):=⟨wq hx.v hy.v hp,ztr hx.v hy.v hp hx.l hy.l hx.b hy.b,hx.b.mul hy.b⟩
theorem JI.add {s t:Nat->Rat} {x y:Iv} (hx:JI s x) (hy:JI t y) {p:Int} (hp:pcB p=true):JI (fun n=>s n+t n) (ka x y p):=⟨zcu hx.v hy.v hp,ztt hx.v hy.v hp hx.l hy.l,hx.b.add hy.b⟩
theorem JI.neg {s:Nat->Rat} {x:Iv} (hx:JI s x):JI (fun n=> -(s n)) (zbe x):=⟨zik hx.v,qfw hx.v hx.l,by
 have:=(Bnd.const (-1)).mul hx.b;have e:(fun n=> -1*s n)=fun n=> -(s n):=by funext n;grind
 rw[e]at this;exact this⟩
theorem J0:JI (fun _=>0) (zd d0):=⟨.inl (zbc qb),zzk (.inr ⟨by show dv d0<=0;rw[yz];exact q6,by show 0<=dv d0;rw[yz];exact q6⟩),Bnd.const 0⟩
theorem J1:JI (fun _=>1) (whI 1):=⟨xq (by decide),zzk (zcq 1),Bnd.const 1⟩
theorem det_1 (a:Mx) (p:Int):zrd a p 1=ka (zd d0) (wu (atM a 0 0) (whI 1) p) p:=rfl
def mn1 (a:Mx) (p:Int) (c:Nat):Iv:=ka (zd d0) (wu (atM a 0 c) (whI 1) p) p
def mn2 (a:Mx) (p:Int) (c d:Nat):Iv:=ka (ka (zd d0) (zbe (wu (atM a 1 c) (mn1 a p d) p)) p) (wu (atM a 1 d) (mn1 a p c) p) p
def mn3 (a:Mx) (p:Int):Iv:=ka (ka (ka (zd d0) (wu (atM a 2 0) (mn2 a p 1 2) p) p) (zbe (wu (atM a 2 1) (mn2 a p 0 2) p)) p) (wu (atM a 2 2) (mn2 a p 0 1) p) p
theorem zgv (a:Mx) (p:Int) (n s:Nat) {l:List Iv} (h:mnL a p n s=l):mnL a p n (s+1)=l.set (s+1) (dtS a p l (s+1) (zq8 (s+1) n) n).2:=by rw[<-h];rfl
theorem det_2 (a:Mx) (p:Int):zrd a p 2=mn2 a p 0 1:=by
 have h0:mnL a p 2 0= [whI 1,zd d0,zd d0,zd d0]:=rfl;have h1:mnL a p 2 1= [whI 1,mn1 a p 0,zd d0,zd d0]:=(zgv a p 2 0 h0).trans (by kernel_rfl);have h2:mnL a p 2 2= [whI 1,mn1 a p 0,mn1 a p 1,zd d0]:=(zgv a p 2 1 h1).trans (by kernel_rfl);have h3:mnL a p 2 3= [whI 1,mn1 a p 0,mn1 a p 1,mn2 a p 0 1]:=(zgv a p 2 2 h2).trans (by kernel_rfl);unfold zrd;show(mnL a p 2 3)[3]?.getD zI=_;rw[h3];rfl
theorem det_3 (a:Mx) (p:Int):zrd a p 3=mn3 a p:=by
 have h0:mnL a p 3 0= [whI 1,zd d0,zd d0,zd d0,zd d0,zd d0,zd d0,zd d0]:=rfl;have h1:mnL a p 3 1= [whI 1,mn1 a p 0,zd d0,zd d0,zd d0,zd d0,zd d0,zd d0]:=(zgv a p 3 0 h0).trans (by kernel_rfl);have h2:mnL a p 3 2= [whI 1,mn1 a p 0,mn1 a p 1,zd d0,zd d0,zd d0,zd d0,zd d0]:=(zgv a p 3 1 h1).trans (by kernel_rfl);have h3:mnL a p 3 3= [whI 1,mn1 a p 0,mn1 a p 1,mn2 a p 0 1,zd d0,zd d0,zd d0,zd d0]:=(zgv a p 3 2 h2).trans (by kernel_rfl);have h4:mnL a p 3 4= [whI 1,mn1 a p 0,mn1 a p 1,mn2 a p 0 1,mn1 a p 2,zd d0,zd d0,zd d0]:=(zgv a p 3 3 h3).trans (by kernel_rfl);have h5:mnL a p 3 5= [whI 1,mn1 a p 0,mn1 a p 1,mn2 a p 0 1,mn1 a p 2,mn2 a p 0 2,zd d0,zd d0]:=(zgv a p 3 4 h4).trans (by kernel_rfl);have h6:mnL a p 3 6= [whI 1,mn1 a p 0,mn1 a p 1,mn2 a p 0 1,mn1 a p 2,mn2 a p 0 2,mn2 a p 1 2,zd d0]:=(zgv a p 3 5 h5).trans (by kernel_rfl);have h7:mnL a p 3 7= [whI 1,mn1 a p 0,mn1 a p 1,mn2 a p 0 1,mn1 a p 2,mn2 a p 0 2,mn2 a p 1 2,mn3 a p]:=(zgv a p 3 6 h6).trans (by kernel_rfl);unfold zrd;show(mnL a p 3 7)[7]?.getD zI=_;rw[h7];rfl
theorem qg6 {k:Nat} (hk:k<=2) {S:Nat->Nat->Nat->Rat} {x:Mx} (hx:liM k S x) (hb: ∀i j,i<=k->j<=k->Bnd fun N=>S N i j) {p:Int} (hp:pcB p=true):VI (zrd x p (k+1))/\lI (fun N=>dtQ k (S N)) (zrd x p (k+1)):=by
 have e: ∀i j,i<=k->j<=k->JI (fun N=>S N i j) (atM x i j):=fun i j hi hj=>⟨yt hx.v (by omega) (by omega),hx.l i j hi hj,hb i j hi hj⟩
 have m1: ∀c,c<=k->JI (fun N=>0+S N 0 c*1) (mn1 x p c):=fun c hc=>J0.add ((e 0 c (by omega) hc).mul J1 hp) hp
 match k,hk with
 |0,_=>
  have h:=m1 0 (by decide);rw[det_1];exact⟨h.v,h.l.cg fun n=>by show 0+S n 0 0*1=S n 0 0;grind⟩
 |1,_=>
  have h:=(J0.add ((e 1 0 (by decide) (by decide)).mul (m1 1 (by decide)) hp).neg hp).add ((e 1 1 (by decide) (by decide)).mul (m1 0 (by decide)) hp) hp;rw[det_2];exact⟨h.v,h.l.cg fun n=>by show _=S n 0 0*S n 1 1-S n 0 1*S n 1 0;grind⟩
 |2,_=>
  have m2: ∀c d,c<=2->d<=2->JI (fun N=>0+ -(S N 1 c*(0+S N 0 d*1))+S N 1 d*(0+S N 0 c*1)) (mn2 x p c d):=fun c d hc hd=>(J0.add ((e 1 c (by decide) hc).mul (m1 d hd) hp).neg hp).add ((e 1 d (by decide) hd).mul (m1 c hc) hp) hp
  have h:=((J0.add ((e 2 0 (by decide) (by decide)).mul (m2 1 2 (by decide) (by decide)) hp) hp).add ((e 2 1 (by decide) (by decide)).mul (m2 0 2 (by decide) (by decide)) hp).neg hp).add ((e 2 2 (by decide) (by decide)).mul (m2 0 1 (by decide) (by decide)) hp) hp;rw[det_3];unfold mn3;exact⟨h.v,h.l.cg fun n=>by show _=S n 0 0*(S n 1 1*S n 2 2-S n 1 2*S n 2 1)-S n 0 1*(S n 1 0*S n 2 2-S n 1 2*S n 2 0)+S n 0 2*(S n 1 0*S n 2 1-S n 1 1*S n 2 0);grind⟩
def trI (m:Mx):Nat->Iv
 |0=>whI 0
 |i+1=>ka (trI m i) (atM m i i) 200
theorem qal {k:Nat} {A:Nat->Nat->Rat} {m:Mx} (h:inM (k+1) (k+1) A m): ∀i,i<=k->VI (trI m (i+1))/\inI (sQ (fun i=>A i i) i) (trI m (i+1))
 |0,_=>by
  have v0:VI (whI 0):=xq (by decide);have va:=yt h.v (i:=0) (j:=0) (by omega) (by omega);refine⟨zcu v0 va (by decide),?_⟩;have:=zfb v0 va (p:=200) (by decide) (zcq 0) (h.i 0 0 (by omega) (by omega));have e:((0:Int):Rat)+A 0 0=sQ (fun i=>A i i) 0:=by show(0:Rat)+A 0 0=A 0 0;grind
  rw[e]at this;exact this
 |i+1,hi=>by
  obtain⟨v,l⟩:=qal h i (by omega);have va:=yt h.v (i:=i+1) (j:=i+1) (by omega) (by omega);exact⟨zcu v va (by decide),zfb v va (by decide) l (h.i (i+1) (i+1) (by omega) (by omega))⟩
theorem qcs {k:Nat} (hk:k<=2) {A:Nat->Nat->Rat} {m:Mx} (hm:inM (k+1) (k+1) A m) {s:Dy} (vs:VD s) {p:Int} (hp:pcB p=true) {w:MPr} (hw:zgc m (zd s) p=some w):
 Mt (zrd w.exp p (k+1)) (zxx (wu (trI m (k+1)) (zd s) 200) p):=by
 have ks:=zbc vs;obtain⟨l1,_⟩:=qhh (by omega) hm ks (qe2 s) hp hw;obtain⟨U,hU⟩:=zw0 k A;obtain⟨v,l⟩:=qg6 hk l1 (fun i j hi hj=>zoe hU hi hj (dv s)) hp;obtain⟨vt,it⟩:=qal hm k (Nat.le_refl _);have vu:=wq vt (.inl ks:VI (zd s)) (p:=200) (by decide);have iu:=zcs vt (.inl ks:VI (zd s)) (p:=200) (by decide) it (qe2 s);obtain⟨ve,le⟩:=qgl vu iu p;refine qhx v ve (l.nul (qct hk A (dv s))) (le.cg fun n=>?_);rw[qA];rfl
