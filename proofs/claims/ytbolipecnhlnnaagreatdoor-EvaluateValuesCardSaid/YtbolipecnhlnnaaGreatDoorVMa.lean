/- Matrices of intervals, exponential functions of matrices: plain functions; the series ends. -/
import Derived.Test.YtbolipecnhlnnaaGreatDoorVXf
set_option linter.all false
open Nat renaming exists_eq_add_of_le->q5,le_refl->q8,sub_self->qF
open Rat renaming mul_le_mul_of_nonneg_left->q0,le_refl->q3,mul_nonneg->q4,le_trans->q6,mul_le_mul_of_nonneg_right->q7,le_of_lt->q9,mul_inv_cancel->qd,natCast_le_natCast->qn,le_total->qA,le_of_mul_le_mul_right->qB,natCast_pos->qC,inv_pos->qD,sub_self->qE,add_zero->qG,div_def->qH
namespace Go.Proofs.YtbolipecnhlnnaaGreatDoor
open Go Go.Sx
set_option maxHeartbeats 2000000
theorem zgs{n:Int}(h: -4611686018427387904<=n/\n<=4611686018427387904):VI (whI n):=.inl (zal h)
theorem ze3{x:Iv}(hx:VI x)(p:Int):VI (vi x p):=by
 unfold vi;split
 .rename_i c;have k:=(zp hx.ri).1 c.1;exact zsz (kd k.lo (qk c.2)) (kd k.hi (qk c.2)) (uw (wd _ _ _ (qk c.2)) (wd _ _ _ (qk c.2))) k.dle
 .exact .inr rfl
theorem qj6{x:Iv}(k:KI x):0<=dv (kz x)/\(∀a:Rat,dv x.lo<=a->a<=dv x.hi-> -dv (kz x)<=a/\a<=dv (kz x)):=by
 obtain⟨h1,h2,h3⟩:=zi7 k q3 k.dle;refine⟨q6 h1 (q6 h2 h3),fun a ha hb=>?_⟩;obtain⟨_,_,h4⟩:=zi7 k ha hb;unfold vf at h4;split at h4<;>constructor<;>grind
theorem qg8{x:Iv}(k:KI x):bI (dv (kz x)) x:=by
 obtain⟨_,h⟩:=qj6 k;exact⟨.inl k,.inr ⟨(h _ q3 k.dle).1,(h _ k.dle q3).2⟩⟩
theorem zlc{x:Iv}(hx:VI x)(j:Int):VI (ww x j):=by
 rcases hx with k|rfl
 .exact(zsb (qg8 k) j).1
 .exact .inr rfl
def sQ(f:Nat->Rat):Nat->Rat
 |0=>f 0
 |k+1=>sQ f k+f (k+1)
theorem zhy{f g:Nat->Rat}:∀ {k:Nat},(∀i,i<=k->f i<=g i)->sQ f k<=sQ g k
 |0,h=>h 0 (q8 _)
 |k+1,h=>by
  have h1:=zhy (k:=k) fun i hi=>h i O
  have h2:=h (k+1) (q8 _);show sQ f k+f (k+1)<=sQ g k+g (k+1);grind
theorem zhz{f g:Nat->Rat}:∀ {k:Nat},(∀i,i<=k->f i=g i)->sQ f k=sQ g k
 |0,h=>h 0 (q8 _)
 |k+1,h=>by
  have h1:=zhz (k:=k) fun i hi=>h i O
  have h2:=h (k+1) (q8 _);show sQ f k+f (k+1)=sQ g k+g (k+1);rw[h1,h2]
theorem zzu{f:Nat->Rat}:∀ {k:Nat},(∀i,i<=k->0<=f i)->0<=sQ f k
 |0,h=>h 0 (q8 _)
 |k+1,h=>by
  have h1:=zzu (k:=k) fun i hi=>h i O
  have h2:=h (k+1) (q8 _);show 0<=sQ f k+f (k+1);grind
theorem zqt{f g:Nat->Rat}:∀ {k:Nat},sQ (fun i=>f i+g i) k=sQ f k+sQ g k
 |0=>rfl
 |k+1=>by
  show sQ (fun i=>f i+g i) k+(f (k+1)+g (k+1))=(sQ f k+f (k+1))+(sQ g k+g (k+1));rw[zqt];grind
theorem zu3{f g:Nat->Rat}:∀ {k:Nat},sQ (fun i=>f i-g i) k=sQ f k-sQ g k
 |0=>rfl
 |k+1=>by
  show sQ (fun i=>f i-g i) k+(f (k+1)-g (k+1))=(sQ f k+f (k+1))-(sQ g k+g (k+1));rw[zu3];grind
theorem zb6{c:Rat}{f:Nat->Rat}:∀ {k:Nat},sQ (fun i=>c*f i) k=c*sQ f k
 |0=>rfl
 |k+1=>by
  show sQ (fun i=>c*f i) k+c*f (k+1)=c*(sQ f k+f (k+1));rw[zb6];grind
theorem zu2{f:Nat->Nat->Rat}{l:Nat}:∀ {k:Nat},sQ (fun i=>sQ (fun j=>f i j) l) k=sQ (fun j=>sQ (fun i=>f i j) k) l
 |0=>rfl
 |k+1=>by
  show sQ (fun i=>sQ (fun j=>f i j) l) k+sQ (fun j=>f (k+1) j) l=sQ (fun j=>sQ (fun i=>f i j) k+f (k+1) j) l;rw[zu2,zqt]
theorem zfz{a b:Rat}:vf a<=b<-> -b<=a/\a<=b:=by
 unfold vf;split<;>constructor<;>(try rintro⟨h1,h2⟩)<;>(try intro h1)<;>grind
theorem ye(a:Rat): -vf a<=a/\a<=vf a:=zfz.1 q3
theorem zaa(a b:Rat):vf (a+b)<=vf a+vf b:=by
 have h1:=ye a;have h2:=ye b;rw[zfz];constructor<;>grind
theorem zbh(a:Rat):vf (-a)=vf a:=by
 unfold vf;split<;>split<;>grind
theorem zqw(a b:Rat):vf (a-b)<=vf a+vf b:=by
 have h1:=ye a;have h2:=ye b;rw[zfz];constructor<;>grind
theorem jw{a:Rat}(h:0<=a):vf a=a:=by unfold vf;split<;>grind
theorem qji:vf 1=1:=jw OA
theorem zmy:vf 0=0:=jw OA
theorem zbt{a b:Rat}:vf (a*b)=vf a*vf b:=by
 by_cases ha:0<=a<;>by_cases hb:0<=b
 .rw[jw ha,jw hb,jw (q4 ha hb)]
 .have h:=q4 ha (show 0<= -b by grind);rw[jw ha,<-zbh b,jw (show 0<= -b by grind),<-zbh,show-(a*b)=a* -b by grind,jw h]
 .have h:=q4 (show 0<= -a by grind) hb;rw[jw hb,<-zbh a,jw (show 0<= -a by grind),<-zbh,show-(a*b)= -a*b by grind,jw h]
 .have h:=q4 (show 0<= -a by grind) (show 0<= -b by grind);rw[<-zbh a,<-zbh b,jw (show 0<= -a by grind),jw (show 0<= -b by grind),show a*b= -a* -b by grind,jw h]
theorem zu4{f:Nat->Rat}:∀ {k:Nat},vf (sQ f k)<=sQ (fun i=>vf (f i)) k
 |0=>q3
 |k+1=>by
  have h:=zu4 (f:=f) (k:=k);have h2:=zaa (sQ f k) (f (k+1));show vf (sQ f k+f (k+1))<=sQ (fun i=>vf (f i)) k+vf (f (k+1));grind
theorem qi9{f:Nat->Rat}:∀ {k:Nat},(∀i,i<=k->0<=f i)->∀j,j<=k->f j<=sQ f k
 |0,_,j,hj=>by obtain rfl:j=0:=by omega
               exact q3
 |k+1,h,j,hj=>by
  have h1:=zzu (k:=k) fun i hi=>h i O
  have h2:=h (k+1) (q8 _);show f j<=sQ f k+f (k+1);by_cases e:j=k+1
  .subst e;grind
  .have:=qi9 (k:=k) (fun i hi=>h i O) j O;grind
theorem qi6{f:Nat->Rat}(h:∀i,0<=f i)(k:Nat):∀d:Nat,sQ f k<=sQ f (k+d)
 |0=>q3
 |d+1=>by
  have h1:=qi6 h k d;have h2:=h (k+d+1);show sQ f k<=sQ f (k+d)+f (k+d+1);grind
theorem qcg{f:Nat->Rat}(h:∀i,0<=f i){k n:Nat}(hk:k<=n):sQ f k<=sQ f n:=by
 obtain⟨d,rfl⟩:=q5 hk;exact qi6 h k d
theorem qez{f g:Nat->Rat}(h:∀i,vf (f i)<=g i)(k:Nat):∀d:Nat,vf (sQ f (k+d)-sQ f k)<=sQ g (k+d)-sQ g k
 |0=>by rw[Nat.add_zero,qE,qE,zmy];exact q3
 |d+1=>by
  have h1:=qez h k d;have h2:=h (k+d+1);have h3:=zaa (sQ f (k+d)-sQ f k) (f (k+d+1));show vf (sQ f (k+d)+f (k+d+1)-sQ f k)<=sQ g (k+d)+g (k+d+1)-sQ g k;rw[show sQ f (k+d)+f (k+d+1)-sQ f k=sQ f (k+d)-sQ f k+f (k+d+1) by grind];grind
theorem qi7{f g:Nat->Rat}(h:∀i,vf (f i)<=g i){k n:Nat}(hk:k<=n):vf (sQ f n-sQ f k)<=sQ g n-sQ g k:=by
 obtain⟨d,rfl⟩:=q5 hk;exact qez h k d
def Nul(s:Nat->Rat):Prop:=∀e:Rat,0<e->∃N:Nat,∀n,N<=n->vf (s n)<=e
def Bnd(s:Nat->Rat):Prop:=∃B:Rat,0<=B/\∀n,vf (s n)<=B
theorem zbl{e:Rat}(h:0<e):0<e/2/\e/2+e/2=e:=by constructor<;>grind
theorem Nul.cg{s t:Nat->Rat}(hs:Nul s)(h:∀n,s n=t n):Nul t:=by rw[show t=s from funext fun n=>(h n).symm];exact hs
theorem zfa{e B:Rat}(he:0<e)(hB:0<=B):0<e/(B+1)/\B*(e/(B+1))<=e:=by
 have h1:(0:Rat)<(B+1)⁻¹ :=qD.2 (by grind);have h2:=qd (B+1) (by grind);rw[qH];have h3:0<e*(B+1)⁻¹ :=Rat.mul_pos he h1;have h4:B*(e*(B+1)⁻¹)=e*((B+1)*(B+1)⁻¹)-e*(B+1)⁻¹ :=by grind
 exact⟨h3,by rw[h4,h2];grind⟩
theorem Nul.zero:Nul fun _=>0:=fun e he=>⟨0,fun n _=>by rw[zmy];grind⟩
theorem Bnd.const(c:Rat):Bnd fun _=>c:=⟨vf c,wu c,fun _=>q3⟩
theorem Bnd.add{s t:Nat->Rat}(hs:Bnd s)(ht:Bnd t):Bnd fun n=>s n+t n:=by
 obtain⟨B,h1,h2⟩:=hs;obtain⟨C,h3,h4⟩:=ht;refine⟨B+C,by grind,fun n=>?_⟩;have:=zaa (s n) (t n);have:=h2 n;have:=h4 n;grind
theorem Bnd.mul{s t:Nat->Rat}(hs:Bnd s)(ht:Bnd t):Bnd fun n=>s n*t n:=by
 obtain⟨B,h1,h2⟩:=hs;obtain⟨C,h3,h4⟩:=ht;exact⟨B*C,q4 h1 h3,fun n=>by rw[zbt];exact zc6 (wu _) (h2 n) (wu _) (h4 n)⟩
structure Smb(α:Nat->Rat):Prop where
 nn:∀i,0<=α i
 tl:∀e:Rat,0<e->∃N:Nat,∀n,N<=n->sQ α n-sQ α N<=e
theorem Smb.bnd{α:Nat->Rat}(h:Smb α):∃A:Rat,0<=A/\∀n,sQ α n<=A:=by
 obtain⟨N,hN⟩:=h.tl 1 OA;have h0:=zzu (k:=N) fun i _=>h.nn i
 refine⟨sQ α N+1,by grind,fun n=>?_⟩;rcases Nat.le_total N n with c|c
 .have:=hN n c;grind
 .have:=qcg h.nn c;grind
theorem Smb.tl2{α:Nat->Rat}(h:Smb α){e:Rat}(he:0<e):∃N:Nat,∀m n,N<=m->m<=n->sQ α n-sQ α m<=e:=by
 obtain⟨N,hN⟩:=h.tl e he;refine⟨N,fun m n hm hn=>?_⟩;have h1:=hN n O;have h2:=qcg h.nn hm;grind
theorem Smb.of{α f:Nat->Rat}(h:Smb α)(hf:∀i,vf (f i)<=α i):Bnd (sQ f):=by
 obtain⟨A,h0,hA⟩:=h.bnd;refine⟨A,h0,fun n=>q6 zu4 (q6 (zhy fun i _=>hf i) (hA n))⟩
theorem qi8{g:Nat->Rat}{i:Nat}:∀ {n:Nat},i<=n->sQ (fun k=>if i<=k then g (k-i)else 0) n=sQ g (n-i)
 |0,h=>by
  obtain rfl:i=0:=O;rfl
 |n+1,h=>by
  show sQ (fun k=>if i<=k then g (k-i)else 0) n+(if i<=n+1 then g (n+1-i)else 0)=_;rw[Z4 h];by_cases e:i=n+1
  .subst e;have hz:∀k,k<=n->(if n+1<=k then g (k-(n+1))else 0)=(fun _=>(0:Rat)) k:=fun k hk=>by rw[Z5 O]
   rw[zhz hz,qF];have h0:∀m,sQ (fun _=>(0:Rat)) m=0:=fun m=>by
    induction m with
    |zero=>rfl
    |succ m ih=>show sQ (fun _=>(0:Rat)) m+0=0;rw[ih,qG]
   rw[h0];show 0+g 0=g 0;grind
  .rw[qi8 O,(O:n+1-i=(n-i)+1)];rfl
def trQ(f:Nat->Nat->Rat)(n:Nat):Rat:=sQ (fun k=>sQ (fun i=>f i (k-i)) k) n
theorem qe0{f:Nat->Rat}{k:Nat}:∀ {n:Nat},k<=n->sQ (fun i=>if i<=k then f i else 0) n=sQ f k
 |0,h=>by obtain rfl:k=0:=by omega
          rfl
 |n+1,h=>by
  show sQ (fun i=>if i<=k then f i else 0) n+(if n+1<=k then f (n+1)else 0)=_;by_cases e:k=n+1
  .subst e;rw[Z4 (q8 _),zhz (g:=f) fun i hi=>Z4 O];rfl
  .rw[Z5 O,qe0 O];grind
theorem qis(f:Nat->Nat->Rat)(n:Nat):trQ f n=sQ (fun i=>sQ (f i) (n-i)) n:=by
 unfold trQ;have h1:sQ (fun k=>sQ (fun i=>f i (k-i)) k) n=sQ (fun k=>sQ (fun i=>if i<=k then f i (k-i)else 0) n) n:=zhz fun k hk=>(qe0 hk).symm
 rw[h1,zu2 (f:=fun k i=>if i<=k then f i (k-i)else 0)];exact zhz fun i hi=>qi8 hi
theorem qlr{f:Nat->Nat->Rat}{α β:Nat->Rat}(ha:Smb α)(hb:Smb β)(hf:∀i j,vf (f i j)<=α i*β j):Nul fun n=>sQ (fun i=>sQ (f i) n) n-trQ f n:=fun e he=>by
 obtain⟨A,hA,hA'⟩:=ha.bnd;obtain⟨B,hB,hB'⟩:=hb.bnd;obtain⟨q1,q2⟩:=zfa he (show 0<=A+B by grind);generalize e/(A+B+1)=d at*;obtain⟨N1,hN1⟩:=ha.tl2 q1;obtain⟨N2,hN2⟩:=hb.tl2 q1;refine⟨N1+N2,fun n hn=>?_⟩;show vf (sQ (fun i=>sQ (f i) n) n-trQ f n)<=e;rw[qis,<-zu3];refine q6 zu4 ?_;have h1:∀i,i<=n->vf (sQ (f i) n-sQ (f i) (n-i))<=α i*(sQ β n-sQ β (n-i)):=fun i hi=>by
  have:=qi7 (f:=f i) (g:=fun j=>α i*β j) (hf i) (O:n-i<=n);rw[zb6,zb6]at this;grind
 refine q6 (zhy h1) ?_;have h2:∀i,i<=n->α i*(sQ β n-sQ β (n-i))<=d*α i+B*(if i<=n-N2 then 0 else α i):=fun i hi=>by
  have h0:=ha.nn i;by_cases c:i<=n-N2
  .rw[Z4 c];have h3:=hN2 (n-i) n O O;have:=q0 h3 h0;grind
  .rw[Z5 c];have h3:=hB' n;have h4:=zzu (k:=n-i) fun j _=>hb.nn j
   have:=q0 (show sQ β n-sQ β (n-i)<=B by grind) h0;have:=q4 (q9 q1) h0;grind
 refine q6 (zhy h2) ?_;rw[zqt,zb6,zb6];have h5:sQ (fun i=>if i<=n-N2 then 0 else α i) n=sQ α n-sQ α (n-N2):=by
  rw[<-qe0 (f:=α) (k:=n-N2) (n:=n) O,<-zu3];refine zhz fun i _=>?_
  split<;>grind
 rw[h5];have h6:=hN1 (n-N2) n O O;have h7:=q0 h6 hB;have h8:=q0 (hA' n) (q9 q1);grind
theorem arch(q:Rat):∃n:Nat,q<=(n:Rat):=by
 refine⟨(q.floor+1).toNat,?_⟩;have h1:=Rat.lt_floor_add_one q;have h2:((q.floor+1:Int):Rat)<=(((q.floor+1).toNat :Int):Rat):=Rat.intCast_le_intCast.2 O;grind[Rat.intCast_natCast]
def rQ(u:Rat):Nat->Rat
 |0=>1
 |j+1=>rQ u j*u*(1/((j+1:Nat):Rat))
theorem qc2(j:Nat):(0:Rat)<=1/((j+1:Nat):Rat)/\(1:Rat)/((j+1:Nat):Rat)<=1:=by
 have h:(1:Rat)<=((j+1:Nat):Rat):=by
  grind
 have h3:(0:Rat)<((j+1:Nat):Rat)⁻¹ :=qD.2 (by grind);have h4:=qd ((j+1:Nat):Rat) (by grind);have h5:=q7 h (q9 h3);grind
theorem rQ_s(u:Rat)(j:Nat):((j+1:Nat):Rat)*rQ u (j+1)=u*rQ u j:=by
 grind[rQ]
theorem zoz{u:Rat}(h:0<=u):∀j,0<=rQ u j
 |0=>by unfold rQ;decide
 |j+1=>q4 (q4 (zoz h j) h) (qc2 j).1
theorem zjz(u:Rat):∀j,vf (rQ u j)=rQ (vf u) j
 |0=>qji
 |j+1=>by
  unfold rQ;rw[zbt,zbt,zjz u j,jw (qc2 j).1]
theorem zvd{u:Rat}(h:0<=u){K:Nat}(hu:u*2<=((K+1:Nat):Rat)){j:Nat}(hj:K<=j):rQ u (j+1)*2<=rQ u j:=by
 have h1:((K+1:Nat):Rat)<=((j+1:Nat):Rat):=qn.2 O;have h0:(0:Rat)<((j+1:Nat):Rat):=qC.2 O;have hm:=qd ((j+1:Nat):Rat) (by grind);have hi:(0:Rat)<=((j+1:Nat):Rat)⁻¹ :=q9 (qD.2 h0);have h2:(u*2)*((j+1:Nat):Rat)⁻¹ <=1:=by
  grind[q7,q6]
 have h3:=q0 h2 (zoz h j);grind[rQ]
theorem zoy{u:Rat}(h:0<=u){K:Nat}(hu:u*2<=((K+1:Nat):Rat)):∀d:Nat,sQ (rQ u) (K+d)-sQ (rQ u) K<=rQ u K-rQ u (K+d)
 |0=>by grind
 |d+1=>by
  have h1:=zoy h hu d;grind[zvd,sQ,rQ]
theorem qcl{u:Rat}(h:0<=u){K:Nat}(hu:u*2<=((K+1:Nat):Rat)):∀d:Nat,rQ u (K+d)*((d+1:Nat):Rat)<=rQ u K
 |0=>by
  simp_all
 |d+1=>by
  have h1:=qcl h hu d;have h2:=zvd h hu (j:=K+d) O;have h3:((d+1+1:Nat):Rat)<=2*((d+1:Nat):Rat):=by
   grind
  have h4:=q0 h3 (zoz h (K+d+1));have h5:=q7 h2 (zv9 (d+1));grind
theorem zz1{u:Rat}:∃K:Nat,u*2<=((K+1:Nat):Rat):=by
 obtain⟨n,hn⟩:=arch (u*2);grind
theorem zz0{u:Rat}(h:0<=u){e:Rat}(he:0<e):∃N:Nat,u*2<=((N+1:Nat):Rat)/\∀n,N<=n->rQ u n<=e:=by
 obtain⟨K,hK⟩:=zz1 (u:=u);obtain⟨m,hm⟩:=arch (rQ u K/e);have hB:rQ u K<=e*(m:Rat):=by
  have:=q0 hm (q9 he);have h2:=qd e (by grind);rw[qH,show e*(rQ u K*e⁻¹)=rQ u K*(e*e⁻¹) by grind,h2,Rat.mul_one]at this;exact this
 have hK':u*2<=((K+m+1:Nat):Rat):=q6 hK (qn.2 O);refine⟨K+m,hK',fun n hn=>?_⟩;obtain⟨d,rfl⟩:=q5 hn;have h1:=qcl h hK (m+d);rw[<-Nat.add_assoc]at h1;have h2:((m:Nat):Rat)<=((m+d+1:Nat):Rat):=qn.2 O;have h3:=q0 h2 (q9 he);have h4:rQ u (K+m+d)*((m+d+1:Nat):Rat)<=e*((m+d+1:Nat):Rat):=by grind
 grind[qB,qC]
theorem zve{u:Rat}(h:0<=u):Smb (rQ u):=by
 refine⟨zoz h,fun e he=>?_⟩;obtain⟨N,h1,h2⟩:=zz0 h he;refine⟨N,fun n hn=>?_⟩;obtain⟨d,rfl⟩:=q5 hn;have h3:=zoy h h1 d;grind[zoz]
theorem zqs{f:Nat->Rat}:∀ {k:Nat},sQ f (k+1)=f 0+sQ (fun i=>f (i+1)) k
 |0=>rfl
 |k+1=>by
  show sQ f (k+1)+f (k+1+1)=f 0+(sQ (fun i=>f (i+1)) k+f (k+1+1));rw[zqs];grind
theorem qcm(x y:Rat):∀k:Nat,sQ (fun i=>rQ x i*rQ y (k-i)) k=rQ (x+y) k
 |0=>by exact Rat.one_mul 1
 |k+1=>by
  have ih:=qcm x y k;have h0:(0:Rat)<((k+1:Nat):Rat):=qC.2 O;have hs:=rQ_s (x+y) k;have key:((k+1:Nat):Rat)*sQ (fun i=>rQ x i*rQ y (k+1-i)) (k+1)=(x+y)*sQ (fun i=>rQ x i*rQ y (k-i)) k:=by
   rw[<-zb6];have e1:sQ (fun i=>((k+1:Nat):Rat)*(rQ x i*rQ y (k+1-i))) (k+1)=sQ (fun i=>(i:Rat)*(rQ x i*rQ y (k+1-i))+((k+1-i:Nat):Rat)*(rQ x i*rQ y (k+1-i))) (k+1):=zhz fun i hi=>by
    have:((k+1:Nat):Rat)=(i:Rat)+((k+1-i:Nat):Rat):=by rw[<-Rat.natCast_add];congr 1;omega
    grind
   rw[e1,zqt];have e2:sQ (fun i=>(i:Rat)*(rQ x i*rQ y (k+1-i))) (k+1)=x*sQ (fun i=>rQ x i*rQ y (k-i)) k:=by
    rw[zqs,<-zb6];grind[rQ]
   have e3:sQ (fun i=>((k+1-i:Nat):Rat)*(rQ x i*rQ y (k+1-i))) (k+1)=y*sQ (fun i=>rQ x i*rQ y (k-i)) k:=by
    show sQ (fun i=>((k+1-i:Nat):Rat)*(rQ x i*rQ y (k+1-i))) k+((k+1-(k+1):Nat):Rat)*(rQ x (k+1)*rQ y (k+1-(k+1)))=_;rw[qF,show((0:Nat):Rat)=0 from rfl,Rat.zero_mul,qG,<-zb6];exact zhz fun i hi=>by
     have h1:=rQ_s y (k-i);rw[(O:k+1-i=k-i+1)];grind
   grind
  grind[q3,sQ,rQ,zc2,qB]
def eS(x:Rat)(n:Nat):Rat:=sQ (rQ x) n
theorem qdb(x:Rat):Bnd (eS x):=(zve (wu x)).of fun i=>by grind[zjz]
theorem zxi(x y:Rat):Nul fun n=>eS x n*eS y n-eS (x+y) n:=by
 have h:=qlr (f:=fun i j=>rQ x i*rQ y j) (zve (wu x)) (zve (wu y)) fun i j=>by grind[zbt,zjz,q3]
 refine h.cg fun n=>?_
 have e1:sQ (fun i=>sQ (fun j=>rQ x i*rQ y j) n) n=eS x n*eS y n:=by
  have:(fun i=>sQ (fun j=>rQ x i*rQ y j) n)=fun i=>eS y n*rQ x i:=by
   funext i;rw[zb6];unfold eS;grind
  rw[this,zb6];unfold eS;grind
 simp_all[trQ,rQ,eS,zhz,qcm]
theorem qgj{x:Rat}{K:Nat}(hu:vf x*2<=((K+1:Nat):Rat)){n:Nat}(hn:K<=n):vf (eS x n-eS x K)<=rQ (vf x) K:=by
 obtain⟨d,rfl⟩:=q5 hn;have h1:=qez (f:=rQ x) (g:=rQ (vf x)) (fun i=>by grind[zjz]) K d;have h2:=zoy (wu x) hu d;grind[zoz,wu,eS]
theorem qlh{d:Rat}(h:0<=d)(n:Nat):1<=eS d n:=qi9 (f:=rQ d) (fun i _=>zoz h i) 0 (Nat.zero_le _)
theorem eS_lo(x:Rat){e:Rat}(he:0<e):∃N:Nat,∀n,N<=n-> -e<=eS x n:=by
 have h:=zxi (x/2) (x/2);obtain⟨N,hN⟩:=h e he;refine⟨N,fun n hn=>?_⟩;have h1:=hN n hn;simp only[show x/2+x/2=x by grind]at h1;have h2:0<=eS (x/2) n*eS (x/2) n:=by
  rcases qA (a:=0) (b:=eS (x/2) n)with c|c
  .exact q4 c c
  .have:=q4 (show 0<= -eS (x/2) n by grind) (show 0<= -eS (x/2) n by grind);grind
 grind[ye,eS]
theorem zxh{x y:Rat}(h:x<=y){e:Rat}(he:0<e):∃N:Nat,∀n,N<=n->eS x n<=eS y n+e:=by
 obtain⟨C,hC,hC'⟩:=qdb (y-x);obtain⟨p1,p2⟩:=zbl he;obtain⟨q1,q2⟩:=zfa p1 hC;obtain⟨N,hN⟩:=eS_lo x q1;obtain⟨M,hM⟩:=zxi x (y-x) _ p1;refine⟨N+M,fun n hn=>?_⟩;have h1:=hN n O;have h2:=hM n O;have h3:=ye (eS x n*eS (y-x) n-eS (x+(y-x)) n);rw[show x+(y-x)=y by grind]at h2 h3;have h4:=qlh (show 0<=y-x by grind) n;have h5:=(ye (eS (y-x) n)).2;have h6:=hC' n;generalize e/2/(C+1)=d at*;have h7:=q4 (show 0<=eS x n+d by grind) (show 0<=eS (y-x) n-1 by grind);have h8:=q0 (show eS (y-x) n-1<=C by grind) (q9 q1);grind
def lI(s:Nat->Rat)(x:Iv):Prop:=∀e:Rat,0<e->∃N:Nat,∀n,N<=n->∃q,inI q x/\vf (s n-q)<=e
theorem zte{s:Nat->Rat}{x:Iv}(N:Nat)(h:∀n,N<=n->inI (s n) x):lI s x:=fun e he=>⟨N,fun n hn=>⟨s n,h n hn,by grind[zmy]⟩⟩
theorem qkg{q:Rat}{x:Iv}(h:inI q x):lI (fun _=>q) x:=zte 0 fun _ _=>h
theorem lI.nul{s t:Nat->Rat}{x:Iv}(h:lI s x)(hn:Nul fun n=>s n-t n):lI t x:=fun e he=>by
 obtain⟨h1,h2⟩:=zbl he;obtain⟨N,hN⟩:=h _ h1;obtain⟨M,hM⟩:=hn _ h1;refine⟨N+M,fun n hk=>?_⟩;obtain⟨q,hq,hd⟩:=hN n O;have h3:=hM n O;refine⟨q,hq,?_⟩;have h4:=zqw (s n-q) (s n-t n);grind
theorem qkh{s t:Nat->Rat}{x y:Iv}(hx:VI x)(hy:VI y){p:Int}(hp:pcB p=true)(hs:lI s x)(ht:lI t y):lI (fun n=>s n+t n) (yi x y p):=fun e he=>by
 obtain⟨h1,h2⟩:=zbl he;obtain⟨N,hN⟩:=hs _ h1;obtain⟨M,hM⟩:=ht _ h1;refine⟨N+M,fun n hk=>?_⟩;obtain⟨q,hq,hd⟩:=hN n O;obtain⟨r,hr,hc⟩:=hM n O;refine⟨q+r,zi6 hx hy hp hq hr,?_⟩;have h4:=zaa (s n-q) (t n-r);grind
theorem qkf{s t:Nat->Rat}{x y:Iv}(hx:VI x)(hy:VI y){p:Int}(hp:pcB p=true)(hs:lI s x)(ht:lI t y)(bs:Bnd s)(bt:Bnd t):lI (fun n=>s n*t n) (zax x y p):=fun e he=>by
 obtain⟨B,hB,hB'⟩:=bs;obtain⟨C,hC,hC'⟩:=bt;obtain⟨d,d0,d1,d2⟩:∃d:Rat,0<d/\d<=1/\(B+C+1)*d<=e:=by
  obtain⟨q1,q2⟩:=zfa he (show 0<=B+C+1 by grind);rcases qA (a:=e/(B+C+1+1)) (b:=1)with c|c
  .grind
  .refine⟨1,OA,q3,?_⟩;have:=q0 c (show 0<=B+C+1 by grind);grind
 obtain⟨N,hN⟩:=hs d d0;obtain⟨M,hM⟩:=ht d d0;refine⟨N+M,fun n hk=>?_⟩;obtain⟨q,hq,hd⟩:=hN n O;obtain⟨r,hr,hc⟩:=hM n O;refine⟨q*r,zq7 hx hy hp hq hr,?_⟩;have e1:s n*t n-q*r=(s n-q)*t n+q*(t n-r):=by grind
 have h3:=zaa ((s n-q)*t n) (q*(t n-r));rw[zbt,zbt]at h3;have hq1:vf q<=B+1:=by
  have h4:=zqw (s n) (s n-q);grind
 have h5:=zc6 (wu (s n-q)) hd (wu (t n)) (hC' n);have h6:=zc6 (wu q) hq1 (wu (t n-r)) hc;grind
theorem qf0{s:Nat->Rat}{x y:Iv}(hi:∀q,inI q x->inI q y)(h:lI s x):lI s y:=fun e he=>by
 obtain⟨N,hN⟩:=h e he;refine⟨N,fun n hn=>?_⟩;grind
theorem qas{s:Nat->Rat}{x:Iv}(h:lI s x)(ha:x.all=false){e:Rat}(he:0<e):∃N:Nat,∀n,N<=n->dv x.lo-e<=s n/\s n<=dv x.hi+e:=by
 obtain⟨N,hN⟩:=h e he;refine⟨N,fun n hn=>?_⟩;obtain⟨q,hq,hd⟩:=hN n hn;rcases hq with c|⟨h1,h2⟩
 .simp_all
 grind[ye]
theorem qf1{s:Nat->Rat}{x:Iv}(hle:dv x.lo<=dv x.hi)(h:∀e:Rat,0<e->∃N:Nat,∀n,N<=n->dv x.lo-e<=s n/\s n<=dv x.hi+e):lI s x:=fun e he=>by
 obtain⟨N,hN⟩:=h e he;refine⟨N,fun n hn=>?_⟩;obtain⟨h1,h2⟩:=hN n hn;rcases qA (a:=s n) (b:=dv x.lo)with c|c
 .exact⟨dv x.lo,.inr ⟨q3,hle⟩,zfz.2 ⟨by grind,by grind⟩⟩
 .rcases qA (a:=s n) (b:=dv x.hi)with d|d
  .exact⟨s n,.inr ⟨c,d⟩,by grind[zmy]⟩
  .exact⟨dv x.hi,.inr ⟨hle,q3⟩,zfz.2 ⟨by grind,by grind⟩⟩
theorem qc0{a b:Rat}(h:∀e:Rat,0<e->a<=b+e):a<=b:=by
 rcases qA (a:=a) (b:=b)with c|c
 .exact c
 .by_cases k:0<a-b
  .have:=h ((a-b)/2) (zbl k).1;grind
  .grind
theorem zdy(n:Int):inI (n:Rat) (whI n):=.inr (by
 have e:dv (whI n).lo =(n:Rat):=kq n;have e':dv (whI n).hi =(n:Rat):=kq n;rw[e,e'];exact⟨q3,q3⟩)
theorem zb7{x:Iv}(hx:VI x){p:Int}{q:Rat}(hq:inI q x):inI q (vi x p):=by
 unfold vi;split
 .rename_i c;have k:=(zp hx.ri).1 c.1;rcases hq with hq|hq
  .rw[k.all]at hq;cases hq
  exact qe3 (kd k.lo (qk c.2)) (kd k.hi (qk c.2)) hq.1 hq.2
 .exact zys _
theorem zlb{x:Iv}(hx:VI x){j:Int}{q:Rat}(h:inI q x):inI (q*pw j) (ww x j):=by
 unfold ww;by_cases c:kB x=true
 .rw[Z4 c];have k:=(zp hx.ri).1 c;rcases h with e|⟨h1,h2⟩
  .rw[k.all]at e;cases e
  cases ha:(vh (wo x.lo j) (wo x.hi j)).all with
  |true=>exact .inl ha
  |false=>
   obtain⟨o1,o2⟩:=yw.1 ha;right;rw[xp ha];have e1:=zc0 o1;have e2:=zc0 o2;show dv (wo x.lo j).1<=_/\_<=dv (wo x.hi j).1;rw[e1,e2];exact⟨qv h1 (zf0 j),qv h2 (zf0 j)⟩
 .rw[Z5 c];exact zys _
