/- Matrices of intervals, exponential functions of matrices: plain functions; the series ends. -/
import Derived.Test.YthbgbmdmimejiaaGreatDoorMXf
set_option linter.all false
open Nat renaming exists_eq_add_of_le->q8,le_refl->q9,zero_le->qL,add_zero->qM,sub_self->qN
open Rat renaming mul_le_mul_of_nonneg_left->q3,le_refl->q4,mul_nonneg->q5,le_trans->q6,natCast_le_natCast->q7,mul_le_mul_of_nonneg_right->qd,mul_inv_cancel->qn,le_of_lt->qA,le_of_mul_le_mul_right->qB,one_mul->qC,sub_self->qD,natCast_pos->qE,le_total->qF,div_def->qG,mul_one->qH,add_zero->qI,mul_comm->qJ,inv_pos->qK,zero_mul->qO,zero_add->qP,mul_zero->qQ
namespace Go.Proofs.YthbgbmdmimejiaaGreatDoor
open Go Go.Sx
set_option maxHeartbeats 2000000
theorem zgp{n:Int}(h: -4611686018427387904<=n/\n<=4611686018427387904):VI (whI n):=.inl (zah h)
theorem zeg{x:Iv}(hx:VI x)(p:Int):VI (qs x p):=by
 unfold qs;split
 .rename_i c;have k:=(zq hx.ri).1 c.1;exact zsu (jf k.lo (qe c.2)) (jf k.hi (qe c.2)) (uz (wk _ _ _ (qe c.2)) (wk _ _ _ (qe c.2))) k.dle
 .exact .inr rfl
theorem qkh{x:Iv}(k:KI x):0<=dv (kr x)/\(∀a:Rat,dv x.lo<=a->a<=dv x.hi-> -dv (kr x)<=a/\a<=dv (kr x)):=by
 obtain⟨h1,h2,h3⟩:=ziz k q4 k.dle;refine⟨q6 h1 (q6 h2 h3),fun a ha hb=>?_⟩;obtain⟨_,_,h4⟩:=ziz k ha hb;unfold zg at h4;split at h4<;>constructor<;>grind
theorem qgz{x:Iv}(k:KI x):bI (dv (kr x)) x:=by
 obtain⟨_,h⟩:=qkh k;exact⟨.inl k,.inr ⟨(h _ q4 k.dle).1,(h _ k.dle q4).2⟩⟩
theorem zk3{x:Iv}(hx:VI x)(j:Int):VI (wl x j):=by
 rcases hx with k|rfl
 .exact(zr6 (qgz k) j).1
 .exact .inr rfl
def sQ(f:Nat->Rat):Nat->Rat
 |0=>f 0
 |k+1=>sQ f k+f (k+1)
theorem zck{f g:Nat->Rat}:∀ {k:Nat},(∀i,i<=k->f i<=g i)->sQ f k<=sQ g k
 |0,h=>h 0 (q9 _)
 |k+1,h=>by
  have h1:=zck (k:=k) fun i hi=>h i O
  have h2:=h (k+1) (q9 _);show sQ f k+f (k+1)<=sQ g k+g (k+1);grind
theorem yr{f g:Nat->Rat}:∀ {k:Nat},(∀i,i<=k->f i=g i)->sQ f k=sQ g k
 |0,h=>h 0 (q9 _)
 |k+1,h=>by
  have h1:=yr (k:=k) fun i hi=>h i O
  have h2:=h (k+1) (q9 _);show sQ f k+f (k+1)=sQ g k+g (k+1);rw[h1,h2]
theorem zzx{f:Nat->Rat}:∀ {k:Nat},(∀i,i<=k->0<=f i)->0<=sQ f k
 |0,h=>h 0 (q9 _)
 |k+1,h=>by
  have h1:=zzx (k:=k) fun i hi=>h i O
  have h2:=h (k+1) (q9 _);show 0<=sQ f k+f (k+1);grind
theorem zqd{f g:Nat->Rat}:∀ {k:Nat},sQ (fun i=>f i+g i) k=sQ f k+sQ g k
 |0=>rfl
 |k+1=>by
  show sQ (fun i=>f i+g i) k+(f (k+1)+g (k+1))=(sQ f k+f (k+1))+(sQ g k+g (k+1));rw[zqd];grind
theorem zqb{f g:Nat->Rat}:∀ {k:Nat},sQ (fun i=>f i-g i) k=sQ f k-sQ g k
 |0=>rfl
 |k+1=>by
  show sQ (fun i=>f i-g i) k+(f (k+1)-g (k+1))=(sQ f k+f (k+1))-(sQ g k+g (k+1));rw[zqb];grind
theorem jv{c:Rat}{f:Nat->Rat}:∀ {k:Nat},sQ (fun i=>c*f i) k=c*sQ f k
 |0=>rfl
 |k+1=>by
  show sQ (fun i=>c*f i) k+c*f (k+1)=c*(sQ f k+f (k+1));rw[jv];grind
theorem zfl{f:Nat->Nat->Rat}{l:Nat}:∀ {k:Nat},sQ (fun i=>sQ (fun j=>f i j) l) k=sQ (fun j=>sQ (fun i=>f i j) k) l
 |0=>rfl
 |k+1=>by
  show sQ (fun i=>sQ (fun j=>f i j) l) k+sQ (fun j=>f (k+1) j) l=sQ (fun j=>sQ (fun i=>f i j) k+f (k+1) j) l;rw[zfl,zqd]
theorem zd{a b:Rat}:zg a<=b<-> -b<=a/\a<=b:=by
 unfold zg;split<;>constructor<;>(try rintro⟨h1,h2⟩)<;>(try intro h1)<;>grind
theorem kv(a:Rat): -zg a<=a/\a<=zg a:=zd.1 q4
theorem wu(a b:Rat):zg (a+b)<=zg a+zg b:=by
 have h1:=kv a;have h2:=kv b;rw[zd];constructor<;>grind
theorem qi(a:Rat):zg (-a)=zg a:=by
 unfold zg;split<;>split<;>grind
theorem zqi(a b:Rat):zg (a-b)<=zg a+zg b:=by
 have h1:=kv a;have h2:=kv b;rw[zd];constructor<;>grind
theorem qp{a:Rat}(h:0<=a):zg a=a:=by unfold zg;split<;>grind
theorem zqj:zg 1=1:=qp OA
theorem zdt:zg 0=0:=qp OA
theorem yg{a b:Rat}:zg (a*b)=zg a*zg b:=by
 by_cases ha:0<=a<;>by_cases hb:0<=b
 .rw[qp ha,qp hb,qp (q5 ha hb)]
 .have h:=q5 ha (show 0<= -b by grind);rw[qp ha,<-qi b,qp (show 0<= -b by grind),<-qi,show-(a*b)=a* -b by grind,qp h]
 .have h:=q5 (show 0<= -a by grind) hb;rw[qp hb,<-qi a,qp (show 0<= -a by grind),<-qi,show-(a*b)= -a*b by grind,qp h]
 .have h:=q5 (show 0<= -a by grind) (show 0<= -b by grind);rw[<-qi a,<-qi b,qp (show 0<= -a by grind),qp (show 0<= -b by grind),show a*b= -a* -b by grind,qp h]
theorem zmo{f:Nat->Rat}:∀ {k:Nat},zg (sQ f k)<=sQ (fun i=>zg (f i)) k
 |0=>q4
 |k+1=>by
  have h:=zmo (f:=f) (k:=k);have h2:=wu (sQ f k) (f (k+1));show zg (sQ f k+f (k+1))<=sQ (fun i=>zg (f i)) k+zg (f (k+1));grind
theorem qep{f:Nat->Rat}:∀ {k:Nat},(∀i,i<=k->0<=f i)->∀j,j<=k->f j<=sQ f k
 |0,_,j,hj=>by obtain rfl:j=0:=by omega
               exact q4
 |k+1,h,j,hj=>by
  have h1:=zzx (k:=k) fun i hi=>h i O
  have h2:=h (k+1) (q9 _);show f j<=sQ f k+f (k+1);by_cases e:j=k+1
  .subst e;grind
  .have:=qep (k:=k) (fun i hi=>h i O) j O;grind
theorem qi2{f:Nat->Rat}(h:∀i,0<=f i)(k:Nat):∀d:Nat,sQ f k<=sQ f (k+d)
 |0=>q4
 |d+1=>by
  have h1:=qi2 h k d;have h2:=h (k+d+1);show sQ f k<=sQ f (k+d)+f (k+d+1);grind
theorem qb7{f:Nat->Rat}(h:∀i,0<=f i){k n:Nat}(hk:k<=n):sQ f k<=sQ f n:=by
 obtain⟨d,rfl⟩:=q8 hk;exact qi2 h k d
theorem zzw{f g:Nat->Rat}(h:∀i,zg (f i)<=g i)(k:Nat):∀d:Nat,zg (sQ f (k+d)-sQ f k)<=sQ g (k+d)-sQ g k
 |0=>by rw[qM,qD,qD,zdt];exact q4
 |d+1=>by
  have h1:=zzw h k d;have h2:=h (k+d+1);have h3:=wu (sQ f (k+d)-sQ f k) (f (k+d+1));show zg (sQ f (k+d)+f (k+d+1)-sQ f k)<=sQ g (k+d)+g (k+d+1)-sQ g k;rw[show sQ f (k+d)+f (k+d+1)-sQ f k=sQ f (k+d)-sQ f k+f (k+d+1) by grind];grind
theorem qi3{f g:Nat->Rat}(h:∀i,zg (f i)<=g i){k n:Nat}(hk:k<=n):zg (sQ f n-sQ f k)<=sQ g n-sQ g k:=by
 obtain⟨d,rfl⟩:=q8 hk;exact zzw h k d
def Nul(s:Nat->Rat):Prop:=∀e:Rat,0<e->∃N:Nat,∀n,N<=n->zg (s n)<=e
def Bnd(s:Nat->Rat):Prop:=∃B:Rat,0<=B/\∀n,zg (s n)<=B
theorem za1{e:Rat}(h:0<e):0<e/2/\e/2+e/2=e:=by constructor<;>grind
theorem Nul.cg{s t:Nat->Rat}(hs:Nul s)(h:∀n,s n=t n):Nul t:=by rw[show t=s from funext fun n=>(h n).symm];exact hs
theorem zcn{e B:Rat}(he:0<e)(hB:0<=B):0<e/(B+1)/\B*(e/(B+1))<=e:=by
 have h1:(0:Rat)<(B+1)⁻¹ :=qK.2 (by grind);have h2:=qn (B+1) (by grind);rw[qG];have h3:0<e*(B+1)⁻¹ :=Rat.mul_pos he h1;have h4:B*(e*(B+1)⁻¹)=e*((B+1)*(B+1)⁻¹)-e*(B+1)⁻¹ :=by grind
 exact⟨h3,by rw[h4,h2];grind⟩
theorem Nul.zero:Nul fun _=>0:=fun e he=>⟨0,fun n _=>by rw[zdt];grind⟩
theorem Bnd.const(c:Rat):Bnd fun _=>c:=⟨zg c,zw c,fun _=>q4⟩
theorem Bnd.add{s t:Nat->Rat}(hs:Bnd s)(ht:Bnd t):Bnd fun n=>s n+t n:=by
 obtain⟨B,h1,h2⟩:=hs;obtain⟨C,h3,h4⟩:=ht;refine⟨B+C,by grind,fun n=>?_⟩;have:=wu (s n) (t n);have:=h2 n;have:=h4 n;grind
theorem Bnd.mul{s t:Nat->Rat}(hs:Bnd s)(ht:Bnd t):Bnd fun n=>s n*t n:=by
 obtain⟨B,h1,h2⟩:=hs;obtain⟨C,h3,h4⟩:=ht;exact⟨B*C,q5 h1 h3,fun n=>by rw[yg];exact za0 (zw _) (h2 n) (zw _) (h4 n)⟩
structure Smb(α:Nat->Rat):Prop where
 nn:∀i,0<=α i
 tl:∀e:Rat,0<e->∃N:Nat,∀n,N<=n->sQ α n-sQ α N<=e
theorem Smb.sc{α:Nat->Rat}(h:Smb α){C:Rat}(hC:0<=C):Smb fun i=>C*α i:=by
 refine⟨fun i=>q5 hC (h.nn i),fun e he=>?_⟩;obtain⟨q1,q2⟩:=zcn he hC;obtain⟨N,hN⟩:=h.tl _ q1;refine⟨N,fun n hn=>?_⟩;have h1:=q3 (hN n hn) hC;rw[jv,jv];grind
theorem Smb.bnd{α:Nat->Rat}(h:Smb α):∃A:Rat,0<=A/\∀n,sQ α n<=A:=by
 obtain⟨N,hN⟩:=h.tl 1 OA;have h0:=zzx (k:=N) fun i _=>h.nn i
 refine⟨sQ α N+1,by grind,fun n=>?_⟩;rcases Nat.le_total N n with c|c
 .have:=hN n c;grind
 .have:=qb7 h.nn c;grind
theorem Smb.tl2{α:Nat->Rat}(h:Smb α){e:Rat}(he:0<e):∃N:Nat,∀m n,N<=m->m<=n->sQ α n-sQ α m<=e:=by
 obtain⟨N,hN⟩:=h.tl e he;refine⟨N,fun m n hm hn=>?_⟩;have h1:=hN n O;have h2:=qb7 h.nn hm;grind
theorem Smb.of{α f:Nat->Rat}(h:Smb α)(hf:∀i,zg (f i)<=α i):Bnd (sQ f):=by
 obtain⟨A,h0,hA⟩:=h.bnd;refine⟨A,h0,fun n=>q6 zmo (q6 (zck fun i _=>hf i) (hA n))⟩
theorem qi4{g:Nat->Rat}{i:Nat}:∀ {n:Nat},i<=n->sQ (fun k=>if i<=k then g (k-i)else 0) n=sQ g (n-i)
 |0,h=>by
  obtain rfl:i=0:=O;rfl
 |n+1,h=>by
  show sQ (fun k=>if i<=k then g (k-i)else 0) n+(if i<=n+1 then g (n+1-i)else 0)=_;rw[Z4 h];by_cases e:i=n+1
  .subst e;have hz:∀k,k<=n->(if n+1<=k then g (k-(n+1))else 0)=(fun _=>(0:Rat)) k:=fun k hk=>by rw[Z5 O]
   rw[yr hz,qN];have h0:∀m,sQ (fun _=>(0:Rat)) m=0:=fun m=>by
    induction m with
    |zero=>rfl
    |succ m ih=>show sQ (fun _=>(0:Rat)) m+0=0;rw[ih,qI]
   rw[h0];show 0+g 0=g 0;grind
  .rw[qi4 O,(O:n+1-i=(n-i)+1)];rfl
def trQ(f:Nat->Nat->Rat)(n:Nat):Rat:=sQ (fun k=>sQ (fun i=>f i (k-i)) k) n
theorem qeo{f:Nat->Rat}{k:Nat}:∀ {n:Nat},k<=n->sQ (fun i=>if i<=k then f i else 0) n=sQ f k
 |0,h=>by obtain rfl:k=0:=by omega
          rfl
 |n+1,h=>by
  show sQ (fun i=>if i<=k then f i else 0) n+(if n+1<=k then f (n+1)else 0)=_;by_cases e:k=n+1
  .subst e;rw[Z4 (q9 _),yr (g:=f) fun i hi=>Z4 O];rfl
  .rw[Z5 O,qeo O];grind
theorem qii(f:Nat->Nat->Rat)(n:Nat):trQ f n=sQ (fun i=>sQ (f i) (n-i)) n:=by
 unfold trQ;have h1:sQ (fun k=>sQ (fun i=>f i (k-i)) k) n=sQ (fun k=>sQ (fun i=>if i<=k then f i (k-i)else 0) n) n:=yr fun k hk=>(qeo hk).symm
 rw[h1,zfl (f:=fun k i=>if i<=k then f i (k-i)else 0)];exact yr fun i hi=>qi4 hi
theorem qde{f:Nat->Nat->Rat}{α β:Nat->Rat}(ha:Smb α)(hb:Smb β)(hf:∀i j,zg (f i j)<=α i*β j):Nul fun n=>sQ (fun i=>sQ (f i) n) n-trQ f n:=fun e he=>by
 obtain⟨A,hA,hA'⟩:=ha.bnd;obtain⟨B,hB,hB'⟩:=hb.bnd;obtain⟨q1,q2⟩:=zcn he (show 0<=A+B by grind);generalize e/(A+B+1)=d at*;obtain⟨N1,hN1⟩:=ha.tl2 q1;obtain⟨N2,hN2⟩:=hb.tl2 q1;refine⟨N1+N2,fun n hn=>?_⟩;show zg (sQ (fun i=>sQ (f i) n) n-trQ f n)<=e;rw[qii,<-zqb];refine q6 zmo ?_;have h1:∀i,i<=n->zg (sQ (f i) n-sQ (f i) (n-i))<=α i*(sQ β n-sQ β (n-i)):=fun i hi=>by
  have:=qi3 (f:=f i) (g:=fun j=>α i*β j) (hf i) (O:n-i<=n);rw[jv,jv]at this;grind
 refine q6 (zck h1) ?_;have h2:∀i,i<=n->α i*(sQ β n-sQ β (n-i))<=d*α i+B*(if i<=n-N2 then 0 else α i):=fun i hi=>by
  have h0:=ha.nn i;by_cases c:i<=n-N2
  .rw[Z4 c];have h3:=hN2 (n-i) n O O;have:=q3 h3 h0;grind
  .rw[Z5 c];have h3:=hB' n;have h4:=zzx (k:=n-i) fun j _=>hb.nn j
   have:=q3 (show sQ β n-sQ β (n-i)<=B by grind) h0;have:=q5 (qA q1) h0;grind
 refine q6 (zck h2) ?_;rw[zqd,jv,jv];have h5:sQ (fun i=>if i<=n-N2 then 0 else α i) n=sQ α n-sQ α (n-N2):=by
  rw[<-qeo (f:=α) (k:=n-N2) (n:=n) O,<-zqb];refine yr fun i _=>?_
  split<;>grind
 rw[h5];have h6:=hN1 (n-N2) n O O;have h7:=q3 h6 hB;have h8:=q3 (hA' n) (qA q1);grind
theorem arch(q:Rat):∃n:Nat,q<=(n:Rat):=by
 refine⟨(q.floor+1).toNat,?_⟩;have h1:=Rat.lt_floor_add_one q;have h2:((q.floor+1:Int):Rat)<=(((q.floor+1).toNat :Int):Rat):=Rat.intCast_le_intCast.2 O;rw[Rat.intCast_natCast]at h2;grind
def rQ(u:Rat):Nat->Rat
 |0=>1
 |j+1=>rQ u j*u*(1/((j+1:Nat):Rat))
theorem zne(j:Nat):(0:Rat)<=1/((j+1:Nat):Rat)/\(1:Rat)/((j+1:Nat):Rat)<=1:=by
 have h:(1:Rat)<=((j+1:Nat):Rat):=by
  have:=(q7 (a:=1) (b:=j+1)).2 O;simpa using this
 have h3:(0:Rat)<((j+1:Nat):Rat)⁻¹ :=qK.2 (by grind);have h4:=qn ((j+1:Nat):Rat) (by grind);have h5:=qd h (qA h3);rw[qG,qC];exact⟨qA h3,by grind⟩
theorem rQ_s(u:Rat)(j:Nat):((j+1:Nat):Rat)*rQ u (j+1)=u*rQ u j:=by
 have h0:(0:Rat)<((j+1:Nat):Rat):=qE.2 O;have h4:=qn ((j+1:Nat):Rat) (by grind);rw[show rQ u (j+1)=rQ u j*u*(1/((j+1:Nat):Rat))from rfl,qG,qC];generalize ((j+1:Nat):Rat)=c at*;generalize rQ u j=q;grind
theorem zk8{u:Rat}(h:0<=u):∀j,0<=rQ u j
 |0=>by unfold rQ;decide
 |j+1=>q5 (q5 (zk8 h j) h) (zne j).1
theorem zei(u:Rat):∀j,zg (rQ u j)=rQ (zg u) j
 |0=>zqj
 |j+1=>by
  unfold rQ;rw[yg,yg,zei u j,qp (zne j).1]
theorem zvb{u:Rat}(h:0<=u){K:Nat}(hu:u*2<=((K+1:Nat):Rat)){j:Nat}(hj:K<=j):rQ u (j+1)*2<=rQ u j:=by
 have h1:((K+1:Nat):Rat)<=((j+1:Nat):Rat):=q7.2 O;have h0:(0:Rat)<((j+1:Nat):Rat):=qE.2 O;have hm:=qn ((j+1:Nat):Rat) (by grind);have hi:(0:Rat)<=((j+1:Nat):Rat)⁻¹ :=qA (qK.2 h0);have h2:(u*2)*((j+1:Nat):Rat)⁻¹ <=1:=by
  have:=qd (q6 hu h1) hi;rw[hm]at this;exact this
 have h3:=q3 h2 (zk8 h j);rw[show rQ u (j+1)=rQ u j*u*(1/((j+1:Nat):Rat))from rfl,qG,qC];generalize ((j+1:Nat):Rat)⁻¹ =c at*;generalize rQ u j=q at*;grind
theorem zk7{u:Rat}(h:0<=u){K:Nat}(hu:u*2<=((K+1:Nat):Rat)):∀d:Nat,sQ (rQ u) (K+d)-sQ (rQ u) K<=rQ u K-rQ u (K+d)
 |0=>by rw[qM,qD,qD];exact q4
 |d+1=>by
  have h1:=zk7 h hu d;have h2:=zvb h hu (j:=K+d) O;show sQ (rQ u) (K+d)+rQ u (K+d+1)-sQ (rQ u) K<=rQ u K-rQ u (K+d+1);grind
theorem qcd{u:Rat}(h:0<=u){K:Nat}(hu:u*2<=((K+1:Nat):Rat)):∀d:Nat,rQ u (K+d)*((d+1:Nat):Rat)<=rQ u K
 |0=>by
  rw[show((0+1:Nat):Rat)=1 from rfl];simp
 |d+1=>by
  have h1:=qcd h hu d;have h2:=zvb h hu (j:=K+d) O;have h3:((d+1+1:Nat):Rat)<=2*((d+1:Nat):Rat):=by
   have:=(q7 (a:=d+1+1) (b:=2*(d+1))).2 O;rw[Rat.natCast_mul]at this;exact this
  have h4:=q3 h3 (zk8 h (K+d+1));have h5:=qd h2 (za8 (d+1));show rQ u (K+d+1)*((d+1+1:Nat):Rat)<=rQ u K;grind
theorem zz4{u:Rat}:∃K:Nat,u*2<=((K+1:Nat):Rat):=by
 obtain⟨n,hn⟩:=arch (u*2);refine⟨n,q6 hn (q7.2 O)⟩
theorem zz3{u:Rat}(h:0<=u){e:Rat}(he:0<e):∃N:Nat,u*2<=((N+1:Nat):Rat)/\∀n,N<=n->rQ u n<=e:=by
 obtain⟨K,hK⟩:=zz4 (u:=u);obtain⟨m,hm⟩:=arch (rQ u K/e);have hB:rQ u K<=e*(m:Rat):=by
  have:=q3 hm (qA he);have h2:=qn e (by grind);rw[qG,show e*(rQ u K*e⁻¹)=rQ u K*(e*e⁻¹) by grind,h2,qH]at this;exact this
 have hK':u*2<=((K+m+1:Nat):Rat):=q6 hK (q7.2 O);refine⟨K+m,hK',fun n hn=>?_⟩;obtain⟨d,rfl⟩:=q8 hn;have h1:=qcd h hK (m+d);rw[<-Nat.add_assoc]at h1;have h2:((m:Nat):Rat)<=((m+d+1:Nat):Rat):=q7.2 O;have h3:=q3 h2 (qA he);have h4:rQ u (K+m+d)*((m+d+1:Nat):Rat)<=e*((m+d+1:Nat):Rat):=by grind
 exact qB h4 (qE.2 O)
theorem zms{u:Rat}(h:0<=u):Smb (rQ u):=by
 refine⟨zk8 h,fun e he=>?_⟩;obtain⟨N,h1,h2⟩:=zz3 h he;refine⟨N,fun n hn=>?_⟩;obtain⟨d,rfl⟩:=q8 hn;have h3:=zk7 h h1 d;have h4:=zk8 h (N+d);have h5:=h2 N (q9 _);grind
theorem zqc{f:Nat->Rat}:∀ {k:Nat},sQ f (k+1)=f 0+sQ (fun i=>f (i+1)) k
 |0=>rfl
 |k+1=>by
  show sQ f (k+1)+f (k+1+1)=f 0+(sQ (fun i=>f (i+1)) k+f (k+1+1));rw[zqc];grind
theorem zvc(x y:Rat):∀k:Nat,sQ (fun i=>rQ x i*rQ y (k-i)) k=rQ (x+y) k
 |0=>by exact qC 1
 |k+1=>by
  have ih:=zvc x y k;have h0:(0:Rat)<((k+1:Nat):Rat):=qE.2 O;have hs:=rQ_s (x+y) k;have key:((k+1:Nat):Rat)*sQ (fun i=>rQ x i*rQ y (k+1-i)) (k+1)=(x+y)*sQ (fun i=>rQ x i*rQ y (k-i)) k:=by
   rw[<-jv];have e1:sQ (fun i=>((k+1:Nat):Rat)*(rQ x i*rQ y (k+1-i))) (k+1)=sQ (fun i=>(i:Rat)*(rQ x i*rQ y (k+1-i))+((k+1-i:Nat):Rat)*(rQ x i*rQ y (k+1-i))) (k+1):=yr fun i hi=>by
    have:((k+1:Nat):Rat)=(i:Rat)+((k+1-i:Nat):Rat):=by rw[<-Rat.natCast_add];congr 1;omega
    rw[this];grind
   rw[e1,zqd];have e2:sQ (fun i=>(i:Rat)*(rQ x i*rQ y (k+1-i))) (k+1)=x*sQ (fun i=>rQ x i*rQ y (k-i)) k:=by
    rw[zqc,<-jv];have:sQ (fun i=>((i+1:Nat):Rat)*(rQ x (i+1)*rQ y (k+1-(i+1)))) k=sQ (fun i=>x*(rQ x i*rQ y (k-i))) k:=yr fun i hi=>by
     have h1:=rQ_s x i;rw[(O:k+1-(i+1)=k-i)];grind
    rw[this];rw[show((0:Nat):Rat)=0 from rfl,qO,qP]
   have e3:sQ (fun i=>((k+1-i:Nat):Rat)*(rQ x i*rQ y (k+1-i))) (k+1)=y*sQ (fun i=>rQ x i*rQ y (k-i)) k:=by
    show sQ (fun i=>((k+1-i:Nat):Rat)*(rQ x i*rQ y (k+1-i))) k+((k+1-(k+1):Nat):Rat)*(rQ x (k+1)*rQ y (k+1-(k+1)))=_;rw[qN,show((0:Nat):Rat)=0 from rfl,qO,qI,<-jv];exact yr fun i hi=>by
     have h1:=rQ_s y (k-i);rw[(O:k+1-i=k-i+1)];grind
   rw[e2,e3];grind
  rw[ih,<-hs]at key;have:=q4 (a:=((k+1:Nat):Rat)*sQ (fun i=>rQ x i*rQ y (k+1-i)) (k+1));refine zk5 (qB (c:=((k+1:Nat):Rat)) ?_ h0) (qB (c:=((k+1:Nat):Rat)) ?_ h0)<;>grind
def eS(x:Rat)(n:Nat):Rat:=sQ (rQ x) n
theorem qda(x:Rat):Bnd (eS x):=(zms (zw x)).of fun i=>by rw[zei];exact q4
theorem zxq(x y:Rat):Nul fun n=>eS x n*eS y n-eS (x+y) n:=by
 have h:=qde (f:=fun i j=>rQ x i*rQ y j) (zms (zw x)) (zms (zw y)) fun i j=>by rw[yg,zei,zei];exact q4
 refine h.cg fun n=>?_
 have e1:sQ (fun i=>sQ (fun j=>rQ x i*rQ y j) n) n=eS x n*eS y n:=by
  have:(fun i=>sQ (fun j=>rQ x i*rQ y j) n)=fun i=>eS y n*rQ x i:=by
   funext i;rw[jv];unfold eS;grind
  rw[this,jv];unfold eS;grind
 have e2:trQ (fun i j=>rQ x i*rQ y j) n=eS (x+y) n:=by
  unfold trQ eS;exact yr fun k _=>zvc x y k
 rw[e1,e2]
theorem qgd{x:Rat}{K:Nat}(hu:zg x*2<=((K+1:Nat):Rat)){n:Nat}(hn:K<=n):zg (eS x n-eS x K)<=rQ (zg x) K:=by
 obtain⟨d,rfl⟩:=q8 hn;have h1:=zzw (f:=rQ x) (g:=rQ (zg x)) (fun i=>by rw[zei];exact q4) K d;have h2:=zk7 (zw x) hu d;have h3:=zk8 (zw x) (K+d);unfold eS;grind
theorem qll{d:Rat}(h:0<=d)(n:Nat):1<=eS d n:=qep (f:=rQ d) (fun i _=>zk8 h i) 0 (qL _)
theorem eS_lo(x:Rat){e:Rat}(he:0<e):∃N:Nat,∀n,N<=n-> -e<=eS x n:=by
 have h:=zxq (x/2) (x/2);obtain⟨N,hN⟩:=h e he;refine⟨N,fun n hn=>?_⟩;have h1:=hN n hn;simp only[show x/2+x/2=x by grind]at h1;have h2:0<=eS (x/2) n*eS (x/2) n:=by
  rcases qF (a:=0) (b:=eS (x/2) n)with c|c
  .exact q5 c c
  .have:=q5 (show 0<= -eS (x/2) n by grind) (show 0<= -eS (x/2) n by grind);grind
 have h3:=kv (eS (x/2) n*eS (x/2) n-eS x n);grind
theorem zxp{x y:Rat}(h:x<=y){e:Rat}(he:0<e):∃N:Nat,∀n,N<=n->eS x n<=eS y n+e:=by
 obtain⟨C,hC,hC'⟩:=qda (y-x);obtain⟨p1,p2⟩:=za1 he;obtain⟨q1,q2⟩:=zcn p1 hC;obtain⟨N,hN⟩:=eS_lo x q1;obtain⟨M,hM⟩:=zxq x (y-x) _ p1;refine⟨N+M,fun n hn=>?_⟩;have h1:=hN n O;have h2:=hM n O;have h3:=kv (eS x n*eS (y-x) n-eS (x+(y-x)) n);rw[show x+(y-x)=y by grind]at h2 h3;have h4:=qll (show 0<=y-x by grind) n;have h5:=(kv (eS (y-x) n)).2;have h6:=hC' n;generalize e/2/(C+1)=d at*;have h7:=q5 (show 0<=eS x n+d by grind) (show 0<=eS (y-x) n-1 by grind);have h8:=q3 (show eS (y-x) n-1<=C by grind) (qA q1);grind
def lI(s:Nat->Rat)(x:Iv):Prop:=∀e:Rat,0<e->∃N:Nat,∀n,N<=n->∃q,inI q x/\zg (s n-q)<=e
theorem zft{s:Nat->Rat}{x:Iv}(N:Nat)(h:∀n,N<=n->inI (s n) x):lI s x:=fun e he=>⟨N,fun n hn=>⟨s n,h n hn,by rw[qD,zdt];grind⟩⟩
theorem qkq{q:Rat}{x:Iv}(h:inI q x):lI (fun _=>q) x:=zft 0 fun _ _=>h
theorem lI.nul{s t:Nat->Rat}{x:Iv}(h:lI s x)(hn:Nul fun n=>s n-t n):lI t x:=fun e he=>by
 obtain⟨h1,h2⟩:=za1 he;obtain⟨N,hN⟩:=h _ h1;obtain⟨M,hM⟩:=hn _ h1;refine⟨N+M,fun n hk=>?_⟩;obtain⟨q,hq,hd⟩:=hN n O;have h3:=hM n O;refine⟨q,hq,?_⟩;have h4:=zqi (s n-q) (s n-t n);rw[show s n-q-(s n-t n)=t n-q by grind]at h4;grind
theorem qkr{s t:Nat->Rat}{x y:Iv}(hx:VI x)(hy:VI y){p:Int}(hp:pcB p=true)(hs:lI s x)(ht:lI t y):lI (fun n=>s n+t n) (ym x y p):=fun e he=>by
 obtain⟨h1,h2⟩:=za1 he;obtain⟨N,hN⟩:=hs _ h1;obtain⟨M,hM⟩:=ht _ h1;refine⟨N+M,fun n hk=>?_⟩;obtain⟨q,hq,hd⟩:=hN n O;obtain⟨r,hr,hc⟩:=hM n O;refine⟨q+r,zfa hx hy hp hq hr,?_⟩;have h4:=wu (s n-q) (t n-r);rw[show s n-q+(t n-r)=s n+t n-(q+r) by grind]at h4;grind
theorem qkp{s t:Nat->Rat}{x y:Iv}(hx:VI x)(hy:VI y){p:Int}(hp:pcB p=true)(hs:lI s x)(ht:lI t y)(bs:Bnd s)(bt:Bnd t):lI (fun n=>s n*t n) (za9 x y p):=fun e he=>by
 obtain⟨B,hB,hB'⟩:=bs;obtain⟨C,hC,hC'⟩:=bt;obtain⟨d,d0,d1,d2⟩:∃d:Rat,0<d/\d<=1/\(B+C+1)*d<=e:=by
  obtain⟨q1,q2⟩:=zcn he (show 0<=B+C+1 by grind);rcases qF (a:=e/(B+C+1+1)) (b:=1)with c|c
  .exact⟨_,q1,c,q2⟩
  .refine⟨1,OA,q4,?_⟩;have:=q3 c (show 0<=B+C+1 by grind);grind
 obtain⟨N,hN⟩:=hs d d0;obtain⟨M,hM⟩:=ht d d0;refine⟨N+M,fun n hk=>?_⟩;obtain⟨q,hq,hd⟩:=hN n O;obtain⟨r,hr,hc⟩:=hM n O;refine⟨q*r,zm3 hx hy hp hq hr,?_⟩;have e1:s n*t n-q*r=(s n-q)*t n+q*(t n-r):=by grind
 have h3:=wu ((s n-q)*t n) (q*(t n-r));rw[yg,yg]at h3;have hq1:zg q<=B+1:=by
  have h4:=zqi (s n) (s n-q);rw[show s n-(s n-q)=q by grind]at h4;have:=hB' n;grind
 have h5:=za0 (zw (s n-q)) hd (zw (t n)) (hC' n);have h6:=za0 (zw q) hq1 (zw (t n-r)) hc;rw[e1];grind
theorem zs8{s:Nat->Rat}{x y:Iv}(hi:∀q,inI q x->inI q y)(h:lI s x):lI s y:=fun e he=>by
 obtain⟨N,hN⟩:=h e he;refine⟨N,fun n hn=>?_⟩;obtain⟨q,hq,hd⟩:=hN n hn;exact⟨q,hi q hq,hd⟩
theorem zd3{s:Nat->Rat}{x:Iv}(h:lI s x)(ha:x.all=false){e:Rat}(he:0<e):∃N:Nat,∀n,N<=n->dv x.lo-e<=s n/\s n<=dv x.hi+e:=by
 obtain⟨N,hN⟩:=h e he;refine⟨N,fun n hn=>?_⟩;obtain⟨q,hq,hd⟩:=hN n hn;rcases hq with c|⟨h1,h2⟩
 .rw[ha]at c;cases c
 have h3:=kv (s n-q);constructor<;>grind
theorem zh6{s:Nat->Rat}{x:Iv}(hle:dv x.lo<=dv x.hi)(h:∀e:Rat,0<e->∃N:Nat,∀n,N<=n->dv x.lo-e<=s n/\s n<=dv x.hi+e):lI s x:=fun e he=>by
 obtain⟨N,hN⟩:=h e he;refine⟨N,fun n hn=>?_⟩;obtain⟨h1,h2⟩:=hN n hn;rcases qF (a:=s n) (b:=dv x.lo)with c|c
 .exact⟨dv x.lo,.inr ⟨q4,hle⟩,zd.2 ⟨by grind,by grind⟩⟩
 .rcases qF (a:=s n) (b:=dv x.hi)with d|d
  .exact⟨s n,.inr ⟨c,d⟩,by rw[qD,zdt];grind⟩
  .exact⟨dv x.hi,.inr ⟨hle,q4⟩,zd.2 ⟨by grind,by grind⟩⟩
theorem znb{a b:Rat}(h:∀e:Rat,0<e->a<=b+e):a<=b:=by
 rcases qF (a:=a) (b:=b)with c|c
 .exact c
 .by_cases k:0<a-b
  .have:=h ((a-b)/2) (za1 k).1;grind
  .grind
theorem zfu{s:Nat->Rat}{x y:Iv}(hx:lI s x)(hy:lI s y)(kx:x.all=false)(ky:y.all=false):dv x.lo<=dv y.hi:=znb fun e he=>by
 obtain⟨h1,h2⟩:=za1 he;obtain⟨N,hN⟩:=zd3 hx kx h1;obtain⟨M,hM⟩:=zd3 hy ky h1;have a:=(hN (N+M) O).1;have b:=(hM (N+M) O).2;grind
def dlt(i j:Nat):Rat:=if i=j then 1 else 0
def mQ(k:Nat)(A B:Nat->Nat->Rat):Nat->Nat->Rat:=fun i j=>sQ (fun r=>A i r*B r j) k
theorem zce(n:Int):inI (n:Rat) (whI n):=.inr (by
 have e:dv (whI n).lo =(n:Rat):=je n;have e':dv (whI n).hi =(n:Rat):=je n;rw[e,e'];exact⟨q4,q4⟩)
theorem zcl{x:Iv}(hx:VI x){p:Int}{q:Rat}(hq:inI q x):inI q (qs x p):=by
 unfold qs;split
 .rename_i c;have k:=(zq hx.ri).1 c.1;rcases hq with hq|hq
  .rw[k.all]at hq;cases hq
  exact zzy (jf k.lo (qe c.2)) (jf k.hi (qe c.2)) hq.1 hq.2
 .exact zi5 _
def nQ(k:Nat)(A:Nat->Nat->Rat)(U:Rat):Prop:=∀i,i<=k->sQ (fun r=>zg (A i r)) k<=U
theorem qj4{k:Nat}{A:Nat->Nat->Rat}{U:Rat}(h:nQ k A U){i j:Nat}(hi:i<=k)(hj:j<=k):zg (A i j)<=U:=
 q6 (qep (f:=fun r=>zg (A i r)) (fun _ _=>zw _) j hj) (h i hi)
theorem qj2{k:Nat}{A:Nat->Nat->Rat}{U:Rat}(h:nQ k A U):0<=U:=q6 (zw _) (qj4 h (qL k) (qL k))
theorem qj3{k:Nat}{A B:Nat->Nat->Rat}{U V:Rat}(ha:nQ k A U)(hb:nQ k B V):nQ k (mQ k A B) (U*V):=fun i hi=>by
 have h1:sQ (fun j=>zg (mQ k A B i j)) k<=sQ (fun j=>sQ (fun r=>zg (A i r)*zg (B r j)) k) k:=zck fun j _=>by
  have:=zmo (f:=fun r=>A i r*B r j) (k:=k);simp only[yg]at this;exact this
 have h2:sQ (fun j=>sQ (fun r=>zg (A i r)*zg (B r j)) k) k=sQ (fun r=>zg (A i r)*sQ (fun j=>zg (B r j)) k) k:=by
  rw[zfl (f:=fun j r=>zg (A i r)*zg (B r j))];simp only[jv]
 have h3:sQ (fun r=>zg (A i r)*sQ (fun j=>zg (B r j)) k) k<=sQ (fun r=>V*zg (A i r)) k:=zck fun r hr=>by
  have:=q3 (hb r hr) (zw (A i r));grind
 rw[jv]at h3;have h4:=q3 (ha i hi) (qj2 hb);rw[h2]at h1;grind
theorem zxr(i j:Nat):zg (dlt i j)=if i=j then 1 else 0:=by
 unfold dlt;by_cases h:i=j
 .simp only[Z4 h];exact zqj
 .simp only[Z5 h];exact zdt
theorem qb8{i:Nat}:∀ {k:Nat},sQ (fun r=>zg (dlt i r)) k=if i<=k then 1 else 0
 |0=>by
  show zg (dlt i 0)=_;rw[zxr];by_cases h:i=0
  .rw[Z4 h,Z4 O]
  .rw[Z5 h,Z5 O]
 |k+1=>by
  show sQ (fun r=>zg (dlt i r)) k+zg (dlt i (k+1))=_;rw[qb8,zxr];by_cases h:i=k+1
  .rw[Z5 O,Z4 h,Z4 O];grind
  .by_cases h2:i<=k
   .rw[Z4 h2,Z5 h,Z4 O];grind
   .rw[Z5 h2,Z5 h,Z5 O];grind
theorem qj5{k:Nat}:nQ k dlt 1:=fun i hi=>by rw[qb8,Z4 hi];exact q4
def pQ(k:Nat)(A:Nat->Nat->Rat):Nat->Nat->Nat->Rat
 |0=>dlt
 |j+1=>mQ k (pQ k A j) A
theorem qlo(i:Nat):dlt i i=1:=Z4 rfl
theorem qlp{i j:Nat}(h:i≠j):dlt i j=0:=Z5 h
theorem qi5{f:Nat->Rat}{j:Nat}:∀ {k:Nat},sQ (fun r=>f r*dlt r j) k=if j<=k then f j else 0
 |0=>by
  show f 0*dlt 0 j=_;by_cases h:j=0
  .subst h;rw[qlo,Z4 (q9 _),qH]
  .rw[qlp (fun c=>h c.symm),Z5 O,qQ]
 |k+1=>by
  show sQ (fun r=>f r*dlt r j) k+f (k+1)*dlt (k+1) j=_;rw[qi5];by_cases h:j=k+1
  .subst h;rw[qlo,Z5 O,Z4 (q9 _),qH,qP]
  .rw[qlp (fun c=>h c.symm),qQ,qI];by_cases h2:j<=k
   .rw[Z4 h2,Z4 O]
   .rw[Z5 h2,Z5 O]
theorem qki{k:Nat}{A:Nat->Nat->Rat}{a b:Nat}(hb:b<=k):mQ k A dlt a b=A a b:=by
 unfold mQ;rw[qi5,Z4 hb]
theorem qag{k:Nat}{A B C:Nat->Nat->Rat}{a b:Nat}:mQ k (mQ k A B) C a b=mQ k A (mQ k B C) a b:=by
 unfold mQ;have e1:(fun r=>sQ (fun q=>A a q*B q r) k*C r b)=fun r=>sQ (fun q=>A a q*(B q r*C r b)) k:=by
  funext r
  rw[qJ,<-jv];exact yr fun q _=>by grind
 have e2:(fun q=>A a q*sQ (fun r=>B q r*C r b) k)=fun q=>sQ (fun r=>A a q*(B q r*C r b)) k:=by
  funext q;rw[jv]
 rw[e1,e2,zfl]
theorem mQ_cg{k:Nat}{A A' B B':Nat->Nat->Rat}{a b:Nat}(h1:∀r,r<=k->A a r=A' a r)(h2:∀r,r<=k->B r b=B' r b):mQ k A B a b=mQ k A' B' a b:=yr fun r hr=>by rw[h1 r hr,h2 r hr]
theorem qci{k:Nat}{A:Nat->Nat->Rat}{a:Nat}(i:Nat):∀(j b:Nat),b<=k->mQ k (pQ k A i) (pQ k A j) a b=pQ k A (i+j) a b
 |0,b,hb=>qki hb
 |j+1,b,hb=>by
  show mQ k (pQ k A i) (mQ k (pQ k A j) A) a b=mQ k (pQ k A (i+j)) A a b;rw[<-qag];exact mQ_cg (fun r hr=>qci i j r hr) fun r _=>rfl
theorem nQ_p{k:Nat}{A:Nat->Nat->Rat}{U:Rat}(h:nQ k A U):∀j,nQ k (pQ k A j) (rpw U j)
 |0=>qj5
 |j+1=>by
  have:=qj3 (nQ_p h j) h;rw[show rpw U (j+1)=rpw U j*U from rfl];exact this
theorem zu6(U:Rat)(i:Nat):∀j,rpw U (i+j)=rpw U i*rpw U j
 |0=>(qH _).symm
 |j+1=>by
  show rpw U (i+j)*U=rpw U i*(rpw U j*U);rw[zu6 U i j];grind
def gQ(c:Nat->Rat)(k:Nat)(A:Nat->Nat->Rat)(n:Nat):Nat->Nat->Rat:=fun a b=>sQ (fun i=>c i*pQ k A i a b) n
theorem zva(x U:Rat):∀i,rQ x i*rpw U i=rQ (x*U) i
 |0=>by exact qC 1
 |i+1=>by
  have ih:=zva x U i;have e:rpw U (i+1)=rpw U i*U:=rfl;rw[e];unfold rQ;rw[<-ih];grind
theorem qk6{c d:Nat->Rat}{k:Nat}{A:Nat->Nat->Rat}{U x y C D:Rat}(h:nQ k A U)(hx:0<=x)(hy:0<=y)(hC:0<=C)(hD:0<=D)(hc:∀i,zg (c i)<=C*rQ x i)(hd:∀i,zg (d i)<=D*rQ y i){a b:Nat}(ha:a<=k)(hb:b<=k):
 Nul fun n=>mQ k (gQ c k A n) (gQ d k A n) a b-gQ (fun q=>sQ (fun i=>c i*d (q-i)) q) k A n a b:=by
 have hU:=qj2 h;have hp:∀i j,zg (c i*d j*pQ k A (i+j) a b)<=C*rQ (x*U) i*(D*rQ (y*U) j):=fun i j=>by
  have h1:=qj4 (nQ_p h (i+j)) ha hb;have e:∀i,rpw U (i+j)=rpw U i*rpw U j:=fun i=>zu6 U i j
  rw[e]at h1;rw[yg,yg,<-zva,<-zva];have h2:=za0 (zw (c i)) (hc i) (zw (d j)) (hd j);have h3:=za0 (q5 (zw (c i)) (zw (d j))) h2 (zw _) h1;grind
 have h1:=qde (f:=fun i j=>c i*d j*pQ k A (i+j) a b) ((zms (q5 hx hU)).sc hC) ((zms (q5 hy hU)).sc hD) hp;refine h1.cg fun n=>?_
 have e1:sQ (fun i=>sQ (fun j=>c i*d j*pQ k A (i+j) a b) n) n=mQ k (gQ c k A n) (gQ d k A n) a b:=by
  have e2:(fun i=>sQ (fun j=>c i*d j*pQ k A (i+j) a b) n)=fun i=>sQ (fun r=>(c i*pQ k A i a r)*gQ d k A n r b) k:=by
   funext i
   have e3:(fun r=>(c i*pQ k A i a r)*gQ d k A n r b)=fun r=>sQ (fun j=>c i*d j*(pQ k A i a r*pQ k A j r b)) n:=by
    funext r
    unfold gQ;rw[<-jv];exact yr fun j _=>by grind
   rw[e3,zfl];exact yr fun j _=>by
    rw[jv];have:=qci (k:=k) (A:=A) (a:=a) i j b hb;unfold mQ at this;rw[this]
  rw[e2,zfl];unfold mQ;exact yr fun r _=>by
   show sQ (fun i=>c i*pQ k A i a r*gQ d k A n r b) n=gQ c k A n a r*gQ d k A n r b;rw[qJ (gQ c k A n a r)];show _=gQ d k A n r b*sQ (fun i=>c i*pQ k A i a r) n;rw[<-jv];exact yr fun i _=>by grind
 have e4:trQ (fun i j=>c i*d j*pQ k A (i+j) a b) n=gQ (fun q=>sQ (fun i=>c i*d (q-i)) q) k A n a b:=by
  unfold trQ gQ;exact yr fun q _=>by
   rw[qJ,<-jv];exact yr fun i hi=>by
    show c i*d (q-i)*pQ k A (i+(q-i)) a b=pQ k A q a b*(c i*d (q-i));rw[(O:i+(q-i)=q)];grind
 rw[e1,e4]
def xQ(k:Nat)(A:Nat->Nat->Rat)(t:Rat)(n:Nat):Nat->Nat->Rat:=gQ (rQ t) k A n
theorem cx(t:Rat)(i:Nat):zg (rQ t i)<=1*rQ (zg t) i:=by rw[zei,qC];exact q4
section
variable {k:Nat} {A:Nat->Nat->Rat} {U:Rat} (h:nQ k A U) {a b:Nat} (ha:a<=k) (hb:b<=k)
include h ha hb
theorem qbt(s t:Rat):Nul fun n=>mQ k (xQ k A s n) (xQ k A t n) a b-xQ k A (s+t) n a b:=by
 refine(qk6 h (zw s) (zw t) OA OA (cx s) (cx t) ha hb).cg fun n=>?_
 have:gQ (fun q=>sQ (fun i=>rQ s i*rQ t (q-i)) q) k A n a b=xQ k A (s+t) n a b:=yr fun q _=>by
  show sQ (fun i=>rQ s i*rQ t (q-i)) q*_=_;rw[zvc]
 rw[this];rfl
end
theorem zoe{k:Nat}{A:Nat->Nat->Rat}{a b:Nat}:∀n,xQ k A 0 n a b=dlt a b
 |0=>by show(1:Rat)*dlt a b=_;rw[qC]
 |n+1=>by
  show xQ k A 0 n a b+rQ 0 (n+1)*_=_;rw[zoe n,show rQ 0 (n+1)=0 by unfold rQ;grind];grind
theorem zk2{x:Iv}(hx:VI x){j:Int}{q:Rat}(h:inI q x):inI (q*pw j) (wl x j):=by
 unfold wl;by_cases c:kB x=true
 .rw[Z4 c];have k:=(zq hx.ri).1 c;rcases h with e|⟨h1,h2⟩
  .rw[k.all]at e;cases e
  cases ha:(ve (vu x.lo j) (vu x.hi j)).all with
  |true=>exact .inl ha
  |false=>
   obtain⟨o1,o2⟩:=kj.1 ha;right;rw[uj ha];have e1:=zc5 o1;have e2:=zc5 o2;show dv (vu x.lo j).1<=_/\_<=dv (vu x.hi j).1;rw[e1,e2];exact⟨qw h1 (zfn j),qw h2 (zfn j)⟩
 .rw[Z5 c];exact zi5 _
