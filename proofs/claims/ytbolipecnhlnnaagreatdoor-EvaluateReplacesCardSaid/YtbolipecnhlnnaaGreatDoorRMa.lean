/-
  Matrices of intervals, exponential functions of matrices: plain functions; the series ends.
-/
import Derived.Test.YtbolipecnhlnnaaGreatDoorRXf
import Derived.Test.YtbolipecnhlnnaaGreatDoorRXa
import Derived.Test.YtbolipecnhlnnaaGreatDoorRYl
set_option linter.unusedVariables false
set_option linter.unusedSimpArgs false
open Nat renaming exists_eq_add_of_le->q7,le_refl->qn,add_zero->qJ,sub_self->qK
open Rat renaming mul_le_mul_of_nonneg_left->q3,le_refl->q4,mul_nonneg->q5,natCast_le_natCast->q6,le_trans->q9,mul_le_mul_of_nonneg_right->qd,mul_inv_cancel->qA,le_of_lt->qB,le_of_mul_le_mul_right->qC,sub_self->qD,natCast_pos->qE,le_total->qF,div_def->qG,one_mul->qH,inv_pos->qI,add_zero->qL,zero_mul->qM
namespace Go.Proofs.YtbolipecnhlnnaaGreatDoor
open Go Go.Sx
set_option maxHeartbeats 2000000
theorem zfb {n:Int} (h: -4611686018427387904<=n/\n<=4611686018427387904):VI (whI n):= .inl (yz h)
theorem zdn {x:Iv} (hx:VI x) (p:Int):VI (qm x p):=by
 unfold qm;split
 ·rename_i c;have k:=(zp hx.ri).1 c.1;exact zqr (jm k.lo (qr c.2)) (jm k.hi (qr c.2)) (kw (wg _ _ _ (qr c.2)) (wg _ _ _ (qr c.2))) k.dle
 ·exact .inr rfl
theorem qfo {x:Iv} (k:KI x):0<=dv (jx x)/\(∀a:Rat,dv x.lo<=a->a<=dv x.hi-> -dv (jx x)<=a/\a<=dv (jx x)):=by
 obtain⟨h1,h2,h3⟩:=zhh k q4 k.dle;refine⟨q9 h1 (q9 h2 h3),fun a ha hb=>?_⟩;obtain⟨_,_,h4⟩:=zhh k ha hb;unfold qx at h4;split at h4<;>constructor<;>grind
theorem qc4 {x:Iv} (k:KI x):bI (dv (jx x)) x:=by
 obtain⟨_,h⟩:=qfo k;exact⟨.inl k,.inr ⟨(h _ q4 k.dle).1,(h _ k.dle q4).2⟩⟩
theorem zjj {x:Iv} (hx:VI x) (j:Int):VI (wh x j):=by
 rcases hx with k|rfl
 ·exact(zp0 (qc4 k) j).1
 ·exact .inr rfl
def sQ (f:Nat->Rat):Nat->Rat
 |0=>f 0
 |k+1=>sQ f k+f (k+1)
theorem zga {f g:Nat->Rat}: ∀ {k:Nat},(∀i,i<=k->f i<=g i)->sQ f k<=sQ g k
 |0,h=>h 0 (qn _)
 |k+1,h=>by
  have h1:=zga (k:=k) fun i hi=>h i (by omega)
  have h2:=h (k+1) (qn _);show sQ f k+f (k+1)<=sQ g k+g (k+1);grind
theorem zgb {f g:Nat->Rat}: ∀ {k:Nat},(∀i,i<=k->f i=g i)->sQ f k=sQ g k
 |0,h=>h 0 (qn _)
 |k+1,h=>by
  have h1:=zgb (k:=k) fun i hi=>h i (by omega)
  have h2:=h (k+1) (qn _);show sQ f k+f (k+1)=sQ g k+g (k+1);rw[h1,h2]
theorem zww {f:Nat->Rat}: ∀ {k:Nat},(∀i,i<=k->0<=f i)->0<=sQ f k
 |0,h=>h 0 (qn _)
 |k+1,h=>by
  have h1:=zww (k:=k) fun i hi=>h i (by omega)
  have h2:=h (k+1) (qn _);show 0<=sQ f k+f (k+1);grind
theorem zol {f g:Nat->Rat}: ∀ {k:Nat},sQ (fun i=>f i+g i) k=sQ f k+sQ g k
 |0=>rfl
 |k+1=>by
  show sQ (fun i=>f i+g i) k+(f (k+1)+g (k+1))=(sQ f k+f (k+1))+(sQ g k+g (k+1));rw[zol];grind
theorem zsw {f g:Nat->Rat}: ∀ {k:Nat},sQ (fun i=>f i-g i) k=sQ f k-sQ g k
 |0=>rfl
 |k+1=>by
  show sQ (fun i=>f i-g i) k+(f (k+1)-g (k+1))=(sQ f k+f (k+1))-(sQ g k+g (k+1));rw[zsw];grind
theorem zbd {c:Rat} {f:Nat->Rat}: ∀ {k:Nat},sQ (fun i=>c*f i) k=c*sQ f k
 |0=>rfl
 |k+1=>by
  show sQ (fun i=>c*f i) k+c*f (k+1)=c*(sQ f k+f (k+1));rw[zbd];grind
theorem zsv {f:Nat->Nat->Rat} {l:Nat}: ∀ {k:Nat},sQ (fun i=>sQ (fun j=>f i j) l) k=sQ (fun j=>sQ (fun i=>f i j) k) l
 |0=>rfl
 |k+1=>by
  show sQ (fun i=>sQ (fun j=>f i j) l) k+sQ (fun j=>f (k+1) j) l=sQ (fun j=>sQ (fun i=>f i j) k+f (k+1) j) l;rw[zsv,zol]
theorem zeg {a b:Rat}:qx a<=b<-> -b<=a/\a<=b:=by
 unfold qx;split<;>constructor<;>(try rintro⟨h1,h2⟩)<;>(try intro h1)<;>grind
theorem ug (a:Rat): -qx a<=a/\a<=qx a:=zeg.1 q4
theorem yq (a b:Rat):qx (a+b)<=qx a+qx b:=by
 have h1:=ug a;have h2:=ug b;rw[zeg];constructor<;>grind
theorem zao (a:Rat):qx (-a)=qx a:=by
 unfold qx;split<;>split<;>grind
theorem zoo (a b:Rat):qx (a-b)<=qx a+qx b:=by
 have h1:=ug a;have h2:=ug b;rw[zeg];constructor<;>grind
theorem jh {a:Rat} (h:0<=a):qx a=a:=by unfold qx;split<;>grind
theorem qe2:qx 1=1:=jh (by decide)
theorem zkx:qx 0=0:=jh (by decide)
theorem zaz {a b:Rat}:qx (a*b)=qx a*qx b:=by
 by_cases ha:0<=a<;>by_cases hb:0<=b
 ·rw[jh ha,jh hb,jh (q5 ha hb)]
 ·have h:=q5 ha (show 0<= -b by grind);rw[jh ha,←zao b,jh (show 0<= -b by grind),←zao,show-(a*b)=a* -b by grind,jh h]
 ·have h:=q5 (show 0<= -a by grind) hb;rw[jh hb,←zao a,jh (show 0<= -a by grind),←zao,show-(a*b)= -a*b by grind,jh h]
 ·have h:=q5 (show 0<= -a by grind) (show 0<= -b by grind);rw[←zao a,←zao b,jh (show 0<= -a by grind),jh (show 0<= -b by grind),show a*b= -a* -b by grind,jh h]
theorem zsx {f:Nat->Rat}: ∀ {k:Nat},qx (sQ f k)<=sQ (fun i=>qx (f i)) k
 |0=>q4
 |k+1=>by
  have h:=zsx (f:=f) (k:=k);have h2:=yq (sQ f k) (f (k+1));show qx (sQ f k+f (k+1))<=sQ (fun i=>qx (f i)) k+qx (f (k+1));grind
theorem qeu {f:Nat->Rat}: ∀ {k:Nat},(∀i,i<=k->0<=f i)-> ∀j,j<=k->f j<=sQ f k
 |0,_,j,hj=>by obtain rfl:j=0:=by omega
               exact q4
 |k+1,h,j,hj=>by
  have h1:=zww (k:=k) fun i hi=>h i (by omega)
  have h2:=h (k+1) (qn _);show f j<=sQ f k+f (k+1);by_cases e:j=k+1
  ·subst e;grind
  ·have:=qeu (k:=k) (fun i hi=>h i (by omega)) j (by omega);grind
theorem qer {f:Nat->Rat} (h: ∀i,0<=f i) (k:Nat): ∀d:Nat,sQ f k<=sQ f (k+d)
 |0=>q4
 |d+1=>by
  have h1:=qer h k d;have h2:=h (k+d+1);show sQ f k<=sQ f (k+d)+f (k+d+1);grind
theorem zy1 {f:Nat->Rat} (h: ∀i,0<=f i) {k n:Nat} (hk:k<=n):sQ f k<=sQ f n:=by
 obtain⟨d,rfl⟩:=q7 hk;exact qer h k d
theorem qa4 {f g:Nat->Rat} (h: ∀i,qx (f i)<=g i) (k:Nat): ∀d:Nat,qx (sQ f (k+d)-sQ f k)<=sQ g (k+d)-sQ g k
 |0=>by rw[qJ,qD,qD,zkx];exact q4
 |d+1=>by
  have h1:=qa4 h k d;have h2:=h (k+d+1);have h3:=yq (sQ f (k+d)-sQ f k) (f (k+d+1));show qx (sQ f (k+d)+f (k+d+1)-sQ f k)<=sQ g (k+d)+g (k+d+1)-sQ g k;rw[show sQ f (k+d)+f (k+d+1)-sQ f k=sQ f (k+d)-sQ f k+f (k+d+1) by grind];grind
theorem qes {f g:Nat->Rat} (h: ∀i,qx (f i)<=g i) {k n:Nat} (hk:k<=n):qx (sQ f n-sQ f k)<=sQ g n-sQ g k:=by
 obtain⟨d,rfl⟩:=q7 hk;exact qa4 h k d
def Nul (s:Nat->Rat):Prop:= ∀e:Rat,0<e-> ∃N:Nat,∀n,N<=n->qx (s n)<=e
def Bnd (s:Nat->Rat):Prop:= ∃B:Rat,0<=B/\ ∀n,qx (s n)<=B
theorem zat {e:Rat} (h:0<e):0<e/2/\e/2+e/2=e:=by constructor<;>grind
theorem Nul.cg {s t:Nat->Rat} (hs:Nul s) (h: ∀n,s n=t n):Nul t:=by rw[show t=s from funext fun n=>(h n).symm];exact hs
theorem zdu {e B:Rat} (he:0<e) (hB:0<=B):0<e/(B+1)/\B*(e/(B+1))<=e:=by
 have h1:(0:Rat)<(B+1)⁻¹ :=qI.2 (by grind);have h2:=qA (B+1) (by grind);rw[qG];have h3:0<e*(B+1)⁻¹ :=Rat.mul_pos he h1;have h4:B*(e*(B+1)⁻¹)=e*((B+1)*(B+1)⁻¹)-e*(B+1)⁻¹ :=by grind
 exact⟨h3,by rw[h4,h2];grind⟩
theorem Nul.zero:Nul fun _=>0:=fun e he=>⟨0,fun n _=>by rw[zkx];grind⟩
theorem Bnd.const (c:Rat):Bnd fun _=>c:=⟨qx c,wd c,fun _=>q4⟩
theorem Bnd.add {s t:Nat->Rat} (hs:Bnd s) (ht:Bnd t):Bnd fun n=>s n+t n:=by
 obtain⟨B,h1,h2⟩:=hs;obtain⟨C,h3,h4⟩:=ht;refine⟨B+C,by grind,fun n=>?_⟩;have:=yq (s n) (t n);have:=h2 n;have:=h4 n;grind
theorem Bnd.mul {s t:Nat->Rat} (hs:Bnd s) (ht:Bnd t):Bnd fun n=>s n*t n:=by
 obtain⟨B,h1,h2⟩:=hs;obtain⟨C,h3,h4⟩:=ht;exact⟨B*C,q5 h1 h3,fun n=>by rw[zaz];exact zb2 (wd _) (h2 n) (wd _) (h4 n)⟩
structure Smb (α:Nat->Rat):Prop where
 nn: ∀i,0<=α i
 tl: ∀e:Rat,0<e-> ∃N:Nat,∀n,N<=n->sQ α n-sQ α N<=e
theorem Smb.bnd {α:Nat->Rat} (h:Smb α): ∃A:Rat,0<=A/\ ∀n,sQ α n<=A:=by
 obtain⟨N,hN⟩:=h.tl 1 (by decide);have h0:=zww (k:=N) fun i _=>h.nn i
 refine⟨sQ α N+1,by grind,fun n=>?_⟩;rcases Nat.le_total N n with c|c
 ·have:=hN n c;grind
 ·have:=zy1 h.nn c;grind
theorem Smb.tl2 {α:Nat->Rat} (h:Smb α) {e:Rat} (he:0<e): ∃N:Nat,∀m n,N<=m->m<=n->sQ α n-sQ α m<=e:=by
 obtain⟨N,hN⟩:=h.tl e he;refine⟨N,fun m n hm hn=>?_⟩;have h1:=hN n (by omega);have h2:=zy1 h.nn hm;grind
theorem Smb.of {α f:Nat->Rat} (h:Smb α) (hf: ∀i,qx (f i)<=α i):Bnd (sQ f):=by
 obtain⟨A,h0,hA⟩:=h.bnd;refine⟨A,h0,fun n=>q9 zsx (q9 (zga fun i _=>hf i) (hA n))⟩
theorem qet {g:Nat->Rat} {i:Nat}: ∀ {n:Nat},i<=n->sQ (fun k=>if i<=k then g (k-i)else 0) n=sQ g (n-i)
 |0,h=>by
  obtain rfl:i=0:=by omega
  rfl
 |n+1,h=>by
  show sQ (fun k=>if i<=k then g (k-i)else 0) n+(if i<=n+1 then g (n+1-i)else 0)=_;rw[if_pos h];by_cases e:i=n+1
  ·subst e;have hz: ∀k,k<=n->(if n+1<=k then g (k-(n+1))else 0)=(fun _=>(0:Rat)) k:=fun k hk=>by rw[if_neg (by omega)]
   rw[zgb hz,qK];have h0: ∀m,sQ (fun _=>(0:Rat)) m=0:=fun m=>by
    induction m with
    |zero=>rfl
    |succ m ih=>show sQ (fun _=>(0:Rat)) m+0=0;rw[ih,qL]
   rw[h0];show 0+g 0=g 0;grind
  ·rw[qet (by omega),show n+1-i=(n-i)+1 by omega];rfl
def trQ (f:Nat->Nat->Rat) (n:Nat):Rat:=sQ (fun k=>sQ (fun i=>f i (k-i)) k) n
theorem qa5 {f:Nat->Rat} {k:Nat}: ∀ {n:Nat},k<=n->sQ (fun i=>if i<=k then f i else 0) n=sQ f k
 |0,h=>by obtain rfl:k=0:=by omega
          rfl
 |n+1,h=>by
  show sQ (fun i=>if i<=k then f i else 0) n+(if n+1<=k then f (n+1)else 0)=_;by_cases e:k=n+1
  ·subst e;rw[if_pos (qn _),zgb (g:=f) fun i hi=>if_pos (by omega)];rfl
  ·rw[if_neg (by omega),qa5 (by omega)];grind
theorem qeg (f:Nat->Nat->Rat) (n:Nat):trQ f n=sQ (fun i=>sQ (f i) (n-i)) n:=by
 unfold trQ;have h1:sQ (fun k=>sQ (fun i=>f i (k-i)) k) n=sQ (fun k=>sQ (fun i=>if i<=k then f i (k-i)else 0) n) n:=zgb fun k hk=>(qa5 hk).symm
 rw[h1,zsv (f:=fun k i=>if i<=k then f i (k-i)else 0)];exact zgb fun i hi=>qet hi
theorem qg5 {f:Nat->Nat->Rat} {α β:Nat->Rat} (ha:Smb α) (hb:Smb β) (hf: ∀i j,qx (f i j)<=α i*β j):Nul fun n=>sQ (fun i=>sQ (f i) n) n-trQ f n:=fun e he=>by
 obtain⟨A,hA,hA'⟩:=ha.bnd;obtain⟨B,hB,hB'⟩:=hb.bnd;obtain⟨q1,q2⟩:=zdu he (show 0<=A+B by grind);generalize e/(A+B+1)=d at*;obtain⟨N1,hN1⟩:=ha.tl2 q1;obtain⟨N2,hN2⟩:=hb.tl2 q1;refine⟨N1+N2,fun n hn=>?_⟩;show qx (sQ (fun i=>sQ (f i) n) n-trQ f n)<=e;rw[qeg,←zsw];refine q9 zsx ?_;have h1: ∀i,i<=n->qx (sQ (f i) n-sQ (f i) (n-i))<=α i*(sQ β n-sQ β (n-i)):=fun i hi=>by
  have:=qes (f:=f i) (g:=fun j=>α i*β j) (hf i) (show n-i<=n by omega);rw[zbd,zbd]at this;grind
 refine q9 (zga h1) ?_;have h2: ∀i,i<=n->α i*(sQ β n-sQ β (n-i))<=d*α i+B*(if i<=n-N2 then 0 else α i):=fun i hi=>by
  have h0:=ha.nn i;by_cases c:i<=n-N2
  ·rw[if_pos c];have h3:=hN2 (n-i) n (by omega) (by omega);have:=q3 h3 h0;grind
  ·rw[if_neg c];have h3:=hB' n;have h4:=zww (k:=n-i) fun j _=>hb.nn j
   have:=q3 (show sQ β n-sQ β (n-i)<=B by grind) h0;have:=q5 (qB q1) h0;grind
 refine q9 (zga h2) ?_;rw[zol,zbd,zbd];have h5:sQ (fun i=>if i<=n-N2 then 0 else α i) n=sQ α n-sQ α (n-N2):=by
  rw[←qa5 (f:=α) (k:=n-N2) (n:=n) (by omega),←zsw];refine zgb fun i _=>?_
  split<;>grind
 rw[h5];have h6:=hN1 (n-N2) n (by omega) (by omega);have h7:=q3 h6 hB;have h8:=q3 (hA' n) (qB q1);grind
theorem arch (q:Rat): ∃n:Nat,q<=(n:Rat):=by
 refine⟨(q.floor+1).toNat,?_⟩;have h1:=Rat.lt_floor_add_one q;have h2:((q.floor+1:Int):Rat)<=(((q.floor+1).toNat :Int):Rat):=Rat.intCast_le_intCast.2 (by omega);rw[Rat.intCast_natCast]at h2;grind
def rQ (u:Rat):Nat->Rat
 |0=>1
 |j+1=>rQ u j*u*(1/((j+1:Nat):Rat))
theorem zzi (j:Nat):(0:Rat)<=1/((j+1:Nat):Rat)/\(1:Rat)/((j+1:Nat):Rat)<=1:=by
 have h:(1:Rat)<=((j+1:Nat):Rat):=by
  have:=(q6 (a:=1) (b:=j+1)).2 (by omega);simpa using this
 have h3:(0:Rat)<((j+1:Nat):Rat)⁻¹ :=qI.2 (by grind);have h4:=qA ((j+1:Nat):Rat) (by grind);have h5:=qd h (qB h3);rw[qG,qH];exact⟨qB h3,by grind⟩
theorem rQ_s (u:Rat) (j:Nat):((j+1:Nat):Rat)*rQ u (j+1)=u*rQ u j:=by
 have h0:(0:Rat)<((j+1:Nat):Rat):=qE.2 (by omega);have h4:=qA ((j+1:Nat):Rat) (by grind);rw[show rQ u (j+1)=rQ u j*u*(1/((j+1:Nat):Rat))from rfl,qG,qH];generalize ((j+1:Nat):Rat)=c at*;generalize rQ u j=q;grind
theorem zm0 {u:Rat} (h:0<=u): ∀j,0<=rQ u j
 |0=>by unfold rQ;decide
 |j+1=>q5 (q5 (zm0 h j) h) (zzi j).1
theorem zh5 (u:Rat): ∀j,qx (rQ u j)=rQ (qx u) j
 |0=>qe2
 |j+1=>by
  unfold rQ;rw[zaz,zaz,zh5 u j,jh (zzi j).1]
theorem zs4 {u:Rat} (h:0<=u) {K:Nat} (hu:u*2<=((K+1:Nat):Rat)) {j:Nat} (hj:K<=j):rQ u (j+1)*2<=rQ u j:=by
 have h1:((K+1:Nat):Rat)<=((j+1:Nat):Rat):=q6.2 (by omega);have h0:(0:Rat)<((j+1:Nat):Rat):=qE.2 (by omega);have hm:=qA ((j+1:Nat):Rat) (by grind);have hi:(0:Rat)<=((j+1:Nat):Rat)⁻¹ :=qB (qI.2 h0);have h2:(u*2)*((j+1:Nat):Rat)⁻¹ <=1:=by
  have:=qd (q9 hu h1) hi;rw[hm]at this;exact this
 have h3:=q3 h2 (zm0 h j);rw[show rQ u (j+1)=rQ u j*u*(1/((j+1:Nat):Rat))from rfl,qG,qH];generalize ((j+1:Nat):Rat)⁻¹ =c at*;generalize rQ u j=q at*;grind
theorem zmz {u:Rat} (h:0<=u) {K:Nat} (hu:u*2<=((K+1:Nat):Rat)): ∀d:Nat,sQ (rQ u) (K+d)-sQ (rQ u) K<=rQ u K-rQ u (K+d)
 |0=>by rw[qJ,qD,qD];exact q4
 |d+1=>by
  have h1:=zmz h hu d;have h2:=zs4 h hu (j:=K+d) (by omega);show sQ (rQ u) (K+d)+rQ u (K+d+1)-sQ (rQ u) K<=rQ u K-rQ u (K+d+1);grind
theorem zy4 {u:Rat} (h:0<=u) {K:Nat} (hu:u*2<=((K+1:Nat):Rat)): ∀d:Nat,rQ u (K+d)*((d+1:Nat):Rat)<=rQ u K
 |0=>by
  rw[show((0+1:Nat):Rat)=1 from rfl];simp
 |d+1=>by
  have h1:=zy4 h hu d;have h2:=zs4 h hu (j:=K+d) (by omega);have h3:((d+1+1:Nat):Rat)<=2*((d+1:Nat):Rat):=by
   have:=(q6 (a:=d+1+1) (b:=2*(d+1))).2 (by omega);rw[Rat.natCast_mul]at this;exact this
  have h4:=q3 h3 (zm0 h (K+d+1));have h5:=qd h2 (ztq (d+1));show rQ u (K+d+1)*((d+1+1:Nat):Rat)<=rQ u K;grind
theorem zw2 {u:Rat}: ∃K:Nat,u*2<=((K+1:Nat):Rat):=by
 obtain⟨n,hn⟩:=arch (u*2);refine⟨n,q9 hn (q6.2 (by omega))⟩
theorem zw1 {u:Rat} (h:0<=u) {e:Rat} (he:0<e): ∃N:Nat,u*2<=((N+1:Nat):Rat)/\ ∀n,N<=n->rQ u n<=e:=by
 obtain⟨K,hK⟩:=zw2 (u:=u);obtain⟨m,hm⟩:=arch (rQ u K/e);have hB:rQ u K<=e*(m:Rat):=by
  have:=q3 hm (qB he);have h2:=qA e (by grind);rw[qG,show e*(rQ u K*e⁻¹)=rQ u K*(e*e⁻¹) by grind,h2,Rat.mul_one]at this;exact this
 have hK':u*2<=((K+m+1:Nat):Rat):=q9 hK (q6.2 (by omega));refine⟨K+m,hK',fun n hn=>?_⟩;obtain⟨d,rfl⟩:=q7 hn;have h1:=zy4 h hK (m+d);rw[←Nat.add_assoc]at h1;have h2:((m:Nat):Rat)<=((m+d+1:Nat):Rat):=q6.2 (by omega);have h3:=q3 h2 (qB he);have h4:rQ u (K+m+d)*((m+d+1:Nat):Rat)<=e*((m+d+1:Nat):Rat):=by grind
 exact qC h4 (qE.2 (by omega))
theorem zs5 {u:Rat} (h:0<=u):Smb (rQ u):=by
 refine⟨zm0 h,fun e he=>?_⟩;obtain⟨N,h1,h2⟩:=zw1 h he;refine⟨N,fun n hn=>?_⟩;obtain⟨d,rfl⟩:=q7 hn;have h3:=zmz h h1 d;have h4:=zm0 h (N+d);have h5:=h2 N (qn _);grind
theorem zok {f:Nat->Rat}: ∀ {k:Nat},sQ f (k+1)=f 0+sQ (fun i=>f (i+1)) k
 |0=>rfl
 |k+1=>by
  show sQ f (k+1)+f (k+1+1)=f 0+(sQ (fun i=>f (i+1)) k+f (k+1+1));rw[zok];grind
theorem zy5 (x y:Rat): ∀k:Nat,sQ (fun i=>rQ x i*rQ y (k-i)) k=rQ (x+y) k
 |0=>by exact qH 1
 |k+1=>by
  have ih:=zy5 x y k;have h0:(0:Rat)<((k+1:Nat):Rat):=qE.2 (by omega);have hs:=rQ_s (x+y) k;have key:((k+1:Nat):Rat)*sQ (fun i=>rQ x i*rQ y (k+1-i)) (k+1)=(x+y)*sQ (fun i=>rQ x i*rQ y (k-i)) k:=by
   rw[←zbd];have e1:sQ (fun i=>((k+1:Nat):Rat)*(rQ x i*rQ y (k+1-i))) (k+1)=sQ (fun i=>(i:Rat)*(rQ x i*rQ y (k+1-i))+((k+1-i:Nat):Rat)*(rQ x i*rQ y (k+1-i))) (k+1):=zgb fun i hi=>by
    have:((k+1:Nat):Rat)=(i:Rat)+((k+1-i:Nat):Rat):=by rw[←Rat.natCast_add];congr 1;omega
    rw[this];grind
   rw[e1,zol];have e2:sQ (fun i=>(i:Rat)*(rQ x i*rQ y (k+1-i))) (k+1)=x*sQ (fun i=>rQ x i*rQ y (k-i)) k:=by
    rw[zok,←zbd];have:sQ (fun i=>((i+1:Nat):Rat)*(rQ x (i+1)*rQ y (k+1-(i+1)))) k=sQ (fun i=>x*(rQ x i*rQ y (k-i))) k:=zgb fun i hi=>by
     have h1:=rQ_s x i;rw[show k+1-(i+1)=k-i by omega];grind
    rw[this];rw[show((0:Nat):Rat)=0 from rfl,qM,Rat.zero_add]
   have e3:sQ (fun i=>((k+1-i:Nat):Rat)*(rQ x i*rQ y (k+1-i))) (k+1)=y*sQ (fun i=>rQ x i*rQ y (k-i)) k:=by
    show sQ (fun i=>((k+1-i:Nat):Rat)*(rQ x i*rQ y (k+1-i))) k+((k+1-(k+1):Nat):Rat)*(rQ x (k+1)*rQ y (k+1-(k+1)))=_;rw[qK,show((0:Nat):Rat)=0 from rfl,qM,qL,←zbd];exact zgb fun i hi=>by
     have h1:=rQ_s y (k-i);rw[show k+1-i=k-i+1 by omega];grind
   rw[e2,e3];grind
  rw[ih,←hs]at key;have:=q4 (a:=((k+1:Nat):Rat)*sQ (fun i=>rQ x i*rQ y (k+1-i)) (k+1));refine zjk (qC (c:=((k+1:Nat):Rat)) ?_ h0) (qC (c:=((k+1:Nat):Rat)) ?_ h0)<;>grind
def eS (x:Rat) (n:Nat):Rat:=sQ (rQ x) n
theorem zzr (x:Rat):Bnd (eS x):=(zs5 (wd x)).of fun i=>by rw[zh5];exact q4
theorem zu1 (x y:Rat):Nul fun n=>eS x n*eS y n-eS (x+y) n:=by
 have h:=qg5 (f:=fun i j=>rQ x i*rQ y j) (zs5 (wd x)) (zs5 (wd y)) fun i j=>by rw[zaz,zh5,zh5];exact q4
 refine h.cg fun n=>?_
 have e1:sQ (fun i=>sQ (fun j=>rQ x i*rQ y j) n) n=eS x n*eS y n:=by
  have:(fun i=>sQ (fun j=>rQ x i*rQ y j) n)=fun i=>eS y n*rQ x i:=by
   funext i;rw[zbd];unfold eS;grind
  rw[this,zbd];unfold eS;grind
 have e2:trQ (fun i j=>rQ x i*rQ y j) n=eS (x+y) n:=by
  unfold trQ eS;exact zgb fun k _=>zy5 x y k
 rw[e1,e2]
theorem qcl {x:Rat} {K:Nat} (hu:qx x*2<=((K+1:Nat):Rat)) {n:Nat} (hn:K<=n):qx (eS x n-eS x K)<=rQ (qx x) K:=by
 obtain⟨d,rfl⟩:=q7 hn;have h1:=qa4 (f:=rQ x) (g:=rQ (qx x)) (fun i=>by rw[zh5];exact q4) K d;have h2:=zmz (wd x) hu d;have h3:=zm0 (wd x) (K+d);unfold eS;grind
theorem qgu {d:Rat} (h:0<=d) (n:Nat):1<=eS d n:=qeu (f:=rQ d) (fun i _=>zm0 h i) 0 (Nat.zero_le _)
theorem eS_lo (x:Rat) {e:Rat} (he:0<e): ∃N:Nat,∀n,N<=n-> -e<=eS x n:=by
 have h:=zu1 (x/2) (x/2);obtain⟨N,hN⟩:=h e he;refine⟨N,fun n hn=>?_⟩;have h1:=hN n hn;simp only[show x/2+x/2=x by grind]at h1;have h2:0<=eS (x/2) n*eS (x/2) n:=by
  rcases qF (a:=0) (b:=eS (x/2) n)with c|c
  ·exact q5 c c
  ·have:=q5 (show 0<= -eS (x/2) n by grind) (show 0<= -eS (x/2) n by grind);grind
 have h3:=ug (eS (x/2) n*eS (x/2) n-eS x n);grind
theorem zu0 {x y:Rat} (h:x<=y) {e:Rat} (he:0<e): ∃N:Nat,∀n,N<=n->eS x n<=eS y n+e:=by
 obtain⟨C,hC,hC'⟩:=zzr (y-x);obtain⟨p1,p2⟩:=zat he;obtain⟨q1,q2⟩:=zdu p1 hC;obtain⟨N,hN⟩:=eS_lo x q1;obtain⟨M,hM⟩:=zu1 x (y-x) _ p1;refine⟨N+M,fun n hn=>?_⟩;have h1:=hN n (by omega);have h2:=hM n (by omega);have h3:=ug (eS x n*eS (y-x) n-eS (x+(y-x)) n);rw[show x+(y-x)=y by grind]at h2 h3;have h4:=qgu (show 0<=y-x by grind) n;have h5:=(ug (eS (y-x) n)).2;have h6:=hC' n;generalize e/2/(C+1)=d at*;have h7:=q5 (show 0<=eS x n+d by grind) (show 0<=eS (y-x) n-1 by grind);have h8:=q3 (show eS (y-x) n-1<=C by grind) (qB q1);grind
def lI (s:Nat->Rat) (x:Iv):Prop:= ∀e:Rat,0<e-> ∃N:Nat,∀n,N<=n-> ∃q,inI q x/\qx (s n-q)<=e
theorem zq5 {s:Nat->Rat} {x:Iv} (N:Nat) (h: ∀n,N<=n->inI (s n) x):lI s x:=fun e he=>⟨N,fun n hn=>⟨s n,h n hn,by rw[qD,zkx];grind⟩⟩
theorem qfy {q:Rat} {x:Iv} (h:inI q x):lI (fun _=>q) x:=zq5 0 fun _ _=>h
theorem lI.nul {s t:Nat->Rat} {x:Iv} (h:lI s x) (hn:Nul fun n=>s n-t n):lI t x:=fun e he=>by
 obtain⟨h1,h2⟩:=zat he;obtain⟨N,hN⟩:=h _ h1;obtain⟨M,hM⟩:=hn _ h1;refine⟨N+M,fun n hk=>?_⟩;obtain⟨q,hq,hd⟩:=hN n (by omega);have h3:=hM n (by omega);refine⟨q,hq,?_⟩;have h4:=zoo (s n-q) (s n-t n);rw[show s n-q-(s n-t n)=t n-q by grind]at h4;grind
theorem qfz {s t:Nat->Rat} {x y:Iv} (hx:VI x) (hy:VI y) {p:Int} (hp:pcB p=true) (hs:lI s x) (ht:lI t y):lI (fun n=>s n+t n) (uk x y p):=fun e he=>by
 obtain⟨h1,h2⟩:=zat he;obtain⟨N,hN⟩:=hs _ h1;obtain⟨M,hM⟩:=ht _ h1;refine⟨N+M,fun n hk=>?_⟩;obtain⟨q,hq,hd⟩:=hN n (by omega);obtain⟨r,hr,hc⟩:=hM n (by omega);refine⟨q+r,zhg hx hy hp hq hr,?_⟩;have h4:=yq (s n-q) (t n-r);rw[show s n-q+(t n-r)=s n+t n-(q+r) by grind]at h4;grind
theorem qfx {s t:Nat->Rat} {x y:Iv} (hx:VI x) (hy:VI y) {p:Int} (hp:pcB p=true) (hs:lI s x) (ht:lI t y) (bs:Bnd s) (bt:Bnd t):lI (fun n=>s n*t n) (zac x y p):=fun e he=>by
 obtain⟨B,hB,hB'⟩:=bs;obtain⟨C,hC,hC'⟩:=bt;obtain⟨d,d0,d1,d2⟩: ∃d:Rat,0<d/\d<=1/\(B+C+1)*d<=e:=by
  obtain⟨q1,q2⟩:=zdu he (show 0<=B+C+1 by grind);rcases qF (a:=e/(B+C+1+1)) (b:=1)with c|c
  ·exact⟨_,q1,c,q2⟩
  ·refine⟨1,by decide,q4,?_⟩;have:=q3 c (show 0<=B+C+1 by grind);grind
 obtain⟨N,hN⟩:=hs d d0;obtain⟨M,hM⟩:=ht d d0;refine⟨N+M,fun n hk=>?_⟩;obtain⟨q,hq,hd⟩:=hN n (by omega);obtain⟨r,hr,hc⟩:=hM n (by omega);refine⟨q*r,zoz hx hy hp hq hr,?_⟩;have e1:s n*t n-q*r=(s n-q)*t n+q*(t n-r):=by grind
 have h3:=yq ((s n-q)*t n) (q*(t n-r));rw[zaz,zaz]at h3;have hq1:qx q<=B+1:=by
  have h4:=zoo (s n) (s n-q);rw[show s n-(s n-q)=q by grind]at h4;have:=hB' n;grind
 have h5:=zb2 (wd (s n-q)) hd (wd (t n)) (hC' n);have h6:=zb2 (wd q) hq1 (wd (t n-r)) hc;rw[e1];grind
theorem qb5 {s:Nat->Rat} {x y:Iv} (hi: ∀q,inI q x->inI q y) (h:lI s x):lI s y:=fun e he=>by
 obtain⟨N,hN⟩:=h e he;refine⟨N,fun n hn=>?_⟩;obtain⟨q,hq,hd⟩:=hN n hn;exact⟨q,hi q hq,hd⟩
theorem zxi {s:Nat->Rat} {x:Iv} (h:lI s x) (ha:x.all=false) {e:Rat} (he:0<e): ∃N:Nat,∀n,N<=n->dv x.lo-e<=s n/\s n<=dv x.hi+e:=by
 obtain⟨N,hN⟩:=h e he;refine⟨N,fun n hn=>?_⟩;obtain⟨q,hq,hd⟩:=hN n hn;rcases hq with c|⟨h1,h2⟩
 ·rw[ha]at c;cases c
 have h3:=ug (s n-q);constructor<;>grind
theorem qb6 {s:Nat->Rat} {x:Iv} (hle:dv x.lo<=dv x.hi) (h: ∀e:Rat,0<e-> ∃N:Nat,∀n,N<=n->dv x.lo-e<=s n/\s n<=dv x.hi+e):lI s x:=fun e he=>by
 obtain⟨N,hN⟩:=h e he;refine⟨N,fun n hn=>?_⟩;obtain⟨h1,h2⟩:=hN n hn;rcases qF (a:=s n) (b:=dv x.lo)with c|c
 ·exact⟨dv x.lo,.inr ⟨q4,hle⟩,zeg.2 ⟨by grind,by grind⟩⟩
 ·rcases qF (a:=s n) (b:=dv x.hi)with d|d
  ·exact⟨s n,.inr ⟨c,d⟩,by rw[qD,zkx];grind⟩
  ·exact⟨dv x.hi,.inr ⟨hle,q4⟩,zeg.2 ⟨by grind,by grind⟩⟩
theorem zzh {a b:Rat} (h: ∀e:Rat,0<e->a<=b+e):a<=b:=by
 rcases qF (a:=a) (b:=b)with c|c
 ·exact c
 ·by_cases k:0<a-b
  ·have:=h ((a-b)/2) (zat k).1;grind
  ·grind
theorem zcp (n:Int):inI (n:Rat) (whI n):= .inr (by
 have e:dv (whI n).lo =(n:Rat):=jr n;have e':dv (whI n).hi =(n:Rat):=jr n;rw[e,e'];exact⟨q4,q4⟩)
theorem zbe {x:Iv} (hx:VI x) {p:Int} {q:Rat} (hq:inI q x):inI q (qm x p):=by
 unfold qm;split
 ·rename_i c;have k:=(zp hx.ri).1 c.1;rcases hq with hq|hq
  ·rw[k.all]at hq;cases hq
  exact qa8 (jm k.lo (qr c.2)) (jm k.hi (qr c.2)) hq.1 hq.2
 ·exact zv2 _
theorem zji {x:Iv} (hx:VI x) {j:Int} {q:Rat} (h:inI q x):inI (q*pw j) (wh x j):=by
 unfold wh;by_cases c:kB x=true
 ·rw[if_pos c];have k:=(zp hx.ri).1 c;rcases h with e|⟨h1,h2⟩
  ·rw[k.all]at e;cases e
  cases ha:(wa (vj x.lo j) (vj x.hi j)).all with
  |true=>exact .inl ha
  |false=>
   obtain⟨o1,o2⟩:=uw.1 ha;right;rw[yg ha];have e1:=zb0 o1;have e2:=zb0 o2;show dv (vj x.lo j).1<=_/\_<=dv (vj x.hi j).1;rw[e1,e2];exact⟨qv h1 (zeh j),qv h2 (zeh j)⟩
 ·rw[if_neg c];exact zv2 _
end Go.Proofs.YtbolipecnhlnnaaGreatDoor
