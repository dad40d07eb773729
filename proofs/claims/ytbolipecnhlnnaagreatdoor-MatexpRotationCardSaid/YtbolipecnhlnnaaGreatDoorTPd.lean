/- Cosine and sine as series: entries of the exponential function of a quarter turn; plain. -/
import Derived.Test.YtbolipecnhlnnaaGreatDoorTMa
import Derived.Test.YtbolipecnhlnnaaGreatDoorTXg
import Derived.Test.YtbolipecnhlnnaaGreatDoorTNk
import Derived.Test.YtbolipecnhlnnaaGreatDoorTNl
set_option linter.unusedVariables false
set_option linter.unusedSimpArgs false
open List renaming not_mem_nil->q6,mem_cons->q7
open Nat renaming pow_le_pow_right->qA,div_add_mod->qB,div_mul_le_self->qC,lt_of_lt_of_le->qD,le_of_lt->qH,two_pow_pos->qJ,mod_lt->qK,mul_comm->qL,le_trans->qM
open Rat renaming mul_le_mul_of_nonneg_left->q1,mul_le_mul_of_nonneg_right->q2,le_of_lt->q3,le_trans->q4,le_refl->q5,mul_nonneg->q8,mul_comm->q9,zero_mul->qE,sub_self->qF,mul_zero->qG,mul_one->qI,one_mul->qN
namespace Go.Proofs.YtbolipecnhlnnaaGreatDoor
open Go Go.Sx
set_option maxRecDepth 100000
set_option maxHeartbeats 4000000
def jQ (a b:Nat):Rat:=if a=0 then(if b=0 then 0 else-1)else if b=0 then 1 else 0
def cU:Nat->Rat×Rat
 |0=>(1,0)
 |n+1=>(-(cU n).2,(cU n).1)
theorem pJ: ∀n,pQ 1 jQ n 0 0=(cU n).1/\pQ 1 jQ n 0 1= -(cU n).2/\pQ 1 jQ n 1 0=(cU n).2/\pQ 1 jQ n 1 1=(cU n).1
 |0=>⟨rfl,rfl,rfl,rfl⟩
 |n+1=>by
  obtain⟨h1,h2,h3,h4⟩:=pJ n;refine⟨?_,?_,?_,?_⟩
  .show pQ 1 jQ n 0 0*0+pQ 1 jQ n 0 1*1= -(cU n).2;rw[h1,h2];grind
  .show pQ 1 jQ n 0 0*(-1)+pQ 1 jQ n 0 1*0= -(cU n).1;rw[h1,h2];grind
  .show pQ 1 jQ n 1 0*0+pQ 1 jQ n 1 1*1=(cU n).1;rw[h3,h4];grind
  .show pQ 1 jQ n 1 0*(-1)+pQ 1 jQ n 1 1*0= -(cU n).2;rw[h3,h4];grind
theorem zu3: ∀n,zk (cU n).1<=1/\zk (cU n).2<=1
 |0=>⟨by decide,by decide⟩
 |n+1=>by
  obtain⟨h1,h2⟩:=zu3 n;exact⟨by show zk (-(cU n).2)<=1;rw[qg];exact h2,h1⟩
theorem zz7: ∀k,(k % 4=0->cU k=(1,0))/\(k % 4=1->cU k=(0,1))/\(k % 4=2->cU k=(-1,0))/\(k % 4=3->cU k=(0,-1))
 |0=>⟨fun _=>rfl,fun h=>absurd h (by decide),fun h=>absurd h (by decide),fun h=>absurd h (by decide)⟩
 |k+1=>by
  obtain⟨h0,h1,h2,h3⟩:=zz7 k;refine⟨fun h=>?_,fun h=>?_,fun h=>?_,fun h=>?_⟩
  .show(-(cU k).2,(cU k).1)=_;rw[h3 (by omega)];rfl
  .show(-(cU k).2,(cU k).1)=_;rw[h0 (by omega)];rfl
  .show(-(cU k).2,(cU k).1)=_;rw[h1 (by omega)]
  .show(-(cU k).2,(cU k).1)=_;rw[h2 (by omega)];rfl
def vS (v:Nat->Rat) (q:Rat) (n:Nat):Rat:=sQ (fun i=>rQ q i*v i) n
def cS (q:Rat) (n:Nat):Rat:=vS (fun i=>(cU i).1) q n
def sS (q:Rat) (n:Nat):Rat:=vS (fun i=>(cU i).2) q n
theorem qao {v:Nat->Rat} (hv: ∀i,zk (v i)<=1) {q:Rat} {K:Nat} (hu:zk q*2<=((K+1:Nat):Rat)) {n:Nat} (hn:K<=n):zk (vS v q n-vS v q K)<=rQ (zk q) K:=by
 obtain⟨d,rfl⟩:=Nat.exists_eq_add_of_le hn;have h1:=qbc (f:=fun i=>rQ q i*v i) (g:=rQ (zk q)) (fun i=>by
  rw[zaa,zlb];have:=q1 (hv i) (zhz (zz q) i);grind) K d
 have h2:=znb (zz q) hu d;have h3:=zhz (zz q) (K+d);unfold vS;grind
theorem qds (q:Rat) (n:Nat):xQ 1 jQ q n 0 0=cS q n:=ue fun i _=>by rw[(pJ i).1]
theorem qdr (q:Rat) (n:Nat):xQ 1 jQ q n 1 0=sS q n:=ue fun i _=>by rw[(pJ i).2.2.1]
theorem xJ11 (q:Rat) (n:Nat):xQ 1 jQ q n 1 1=cS q n:=ue fun i _=>by rw[(pJ i).2.2.2]
theorem xJ01 (q:Rat) (n:Nat):xQ 1 jQ q n 0 1= -sS q n:=by
 have e:xQ 1 jQ q n 0 1=sQ (fun i=> -1*(rQ q i*(cU i).2)) n:=ue fun i _=>by rw[(pJ i).2.1];grind
 rw[e,jg];show-1*sS q n=_;grind
theorem qek {A:Nat->Nat->Rat} {w:Rat} (hA: ∀a b,a<=1->b<=1->A a b=w*jQ a b) {a b:Nat} (ha:a<=1) (hb:b<=1) (t:Rat) (n:Nat):xQ 1 A t n a b=xQ 1 jQ (t*w) n a b:=by
 have hp: ∀i b,b<=1->pQ 1 A i a b=rpw w i*pQ 1 jQ i a b:=fun i=>by
  induction i with
  |zero=>intro b hb;show dlt a b=1*dlt a b;grind
  |succ i ih=>
   intro b hb;show pQ 1 A i a 0*A 0 b+pQ 1 A i a 1*A 1 b=rpw w i*w*(pQ 1 jQ i a 0*jQ 0 b+pQ 1 jQ i a 1*jQ 1 b);rw[ih 0 (by decide),ih 1 (by decide),hA 0 b (by decide) hb,hA 1 b (by decide) hb];grind
 exact ue fun i _=>by rw[hp i b hb,<-Rat.mul_assoc,zla]
theorem nJ:nQ 1 jQ 1:=fun i hi=>by
 have:i=0\/i=1:=by omega
 rcases this with rfl|rfl
 .show zk 0+zk (-1)<=1;rw[qg,zcm,zos];grind
 .show zk 1+zk 0<=1;rw[zcm,zos];grind
theorem qc6 (x y:Rat):Nul fun n=>cS x n*cS y n-sS x n*sS y n-cS (x+y) n:=
 (zrg nJ (a:=0) (b:=0) (by decide) (by decide) x y).cg fun n=>by
   show xQ 1 jQ x n 0 0*xQ 1 jQ y n 0 0+xQ 1 jQ x n 0 1*xQ 1 jQ y n 1 0-xQ 1 jQ (x+y) n 0 0=_;rw[qds,qds,qds,xJ01,qdr];grind
theorem qe9 (x y:Rat):Nul fun n=>sS x n*cS y n+cS x n*sS y n-sS (x+y) n:=
 (zrg nJ (a:=1) (b:=0) (by decide) (by decide) x y).cg fun n=>by
   show xQ 1 jQ x n 1 0*xQ 1 jQ y n 0 0+xQ 1 jQ x n 1 1*xQ 1 jQ y n 1 0-xQ 1 jQ (x+y) n 1 0=_;rw[qdr,qds,xJ11,qdr,qdr]
theorem par (x:Rat): ∀i,rQ (-x) i*(cU i).1=rQ x i*(cU i).1/\rQ (-x) i*(cU i).2= -(rQ x i*(cU i).2)
 |0=>⟨rfl,by show(1:Rat)*0= -(1*0);grind⟩
 |i+1=>by
  obtain⟨h1,h2⟩:=par x i;constructor
  .show rQ (-x) i* -x*(1/((i+1:Nat):Rat))* -(cU i).2=rQ x i*x*(1/((i+1:Nat):Rat))* -(cU i).2;generalize 1/((i+1:Nat):Rat)=c;grind
  .show rQ (-x) i* -x*(1/((i+1:Nat):Rat))*(cU i).1= -(rQ x i*x*(1/((i+1:Nat):Rat))*(cU i).1);generalize 1/((i+1:Nat):Rat)=c;grind
theorem zu4 (x:Rat) (n:Nat):cS (-x) n=cS x n:=ue fun i _=>(par x i).1
theorem zsk (x:Rat) (n:Nat):sS (-x) n= -sS x n:=by
 have e:sS (-x) n=sQ (fun i=> -1*(rQ x i*(cU i).2)) n:=ue fun i _=>by rw[(par x i).2];grind
 rw[e,jg];show-1*sS x n=_;grind
theorem cS_0 (n:Nat):cS 0 n=1:=by rw[<-qds,zmr];rfl
theorem sS_0 (n:Nat):sS 0 n=0:=by rw[<-qdr,zmr];rfl
def Evt (P:Nat->Prop):Prop:= ∃K:Nat,∀n,K<=n->P n
theorem Evt.and {P Q:Nat->Prop} (h:Evt P) (g:Evt Q):Evt fun n=>P n/\Q n:=by
 obtain⟨K,hK⟩:=h;obtain⟨L,hL⟩:=g;exact⟨K+L,fun n hn=>⟨hK n (by omega),hL n (by omega)⟩⟩
theorem Evt.mono {P Q:Nat->Prop} (h:Evt P) (g: ∀n,P n->Q n):Evt Q:=by
 obtain⟨K,hK⟩:=h;exact⟨K,fun n hn=>g n (hK n hn)⟩
theorem qfs (x:Rat) {e:Rat} (he:0<e):Evt fun n=>cS x n*cS x n+sS x n*sS x n<=1+e:=by
 obtain⟨K,hK⟩:=qc6 x (-x) e he;refine⟨K,fun n hn=>?_⟩;have h:=hK n hn;simp only[zu4,zsk,show x+ -x=0 by grind,cS_0]at h;have:=zas (cS x n*cS x n-sS x n* -sS x n-1);grind
theorem zv4 (a:Rat):0<=a*a:=by
 rcases Rat.le_total (a:=0) (b:=a)with c|c
 .exact q8 c c
 .have:=q8 (show 0<= -a by grind) (show 0<= -a by grind);grind
theorem zsv (a:Rat):zk a*zk a=a*a:=by rw[<-zaa,vd (zv4 a)]
theorem zz5 (x:Rat) {e:Rat} (he:0<e):Evt fun n=>zk (cS x n)<=1+e/\zk (sS x n)<=1+e:=
 (qfs x he).mono fun n h=>by
   have h1:=zv4 (cS x n);have h2:=zv4 (sS x n);have h3:1+e<=(1+e)*(1+e):=by
    have:=zv4 e;grind
   exact⟨zyt (by grind) (by rw[zsv];grind),zyt (by grind) (by rw[zsv];grind)⟩
theorem zz4 (x:Rat):Evt fun n=>zk (cS x n)<=2/\zk (sS x n)<=2:=(zz5 x (e:=1) (by decide)).mono fun n h=>by
 constructor<;>grind
theorem zxz {d:Rat} (hd:zk d<=1):Evt fun n=>zk (cS d n-1)<=zk d/\zk (sS d n)<=2*zk d:=by
 refine⟨1,fun n hn=>?_⟩;have hu:zk d*2<=((1+1:Nat):Rat):=by
  show zk d*2<=(2:Rat);grind
 have h1:=qao (v:=fun i=>(cU i).1) (fun i=>(zu3 i).1) hu hn;have h2:=qao (v:=fun i=>(cU i).2) (fun i=>(zu3 i).2) hu hn;have e0: ∀u:Rat,rQ u 1=u:=fun u=>by
  show 1*u*(1/((0+1:Nat):Rat))=u;rw[show(1/((0+1:Nat):Rat):Rat)=1 by decide+kernel];grind
 have e1:vS (fun i=>(cU i).1) d 1=1:=by
  show 1*1+rQ d 1*(-0)=(1:Rat);grind
 have e2:vS (fun i=>(cU i).2) d 1=d:=by
  show 1*0+rQ d 1*1=d;rw[e0];grind
 rw[e0]at h1 h2;rw[e1]at h1;rw[e2]at h2;refine⟨h1,?_⟩;have:=jb (vS (fun i=>(cU i).2) d n-d) d;rw[show vS (fun i=>(cU i).2) d n-d+d=sS d n by unfold sS;grind]at this;grind
theorem uk {a b x y:Rat} (h1:zk a<=x) (h2:zk b<=y):zk (a*b)<=x*y:=by
 rw[zaa];have h3:=zz a;have h4:=zz b;have h5:=q2 h1 h4;have h6:=q1 h2 (q4 h3 h1);grind
theorem qdv {a b c d u v w:Rat} (h1:zk a<=u) (h2:zk b<=v) (h3:zk c<=w) (e:d=a+b+c):zk d<=u+v+w:=by
 have h4:=jb (a+b) c;have h5:=jb a b;rw[e];grind
theorem zx0 (x:Rat) {d e:Rat} (hd:zk d<=1) (he:0<e):Evt fun n=>zk (cS (x+d) n-cS x n)<=6*zk d+e/\zk (sS (x+d) n-sS x n)<=6*zk d+e:=by
 have h1:Evt fun n=>zk (cS x n*cS d n-sS x n*sS d n-cS (x+d) n)<=e:=qc6 x d e he
 have h2:Evt fun n=>zk (sS x n*cS d n+cS x n*sS d n-sS (x+d) n)<=e:=qe9 x d e he
 refine(((h1.and h2).and (zz4 x)).and (zxz hd)).mono fun n h=>?_
 obtain⟨⟨⟨a1,a2⟩,b1,b2⟩,c1,c2⟩:=h;rw[<-qg]at a1 a2;constructor
 .have:=qdv a1 (uk b1 c1) (uk (x:=2) (y:=2*zk d) (a:= -sS x n) (by rw[qg];exact b2) c2) (d:=cS (x+d) n-cS x n) (by grind);grind
 .have:=qdv a2 (uk b2 c1) (uk b1 c2) (d:=sS (x+d) n-sS x n) (by grind);grind
def pS (k:Nat) (s c:Rat):Rat:=if k % 4=1 then c else if k % 4=2 then-s else if k % 4=3 then-c else s
theorem pS_2 (k:Nat) (s c:Rat):pS (k+1+1) s c= -(pS k s c):=by
 have:k % 4=0\/k % 4=1\/k % 4=2\/k % 4=3:=by omega
 unfold pS;rcases this with h|h|h|h<;>simp[show(k+1+1) % 4=(k % 4+2) % 4 by omega,h]<;>grind
theorem zuu {h f:Rat} (hf:0<f) (hh:Evt fun n=>zk (cS h n)<=f/\zk (sS h n-1)<=f) (z:Rat): ∀k:Nat,
 Evt fun n=>zk (sS (k*h+z) n-pS k (sS z n) (cS z n))<=k*(5*f)/\zk (cS (k*h+z) n-pS (k+1) (sS z n) (cS z n))<=k*(5*f)
 |0=>⟨0,fun n _=>by
  rw[show((0:Nat):Rat)=0 from rfl,qE,Rat.zero_add,qE];show zk (sS z n-sS z n)<=0/\zk (cS z n-cS z n)<=0;rw[qF,qF,zcm];exact⟨q5,q5⟩⟩
 |k+1=>by
  have ih:=zuu hf hh z k;have h1:Evt fun n=>zk (cS h n*cS (k*h+z) n-sS h n*sS (k*h+z) n-cS (h+(k*h+z)) n)<=f:=qc6 h (k*h+z) f hf
  have h2:Evt fun n=>zk (sS h n*cS (k*h+z) n+cS h n*sS (k*h+z) n-sS (h+(k*h+z)) n)<=f:=qe9 h (k*h+z) f hf
  refine((((h1.and h2).and (zz4 (k*h+z))).and hh).and ih).mono fun n H=>?_
  obtain⟨⟨⟨⟨a1,a2⟩,b1,b2⟩,c1,c2⟩,d1,d2⟩:=H;have e:((k+1:Nat):Rat)=k+1:=Rat.natCast_add k 1;have eh:((k+1:Nat):Rat)*h+z=h+(k*h+z):=by rw[e];grind
  have ef:((k+1:Nat):Rat)*(5*f)=k*(5*f)+5*f:=by rw[e];grind
  rw[eh,ef,pS_2];generalize (k:Rat)*(5*f)=g at*;generalize (k:Rat)*h+z=y at*;rw[<-qg]at a1 a2;constructor
  .have h5:=qdv a2 (uk c2 b1) (uk c1 b2) (d:=sS (h+y) n-cS y n) (by grind);have h6:=jb (sS (h+y) n-cS y n) (cS y n-pS (k+1) (sS z n) (cS z n));rw[show sS (h+y) n-cS y n+(cS y n-pS (k+1) (sS z n) (cS z n))=sS (h+y) n-pS (k+1) (sS z n) (cS z n) by grind]at h6;grind
  .have h5:=qdv a1 (uk c1 b1) (uk (a:= -(sS h n-1)) (by rw[qg];exact c2) b2) (d:=cS (h+y) n- -sS y n) (by grind);have h6:=jb (cS (h+y) n- -sS y n) (-(sS y n-pS k (sS z n) (cS z n)));rw[qg,show cS (h+y) n- -sS y n+ -(sS y n-pS k (sS z n) (cS z n))=cS (h+y) n- -pS k (sS z n) (cS z n) by grind]at h6;grind
def sv (a:Fx):Rat:=if a.1=true then-(a.2:Rat)else(a.2:Rat)
theorem zvn (n:Nat):sv (true,n)= -(n:Rat):=rfl
theorem qa0 (n:Nat):sv (false,n)=(n:Rat):=rfl
theorem zfy {a b:Nat} (h:b<=a):((a-b:Nat):Rat)=a-b:=by
 have:=jx (a-b) b;rw[show a-b+b=a by omega]at this;grind
theorem zrz (a b:Fx):sv (je a b)=sv a+sv b:=by
 obtain⟨p,m⟩:=a;obtain⟨q,n⟩:=b;cases p<;>cases q
 .show((m+n:Nat):Rat)=m+n;exact jx m n
 .show sv (if m<n then(true,n-m)else(false,m-n))=sv (false,m)+sv (true,n);split
  .rw[zvn,qa0,zvn,zfy (by omega)];grind
  .rw[qa0,qa0,zvn,zfy (by omega)];grind
 .show sv (if m<n then(false,n-m)else(true,m-n))=sv (true,m)+sv (false,n);split
  .rw[qa0,qa0,zvn,zfy (by omega)];grind
  .rw[zvn,qa0,zvn,zfy (by omega)];grind
 .show-((m+n:Nat):Rat)= -(m:Rat)+ -(n:Rat);rw[jx];grind
theorem zv1 (a:Fx):sv (ngF a)= -(sv a):=by
 obtain⟨p,m⟩:=a;cases p
 .rfl
 .show(m:Rat)= - -(m:Rat);grind
theorem zyr (a:Fx):zk (sv a)=(a.2:Rat):=by
 obtain⟨p,m⟩:=a;cases p
 .exact vd (zcv m)
 .rw[zvn,qg];exact vd (zcv m)
theorem qe1 (a c:Fx):sv (a.1 != c.1,a.2*c.2)=sv a*sv c:=by
 obtain⟨p,m⟩:=a;obtain⟨q,n⟩:=c;cases p<;>cases q
 .show((m*n:Nat):Rat)=m*n;exact jk m n
 .show-((m*n:Nat):Rat)=m* -(n:Rat);rw[jk];grind
 .show-((m*n:Nat):Rat)= -(m:Rat)*n;rw[jk];grind
 .show((m*n:Nat):Rat)= -(m:Rat)* -(n:Rat);rw[jk];grind
theorem qe2 (p:Bool) (m n:Nat) (c:Rat):zk (sv (p,m)-sv (p,n)*c)=zk (m-n*c):=by
 cases p
 .rfl
 .rw[zvn,zvn,<-qg];congr 1;grind
theorem qfn {A D:Nat} {c:Rat} (hc:0<=c) (hD:c*(D:Rat)=1):zk (((A/D:Nat):Rat)-A*c)<=1:=by
 have hD0:0<D:=by
  rcases Nat.eq_zero_or_pos D with h|h
  .subst h;rw[show((0:Nat):Rat)=0 from rfl,qG]at hD;exact absurd hD (by decide)
  .exact h
 have h1:((A/D*D:Nat):Rat)<=(A:Rat):=ke.2 (qC A D);have h2:(A:Rat)<=((A/D*D+D:Nat):Rat):=ke.2 (by have:=qB A D;have:=qK A hD0;have:=qL D (A/D);omega);rw[jk]at h1;rw[jx,jk]at h2;have h3:=q1 h1 hc;have h4:=q1 h2 hc;generalize ((A/D:Nat):Rat)=n at*;have e:c*(n*D)=n:=by rw[show c*(n*D)=n*(c*D) by grind,hD,qI]
 refine wl.2 ⟨?_,?_⟩<;>grind
theorem zt1 (j:Nat):(1/((j+1:Nat):Rat))*((j+1:Nat):Rat)=1:=by
 have h0:(0:Rat)<((j+1:Nat):Rat):=Rat.natCast_pos.2 (by omega);have h4:=Rat.mul_inv_cancel ((j+1:Nat):Rat) (by grind);rw[Rat.div_def,qN,q9];exact h4
def tX (x:Fx) (b:Nat):Nat->Fx
 |0=>(false,2^b)
 |k+1=>byF (zj0 (tX x b k) x b) (k+1)
theorem qas (x:Fx) (b k:Nat) {u:Rat} (hu:0<u) (hub:u*((2^b:Nat):Rat)=1):zk (sv (tX x b (k+1))-sv (tX x b k)*sv x*(u*(1/((k+1:Nat):Rat))))<=1:=by
 rw[<-qe1,show tX x b (k+1)=((tX x b k).1 != x.1,(tX x b k).2*x.2/2^b/(k+1))from rfl,qe2,Nat.div_div_eq_div_mul];refine qfn (q8 (q3 hu) (ze8 k).1) ?_;have h:=zt1 k;rw[jk];generalize 1/((k+1:Nat):Rat)=i at*;rw[show u*i*(((2^b:Nat):Rat)*((k+1:Nat):Rat))=u*((2^b:Nat):Rat)*(i*((k+1:Nat):Rat)) by grind,hub,h,qN]
def eB:Nat->Rat
 |0=>0
 |1=>1
 |2=>3
 |3=>5
 | _=>6
theorem eB_6: ∀k,eB k<=6
 |0=>by decide
 |1=>by decide
 |2=>by decide
 |3=>by decide
 |k+4=>by show(6:Rat)<=6;decide
theorem qcu: ∀k,eB k*(4*(1/((k+1:Nat):Rat)))+1<=eB (k+1)
 |0=>by show(0:Rat)*(4*(1/((0+1:Nat):Rat)))+1<=1;decide+kernel
 |1=>by show(1:Rat)*(4*(1/((1+1:Nat):Rat)))+1<=3;decide+kernel
 |2=>by show(3:Rat)*(4*(1/((2+1:Nat):Rat)))+1<=5;decide+kernel
 |3=>by show(5:Rat)*(4*(1/((3+1:Nat):Rat)))+1<=6;decide+kernel
 |k+4=>by
  show(6:Rat)*(4*(1/((k+4+1:Nat):Rat)))+1<=6;have h:=zt1 (k+4);have h0:=(ze8 (k+4)).1;have h1:((5:Nat):Rat)<=((k+4+1:Nat):Rat):=ke.2 (by omega);have h2:=q1 h1 h0;rw[h]at h2;generalize 1/((k+4+1:Nat):Rat)=i at*;have h3:i*5<=1:=h2;grind
theorem zyj {x:Fx} {b:Nat} {u:Rat} (hu:0<u) (hub:u*((2^b:Nat):Rat)=1) (hx:x.2<=4*2^b):zk (sv x*u)<=4:=by
 rw[zaa,zyr,vd (q3 hu)];have h1:(x.2:Rat)<=((4*2^b:Nat):Rat):=ke.2 hx;rw[jk]at h1;have h2:=q2 h1 (q3 hu);rw[show((4:Nat):Rat)*((2^b:Nat):Rat)*u=((4:Nat):Rat)*(u*((2^b:Nat):Rat)) by grind,hub]at h2;have e:((4:Nat):Rat)*1=4:=qI _;rw[e]at h2;exact h2
theorem zyp {x:Fx} {b:Nat} {u:Rat} (hu:0<u) (hub:u*((2^b:Nat):Rat)=1) (hx:x.2<=4*2^b): ∀k,zk (sv (tX x b k)*u-rQ (sv x*u) k)<=eB k*u
 |0=>by
  show zk (((2^b:Nat):Rat)*u-1)<=0*u;rw[q9,hub,qF,zcm,qE];exact q5
 |k+1=>by
  have ih:=zyp hu hub hx k;have hs:=qas x b k hu hub;have h4:=zyj hu hub hx;have hi:=(ze8 k).1;have hb:=qcu k;show zk (sv (tX x b (k+1))*u-rQ (sv x*u) k*(sv x*u)*(1/((k+1:Nat):Rat)))<=_;generalize 1/((k+1:Nat):Rat)=i at*;have a1:=uk hs (show zk u<=u by rw[vd (q3 hu)];exact q5);have a2:=uk ih (uk h4 (show zk i<=i by rw[vd hi];exact q5));have a3:=q2 hb (q3 hu);have:=jb ((sv (tX x b (k+1))-sv (tX x b k)*sv x*(u*i))*u) ((sv (tX x b k)*u-rQ (sv x*u) k)*(sv x*u*i));rw[show(sv (tX x b (k+1))-sv (tX x b k)*sv x*(u*i))*u+(sv (tX x b k)*u-rQ (sv x*u) k)*(sv x*u*i)=sv (tX x b (k+1))*u-rQ (sv x*u) k*(sv x*u)*i by grind]at this;grind
theorem tX_z {x:Fx} {b j:Nat} (h:(tX x b j).2=0): ∀d,(tX x b (j+d)).2=0
 |0=>h
 |d+1=>by
  show(tX x b (j+d)).2*x.2/2^b/(j+d+1)=0;rw[tX_z h d];simp
def tS (v:Nat->Rat) (x:Fx) (b n:Nat):Rat:=sQ (fun i=>sv (tX x b i)*v i) n
theorem sv_z {a:Fx} (h:a.2=0):sv a=0:=by
 obtain⟨p,m⟩:=a;have h:m=0:=h;subst h;cases p<;>rfl
theorem tS_z {v:Nat->Rat} {x:Fx} {b m:Nat} (h:(tX x b (m+1)).2=0): ∀d,tS v x b (m+d)=tS v x b m
 |0=>rfl
 |d+1=>by
  show tS v x b (m+d)+sv (tX x b (m+d+1))*v (m+d+1)=_;have:=tX_z h d;rw[show m+1+d=m+d+1 by omega]at this;rw[tS_z h d,sv_z this];grind
theorem zm6 (x:Fx) (b:Nat): ∀(f m:Nat) (s c:Fx),sv s=tS (fun i=>(cU i).2) x b m->sv c=tS (fun i=>(cU i).1) x b m->
 sv (seG x b f (m+1) (tX x b m) s c).1=tS (fun i=>(cU i).2) x b (m+f)/\sv (seG x b f (m+1) (tX x b m) s c).2=tS (fun i=>(cU i).1) x b (m+f)
 |0,m,s,c,hs,hc=>⟨hs,hc⟩
 |f+1,m,s,c,hs,hc=>by
  simp only[seG];rw[show byF (zj0 (tX x b m) x b) (m+1)=tX x b (m+1)from rfl];have es:tS (fun i=>(cU i).2) x b (m+1)=tS (fun i=>(cU i).2) x b m+sv (tX x b (m+1))*(cU (m+1)).2:=rfl;have ec:tS (fun i=>(cU i).1) x b (m+1)=tS (fun i=>(cU i).1) x b m+sv (tX x b (m+1))*(cU (m+1)).1:=rfl;obtain⟨k0,k1,k2,k3⟩:=zz7 (m+1);split
  .rename_i hz;rw[tS_z hz,tS_z hz];exact⟨hs,hc⟩
  rw[show m+(f+1)=m+1+f by omega];split
  .rename_i h1;refine zm6 x b f (m+1) _ _ ?_ ?_
   .rw[zrz,es,hs]
    congr 1
    split
    .rw[zv1,k3 (by omega)];show _=_*(-1:Rat);grind
    .rw[k1 (by omega)];show _=_*(1:Rat);grind
   .rw[ec,hc];have:(cU (m+1)).1=0:=by
     by_cases h3:(m+1) % 4=3
     .rw[k3 h3]
     .rw[k1 (by omega)]
    rw[this];grind
  .rename_i h1;refine zm6 x b f (m+1) _ _ ?_ ?_
   .rw[es,hs];have:(cU (m+1)).2=0:=by
     by_cases h3:(m+1) % 4=2
     .rw[k2 h3]
     .rw[k0 (by omega)]
    rw[this];grind
   .rw[zrz,ec,hc]
    congr 1
    split
    .rw[zv1,k2 (by omega)];show _=_*(-1:Rat);grind
    .rw[k0 (by omega)];show _=_*(1:Rat);grind
theorem zy0 (C:Rat): ∀n:Nat,sQ (fun _=>C) n=((n+1:Nat):Rat)*C
 |0=>by show C=((0+1:Nat):Rat)*C;rw[show((0+1:Nat):Rat)=1 by decide];grind
 |n+1=>by
  show sQ _ n+C=_;rw[zy0 C n,jx (n+1) 1,show((1:Nat):Rat)=1 by decide];grind
theorem qe0 {x:Fx} {b:Nat} (hb:1<=b) (hx:x.2<=4*2^b):(tX x b (b+23)).2=0:=by
 have h: ∀k,k<=b+22->seB b (k+1) (tX x b k).2:=fun k=>by
  induction k with
  |zero=>intro _;exact⟨fun _=>Nat.pow_lt_pow_right (by decide) (by omega),fun c=>absurd c (by decide)⟩
  |succ k ih=>intro hk;exact zm5 hx (by omega) (by omega) (ih (by omega))
 have h1:=(h (b+22) (Nat.le_refl _)).2 (by omega);rw[show b+23-(b+22+1)=0 by omega]at h1;have h0:(tX x b (b+22)).2=0:=by omega
 exact tX_z h0 1
theorem zrv {v:Nat->Rat} (hv: ∀i,zk (v i)<=1) {x:Fx} {b:Nat} (hb:1<=b) (hx:x.2<=4*2^b) {u:Rat} (hu:0<u) (hub:u*((2^b:Nat):Rat)=1) {n:Nat} (hn:b+23<=n):
 zk (tS v x b (b+23)*u-vS v (sv x*u) n)<=((b+25:Nat):Rat)*(6*u):=by
 have h6: ∀k,zk (sv (tX x b k)*u-rQ (sv x*u) k)<=6*u:=fun k=>by
  have h1:=zyp hu hub hx k;have h2:=q2 (eB_6 k) (q3 hu);grind
 have e:tS v x b (b+23)*u-vS v (sv x*u) (b+23)=sQ (fun i=>(sv (tX x b i)*u-rQ (sv x*u) i)*v i) (b+23):=by
  rw[q9];unfold tS vS;rw[<-jg,<-zk5];exact ue fun i _=>by grind
 have h7:=zk6 (f:=fun i=>(sv (tX x b i)*u-rQ (sv x*u) i)*v i) (k:=b+23);have h8:=zcs (f:=fun i=>zk ((sv (tX x b i)*u-rQ (sv x*u) i)*v i)) (g:=fun _=>6*u) (k:=b+23) fun i _=>by
  have:=uk (h6 i) (hv i);grind
 rw[zy0]at h8;have h4:=zyj hu hub hx;have h9:=qao hv (q:=sv x*u) (K:=b+23) (by
  have:((8:Nat):Rat)<=((b+23+1:Nat):Rat):=ke.2 (by omega);have h8:(8:Rat)<=((b+23+1:Nat):Rat):=this;grind) hn
 have h10:rQ (zk (sv x*u)) (b+23)<=6*u:=by
  rw[<-zlb];have h:=h6 (b+23);rw[sv_z (qe0 hb hx)]at h;rw[show(0:Rat)*u-rQ (sv x*u) (b+23)= -rQ (sv x*u) (b+23) by grind,qg]at h;exact h
 have e2:((b+25:Nat):Rat)*(6*u)=((b+23+1:Nat):Rat)*(6*u)+6*u:=by
  rw[show b+25=b+23+1+1 by omega,jx (b+23+1) 1,show((1:Nat):Rat)=1 by decide];grind
 have h11:=jb (tS v x b (b+23)*u-vS v (sv x*u) (b+23)) (-(vS v (sv x*u) n-vS v (sv x*u) (b+23)));rw[qg,show tS v x b (b+23)*u-vS v (sv x*u) (b+23)+ -(vS v (sv x*u) n-vS v (sv x*u) (b+23))=tS v x b (b+23)*u-vS v (sv x*u) n by grind]at h11;rw[e]at h11;grind
theorem zsh {x:Fx} {b:Nat} (hb:1<=b) (hx:x.2<=4*2^b) {u:Rat} (hu:0<u) (hub:u*((2^b:Nat):Rat)=1) {n:Nat} (hn:b+23<=n):
 zk (sv (seF x b).1*u-sS (sv x*u) n)<=((b+25:Nat):Rat)*(6*u)/\zk (sv (seF x b).2*u-cS (sv x*u) n)<=((b+25:Nat):Rat)*(6*u):=by
 have h:=zm6 x b (b+23) 0 (false,0) (false,2^b) (by show(0:Rat)=((2^b:Nat):Rat)*0;grind) (by show((2^b:Nat):Rat)=((2^b:Nat):Rat)*1;grind);rw[show seG x b (b+23) (0+1) (tX x b 0) (false,0) (false,2^b)=seF x b from rfl,Nat.zero_add]at h;rw[h.1,h.2];exact⟨zrv (fun i=>(zu3 i).2) hb hx hu hub hn,zrv (fun i=>(zu3 i).1) hb hx hu hub hn⟩
def pH:Nat:=2841965444466924408439335490451014551979635760378065859052907430608897613017
def hQ:Rat:=(pH:Rat)*pw (-250)
theorem h_num:(seF (false,pH) 250).2.2<=4096/\(seF (false,pH) 250).1.1=false/\(seF (false,pH) 250).1.2<=2^250+4096/\2^250<=(seF (false,pH) 250).1.2+4096:=by decide+kernel
theorem qfq: ∀i:Fin 46,(piF (128+i.1)).2/2*2^(122-i.1)<=pH+4096*2^(122-i.1)/\pH<=(piF (128+i.1)).2/2*2^(122-i.1)+4096*2^(122-i.1)/\2^(128+i.1)<=(piF (128+i.1)).2/2:=by decide+kernel
theorem zs6 (b:Nat):pw (-(b:Int))*((2^b:Nat):Rat)=1:=by
 rw[<-qv,<-pwA,show-(b:Int)+(b:Int)=((0:Nat):Int) by omega,qv];rfl
def epQ:Rat:=pw (-236)
theorem h_ok:Evt fun n=>zk (cS hQ n)<=epQ/\zk (sS hQ n-1)<=epQ:=by
 obtain⟨h1,h2,h3,h4⟩:=h_num;have hu:=yg (-((250:Nat):Int));have hub:=zs6 250;refine⟨250+23,fun n hn=>?_⟩;obtain⟨s1,s2⟩:=zsh (x:=(false,pH)) (b:=250) (by decide) (by decide+kernel) hu hub hn;rw[show sv (false,pH)*pw (-((250:Nat):Int))=hQ from rfl]at s1 s2;have e1:sv (seF (false,pH) 250).1=((seF (false,pH) 250).1.2:Rat):=by unfold sv;rw[h2];rfl
 have a2:zk (sv (seF (false,pH) 250).2)<=4096:=by
  rw[zyr];have:=ke.2 h1;exact this
 rw[e1]at s1;generalize (seF (false,pH) 250).1.2=S at*;generalize sv (seF (false,pH) 250).2=C at*;have k1:=ke.2 h3;have k2:=ke.2 h4;rw[jx]at k1 k2;have e4:((4096:Nat):Rat)=4096:=rfl;rw[e4]at k1 k2;have ef:epQ=16384*pw (-((250:Nat):Int)):=by
  have:(16384:Rat)=pw ((14:Nat):Int):=(qv 14).symm;rw[this,<-pwA];rfl
 have e5:((250+25:Nat):Rat)=275:=rfl;rw[e5]at s1 s2;rw[ef];generalize ((2^250:Nat):Rat)=W at*;generalize pw (-((250:Nat):Int))=u at*;have m1:=q2 k1 (q3 hu);have m2:=q2 k2 (q3 hu);have m3:=uk a2 (show zk u<=u by rw[vd (q3 hu)];exact q5);obtain⟨p1,p2⟩:=wl.1 s1;obtain⟨p3,p4⟩:=wl.1 s2;obtain⟨p5,p6⟩:=wl.1 m3;refine⟨wl.2 ⟨?_,?_⟩,wl.2 ⟨?_,?_⟩⟩<;>grind
theorem mk_dv {neg:Bool} {n:Nat} {e:Int} (h:(mkN neg n e).2=0):dv (mkN neg n e).1=sv (neg,n)*pw e:=by
 unfold mkN at h⊢;split at h
 .exact absurd h (by decide)
 .rename_i c;rw[Z5 c];unfold ckN at h⊢;split at h
  .rename_i c2;rw[Z4 c2];show dv (cnN neg n e)=_;rw[zbe];cases neg
   .rfl
   .show-((n:Rat)*pw e)= -(n:Rat)*pw e;grind
  .exact absurd h (by decide)
theorem ne_in (a:Fx) (b p:Nat) (hp:8<=p/\p<=512) {q:Rat} (h:zk (sv a*pw (-(b:Int))-q)<=pw ((24:Nat):Int)*pw (-(b:Int))):inI q (neI a b p):=by
 unfold neI;split
 .exact zrh _
 .rename_i c;simp only[not_or,Decidable.not_not]at c;have e: ∀s,(neX a b s).2=0->dv (neX a b s).1=(sv a+sv (s,2^24))*pw (-(b:Int)):=fun s hs=>by
   have:=mk_dv (neg:=(je a (s,2^24)).1) (n:=(je a (s,2^24)).2) (e:= -(b:Int)) hs;rw[show((je a (s,2^24)).1,(je a (s,2^24)).2)=je a (s,2^24)from rfl,zrz]at this;exact this
  have l:=e true c.1;have r:=e false c.2;rw[zvn,<-qv]at l;rw[qa0,<-qv]at r;obtain⟨h1,h2⟩:=wl.1 h;exact qbj (F:=fun up=>vi (neX a b true).1 p up) (G:=fun up=>vi (neX a b false).1 p up) (jw (zyf _ _ _) hp) (jw (zyf _ _ _) hp) (show dv (neX a b true).1<=q by rw[l];grind) (show q<=dv (neX a b false).1 by rw[r];grind)
theorem qby (d:Dy) (c:Nat):vN (ofF d c).2 (-(c:Int))<=vN (nm d) d.e/\vN (nm d) d.e<=vN ((ofF d c).2+1) (-(c:Int)):=by
 unfold ofF;simp only;split
 .have e: -(c:Int)=d.e+((-(d.e+c)).toNat :Nat):=by omega
  rw[e,<-xv,<-xv];generalize (-(d.e+(c:Int))).toNat =k;have h0:=qJ k;generalize 2^k=z at*;have h1:=qC (nm d) z;have h2:=qB (nm d) z;have h3:=qK (nm d) h0;have h4:=qL z (nm d/z);exact⟨yf.2 h1,yf.2 (by rw[Nat.add_mul,Nat.one_mul];omega)⟩
 .have e:vN (nm d) d.e=vN (nm d*2^(d.e+c).toNat) (-(c:Int)):=by
   rw[xv];congr 1;omega
  rw[e];exact⟨q5,yf.2 (Nat.le_succ _)⟩
theorem zel {a b c:Rat} (h:a<=b) (hc:0<=c):a*c<=b*c:=q2 h hc
theorem qbo {d:Dy} {b:Nat} (hb:88<=b/\b<=128) (ht:zo d<=5) (hq:vN (nm d) d.e<=32):
 zk (vN (nm d) d.e-((rdQ d b:Rat)*hQ+((rdF d b).2:Rat)*pw (-(b:Int))))<=2*pw (-(b:Int))/\(rdQ d b:Rat)<=32:=by
 obtain⟨o1,o2⟩:=qby d (rdT d b);have eF:(rdF d b).2=(ofF d (rdT d b)).2 % ((piF (rdT d b)).2/2)/2^((max (zo d) 0).toNat +40):=rfl;rw[eF];unfold rdQ;have hc:rdT d b=b+((max (zo d) 0).toNat +40):=by unfold rdT;omega
 have htt:(max (zo d) 0).toNat +40<=45:=by omega
 have ht4:40<=(max (zo d) 0).toNat +40:=by omega
 generalize (max (zo d) 0).toNat +40=t at*;generalize hcc:rdT d b=c at*;obtain⟨n1,n2,n3⟩:=qfq ⟨c-128,by omega⟩;simp only[show 128+(c-128)=c by omega,show 122-(c-128)=250-c by omega]at n1 n2 n3;generalize (piF c).2/2=H at*;generalize (ofF d c).2=y at*;generalize vN (nm d) d.e=Q at*;unfold vN at o1 o2;rw[jx,show((1:Nat):Rat)=1 from rfl]at o2;have hP:=yg (-(c:Int));have eU:((2^t:Nat):Rat)*pw (-(c:Int))=pw (-(b:Int)):=by rw[<-qv,<-pwA];congr 1;omega
 have eV:((2^c:Nat):Rat)*pw (-(c:Int))=1:=by rw[q9];exact zs6 c
 have eG:((2^(250-c):Nat):Rat)*pw (-250)=pw (-(c:Int)):=by rw[<-qv,<-pwA];congr 1;omega
 have e18:262144*pw (-(c:Int))<=pw (-(b:Int)):=by
  have:(262144:Rat)=pw ((18:Nat):Int):=(qv 18).symm;rw[this,<-pwA];exact zal.2 (by omega)
 have y1:(y:Rat)=H*((y/H:Nat):Rat)+((y % H:Nat):Rat):=by rw[<-jk,<-jx,qB]
 generalize y/H=n at*;generalize y % H=r at*;have r1:(r:Rat)=((2^t:Nat):Rat)*((r/2^t:Nat):Rat)+((r % 2^t:Nat):Rat):=by rw[<-jk,<-jx,qB]
 have r2:((r % 2^t:Nat):Rat)<=((2^t:Nat):Rat):=ke.2 (qH (qK _ (qJ t)));have r3:=zcv (r % 2^t);have r4:=zcv r;have n0:=zcv n;generalize r/2^t=x at*;generalize r % 2^t=w at*;have k1:=ke.2 n1;have k2:=ke.2 n2;have k3:=ke.2 n3;simp only[jx,jk]at k1 k2;rw[show((4096:Nat):Rat)=4096 from rfl]at k1 k2;have q0:=q3 (yg (-250));have j1:=zel k1 q0;have j2:=zel k2 q0;have j3:=zel k3 (q3 hP);rw[eV]at j3;have s1:(H:Rat)*pw (-(c:Int))<=hQ+4096*pw (-(c:Int)):=by unfold hQ;rw[<-eG];grind
 have s2:hQ<=(H:Rat)*pw (-(c:Int))+4096*pw (-(c:Int)):=by unfold hQ;rw[<-eG];grind
 have r5:=zel r2 (q3 hP);rw[eU]at r5;have r6:=q8 r3 (q3 hP);have r7:=q8 r4 (q3 hP);rw[y1]at o1 o2;have eR:(r:Rat)*pw (-(c:Int))=x*pw (-(b:Int))+w*pw (-(c:Int)):=by rw[r1,<-eU];grind
 have o3:(n:Rat)*(H*pw (-(c:Int)))+r*pw (-(c:Int))<=Q:=by grind
 have o4:Q<=(n:Rat)*(H*pw (-(c:Int)))+r*pw (-(c:Int))+pw (-(c:Int)):=by grind
 generalize (H:Rat)*pw (-(c:Int))=h at*;have t1:=q1 j3 n0;have hn:(n:Rat)<=32:=by grind
 have t2:=q1 s1 n0;have t3:=q1 s2 n0;have t4:=zel hn (q3 hP);rw[eR]at o3 o4;generalize (w:Rat)*pw (-(c:Int))=W at*;generalize (x:Rat)*pw (-(b:Int))=X at*;generalize pw (-(c:Int))=P at*;generalize pw (-(b:Int))=B at*;refine⟨wl.2 ⟨?_,?_⟩,hn⟩<;>grind
theorem zza (n:Nat) (s c:Rat):pS (n % 4) s c=pS n s c/\pS (n % 4+1) s c=pS (n+1) s c:=by
 unfold pS;rw[Nat.mod_mod,show(n % 4+1) % 4=(n+1) % 4 by omega];exact⟨rfl,rfl⟩
theorem zta (n:Nat) (s c:Rat):pS ((4-n % 4) % 4) s c= -pS n (-s) c/\pS ((4-n % 4) % 4+1) s c=pS (n+1) (-s) c:=by
 have:n % 4=0\/n % 4=1\/n % 4=2\/n % 4=3:=by omega
 unfold pS;rcases this with h|h|h|h<;>simp[show(n+1) % 4=(n % 4+1) % 4 by omega,h]<;>grind
theorem rd_li {d:Dy} {b:Nat} (hb:88<=b/\b<=128) (ht:zo d<=5) (hq:vN (nm d) d.e<=32):
 Evt fun n=>zk (sS (dv d) n-pS (rdK d b) (sS (sv (rdF d b)*pw (-(b:Int))) n) (cS (sv (rdF d b)*pw (-(b:Int))) n))<=14*pw (-(b:Int))/\
  zk (cS (dv d) n-pS (rdK d b+1) (sS (sv (rdF d b)*pw (-(b:Int))) n) (cS (sv (rdF d b)*pw (-(b:Int))) n))<=14*pw (-(b:Int)):=by
 obtain⟨h1,h2⟩:=qbo hb ht hq;have hB:=yg (-(b:Int));have hf:(0:Rat)<epQ:=yg _;have h160:256*epQ<=pw (-(b:Int)):=by
  have:(256:Rat)=pw ((8:Nat):Int):=(qv 8).symm;unfold epQ;rw[this,<-pwA];exact zal.2 (by omega)
 have hB1:2*pw (-(b:Int))<=1:=by
  have:(2:Rat)=pw ((1:Nat):Int):=(qv 1).symm;have e1:(1:Rat)=pw ((0:Nat):Int):=(qv 0).symm;rw[this,<-pwA,e1];exact zal.2 (by omega)
 have hm:=q2 h2 (q3 hf);have tn:=zuu hf h_ok (((rdF d b).2:Rat)*pw (-(b:Int))) (rdQ d b);have hd:zk (vN (nm d) d.e-((rdQ d b:Rat)*hQ+((rdF d b).2:Rat)*pw (-(b:Int))))<=1:=q4 h1 hB1;have sh:=zx0 ((rdQ d b:Rat)*hQ+((rdF d b).2:Rat)*pw (-(b:Int))) hd hB;rw[show(rdQ d b:Rat)*hQ+((rdF d b).2:Rat)*pw (-(b:Int))+(vN (nm d) d.e-((rdQ d b:Rat)*hQ+((rdF d b).2:Rat)*pw (-(b:Int))))=vN (nm d) d.e by grind]at sh;have key:=(tn.and sh).mono (Q:=fun n=>zk (sS (vN (nm d) d.e) n-pS (rdQ d b) (sS (((rdF d b).2:Rat)*pw (-(b:Int))) n) (cS (((rdF d b).2:Rat)*pw (-(b:Int))) n))<=14*pw (-(b:Int))/\
  zk (cS (vN (nm d) d.e) n-pS (rdQ d b+1) (sS (((rdF d b).2:Rat)*pw (-(b:Int))) n) (cS (((rdF d b).2:Rat)*pw (-(b:Int))) n))<=14*pw (-(b:Int))) fun n H=>by
  obtain⟨⟨a1,a2⟩,b1,b2⟩:=H;generalize (rdQ d b:Rat)*hQ+((rdF d b).2:Rat)*pw (-(b:Int))=Y at*;constructor
  .have:=jb (sS (vN (nm d) d.e) n-sS Y n) (sS Y n-pS (rdQ d b) (sS (((rdF d b).2:Rat)*pw (-(b:Int))) n) (cS (((rdF d b).2:Rat)*pw (-(b:Int))) n));rw[show sS (vN (nm d) d.e) n-sS Y n+(sS Y n-pS (rdQ d b) (sS (((rdF d b).2:Rat)*pw (-(b:Int))) n) (cS (((rdF d b).2:Rat)*pw (-(b:Int))) n))=sS (vN (nm d) d.e) n-pS (rdQ d b) (sS (((rdF d b).2:Rat)*pw (-(b:Int))) n) (cS (((rdF d b).2:Rat)*pw (-(b:Int))) n) by grind]at this;grind
  .have:=jb (cS (vN (nm d) d.e) n-cS Y n) (cS Y n-pS (rdQ d b+1) (sS (((rdF d b).2:Rat)*pw (-(b:Int))) n) (cS (((rdF d b).2:Rat)*pw (-(b:Int))) n));rw[show cS (vN (nm d) d.e) n-cS Y n+(cS Y n-pS (rdQ d b+1) (sS (((rdF d b).2:Rat)*pw (-(b:Int))) n) (cS (((rdF d b).2:Rat)*pw (-(b:Int))) n))=cS (vN (nm d) d.e) n-pS (rdQ d b+1) (sS (((rdF d b).2:Rat)*pw (-(b:Int))) n) (cS (((rdF d b).2:Rat)*pw (-(b:Int))) n) by grind]at this;grind
 have eK:rdK d b=if d.neg=true then(4-rdQ d b % 4) % 4 else rdQ d b % 4:=rfl
 have eX:sv (rdF d b)=if d.neg=true then-((rdF d b).2:Rat)else((rdF d b).2:Rat):=rfl
 have eD:dv d=if d.neg=true then-(vN (nm d) d.e)else vN (nm d) d.e:=rfl
 refine key.mono fun n H=>?_
 rw[eK,eX,eD];cases d.neg
 .rw[Z5 (by decide),Z5 (by decide),Z5 (by decide),(zza _ _ _).1,(zza _ _ _).2];exact H
 .rw[Z4 rfl,Z4 rfl,Z4 rfl,(zta _ _ _).1,(zta _ _ _).2];rw[show-((rdF d b).2:Rat)*pw (-(b:Int))= -(((rdF d b).2:Rat)*pw (-(b:Int))) by grind,zsk,zu4,zsk,zu4];rw[show- -sS (((rdF d b).2:Rat)*pw (-(b:Int))) n=sS (((rdF d b).2:Rat)*pw (-(b:Int))) n by grind];refine⟨?_,H.2⟩;rw[<-qg];refine q4 ?_ H.1;rw[show ∀A B:Rat,-(-A- -B)=A-B from fun A B=>by grind];exact q5
theorem pS_sv (k:Nat) (S C:Fx) (u:Rat):sv (ptS k S C)*u=pS k (sv S*u) (sv C*u):=by
 unfold ptS pS;split
 .rfl
 split
 .rw[zv1];grind
 split
 .rw[zv1];grind
 .rfl
theorem qfr {k:Nat} {s c s' c' M:Rat} (h1:zk (s-s')<=M) (h2:zk (c-c')<=M):zk (pS k s c-pS k s' c')<=M:=by
 unfold pS;split
 .exact h2
 split
 .rw[<-qg,show-(-s- -s')=s-s' by grind];exact h1
 split
 .rw[<-qg,show-(-c- -c')=c-c' by grind];exact h2
 .exact h1
def fS (cos:Bool) (q:Rat) (n:Nat):Rat:=if cos=true then cS q n else sS q n
theorem pt_li {d:Dy} (hd:VD d) (h16:zk (dv d)<=16) (cos:Bool) {p:Nat} (hp:24<=p/\p<=64):lI (fS cos (dv d)) (ptI d cos p):=by
 unfold ptI;split
 .rename_i h0;have h0:=(zfn d).2.2.1 h0;cases cos
  .rw[Z5 (by decide)];refine zxc 0 fun n _=>?_
   have:=zwo d;rw[h0]at this⊢;show inI (sS 0 n) _;rw[sS_0];exact this
  .rw[Z4 rfl];refine zxc 0 fun n _=>?_
   rw[h0];show inI (cS 0 n) _;rw[cS_0];exact zgd 1
 .have eD:zk (dv d)=vN (nm d) d.e:=by
   unfold dv;split
   .rw[qg];exact vd (zbj _ _)
   .exact vd (zbj _ _)
  rw[eD]at h16;have ht:zo d<=5:=by
   unfold zo;split
   .decide
   .rename_i c;refine Int.not_lt.1 fun c2=>?_
    have:=ui c2 c;have e5:pw 5=32:=qv 5;rw[e5]at this;grind
  have hb:88<=p+64/\p+64<=128:=by omega
  have hB:=yg (-((p+64:Nat):Int));obtain⟨K,hK⟩:=rd_li hb ht (show vN (nm d) d.e<=32 by grind);refine zxc (K+(p+64+23)) fun n hn=>?_
  obtain⟨a1,a2⟩:=hK n (by omega);obtain⟨s1,s2⟩:=zsh (x:=rdF d (p+64)) (b:=p+64) (by omega) (qfk d) hB (zs6 (p+64)) (n:=n) (by omega);have hM:((p+64+25:Nat):Rat)*(6*pw (-((p+64:Nat):Int)))<=1000*pw (-((p+64:Nat):Int)):=by
   have:=ke.2 (show p+64+25<=160 by omega);have h2:=zel this (show 0<=6*pw (-((p+64:Nat):Int)) by grind);rw[show((160:Nat):Rat)=160 from rfl]at h2;grind
  refine ne_in _ _ _ (by omega) ?_;have e24:pw ((24:Nat):Int)=16777216:=qv 24;rw[e24,pS_sv];have l:=fun k=>qfr (k:=k) (q4 s1 hM) (q4 s2 hM)
  cases cos
  .rw[Z5 (by decide),Nat.add_zero];show zk (_-sS (dv d) n)<=_;have:=qdv (l (rdK d (p+64))) (show zk (-(sS (dv d) n-pS (rdK d (p+64)) (sS (sv (rdF d (p+64))*pw (-((p+64:Nat):Int))) n) (cS (sv (rdF d (p+64))*pw (-((p+64:Nat):Int))) n)))<=_ by rw[qg];exact a1) (show zk 0<=0 by decide) (d:=pS (rdK d (p+64)) (sv (seF (rdF d (p+64)) (p+64)).1*pw (-((p+64:Nat):Int))) (sv (seF (rdF d (p+64)) (p+64)).2*pw (-((p+64:Nat):Int)))-sS (dv d) n) (by grind);grind
  .rw[Z4 rfl];show zk (_-cS (dv d) n)<=_;have:=qdv (l (rdK d (p+64)+1)) (show zk (-(cS (dv d) n-pS (rdK d (p+64)+1) (sS (sv (rdF d (p+64))*pw (-((p+64:Nat):Int))) n) (cS (sv (rdF d (p+64))*pw (-((p+64:Nat):Int))) n)))<=_ by rw[qg];exact a2) (show zk 0<=0 by decide) (d:=pS (rdK d (p+64)+1) (sv (seF (rdF d (p+64)) (p+64)).1*pw (-((p+64:Nat):Int))) (sv (seF (rdF d (p+64)) (p+64)).2*pw (-((p+64:Nat):Int)))-cS (dv d) n) (by grind);grind
theorem qib:KI unI:=by
 refine⟨rfl,zn6,zai 1 (by decide),ju.2 ?_⟩;show dv (ux (-1))<=dv (ux 1);rw[ji,ji];decide
theorem zrl (cos:Bool) (q:Rat):lI (fS cos q) unI:=by
 refine ztu qib.dle fun e he=>?_
 obtain⟨K,hK⟩:=zz5 q he;refine⟨K,fun n hn=>?_⟩;have e1:dv unI.lo= -1:=ji (-1);have e2:dv unI.hi=1:=ji 1;rw[e1,e2];obtain⟨h1,h2⟩:=hK n hn;obtain⟨a1,a2⟩:=wl.1 h1;obtain⟨b1,b2⟩:=wl.1 h2;cases cos
 .show-1-e<=sS q n/\sS q n<=1+e;constructor<;>grind
 .show-1-e<=cS q n/\cS q n<=1+e;constructor<;>grind
theorem qcm {s:Nat->Rat} {x y:Iv} (h:lI s x):lI s (un x y):=qcc (fun q hq=>by
 unfold un;split
 .rename_i c;have hx:x.all=false:=by
   simp only[kB,Bool.and_eq_true,Bool.not_eq_true']at c;exact c.1.1
  rcases hq with a|⟨a,b⟩
  .rw[hx]at a;cases a
  .exact .inr ⟨q4 (zbr x.lo y.lo).1 a,q4 b (xg x.hi y.hi).1⟩
 .exact zrh _) h
theorem me_li {s:Nat->Rat} {x y:Iv} (h:lI s x) (g:lI s y) (ok:(meI x y).2=true):lI s (meI x y).1:=by
 unfold meI at ok⊢;split
 .rename_i c;rw[Z4 c]at ok;cases ok
 rename_i c;rw[Z5 c]at ok;split
 .exact g
 rename_i c2;rw[Z5 c2]at ok;split
 .exact h
 rename_i c3;rw[Z5 c3]at ok;split
 .rename_i c4;rw[Z4 c4]at ok;cases ok
 rename_i c4;have hle:=ju.1 (Int.not_lt.1 c4);refine ztu hle fun e he=>?_
 obtain⟨K,hK⟩:=zxd h (by simpa using c2) he;obtain⟨L,hL⟩:=zxd g (by simpa using c3) he;refine⟨K+L,fun n hn=>?_⟩;obtain⟨a1,a2⟩:=hK n (by omega);obtain⟨b1,b2⟩:=hL n (by omega);constructor
 .rcases(xg x.lo y.lo).2.2 with c|c
  .show dv (kf x.lo y.lo)-e<=_;rw[c];exact a1
  .show dv (kf x.lo y.lo)-e<=_;rw[c];exact b1
 .rcases(zbr x.hi y.hi).2.2 with c|c
  .show _<=dv (uw x.hi y.hi)+e;rw[c];exact a2
  .show _<=dv (uw x.hi y.hi)+e;rw[c];exact b2
theorem zye {x:Iv} (h:CI x) {s:Nat->Rat} (l:lI s x):VI x:=by
 cases ha:x.all with
 |true=>
  rcases h with h|⟨h,_⟩
  .exact .inr h
  .rw[ha]at h;cases h
 |false=>exact .inl (zyi h ha (zns l l ha ha))
theorem qhk {x:Iv} (k:KI x) {q:Rat} (h1:dv x.lo=q) (h2:dv x.hi=q) (h16:zk q<=16) (cos:Bool) {p:Int} (hp:24<=p/\p<=64):VI (ciI x cos p)/\lI (fS cos q) (ciI x cos p):=by
 have l:lI (fS cos q) (ciI x cos p):=by
  unfold ciI;split
  .split
   .exact zrl cos q
   split
   .exact zrl cos q
   unfold ciJ;split
   .exact zrl cos q
   rename_i c;rw[Z4 ((za2 x.lo x.hi).2.2.2 (by rw[h1,h2]))];have l1:=pt_li k.lo (by rw[h1];exact h16) cos (p:=p.toNat) (by omega);rw[h1]at l1;exact me_li (qcm l1) (zrl cos q) (by simpa[ciM]using c)
  .exact qcc (fun q _=>zrh q) (zrl cos q)
 exact⟨zye (qih k.ri cos p) l,l⟩
theorem zsj {x:Iv} {B:Rat} (hb:kI B x) (h1: -80<=x.lo.e) (h2: -80<=x.hi.e) {s:Nat} (hs:s<=8):kI B (qb x (-(s:Int))):=by
 have k:=hb.k;have hk:kB x=true:=(qh k.ri).2 k;have ho: ∀d:Dy,VD d-> -80<=d.e->(vu d (-(s:Int))).2=0:=fun d v he=>by
  unfold vu;rw[Z5 (by unfold exB;simp;omega)];unfold ckN;rw[Z4];have h1:=v.bits;have h2:=v.exp;exact zil h1 (by omega) (by omega)
 have ha:(qb x (-(s:Int))).all =false:=by
  unfold qb;rw[Z4 hk];exact yx.2 ⟨ho _ k.lo h1,ho _ k.hi h2⟩
 have h2:=zt0 (zpx hb.b (-(s:Int))) ha;refine h2.mono ?_;have h3:pw (-(s:Int))<=pw 0:=zal.2 (by omega);rw[zwn]at h3;have:=q1 h3 hb.nn;grind
theorem zo7 {x:Iv} (k:KI x):kI (dv (zed x)) x:=by
 obtain⟨h0,h1,h2,h3,h4⟩:=zj3 k;exact⟨k,h1,h4⟩
theorem qe8 {k:Nat} (hk:k<=2) {a:Mx} {t:Iv} (va:VM (k+1) (k+1) a) (hs:SmM a t) (kt:KI t) (hel: ∀r∈a,∀x∈r,KI x) {p:Int} (hp:pcB p=true): ∃w,zkp a t p=some w:=by
 have lt:=ztp hs.lt;have h20:=qb0 lt.2.2.2.2;refine qa9 hk va (fun r hr y hy=>(zo7 (hel r hr y hy)).mono (qb0 (ztp (hs.la r hr y hy)).2.2.2.2)) kt (fun s h8=>(zsj (zo7 kt) lt.2.2.1 lt.2.2.2.1 h8).mono h20) (fun q hq r hr y hy=>?_) hp;have:=qe7 hs kt hr hy (hel r hr y hy);rw[q9]at this;exact qcf (zo7 kt) (zo7 (hel r hr y hy)) this hq (pwF (by decide) (by decide))
theorem mul_F {w t:Dy} (hw:VD w) (ht:VD t) (l1:w.m.length<=3) (l2:t.m.length<=3) (e1: -80<=w.e) (e2: -80<=t.e) (h16:zk (dv w*dv t)<=16) {p:Nat} (hp:192<=p):Fp p (dv w*dv t):=by
 have a1:nm w<=2^96:=qH (qD (zn9 hw.lb) (qA (by decide) (by omega)));have a2:nm t<=2^96:=qH (qD (zn9 ht.lb) (qA (by decide) (by omega)));have a3:nm w*nm t<=2^p:=qM (Nat.mul_le_mul a1 a2) (qM (show 2^96*2^96<=2^192 by decide) (qA (by decide) hp));have h5:pw 5<=pw 16384:=zal.2 (by decide);have e5:pw 5=32:=qv 5;have hn:=zbj (nm w*nm t) (w.e+t.e);have key:vN (nm w*nm t) (w.e+t.e)<=16->inF p (vN (nm w*nm t) (w.e+t.e)):=fun h=>⟨_,_,rfl,a3,by omega,by grind⟩
 have e:=zz0 (a:=w) (b:=t);split at e
 .right;rw[e]at h16⊢;rw[qg,vd hn]at h16;rw[show- -vN (nm w*nm t) (w.e+t.e)=vN (nm w*nm t) (w.e+t.e) by grind];exact key h16
 .left;rw[e]at h16⊢;rw[vd hn]at h16;exact key h16
theorem qf3 {w t:Dy} (hw:VD w) (ht:VD t) {p:Int} (hp:pcB p=true) (hF:Fp p.toNat (dv w*dv t)):KI (jr (zc w) (zc t) p)/\dv (jr (zc w) (zc t) p).lo =dv w*dv t/\dv (jr (zc w) (zc t) p).hi =dv w*dv t:=by
 have vm:VI (jr (zc w) (zc t) p):=wx (.inl (zc2 hw)) (.inl (zc2 ht)) hp;have R:=zll hw ht (vl hp);obtain⟨d1,d2⟩:=R.1.2 _ hF q5;obtain⟨u1,u2⟩:=R.2.2 _ hF q5;have d3:=(R.1.1 d1).1;have u3:=(R.2.1 u1).1;rw[zih (zc2 hw) (zc2 ht) hp]at vm⊢;have ha:(jo (fun a b=>yq a b p.toNat false) (fun a b=>yq a b p.toNat true) (zc w) (zc t)).all =false:=zpi ⟨d1,d1,d1,d1⟩ ⟨u1,u1,u1,u1⟩;obtain⟨_,_,s1,s2,⟨s3,_⟩,⟨s4,_⟩⟩:=zhb ha;exact⟨(yt vm).1 ha,zdg (q4 s3 d3) (s1 _ d2 d2 d2 d2),zdg (s2 _ u2 u2 u2 u2) (q4 u3 s4)⟩
def rtM (w:Dy):Mx:= [[whI 0,zay (zc w)],[zc w,whI 0]]
theorem qff {w:Dy} (hw:VD w) (va:VM 2 2 (rtM w)):inM 2 2 (fun i j=>dv w*jQ i j) (rtM w):=⟨va,fun i j hi hj=>by
 have hi:i=0\/i=1:=by omega
 have hj:j=0\/j=1:=by omega
 rcases hi with rfl|rfl<;>rcases hj with rfl|rfl
 .show inI (dv w*0) (whI 0);rw[qG];exact zgd 0
 .show inI (dv w*(-1)) (zay (zc w));rw[show dv w*(-1)= -dv w by grind];exact zzf (.inl (zc2 hw)) (zwo w)
 .show inI (dv w*1) (zc w);rw[qI];exact zwo w
 .show inI (dv w*0) (whI 0);rw[qG];exact zgd 0⟩
def rtW (u:Iv) (p:Int):Mx:= [[ciI u true p,zay (ciI u false p)],[ciI u false p,ciI u true p]]
theorem qbm {w t:Dy} (hw:VD w) (ht:VD t) {p:Int} (hp:24<=p/\p<=64) (sm:SmM (rtM w) (zc t)) (va:VM 2 2 (rtM w)) {y:MPr} (hy:zkp (rtM w) (zc t) p=some y):
 VM 2 2 y.exp/\MtM y.exp (rtW (jr (zc w) (zc t) 300) p):=by
 have kw:=zc2 hw;have kt:=zc2 ht;have hpc:pcB p=true:=by unfold pcB;simp;omega
 have hsz:=qe7 sm kt (r:= [zc w,whI 0]) (by simp[rtM]) (x:=zc w) (by simp) kw;have g1:=zj3 kw;have g2:=zj3 kt;have b1:zk (dv w)<=dv (zed (zc w)):=wl.2 ⟨g1.2.1,g1.2.2.1⟩;have b2:zk (dv t)<=dv (zed (zc t)):=wl.2 ⟨g2.2.1,g2.2.2.1⟩;have e4:pw 4=16:=qv 4;rw[e4]at hsz;have h16:zk (dv w*dv t)<=16:=q4 (uk b1 b2) hsz;have lt:=ztp sm.lt;have lw:=ztp (sm.la [zc w,whI 0] (by simp[rtM]) (zc w) (by simp));obtain⟨ku,u1,u2⟩:=qf3 hw ht (p:=300) (by decide) (mul_F hw ht lw.1 lt.1 lw.2.2.1 lt.2.2.1 h16 (by decide));generalize jr (zc w) (zc t) 300=u at*;obtain⟨vc,lc⟩:=qhk ku u1 u2 h16 true hp;obtain⟨vs,ls⟩:=qhk ku u1 u2 h16 false hp;obtain⟨l,_⟩:=qhr (k:=1) (by decide) (qff hw va) kt (zwo t) hpc hy;have vW:VM 2 2 (rtW u p):=⟨by decide,by decide,rfl,fun r hr=>by
  simp only[rtW,q7,q6,or_false]at hr;rcases hr with rfl|rfl<;>rfl,fun r hr x hx=>by
  simp only[rtW,q7,q6,or_false]at hr;rcases hr with rfl|rfl<;>simp only[q7,q6,or_false]at hx<;>rcases hx with rfl|rfl
  .exact vc
  .exact ze6 vs
  .exact vs
  .exact vc⟩
 have hA: ∀a b:Nat,a<=1->b<=1->(fun i j=>dv w*jQ i j) a b=dv w*jQ a b:=fun _ _ _ _=>rfl
 refine⟨l.v,qia (k:=1) (by decide) l.v vW fun i j hi hj=>?_⟩;have v:=xm l.v (i:=i) (j:=j) (by omega) (by omega);have lij:=(l.l i j hi hj).cg (fun n=>qek hA hi hj (dv t) n);rw[q9 (dv t) (dv w)]at lij;have hi:i=0\/i=1:=by omega
 have hj:j=0\/j=1:=by omega
 rcases hi with rfl|rfl<;>rcases hj with rfl|rfl
 .exact zp8 v vc (lij.cg (t:=fS true (dv w*dv t)) fun n=>qds _ n) lc
 .exact zp8 v (ze6 vs) (lij.cg (t:=fun n=> -fS false (dv w*dv t) n) fun n=>xJ01 _ n) (qgi vs ls)
 .exact zp8 v vs (lij.cg (t:=fS false (dv w*dv t)) fun n=>qdr _ n) ls
 .exact zp8 v vc (lij.cg (t:=fS true (dv w*dv t)) fun n=>xJ11 _ n) lc
set_option maxHeartbeats 8000000
structure RDy (d:Dy):Prop where
 lb:LB d.m
 l1:d.m.length<9223372036854775808
def TR:Tab:= {TM with gl:=27::28::TM.gl}
theorem hTR:TabOK Tryz.prog TR:=zgi (by kernel_rfl) (by kernel_rfl)
theorem d6 (w:Dy) (hw:RDy w) (t:Dy) (ht:RDy t) {P:Int} (hP:0<=P/\P<=255):Fn 6 G0 [.agg (dyC w),.agg (dyC t),.int .u8 P] (.bool true) G0:=by
 have cw:=qd1 w hw.lb hw.l1;have ct:=qd1 t ht.lb ht.l1
 cases h1:vB w with
 |false=>
  rw[h1]at cw;refine fnT hTR hmx Tryz.func6 rfl rfl (ex:= []) ?_;conv=>whnf
  refine gZc n8 ?_;conv=>whnf
  refine gZn cw ?_;conv=>whnf
  refine gZc n8 ?_;conv=>whnf
  exact⟨lr rfl,za0⟩
 |true=>
 rw[h1]at cw
 cases h2:vB t with
 |false=>
  rw[h2]at ct;refine fnT hTR hmx Tryz.func6 rfl rfl (ex:= []) ?_;conv=>whnf
  refine gZc n8 ?_;conv=>whnf
  refine gZn cw ?_;conv=>whnf
  refine gZn ct ?_;conv=>whnf
  refine gZc n8 ?_;conv=>whnf
  exact⟨lr rfl,za0⟩
 |true=>
 rw[h2]at ct;have vw:=(yu hw.lb).1 h1;have vt:=(yu ht.lb).1 h2;have kw:=zc2 vw;have kt:=zc2 vt;have pw1:=n31 w;have pt1:=n31 t;have w0:=n24 0 (by decide);have cn:=i86 (zc w) kw.ri;have vn:VI (zay (zc w)):=ze6 (.inl kw);have rx:RX (rtM w):=by
  refine⟨fun r hr x hx=>?_,fun r hr=>?_,by show(2:Nat)<_;decide⟩
  .simp only[rtM,q7,q6,or_false]at hr;have k0:VI (whI 0):=zcq (by decide);rcases hr with rfl|rfl<;>simp only[q7,q6,or_false]at hx<;>rcases hx with rfl|rfl
   .exact k0.ri
   .exact vn.ri
   .exact kw.ri
   .exact k0.ri
  .simp only[rtM,q7,q6,or_false]at hr;rcases hr with rfl|rfl<;>(show(2:Nat)<_;decide)
 have c12:=n19 P hP;have hp:24<=24+P % 41/\24+P % 41<=64:=by omega
 generalize 24+P % 41=p at*;cases e1:zm3 (rtM w) (zc t) []with
 |false=>
  have c10:=n18n rx kt.ri e1;have c10:Fn 10 [] [.sl .vs [[whI 0,zay (zc w)],[zc w,whI 0]],.agg (ivC (zc t)),.nilsl] (.bool false) []:=c10;generalize zay (zc w)=nw at*;generalize zc w=xw at*;generalize zc t=xt at*;generalize whI 0=i0 at*;refine fnT hTR hmx Tryz.func6 rfl rfl (ex:= []) ?_;conv=>whnf
  refine gZc n8 ?_;conv=>whnf
  refine gZn cw ?_;conv=>whnf
  refine gZn ct ?_;conv=>whnf
  refine gZn pw1 ?_;conv=>whnf
  refine gZn pt1 ?_
  (refine⟨by kernel_rfl,by kernel_rfl,?_⟩;(conv=>whnf))
  refine gZn w0 ?_;conv=>whnf
  refine gZn cn ?_;conv=>whnf
  refine gZn w0 ?_
  (refine⟨by kernel_rfl,by kernel_rfl,?_⟩;(conv=>whnf))
  refine gZn c10 ?_;conv=>whnf
  exact⟨lr rfl,za0⟩
 |true=>
  have c10:=n18n rx kt.ri e1;have c10:Fn 10 [] [.sl .vs [[whI 0,zay (zc w)],[zc w,whI 0]],.agg (ivC (zc t)),.nilsl] (.bool true) []:=c10;obtain⟨sm,_⟩:=sm_ok e1;obtain⟨n,va,_,_⟩:=zi1 rx kt.ri sm.cas;have hel:=zz6 rx kt.ri sm.cas;have hn:n=2:=va.len.symm;subst hn;have hpc:pcB p=true:=by unfold pcB;simp;omega
  obtain⟨y,hy⟩:=qe8 (k:=1) (by decide) va sm kt hel hpc;obtain⟨vy,hM⟩:=qbm vw vt hp sm va hy;have hcas:zi2 (rtM w) (zc t) p=true:=by
   have h1:=sm.cas;unfold zi2 at h1⊢;rw[hpc];simp only[Bool.and_eq_true]at h1⊢;exact⟨⟨⟨h1.1.1.1,h1.1.1.2⟩,trivial⟩,h1.2⟩
  have c18:=n14 (rtM w) rx (zc t) kt.ri p;rw[show zrd (rtM w) (zc t) p=(y.exp,0) by unfold zrd;rw[Z4 hcas,hy]]at c18;have c18:Fn 18 G0 [.sl .vs [[whI 0,zay (zc w)],[zc w,whI 0]],.agg (ivC (zc t)),.int .i64 p] (.tup [.sl .vs y.exp,.int .i64 0]) G0:=c18;have c21:Fn 21 G0 [.agg (ivC (zc w)),.agg (ivC (zc t)),.int .i64 300] (.agg (ivC (jr (zc w) (zc t) 300))) G0:=i84 _ _ kw.ri kt.ri 300;have ru:RI (jr (zc w) (zc t) 300):=zmm _ _ _;have c27:=c35 _ ru p;have c28:=c36 _ ru p;have rs:RI (ciI (jr (zc w) (zc t) 300) false p):=(qih ru false p).ri;have c26:=i86 _ rs;have c29:Fn 29 [] [.sl .vs y.exp,.sl .vs [[ciI (jr (zc w) (zc t) 300) true p,zay (ciI (jr (zc w) (zc t) 300) false p)],[ciI (jr (zc w) (zc t) 300) false p,ciI (jr (zc w) (zc t) 300) true p]]] (.bool true) []:=n30 hM;clear hM vy hy hcas hel sm e1 va rx rs ru vn kw kt;generalize zay (ciI (jr (zc w) (zc t) 300) false p)=ns at*;generalize ciI (jr (zc w) (zc t) 300) false p=si at*;generalize ciI (jr (zc w) (zc t) 300) true p=co at*;generalize jr (zc w) (zc t) 300=u at*;generalize zay (zc w)=nw at*;generalize zc w=xw at*;generalize zc t=xt at*;generalize whI 0=i0 at*;obtain⟨X,Y⟩:=y;simp only at*;refine fnT hTR hmx Tryz.func6 rfl rfl (ex:= []) ?_;conv=>whnf
  refine gZc n8 ?_;conv=>whnf
  refine gZn cw ?_;conv=>whnf
  refine gZn ct ?_;conv=>whnf
  refine gZn pw1 ?_;conv=>whnf
  refine gZn pt1 ?_
  (refine⟨by kernel_rfl,by kernel_rfl,?_⟩;(conv=>whnf))
  refine gZn w0 ?_;conv=>whnf
  refine gZn cn ?_;conv=>whnf
  refine gZn w0 ?_
  (refine⟨by kernel_rfl,by kernel_rfl,?_⟩;(conv=>whnf))
  refine gZn c10 ?_;conv=>whnf
  refine gZn c12 ?_;conv=>whnf
  refine gZc c18 ?_;conv=>whnf
  refine gZc c21 ?_;conv=>whnf
  refine gZc c27 ?_;conv=>whnf
  refine gZc c28 ?_
  (refine⟨by kernel_rfl,by kernel_rfl,?_⟩;(conv=>whnf))
  refine gZn c26 ?_;conv=>whnf
  refine gZn c29 ?_
  (refine⟨by kernel_rfl,by kernel_rfl,?_⟩;(conv=>whnf))
  exact⟨lr rfl,za0⟩
