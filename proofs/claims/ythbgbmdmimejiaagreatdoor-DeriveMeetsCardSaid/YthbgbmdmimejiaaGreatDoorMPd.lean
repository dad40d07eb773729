/- Cosine and sine as series: entries of the exponential function of a quarter turn; plain. -/
import Derived.Test.YthbgbmdmimejiaaGreatDoorMMa
import Derived.Test.YthbgbmdmimejiaaGreatDoorMXh
set_option linter.all false
open Nat renaming div_add_mod->qd,two_pow_pos->qn,pos_of_ne_zero->qA,div_mul_le_self->qF,mod_lt->qG,mul_comm->qK
open Rat renaming mul_le_mul_of_nonneg_left->q4,le_of_lt->q5,mul_le_mul_of_nonneg_right->q6,mul_nonneg->q7,le_trans->q8,le_refl->q9,mul_lt_mul_of_pos_right->qB,mul_comm->qC,intCast_le_intCast->qD,intCast_neg->qE,zero_mul->qH,sub_self->qI,intCast_add->qJ,mul_one->qL,one_mul->qM,not_lt->qN
namespace Go.Proofs.YthbgbmdmimejiaaGreatDoor
open Go Go.Sx
set_option maxRecDepth 100000
set_option maxHeartbeats 4000000
def jQ(a b:Nat):Rat:=if a=0 then(if b=0 then 0 else-1)else if b=0 then 1 else 0
def cU:Nat->Rat×Rat
 |0=>(1,0)
 |n+1=>(-(cU n).2,(cU n).1)
theorem pJ:∀n,pQ 1 jQ n 0 0=(cU n).1/\pQ 1 jQ n 0 1= -(cU n).2/\pQ 1 jQ n 1 0=(cU n).2/\pQ 1 jQ n 1 1=(cU n).1
 |0=>⟨rfl,rfl,rfl,rfl⟩
 |n+1=>by
  obtain⟨h1,h2,h3,h4⟩:=pJ n;refine⟨?_,?_,?_,?_⟩
  .show pQ 1 jQ n 0 0*0+pQ 1 jQ n 0 1*1= -(cU n).2;rw[h1,h2];grind
  .show pQ 1 jQ n 0 0*(-1)+pQ 1 jQ n 0 1*0= -(cU n).1;rw[h1,h2];grind
  .show pQ 1 jQ n 1 0*0+pQ 1 jQ n 1 1*1=(cU n).1;rw[h3,h4];grind
  .show pQ 1 jQ n 1 0*(-1)+pQ 1 jQ n 1 1*0= -(cU n).2;rw[h3,h4];grind
theorem ztl:∀n,zg (cU n).1<=1/\zg (cU n).2<=1
 |0=>⟨OA,OA⟩
 |n+1=>by
  obtain⟨h1,h2⟩:=ztl n;exact⟨by show zg (-(cU n).2)<=1;rw[qi];exact h2,h1⟩
theorem qdf:∀k,(k % 4=0->cU k=(1,0))/\(k % 4=1->cU k=(0,1))/\(k % 4=2->cU k=(-1,0))/\(k % 4=3->cU k=(0,-1))
 |0=>⟨fun _=>rfl,fun h=>absurd h OA,fun h=>absurd h OA,fun h=>absurd h OA⟩
 |k+1=>by
  obtain⟨h0,h1,h2,h3⟩:=qdf k;refine⟨fun h=>?_,fun h=>?_,fun h=>?_,fun h=>?_⟩
  .show(-(cU k).2,(cU k).1)=_;rw[h3 O];rfl
  .show(-(cU k).2,(cU k).1)=_;rw[h0 O];rfl
  .show(-(cU k).2,(cU k).1)=_;rw[h1 O]
  .show(-(cU k).2,(cU k).1)=_;rw[h2 O];rfl
def vS(v:Nat->Rat)(q:Rat)(n:Nat):Rat:=sQ (fun i=>rQ q i*v i) n
def cS(q:Rat)(n:Nat):Rat:=vS (fun i=>(cU i).1) q n
def sS(q:Rat)(n:Nat):Rat:=vS (fun i=>(cU i).2) q n
theorem zy9{v:Nat->Rat}(hv:∀i,zg (v i)<=1){q:Rat}{K:Nat}(hu:zg q*2<=((K+1:Nat):Rat)){n:Nat}(hn:K<=n):zg (vS v q n-vS v q K)<=rQ (zg q) K:=by
 obtain⟨d,rfl⟩:=Nat.exists_eq_add_of_le hn;have h1:=zzw (f:=fun i=>rQ q i*v i) (g:=rQ (zg q)) (fun i=>by
  rw[yg,zei];have:=q4 (hv i) (zk8 (zw q) i);grind) K d
 have h2:=zk7 (zw q) hu d;have h3:=zk8 (zw q) (K+d);unfold vS;grind
theorem qh7(q:Rat)(n:Nat):xQ 1 jQ q n 0 0=cS q n:=yr fun i _=>by rw[(pJ i).1]
theorem qh6(q:Rat)(n:Nat):xQ 1 jQ q n 1 0=sS q n:=yr fun i _=>by rw[(pJ i).2.2.1]
theorem xJ11(q:Rat)(n:Nat):xQ 1 jQ q n 1 1=cS q n:=yr fun i _=>by rw[(pJ i).2.2.2]
theorem xJ01(q:Rat)(n:Nat):xQ 1 jQ q n 0 1= -sS q n:=by
 have e:xQ 1 jQ q n 0 1=sQ (fun i=> -1*(rQ q i*(cU i).2)) n:=yr fun i _=>by rw[(pJ i).2.1];grind
 rw[e,jv];show-1*sS q n=_;grind
theorem nJ:nQ 1 jQ 1:=fun i hi=>by
 have:i=0\/i=1:=O;rcases this with rfl|rfl
 .show zg 0+zg (-1)<=1;rw[qi,zdt,zqj];grind
 .show zg 1+zg 0<=1;rw[zdt,zqj];grind
theorem zx8(x y:Rat):Nul fun n=>cS x n*cS y n-sS x n*sS y n-cS (x+y) n:=
 (qbt nJ (a:=0) (b:=0) OA OA x y).cg fun n=>by
   show xQ 1 jQ x n 0 0*xQ 1 jQ y n 0 0+xQ 1 jQ x n 0 1*xQ 1 jQ y n 1 0-xQ 1 jQ (x+y) n 0 0=_;rw[qh7,qh7,qh7,xJ01,qh6];grind
theorem zzv(x y:Rat):Nul fun n=>sS x n*cS y n+cS x n*sS y n-sS (x+y) n:=
 (qbt nJ (a:=1) (b:=0) OA OA x y).cg fun n=>by
   show xQ 1 jQ x n 1 0*xQ 1 jQ y n 0 0+xQ 1 jQ x n 1 1*xQ 1 jQ y n 1 0-xQ 1 jQ (x+y) n 1 0=_;rw[qh6,qh7,xJ11,qh6,qh6]
theorem par(x:Rat):∀i,rQ (-x) i*(cU i).1=rQ x i*(cU i).1/\rQ (-x) i*(cU i).2= -(rQ x i*(cU i).2)
 |0=>⟨rfl,by show(1:Rat)*0= -(1*0);grind⟩
 |i+1=>by
  obtain⟨h1,h2⟩:=par x i;constructor
  .show rQ (-x) i* -x*(1/((i+1:Nat):Rat))* -(cU i).2=rQ x i*x*(1/((i+1:Nat):Rat))* -(cU i).2;generalize 1/((i+1:Nat):Rat)=c;grind
  .show rQ (-x) i* -x*(1/((i+1:Nat):Rat))*(cU i).1= -(rQ x i*x*(1/((i+1:Nat):Rat))*(cU i).1);generalize 1/((i+1:Nat):Rat)=c;grind
theorem zr4(x:Rat)(n:Nat):cS (-x) n=cS x n:=yr fun i _=>(par x i).1
theorem zjn(x:Rat)(n:Nat):sS (-x) n= -sS x n:=by
 have e:sS (-x) n=sQ (fun i=> -1*(rQ x i*(cU i).2)) n:=yr fun i _=>by rw[(par x i).2];grind
 rw[e,jv];show-1*sS x n=_;grind
theorem cS_0(n:Nat):cS 0 n=1:=by rw[<-qh7,zoe];rfl
theorem sS_0(n:Nat):sS 0 n=0:=by rw[<-qh6,zoe];rfl
def Evt(P:Nat->Prop):Prop:=∃K:Nat,∀n,K<=n->P n
theorem Evt.and{P Q:Nat->Prop}(h:Evt P)(g:Evt Q):Evt fun n=>P n/\Q n:=by
 obtain⟨K,hK⟩:=h;obtain⟨L,hL⟩:=g;exact⟨K+L,fun n hn=>⟨hK n O,hL n O⟩⟩
theorem Evt.mono{P Q:Nat->Prop}(h:Evt P)(g:∀n,P n->Q n):Evt Q:=by
 obtain⟨K,hK⟩:=h;exact⟨K,fun n hn=>g n (hK n hn)⟩
theorem qjv(x:Rat){e:Rat}(he:0<e):Evt fun n=>cS x n*cS x n+sS x n*sS x n<=1+e:=by
 obtain⟨K,hK⟩:=zx8 x (-x) e he;refine⟨K,fun n hn=>?_⟩;have h:=hK n hn;simp only[zr4,zjn,show x+ -x=0 by grind,cS_0]at h;have:=kv (cS x n*cS x n-sS x n* -sS x n-1);grind
theorem zmg(a:Rat):0<=a*a:=by
 rcases Rat.le_total (a:=0) (b:=a)with c|c
 .exact q7 c c
 .have:=q7 (show 0<= -a by grind) (show 0<= -a by grind);grind
theorem zu8(a:Rat):zg a*zg a=a*a:=by rw[<-yg,qp (zmg a)]
theorem qdd(x:Rat){e:Rat}(he:0<e):Evt fun n=>zg (cS x n)<=1+e/\zg (sS x n)<=1+e:=
 (qjv x he).mono fun n h=>by
   have h1:=zmg (cS x n);have h2:=zmg (sS x n);have h3:1+e<=(1+e)*(1+e):=by
    have:=zmg e;grind
   exact⟨zga (by grind) (by rw[zu8];grind),zga (by grind) (by rw[zu8];grind)⟩
theorem zxx(x:Rat):Evt fun n=>zg (cS x n)<=2/\zg (sS x n)<=2:=(qdd x (e:=1) OA).mono fun n h=>by
 constructor<;>grind
theorem zrz{d:Rat}(hd:zg d<=1):Evt fun n=>zg (cS d n-1)<=zg d/\zg (sS d n)<=2*zg d:=by
 refine⟨1,fun n hn=>?_⟩;have hu:zg d*2<=((1+1:Nat):Rat):=by
  show zg d*2<=(2:Rat);grind
 have h1:=zy9 (v:=fun i=>(cU i).1) (fun i=>(ztl i).1) hu hn;have h2:=zy9 (v:=fun i=>(cU i).2) (fun i=>(ztl i).2) hu hn;have e0:∀u:Rat,rQ u 1=u:=fun u=>by
  show 1*u*(1/((0+1:Nat):Rat))=u;rw[show(1/((0+1:Nat):Rat):Rat)=1 by decide+kernel];grind
 have e1:vS (fun i=>(cU i).1) d 1=1:=by
  show 1*1+rQ d 1*(-0)=(1:Rat);grind
 have e2:vS (fun i=>(cU i).2) d 1=d:=by
  show 1*0+rQ d 1*1=d;rw[e0];grind
 rw[e0]at h1 h2;rw[e1]at h1;rw[e2]at h2;refine⟨h1,?_⟩;have:=wu (vS (fun i=>(cU i).2) d n-d) d;rw[show vS (fun i=>(cU i).2) d n-d+d=sS d n by unfold sS;grind]at this;grind
theorem uh{a b x y:Rat}(h1:zg a<=x)(h2:zg b<=y):zg (a*b)<=x*y:=by
 rw[yg];have h3:=zw a;have h4:=zw b;have h5:=q6 h1 h4;have h6:=q4 h2 (q8 h3 h1);grind
theorem qhj{a b c d u v w:Rat}(h1:zg a<=u)(h2:zg b<=v)(h3:zg c<=w)(e:d=a+b+c):zg d<=u+v+w:=by
 have h4:=wu (a+b) c;have h5:=wu a b;rw[e];grind
theorem qa4(x:Rat){d e:Rat}(hd:zg d<=1)(he:0<e):Evt fun n=>zg (cS (x+d) n-cS x n)<=6*zg d+e/\zg (sS (x+d) n-sS x n)<=6*zg d+e:=by
 have h1:Evt fun n=>zg (cS x n*cS d n-sS x n*sS d n-cS (x+d) n)<=e:=zx8 x d e he
 have h2:Evt fun n=>zg (sS x n*cS d n+cS x n*sS d n-sS (x+d) n)<=e:=zzv x d e he
 refine(((h1.and h2).and (zxx x)).and (zrz hd)).mono fun n h=>?_
 obtain⟨⟨⟨a1,a2⟩,b1,b2⟩,c1,c2⟩:=h;rw[<-qi]at a1 a2;constructor
 .have:=qhj a1 (uh b1 c1) (uh (x:=2) (y:=2*zg d) (a:= -sS x n) (by rw[qi];exact b2) c2) (d:=cS (x+d) n-cS x n) (by grind);grind
 .have:=qhj a2 (uh b2 c1) (uh b1 c2) (d:=sS (x+d) n-sS x n) (by grind);grind
def pS(k:Nat)(s c:Rat):Rat:=if k % 4=1 then c else if k % 4=2 then-s else if k % 4=3 then-c else s
theorem pS_2(k:Nat)(s c:Rat):pS (k+1+1) s c= -(pS k s c):=by
 have:k % 4=0\/k % 4=1\/k % 4=2\/k % 4=3:=O;unfold pS;rcases this with h|h|h|h<;>simp[show(k+1+1) % 4=(k % 4+2) % 4 by omega,h]<;>grind
theorem zd5{h f:Rat}(hf:0<f)(hh:Evt fun n=>zg (cS h n)<=f/\zg (sS h n-1)<=f)(z:Rat):∀k:Nat,
 Evt fun n=>zg (sS (k*h+z) n-pS k (sS z n) (cS z n))<=k*(5*f)/\zg (cS (k*h+z) n-pS (k+1) (sS z n) (cS z n))<=k*(5*f)
 |0=>⟨0,fun n _=>by
  rw[show((0:Nat):Rat)=0 from rfl,qH,Rat.zero_add,qH];show zg (sS z n-sS z n)<=0/\zg (cS z n-cS z n)<=0;rw[qI,qI,zdt];exact⟨q9,q9⟩⟩
 |k+1=>by
  have ih:=zd5 hf hh z k;have h1:Evt fun n=>zg (cS h n*cS (k*h+z) n-sS h n*sS (k*h+z) n-cS (h+(k*h+z)) n)<=f:=zx8 h (k*h+z) f hf
  have h2:Evt fun n=>zg (sS h n*cS (k*h+z) n+cS h n*sS (k*h+z) n-sS (h+(k*h+z)) n)<=f:=zzv h (k*h+z) f hf
  refine((((h1.and h2).and (zxx (k*h+z))).and hh).and ih).mono fun n H=>?_
  obtain⟨⟨⟨⟨a1,a2⟩,b1,b2⟩,c1,c2⟩,d1,d2⟩:=H;have e:((k+1:Nat):Rat)=k+1:=Rat.natCast_add k 1;have eh:((k+1:Nat):Rat)*h+z=h+(k*h+z):=by rw[e];grind
  have ef:((k+1:Nat):Rat)*(5*f)=k*(5*f)+5*f:=by rw[e];grind
  rw[eh,ef,pS_2];generalize (k:Rat)*(5*f)=g at*;generalize (k:Rat)*h+z=y at*;rw[<-qi]at a1 a2;constructor
  .have h5:=qhj a2 (uh c2 b1) (uh c1 b2) (d:=sS (h+y) n-cS y n) (by grind);have h6:=wu (sS (h+y) n-cS y n) (cS y n-pS (k+1) (sS z n) (cS z n));rw[show sS (h+y) n-cS y n+(cS y n-pS (k+1) (sS z n) (cS z n))=sS (h+y) n-pS (k+1) (sS z n) (cS z n) by grind]at h6;grind
  .have h5:=qhj a1 (uh c1 b1) (uh (a:= -(sS h n-1)) (by rw[qi];exact c2) b2) (d:=cS (h+y) n- -sS y n) (by grind);have h6:=wu (cS (h+y) n- -sS y n) (-(sS y n-pS k (sS z n) (cS z n)));rw[qi,show cS (h+y) n- -sS y n+ -(sS y n-pS k (sS z n) (cS z n))=cS (h+y) n- -pS k (sS z n) (cS z n) by grind]at h6;grind
def sv(a:Fx):Rat:=if a.1=true then-(a.2:Rat)else(a.2:Rat)
theorem zkr(n:Nat):sv (true,n)= -(n:Rat):=rfl
theorem zsj(n:Nat):sv (false,n)=(n:Rat):=rfl
theorem zg3{a b:Nat}(h:b<=a):((a-b:Nat):Rat)=a-b:=by
 have:=wh (a-b) b;rw[(O:a-b+b=a)]at this;grind
theorem zed(a b:Fx):sv (jm a b)=sv a+sv b:=by
 obtain⟨p,m⟩:=a;obtain⟨q,n⟩:=b;cases p<;>cases q
 .show((m+n:Nat):Rat)=m+n;exact wh m n
 .show sv (if m<n then(true,n-m)else(false,m-n))=sv (false,m)+sv (true,n);split
  .rw[zkr,zsj,zkr,zg3 O];grind
  .rw[zsj,zsj,zkr,zg3 O];grind
 .show sv (if m<n then(false,n-m)else(true,m-n))=sv (true,m)+sv (false,n);split
  .rw[zsj,zsj,zkr,zg3 O];grind
  .rw[zkr,zsj,zkr,zg3 O];grind
 .show-((m+n:Nat):Rat)= -(m:Rat)+ -(n:Rat);rw[wh];grind
theorem zsi(a:Fx):sv (ngF a)= -(sv a):=by
 obtain⟨p,m⟩:=a;cases p
 .rfl
 .show(m:Rat)= - -(m:Rat);grind
theorem qb3(a:Fx):zg (sv a)=(a.2:Rat):=by
 obtain⟨p,m⟩:=a;cases p
 .exact qp (za8 m)
 .rw[zkr,qi];exact qp (za8 m)
theorem qiq(a c:Fx):sv (a.1 != c.1,a.2*c.2)=sv a*sv c:=by
 obtain⟨p,m⟩:=a;obtain⟨q,n⟩:=c;cases p<;>cases q
 .show((m*n:Nat):Rat)=m*n;exact qv m n
 .show-((m*n:Nat):Rat)=m* -(n:Rat);rw[qv];grind
 .show-((m*n:Nat):Rat)= -(m:Rat)*n;rw[qv];grind
 .show((m*n:Nat):Rat)= -(m:Rat)* -(n:Rat);rw[qv];grind
theorem qir(p:Bool)(m n:Nat)(c:Rat):zg (sv (p,m)-sv (p,n)*c)=zg (m-n*c):=by
 cases p
 .rfl
 .rw[zkr,zkr,<-qi];congr 1;grind
theorem qjh{A D:Nat}{c:Rat}(hc:0<=c)(hD:c*(D:Rat)=1):zg (((A/D:Nat):Rat)-A*c)<=1:=by
 have hD0:0<D:=by
  rcases Nat.eq_zero_or_pos D with h|h
  .subst h;rw[show((0:Nat):Rat)=0 from rfl,Rat.mul_zero]at hD;exact absurd hD OA
  .exact h
 have h1:((A/D*D:Nat):Rat)<=(A:Rat):=wz.2 (qF A D);have h2:(A:Rat)<=((A/D*D+D:Nat):Rat):=wz.2 (by have:=qd A D;have:=qG A hD0;have:=qK D (A/D);omega);rw[qv]at h1;rw[wh,qv]at h2;have h3:=q4 h1 hc;have h4:=q4 h2 hc;generalize ((A/D:Nat):Rat)=n at*;have e:c*(n*D)=n:=by rw[show c*(n*D)=n*(c*D) by grind,hD,qL]
 refine zd.2 ⟨?_,?_⟩<;>grind
theorem zwu(j:Nat):(1/((j+1:Nat):Rat))*((j+1:Nat):Rat)=1:=by
 have h0:(0:Rat)<((j+1:Nat):Rat):=Rat.natCast_pos.2 O;have h4:=Rat.mul_inv_cancel ((j+1:Nat):Rat) (by grind);rw[Rat.div_def,qM,qC];exact h4
def tX(x:Fx)(b:Nat):Nat->Fx
 |0=>(false,2^b)
 |k+1=>byF (zlg (tX x b k) x b) (k+1)
theorem qd8(x:Fx)(b k:Nat){u:Rat}(hu:0<u)(hub:u*((2^b:Nat):Rat)=1):zg (sv (tX x b (k+1))-sv (tX x b k)*sv x*(u*(1/((k+1:Nat):Rat))))<=1:=by
 rw[<-qiq,show tX x b (k+1)=((tX x b k).1 != x.1,(tX x b k).2*x.2/2^b/(k+1))from rfl,qir,Nat.div_div_eq_div_mul];refine qjh (q7 (q5 hu) (zne k).1) ?_;have h:=zwu k;rw[qv];generalize 1/((k+1:Nat):Rat)=i at*;rw[show u*i*(((2^b:Nat):Rat)*((k+1:Nat):Rat))=u*((2^b:Nat):Rat)*(i*((k+1:Nat):Rat)) by grind,hub,h,qM]
def eBq:Nat->Rat
 |0=>0
 |1=>1
 |2=>3
 |3=>5
 | _=>6
theorem eB_6:∀k,eBq k<=6
 |0=>OA
 |1=>OA
 |2=>OA
 |3=>OA
 |k+4=>by show(6:Rat)<=6;decide
theorem qge:∀k,eBq k*(4*(1/((k+1:Nat):Rat)))+1<=eBq (k+1)
 |0=>by show(0:Rat)*(4*(1/((0+1:Nat):Rat)))+1<=1;decide+kernel
 |1=>by show(1:Rat)*(4*(1/((1+1:Nat):Rat)))+1<=3;decide+kernel
 |2=>by show(3:Rat)*(4*(1/((2+1:Nat):Rat)))+1<=5;decide+kernel
 |3=>by show(5:Rat)*(4*(1/((3+1:Nat):Rat)))+1<=6;decide+kernel
 |k+4=>by
  show(6:Rat)*(4*(1/((k+4+1:Nat):Rat)))+1<=6;have h:=zwu (k+4);have h0:=(zne (k+4)).1;have h1:((5:Nat):Rat)<=((k+4+1:Nat):Rat):=wz.2 O;have h2:=q4 h1 h0;rw[h]at h2;generalize 1/((k+4+1:Nat):Rat)=i at*;have h3:i*5<=1:=h2;grind
theorem qbs{x:Fx}{b:Nat}{u:Rat}(hu:0<u)(hub:u*((2^b:Nat):Rat)=1)(hx:x.2<=4*2^b):zg (sv x*u)<=4:=by
 rw[yg,qb3,qp (q5 hu)];have h1:(x.2:Rat)<=((4*2^b:Nat):Rat):=wz.2 hx;rw[qv]at h1;have h2:=q6 h1 (q5 hu);rw[show((4:Nat):Rat)*((2^b:Nat):Rat)*u=((4:Nat):Rat)*(u*((2^b:Nat):Rat)) by grind,hub]at h2;have e:((4:Nat):Rat)*1=4:=qL _;rw[e]at h2;exact h2
theorem qb1{x:Fx}{b:Nat}{u:Rat}(hu:0<u)(hub:u*((2^b:Nat):Rat)=1)(hx:x.2<=4*2^b):∀k,zg (sv (tX x b k)*u-rQ (sv x*u) k)<=eBq k*u
 |0=>by
  show zg (((2^b:Nat):Rat)*u-1)<=0*u;rw[qC,hub,qI,zdt,qH];exact q9
 |k+1=>by
  have ih:=qb1 hu hub hx k;have hs:=qd8 x b k hu hub;have h4:=qbs hu hub hx;have hi:=(zne k).1;have hb:=qge k;show zg (sv (tX x b (k+1))*u-rQ (sv x*u) k*(sv x*u)*(1/((k+1:Nat):Rat)))<=_;generalize 1/((k+1:Nat):Rat)=i at*;have a1:=uh hs (show zg u<=u by rw[qp (q5 hu)];exact q9);have a2:=uh ih (uh h4 (show zg i<=i by rw[qp hi];exact q9));have a3:=q6 hb (q5 hu);have:=wu ((sv (tX x b (k+1))-sv (tX x b k)*sv x*(u*i))*u) ((sv (tX x b k)*u-rQ (sv x*u) k)*(sv x*u*i));rw[show(sv (tX x b (k+1))-sv (tX x b k)*sv x*(u*i))*u+(sv (tX x b k)*u-rQ (sv x*u) k)*(sv x*u*i)=sv (tX x b (k+1))*u-rQ (sv x*u) k*(sv x*u)*i by grind]at this;grind
theorem tX_z{x:Fx}{b j:Nat}(h:(tX x b j).2=0):∀d,(tX x b (j+d)).2=0
 |0=>h
 |d+1=>by
  show(tX x b (j+d)).2*x.2/2^b/(j+d+1)=0;rw[tX_z h d];simp
def tS(v:Nat->Rat)(x:Fx)(b n:Nat):Rat:=sQ (fun i=>sv (tX x b i)*v i) n
theorem sv_z{a:Fx}(h:a.2=0):sv a=0:=by
 obtain⟨p,m⟩:=a;have h:m=0:=h;subst h;cases p<;>rfl
theorem tS_z{v:Nat->Rat}{x:Fx}{b m:Nat}(h:(tX x b (m+1)).2=0):∀d,tS v x b (m+d)=tS v x b m
 |0=>rfl
 |d+1=>by
  show tS v x b (m+d)+sv (tX x b (m+d+1))*v (m+d+1)=_;have:=tX_z h d;rw[(O:m+1+d=m+d+1)]at this;rw[tS_z h d,sv_z this];grind
theorem zor(x:Fx)(b:Nat):∀(f m:Nat)(s c:Fx),sv s=tS (fun i=>(cU i).2) x b m->sv c=tS (fun i=>(cU i).1) x b m->
 sv (seG x b f (m+1) (tX x b m) s c).1=tS (fun i=>(cU i).2) x b (m+f)/\sv (seG x b f (m+1) (tX x b m) s c).2=tS (fun i=>(cU i).1) x b (m+f)
 |0,m,s,c,hs,hc=>⟨hs,hc⟩
 |f+1,m,s,c,hs,hc=>by
  simp only[seG];rw[show byF (zlg (tX x b m) x b) (m+1)=tX x b (m+1)from rfl];have es:tS (fun i=>(cU i).2) x b (m+1)=tS (fun i=>(cU i).2) x b m+sv (tX x b (m+1))*(cU (m+1)).2:=rfl;have ec:tS (fun i=>(cU i).1) x b (m+1)=tS (fun i=>(cU i).1) x b m+sv (tX x b (m+1))*(cU (m+1)).1:=rfl;obtain⟨k0,k1,k2,k3⟩:=qdf (m+1);split
  .rename_i hz;rw[tS_z hz,tS_z hz];exact⟨hs,hc⟩
  rw[(O:m+(f+1)=m+1+f)];split
  .rename_i h1;refine zor x b f (m+1) _ _ ?_ ?_
   .rw[zed,es,hs]
    congr 1
    split
    .rw[zsi,k3 O];show _=_*(-1:Rat);grind
    .rw[k1 O];show _=_*(1:Rat);grind
   .rw[ec,hc];have:(cU (m+1)).1=0:=by
     by_cases h3:(m+1) % 4=3
     .rw[k3 h3]
     .rw[k1 O]
    rw[this];grind
  .rename_i h1;refine zor x b f (m+1) _ _ ?_ ?_
   .rw[es,hs];have:(cU (m+1)).2=0:=by
     by_cases h3:(m+1) % 4=2
     .rw[k2 h3]
     .rw[k0 O]
    rw[this];grind
   .rw[zed,ec,hc]
    congr 1
    split
    .rw[zsi,k2 O];show _=_*(-1:Rat);grind
    .rw[k0 O];show _=_*(1:Rat);grind
theorem qb9(C:Rat):∀n:Nat,sQ (fun _=>C) n=((n+1:Nat):Rat)*C
 |0=>by show C=((0+1:Nat):Rat)*C;rw[show((0+1:Nat):Rat)=1 by decide];grind
 |n+1=>by
  show sQ _ n+C=_;rw[qb9 C n,wh (n+1) 1,show((1:Nat):Rat)=1 by decide];grind
theorem qio{x:Fx}{b:Nat}(hb:1<=b)(hx:x.2<=4*2^b):(tX x b (b+23)).2=0:=by
 have h:∀k,k<=b+22->seB b (k+1) (tX x b k).2:=fun k=>by
  induction k with
  |zero=>intro _;exact⟨fun _=>Nat.pow_lt_pow_right OA O,fun c=>absurd c OA⟩
  |succ k ih=>intro hk;exact zoq hx O O (ih O)
 have h1:=(h (b+22) (Nat.le_refl _)).2 O;rw[(O:b+23-(b+22+1)=0)]at h1;have h0:(tX x b (b+22)).2=0:=O;exact tX_z h0 1
theorem zub{v:Nat->Rat}(hv:∀i,zg (v i)<=1){x:Fx}{b:Nat}(hb:1<=b)(hx:x.2<=4*2^b){u:Rat}(hu:0<u)(hub:u*((2^b:Nat):Rat)=1){n:Nat}(hn:b+23<=n):
 zg (tS v x b (b+23)*u-vS v (sv x*u) n)<=((b+25:Nat):Rat)*(6*u):=by
 have h6:∀k,zg (sv (tX x b k)*u-rQ (sv x*u) k)<=6*u:=fun k=>by
  have h1:=qb1 hu hub hx k;have h2:=q6 (eB_6 k) (q5 hu);grind
 have e:tS v x b (b+23)*u-vS v (sv x*u) (b+23)=sQ (fun i=>(sv (tX x b i)*u-rQ (sv x*u) i)*v i) (b+23):=by
  rw[qC];unfold tS vS;rw[<-jv,<-zqb];exact yr fun i _=>by grind
 have h7:=zmo (f:=fun i=>(sv (tX x b i)*u-rQ (sv x*u) i)*v i) (k:=b+23);have h8:=zck (f:=fun i=>zg ((sv (tX x b i)*u-rQ (sv x*u) i)*v i)) (g:=fun _=>6*u) (k:=b+23) fun i _=>by
  have:=uh (h6 i) (hv i);grind
 rw[qb9]at h8;have h4:=qbs hu hub hx;have h9:=zy9 hv (q:=sv x*u) (K:=b+23) (by
  have:((8:Nat):Rat)<=((b+23+1:Nat):Rat):=wz.2 O;have h8:(8:Rat)<=((b+23+1:Nat):Rat):=this;grind) hn
 have h10:rQ (zg (sv x*u)) (b+23)<=6*u:=by
  rw[<-zei];have h:=h6 (b+23);rw[sv_z (qio hb hx)]at h;rw[show(0:Rat)*u-rQ (sv x*u) (b+23)= -rQ (sv x*u) (b+23) by grind,qi]at h;exact h
 have e2:((b+25:Nat):Rat)*(6*u)=((b+23+1:Nat):Rat)*(6*u)+6*u:=by
  rw[(O:b+25=b+23+1+1),wh (b+23+1) 1,show((1:Nat):Rat)=1 by decide];grind
 have h11:=wu (tS v x b (b+23)*u-vS v (sv x*u) (b+23)) (-(vS v (sv x*u) n-vS v (sv x*u) (b+23)));rw[qi,show tS v x b (b+23)*u-vS v (sv x*u) (b+23)+ -(vS v (sv x*u) n-vS v (sv x*u) (b+23))=tS v x b (b+23)*u-vS v (sv x*u) n by grind]at h11;rw[e]at h11;grind
theorem zuz{x:Fx}{b:Nat}(hb:1<=b)(hx:x.2<=4*2^b){u:Rat}(hu:0<u)(hub:u*((2^b:Nat):Rat)=1){n:Nat}(hn:b+23<=n):
 zg (sv (seF x b).1*u-sS (sv x*u) n)<=((b+25:Nat):Rat)*(6*u)/\zg (sv (seF x b).2*u-cS (sv x*u) n)<=((b+25:Nat):Rat)*(6*u):=by
 have h:=zor x b (b+23) 0 (false,0) (false,2^b) (by show(0:Rat)=((2^b:Nat):Rat)*0;grind) (by show((2^b:Nat):Rat)=((2^b:Nat):Rat)*1;grind);rw[show seG x b (b+23) (0+1) (tX x b 0) (false,0) (false,2^b)=seF x b from rfl,Nat.zero_add]at h;rw[h.1,h.2];exact⟨zub (fun i=>(ztl i).2) hb hx hu hub hn,zub (fun i=>(ztl i).1) hb hx hu hub hn⟩
theorem qjm(d:Dy):inI (dv d) (qc d):=.inr ⟨q9,q9⟩
theorem zvk(b:Nat):pw (-(b:Int))*((2^b:Nat):Rat)=1:=by
 rw[<-wa,<-pwA,show-(b:Int)+(b:Int)=((0:Nat):Int) by omega,wa];rfl
theorem mk_dv{neg:Bool}{n:Nat}{e:Int}(h:(mkN neg n e).2=0):dv (mkN neg n e).1=sv (neg,n)*pw e:=by
 unfold mkN at h⊢;split at h
 .exact absurd h OA
 .rename_i c;rw[Z5 c];unfold ckN at h⊢;split at h
  .rename_i c2;rw[Z4 c2];show dv (cnN neg n e)=_;rw[zkf];cases neg
   .rfl
   .show-((n:Rat)*pw e)= -(n:Rat)*pw e;grind
  .exact absurd h OA
theorem ne_in(a:Fx)(b p:Nat)(hp:8<=p/\p<=512){q:Rat}(h:zg (sv a*pw (-(b:Int))-q)<=pw ((24:Nat):Int)*pw (-(b:Int))):inI q (neI a b p):=by
 unfold neI;split
 .exact zi5 _
 .rename_i c;simp only[not_or,Decidable.not_not]at c;have e:∀s,(neX a b s).2=0->dv (neX a b s).1=(sv a+sv (s,2^24))*pw (-(b:Int)):=fun s hs=>by
   have:=mk_dv (neg:=(jm a (s,2^24)).1) (n:=(jm a (s,2^24)).2) (e:= -(b:Int)) hs;rw[show((jm a (s,2^24)).1,(jm a (s,2^24)).2)=jm a (s,2^24)from rfl,zed]at this;exact this
  have l:=e true c.1;have r:=e false c.2;rw[zkr,<-wa]at l;rw[zsj,<-wa]at r;obtain⟨h1,h2⟩:=zd.1 h;exact zzy (F:=fun up=>ql (neX a b true).1 p up) (G:=fun up=>ql (neX a b false).1 p up) (jf (qbf _ _ _) hp) (jf (qbf _ _ _) hp) (show dv (neX a b true).1<=q by rw[l];grind) (show q<=dv (neX a b false).1 by rw[r];grind)
theorem zv3(d:Dy)(c:Nat):vN (ofF d c).2 (-(c:Int))<=vN (nm d) d.e/\vN (nm d) d.e<=vN ((ofF d c).2+1) (-(c:Int)):=by
 unfold ofF;simp only;split
 .have e: -(c:Int)=d.e+((-(d.e+c)).toNat :Nat):=by omega
  rw[e,<-zaw,<-zaw];generalize (-(d.e+(c:Int))).toNat =k;have h0:=qn k;generalize 2^k=z at*;have h1:=qF (nm d) z;have h2:=qd (nm d) z;have h3:=qG (nm d) h0;have h4:=qK z (nm d/z);exact⟨xv.2 h1,xv.2 (by rw[Nat.add_mul,Nat.one_mul];omega)⟩
 .have e:vN (nm d) d.e=vN (nm d*2^(d.e+c).toNat) (-(c:Int)):=by
   rw[zaw];congr 1;omega
  rw[e];exact⟨q9,xv.2 (Nat.le_succ _)⟩
theorem ui{a b c:Rat}(h:a<=b)(hc:0<=c):a*c<=b*c:=q6 h hc
theorem zjr(n:Nat)(s c:Rat):pS (n % 4) s c=pS n s c/\pS (n % 4+1) s c=pS (n+1) s c:=by
 unfold pS;rw[Nat.mod_mod,show(n % 4+1) % 4=(n+1) % 4 by omega];exact⟨rfl,rfl⟩
theorem zvw(n:Nat)(s c:Rat):pS ((4-n % 4) % 4) s c= -pS n (-s) c/\pS ((4-n % 4) % 4+1) s c=pS (n+1) (-s) c:=by
 have:n % 4=0\/n % 4=1\/n % 4=2\/n % 4=3:=O;unfold pS;rcases this with h|h|h|h<;>simp[show(n+1) % 4=(n % 4+1) % 4 by omega,h]<;>grind
theorem pS_sv(k:Nat)(S C:Fx)(u:Rat):sv (ptS k S C)*u=pS k (sv S*u) (sv C*u):=by
 unfold ptS pS;split
 .rfl
 split
 .rw[zsi];grind
 split
 .rw[zsi];grind
 .rfl
theorem qjt{k:Nat}{s c s' c' M:Rat}(h1:zg (s-s')<=M)(h2:zg (c-c')<=M):zg (pS k s c-pS k s' c')<=M:=by
 unfold pS;split
 .exact h2
 split
 .rw[<-qi,show-(-s- -s')=s-s' by grind];exact h1
 split
 .rw[<-qi,show-(-c- -c')=c-c' by grind];exact h2
 .exact h1
def fS(cos:Bool)(q:Rat)(n:Nat):Rat:=if cos=true then cS q n else sS q n
theorem zkn:KI unI:=by
 refine⟨rfl,zl5,jo 1 OA,yn.2 ?_⟩;show dv (wx (-1))<=dv (wx 1);rw[je,je];decide
theorem zhk(cos:Bool)(q:Rat):lI (fS cos q) unI:=by
 refine zh6 zkn.dle fun e he=>?_
 obtain⟨K,hK⟩:=qdd q he;refine⟨K,fun n hn=>?_⟩;have e1:dv unI.lo= -1:=je (-1);have e2:dv unI.hi=1:=je 1;rw[e1,e2];obtain⟨h1,h2⟩:=hK n hn;obtain⟨a1,a2⟩:=zd.1 h1;obtain⟨b1,b2⟩:=zd.1 h2;cases cos
 .show-1-e<=sS q n/\sS q n<=1+e;constructor<;>grind
 .show-1-e<=cS q n/\cS q n<=1+e;constructor<;>grind
theorem qfx{s:Nat->Rat}{x y:Iv}(h:lI s x):lI s (zct x y):=zs8 (fun q hq=>by
 unfold zct;split
 .rename_i c;have hx:x.all=false:=by
   simp only[kB,Bool.and_eq_true,Bool.not_eq_true']at c;exact c.1.1
  rcases hq with a|⟨a,b⟩
  .rw[hx]at a;cases a
  .exact .inr ⟨q8 (zcq x.lo y.lo).1 a,q8 b (xi x.hi y.hi).1⟩
 .exact zi5 _) h
theorem qkd{s:Nat->Rat}{x y:Iv}(h:lI s x)(g:lI s y)(ok:(meI x y).2=true):lI s (meI x y).1:=by
 unfold meI at ok⊢;split
 .rename_i c;rw[Z4 c]at ok;cases ok
 rename_i c;rw[Z5 c]at ok;split
 .exact g
 rename_i c2;rw[Z5 c2]at ok;split
 .exact h
 rename_i c3;rw[Z5 c3]at ok;split
 .rename_i c4;rw[Z4 c4]at ok;cases ok
 rename_i c4;have hle:=yn.1 (Int.not_lt.1 c4);refine zh6 hle fun e he=>?_
 obtain⟨K,hK⟩:=zd3 h (by simpa using c2) he;obtain⟨L,hL⟩:=zd3 g (by simpa using c3) he;refine⟨K+L,fun n hn=>?_⟩;obtain⟨a1,a2⟩:=hK n O;obtain⟨b1,b2⟩:=hL n O;constructor
 .rcases(xi x.lo y.lo).2.2 with c|c
  .show dv (yi x.lo y.lo)-e<=_;rw[c];exact a1
  .show dv (yi x.lo y.lo)-e<=_;rw[c];exact b1
 .rcases(zcq x.hi y.hi).2.2 with c|c
  .show _<=dv (yk x.hi y.hi)+e;rw[c];exact a2
  .show _<=dv (yk x.hi y.hi)+e;rw[c];exact b2
def nB:Nat:=400
def pH2:Nat:=4056188623365485619431135675650447259580575800089632601795595518807615452686995249372761680463408407713783389863663788118
def hH:Rat:=(pH2:Rat)*pw (-(nB:Int))
def epH:Rat:=pw (-386)
theorem qk4:(seF (false,pH2) nB).2.2<=4096/\(seF (false,pH2) nB).1.1=false/\(seF (false,pH2) nB).1.2<=2^nB+4096/\2^nB<=(seF (false,pH2) nB).1.2+4096:=OB
theorem zvv:∀i:Fin 157,(piF (112+i.1)).2/2*2^(288-i.1)<=pH2+4096*2^(288-i.1)/\pH2<=(piF (112+i.1)).2/2*2^(288-i.1)+4096*2^(288-i.1)/\2^(112+i.1)<=(piF (112+i.1)).2/2:=OB
theorem ztc:Evt fun n=>zg (cS hH n)<=epH/\zg (sS hH n-1)<=epH:=by
 obtain⟨h1,h2,h3,h4⟩:=qk4;have hu:=jz (-((nB:Nat):Int));have hub:=zvk nB;refine⟨nB+23,fun n hn=>?_⟩;obtain⟨s1,s2⟩:=zuz (x:=(false,pH2)) (b:=nB) OA OB hu hub hn;rw[show sv (false,pH2)*pw (-((nB:Nat):Int))=hH from rfl]at s1 s2;have e1:sv (seF (false,pH2) nB).1=((seF (false,pH2) nB).1.2:Rat):=by unfold sv;rw[h2];rfl
 have a2:zg (sv (seF (false,pH2) nB).2)<=4096:=by
  rw[qb3];have:=wz.2 h1;exact this
 rw[e1]at s1;generalize (seF (false,pH2) nB).1.2=S at*;generalize sv (seF (false,pH2) nB).2=C at*;have k1:=wz.2 h3;have k2:=wz.2 h4;rw[wh]at k1 k2;have e4:((4096:Nat):Rat)=4096:=rfl;rw[e4]at k1 k2;have ef:epH=16384*pw (-((nB:Nat):Int)):=by
  have:(16384:Rat)=pw ((14:Nat):Int):=(wa 14).symm;rw[this,<-pwA];rfl
 have e5:((nB+25:Nat):Rat)=425:=rfl;rw[e5]at s1 s2;rw[ef];generalize ((2^nB:Nat):Rat)=W at*;generalize pw (-((nB:Nat):Int))=u at*;have m1:=q6 k1 (q5 hu);have m2:=q6 k2 (q5 hu);have m3:=uh a2 (show zg u<=u by rw[qp (q5 hu)];exact q9);obtain⟨p1,p2⟩:=zd.1 s1;obtain⟨p3,p4⟩:=zd.1 s2;obtain⟨p5,p6⟩:=zd.1 m3;refine⟨zd.2 ⟨?_,?_⟩,zd.2 ⟨?_,?_⟩⟩<;>grind
theorem zz1{d:Dy}{b:Nat}(hb:72<=b/\b<=128){s:Nat}(hs:(max (zf d) 0).toNat =s)(ht:s<=100)(hq:vN (nm d) d.e<=((2^s:Nat):Rat)):
 zg (vN (nm d) d.e-((rdQ d b:Rat)*hH+((rdF d b).2:Rat)*pw (-(b:Int))))<=2*pw (-(b:Int))/\(rdQ d b:Rat)<=((2^s:Nat):Rat):=by
 obtain⟨o1,o2⟩:=zv3 d (rdT d b);have eF:(rdF d b).2=(ofF d (rdT d b)).2 % ((piF (rdT d b)).2/2)/2^((max (zf d) 0).toNat +40):=rfl;rw[eF];unfold rdQ;have hc:rdT d b=b+((max (zf d) 0).toNat +40):=by unfold rdT;omega
 rw[hs]at hc⊢;obtain⟨t,htt⟩:∃t,t=s+40:=⟨_,rfl⟩;rw[<-htt]at hc⊢;generalize hcc:rdT d b=c at*;obtain⟨n1,n2,n3⟩:=zvv ⟨c-112,O⟩;simp only[(O:112+(c-112)=c),show 288-(c-112)=nB-c by unfold nB;omega]at n1 n2 n3;generalize (piF c).2/2=H at*;generalize (ofF d c).2=y at*;generalize vN (nm d) d.e=Q at*;unfold vN at o1 o2;rw[wh,show((1:Nat):Rat)=1 from rfl]at o2;have hP:=jz (-(c:Int));have eU:((2^t:Nat):Rat)*pw (-(c:Int))=pw (-(b:Int)):=by rw[<-wa,<-pwA];congr 1;omega
 have eV:((2^c:Nat):Rat)*pw (-(c:Int))=1:=by rw[qC];exact zvk c
 have eG:((2^(nB-c):Nat):Rat)*pw (-(nB:Int))=pw (-(c:Int)):=by rw[<-wa,<-pwA];congr 1;unfold nB;omega
 have e18:((2^s:Nat):Rat)*(16384*pw (-(c:Int)))<=pw (-(b:Int)):=by
  have:(16384:Rat)=pw ((14:Nat):Int):=(wa 14).symm;rw[this,<-wa,<-pwA,<-pwA];exact za7.2 O
 have e19:1<=((2^s:Nat):Rat):=wz.2 (show 1<=2^s from qn s);generalize ((2^s:Nat):Rat)=T at*;have y1:(y:Rat)=H*((y/H:Nat):Rat)+((y % H:Nat):Rat):=by rw[<-qv,<-wh,qd]
 generalize y/H=n at*;generalize y % H=r at*;have r1:(r:Rat)=((2^t:Nat):Rat)*((r/2^t:Nat):Rat)+((r % 2^t:Nat):Rat):=by rw[<-qv,<-wh,qd]
 have r2:((r % 2^t:Nat):Rat)<=((2^t:Nat):Rat):=wz.2 (Nat.le_of_lt (qG _ (qn t)));have r3:=za8 (r % 2^t);have r4:=za8 r;have n0:=za8 n;generalize r/2^t=x at*;generalize r % 2^t=w at*;have k1:=wz.2 n1;have k2:=wz.2 n2;have k3:=wz.2 n3;simp only[wh,qv]at k1 k2;rw[show((4096:Nat):Rat)=4096 from rfl]at k1 k2;have q0:=q5 (jz (-(nB:Int)));have j1:=ui k1 q0;have j2:=ui k2 q0;have j3:=ui k3 (q5 hP);rw[eV]at j3;have s1:(H:Rat)*pw (-(c:Int))<=hH+4096*pw (-(c:Int)):=by unfold hH;rw[<-eG];grind
 have s2:hH<=(H:Rat)*pw (-(c:Int))+4096*pw (-(c:Int)):=by unfold hH;rw[<-eG];grind
 have r5:=ui r2 (q5 hP);rw[eU]at r5;have r6:=q7 r3 (q5 hP);have r7:=q7 r4 (q5 hP);rw[y1]at o1 o2;have eR:(r:Rat)*pw (-(c:Int))=x*pw (-(b:Int))+w*pw (-(c:Int)):=by rw[r1,<-eU];grind
 have o3:(n:Rat)*(H*pw (-(c:Int)))+r*pw (-(c:Int))<=Q:=by grind
 have o4:Q<=(n:Rat)*(H*pw (-(c:Int)))+r*pw (-(c:Int))+pw (-(c:Int)):=by grind
 generalize (H:Rat)*pw (-(c:Int))=h at*;have t1:=q4 j3 n0;have hn:(n:Rat)<=T:=by grind
 have t2:=q4 s1 n0;have t3:=q4 s2 n0;have t4:=ui hn (q5 hP);rw[eR]at o3 o4;generalize (w:Rat)*pw (-(c:Int))=W at*;generalize (x:Rat)*pw (-(b:Int))=X at*;generalize pw (-(c:Int))=P at*;generalize pw (-(b:Int))=B at*;have z1:P<=T*P:=by have:=ui e19 (q5 hP);grind
 have z2:16384*(T*P)<=B:=by grind
 have t2':(n:Rat)*h<=n*hH+4096*(n*P):=by grind
 have t3':(n:Rat)*hH<=n*h+4096*(n*P):=by grind
 clear t2 t3 e18 e19 eF y1 r1 r2 r4 k1 k2 k3 q0 j1 j2 eV eG o1 o2 r7 eR t1 s1 s2;generalize (n:Rat)*h=a1 at*;generalize (n:Rat)*hH=a2 at*;generalize (n:Rat)*P=a3 at*;generalize T*P=a4 at*;refine⟨zd.2 ⟨?_,?_⟩,hn⟩<;>grind
theorem qjb{d:Dy}{b:Nat}(hb:72<=b/\b<=128){s:Nat}(hs:(max (zf d) 0).toNat =s)(ht:s<=100)(hq:vN (nm d) d.e<=((2^s:Nat):Rat)):
 Evt fun n=>zg (sS (dv d) n-pS (rdK d b) (sS (sv (rdF d b)*pw (-(b:Int))) n) (cS (sv (rdF d b)*pw (-(b:Int))) n))<=14*pw (-(b:Int))/\
  zg (cS (dv d) n-pS (rdK d b+1) (sS (sv (rdF d b)*pw (-(b:Int))) n) (cS (sv (rdF d b)*pw (-(b:Int))) n))<=14*pw (-(b:Int)):=by
 obtain⟨h1,h2⟩:=zz1 hb hs ht hq;have hB:=jz (-(b:Int));have hf:(0:Rat)<epH:=jz _;have h160:8*(((2^s:Nat):Rat)*epH)<=pw (-(b:Int)):=by
  have:(8:Rat)=pw ((3:Nat):Int):=(wa 3).symm;unfold epH;rw[this,<-wa,<-pwA,<-pwA];exact za7.2 O
 have hB1:2*pw (-(b:Int))<=1:=by
  have:(2:Rat)=pw ((1:Nat):Int):=(wa 1).symm;have e1:(1:Rat)=pw ((0:Nat):Int):=(wa 0).symm;rw[this,<-pwA,e1];exact za7.2 O
 have hm:=q6 h2 (q5 hf);have tn:=zd5 hf ztc (((rdF d b).2:Rat)*pw (-(b:Int))) (rdQ d b);have hd:zg (vN (nm d) d.e-((rdQ d b:Rat)*hH+((rdF d b).2:Rat)*pw (-(b:Int))))<=1:=q8 h1 hB1;have sh:=qa4 ((rdQ d b:Rat)*hH+((rdF d b).2:Rat)*pw (-(b:Int))) hd hB;rw[show(rdQ d b:Rat)*hH+((rdF d b).2:Rat)*pw (-(b:Int))+(vN (nm d) d.e-((rdQ d b:Rat)*hH+((rdF d b).2:Rat)*pw (-(b:Int))))=vN (nm d) d.e by grind]at sh;have key:=(tn.and sh).mono (Q:=fun n=>zg (sS (vN (nm d) d.e) n-pS (rdQ d b) (sS (((rdF d b).2:Rat)*pw (-(b:Int))) n) (cS (((rdF d b).2:Rat)*pw (-(b:Int))) n))<=14*pw (-(b:Int))/\
  zg (cS (vN (nm d) d.e) n-pS (rdQ d b+1) (sS (((rdF d b).2:Rat)*pw (-(b:Int))) n) (cS (((rdF d b).2:Rat)*pw (-(b:Int))) n))<=14*pw (-(b:Int))) fun n H=>by
  obtain⟨⟨a1,a2⟩,b1,b2⟩:=H;generalize (rdQ d b:Rat)*hH+((rdF d b).2:Rat)*pw (-(b:Int))=Y at*;constructor
  .have:=wu (sS (vN (nm d) d.e) n-sS Y n) (sS Y n-pS (rdQ d b) (sS (((rdF d b).2:Rat)*pw (-(b:Int))) n) (cS (((rdF d b).2:Rat)*pw (-(b:Int))) n));rw[show sS (vN (nm d) d.e) n-sS Y n+(sS Y n-pS (rdQ d b) (sS (((rdF d b).2:Rat)*pw (-(b:Int))) n) (cS (((rdF d b).2:Rat)*pw (-(b:Int))) n))=sS (vN (nm d) d.e) n-pS (rdQ d b) (sS (((rdF d b).2:Rat)*pw (-(b:Int))) n) (cS (((rdF d b).2:Rat)*pw (-(b:Int))) n) by grind]at this;grind
  .have:=wu (cS (vN (nm d) d.e) n-cS Y n) (cS Y n-pS (rdQ d b+1) (sS (((rdF d b).2:Rat)*pw (-(b:Int))) n) (cS (((rdF d b).2:Rat)*pw (-(b:Int))) n));rw[show cS (vN (nm d) d.e) n-cS Y n+(cS Y n-pS (rdQ d b+1) (sS (((rdF d b).2:Rat)*pw (-(b:Int))) n) (cS (((rdF d b).2:Rat)*pw (-(b:Int))) n))=cS (vN (nm d) d.e) n-pS (rdQ d b+1) (sS (((rdF d b).2:Rat)*pw (-(b:Int))) n) (cS (((rdF d b).2:Rat)*pw (-(b:Int))) n) by grind]at this;grind
 have eK:rdK d b=if d.neg=true then(4-rdQ d b % 4) % 4 else rdQ d b % 4:=rfl
 have eX:sv (rdF d b)=if d.neg=true then-((rdF d b).2:Rat)else((rdF d b).2:Rat):=rfl
 have eD:dv d=if d.neg=true then-(vN (nm d) d.e)else vN (nm d) d.e:=rfl
 refine key.mono fun n H=>?_
 rw[eK,eX,eD];cases d.neg
 .rw[Z5 OA,Z5 OA,Z5 OA,(zjr _ _ _).1,(zjr _ _ _).2];exact H
 .rw[Z4 rfl,Z4 rfl,Z4 rfl,(zvw _ _ _).1,(zvw _ _ _).2];rw[show-((rdF d b).2:Rat)*pw (-(b:Int))= -(((rdF d b).2:Rat)*pw (-(b:Int))) by grind,zjn,zr4,zjn,zr4];rw[show- -sS (((rdF d b).2:Rat)*pw (-(b:Int))) n=sS (((rdF d b).2:Rat)*pw (-(b:Int))) n by grind];refine⟨?_,H.2⟩;rw[<-qi];refine q8 ?_ H.1;rw[show ∀A B:Rat,-(-A- -B)=A-B from fun A B=>by grind];exact q9
theorem qcg{d:Dy}(hd:VD d)(h100:zf d<=100)(cos:Bool){p:Nat}(hp:8<=p/\p<=64):lI (fS cos (dv d)) (ptI d cos p):=by
 unfold ptI;split
 .rename_i h0;have h0:=(kg d).2.2.1 h0;cases cos
  .rw[Z5 OA];refine zft 0 fun n _=>?_
   have:=qjm d;rw[h0]at this⊢;show inI (sS 0 n) _;rw[sS_0];exact this
  .rw[Z4 rfl];refine zft 0 fun n _=>?_
   rw[h0];show inI (cS 0 n) _;rw[cS_0];exact zce 1
 .obtain⟨s,hs⟩:∃s,(max (zf d) 0).toNat =s:=⟨_,rfl⟩;have hq:vN (nm d) d.e<=((2^s:Nat):Rat):=by
   rw[<-wa];by_cases c:nm d=0
   .rw[c];refine q8 ?_ (q5 (jz _));have:=zb8 0 d.e;unfold vN;rw[show((0:Nat):Rat)=0 from rfl];grind
   .have ht:zf d=(bl (nm d):Int)+d.e:=by unfold zf;rw[Z5 c]
    exact q5 (zai O)
  have hb:72<=p+64/\p+64<=128:=O;have hB:=jz (-((p+64:Nat):Int));obtain⟨K,hK⟩:=qjb hb hs O hq;refine zft (K+(p+64+23)) fun n hn=>?_
  obtain⟨a1,a2⟩:=hK n O;obtain⟨s1,s2⟩:=zuz (x:=rdF d (p+64)) (b:=p+64) O (qjc d) hB (zvk (p+64)) (n:=n) O;have hM:((p+64+25:Nat):Rat)*(6*pw (-((p+64:Nat):Int)))<=1000*pw (-((p+64:Nat):Int)):=by
   have:=wz.2 (O:p+64+25<=160);have h2:=ui this (show 0<=6*pw (-((p+64:Nat):Int)) by grind);rw[show((160:Nat):Rat)=160 from rfl]at h2;grind
  refine ne_in _ _ _ O ?_;have e24:pw ((24:Nat):Int)=16777216:=wa 24;rw[e24,pS_sv];have l:=fun k=>qjt (k:=k) (q8 s1 hM) (q8 s2 hM)
  cases cos
  .rw[Z5 OA,Nat.add_zero];show zg (_-sS (dv d) n)<=_;have:=qhj (l (rdK d (p+64))) (show zg (-(sS (dv d) n-pS (rdK d (p+64)) (sS (sv (rdF d (p+64))*pw (-((p+64:Nat):Int))) n) (cS (sv (rdF d (p+64))*pw (-((p+64:Nat):Int))) n)))<=_ by rw[qi];exact a1) (OA:zg 0<=0) (d:=pS (rdK d (p+64)) (sv (seF (rdF d (p+64)) (p+64)).1*pw (-((p+64:Nat):Int))) (sv (seF (rdF d (p+64)) (p+64)).2*pw (-((p+64:Nat):Int)))-sS (dv d) n) (by grind);grind
  .rw[Z4 rfl];show zg (_-cS (dv d) n)<=_;have:=qhj (l (rdK d (p+64)+1)) (show zg (-(cS (dv d) n-pS (rdK d (p+64)+1) (sS (sv (rdF d (p+64))*pw (-((p+64:Nat):Int))) n) (cS (sv (rdF d (p+64))*pw (-((p+64:Nat):Int))) n)))<=_ by rw[qi];exact a2) (OA:zg 0<=0) (d:=pS (rdK d (p+64)+1) (sv (seF (rdF d (p+64)) (p+64)).1*pw (-((p+64:Nat):Int))) (sv (seF (rdF d (p+64)) (p+64)).2*pw (-((p+64:Nat):Int)))-cS (dv d) n) (by grind);grind
theorem rQ_3(u:Rat):rQ u 3=u*(u*u)/6:=by
 show 1*u*(1/((0+1:Nat):Rat))*u*(1/((1+1:Nat):Rat))*u*(1/((2+1:Nat):Rat))=_;rw[show(1/((0+1:Nat):Rat):Rat)=1 by decide+kernel,show(1/((1+1:Nat):Rat):Rat)=1/2 by decide+kernel,show(1/((2+1:Nat):Rat):Rat)=1/3 by decide+kernel];grind
theorem qje(u:Rat):rQ u 1=u:=by
 show 1*u*(1/((0+1:Nat):Rat))=u;rw[show(1/((0+1:Nat):Rat):Rat)=1 by decide+kernel];grind
theorem zuu{u:Rat}(h0:0<=u)(h1:u<=17/10){n:Nat}(hn:3<=n):u*(11/300)<=sS u n:=by
 have hu:zg u*2<=((3+1:Nat):Rat):=by
  rw[qp h0];show u*2<=(4:Rat);grind
 have h2:=zy9 (v:=fun i=>(cU i).2) (fun i=>(ztl i).2) hu hn;have e2:vS (fun i=>(cU i).2) u 3=u-rQ u 3:=by
  show 1*0+rQ u 1*1+rQ u 2*(-0)+rQ u 3*(-1)=u-rQ u 3;rw[qje];grind
 rw[e2,qp h0,rQ_3]at h2;have h3:=(zd.1 h2).1;have e3:sS u n=vS (fun i=>(cU i).2) u n:=rfl;rw[e3];have h4:u*u<=289/100:=by
  have a:=q4 h1 h0;grind
 have h5:=q4 h4 h0;grind
theorem zww:157/100<=hH/\hH<=1571/1000:=OB
def mgE:Rat:=pw (-200)
theorem zq3:0<mgE:=jz _
theorem zli:mgE<=1/100:=OB
theorem qga:1000*epH<=mgE*(1/1000):=OB
theorem zke:0<epH:=jz _
theorem nat2:((2:Nat):Rat)=2:=rfl
theorem nat4:((4:Nat):Rat)=4:=rfl
theorem sgn1{m:Rat}(h0:mgE<=m)(h1:m<=2*hH-mgE):Evt fun n=>mgE*(1/40)<=sS m n:=by
 have hp:=zq3;by_cases c:m<=17/10
 .exact⟨3,fun n hn=>by have:=zuu (by grind) c hn;grind⟩
 .have hn:=zww;have t:=zd5 zke ztc (-(2*hH-m)) 2;have e:((2:Nat):Rat)*hH+ -(2*hH-m)=m:=by rw[nat2];grind
  rw[e]at t;have s:Evt fun n=>(2*hH-m)*(11/300)<=sS (2*hH-m) n:=⟨3,fun n hn=>zuu (by grind) (by grind) hn⟩
  refine(t.and s).mono fun n H=>?_
  obtain⟨⟨t1,_⟩,s1⟩:=H;have e2:pS 2 (sS (-(2*hH-m)) n) (cS (-(2*hH-m)) n)=sS (2*hH-m) n:=by
   rw[zjn];show- -(sS (2*hH-m) n)=_;grind
  rw[e2,nat2]at t1;have:=(zd.1 t1).1;have:=qga;grind
theorem sgn0{d:Rat}(h0:0<=d)(h1:d<=2*hH-mgE):Evt fun n=>0<=sS d n:=by
 by_cases c:mgE<=d
 .exact(sgn1 c h1).mono fun n h=>by have:=zq3;grind
 .have:=zli;exact⟨3,fun n hn=>by have:=zuu h0 (by grind) hn;grind⟩
theorem sgn2{m:Rat}(h0:2*hH+mgE<=m)(h1:m<=4*hH-mgE):Evt fun n=>sS m n<= -(mgE*(1/50)):=by
 have t:=zd5 zke ztc (-(4*hH-m)) 4;have e:((4:Nat):Rat)*hH+ -(4*hH-m)=m:=by rw[nat4];grind
 rw[e]at t;refine(t.and (sgn1 (m:=4*hH-m) (by grind) (by grind))).mono fun n H=>?_
 obtain⟨⟨t1,_⟩,s1⟩:=H;have e2:pS 4 (sS (-(4*hH-m)) n) (cS (-(4*hH-m)) n)= -(sS (4*hH-m) n):=by rw[zjn];rfl
 rw[e2,nat4]at t1;have:=(zd.1 t1).2;have:=qga;have:=zq3;grind
theorem sgn3{m:Rat}(h0:2*hH-1/10<=m)(h1:m<=2*hH+1/10):Evt fun n=>cS m n<= -(1/2):=by
 have t:=zd5 zke ztc (m-2*hH) 2;have e:((2:Nat):Rat)*hH+(m-2*hH)=m:=by rw[nat2];grind
 rw[e]at t;have hr:zg (m-2*hH)<=1/10:=zd.2 ⟨by grind,by grind⟩;refine(t.and (zrz (d:=m-2*hH) (by grind))).mono fun n H=>?_
 obtain⟨⟨_,t1⟩,s1,_⟩:=H;have e2:pS (2+1) (sS (m-2*hH) n) (cS (m-2*hH) n)= -(cS (m-2*hH) n):=rfl;rw[e2,nat2]at t1;have:=(zd.1 t1).2;have:=(zd.1 s1).1;have:=qga;have:=zli;grind
def Fw(w:Nat)(x:Rat)(n:Nat):Rat:=if w=0 then cS x n else if w=1 then sS x n else if w=2 then-(cS x n)else-(sS x n)
def Gw(w:Nat)(x:Rat)(n:Nat):Rat:=if w=0 then sS x n else if w=1 then-(cS x n)else if w=2 then-(sS x n)else cS x n
theorem qg3(x d:Rat){e:Rat}(he:0<e):Evt fun n=>(zg (cS x n*cS d n-sS x n*sS d n-cS (x+d) n)<=e/\zg (cS x n*cS d n+sS x n*sS d n-cS (x-d) n)<=e)/\
 zg (sS x n*cS d n+cS x n*sS d n-sS (x+d) n)<=e/\zg (sS x n*cS d n-cS x n*sS d n-sS (x-d) n)<=e:=by
 have h1:Evt _:=zx8 x d e he;have h2:Evt _:=zx8 x (-d) e he;have h3:Evt _:=zzv x d e he;have h4:Evt _:=zzv x (-d) e he;refine((h1.and h2).and (h3.and h4)).mono fun n H=>?_
 obtain⟨⟨a,b⟩,c,d'⟩:=H;simp only[zr4,zjn,show x+ -d=x-d by grind]at b d';refine⟨⟨a,?_⟩,c,?_⟩
 .rw[show cS x n*cS d n+sS x n*sS d n-cS (x-d) n=cS x n*cS d n-sS x n* -sS d n-cS (x-d) n by grind];exact b
 .rw[show sS x n*cS d n-cS x n*sS d n-sS (x-d) n=sS x n*cS d n+cS x n* -sS d n-sS (x-d) n by grind];exact d'
theorem difw{w:Nat}(hw:w<4)(M d:Rat){e:Rat}(he:0<e):Evt fun n=>zg (Fw w (M-d) n-Fw w (M+d) n-2*(Gw w M n*sS d n))<=2*e/\zg (Gw w (M+d) n-Gw w (M-d) n-2*(Fw w M n*sS d n))<=2*e:=by
 refine(qg3 M d he).mono fun n H=>?_
 obtain⟨⟨a1,a2⟩,a3,a4⟩:=H;obtain⟨b1,c1⟩:=zd.1 a1;obtain⟨b2,c2⟩:=zd.1 a2;obtain⟨b3,c3⟩:=zd.1 a3;obtain⟨b4,c4⟩:=zd.1 a4;clear a1 a2 a3 a4;have h4:w=0\/w=1\/w=2\/w=3:=O;rcases h4 with rfl|rfl|rfl|rfl
 .show zg (cS (M-d) n-cS (M+d) n-2*(sS M n*sS d n))<=2*e/\zg (sS (M+d) n-sS (M-d) n-2*(cS M n*sS d n))<=2*e;exact⟨zd.2 ⟨by grind,by grind⟩,zd.2 ⟨by grind,by grind⟩⟩
 .show zg (sS (M-d) n-sS (M+d) n-2*(-(cS M n)*sS d n))<=2*e/\zg (-(cS (M+d) n)- -(cS (M-d) n)-2*(sS M n*sS d n))<=2*e;exact⟨zd.2 ⟨by grind,by grind⟩,zd.2 ⟨by grind,by grind⟩⟩
 .show zg (-(cS (M-d) n)- -(cS (M+d) n)-2*(-(sS M n)*sS d n))<=2*e/\zg (-(sS (M+d) n)- -(sS (M-d) n)-2*(-(cS M n)*sS d n))<=2*e;exact⟨zd.2 ⟨by grind,by grind⟩,zd.2 ⟨by grind,by grind⟩⟩
 .show zg (-(sS (M-d) n)- -(sS (M+d) n)-2*(cS M n*sS d n))<=2*e/\zg (cS (M+d) n-cS (M-d) n-2*(-(sS M n)*sS d n))<=2*e;exact⟨zd.2 ⟨by grind,by grind⟩,zd.2 ⟨by grind,by grind⟩⟩
theorem apx{w:Nat}(hw:w<4)(k:Int)(m:Rat){B:Rat}(hB:(((w:Int)+4*k).natAbs :Rat)*(5*epH)<=B):
 Evt fun n=>zg (Gw w ((((w:Int)+4*k:Int):Rat)*hH+m) n-sS m n)<=B/\zg (Fw w ((((w:Int)+4*k:Int):Rat)*hH+m) n-cS m n)<=B:=by
 have h4:w=0\/w=1\/w=2\/w=3:=O;rcases Int.le_total 0 ((w:Int)+4*k)with c|c
 .obtain⟨N,hN⟩:∃N:Nat,(w:Int)+4*k=N:=⟨((w:Int)+4*k).toNat,O⟩;have hm:N % 4=w:=O;rw[hN]at hB⊢;rw[Int.natAbs_natCast]at hB;have e0:(((N:Nat):Int):Rat)=(N:Rat):=rfl;rw[e0];refine(zd5 zke ztc m N).mono fun n H=>?_
  obtain⟨a,b⟩:=H;obtain⟨a1,a2⟩:=zd.1 (q8 a hB);obtain⟨b1,b2⟩:=zd.1 (q8 b hB);rw[<-(zjr N (sS m n) (cS m n)).1,hm]at a1 a2;rw[<-(zjr N (sS m n) (cS m n)).2,hm]at b1 b2;generalize (N:Rat)*hH+m=x at*;clear a b hN hm hB;rcases h4 with rfl|rfl|rfl|rfl
  .exact⟨zd.2 ⟨a1,a2⟩,zd.2 ⟨b1,b2⟩⟩
  .have a1: -B<=sS x n-cS m n:=a1;have a2:sS x n-cS m n<=B:=a2;have b1: -B<=cS x n- -(sS m n):=b1;have b2:cS x n- -(sS m n)<=B:=b2;show zg (-(cS x n)-sS m n)<=B/\zg (sS x n-cS m n)<=B;exact⟨zd.2 ⟨by grind,by grind⟩,zd.2 ⟨a1,a2⟩⟩
  .have a1: -B<=sS x n- -(sS m n):=a1;have a2:sS x n- -(sS m n)<=B:=a2;have b1: -B<=cS x n- -(cS m n):=b1;have b2:cS x n- -(cS m n)<=B:=b2;show zg (-(sS x n)-sS m n)<=B/\zg (-(cS x n)-cS m n)<=B;exact⟨zd.2 ⟨by grind,by grind⟩,zd.2 ⟨by grind,by grind⟩⟩
  .have a1: -B<=sS x n- -(cS m n):=a1;have a2:sS x n- -(cS m n)<=B:=a2;have b1: -B<=cS x n-sS m n:=b1;have b2:cS x n-sS m n<=B:=b2;show zg (cS x n-sS m n)<=B/\zg (-(sS x n)-cS m n)<=B;exact⟨zd.2 ⟨b1,b2⟩,zd.2 ⟨by grind,by grind⟩⟩
 .obtain⟨N,hN⟩:∃N:Nat,(w:Int)+4*k= -(N:Int):=⟨((w:Int)+4*k).natAbs,O⟩;have hm:(N+w) % 4=0:=O;rw[hN]at hB⊢;rw[Int.natAbs_neg,Int.natAbs_natCast]at hB;have e0:((-(N:Int):Int):Rat)= -(N:Rat):=by rw[qE];rfl
  rw[e0];have t:=zd5 zke ztc (-(N:Rat)*hH+m) N;rw[show(N:Rat)*hH+(-(N:Rat)*hH+m)=m by grind]at t;refine t.mono fun n H=>?_
  obtain⟨a,b⟩:=H;obtain⟨a1,a2⟩:=zd.1 (q8 a hB);obtain⟨b1,b2⟩:=zd.1 (q8 b hB);generalize-(N:Rat)*hH+m=x at*;rw[<-(zjr N (sS x n) (cS x n)).1]at a1 a2;rw[<-(zjr N (sS x n) (cS x n)).2]at b1 b2;clear a b hN hB t;rcases h4 with rfl|rfl|rfl|rfl
  .rw[(O:N % 4=0)]at a1 a2 b1 b2;have a1: -B<=sS m n-sS x n:=a1;have a2:sS m n-sS x n<=B:=a2;have b1: -B<=cS m n-cS x n:=b1;have b2:cS m n-cS x n<=B:=b2;show zg (sS x n-sS m n)<=B/\zg (cS x n-cS m n)<=B;exact⟨zd.2 ⟨by grind,by grind⟩,zd.2 ⟨by grind,by grind⟩⟩
  .rw[(O:N % 4=3)]at a1 a2 b1 b2;have a1: -B<=sS m n- -(cS x n):=a1;have a2:sS m n- -(cS x n)<=B:=a2;have b1: -B<=cS m n-sS x n:=b1;have b2:cS m n-sS x n<=B:=b2;show zg (-(cS x n)-sS m n)<=B/\zg (sS x n-cS m n)<=B;exact⟨zd.2 ⟨by grind,by grind⟩,zd.2 ⟨by grind,by grind⟩⟩
  .rw[(O:N % 4=2)]at a1 a2 b1 b2;have a1: -B<=sS m n- -(sS x n):=a1;have a2:sS m n- -(sS x n)<=B:=a2;have b1: -B<=cS m n- -(cS x n):=b1;have b2:cS m n- -(cS x n)<=B:=b2;show zg (-(sS x n)-sS m n)<=B/\zg (-(cS x n)-cS m n)<=B;exact⟨zd.2 ⟨by grind,by grind⟩,zd.2 ⟨by grind,by grind⟩⟩
  .rw[(O:N % 4=1)]at a1 a2 b1 b2;have a1: -B<=sS m n-cS x n:=a1;have a2:sS m n-cS x n<=B:=a2;have b1: -B<=cS m n- -(sS x n):=b1;have b2:cS m n- -(sS x n)<=B:=b2;show zg (cS x n-sS m n)<=B/\zg (-(sS x n)-cS m n)<=B;exact⟨zd.2 ⟨by grind,by grind⟩,zd.2 ⟨by grind,by grind⟩⟩
theorem qls{w:Nat}(hw:w<4)(k:Int)(hk:(((w:Int)+4*k).natAbs :Rat)*(5*epH)<=mgE*(1/1000)){lo q hi L:Rat}(hL:L=(((w:Int)+4*k:Int):Rat)*hH)
 (h1:L+mgE<=lo) (h2:lo<=q) (h3:q<=hi) (h4:hi<=L+4*hH-mgE) {e:Rat} (he:0<e):Evt fun n=>Fw w q n<=Fw w lo n+e\/Fw w q n<=Fw w hi n+e:=by
 have hp:=zq3;have hs:=zli;have hn:=zww;have he8:0<e/8:=by grind
 have A:=(difw hw ((lo+q)/2) ((q-lo)/2) he8).mono fun n h=>h.1
 have A':=(difw hw ((q+hi)/2) ((hi-q)/2) he8).mono fun n h=>h.1
 have s1:=sgn0 (d:=(q-lo)/2) (by grind) (by grind);have s2:=sgn0 (d:=(hi-q)/2) (by grind) (by grind);simp only[show(lo+q)/2-(q-lo)/2=lo by grind,show(lo+q)/2+(q-lo)/2=q by grind]at A;simp only[show(q+hi)/2-(hi-q)/2=q by grind,show(q+hi)/2+(hi-q)/2=hi by grind]at A';have P:=(apx hw k ((lo+q)/2-L) hk).mono fun n h=>h.1
 have P':=(apx hw k ((q+hi)/2-L) hk).mono fun n h=>h.1
 simp only[<-hL,show L+((lo+q)/2-L)=(lo+q)/2 by grind]at P;simp only[<-hL,show L+((q+hi)/2-L)=(q+hi)/2 by grind]at P';by_cases c1:(lo+q)/2-L<=2*hH-1/20
 .refine(((sgn1 (m:=(lo+q)/2-L) (by grind) (by grind)).and P).and (A.and s1)).mono fun n H=>.inl ?_
  obtain⟨⟨a,b⟩,c,d⟩:=H;have b:=(zd.1 b).1;have c:=(zd.1 c).1;have g:0<=Gw w ((lo+q)/2) n:=by grind
  have:=q7 g d;grind
 by_cases c2:2*hH+1/20<=(q+hi)/2-L
 .refine(((sgn2 (m:=(q+hi)/2-L) (by grind) (by grind)).and P').and (A'.and s2)).mono fun n H=>.inr ?_
  obtain⟨⟨a,b⟩,c,d⟩:=H;have b:=(zd.1 b).2;have c:=(zd.1 c).2;have g:0<= -(Gw w ((q+hi)/2) n):=by grind
  have:=q7 g d;grind
 have D:=(difw hw (((lo+q)/2+(q+hi)/2)/2) (((q+hi)/2-(lo+q)/2)/2) (show 0<e/64 by grind)).mono fun n h=>h.2
 have s3:=sgn0 (d:=((q+hi)/2-(lo+q)/2)/2) (by grind) (by grind);have P3:=(apx hw k (((lo+q)/2+(q+hi)/2)/2-L) hk).mono fun n h=>h.2
 have s4:=sgn3 (m:=((lo+q)/2+(q+hi)/2)/2-L) (by grind) (by grind);simp only[<-hL,show L+(((lo+q)/2+(q+hi)/2)/2-L)=((lo+q)/2+(q+hi)/2)/2 by grind]at P3;simp only[show((lo+q)/2+(q+hi)/2)/2+((q+hi)/2-(lo+q)/2)/2=(q+hi)/2 by grind,show((lo+q)/2+(q+hi)/2)/2-((q+hi)/2-(lo+q)/2)/2=(lo+q)/2 by grind]at D;have T:=(zxx ((hi-q)/2)).mono fun n h=>h.2
 refine((((D.and s3).and (P3.and s4)).and (A.and s1)).and ((A'.and s2).and T)).mono fun n H=>?_
 obtain⟨⟨⟨⟨d1,d2⟩,d3,d4⟩,a1,a2⟩,⟨b1,b2⟩,t⟩:=H;have d1:=(zd.1 d1).2;have d3:=(zd.1 d3).2;have a1:=(zd.1 a1).1;have b1:=(zd.1 b1).2;have t:=(zd.1 t).2;clear A A' s1 s2 P P' D s3 P3 s4 T;generalize Fw w (((lo+q)/2+(q+hi)/2)/2) n=f0 at*;generalize sS (((q+hi)/2-(lo+q)/2)/2) n=z0 at*;generalize sS ((q-lo)/2) n=z1 at*;generalize sS ((hi-q)/2) n=z2 at*;generalize Gw w ((lo+q)/2) n=g1 at*;generalize Gw w ((q+hi)/2) n=g2 at*;have f1:0<= -f0:=by grind
 have m1:=q7 f1 d2;by_cases c:0<=g1
 .have:=q7 c a2;exact .inl (by grind)
 .have g3:g2<=e/32:=by grind
  have m2:=q7 (show 0<=e/32-g2 by grind) b2;have m3:=q7 (show 0<=e/32 by grind) (show 0<=2-z2 by grind);exact .inr (by grind)
theorem zj1(m:Nat):((-(m:Int):Int):Rat)= -(m:Rat):=by rw[qE];rfl
theorem sv_sc(p:Bool)(m n:Nat):sv (p,m*n)=sv (p,m)*(n:Rat):=by
 cases p
 .rw[zsj,zsj,qv]
 .rw[zkr,zkr,qv];grind
theorem qf3(a:Fx){c:Fx}(h0:c.2≠0):∃K:Int,sv (flF a c)=(K:Rat)/\(K:Rat)*(c.2:Rat)<=sv a/\sv a<((K:Rat)+1)*(c.2:Rat):=by
 obtain⟨s,n⟩:=a;have hd:=qd n c.2;have hm:=qG n (qA h0);have e1:(n:Rat)=(c.2:Rat)*((n/c.2:Nat):Rat)+((n % c.2:Nat):Rat):=by rw[<-qv,<-wh,hd]
 have m0:=za8 (n % c.2);have m1:((n % c.2:Nat):Rat)<(c.2:Rat):=zle.2 hm;unfold flF
 cases s with
 |false=>
  rw[Z5 OC];refine⟨((n/c.2:Nat):Int),rfl,?_,?_⟩
  .show((n/c.2:Nat):Rat)*(c.2:Rat)<=sv (false,n);rw[zsj];grind
  .show sv (false,n)<(((n/c.2:Nat):Rat)+1)*(c.2:Rat);rw[zsj];grind
 |true=>
  by_cases hr:n % c.2=0
  .rw[Z5 (by simp[hr])];rw[hr]at e1;refine⟨-((n/c.2:Nat):Int),by rw[zkr,zj1],?_,?_⟩
   .rw[zj1,zkr];rw[show((0:Nat):Rat)=0 from rfl]at e1;grind
   .have hc0:((0:Nat):Rat)<(c.2:Rat):=zle.2 (qA h0);rw[show((0:Nat):Rat)=0 from rfl]at hc0;rw[zj1,zkr];rw[show((0:Nat):Rat)=0 from rfl]at e1;grind
  .rw[Z4 ⟨rfl,hr⟩];have m2:((0:Nat):Rat)<((n % c.2:Nat):Rat):=zle.2 (qA hr);rw[show((0:Nat):Rat)=0 from rfl]at m2;refine⟨-((n/c.2+1:Nat):Int),?_,?_,?_⟩
   .rw[zed,zkr,zkr,zj1,wh];show _+ -(1:Rat)= -(_+(1:Rat));grind
   .rw[zj1,zkr,wh];rw[show((1:Nat):Rat)=1 from rfl];grind
   .rw[zj1,zkr,wh];rw[show((1:Nat):Rat)=1 from rfl];grind
theorem qjy(d:Dy)(c:Nat):zg (sv (ofF d c)*pw (-(c:Int))-dv d)<=pw (-(c:Int)):=by
 obtain⟨h1,h2⟩:=zv3 d c;have h3:(ofF d c).1=d.neg:=rfl;unfold vN at h1 h2;rw[wh,show((1:Nat):Rat)=1 from rfl]at h2;unfold dv sv vN;rw[h3];cases d.neg
 .rw[Z5 OA,Z5 OA];exact zd.2 ⟨by grind,by grind⟩
 .rw[Z4 rfl,Z4 rfl];exact zd.2 ⟨by grind,by grind⟩
theorem zqw(m:Nat):∃r:Rat,0<=r/\r<=1/\(m:Rat)=2*((m/2:Nat):Rat)+r:=by
 refine⟨((m % 2:Nat):Rat),za8 _,wz.2 (O:m % 2<=1),?_⟩;have h:=qd m 2;have:(m:Rat)=((2*(m/2)+m % 2:Nat):Rat):=by rw[h]
 rw[this,wh,qv];rfl
theorem qe4{b:Nat}(hb:112<=b/\b<=268):zg (((piF b).2:Rat)*pw (-(b:Int))-2*hH)<=8193*pw (-(b:Int)):=by
 obtain⟨n1,n2,_⟩:=zvv ⟨b-112,O⟩;simp only[(O:112+(b-112)=b),show 288-(b-112)=nB-b by unfold nB;omega]at n1 n2;obtain⟨r,r0,r1,e⟩:=zqw (piF b).2;rw[e];generalize (piF b).2/2=H at*;have hP:=jz (-(b:Int));have eG:((2^(nB-b):Nat):Rat)*pw (-(nB:Int))=pw (-(b:Int)):=by rw[<-wa,<-pwA];congr 1;unfold nB;omega
 have k1:=wz.2 n1;have k2:=wz.2 n2;simp only[wh,qv]at k1 k2;rw[show((4096:Nat):Rat)=4096 from rfl]at k1 k2;have q0:=q5 (jz (-(nB:Int)));have j1:=ui k1 q0;have j2:=ui k2 q0;have s1:(H:Rat)*pw (-(b:Int))<=hH+4096*pw (-(b:Int)):=by unfold hH;rw[<-eG];grind
 have s2:hH<=(H:Rat)*pw (-(b:Int))+4096*pw (-(b:Int)):=by unfold hH;rw[<-eG];grind
 clear k1 k2 j1 j2 q0 eG n1 n2 e;generalize pw (-(b:Int))=P at*;have t1:=q7 r0 (q5 hP);have t2:=ui r1 (q5 hP);have t3:(2*(H:Rat)+r)*P=2*(H*P)+r*P:=by grind
 rw[t3];generalize (H:Rat)*P=x at*;generalize r*P=y at*;exact zd.2 ⟨by grind,by grind⟩
theorem qka{x:Iv}{sh p:Nat}(hs:sh<4)(hp:72<=p/\p<=128)(t1:zf x.lo<=100)(t2:zf x.hi<=100)(b1:zg (dv x.lo)<=((2^mtT x:Nat):Rat))(b2:zg (dv x.hi)<=((2^mtT x:Nat):Rat))(h:mtF x sh p=false):
 ∃k:Int,(((sh:Int)+4*k).natAbs :Rat)*(5*epH)<=mgE*(1/1000)/\(((sh:Int)+4*k:Int):Rat)*hH+mgE<=dv x.lo/\dv x.hi<=(((sh:Int)+4*k:Int):Rat)*hH+4*hH-mgE:=by
 have ht:mtT x<=100:=by unfold mtT;omega
 have hB:mtB x p=p+mtT x+40:=rfl;have hD:sv (mtD x sh p)<0:=by
  unfold mtF at h;simp only[Bool.or_eq_false_iff,Z3,Bool.not_eq_false']at h;unfold sv;rw[Z4 h.2];have:((0:Nat):Rat)<((mtD x sh p).2:Rat):=zle.2 (qA h.1);rw[show((0:Nat):Rat)=0 from rfl]at this;grind
 have hn:=zww;have p1:=qe4 (b:=mtB x p) O;have o1:=zd.1 (qjy x.lo (mtB x p));have o2:=zd.1 (qjy x.hi (mtB x p));have hP:=jz (-(mtB x p:Int));have hc0:(mt2 x p).2≠0:=by
  have:=(zz7 (b:=mtB x p) O).2.1;show(piF (mtB x p)).2*2^1≠0;omega
 obtain⟨K,k1,k2,k3⟩:=qf3 (jm (jm (ofF x.hi (mtB x p)) (ngF (mtS x sh p))) (mtE x)) hc0;have eD:sv (mtD x sh p)=(K:Rat)*((mt2 x p).2:Rat)+sv (mtS x sh p)-sv (ofF x.lo (mtB x p))+sv (mtE x):=by
  show sv (jm (jm (jm ((mtK x sh p).1,(mtK x sh p).2*(mt2 x p).2) (mtS x sh p)) (ngF (ofF x.lo (mtB x p)))) (mtE x))=_;rw[zed,zed,zed,zsi,sv_sc];have:sv ((mtK x sh p).1,(mtK x sh p).2)=(K:Rat):=k1;rw[this];grind
 rw[zed,zed,zsi]at k2 k3;rw[eD]at hD;have eC:((mt2 x p).2:Rat)=((piF (mtB x p)).2:Rat)*2:=by
  show(((piF (mtB x p)).2*2^1:Nat):Rat)=_;rw[qv];rfl
 obtain⟨r,r0,r1,eS⟩:=zqw (sh*(piF (mtB x p)).2);have eS2:sv (mtS x sh p)=((sh*(piF (mtB x p)).2/2:Nat):Rat):=by
  show sv (false,sh*(piF (mtB x p)).2/2^0/2^1)=_;rw[zsj,Nat.pow_zero,Nat.div_one,Nat.pow_one]
 rw[<-eS2,qv]at eS;have eE:sv (mtE x)=((2^mtT x:Nat):Rat)*268435456:=by
  show sv (false,2^(mtT x+28))=_;rw[zsj,Nat.pow_add,qv];rfl
 have hT1:1<=((2^mtT x:Nat):Rat):=wz.2 (show 1<=2^mtT x from qn _);have hT2:((2^mtT x:Nat):Rat)<=pw 100:=by rw[<-wa];exact za7.2 O
 have hm:mgE<=((2^mtT x:Nat):Rat)*134217728*pw (-(mtB x p:Int)):=by
  have e27:(134217728:Rat)=pw ((27:Nat):Int):=(wa 27).symm;unfold mgE;rw[e27,<-wa,<-pwA,<-pwA];exact za7.2 O
 have hE1:((2^mtT x:Nat):Rat)*268435456*pw (-(mtB x p:Int))<=1/100:=by
  have e28:(268435456:Rat)=pw ((28:Nat):Int):=(wa 28).symm;have:(pw (-7):Rat)<=1/100:=OB;refine q8 ?_ this;rw[e28,<-wa,<-pwA,<-pwA];exact za7.2 O
 have hs0:(0:Rat)<=(sh:Rat):=za8 sh;have hs3:(sh:Rat)<=3:=wz.2 (O:sh<=3);have eL:(((sh:Int)+4*K:Int):Rat)=(sh:Rat)+4*(K:Rat):=by rw[qJ,Rat.intCast_mul];rfl
 obtain⟨l1,l2⟩:=zd.1 b1;obtain⟨u1,u2⟩:=zd.1 b2;rw[eC]at k2 k3 hD;rw[eE]at k2 k3 hD;have hcast:∀T:Nat,(K:Rat)<=(T:Rat)->K<=(T:Int):=fun T h=>qD.1 h
 have hcast2:∀T:Nat,-((T:Rat)+2)<=(K:Rat)-> -((T:Int)+2)<=K:=fun T h=>by
  refine qD.1 ?_;rw[qE,qJ];exact h
 have key:(K:Rat)<=((2^mtT x:Nat):Rat)/\ -(((2^mtT x:Nat):Rat)+2)<=(K:Rat)/\((sh:Rat)+4*(K:Rat))*hH+mgE<=dv x.lo/\dv x.hi<=((sh:Rat)+4*(K:Rat))*hH+4*hH-mgE:=by
  clear hcast hcast2 eL k1 eD eC eS2 eE h b1 b2;generalize ((2^mtT x:Nat):Rat)=T at*;generalize sv (ofF x.lo (mtB x p))=Ol at*;generalize sv (ofF x.hi (mtB x p))=Oh at*;generalize sv (mtS x sh p)=S at*;generalize ((piF (mtB x p)).2:Rat)=Pi at*;generalize pw (-(mtB x p:Int))=P at*;generalize (sh:Rat)=s at*;generalize (K:Rat)=k at*;generalize dv x.lo=lo at*;generalize dv x.hi=hi at*;have P0:=q5 hP;have TP:P<=T*P:=by have:=ui hT1 P0;grind
  have q1:=qB hD hP;have q2:=ui k2 P0;have q3:=qB k3 hP;obtain⟨X,hX⟩:∃X,X=Pi*P:=⟨_,rfl⟩;obtain⟨A,hA⟩:∃A,A=T*P:=⟨_,rfl⟩;obtain⟨SP,hSP⟩:∃Zq,Zq=S*P:=⟨_,rfl⟩;obtain⟨LP,hLP⟩:∃Zq,Zq=Ol*P:=⟨_,rfl⟩;obtain⟨HP,hHP⟩:∃Zq,Zq=Oh*P:=⟨_,rfl⟩;have g1:2*(k*X)+SP-LP+268435456*A<0:=by rw[hX,hA,hSP,hLP];grind
  have g2:2*(k*X)<=HP-SP+268435456*A:=by rw[hX,hA,hSP,hHP];grind
  have g3:HP-SP+268435456*A<2*(k*X)+2*X:=by rw[hX,hA,hSP,hHP];grind
  have g4:s*X=2*SP+r*P:=by
   have:s*Pi*P=(2*S+r)*P:=by rw[eS]
   rw[hX,hSP];grind
  have g5:=q7 r0 P0;have g6:=ui r1 P0;rw[<-hX]at p1;rw[<-hLP]at o1;rw[<-hHP]at o2;rw[<-hA]at TP;have hm':mgE<=134217728*A:=by rw[hA];grind
  have hE':268435456*A<=1/100:=by rw[hA];grind
  obtain⟨y1,y2⟩:=zd.1 p1;have AT:2*P<=2*A:=by grind
  clear q1 q2 q3 hX hLP hHP hSP eS k2 k3 hD hm hE1 hT2;have X3:0<=X-3:=by grind
  have X4:0<=4-X:=by grind
  have sX:=q7 hs0 X3;have sX4:=q7 hs0 X4;have kT:k<=T:=by
   refine qN.1 fun c=>?_
   have:=q7 (show 0<=k by grind) X3;grind
  have kL: -(T+2)<=k:=by
   refine qN.1 fun c=>?_
   have:=q7 (show 0<= -(k+1) by grind) X3;grind
  have ky:=zd.1 (uh (zd.2 ⟨kL,show k<=T+2 by grind⟩) p1);have sy:=zd.1 (uh (zd.2 ⟨show-3<=s by grind,hs3⟩) p1);have e1:(T+2)*(8193*P)=8193*A+16386*P:=by rw[hA];grind
  rw[e1]at ky;refine⟨kT,kL,?_,?_⟩
  .have:k*(X-2*hH)=k*X-2*(k*hH):=by grind
   have:s*(X-2*hH)=s*X-2*(s*hH):=by grind
   have:(s+4*k)*hH=s*hH+4*(k*hH):=by grind
   grind
  .have:k*(X-2*hH)=k*X-2*(k*hH):=by grind
   have:s*(X-2*hH)=s*X-2*(s*hH):=by grind
   have:(s+4*k)*hH=s*hH+4*(k*hH):=by grind
   grind
 refine⟨K,?_,by rw[eL];exact key.2.2.1,by rw[eL];exact key.2.2.2⟩;have c1:=hcast _ key.1;have c2:=hcast2 _ key.2.1;have h2:1<=2^mtT x:=qn _;have c3:((sh:Int)+4*K).natAbs <=15*2^mtT x:=O;have c4:=wz.2 c3;rw[qv,show((15:Nat):Rat)=15 from rfl]at c4;have c5:75*(pw 100*epH)<=mgE*(1/1000):=OB;have e5:0<=5*epH:=by have:=zke;grind
 have c6:=ui c4 e5;have c7:=ui hT2 e5;grind
theorem qal{s:Nat->Rat}{x y:Iv}(h:lI s y):lI s (zct x y):=zs8 (fun q hq=>by
 unfold zct;split
 .rename_i c;have hy:y.all=false:=by
   simp only[kB,Bool.and_eq_true,Bool.not_eq_true']at c;exact c.2.1
  rcases hq with a|⟨a,b⟩
  .rw[hy]at a;cases a
  .exact .inr ⟨q8 (zcq x.lo y.lo).2.1 a,q8 b (xi x.hi y.hi).2.1⟩
 .exact zi5 _) h
theorem zt5{d:Dy}{t:Nat}(h:zf d<=t):zg (dv d)<=((2^t:Nat):Rat):=by
 have e:zg (dv d)=vN (nm d) d.e:=by
  unfold dv;split
  .rw[qi];exact qp (zb8 _ _)
  .exact qp (zb8 _ _)
 rw[e,<-wa];by_cases c:nm d=0
 .rw[c];refine q8 ?_ (q5 (jz _));unfold vN;rw[show((0:Nat):Rat)=0 from rfl];grind
 .have ht:zf d=(bl (nm d):Int)+d.e:=by unfold zf;rw[Z5 c]
  exact q5 (zai O)
theorem side{x:Iv}(k:KI x){q:Rat}(h1:dv x.lo<=q)(h2:q<=dv x.hi){w p:Nat}(hw:w<4)(hp:8<=p/\p<=64)(t1:zf x.lo<=100)(t2:zf x.hi<=100)(h:mtF x w (p+64)=false){e:Rat}(he:0<e):
 Evt fun n=>Fw w q n<=Fw w (dv x.lo) n+e\/Fw w q n<=Fw w (dv x.hi) n+e:=by
 obtain⟨K,a,b,c⟩:=qka hw (p:=p+64) O t1 t2 (zt5 (by unfold mtT;omega)) (zt5 (by unfold mtT;omega)) h;exact qls hw K a rfl b h1 h2 c he
theorem qgs{x:Iv}(k:KI x){q:Rat}(h1:dv x.lo<=q)(h2:q<=dv x.hi)(cos:Bool){p:Int}(hp:8<=p/\p<=64):lI (fS cos q) (ciI x cos p):=by
 unfold ciI;split
 .split
  .exact zhk cos q
  rename_i ht;split
  .exact zhk cos q
  unfold ciJ;split
  .exact zhk cos q
  rename_i c;have ok:(ciM x cos p.toNat).2=true:=by simpa using c
  have la:=qcg k.lo O cos (p:=p.toNat) O;have lb:=qcg k.hi O cos (p:=p.toNat) O;have lA:lI (fS cos (dv x.lo)) (ciM x cos p.toNat).1:=qkd (qfx la) (zhk cos _) ok;have lB:lI (fS cos (dv x.hi)) (ciM x cos p.toNat).1:=qkd (qal lb) (zhk cos _) ok;split
  .rename_i c0;have e:=(ze9 x.lo x.hi).2.2.1 c0;have:q=dv x.lo:=Rat.le_antisymm (by rw[e];exact h2) h1;rw[this];exact lA
  generalize (ciM x cos p.toNat).1=M at*
  cases hM:M.all with
  |true=>exact zft 0 fun n _=>.inl rfl
  |false=>
   have mm:=zfu lA lA hM hM;have um:=zfu (zhk cos (dv x.lo)) lA zkn.all hM;have mu:=zfu lA (zhk cos (dv x.lo)) hM zkn.all;have uu:=zfu (zhk cos (dv x.lo)) (zhk cos (dv x.lo)) zkn.all zkn.all;refine zh6 ?_ fun e he=>?_
   .show dv (if mtF x (if cos=true then 2 else 3) (p.toNat+64)=true then wx (-1)else M.lo)<=dv (if mtF x (if cos=true then 0 else 1) (p.toNat+64)=true then wx 1 else M.hi);generalize mtF x (if cos=true then 2 else 3) (p.toNat+64)=m1;generalize mtF x (if cos=true then 0 else 1) (p.toNat+64)=m2;cases m1<;>cases m2<;>first|exact mm|exact um|exact mu|exact uu
   .have he2:0<e/2:=by grind
    have bA:Evt _:=zd3 lA hM he2;have bB:Evt _:=zd3 lB hM he2;have bU:Evt _:=zd3 (zhk cos q) zkn.all he;have lo:Evt fun n=>dv (if mtF x (if cos=true then 2 else 3) (p.toNat+64)=true then wx (-1)else M.lo)-e<=fS cos q n:=by
     by_cases c1:mtF x (if cos=true then 2 else 3) (p.toNat+64)=true
     .rw[Z4 c1];exact bU.mono fun n h=>h.1
     .rw[Z5 c1];have s:=side k h1 h2 (w:=if cos=true then 2 else 3) (by split<;>omega) (p:=p.toNat) O O O (by simpa using c1) he2;refine((bA.and bB).and s).mono fun n H=>?_
      obtain⟨⟨⟨a1,_⟩,b1,_⟩,s⟩:=H;cases cos
      .have s: -(sS q n)<= -(sS (dv x.lo) n)+e/2\/ -(sS q n)<= -(sS (dv x.hi) n)+e/2:=s;have a1:dv M.lo-e/2<=sS (dv x.lo) n:=a1;have b1:dv M.lo-e/2<=sS (dv x.hi) n:=b1;show dv M.lo-e<=sS q n;rcases s with s|s<;>grind
      .have s: -(cS q n)<= -(cS (dv x.lo) n)+e/2\/ -(cS q n)<= -(cS (dv x.hi) n)+e/2:=s;have a1:dv M.lo-e/2<=cS (dv x.lo) n:=a1;have b1:dv M.lo-e/2<=cS (dv x.hi) n:=b1;show dv M.lo-e<=cS q n;rcases s with s|s<;>grind
    have hi:Evt fun n=>fS cos q n<=dv (if mtF x (if cos=true then 0 else 1) (p.toNat+64)=true then wx 1 else M.hi)+e:=by
     by_cases c1:mtF x (if cos=true then 0 else 1) (p.toNat+64)=true
     .rw[Z4 c1];exact bU.mono fun n h=>h.2
     .rw[Z5 c1];have s:=side k h1 h2 (w:=if cos=true then 0 else 1) (by split<;>omega) (p:=p.toNat) O O O (by simpa using c1) he2;refine((bA.and bB).and s).mono fun n H=>?_
      obtain⟨⟨⟨_,a1⟩,_,b1⟩,s⟩:=H;cases cos
      .have s:sS q n<=sS (dv x.lo) n+e/2\/sS q n<=sS (dv x.hi) n+e/2:=s;have a1:sS (dv x.lo) n<=dv M.hi+e/2:=a1;have b1:sS (dv x.hi) n<=dv M.hi+e/2:=b1;show sS q n<=dv M.hi+e;rcases s with s|s<;>grind
      .have s:cS q n<=cS (dv x.lo) n+e/2\/cS q n<=cS (dv x.hi) n+e/2:=s;have a1:cS (dv x.lo) n<=dv M.hi+e/2:=a1;have b1:cS (dv x.hi) n<=dv M.hi+e/2:=b1;show cS q n<=dv M.hi+e;rcases s with s|s<;>grind
    exact lo.and hi
 .exact zs8 (fun q _=>zi5 q) (zhk cos q)
