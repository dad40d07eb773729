/- Limbs and natural numbers: plain functions. -/
import Derived.Test.YtlbmkjbgfkgcmaaGreatDoorTYa
set_option linter.all false
open BitVec renaming ofInt->qH,ofInt_natCast->ws,toNat_ofNat->wB
open Int renaming toNat_natCast->q0,eq_ofNat_of_zero_le->qD,toNat_zero->qX
open List renaming length_cons->q2,mem_cons_of_mem->q4,mem_cons_self->qB,take_of_length_le->qE,length_set->qG,eq_of_mem_replicate->qM,take_length->qN,getElem?_set_ne->qQ,mem_of_getElem?->qR,getElem?_replicate->qV,replicate->qW,mem_cons->w3,length_take->w4,getElem?_cons_zero->w6,getElem?_cons_succ->w7,cons_append->wE,any_cons->wJ,any_nil->wL
open Nat renaming mul_assoc->q1,mul_add->q3,div_lt_iff_lt_mul->qA,pow_add->qC,two_pow_pos->qF,le_refl->qI,pow_succ->qK,mul_comm->qL,div_div_eq_div_mul->qO,pow_le_pow_right->qP,not_le->qS,xor_lt_two_pow->qT,lt_of_le_of_lt->qU,mod_lt->qY,and_le_right->qZ,mod_add_div->w0,add_zero->w1,lt_of_lt_of_le->w2,mod_eq_of_lt->w5,mul_zero->w8,testBit_xor->w9,succ_le_succ_iff->we,mul_le_mul_right->wi,add_mul_div_left->wn,mul_le_mul_left->wA,or_lt_two_pow->wC,lt_log2_self->wD,pow_mul->wF,min_eq_left->wG,testBit_and->wH,mul_succ->wK,add_mul->wM,not_lt->wN
open Option renaming getD_some->qJ
open Go.IntKind renaming u32->wO,u64->wP,signed->wQ,wrap->wR,bits->wS
namespace Go.Proofs.YtlbmkjbgfkgcmaaGreatDoor
open Go Go.Sx
def val:List Int->Nat
 | []=>0
 |x::l=>x.toNat+4294967296*val l
def zvb:Nat->Nat->List Int
 |0,_=> []
 |f+1,n=>if n=0 then []else((n % 4294967296:Nat):Int)::zvb f (n/4294967296)
def toL(n:Nat):List Int:=zvb (n.log2/32+1) n
def bl(n:Nat):Nat:=if n=0 then 0 else n.log2+1
theorem zaq(n:Nat):n<2^bl n:=by
 unfold bl;split
 .rename_i h;subst h;decide
 .exact wD
theorem vr{n k:Nat}:bl n<=k<->n<2^k:=by
 unfold bl;split
 .rename_i h;subst h;exact⟨fun _=>qF k,fun _=>Nat.zero_le _⟩
 .rename_i h;rw[Nat.succ_le_iff];exact Nat.log2_lt h
theorem xd{n k:Nat}(h:n≠0):k+1<=bl n<->2^k<=n:=by
 unfold bl;rw[Z7 h,we];exact Nat.le_log2 h
theorem qf3{n k:Nat}(h1:2^k<=n)(h2:n<2^(k+1)):bl n=k+1:=by
 have h0:n≠0:=by have:=qF k;omega
 have a:=(xd h0).2 h1;have b:=vr.2 h2;omega
theorem qx:bl 0=0:=rfl
theorem kj{n:Nat}:bl n=0<->n=0:=by
 constructor
 .intro h;have:=vr.1 (Nat.le_of_eq h);simpa using this
 .intro h;subst h;rfl
theorem zq(n k:Nat)(h:n≠0):bl (n*2^k)=bl n+k:=by
 have h1:bl n≠0:=fun e=>h (kj.1 e)
 obtain⟨j,hj⟩:∃j,bl n=j+1:=⟨bl n-1,O⟩;have h2:2^j<=n:=(xd h).1 O;have h3:n<2^(j+1):=vr.1 O;rw[hj,(O:j+1+k=(j+k)+1)];refine qf3 ?_ ?_
 .rw[qC];exact wi _ h2
 .rw[(O:j+k+1=(j+1)+k),qC 2 (j+1) k];exact Nat.mul_lt_mul_of_pos_right h3 (qF k)
theorem xg(n k:Nat)(h:2^k<=n):bl (n/2^k)=bl n-k:=by
 have h0:n≠0:=by have:=qF k;omega
 have h1:k+1<=bl n:=(xd h0).2 h;obtain⟨j,hj⟩:∃j,bl n=j+k+1:=⟨bl n-k-1,O⟩;have h2:2^(j+k)<=n:=(xd h0).1 O;have h3:n<2^(j+k+1):=vr.1 O;rw[hj,(O:j+k+1-k=j+1)];refine qf3 ?_ ?_
 .rw[Nat.le_div_iff_mul_le (qF k),<-qC];exact h2
 .rw[qA (qF k),<-qC,(O:j+1+k=j+k+1)];exact h3
theorem zn7:∀(f n:Nat),n<2^(32*f)->val (zvb f n)=n
 |0,n,h=>by simp at h;subst h;rfl
 |f+1,n,h=>by
  simp only[zvb];split
  .rename_i h0;subst h0;rfl
  .have hd:n/4294967296<2^(32*f):=by
    rw[qA OA];rw[(O:32*(f+1)=32*f+32),qC]at h;exact h
   simp only[val,zn7 f _ hd,q0];omega
theorem zge:∀(f g n:Nat),n<2^(32*f)->f<=g->zvb g n=zvb f n
 |0,g,n,h,_=>by
  simp at h;subst h;cases g<;>simp[zvb]
 |f+1,0,n,h,hg=>O
 |f+1,g+1,n,h,hg=>by
  simp only[zvb];split
  .rfl
  .have hd:n/4294967296<2^(32*f):=by
    rw[qA OA];rw[(O:32*(f+1)=32*f+32),qC]at h;exact h
   rw[zge f g _ hd O]
theorem zm7(n:Nat):n<2^(32*(n.log2/32+1)):=by
 refine w2 (wD (n:=n)) (qP OA O)
theorem zg(n:Nat):val (toL n)=n:=zn7 _ _ (zm7 n)
theorem wp:toL 0= []:=rfl
theorem zvo{n f:Nat}(h:n<2^(32*f)):toL n=zvb f n:=by
 unfold toL;by_cases hf:f<=n.log2/32+1
 .exact zge f _ n h hf
 .exact(zge _ f n (zm7 n) O).symm
theorem uj{n:Nat}(h:n≠0):toL n=((n % 4294967296:Nat):Int)::toL (n/4294967296):=by
 have h1:=zm7 n;have hd:n/4294967296<2^(32*(n.log2/32)):=by
  rw[qA OA];rw[(O:32*(n.log2/32+1)=32*(n.log2/32)+32),qC]at h1;exact h1
 rw[zvo hd];unfold toL;simp only[zvb,Z7 h]
theorem zmo{P:Nat->Prop}(h0:P 0)(hs:∀n,n≠0->P (n/4294967296)->P n)(n:Nat):P n:=by
 induction n using Nat.strongRecOn with
 | _ n ih=>
   by_cases h:n=0
   .subst h;exact h0
   .exact hs n h (ih _ (Nat.div_lt_self O OA))
theorem zk(n:Nat):LB (toL n):=by
 refine zmo (P:=fun n=>LB (toL n)) (fun _ h=>nomatch h) (fun n h ih=>?_) n;rw[uj h];intro x hx;rcases w3.1 hx with rfl|hx
 .have:n % 4294967296<4294967296:=qY _ OA;omega
 .exact ih x hx
theorem qd(n k:Nat):(toL n).length <=k<->n<2^(32*k):=by
 have:∀n,∀k,(toL n).length <=k<->n<2^(32*k):=by
  refine zmo (fun k=>?_) fun n h ih k=>?_
  .simp[wp,qF]
  .rw[uj h,q2]
   cases k with
   |zero=>simp;omega
   |succ k=>
    rw[we,ih k,qA OA,(O:32*(k+1)=32*k+32),qC]
 exact this n k
theorem zc1{l:List Int}(h:LB l):val l<2^(32*l.length):=by
 induction l with
 |nil=>decide
 |cons x l ih=>
  have ih:=ih fun y hy=>h y (q4 _ hy)
  have hx:=h x qB;simp only[val,q2];rw[(O:32*(l.length+1)=32*l.length+32),qC];generalize 2^(32*l.length)=m at ih;omega
theorem zje(x:Int)(l:List Int):∀n,trN (x::l) (n+1)=if trN l n=0 then(if x=0 then 0 else 1)else trN l n+1
 |0=>by simp[trN]
 |n+1=>by
  have ih:=zje x l n;rw[show trN (x::l) (n+1+1)=if(x::l)[n+1]?.getD 0=0 then trN (x::l) (n+1)else n+1+1 from rfl];rw[show(x::l)[n+1]? =l[n]? by simp,show trN l (n+1)=if l[n]?.getD 0=0 then trN l n else n+1 from rfl];split
  .exact ih
  .simp
theorem zvm(x:Int)(l:List Int):trL (x::l)=if trL l= []then(if x=0 then []else [x])else x::trL l:=by
 have hl:trL l= []<->trN l l.length=0:=by
  have:=zrf l l.length;unfold trL;constructor
  .intro h;have:=congrArg List.length h;rw[w4,List.length_nil]at this;omega
  .intro h;rw[h];rfl
 by_cases h:trN l l.length=0
 .rw[Z6 (hl.2 h)];unfold trL;rw[q2,zje,Z6 h];split<;>rfl
 .rw[Z7 fun e=>h (hl.1 e)];unfold trL;rw[q2,zje,Z7 h];rfl
theorem yk:∀ {l:List Int},LB l->trL l=toL (val l)
 | [],_=>rfl
 |x::l,h=>by
  have ih:=yk (l:=l) fun y hy=>h y (q4 _ hy)
  have hx:=h x qB;rw[zvm,ih];simp only[val];by_cases hv:val l=0
  .rw[hv,wp,Z6 rfl];by_cases h0:x=0
   .subst h0;rfl
   .rw[Z7 h0,uj O,show(x.toNat+4294967296*0)/4294967296=0 by omega,wp]
    congr 1;omega
  .rw[Z7 (fun e=>hv (by have:=congrArg val e;rw[zg]at this;exact this)),uj (n:=x.toNat+4294967296*val l) O];rw[show(x.toNat+4294967296*val l)/4294967296=val l by omega,show(((x.toNat+4294967296*val l) % 4294967296:Nat):Int)=x by omega]
theorem qe(n:Nat):trL (toL n)=toL n:=by rw[yk (zk n),zg]
theorem zkn{n:Nat}(h:n≠0):bl n=bl (n/2)+1:=by
 by_cases h2:2<=n
 .have:=xg n 1 (by simpa using h2);have h1:2<=bl n:=(xd h).2 (by simpa using h2);simp only[Nat.pow_one]at this;omega
 .obtain rfl:n=1:=by omega
  rfl
theorem zb0{x:Nat}(h:x<2^64):Lib.bitLen x=bl x:=by
 have:∀(f x:Nat),x<2^f->Lib.bitLenAux f x=bl x:=by
  intro f
  induction f with
  |zero=>intro x hx;simp at hx;subst hx;rfl
  |succ f ih=>
   intro x hx;simp only[Lib.bitLenAux];split
   .rename_i h0;subst h0;rfl
   .rename_i h0;rw[ih (x/2) (by rw[qK]at hx;omega),zkn h0];omega
 exact this 64 x h
theorem zd8(n:Nat):(match(toL n).getLast? with|none=>(0:Int)|some x=>32*(((toL n).length :Int)-1)+((Lib.bitLen x.toNat:Nat):Int):Int)=((bl n:Nat):Int):=by
 refine zmo (P:=fun n=>(match(toL n).getLast? with|none=>(0:Int)|some x=>32*(((toL n).length :Int)-1)+((Lib.bitLen x.toNat:Nat):Int):Int)=((bl n:Nat):Int)) rfl (fun n h ih=>?_) n;rw[uj h];by_cases h1:n/4294967296=0
 .have h2:n<4294967296:=by omega
  rw[h1,wp];simp only[List.getLast?_singleton,List.length_singleton];rw[q0,w5 h2,zb0 O];simp
 .have hne:toL (n/4294967296)≠ []:=fun e=>h1 (by have:=congrArg val e;rw[zg]at this;exact this)
  rw[List.getLast?_cons_of_ne_nil hne];have hb:bl (n/4294967296)=bl n-32:=xg n 32 O;have hb2:33<=bl n:=(xd h).2 O
  cases hg:(toL (n/4294967296)).getLast? with
  |none=>exact absurd (List.getLast?_eq_none_iff.1 hg) hne
  |some x=>
   rw[hg]at ih;simp only at ih;have hl:0<(toL (n/4294967296)).length :=List.length_pos_iff.2 hne;simp only[q2];omega
theorem zho{l:List Int}(h:LB l):btL l=(bl (val l):Nat):=by
 unfold btL;rw[yk h];exact zd8 _
theorem qg(x:Int)(l:List Int):val (x::l)=x.toNat+4294967296*val l:=rfl
theorem zku(k:Nat)(l:List Int):val (qW k 0++l)=2^(32*k)*val l:=by
 induction k with
 |zero=>simp
 |succ k ih=>
  rw[List.replicate_succ,wE,(O:32*(k+1)=32*k+32),qC];simp only[val,ih,qX,Nat.zero_add];have e:(2:Nat)^32=4294967296:=rfl;rw[e,qL (2^(32*k)) 4294967296,q1]
theorem zif(r:Nat)(hr:r<=32):∀(l:List Int)(c:Nat),LB l->c<2^r->val (xv r l c)=val l*2^r+c/\LB (xv r l c)
 | [],c,_,hc=>by
   have h2:2^r<=2^32:=qP OA hr;refine⟨by simp[xv,val],fun x hx=>?_⟩;simp only[xv,List.mem_singleton]at hx;omega
 |x::l,c,h,hc=>by
  have h2:2^r<=2^32:=qP OA hr;have hx:=h x qB;obtain⟨y,rfl⟩:=qD hx.1;have hy:y<4294967296:=O;have e:((y:Int)*2^r+(c:Int))=((y*2^r+c:Nat):Int):=OC;have hq:(y*2^r+c)/4294967296<2^r:=by
   rw[qA OA];have:(y+1)*2^r<=4294967296*2^r:=wi _ O;rw[Nat.succ_mul]at this;rw[qL (2^r)];omega
  simp only[xv];rw[e,show(((y*2^r+c:Nat):Int)/4294967296)=(((y*2^r+c)/4294967296:Nat):Int)from rfl,show(((y*2^r+c:Nat):Int) % 4294967296)=(((y*2^r+c) % 4294967296:Nat):Int)from rfl];obtain⟨i1,i2⟩:=zif r hr l ((y*2^r+c)/4294967296) (fun z hz=>h z (q4 _ hz)) hq;constructor
  .simp only[val,i1,q0];have h1:4294967296*(val l*2^r)=(4294967296*val l)*2^r:=by rw[q1]
   have h3:(y+4294967296*val l)*2^r=y*2^r+(4294967296*val l)*2^r:=wM _ _ _;have h4:=w0 (y*2^r+c) 4294967296;omega
  .intro z hz;rcases w3.1 hz with rfl|hz
   .have:=qY (y*2^r+c) (OA:0<4294967296);omega
   .exact i2 z hz
theorem zbj(n x:Nat):val (zgh (toL x) n)=x*2^n/\LB (zgh (toL x) n):=by
 unfold zgh;rw[qe];obtain⟨h1,h2⟩:=zif (n % 32) O (toL x) 0 (zk x) (qF _);constructor
 .rw[zku];have h1:val (xv (n % 32) (toL x) 0)=x*2^(n % 32):=by
   have:=h1;rw[zg]at this;simpa using this
  rw[h1,<-q1,qL _ x,q1,<-qC,(O:32*(n/32)+n % 32=n)]
 .intro z hz;rcases List.mem_append.1 hz with hz|hz
  .have:=qM hz;omega
  .exact h2 z hz
theorem ze5{l:List Int}(h:LB l):dnL l=if 8192<bl (val l)then([],9)else(toL (val l),0):=by
 unfold dnL;rw[yk h];have h1:(256<(toL (val l)).length)<->8192<bl (val l):=by
  have a:=qd (val l) 256;have b:=vr (n:=val l) (k:=32*256);constructor
  .intro hh;exact qS.1 fun hc=>qS.2 hh (a.2 (b.1 hc))
  .intro hh;exact qS.1 fun hc=>qS.2 hh (b.2 (a.1 hc))
 by_cases hh:256<(toL (val l)).length
 .rw[Z6 hh,Z6 (h1.1 hh)]
 .rw[Z7 hh,Z7 fun e=>hh (h1.2 e)]
theorem zfi(x:Nat):(256<(toL x).length)<->8192<bl x:=by
 have a:=qd x 256;have b:=vr (n:=x) (k:=32*256);constructor
 .intro hh;exact qS.1 fun hc=>qS.2 hh (a.2 (b.1 hc))
 .intro hh;exact qS.1 fun hc=>qS.2 hh (b.2 (a.1 hc))
def dnN(x:Nat):List Int×Int:=if 8192<bl x then([],9)else(toL x,0)
theorem zjm(x:Nat)(n:Int):qcp (toL x) n=if 8192<bl x then([],9)else if n<0\/65536<n then([],2)else dnN (x*2^n.toNat):=by
 unfold qcp dnN;obtain⟨h1,h2⟩:=zbj n.toNat x;rw[ze5 h2,h1];simp only[zfi]
theorem zvy(p q y z w:Nat)(hp:0<p)(hpq:p*q=4294967296)(hy:y<4294967296):
 (y+4294967296*(z+4294967296*w))/p=(y+z*4294967296)/p % 4294967296+4294967296*((z+4294967296*w)/p):=by
 have a1:(z+4294967296*w)/p=z/p+q*w:=by
  rw[<-hpq,q1,wn _ _ hp]
 have a2:(y+4294967296*(z+4294967296*w))/p=(y+z*4294967296)/p+q*(4294967296*w):=by
  have e:y+4294967296*(z+4294967296*w)=(y+z*4294967296)+p*(q*(4294967296*w)):=by
   rw[<-q1 p q,hpq];omega
  rw[e,wn _ _ hp]
 have a3:(y+z*4294967296)/p/4294967296=z/p:=by
  rw[qO,qL p,<-qO]
  congr 1;omega
 have a4:=w0 ((y+z*4294967296)/p) 4294967296;have a5:q*(4294967296*w)=4294967296*(q*w):=by rw[<-q1,qL q,q1]
 rw[a1,a2,q3];rw[a3]at a4;omega
theorem zqd(x:Int)(l:List Int)(r:Nat):zbi (x::l) r=zeu (x::l) r 0::zbi l r:=by
 unfold zbi;rw[q2,List.range_succ_eq_map,List.map_cons,List.map_map]
 congr 1
theorem zpb(l:List Int)(h:LB l):∃z w:Nat,z<4294967296/\l[0]?.getD 0=(z:Int)/\val l=z+4294967296*w:=by
 cases l with
 |nil=>exact⟨0,0,OA,rfl,rfl⟩
 |cons a m=>
  have ha:=h a OC;exact⟨a.toNat,val m,O,OE,rfl⟩
theorem zqe(y z r:Nat)(l:List Int)(h:l[0]?.getD 0=(z:Int)):zeu ((y:Int)::l) r 0=(((y+z*4294967296)/2^r % 4294967296:Nat):Int):=by
 unfold zeu;simp only[w6,qJ,w7,h];simp
theorem zie(r:Nat)(hr:r<=32)(l:List Int)(h:LB l):val (zbi l r)=val l/2^r/\LB (zbi l r):=by
 have ep:2^r*2^(32-r)=4294967296:=by rw[<-qC,(O:r+(32-r)=32)]
 have hp:=qF r;have hsh:=fun y z l h=>zqe y z r l h
 generalize 2^(32-r)=q at ep;generalize hP:2^r=p at ep hp hsh
 induction l with
 |nil=>exact⟨by simp[zbi,val],fun _ h=>nomatch h⟩
 |cons x l ih=>
  have hl:LB l:=fun z hz=>h z (q4 _ hz)
  obtain⟨i1,i2⟩:=ih hl;have hx:=h x qB;obtain⟨y,rfl⟩:=qD hx.1;have hy:y<4294967296:=O;obtain⟨z,w,hz,hl0,hv⟩:=zpb l hl;rw[zqd,hsh y z l hl0];refine⟨?_,?_⟩
  .rw[qg,qg,i1,hv,q0,q0];exact(zvy p q y z w hp ep hy).symm
  .intro v hvm;rcases w3.1 hvm with rfl|hvm
   .have:=qY ((y+z*4294967296)/p) (OA:0<4294967296);omega
   .exact i2 v hvm
theorem zdp:∀(k:Nat)(l:List Int),LB l->val (l.drop k)=val l/2^(32*k)
 |0,l,_=>OC
 |k+1,[],_=>by simp[val]
 |k+1,x::l,h=>by
  have ih:=zdp k l fun z hz=>h z (q4 _ hz)
  have hx:=h x qB;rw[List.drop_succ_cons,ih,(O:32*(k+1)=32+32*k),qC,<-qO];simp only[val]
  congr 1;omega
theorem zdr(n x:Nat):val (zgg (toL x) n)=x/2^n/\LB (zgg (toL x) n):=by
 unfold zgg;rw[qe];split
 .rename_i h;refine⟨?_,fun _ h=>nomatch h⟩;have h1:=(qd x (n/32)).1 h;have h2:x<2^n:=w2 h1 (qP OA O);rw[Nat.div_eq_of_lt h2];rfl
 .have hd:LB ((toL x).drop (n/32)):=fun z hz=>zk x z (List.mem_of_mem_drop hz)
  obtain⟨h1,h2⟩:=zie (n % 32) O _ hd;refine⟨?_,h2⟩;rw[h1,zdp _ _ (zk x),zg,qO,<-qC,(O:32*(n/32)+n % 32=n)]
theorem zod(x:Nat)(n:Int):shrR (toL x) n=if 8192<bl x then([],9)else if n<0\/65536<n then([],2)else dnN (x/2^n.toNat):=by
 unfold shrR dnN;obtain⟨h1,h2⟩:=zdr n.toNat x;rw[ze5 h2,h1];simp only[zfi]
theorem zc6:∀(l m:List Int),val (l++m)=val l+4294967296^l.length*val m
 | [],m=>by simp[val]
 |x::l,m=>by
  rw[wE,qg,qg,zc6 l m,q2,qK,q3,<-q1,qL 4294967296 (4294967296^l.length)];omega
theorem kb:∀(l:List Int)(i:Nat)(y:Int),i<l.length->val (l.set i y)+4294967296^i*(l[i]?.getD 0).toNat =val l+4294967296^i*y.toNat
 | [],i,y,h=>by simp at h
 |x::l,0,y,h=>by
  rw[List.set_cons_zero,qg,qg];simp only[Nat.pow_zero,Nat.one_mul,w6,qJ];omega
 |x::l,i+1,y,h=>by
  have ih:=kb l i y (by simpa using h);rw[List.set_cons_succ,qg,qg,w7,qK];generalize (l[i]?.getD 0).toNat =o at ih⊢;generalize y.toNat=y at ih⊢;generalize 4294967296^i=P at ih⊢;have e1:P*4294967296*o=4294967296*(P*o):=by rw[qL P,q1]
  have e2:P*4294967296*y=4294967296*(P*y):=by rw[qL P,q1]
  rw[e1,e2];omega
theorem zgq(x:Nat)(hx:x<4294967296):∀(b:List Int)(p:Nat)(out:List Int)(c:Nat),LB b->LB out->c<4294967296->p+b.length<=out.length->
 ∃(o:List Int)(d:Nat),zfn x b p out c=(o,(d:Int))/\LB o/\o.length=out.length/\d<4294967296/\val o+4294967296^(p+b.length)*d=val out+4294967296^p*(x*val b+c)/\∀j,p+b.length<=j->o[j]? =out[j]?
 | [],p,out,c,_,ho,hc,_=>⟨out,c,rfl,ho,rfl,hc,by simp[val],fun _ _=>rfl⟩
 |y::b,p,out,c,hb,ho,hc,hl=>by
  have hy:=hb y qB;obtain⟨y,rfl⟩:=qD hy.1;have hy:y<4294967296:=O;rw[q2]at hl;obtain⟨q,hq⟩:∃q:Nat,out[p]?.getD 0=(q:Int):=⟨_,(Int.toNat_of_nonneg (ho.at p).1).symm⟩;have hq2:q<4294967296:=by have:=(ho.at p).2;omega
  have e:((x:Int)*(y:Int)+out[p]?.getD 0+(c:Int))=((x*y+q+c:Nat):Int):=by rw[hq];simp
  have hxy:x*y<=4294967295*4294967295:=Nat.mul_le_mul O O;have hd:(x*y+q+c)/4294967296<4294967296:=O;have hm:=qY (x*y+q+c) (OA:0<4294967296);obtain⟨o,d,h1,h2,h3,h4,h5,h6⟩:=zgq x hx b (p+1) (out.set p (((x*y+q+c) % 4294967296:Nat):Int)) ((x*y+q+c)/4294967296) (fun z hz=>hb z (q4 _ hz)) (ho.set O) hd (by rw[qG];omega);refine⟨o,d,?_,h2,by rw[h3,qG],h4,?_,fun j hj=>?_⟩
  .simp only[zfn];rw[e];exact h1
  .have hs:=kb out p (((x*y+q+c) % 4294967296:Nat):Int) O;rw[hq,q0,q0]at hs;rw[q2,(O:p+(b.length+1)=p+1+b.length),h5,qg,q0,qK];have hmd:=w0 (x*y+q+c) 4294967296;generalize (x*y+q+c)/4294967296=t at hmd⊢;generalize (x*y+q+c) % 4294967296=r at hs hmd⊢;generalize 4294967296^p=P at hs⊢;have e1:P*4294967296*(x*val b+t)=P*(4294967296*(x*val b))+P*(4294967296*t):=by rw[q1,q3,q3]
   have e2:P*(x*(y+4294967296*val b)+c)=P*(x*y)+P*(4294967296*(x*val b))+P*c:=by
    rw[q3 x,q3 P,q3 P]
    congr 3
    rw[<-q1,qL x,q1]
   have e3:P*r+P*(4294967296*t)=P*(x*y)+P*q+P*c:=by rw[<-q3,<-q3,<-q3,hmd]
   rw[e1,e2];omega
  .rw[q2]at hj;rw[h6 j O,qQ O]
theorem zdz(b:List Int)(hb:LB b):∀(a:List Int)(i:Nat)(out:List Int),LB a->LB out->i+a.length+b.length<=out.length->(∀j,i+b.length<=j->out[j]?.getD 0=0)->
 val (zj2 b a i out)=val out+4294967296^i*(val a*val b)/\LB (zj2 b a i out)
 | [],i,out,_,ho,_,_=>⟨by simp[zj2,val],ho⟩
 |x::a,i,out,ha,ho,hl,hz=>by
  have hx:=ha x qB;obtain⟨x,rfl⟩:=qD hx.1;have hx:x<4294967296:=O;rw[q2]at hl;obtain⟨o,d,h1,h2,h3,h4,h5,h6⟩:=zgq x hx b i out 0 hb ho O O;have h1:zfn (x:Int) b i out 0=(o,(d:Int)):=h1;simp only[zj2];rw[h1];have hzo:o[i+b.length]?.getD 0=0:=by rw[h6 _ (qI _)];exact hz _ (qI _)
  have hs:=kb o (i+b.length) (d:Int) O;rw[hzo,q0,qX,w8,w1,h5]at hs;obtain⟨i1,i2⟩:=zdz b hb a (i+1) (o.set (i+b.length) (d:Int)) (fun z hz=>ha z (q4 _ hz)) (h2.set O) (by rw[qG];omega) (fun j hj=>by
   rw[qQ O,h6 j O];exact hz j O)
  refine⟨?_,i2⟩;rw[i1,hs,qg,q0,qK];generalize 4294967296^i=P;have e1:P*4294967296*(val a*val b)=P*(4294967296*(val a*val b)):=q1 _ _ _;have e2:P*((x+4294967296*val a)*val b)=P*(x*val b)+P*(4294967296*(val a*val b)):=by
   rw[wM,q3,q1]
  rw[e1,e2,w1];omega
theorem zad(n:Nat):val (qW n 0)=0:=by
 have:=zku n [];simpa[val]using this
theorem ztb(x y:Nat):val (zvf (toL x) (toL y))=x*y/\LB (zvf (toL x) (toL y)):=by
 unfold zvf;obtain⟨h1,h2⟩:=zdz (toL y) (zk y) (toL x) 0 (qW ((toL x).length +(toL y).length) 0) (zk x) (fun z hz=>by have:=qM hz;omega) OC (fun j _=>by
  rw[qV];split<;>rfl)
 refine⟨?_,h2⟩;rw[h1,zad,zg,zg];simp
theorem zwm(x y:Nat):qei (toL x) (toL y)=if 8192<bl x\/8192<bl y then([],9)else dnN (x*y):=by
 unfold qei dnN;rw[qe,qe];obtain⟨h1,h2⟩:=ztb x y;rw[ze5 h2,h1];simp only[zfi]
def kd(x y:Nat):Int:=if x<y then-1 else if y<x then 1 else 0
theorem jd(l:List Int){n:Nat}(h:n<l.length):val (l.take (n+1))=val (l.take n)+4294967296^n*(l[n]?.getD 0).toNat :=by
 rw[List.take_add_one,List.getElem?_eq_getElem h];simp only[Option.toList_some,qJ];rw[zc6,w4,wG O,qg];simp[val]
theorem kc{l:List Int}(h:LB l)(n:Nat)(hn:n<=l.length):val (l.take n)<4294967296^n:=by
 have:=zc1 (l:=l.take n) fun x hx=>h x (List.mem_of_mem_take hx)
 rw[w4,wG hn,wF]at this;exact this
theorem zi7{a b:List Int}(ha:LB a)(hb:LB b):∀n,n<=a.length->n<=b.length->zav a b n=kd (val (a.take n)) (val (b.take n))
 |0,_,_=>by simp[zav,kd,val]
 |n+1,h1,h2=>by
  have ih:=zi7 ha hb n O O;have ea:=jd a (n:=n) O;have eb:=jd b (n:=n) O;have la:=kc ha n O;have lb:=kc hb n O;have pa:=ha.at n;have pb:=hb.at n;simp only[zav];rw[ea,eb,ih];generalize a[n]?.getD 0=u at*;generalize b[n]?.getD 0=v at*;generalize val (a.take n)=A at*;generalize val (b.take n)=B at*;generalize 4294967296^n=P at*;obtain⟨u,rfl⟩:=qD pa.1;obtain⟨v,rfl⟩:=qD pb.1;rw[q0,q0];unfold kd;by_cases c1:u<v
  .have:P*(u+1)<=P*v:=wA _ c1;rw[wK]at this;rw[Z6 O,Z6 O]
  .by_cases c2:v<u
   .have:P*(v+1)<=P*u:=wA _ c2;rw[wK]at this;rw[Z7 O,Z6 O,Z7 O,Z6 O]
   .obtain rfl:u=v:=by omega
    rw[Z7 O,Z7 O];by_cases c3:A<B
    .rw[Z6 c3,Z6 O]
    .rw[Z7 c3,Z7 (O:¬A+P*u<B+P*u)];by_cases c4:B<A
     .rw[Z6 c4,Z6 O]
     .rw[Z7 c4,Z7 O]
theorem zo5{x y:Nat}(h:(toL x).length <(toL y).length):x<y:=by
 have h1:=(qd x (toL x).length).1 (qI _);refine w2 h1 (wN.1 fun hc=>?_);have:=(qd y (toL x).length).2 hc;omega
theorem zcs(x y:Nat):qbz (toL x) (toL y)=kd x y:=by
 unfold qbz;rw[qe,qe];by_cases h1:(toL x).length <(toL y).length
 .rw[Z6 h1];unfold kd;rw[Z6 (zo5 h1)]
 .rw[Z7 h1];by_cases h2:(toL y).length <(toL x).length
  .have:=zo5 h2;rw[Z6 h2];unfold kd;rw[Z7 O,Z6 this]
  .rw[Z7 h2,zi7 (zk x) (zk y) _ (qI _) O,qN,show(toL x).length =(toL y).length by omega,qN,zg,zg]
set_option maxRecDepth 100000
set_option maxHeartbeats 8000000
def zdk:Nat->Nat->List Int
 |0,_=> []
 |k+1,v=>((v % 4294967296:Nat):Int)::zdk k (v/4294967296)
theorem yz:∀k v,(zdk k v).length =k
 |0,_=>rfl
 |k+1,v=>by simp[zdk,yz k]
theorem xr:∀k v,LB (zdk k v)
 |0,_=>fun _ h=>nomatch h
 |k+1,v=>fun x hx=>by
  rcases w3.1 hx with rfl|hx
  .have:=qY v (OA:0<4294967296);omega
  .exact xr k _ x hx
theorem za3:∀ {l:List Int},LB l->zdk l.length (val l)=l
 | [],_=>rfl
 |x::l,h=>by
  have hx:=h x qB;have ih:=za3 (l:=l) fun y hy=>h y (q4 _ hy)
  rw[qg,q2];show(((x.toNat+4294967296*val l) % 4294967296:Nat):Int)::zdk l.length ((x.toNat+4294967296*val l)/4294967296)=x::l;rw[show(x.toNat+4294967296*val l)/4294967296=val l by omega,ih,show(((x.toNat+4294967296*val l) % 4294967296:Nat):Int)=x by omega]
theorem yu:∀k v,v<4294967296^k->val (zdk k v)=v
 |0,v,h=>by simp at h;subst h;rfl
 |k+1,v,h=>by
  have hd:v/4294967296<4294967296^k:=by
   rw[qA OA,<-qK];exact h
  show val (((v % 4294967296:Nat):Int)::zdk k (v/4294967296))=v;rw[qg,yu k _ hd,q0];omega
theorem zp7{n:Int}(h:0<=n/\n<4294967296):wO.wrap n=n:=by
 simp[wR,wQ,wS];omega
theorem y261(x y c:Nat)(hx:x<4294967296)(hy:y<4294967296)(hc:c<4294967296):Fn 305 [] [.int .u32 x,.int .u32 y,.int .u32 c] (.tup [.int .u32 ((x+y+c) % 4294967296:Nat),.int .u32 ((x+y+c)/4294967296:Nat)]) []:=by
 refine fY4 Tryz.func305 rfl ?_;refine⟨OA,?_⟩;conv=>whnf
 have e1:wP.wrap (wP.wrap (wP.wrap (x:Int)+wP.wrap (y:Int))+wP.wrap (c:Int))=((x+y+c:Nat):Int):=by
  rw[wU (x:=(x:Int)) O,wU (x:=(y:Int)) O,wU (x:=(c:Int)) O,wU (x:=(x:Int)+(y:Int)) O,wU O];omega
 refine⟨lt0 (lc (ai0 ?_) (lc (ai0 ?_) ln0)),lh0⟩
 .refine(congrArg wO.wrap e1).trans ?_;simp[wR,wQ,wS]
 .refine(congrArg (fun z:Int=>wO.wrap (z.fdiv 4294967296)) e1).trans ?_;show wO.wrap (((x+y+c:Nat):Int).fdiv 4294967296)=_;rw[Int.fdiv_eq_ediv_of_nonneg _ OA,show((x+y+c:Nat):Int)/4294967296=(((x+y+c)/4294967296:Nat):Int)from rfl];exact zp7 O
noncomputable def zuo:Code:=Tryz.f298.body.getD .skip
theorem y272(a b:List Int)(ha:LB a)(hb:LB b)(hal:a.length<=100000)(hbl:b.length<=100000):Fn 298 [] [.sl .u32 a,.sl .u32 b] (.sl .u32 (zdk (max a.length b.length+1) (val a+val b))) []:=by
 refine qr (code:=zuo) hT4 hmx Tryz.func298 rfl rfl (ex:= []) ?_;conv=>whnf
 refine jm hT4 hmx 2 (fun x: {p:List Int×List Int//LB p.1/\LB p.2/\p.2.length<=p.1.length/\p.1.length=max a.length b.length/\val p.1+val p.2=val a+val b}=>⟨[.sl .u32 x.1.1,.sl .u32 x.1.2]++uo 51,[(20,.free)]⟩) (fun _=>Z) ?_ (fun x=>?_)
 .conv=>whnf
  refine brI (fun h1=>?_) (fun h1=>?_)
  .have h1:a.length<b.length:=by simp only[Z4]at h1;omega
   conv=>whnf
   refine⟨⟨(b,a),hb,ha,OD,OD,Nat.add_comm _ _⟩,?_⟩;exact KZ0
  .have h1:¬a.length<b.length:=by simp only[Z5]at h1;omega
   conv=>whnf
   refine⟨⟨(a,b),ha,hb,OD,OD,rfl⟩,?_⟩;exact KZ0
 .obtain⟨⟨A,B⟩,hA,hB,hle,hmax,hval⟩:=x;simp only at hA hB hle hmax hval;show SemOK Tryz.prog T4 Tryz.f298.results.toList [] _ [] (zh4 2 zuo) ⟨[.sl .u32 A,.sl .u32 B]++uo 51,[(20,.free)]⟩;rw[<-hmax,<-hval];have hAl:A.length<=100000:=O;clear hmax hval ha hb hal hbl;refine ww hT4 hmx ?_;conv=>whnf
  have hw:IntKind.i64.wrap ((A.length:Int)+1)=((A.length+1:Nat):Int):=by rw[wI O];omega
  rw[hw];refine⟨⟨O,O,O⟩,?_⟩;conv=>whnf
  refine⟨Nat×List Int×Nat,fun x=>x.1<=A.length/\LB x.2.1/\x.2.1.length=A.length+1/\x.2.2<4294967296/\(∀j,x.1<=j->x.2.1[j]?.getD 0=0)/\val x.2.1+4294967296^x.1*x.2.2=val (A.take x.1)+val (B.take x.1),fun x=> [(23,.int .i64 x.1),(6,.int .u32 x.2.2)],fun x=> [(20,.buf 101 .u32 x.2.1)],fun x=>A.length-x.1,(0,qW (A.length+1) 0,0),⟨OC,fun x hx=>by rw[qM hx];omega,OC,OC,fun j _=>by rw[qV];split<;>rfl,by rw[zad];simp[val]⟩,?_,fun x hx=>?_⟩
  .exact KZ0
  refine gYe ?_;obtain⟨i,out,c⟩:=x;obtain⟨hi1,hi2,hi3,hi4,hi5,hi6⟩:=hx;simp only at hi1 hi2 hi3 hi4 hi5 hi6;refine brI (fun h1=>?_) (fun h1=>?_)
  .have hi:i<A.length:=by simp only[Z4]at h1;omega
   conv=>whnf
   refine⟨⟨O,OD⟩,fun(x:Int)hx=>?_⟩;have hx:A[i]? =some x:=by simpa using hx
   have hxb:=hA x (qR hx);have ta:=jd A hi;rw[hx,qJ]at ta;have key:∀y:Nat,y<4294967296->val (B.take (i+1))=val (B.take i)+4294967296^i*y->
    LB (out.set i (((x.toNat+y+c) % 4294967296:Nat):Int))/\(∀j,i+1<=j->(out.set i (((x.toNat+y+c) % 4294967296:Nat):Int))[j]?.getD 0=0)/\
    val (out.set i (((x.toNat+y+c) % 4294967296:Nat):Int))+4294967296^(i+1)*((x.toNat+y+c)/4294967296)=val (A.take (i+1))+val (B.take (i+1)):=by
    intro y hy tb;refine⟨hi2.set O,fun j hj=>by rw[qQ O];exact hi5 j O,?_⟩;have hs:=kb out i (((x.toNat+y+c) % 4294967296:Nat):Int) O;rw[hi5 i (qI _),qX,w8,w1,q0]at hs;rw[hs,ta,tb,qK];have hmd:=w0 (x.toNat+y+c) 4294967296;generalize (x.toNat+y+c)/4294967296=t at hmd⊢;generalize (x.toNat+y+c) % 4294967296=r at hmd⊢;generalize 4294967296^i=P at hi6⊢;have e1:P*4294967296*t=P*(4294967296*t):=q1 _ _ _;have e2:P*r+P*(4294967296*t)=P*x.toNat+P*y+P*c:=by rw[<-q3,hmd,q3,q3]
    rw[e1];omega
   conv=>whnf
   refine brI (fun h2=>?_) (fun h2=>?_)
   .have h2:i<B.length:=by simp only[Z4]at h2;omega
    conv=>whnf
    refine⟨⟨O,OD⟩,fun(y:Int)hy=>?_⟩;have hy:B[i]? =some y:=by simpa using hy
    have hyb:=hB y (qR hy);have tb:=jd B h2;rw[hy,qJ]at tb;obtain⟨k1,k2,k3⟩:=key y.toNat O tb;have h261:=y261 x.toNat y.toNat c O O hi4;rw[show((x.toNat:Nat):Int)=x by omega,show((y.toNat:Nat):Int)=y by omega]at h261;conv=>whnf
    refine gYn h261 ?_;refine⟨⟨O,OD⟩,?_⟩;conv=>whnf
    refine⟨OD,?_⟩;conv=>whnf
    refine⟨(i+1,out.set i (((x.toNat+y.toNat+c) % 4294967296:Nat):Int),(x.toNat+y.toNat+c)/4294967296),⟨OD,k1,by simp only[qG];exact hi3,OD,k2,k3⟩,by show A.length-(i+1)<A.length-i;omega,?_⟩
    ((conv=>whnf);refine And.intro ?_ ?_;repeat' first|refine lc ?_ ?_|refine lh1 ?_ ?_|refine bc0 ?_|exact KXZ|refine lg0 ?_|refine lt0 ?_)
    .exact ai0 (by rw[wI OD];simp only;omega)
    all_goals trace_state
   .have h2:¬i<B.length:=by simp only[Z5]at h2;omega
    obtain⟨k1,k2,k3⟩:=key 0 O (by rw[qE O,qE O];simp);have h261:=y261 x.toNat 0 c O O hi4;rw[show((x.toNat:Nat):Int)=x by omega]at h261;conv=>whnf
    refine gYn h261 ?_;refine⟨⟨O,OD⟩,?_⟩;conv=>whnf
    refine⟨OD,?_⟩;conv=>whnf
    refine⟨(i+1,out.set i (((x.toNat+0+c) % 4294967296:Nat):Int),(x.toNat+0+c)/4294967296),⟨OD,k1,by simp only[qG];exact hi3,OD,k2,k3⟩,by show A.length-(i+1)<A.length-i;omega,?_⟩
    ((conv=>whnf);refine And.intro ?_ ?_;repeat' first|refine lc ?_ ?_|refine lh1 ?_ ?_|refine bc0 ?_|exact KXZ|refine lg0 ?_|refine lt0 ?_)
    .exact ai0 (by rw[wI OD];simp only;omega)
    all_goals trace_state
  .have hi:i=A.length:=by simp only[Z5]at h1;omega
   subst hi;rw[qN,qE hle]at hi6;have hs:=kb out A.length (c:Int) O;rw[hi5 _ (qI _),qX,w8,w1,q0,hi6]at hs;have hp:=za3 (hi2.set (i:=A.length) (x:=(c:Int)) O);rw[qG,hi3,hs]at hp;conv=>whnf
   refine⟨⟨O,OD⟩,?_⟩;conv=>whnf
   refine⟨OD,?_⟩;conv=>whnf
   exact⟨vp hp.symm,lh0⟩
theorem c284(x y b:Nat)(D R:Int)(hD:((x:Int)-(y:Int)-(b:Int)) % 4294967296=D)
 (hR:bits BinOp.or wO (bits BinOp.and wO (bits BinOp.xor wO wO.max (x:Int)) (y:Int)) (bits BinOp.and wO (bits BinOp.xor wO wO.max (bits BinOp.xor wO (x:Int) (y:Int))) D)/2147483648=R) (w:World):
 Calls Tryz.prog 309 #[.int .u32 x,.int .u32 y,.int .u32 b] w fun e w'=>e=.returned (.tuple #[.int .u32 D,.int .u32 R])/\w'=w:=by
 go_enter Tryz.func309,Tryz.ntmps309
 go_wp2_with (simp only[hD,hR])
 go_ret2
 exact⟨rfl,rfl⟩
theorem b32(x y:Nat)(hx:x<4294967296)(hy:y<4294967296):(qH 32 (x:Int)).toNat =x/\(qH 32 (y:Int)).toNat =y:=by
 constructor
 .rw[ws,wB];exact w5 hx
 .rw[ws,wB];exact w5 hy
theorem qcu(x y:Nat)(hx:x<4294967296)(hy:y<4294967296):bits .or .u32 (x:Int) (y:Int)=((x|||y:Nat):Int):=by
 obtain⟨e1,e2⟩:=b32 x y hx hy;have h:x|||y<2^32:=wC hx hy
 have h2:(qH 32 (x:Int)|||qH 32 (y:Int)).toNat =x|||y:=by rw[BitVec.toNat_or,e1,e2]
 show wO.wrap ((qH 32 (x:Int)|||qH 32 (y:Int)).toNat :Int)=_;rw[h2];exact zp7 O
theorem zzl(x y:Nat)(hx:x<4294967296)(hy:y<4294967296):bits .xor .u32 (x:Int) (y:Int)=((x^^^y:Nat):Int):=by
 obtain⟨e1,e2⟩:=b32 x y hx hy;have h:x^^^y<2^32:=qT hx hy;have h2:(qH 32 (x:Int)^^^qH 32 (y:Int)).toNat =x^^^y:=by rw[BitVec.toNat_xor,e1,e2]
 show wO.wrap ((qH 32 (x:Int)^^^qH 32 (y:Int)).toNat :Int)=_;rw[h2];exact zp7 O
theorem zvn{n:Nat}(h:n<4294967296):n.testBit 31=decide (2147483648<=n):=by
 rw[Nat.testBit_eq_decide_div_mod_eq]
 congr 1
 rw[eq_iff_iff];show n/2147483648 % 2=1<->_;omega
theorem qfv(x y b:Nat)(hx:x<4294967296)(hy:y<4294967296)(hb:b<=1):
 ((4294967295^^^x)&&& y|||(4294967295^^^(x^^^y))&&& ((x+4294967296-y-b) % 4294967296))/2147483648=if x<y+b then 1 else 0:=by
 have hd:=qY (x+4294967296-y-b) (OA:0<4294967296);have hdef:∃d,(x+4294967296-y-b) % 4294967296=d:=⟨_,rfl⟩;obtain⟨d,hdd⟩:=hdef;rw[hdd]at hd⊢;have hN:((4294967295^^^x)&&& y|||(4294967295^^^(x^^^y))&&& d)<2^32:=
  wC (qU qZ hy) (qU qZ hd)
 have ht:=zvn hN;rw[Nat.testBit_or,wH,wH,w9,w9,w9,zvn hx,zvn hy,zvn hd,(OA:Nat.testBit 4294967295 31=true)]at ht;generalize ((4294967295^^^x)&&& y|||(4294967295^^^(x^^^y))&&& d)=N at hN ht⊢;have hN:N<4294967296:=hN;by_cases c1:2147483648<=x<;>by_cases c2:2147483648<=y<;>by_cases c3:2147483648<=d<;>simp only[c1,c2,c3,decide_true,decide_false,Bool.xor_true,Bool.xor_false,Bool.true_xor,Bool.false_xor,Bool.not_true,Bool.not_false,Bool.and_true,Bool.and_false,Bool.true_and,Bool.false_and,Bool.or_false,Bool.or_true,Bool.false_or,true_eq_decide_iff,false_eq_decide_iff]at ht<;>split<;>omega
theorem y284(x y b:Nat)(hx:x<4294967296)(hy:y<4294967296)(hb:b<=1):Fn 309 [] [.int .u32 x,.int .u32 y,.int .u32 b] (.tup [.int .u32 ((x+4294967296-y-b) % 4294967296:Nat),.int .u32 ((if x<y+b then 1 else 0:Nat):Int)]) []:=by
 refine⟨⟨_,Tryz.func309,rfl,rfl⟩,fun w M pt ow S vs hcore hcont hargs=>?_⟩
 match vs,hargs with
 | [v1,v2,v3],⟨h1,h2,h3,_⟩=>
   obtain rfl:v1=.int .u32 x:=h1;obtain rfl:v2=.int .u32 y:=h2;obtain rfl:v3=.int .u32 b:=h3;have hd:=qY (x+4294967296-y-b) (OA:0<4294967296);have hD:((x:Int)-(y:Int)-(b:Int)) % 4294967296=(((x+4294967296-y-b) % 4294967296:Nat):Int):=O;have hm:wO.max=((4294967295:Nat):Int):=OA;have x1:4294967295^^^x<4294967296:=qT (n:=32) OA hx;have x2:x^^^y<4294967296:=qT (n:=32) hx hy;have x3:4294967295^^^(x^^^y)<4294967296:=qT (n:=32) OA x2;refine(c284 x y b _ ((if x<y+b then 1 else 0:Nat):Int) hD ?_ w).mono ?_
   .rw[hm,zzl _ _ OA hx,zzl _ _ hx hy,zzl _ _ OA x2,bits_and_u32_nat _ _ x1 hy,bits_and_u32_nat _ _ x3 hd,
     qcu _ _ (qU qZ hy) (qU qZ hd),<-qfv x y b hx hy hb]
    rfl
   .rintro e w' ⟨rfl,rfl⟩;exact⟨_,M,pt,ow,S,rfl,hcore,hcont,⟨_,rfl,rfl,rfl,trivial⟩,rfl,rfl,rfl,qI _,fun _ _ _ _=>rfl,fun _ h=>h,fun _ h=>.inl h,fun _ h=>.inl h,fun _ _ h=>.inl h,fun _ _ h=>.inl h⟩
theorem zu(x k:Nat):(toL x).length <=k<->bl x<=32*k:=by rw[qd,vr]
theorem y263(x y:Nat)(hx:bl x<=100000)(hy:bl y<=100000):Fn 269 [] [.sl .u32 (toL x),.sl .u32 (toL y)] (dnV (if 8192<bl x\/8192<bl y then([],9)else dnN (x+y))) []:=by
 have lx:(toL x).length <=100000:=(zu x 100000).2 O;have ly:(toL y).length <=100000:=(zu y 100000).2 O;have h215:=zx2 [toL x,toL y] OC;have h272:=y272 (toL x) (toL y) (zk x) (zk y) lx ly;rw[zg,zg]at h272;have h221:=qcl (zdk (max (toL x).length (toL y).length +1) (x+y)) (by rw[yz];omega);rw[ze5 (xr _ _)]at h221;have hv:val (zdk (max (toL x).length (toL y).length +1) (x+y))=x+y:=by
  refine yu _ _ ?_;have h1:=(qd x _).1 (Nat.le_max_left (toL x).length (toL y).length);have h2:=(qd y _).1 (Nat.le_max_right (toL x).length (toL y).length);rw[wF]at h1 h2;have e:(2:Nat)^32=4294967296:=rfl;rw[e]at h1 h2;rw[qK];omega
 rw[hv]at h221;have hlg:([toL x,toL y].any lgB)=decide (8192<bl x\/8192<bl y):=by
  simp only[wJ,wL,Bool.or_false,lgB,zfi,Bool.decide_or]
 rw[hlg]at h215;refine fY4 Tryz.func269 rfl ?_;refine cbI [] _ h215 (fun h1=>?_) (fun h1=>?_)
 .rw[Z6 (Z0 h1)];conv=>whnf
  exact⟨lt0 (lc (li0 rfl) (lc (lr rfl) ln0)),lh0⟩
 .rw[Z7 (Z3 h1)];unfold dnN;conv=>whnf
  refine gYn h272 ?_;refine gYn h221 ?_;exact⟨lr rfl,lh0⟩
theorem y280(x y:Nat)(hxl:(toL x).length <=100000)(hyl:(toL y).length <=100000)(hle:y<=x):Fn 299 [] [.sl .u32 (toL x),.sl .u32 (toL y)] (.sl .u32 (zdk (toL x).length (x-y))) []:=by
 have hx216:=zhv (toL x) O;have hy216:=zhv (toL y) O;rw[qe]at hx216 hy216;have hA:=zk x;have hB:=zk y;have vA:=zg x;have vB:=zg y;have hll:(toL y).length <=(toL x).length :=wN.1 fun h=>by have:=zo5 h;omega
 have hlt:=kc hA (toL x).length (qI _);generalize toL x=A at*;generalize toL y=B at*;refine fY4 Tryz.func299 rfl ?_;refine gYn hx216 ?_;refine gYn hy216 ?_;refine⟨⟨O,O,O⟩,?_⟩;conv=>whnf
 refine⟨Nat×List Int×Nat,fun x=>x.1<=A.length/\LB x.2.1/\x.2.1.length=A.length/\x.2.2<=1/\(∀j,x.1<=j->x.2.1[j]?.getD 0=0)/\val x.2.1+val (B.take x.1)=val (A.take x.1)+4294967296^x.1*x.2.2,fun x=> [(19,.int .i64 x.1),(6,.int .u32 x.2.2)],fun x=> [(16,.buf 101 .u32 x.2.1)],fun x=>A.length-x.1,(0,qW A.length 0,0),⟨OC,fun x hx=>by rw[qM hx];omega,OC,OC,fun j _=>by rw[qV];split<;>rfl,by rw[zad];simp[val]⟩,?_,fun x hx=>?_⟩
 .exact KZ0
 refine gYe ?_;obtain⟨i,out,c⟩:=x;obtain⟨hi1,hi2,hi3,hi4,hi5,hi6⟩:=hx;simp only at hi1 hi2 hi3 hi4 hi5 hi6;refine brI (fun h1=>?_) (fun h1=>?_)
 .have hi:i<A.length:=by simp only[Z4]at h1;omega
  conv=>whnf
  refine⟨⟨O,OD⟩,fun(x:Int)hx=>?_⟩;have hx:A[i]? =some x:=by simpa using hx
  have hxb:=hA x (qR hx);have ta:=jd A hi;rw[hx,qJ]at ta;have key:∀y:Nat,y<4294967296->val (B.take (i+1))=val (B.take i)+4294967296^i*y->
   LB (out.set i (((x.toNat+4294967296-y-c) % 4294967296:Nat):Int))/\(∀j,i+1<=j->(out.set i (((x.toNat+4294967296-y-c) % 4294967296:Nat):Int))[j]?.getD 0=0)/\
   val (out.set i (((x.toNat+4294967296-y-c) % 4294967296:Nat):Int))+val (B.take (i+1))=val (A.take (i+1))+4294967296^(i+1)*(if x.toNat<y+c then 1 else 0):=by
   intro y hy tb;refine⟨hi2.set O,fun j hj=>by rw[qQ O];exact hi5 j O,?_⟩;have hs:=kb out i (((x.toNat+4294967296-y-c) % 4294967296:Nat):Int) O;rw[hi5 i (qI _),qX,w8,w1,q0]at hs;rw[hs,ta,tb,qK];have hmd:(x.toNat+4294967296-y-c) % 4294967296+y+c=x.toNat+4294967296*(if x.toNat<y+c then 1 else 0):=by split<;>omega
   generalize (x.toNat+4294967296-y-c) % 4294967296=r at hmd⊢;generalize (if x.toNat<y+c then 1 else 0)=t at hmd⊢;generalize 4294967296^i=P at hi6⊢;have e1:P*4294967296*t=P*(4294967296*t):=q1 _ _ _;have e2:P*r+P*y+P*c=P*x.toNat+P*(4294967296*t):=by rw[<-q3,<-q3,hmd,q3]
   rw[e1];omega
  conv=>whnf
  refine brI (fun h2=>?_) (fun h2=>?_)
  .have h2:i<B.length:=by simp only[Z4]at h2;omega
   conv=>whnf
   refine⟨⟨O,OD⟩,fun(y:Int)hy=>?_⟩;have hy:B[i]? =some y:=by simpa using hy
   have hyb:=hB y (qR hy);have tb:=jd B h2;rw[hy,qJ]at tb;obtain⟨k1,k2,k3⟩:=key y.toNat O tb;have h284:=y284 x.toNat y.toNat c O O hi4;rw[show((x.toNat:Nat):Int)=x by omega,show((y.toNat:Nat):Int)=y by omega]at h284;conv=>whnf
   refine gYn h284 ?_;refine⟨⟨O,OD⟩,?_⟩;conv=>whnf
   refine⟨OD,?_⟩;conv=>whnf
   refine⟨(i+1,out.set i (((x.toNat+4294967296-y.toNat-c) % 4294967296:Nat):Int),if x.toNat<y.toNat+c then 1 else 0),⟨OD,k1,by simp only[qG];exact hi3,by simp only;split<;>omega,k2,k3⟩,by show A.length-(i+1)<A.length-i;omega,?_⟩;exact KZ0
  .have h2:¬i<B.length:=by simp only[Z5]at h2;omega
   obtain⟨k1,k2,k3⟩:=key 0 O (by rw[qE O,qE O];simp);have h284:=y284 x.toNat 0 c O O hi4;rw[show((x.toNat:Nat):Int)=x by omega]at h284;conv=>whnf
   refine gYn h284 ?_;refine⟨⟨O,OD⟩,?_⟩;conv=>whnf
   refine⟨OD,?_⟩;conv=>whnf
   refine⟨(i+1,out.set i (((x.toNat+4294967296-0-c) % 4294967296:Nat):Int),if x.toNat<0+c then 1 else 0),⟨OD,k1,by simp only[qG];exact hi3,by simp only;split<;>omega,k2,k3⟩,by show A.length-(i+1)<A.length-i;omega,?_⟩;exact KZ0
 .have hi:i=A.length:=by simp only[Z5]at h1;omega
  subst hi;rw[qN,qE hll,vA,vB]at hi6;rw[qN,vA]at hlt;have ho:=kc hi2 out.length (qI _);rw[qN,hi3]at ho;have hc:c=0:=by
   rcases(by omega:c=0\/c=1)with h|h
   .exact h
   .subst h;omega
  subst hc;have hp:=za3 hi2;rw[hi3,(O:val out=x-y)]at hp;conv=>whnf
  exact⟨vp hp.symm,lh0⟩
theorem y264(x y:Nat)(hx:bl x<=100000)(hy:bl y<=100000):Fn 270 [] [.sl .u32 (toL x),.sl .u32 (toL y)] (dnV (if 8192<bl x\/8192<bl y then([],9)else if x<y then([],2)else dnN (x-y))) []:=by
 have lx:(toL x).length <=100000:=(zu x 100000).2 O;have ly:(toL y).length <=100000:=(zu y 100000).2 O;have h215:=zx2 [toL x,toL y] OC;have hlg:([toL x,toL y].any lgB)=decide (8192<bl x\/8192<bl y):=by
  simp only[wJ,wL,Bool.or_false,lgB,zfi,Bool.decide_or]
 rw[hlg]at h215;have h177:=qc9 (toL x) (toL y) O O;rw[zcs]at h177;refine fY4 Tryz.func270 rfl ?_;refine cbI [] _ h215 (fun h1=>?_) (fun h1=>?_)
 .rw[Z6 (Z0 h1)];conv=>whnf
  exact⟨lt0 (lc (li0 rfl) (lc (lr rfl) ln0)),lh0⟩
 rw[Z7 (Z3 h1)];conv=>whnf
 refine gYn h177 ?_;refine brI (fun h2=>?_) (fun h2=>?_)
 .have h2:kd x y<0:=Z0 h2;have h3:x<y:=by unfold kd at h2;split at h2;assumption;split at h2<;>omega
  rw[Z6 h3];conv=>whnf
  exact⟨lt0 (lc (li0 rfl) (lc (lr rfl) ln0)),lh0⟩
 .have h2:¬kd x y<0:=Z3 h2;have h3:¬x<y:=fun h=>h2 (by unfold kd;rw[Z6 h];decide)
  rw[Z7 h3];have h280:=y280 x y lx ly O;have h221:=qcl (zdk (toL x).length (x-y)) (by rw[yz];omega);rw[ze5 (xr _ _)]at h221;have hv:val (zdk (toL x).length (x-y))=x-y:=by
   refine yu _ _ ?_;have h1:=(qd x _).1 (qI (toL x).length);rw[wF]at h1;have e:(2:Nat)^32=4294967296:=rfl;rw[e]at h1;omega
  rw[hv]at h221;unfold dnN;conv=>whnf
  refine gYn h280 ?_;refine gYn h221 ?_;exact⟨lr rfl,lh0⟩
