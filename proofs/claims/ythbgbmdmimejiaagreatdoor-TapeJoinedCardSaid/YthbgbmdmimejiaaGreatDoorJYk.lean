/- Limbs and natural numbers: plain functions. -/
import Derived.Test.YthbgbmdmimejiaaGreatDoorJYa
set_option linter.all false
open BitVec renaming ofInt->qC,ofInt_natCast->w8,toNat_ofNat->we
open Int renaming toNat_natCast->q0,eq_ofNat_of_zero_le->q8,toNat_zero->qS
open List renaming length_cons->q2,mem_cons_of_mem->q4,mem_cons_self->q6,take_of_length_le->q9,length_set->qB,eq_of_mem_replicate->qH,take_length->qI,getElem?_set_ne->qL,mem_of_getElem?->qM,getElem?_replicate->qQ,replicate->qR,mem_cons->qY,length_take->qZ,getElem?_cons_zero->w1,getElem?_cons_succ->w2,cons_append->ws,any_cons->wD,any_nil->wF
open Nat renaming mul_assoc->q1,mul_add->q3,div_lt_iff_lt_mul->q5,pow_add->q7,two_pow_pos->qA,le_refl->qD,pow_succ->qF,mul_comm->qG,div_div_eq_div_mul->qJ,pow_le_pow_right->qK,not_le->qN,xor_lt_two_pow->qO,lt_of_le_of_lt->qP,mod_lt->qT,and_le_right->qU,mod_add_div->qV,add_zero->qW,lt_of_lt_of_le->qX,mod_eq_of_lt->w0,mul_zero->w3,testBit_xor->w4,succ_le_succ_iff->w5,mul_le_mul_right->w6,add_mul_div_left->w7,mul_le_mul_left->w9,or_lt_two_pow->wi,lt_log2_self->wn,pow_mul->wA,min_eq_left->wB,testBit_and->wC,mul_succ->wE,add_mul->wG,not_lt->wH
open Option renaming getD_some->qE
open Go.IntKind renaming u32->wJ,u64->wK,signed->wL,wrap->wM,bits->wN
namespace Go.Proofs.YthbgbmdmimejiaaGreatDoor
open Go Go.Sx
def val:List Int->Nat
 | []=>0
 |x::l=>x.toNat+4294967296*val l
def zuq:Nat->Nat->List Int
 |0,_=> []
 |f+1,n=>if n=0 then []else((n % 4294967296:Nat):Int)::zuq f (n/4294967296)
def toL(n:Nat):List Int:=zuq (n.log2/32+1) n
def bl(n:Nat):Nat:=if n=0 then 0 else n.log2+1
theorem zcc(n:Nat):n<2^bl n:=by
 unfold bl;split
 .rename_i h;subst h;decide
 .exact wn
theorem jo{n k:Nat}:bl n<=k<->n<2^k:=by
 unfold bl;split
 .rename_i h;subst h;exact⟨fun _=>qA k,fun _=>Nat.zero_le _⟩
 .rename_i h;rw[Nat.succ_le_iff];exact Nat.log2_lt h
theorem zd3{n k:Nat}(h:n≠0):k+1<=bl n<->2^k<=n:=by
 unfold bl;rw[Z5 h,w5];exact Nat.le_log2 h
theorem qe1{n k:Nat}(h1:2^k<=n)(h2:n<2^(k+1)):bl n=k+1:=by
 have h0:n≠0:=by have:=qA k;omega
 have a:=(zd3 h0).2 h1;have b:=jo.2 h2;omega
theorem kv:bl 0=0:=rfl
theorem yx{n:Nat}:bl n=0<->n=0:=by
 constructor
 .intro h;have:=jo.1 (Nat.le_of_eq h);simpa using this
 .intro h;subst h;rfl
theorem qt(n k:Nat)(h:n≠0):bl (n*2^k)=bl n+k:=by
 have h1:bl n≠0:=fun e=>h (yx.1 e)
 obtain⟨j,hj⟩:∃j,bl n=j+1:=⟨bl n-1,O⟩;have h2:2^j<=n:=(zd3 h).1 O;have h3:n<2^(j+1):=jo.1 O;rw[hj,(O:j+1+k=(j+k)+1)];refine qe1 ?_ ?_
 .rw[q7];exact w6 _ h2
 .rw[(O:j+k+1=(j+1)+k),q7 2 (j+1) k];exact Nat.mul_lt_mul_of_pos_right h3 (qA k)
theorem zd4(n k:Nat)(h:2^k<=n):bl (n/2^k)=bl n-k:=by
 have h0:n≠0:=by have:=qA k;omega
 have h1:k+1<=bl n:=(zd3 h0).2 h;obtain⟨j,hj⟩:∃j,bl n=j+k+1:=⟨bl n-k-1,O⟩;have h2:2^(j+k)<=n:=(zd3 h0).1 O;have h3:n<2^(j+k+1):=jo.1 O;rw[hj,(O:j+k+1-k=j+1)];refine qe1 ?_ ?_
 .rw[Nat.le_div_iff_mul_le (qA k),<-q7];exact h2
 .rw[q5 (qA k),<-q7,(O:j+1+k=j+k+1)];exact h3
theorem zm1:∀(f n:Nat),n<2^(32*f)->val (zuq f n)=n
 |0,n,h=>by simp at h;subst h;rfl
 |f+1,n,h=>by
  simp only[zuq];split
  .rename_i h0;subst h0;rfl
  .have hd:n/4294967296<2^(32*f):=by
    rw[q5 OA];rw[(O:32*(f+1)=32*f+32),q7]at h;exact h
   simp only[val,zm1 f _ hd,q0];omega
theorem ze5:∀(f g n:Nat),n<2^(32*f)->f<=g->zuq g n=zuq f n
 |0,g,n,h,_=>by
  simp at h;subst h;cases g<;>simp[zuq]
 |f+1,0,n,h,hg=>O
 |f+1,g+1,n,h,hg=>by
  simp only[zuq];split
  .rfl
  .have hd:n/4294967296<2^(32*f):=by
    rw[q5 OA];rw[(O:32*(f+1)=32*f+32),q7]at h;exact h
   rw[ze5 f g _ hd O]
theorem zl1(n:Nat):n<2^(32*(n.log2/32+1)):=by
 refine qX (wn (n:=n)) (qK OA O)
theorem qe(n:Nat):val (toL n)=n:=zm1 _ _ (zl1 n)
theorem jh:toL 0= []:=rfl
theorem zu2{n f:Nat}(h:n<2^(32*f)):toL n=zuq f n:=by
 unfold toL;by_cases hf:f<=n.log2/32+1
 .exact ze5 f _ n h hf
 .exact(ze5 _ f n (zl1 n) O).symm
theorem xe{n:Nat}(h:n≠0):toL n=((n % 4294967296:Nat):Int)::toL (n/4294967296):=by
 have h1:=zl1 n;have hd:n/4294967296<2^(32*(n.log2/32)):=by
  rw[q5 OA];rw[(O:32*(n.log2/32+1)=32*(n.log2/32)+32),q7]at h1;exact h1
 rw[zu2 hd];unfold toL;simp only[zuq,Z5 h]
theorem zlf{P:Nat->Prop}(h0:P 0)(hs:∀n,n≠0->P (n/4294967296)->P n)(n:Nat):P n:=by
 induction n using Nat.strongRecOn with
 | _ n ih=>
   by_cases h:n=0
   .subst h;exact h0
   .exact hs n h (ih _ (Nat.div_lt_self O OA))
theorem qn(n:Nat):LB (toL n):=by
 refine zlf (P:=fun n=>LB (toL n)) (fun _ h=>nomatch h) (fun n h ih=>?_) n;rw[xe h];intro x hx;rcases qY.1 hx with rfl|hx
 .have:n % 4294967296<4294967296:=qT _ OA;omega
 .exact ih x hx
theorem jy(n k:Nat):(toL n).length <=k<->n<2^(32*k):=by
 have:∀n,∀k,(toL n).length <=k<->n<2^(32*k):=by
  refine zlf (fun k=>?_) fun n h ih k=>?_
  .simp[jh,qA]
  .rw[xe h,q2]
   cases k with
   |zero=>simp;omega
   |succ k=>
    rw[w5,ih k,q5 OA,(O:32*(k+1)=32*k+32),q7]
 exact this n k
theorem qb6{l:List Int}(h:LB l):val l<2^(32*l.length):=by
 induction l with
 |nil=>decide
 |cons x l ih=>
  have ih:=ih fun y hy=>h y (q4 _ hy)
  have hx:=h x q6;simp only[val,q2];rw[(O:32*(l.length+1)=32*l.length+32),q7];generalize 2^(32*l.length)=m at ih;omega
theorem zh4(x:Int)(l:List Int):∀n,trN (x::l) (n+1)=if trN l n=0 then(if x=0 then 0 else 1)else trN l n+1
 |0=>by simp[trN]
 |n+1=>by
  have ih:=zh4 x l n;rw[show trN (x::l) (n+1+1)=if(x::l)[n+1]?.getD 0=0 then trN (x::l) (n+1)else n+1+1 from rfl];rw[show(x::l)[n+1]? =l[n]? by simp,show trN l (n+1)=if l[n]?.getD 0=0 then trN l n else n+1 from rfl];split
  .exact ih
  .simp
theorem zuz(x:Int)(l:List Int):trL (x::l)=if trL l= []then(if x=0 then []else [x])else x::trL l:=by
 have hl:trL l= []<->trN l l.length=0:=by
  have:=zqr l l.length;unfold trL;constructor
  .intro h;have:=congrArg List.length h;rw[qZ,List.length_nil]at this;omega
  .intro h;rw[h];rfl
 by_cases h:trN l l.length=0
 .rw[Z4 (hl.2 h)];unfold trL;rw[q2,zh4,Z4 h];split<;>rfl
 .rw[Z5 fun e=>h (hl.1 e)];unfold trL;rw[q2,zh4,Z5 h];rfl
theorem xk:∀ {l:List Int},LB l->trL l=toL (val l)
 | [],_=>rfl
 |x::l,h=>by
  have ih:=xk (l:=l) fun y hy=>h y (q4 _ hy)
  have hx:=h x q6;rw[zuz,ih];simp only[val];by_cases hv:val l=0
  .rw[hv,jh,Z4 rfl];by_cases h0:x=0
   .subst h0;rfl
   .rw[Z5 h0,xe O,show(x.toNat+4294967296*0)/4294967296=0 by omega,jh]
    congr 1;omega
  .rw[Z5 (fun e=>hv (by have:=congrArg val e;rw[qe]at this;exact this)),xe (n:=x.toNat+4294967296*val l) O];rw[show(x.toNat+4294967296*val l)/4294967296=val l by omega,show(((x.toNat+4294967296*val l) % 4294967296:Nat):Int)=x by omega]
theorem qz(n:Nat):trL (toL n)=toL n:=by rw[xk (qn n),qe]
theorem qa6{n:Nat}(h:n≠0):bl n=bl (n/2)+1:=by
 by_cases h2:2<=n
 .have:=zd4 n 1 (by simpa using h2);have h1:2<=bl n:=(zd3 h).2 (by simpa using h2);simp only[Nat.pow_one]at this;omega
 .obtain rfl:n=1:=by omega
  rfl
theorem zgj{x:Nat}(h:x<2^64):Lib.bitLen x=bl x:=by
 have:∀(f x:Nat),x<2^f->Lib.bitLenAux f x=bl x:=by
  intro f
  induction f with
  |zero=>intro x hx;simp at hx;subst hx;rfl
  |succ f ih=>
   intro x hx;simp only[Lib.bitLenAux];split
   .rename_i h0;subst h0;rfl
   .rename_i h0;rw[ih (x/2) (by rw[qF]at hx;omega),qa6 h0];omega
 exact this 64 x h
theorem zis(n:Nat):(match(toL n).getLast? with|none=>(0:Int)|some x=>32*(((toL n).length :Int)-1)+((Lib.bitLen x.toNat:Nat):Int):Int)=((bl n:Nat):Int):=by
 refine zlf (P:=fun n=>(match(toL n).getLast? with|none=>(0:Int)|some x=>32*(((toL n).length :Int)-1)+((Lib.bitLen x.toNat:Nat):Int):Int)=((bl n:Nat):Int)) rfl (fun n h ih=>?_) n;rw[xe h];by_cases h1:n/4294967296=0
 .have h2:n<4294967296:=by omega
  rw[h1,jh];simp only[List.getLast?_singleton,List.length_singleton];rw[q0,w0 h2,zgj O];simp
 .have hne:toL (n/4294967296)≠ []:=fun e=>h1 (by have:=congrArg val e;rw[qe]at this;exact this)
  rw[List.getLast?_cons_of_ne_nil hne];have hb:bl (n/4294967296)=bl n-32:=zd4 n 32 O;have hb2:33<=bl n:=(zd3 h).2 O
  cases hg:(toL (n/4294967296)).getLast? with
  |none=>exact absurd (List.getLast?_eq_none_iff.1 hg) hne
  |some x=>
   rw[hg]at ih;simp only at ih;have hl:0<(toL (n/4294967296)).length :=List.length_pos_iff.2 hne;simp only[q2];omega
theorem zhy{l:List Int}(h:LB l):btL l=(bl (val l):Nat):=by
 unfold btL;rw[xk h];exact zis _
theorem qy(x:Int)(l:List Int):val (x::l)=x.toNat+4294967296*val l:=rfl
theorem zjf(k:Nat)(l:List Int):val (qR k 0++l)=2^(32*k)*val l:=by
 induction k with
 |zero=>simp
 |succ k ih=>
  rw[List.replicate_succ,ws,(O:32*(k+1)=32*k+32),q7];simp only[val,ih,qS,Nat.zero_add];have e:(2:Nat)^32=4294967296:=rfl;rw[e,qG (2^(32*k)) 4294967296,q1]
theorem zg4(r:Nat)(hr:r<=32):∀(l:List Int)(c:Nat),LB l->c<2^r->val (zav r l c)=val l*2^r+c/\LB (zav r l c)
 | [],c,_,hc=>by
   have h2:2^r<=2^32:=qK OA hr;refine⟨by simp[zav,val],fun x hx=>?_⟩;simp only[zav,List.mem_singleton]at hx;omega
 |x::l,c,h,hc=>by
  have h2:2^r<=2^32:=qK OA hr;have hx:=h x q6;obtain⟨y,rfl⟩:=q8 hx.1;have hy:y<4294967296:=O;have e:((y:Int)*2^r+(c:Int))=((y*2^r+c:Nat):Int):=OC;have hq:(y*2^r+c)/4294967296<2^r:=by
   rw[q5 OA];have:(y+1)*2^r<=4294967296*2^r:=w6 _ O;rw[Nat.succ_mul]at this;rw[qG (2^r)];omega
  simp only[zav];rw[e,show(((y*2^r+c:Nat):Int)/4294967296)=(((y*2^r+c)/4294967296:Nat):Int)from rfl,show(((y*2^r+c:Nat):Int) % 4294967296)=(((y*2^r+c) % 4294967296:Nat):Int)from rfl];obtain⟨i1,i2⟩:=zg4 r hr l ((y*2^r+c)/4294967296) (fun z hz=>h z (q4 _ hz)) hq;constructor
  .simp only[val,i1,q0];have h1:4294967296*(val l*2^r)=(4294967296*val l)*2^r:=by rw[q1]
   have h3:(y+4294967296*val l)*2^r=y*2^r+(4294967296*val l)*2^r:=wG _ _ _;have h4:=qV (y*2^r+c) 4294967296;omega
  .intro z hz;rcases qY.1 hz with rfl|hz
   .have:=qT (y*2^r+c) (OA:0<4294967296);omega
   .exact i2 z hz
theorem zcu(n x:Nat):val (zgo (toL x) n)=x*2^n/\LB (zgo (toL x) n):=by
 unfold zgo;rw[qz];obtain⟨h1,h2⟩:=zg4 (n % 32) O (toL x) 0 (qn x) (qA _);constructor
 .rw[zjf];have h1:val (zav (n % 32) (toL x) 0)=x*2^(n % 32):=by
   have:=h1;rw[qe]at this;simpa using this
  rw[h1,<-q1,qG _ x,q1,<-q7,(O:32*(n/32)+n % 32=n)]
 .intro z hz;rcases List.mem_append.1 hz with hz|hz
  .have:=qH hz;omega
  .exact h2 z hz
theorem zd2{l:List Int}(h:LB l):dnL l=if 8192<bl (val l)then([],9)else(toL (val l),0):=by
 unfold dnL;rw[xk h];have h1:(256<(toL (val l)).length)<->8192<bl (val l):=by
  have a:=jy (val l) 256;have b:=jo (n:=val l) (k:=32*256);constructor
  .intro hh;exact qN.1 fun hc=>qN.2 hh (a.2 (b.1 hc))
  .intro hh;exact qN.1 fun hc=>qN.2 hh (b.2 (a.1 hc))
 by_cases hh:256<(toL (val l)).length
 .rw[Z4 hh,Z4 (h1.1 hh)]
 .rw[Z5 hh,Z5 fun e=>hh (h1.2 e)]
theorem zee(x:Nat):(256<(toL x).length)<->8192<bl x:=by
 have a:=jy x 256;have b:=jo (n:=x) (k:=32*256);constructor
 .intro hh;exact qN.1 fun hc=>qN.2 hh (a.2 (b.1 hc))
 .intro hh;exact qN.1 fun hc=>qN.2 hh (b.2 (a.1 hc))
def dnN(x:Nat):List Int×Int:=if 8192<bl x then([],9)else(toL x,0)
theorem zh9(x:Nat)(n:Int):qbq (toL x) n=if 8192<bl x then([],9)else if n<0\/65536<n then([],2)else dnN (x*2^n.toNat):=by
 unfold qbq dnN;obtain⟨h1,h2⟩:=zcu n.toNat x;rw[zd2 h2,h1];simp only[zee]
theorem zu9(p q y z w:Nat)(hp:0<p)(hpq:p*q=4294967296)(hy:y<4294967296):
 (y+4294967296*(z+4294967296*w))/p=(y+z*4294967296)/p % 4294967296+4294967296*((z+4294967296*w)/p):=by
 have a1:(z+4294967296*w)/p=z/p+q*w:=by
  rw[<-hpq,q1,w7 _ _ hp]
 have a2:(y+4294967296*(z+4294967296*w))/p=(y+z*4294967296)/p+q*(4294967296*w):=by
  have e:y+4294967296*(z+4294967296*w)=(y+z*4294967296)+p*(q*(4294967296*w)):=by
   rw[<-q1 p q,hpq];omega
  rw[e,w7 _ _ hp]
 have a3:(y+z*4294967296)/p/4294967296=z/p:=by
  rw[qJ,qG p,<-qJ]
  congr 1;omega
 have a4:=qV ((y+z*4294967296)/p) 4294967296;have a5:q*(4294967296*w)=4294967296*(q*w):=by rw[<-q1,qG q,q1]
 rw[a1,a2,q3];rw[a3]at a4;omega
theorem zpj(x:Int)(l:List Int)(r:Nat):zfb (x::l) r=zjn (x::l) r 0::zfb l r:=by
 unfold zfb;rw[q2,List.range_succ_eq_map,List.map_cons,List.map_map]
 congr 1
theorem zv4(l:List Int)(h:LB l):∃z w:Nat,z<4294967296/\l[0]?.getD 0=(z:Int)/\val l=z+4294967296*w:=by
 cases l with
 |nil=>exact⟨0,0,OA,rfl,rfl⟩
 |cons a m=>
  have ha:=h a OC;exact⟨a.toNat,val m,O,OE,rfl⟩
theorem zpk(y z r:Nat)(l:List Int)(h:l[0]?.getD 0=(z:Int)):zjn ((y:Int)::l) r 0=(((y+z*4294967296)/2^r % 4294967296:Nat):Int):=by
 unfold zjn;simp only[w1,qE,w2,h];simp
theorem zpi(r:Nat)(hr:r<=32)(l:List Int)(h:LB l):val (zfb l r)=val l/2^r/\LB (zfb l r):=by
 have ep:2^r*2^(32-r)=4294967296:=by rw[<-q7,(O:r+(32-r)=32)]
 have hp:=qA r;have hsh:=fun y z l h=>zpk y z r l h
 generalize 2^(32-r)=q at ep;generalize hP:2^r=p at ep hp hsh
 induction l with
 |nil=>exact⟨by simp[zfb,val],fun _ h=>nomatch h⟩
 |cons x l ih=>
  have hl:LB l:=fun z hz=>h z (q4 _ hz)
  obtain⟨i1,i2⟩:=ih hl;have hx:=h x q6;obtain⟨y,rfl⟩:=q8 hx.1;have hy:y<4294967296:=O;obtain⟨z,w,hz,hl0,hv⟩:=zv4 l hl;rw[zpj,hsh y z l hl0];refine⟨?_,?_⟩
  .rw[qy,qy,i1,hv,q0,q0];exact(zu9 p q y z w hp ep hy).symm
  .intro v hvm;rcases qY.1 hvm with rfl|hvm
   .have:=qT ((y+z*4294967296)/p) (OA:0<4294967296);omega
   .exact i2 v hvm
theorem zmr:∀(k:Nat)(l:List Int),LB l->val (l.drop k)=val l/2^(32*k)
 |0,l,_=>OC
 |k+1,[],_=>by simp[val]
 |k+1,x::l,h=>by
  have ih:=zmr k l fun z hz=>h z (q4 _ hz)
  have hx:=h x q6;rw[List.drop_succ_cons,ih,(O:32*(k+1)=32+32*k),q7,<-qJ];simp only[val]
  congr 1;omega
theorem zfa(n x:Nat):val (zgn (toL x) n)=x/2^n/\LB (zgn (toL x) n):=by
 unfold zgn;rw[qz];split
 .rename_i h;refine⟨?_,fun _ h=>nomatch h⟩;have h1:=(jy x (n/32)).1 h;have h2:x<2^n:=qX h1 (qK OA O);rw[Nat.div_eq_of_lt h2];rfl
 .have hd:LB ((toL x).drop (n/32)):=fun z hz=>qn x z (List.mem_of_mem_drop hz)
  obtain⟨h1,h2⟩:=zpi (n % 32) O _ hd;refine⟨?_,h2⟩;rw[h1,zmr _ _ (qn x),qe,qJ,<-q7,(O:32*(n/32)+n % 32=n)]
theorem zm7(x:Nat)(n:Int):shrR (toL x) n=if 8192<bl x then([],9)else if n<0\/65536<n then([],2)else dnN (x/2^n.toNat):=by
 unfold shrR dnN;obtain⟨h1,h2⟩:=zfa n.toNat x;rw[zd2 h2,h1];simp only[zee]
theorem zlc:∀(l m:List Int),val (l++m)=val l+4294967296^l.length*val m
 | [],m=>by simp[val]
 |x::l,m=>by
  rw[ws,qy,qy,zlc l m,q2,qF,q3,<-q1,qG 4294967296 (4294967296^l.length)];omega
theorem ua:∀(l:List Int)(i:Nat)(y:Int),i<l.length->val (l.set i y)+4294967296^i*(l[i]?.getD 0).toNat =val l+4294967296^i*y.toNat
 | [],i,y,h=>by simp at h
 |x::l,0,y,h=>by
  rw[List.set_cons_zero,qy,qy];simp only[Nat.pow_zero,Nat.one_mul,w1,qE];omega
 |x::l,i+1,y,h=>by
  have ih:=ua l i y (by simpa using h);rw[List.set_cons_succ,qy,qy,w2,qF];generalize (l[i]?.getD 0).toNat =o at ih⊢;generalize y.toNat=y at ih⊢;generalize 4294967296^i=P at ih⊢;have e1:P*4294967296*o=4294967296*(P*o):=by rw[qG P,q1]
  have e2:P*4294967296*y=4294967296*(P*y):=by rw[qG P,q1]
  rw[e1,e2];omega
theorem zj5(x:Nat)(hx:x<4294967296):∀(b:List Int)(p:Nat)(out:List Int)(c:Nat),LB b->LB out->c<4294967296->p+b.length<=out.length->
 ∃(o:List Int)(d:Nat),zqd x b p out c=(o,(d:Int))/\LB o/\o.length=out.length/\d<4294967296/\val o+4294967296^(p+b.length)*d=val out+4294967296^p*(x*val b+c)/\∀j,p+b.length<=j->o[j]? =out[j]?
 | [],p,out,c,_,ho,hc,_=>⟨out,c,rfl,ho,rfl,hc,by simp[val],fun _ _=>rfl⟩
 |y::b,p,out,c,hb,ho,hc,hl=>by
  have hy:=hb y q6;obtain⟨y,rfl⟩:=q8 hy.1;have hy:y<4294967296:=O;rw[q2]at hl;obtain⟨q,hq⟩:∃q:Nat,out[p]?.getD 0=(q:Int):=⟨_,(Int.toNat_of_nonneg (ho.at p).1).symm⟩;have hq2:q<4294967296:=by have:=(ho.at p).2;omega
  have e:((x:Int)*(y:Int)+out[p]?.getD 0+(c:Int))=((x*y+q+c:Nat):Int):=by rw[hq];simp
  have hxy:x*y<=4294967295*4294967295:=Nat.mul_le_mul O O;have hd:(x*y+q+c)/4294967296<4294967296:=O;have hm:=qT (x*y+q+c) (OA:0<4294967296);obtain⟨o,d,h1,h2,h3,h4,h5,h6⟩:=zj5 x hx b (p+1) (out.set p (((x*y+q+c) % 4294967296:Nat):Int)) ((x*y+q+c)/4294967296) (fun z hz=>hb z (q4 _ hz)) (ho.set O) hd (by rw[qB];omega);refine⟨o,d,?_,h2,by rw[h3,qB],h4,?_,fun j hj=>?_⟩
  .simp only[zqd];rw[e];exact h1
  .have hs:=ua out p (((x*y+q+c) % 4294967296:Nat):Int) O;rw[hq,q0,q0]at hs;rw[q2,(O:p+(b.length+1)=p+1+b.length),h5,qy,q0,qF];have hmd:=qV (x*y+q+c) 4294967296;generalize (x*y+q+c)/4294967296=t at hmd⊢;generalize (x*y+q+c) % 4294967296=r at hs hmd⊢;generalize 4294967296^p=P at hs⊢;have e1:P*4294967296*(x*val b+t)=P*(4294967296*(x*val b))+P*(4294967296*t):=by rw[q1,q3,q3]
   have e2:P*(x*(y+4294967296*val b)+c)=P*(x*y)+P*(4294967296*(x*val b))+P*c:=by
    rw[q3 x,q3 P,q3 P]
    congr 3
    rw[<-q1,qG x,q1]
   have e3:P*r+P*(4294967296*t)=P*(x*y)+P*q+P*c:=by rw[<-q3,<-q3,<-q3,hmd]
   rw[e1,e2];omega
  .rw[q2]at hj;rw[h6 j O,qL O]
theorem zj7(b:List Int)(hb:LB b):∀(a:List Int)(i:Nat)(out:List Int),LB a->LB out->i+a.length+b.length<=out.length->(∀j,i+b.length<=j->out[j]?.getD 0=0)->
 val (zsj b a i out)=val out+4294967296^i*(val a*val b)/\LB (zsj b a i out)
 | [],i,out,_,ho,_,_=>⟨by simp[zsj,val],ho⟩
 |x::a,i,out,ha,ho,hl,hz=>by
  have hx:=ha x q6;obtain⟨x,rfl⟩:=q8 hx.1;have hx:x<4294967296:=O;rw[q2]at hl;obtain⟨o,d,h1,h2,h3,h4,h5,h6⟩:=zj5 x hx b i out 0 hb ho O O;have h1:zqd (x:Int) b i out 0=(o,(d:Int)):=h1;simp only[zsj];rw[h1];have hzo:o[i+b.length]?.getD 0=0:=by rw[h6 _ (qD _)];exact hz _ (qD _)
  have hs:=ua o (i+b.length) (d:Int) O;rw[hzo,q0,qS,w3,qW,h5]at hs;obtain⟨i1,i2⟩:=zj7 b hb a (i+1) (o.set (i+b.length) (d:Int)) (fun z hz=>ha z (q4 _ hz)) (h2.set O) (by rw[qB];omega) (fun j hj=>by
   rw[qL O,h6 j O];exact hz j O)
  refine⟨?_,i2⟩;rw[i1,hs,qy,q0,qF];generalize 4294967296^i=P;have e1:P*4294967296*(val a*val b)=P*(4294967296*(val a*val b)):=q1 _ _ _;have e2:P*((x+4294967296*val a)*val b)=P*(x*val b)+P*(4294967296*(val a*val b)):=by
   rw[wG,q3,q1]
  rw[e1,e2,qW];omega
theorem ze3(n:Nat):val (qR n 0)=0:=by
 have:=zjf n [];simpa[val]using this
theorem zsi(x y:Nat):val (zus (toL x) (toL y))=x*y/\LB (zus (toL x) (toL y)):=by
 unfold zus;obtain⟨h1,h2⟩:=zj7 (toL y) (qn y) (toL x) 0 (qR ((toL x).length +(toL y).length) 0) (qn x) (fun z hz=>by have:=qH hz;omega) OC (fun j _=>by
  rw[qQ];split<;>rfl)
 refine⟨?_,h2⟩;rw[h1,ze3,qe,qe];simp
theorem zvt(x y:Nat):qdj (toL x) (toL y)=if 8192<bl x\/8192<bl y then([],9)else dnN (x*y):=by
 unfold qdj dnN;rw[qz,qz];obtain⟨h1,h2⟩:=zsi x y;rw[zd2 h2,h1];simp only[zee]
def xg(x y:Nat):Int:=if x<y then-1 else if y<x then 1 else 0
theorem ji(l:List Int){n:Nat}(h:n<l.length):val (l.take (n+1))=val (l.take n)+4294967296^n*(l[n]?.getD 0).toNat :=by
 rw[List.take_add_one,List.getElem?_eq_getElem h];simp only[Option.toList_some,qE];rw[zlc,qZ,wB O,qy];simp[val]
theorem yk{l:List Int}(h:LB l)(n:Nat)(hn:n<=l.length):val (l.take n)<4294967296^n:=by
 have:=qb6 (l:=l.take n) fun x hx=>h x (List.mem_of_mem_take hx)
 rw[qZ,wB hn,wA]at this;exact this
theorem zhx{a b:List Int}(ha:LB a)(hb:LB b):∀n,n<=a.length->n<=b.length->zk1 a b n=xg (val (a.take n)) (val (b.take n))
 |0,_,_=>by simp[zk1,xg,val]
 |n+1,h1,h2=>by
  have ih:=zhx ha hb n O O;have ea:=ji a (n:=n) O;have eb:=ji b (n:=n) O;have la:=yk ha n O;have lb:=yk hb n O;have pa:=ha.at n;have pb:=hb.at n;simp only[zk1];rw[ea,eb,ih];generalize a[n]?.getD 0=u at*;generalize b[n]?.getD 0=v at*;generalize val (a.take n)=A at*;generalize val (b.take n)=B at*;generalize 4294967296^n=P at*;obtain⟨u,rfl⟩:=q8 pa.1;obtain⟨v,rfl⟩:=q8 pb.1;rw[q0,q0];unfold xg;by_cases c1:u<v
  .have:P*(u+1)<=P*v:=w9 _ c1;rw[wE]at this;rw[Z4 O,Z4 O]
  .by_cases c2:v<u
   .have:P*(v+1)<=P*u:=w9 _ c2;rw[wE]at this;rw[Z5 O,Z4 O,Z5 O,Z4 O]
   .obtain rfl:u=v:=by omega
    rw[Z5 O,Z5 O];by_cases c3:A<B
    .rw[Z4 c3,Z4 O]
    .rw[Z5 c3,Z5 (O:¬A+P*u<B+P*u)];by_cases c4:B<A
     .rw[Z4 c4,Z4 O]
     .rw[Z5 c4,Z5 O]
theorem znx{x y:Nat}(h:(toL x).length <(toL y).length):x<y:=by
 have h1:=(jy x (toL x).length).1 (qD _);refine qX h1 (wH.1 fun hc=>?_);have:=(jy y (toL x).length).2 hc;omega
theorem zdi(x y:Nat):qeo (toL x) (toL y)=xg x y:=by
 unfold qeo;rw[qz,qz];by_cases h1:(toL x).length <(toL y).length
 .rw[Z4 h1];unfold xg;rw[Z4 (znx h1)]
 .rw[Z5 h1];by_cases h2:(toL y).length <(toL x).length
  .have:=znx h2;rw[Z4 h2];unfold xg;rw[Z5 O,Z4 this]
  .rw[Z5 h2,zhx (qn x) (qn y) _ (qD _) O,qI,show(toL x).length =(toL y).length by omega,qI,qe,qe]
set_option maxRecDepth 100000
set_option maxHeartbeats 8000000
def zcn:Nat->Nat->List Int
 |0,_=> []
 |k+1,v=>((v % 4294967296:Nat):Int)::zcn k (v/4294967296)
theorem uz:∀k v,(zcn k v).length =k
 |0,_=>rfl
 |k+1,v=>by simp[zcn,uz k]
theorem yy:∀k v,LB (zcn k v)
 |0,_=>fun _ h=>nomatch h
 |k+1,v=>fun x hx=>by
  rcases qY.1 hx with rfl|hx
  .have:=qT v (OA:0<4294967296);omega
  .exact yy k _ x hx
theorem zah:∀ {l:List Int},LB l->zcn l.length (val l)=l
 | [],_=>rfl
 |x::l,h=>by
  have hx:=h x q6;have ih:=zah (l:=l) fun y hy=>h y (q4 _ hy)
  rw[qy,q2];show(((x.toNat+4294967296*val l) % 4294967296:Nat):Int)::zcn l.length ((x.toNat+4294967296*val l)/4294967296)=x::l;rw[show(x.toNat+4294967296*val l)/4294967296=val l by omega,ih,show(((x.toNat+4294967296*val l) % 4294967296:Nat):Int)=x by omega]
theorem uw:∀k v,v<4294967296^k->val (zcn k v)=v
 |0,v,h=>by simp at h;subst h;rfl
 |k+1,v,h=>by
  have hd:v/4294967296<4294967296^k:=by
   rw[q5 OA,<-qF];exact h
  show val (((v % 4294967296:Nat):Int)::zcn k (v/4294967296))=v;rw[qy,uw k _ hd,q0];omega
theorem zw6{n:Int}(h:0<=n/\n<4294967296):wJ.wrap n=n:=by
 simp[wM,wL,wN];omega
theorem y261(x y c:Nat)(hx:x<4294967296)(hy:y<4294967296)(hc:c<4294967296):Fn 259 [] [.int .u32 x,.int .u32 y,.int .u32 c] (.tup [.int .u32 ((x+y+c) % 4294967296:Nat),.int .u32 ((x+y+c)/4294967296:Nat)]) []:=by
 refine fY4 Tryz.func259 rfl ?_;refine⟨OA,?_⟩;conv=>whnf
 have e1:wK.wrap (wK.wrap (wK.wrap (x:Int)+wK.wrap (y:Int))+wK.wrap (c:Int))=((x+y+c:Nat):Int):=by
  rw[wU (x:=(x:Int)) O,wU (x:=(y:Int)) O,wU (x:=(c:Int)) O,wU (x:=(x:Int)+(y:Int)) O,wU O];omega
 refine⟨lt0 (lc (ai0 ?_) (lc (ai0 ?_) ln0)),lh0⟩
 .refine(congrArg wJ.wrap e1).trans ?_;simp[wM,wL,wN]
 .refine(congrArg (fun z:Int=>wJ.wrap (z.fdiv 4294967296)) e1).trans ?_;show wJ.wrap (((x+y+c:Nat):Int).fdiv 4294967296)=_;rw[Int.fdiv_eq_ediv_of_nonneg _ OA,show((x+y+c:Nat):Int)/4294967296=(((x+y+c)/4294967296:Nat):Int)from rfl];exact zw6 O
noncomputable def ztu:Code:=Tryz.f270.body.getD .skip
theorem y272(a b:List Int)(ha:LB a)(hb:LB b)(hal:a.length<=100000)(hbl:b.length<=100000):Fn 270 [] [.sl .u32 a,.sl .u32 b] (.sl .u32 (zcn (max a.length b.length+1) (val a+val b))) []:=by
 refine vu (code:=ztu) hT4 hmx Tryz.func270 rfl rfl (ex:= []) ?_;conv=>whnf
 refine jf hT4 hmx 2 (fun x: {p:List Int×List Int//LB p.1/\LB p.2/\p.2.length<=p.1.length/\p.1.length=max a.length b.length/\val p.1+val p.2=val a+val b}=>⟨[.sl .u32 x.1.1,.sl .u32 x.1.2]++zbh 51,[(20,.free)]⟩) (fun _=>Z) ?_ (fun x=>?_)
 .conv=>whnf
  refine brI (fun h1=>?_) (fun h1=>?_)
  .have h1:a.length<b.length:=by simp only[Z2]at h1;omega
   conv=>whnf
   refine⟨⟨(b,a),hb,ha,OD,OD,Nat.add_comm _ _⟩,?_⟩;exact KZ0
  .have h1:¬a.length<b.length:=by simp only[Z3]at h1;omega
   conv=>whnf
   refine⟨⟨(a,b),ha,hb,OD,OD,rfl⟩,?_⟩;exact KZ0
 .obtain⟨⟨A,B⟩,hA,hB,hle,hmax,hval⟩:=x;simp only at hA hB hle hmax hval;show SemOK Tryz.prog T4 Tryz.f270.results.toList [] _ [] (zd1 2 ztu) ⟨[.sl .u32 A,.sl .u32 B]++zbh 51,[(20,.free)]⟩;rw[<-hmax,<-hval];have hAl:A.length<=100000:=O;clear hmax hval ha hb hal hbl;refine jt hT4 hmx ?_;conv=>whnf
  have hw:IntKind.i64.wrap ((A.length:Int)+1)=((A.length+1:Nat):Int):=by rw[wI O];omega
  rw[hw];refine⟨⟨O,O,O⟩,?_⟩;conv=>whnf
  refine⟨Nat×List Int×Nat,fun x=>x.1<=A.length/\LB x.2.1/\x.2.1.length=A.length+1/\x.2.2<4294967296/\(∀j,x.1<=j->x.2.1[j]?.getD 0=0)/\val x.2.1+4294967296^x.1*x.2.2=val (A.take x.1)+val (B.take x.1),fun x=> [(23,.int .i64 x.1),(6,.int .u32 x.2.2)],fun x=> [(20,.buf 137 .u32 x.2.1)],fun x=>A.length-x.1,(0,qR (A.length+1) 0,0),⟨OC,fun x hx=>by rw[qH hx];omega,OC,OC,fun j _=>by rw[qQ];split<;>rfl,by rw[ze3];simp[val]⟩,?_,fun x hx=>?_⟩
  .exact KZ0
  refine gYe ?_;obtain⟨i,out,c⟩:=x;obtain⟨hi1,hi2,hi3,hi4,hi5,hi6⟩:=hx;simp only at hi1 hi2 hi3 hi4 hi5 hi6;refine brI (fun h1=>?_) (fun h1=>?_)
  .have hi:i<A.length:=by simp only[Z2]at h1;omega
   conv=>whnf
   refine⟨⟨O,OD⟩,fun(x:Int)hx=>?_⟩;have hx:A[i]? =some x:=by simpa using hx
   have hxb:=hA x (qM hx);have ta:=ji A hi;rw[hx,qE]at ta;have key:∀y:Nat,y<4294967296->val (B.take (i+1))=val (B.take i)+4294967296^i*y->
    LB (out.set i (((x.toNat+y+c) % 4294967296:Nat):Int))/\(∀j,i+1<=j->(out.set i (((x.toNat+y+c) % 4294967296:Nat):Int))[j]?.getD 0=0)/\
    val (out.set i (((x.toNat+y+c) % 4294967296:Nat):Int))+4294967296^(i+1)*((x.toNat+y+c)/4294967296)=val (A.take (i+1))+val (B.take (i+1)):=by
    intro y hy tb;refine⟨hi2.set O,fun j hj=>by rw[qL O];exact hi5 j O,?_⟩;have hs:=ua out i (((x.toNat+y+c) % 4294967296:Nat):Int) O;rw[hi5 i (qD _),qS,w3,qW,q0]at hs;rw[hs,ta,tb,qF];have hmd:=qV (x.toNat+y+c) 4294967296;generalize (x.toNat+y+c)/4294967296=t at hmd⊢;generalize (x.toNat+y+c) % 4294967296=r at hmd⊢;generalize 4294967296^i=P at hi6⊢;have e1:P*4294967296*t=P*(4294967296*t):=q1 _ _ _;have e2:P*r+P*(4294967296*t)=P*x.toNat+P*y+P*c:=by rw[<-q3,hmd,q3,q3]
    rw[e1];omega
   conv=>whnf
   refine brI (fun h2=>?_) (fun h2=>?_)
   .have h2:i<B.length:=by simp only[Z2]at h2;omega
    conv=>whnf
    refine⟨⟨O,OD⟩,fun(y:Int)hy=>?_⟩;have hy:B[i]? =some y:=by simpa using hy
    have hyb:=hB y (qM hy);have tb:=ji B h2;rw[hy,qE]at tb;obtain⟨k1,k2,k3⟩:=key y.toNat O tb;have h261:=y261 x.toNat y.toNat c O O hi4;rw[show((x.toNat:Nat):Int)=x by omega,show((y.toNat:Nat):Int)=y by omega]at h261;conv=>whnf
    refine gYn h261 ?_;refine⟨⟨O,OD⟩,?_⟩;conv=>whnf
    refine⟨OD,?_⟩;conv=>whnf
    refine⟨(i+1,out.set i (((x.toNat+y.toNat+c) % 4294967296:Nat):Int),(x.toNat+y.toNat+c)/4294967296),⟨OD,k1,by simp only[qB];exact hi3,OD,k2,k3⟩,by show A.length-(i+1)<A.length-i;omega,?_⟩
    ((conv=>whnf);refine And.intro ?_ ?_;repeat' first|refine lc ?_ ?_|refine lh1 ?_ ?_|refine bc0 ?_|exact KXZ|refine lg0 ?_|refine lt0 ?_)
    .exact ai0 (by rw[wI OD];simp only;omega)
    all_goals trace_state
   .have h2:¬i<B.length:=by simp only[Z3]at h2;omega
    obtain⟨k1,k2,k3⟩:=key 0 O (by rw[q9 O,q9 O];simp);have h261:=y261 x.toNat 0 c O O hi4;rw[show((x.toNat:Nat):Int)=x by omega]at h261;conv=>whnf
    refine gYn h261 ?_;refine⟨⟨O,OD⟩,?_⟩;conv=>whnf
    refine⟨OD,?_⟩;conv=>whnf
    refine⟨(i+1,out.set i (((x.toNat+0+c) % 4294967296:Nat):Int),(x.toNat+0+c)/4294967296),⟨OD,k1,by simp only[qB];exact hi3,OD,k2,k3⟩,by show A.length-(i+1)<A.length-i;omega,?_⟩
    ((conv=>whnf);refine And.intro ?_ ?_;repeat' first|refine lc ?_ ?_|refine lh1 ?_ ?_|refine bc0 ?_|exact KXZ|refine lg0 ?_|refine lt0 ?_)
    .exact ai0 (by rw[wI OD];simp only;omega)
    all_goals trace_state
  .have hi:i=A.length:=by simp only[Z3]at h1;omega
   subst hi;rw[qI,q9 hle]at hi6;have hs:=ua out A.length (c:Int) O;rw[hi5 _ (qD _),qS,w3,qW,q0,hi6]at hs;have hp:=zah (hi2.set (i:=A.length) (x:=(c:Int)) O);rw[qB,hi3,hs]at hp;conv=>whnf
   refine⟨⟨O,OD⟩,?_⟩;conv=>whnf
   refine⟨OD,?_⟩;conv=>whnf
   exact⟨xi hp.symm,lh0⟩
theorem c284(x y b:Nat)(D R:Int)(hD:((x:Int)-(y:Int)-(b:Int)) % 4294967296=D)
 (hR:bits BinOp.or wJ (bits BinOp.and wJ (bits BinOp.xor wJ wJ.max (x:Int)) (y:Int)) (bits BinOp.and wJ (bits BinOp.xor wJ wJ.max (bits BinOp.xor wJ (x:Int) (y:Int))) D)/2147483648=R) (w:World):
 Calls Tryz.prog 279 #[.int .u32 x,.int .u32 y,.int .u32 b] w fun e w'=>e=.returned (.tuple #[.int .u32 D,.int .u32 R])/\w'=w:=by
 go_enter Tryz.func279,Tryz.ntmps279
 go_wp2_with (simp only[hD,hR])
 go_ret2
 exact⟨rfl,rfl⟩
theorem b32(x y:Nat)(hx:x<4294967296)(hy:y<4294967296):(qC 32 (x:Int)).toNat =x/\(qC 32 (y:Int)).toNat =y:=by
 constructor
 .rw[w8,we];exact w0 hx
 .rw[w8,we];exact w0 hy
theorem or32(x y:Nat)(hx:x<4294967296)(hy:y<4294967296):bits .or .u32 (x:Int) (y:Int)=((x|||y:Nat):Int):=by
 obtain⟨e1,e2⟩:=b32 x y hx hy;have h:x|||y<2^32:=wi hx hy
 have h2:(qC 32 (x:Int)|||qC 32 (y:Int)).toNat =x|||y:=by rw[BitVec.toNat_or,e1,e2]
 show wJ.wrap ((qC 32 (x:Int)|||qC 32 (y:Int)).toNat :Int)=_;rw[h2];exact zw6 O
theorem zyk(x y:Nat)(hx:x<4294967296)(hy:y<4294967296):bits .xor .u32 (x:Int) (y:Int)=((x^^^y:Nat):Int):=by
 obtain⟨e1,e2⟩:=b32 x y hx hy;have h:x^^^y<2^32:=qO hx hy;have h2:(qC 32 (x:Int)^^^qC 32 (y:Int)).toNat =x^^^y:=by rw[BitVec.toNat_xor,e1,e2]
 show wJ.wrap ((qC 32 (x:Int)^^^qC 32 (y:Int)).toNat :Int)=_;rw[h2];exact zw6 O
theorem zu0{n:Nat}(h:n<4294967296):n.testBit 31=decide (2147483648<=n):=by
 rw[Nat.testBit_eq_decide_div_mod_eq]
 congr 1
 rw[eq_iff_iff];show n/2147483648 % 2=1<->_;omega
theorem qev(x y b:Nat)(hx:x<4294967296)(hy:y<4294967296)(hb:b<=1):
 ((4294967295^^^x)&&& y|||(4294967295^^^(x^^^y))&&& ((x+4294967296-y-b) % 4294967296))/2147483648=if x<y+b then 1 else 0:=by
 have hd:=qT (x+4294967296-y-b) (OA:0<4294967296);have hdef:∃d,(x+4294967296-y-b) % 4294967296=d:=⟨_,rfl⟩;obtain⟨d,hdd⟩:=hdef;rw[hdd]at hd⊢;have hN:((4294967295^^^x)&&& y|||(4294967295^^^(x^^^y))&&& d)<2^32:=
  wi (qP qU hy) (qP qU hd)
 have ht:=zu0 hN;rw[Nat.testBit_or,wC,wC,w4,w4,w4,zu0 hx,zu0 hy,zu0 hd,(OA:Nat.testBit 4294967295 31=true)]at ht;generalize ((4294967295^^^x)&&& y|||(4294967295^^^(x^^^y))&&& d)=N at hN ht⊢;have hN:N<4294967296:=hN;by_cases c1:2147483648<=x<;>by_cases c2:2147483648<=y<;>by_cases c3:2147483648<=d<;>simp only[c1,c2,c3,decide_true,decide_false,Bool.xor_true,Bool.xor_false,Bool.true_xor,Bool.false_xor,Bool.not_true,Bool.not_false,Bool.and_true,Bool.and_false,Bool.true_and,Bool.false_and,Bool.or_false,Bool.or_true,Bool.false_or,true_eq_decide_iff,false_eq_decide_iff]at ht<;>split<;>omega
theorem y284(x y b:Nat)(hx:x<4294967296)(hy:y<4294967296)(hb:b<=1):Fn 279 [] [.int .u32 x,.int .u32 y,.int .u32 b] (.tup [.int .u32 ((x+4294967296-y-b) % 4294967296:Nat),.int .u32 ((if x<y+b then 1 else 0:Nat):Int)]) []:=by
 refine⟨⟨_,Tryz.func279,rfl,rfl⟩,fun w M pt ow S vs hcore hcont hargs=>?_⟩
 match vs,hargs with
 | [v1,v2,v3],⟨h1,h2,h3,_⟩=>
   obtain rfl:v1=.int .u32 x:=h1;obtain rfl:v2=.int .u32 y:=h2;obtain rfl:v3=.int .u32 b:=h3;have hd:=qT (x+4294967296-y-b) (OA:0<4294967296);have hD:((x:Int)-(y:Int)-(b:Int)) % 4294967296=(((x+4294967296-y-b) % 4294967296:Nat):Int):=O;have hm:wJ.max=((4294967295:Nat):Int):=OA;have x1:4294967295^^^x<4294967296:=qO (n:=32) OA hx;have x2:x^^^y<4294967296:=qO (n:=32) hx hy;have x3:4294967295^^^(x^^^y)<4294967296:=qO (n:=32) OA x2;refine(c284 x y b _ ((if x<y+b then 1 else 0:Nat):Int) hD ?_ w).mono ?_
   .rw[hm,zyk _ _ OA hx,zyk _ _ hx hy,zyk _ _ OA x2,bits_and_u32_nat _ _ x1 hy,bits_and_u32_nat _ _ x3 hd,
     or32 _ _ (qP qU hy) (qP qU hd),<-qev x y b hx hy hb]
    rfl
   .rintro e w' ⟨rfl,rfl⟩;exact⟨_,M,pt,ow,S,rfl,hcore,hcont,⟨_,rfl,rfl,rfl,trivial⟩,rfl,rfl,rfl,qD _,fun _ _ _ _=>rfl,fun _ h=>h,fun _ h=>.inl h,fun _ h=>.inl h,fun _ _ h=>.inl h,fun _ _ h=>.inl h⟩
theorem vi(x k:Nat):(toL x).length <=k<->bl x<=32*k:=by rw[jy,jo]
theorem y263(x y:Nat)(hx:bl x<=100000)(hy:bl y<=100000):Fn 261 [] [.sl .u32 (toL x),.sl .u32 (toL y)] (dnV (if 8192<bl x\/8192<bl y then([],9)else dnN (x+y))) []:=by
 have lx:(toL x).length <=100000:=(vi x 100000).2 O;have ly:(toL y).length <=100000:=(vi y 100000).2 O;have h215:=zw5 [toL x,toL y] OC;have h272:=y272 (toL x) (toL y) (qn x) (qn y) lx ly;rw[qe,qe]at h272;have h221:=qbj (zcn (max (toL x).length (toL y).length +1) (x+y)) (by rw[uz];omega);rw[zd2 (yy _ _)]at h221;have hv:val (zcn (max (toL x).length (toL y).length +1) (x+y))=x+y:=by
  refine uw _ _ ?_;have h1:=(jy x _).1 (Nat.le_max_left (toL x).length (toL y).length);have h2:=(jy y _).1 (Nat.le_max_right (toL x).length (toL y).length);rw[wA]at h1 h2;have e:(2:Nat)^32=4294967296:=rfl;rw[e]at h1 h2;rw[qF];omega
 rw[hv]at h221;have hlg:([toL x,toL y].any lgB)=decide (8192<bl x\/8192<bl y):=by
  simp only[wD,wF,Bool.or_false,lgB,zee,Bool.decide_or]
 rw[hlg]at h215;refine fY4 Tryz.func261 rfl ?_;refine cbI [] _ h215 (fun h1=>?_) (fun h1=>?_)
 .rw[Z4 (Z0 h1)];conv=>whnf
  exact⟨lt0 (lc (li0 rfl) (lc (lr rfl) ln0)),lh0⟩
 .rw[Z5 (Z1 h1)];unfold dnN;conv=>whnf
  refine gYn h272 ?_;refine gYn h221 ?_;exact⟨lr rfl,lh0⟩
theorem y280(x y:Nat)(hxl:(toL x).length <=100000)(hyl:(toL y).length <=100000)(hle:y<=x):Fn 276 [] [.sl .u32 (toL x),.sl .u32 (toL y)] (.sl .u32 (zcn (toL x).length (x-y))) []:=by
 have hx216:=zgm (toL x) O;have hy216:=zgm (toL y) O;rw[qz]at hx216 hy216;have hA:=qn x;have hB:=qn y;have vA:=qe x;have vB:=qe y;have hll:(toL y).length <=(toL x).length :=wH.1 fun h=>by have:=znx h;omega
 have hlt:=yk hA (toL x).length (qD _);generalize toL x=A at*;generalize toL y=B at*;refine fY4 Tryz.func276 rfl ?_;refine gYn hx216 ?_;refine gYn hy216 ?_;refine⟨⟨O,O,O⟩,?_⟩;conv=>whnf
 refine⟨Nat×List Int×Nat,fun x=>x.1<=A.length/\LB x.2.1/\x.2.1.length=A.length/\x.2.2<=1/\(∀j,x.1<=j->x.2.1[j]?.getD 0=0)/\val x.2.1+val (B.take x.1)=val (A.take x.1)+4294967296^x.1*x.2.2,fun x=> [(19,.int .i64 x.1),(6,.int .u32 x.2.2)],fun x=> [(16,.buf 137 .u32 x.2.1)],fun x=>A.length-x.1,(0,qR A.length 0,0),⟨OC,fun x hx=>by rw[qH hx];omega,OC,OC,fun j _=>by rw[qQ];split<;>rfl,by rw[ze3];simp[val]⟩,?_,fun x hx=>?_⟩
 .exact KZ0
 refine gYe ?_;obtain⟨i,out,c⟩:=x;obtain⟨hi1,hi2,hi3,hi4,hi5,hi6⟩:=hx;simp only at hi1 hi2 hi3 hi4 hi5 hi6;refine brI (fun h1=>?_) (fun h1=>?_)
 .have hi:i<A.length:=by simp only[Z2]at h1;omega
  conv=>whnf
  refine⟨⟨O,OD⟩,fun(x:Int)hx=>?_⟩;have hx:A[i]? =some x:=by simpa using hx
  have hxb:=hA x (qM hx);have ta:=ji A hi;rw[hx,qE]at ta;have key:∀y:Nat,y<4294967296->val (B.take (i+1))=val (B.take i)+4294967296^i*y->
   LB (out.set i (((x.toNat+4294967296-y-c) % 4294967296:Nat):Int))/\(∀j,i+1<=j->(out.set i (((x.toNat+4294967296-y-c) % 4294967296:Nat):Int))[j]?.getD 0=0)/\
   val (out.set i (((x.toNat+4294967296-y-c) % 4294967296:Nat):Int))+val (B.take (i+1))=val (A.take (i+1))+4294967296^(i+1)*(if x.toNat<y+c then 1 else 0):=by
   intro y hy tb;refine⟨hi2.set O,fun j hj=>by rw[qL O];exact hi5 j O,?_⟩;have hs:=ua out i (((x.toNat+4294967296-y-c) % 4294967296:Nat):Int) O;rw[hi5 i (qD _),qS,w3,qW,q0]at hs;rw[hs,ta,tb,qF];have hmd:(x.toNat+4294967296-y-c) % 4294967296+y+c=x.toNat+4294967296*(if x.toNat<y+c then 1 else 0):=by split<;>omega
   generalize (x.toNat+4294967296-y-c) % 4294967296=r at hmd⊢;generalize (if x.toNat<y+c then 1 else 0)=t at hmd⊢;generalize 4294967296^i=P at hi6⊢;have e1:P*4294967296*t=P*(4294967296*t):=q1 _ _ _;have e2:P*r+P*y+P*c=P*x.toNat+P*(4294967296*t):=by rw[<-q3,<-q3,hmd,q3]
   rw[e1];omega
  conv=>whnf
  refine brI (fun h2=>?_) (fun h2=>?_)
  .have h2:i<B.length:=by simp only[Z2]at h2;omega
   conv=>whnf
   refine⟨⟨O,OD⟩,fun(y:Int)hy=>?_⟩;have hy:B[i]? =some y:=by simpa using hy
   have hyb:=hB y (qM hy);have tb:=ji B h2;rw[hy,qE]at tb;obtain⟨k1,k2,k3⟩:=key y.toNat O tb;have h284:=y284 x.toNat y.toNat c O O hi4;rw[show((x.toNat:Nat):Int)=x by omega,show((y.toNat:Nat):Int)=y by omega]at h284;conv=>whnf
   refine gYn h284 ?_;refine⟨⟨O,OD⟩,?_⟩;conv=>whnf
   refine⟨OD,?_⟩;conv=>whnf
   refine⟨(i+1,out.set i (((x.toNat+4294967296-y.toNat-c) % 4294967296:Nat):Int),if x.toNat<y.toNat+c then 1 else 0),⟨OD,k1,by simp only[qB];exact hi3,by simp only;split<;>omega,k2,k3⟩,by show A.length-(i+1)<A.length-i;omega,?_⟩;exact KZ0
  .have h2:¬i<B.length:=by simp only[Z3]at h2;omega
   obtain⟨k1,k2,k3⟩:=key 0 O (by rw[q9 O,q9 O];simp);have h284:=y284 x.toNat 0 c O O hi4;rw[show((x.toNat:Nat):Int)=x by omega]at h284;conv=>whnf
   refine gYn h284 ?_;refine⟨⟨O,OD⟩,?_⟩;conv=>whnf
   refine⟨OD,?_⟩;conv=>whnf
   refine⟨(i+1,out.set i (((x.toNat+4294967296-0-c) % 4294967296:Nat):Int),if x.toNat<0+c then 1 else 0),⟨OD,k1,by simp only[qB];exact hi3,by simp only;split<;>omega,k2,k3⟩,by show A.length-(i+1)<A.length-i;omega,?_⟩;exact KZ0
 .have hi:i=A.length:=by simp only[Z3]at h1;omega
  subst hi;rw[qI,q9 hll,vA,vB]at hi6;rw[qI,vA]at hlt;have ho:=yk hi2 out.length (qD _);rw[qI,hi3]at ho;have hc:c=0:=by
   rcases(by omega:c=0\/c=1)with h|h
   .exact h
   .subst h;omega
  subst hc;have hp:=zah hi2;rw[hi3,(O:val out=x-y)]at hp;conv=>whnf
  exact⟨xi hp.symm,lh0⟩
theorem y264(x y:Nat)(hx:bl x<=100000)(hy:bl y<=100000):Fn 262 [] [.sl .u32 (toL x),.sl .u32 (toL y)] (dnV (if 8192<bl x\/8192<bl y then([],9)else if x<y then([],2)else dnN (x-y))) []:=by
 have lx:(toL x).length <=100000:=(vi x 100000).2 O;have ly:(toL y).length <=100000:=(vi y 100000).2 O;have h215:=zw5 [toL x,toL y] OC;have hlg:([toL x,toL y].any lgB)=decide (8192<bl x\/8192<bl y):=by
  simp only[wD,wF,Bool.or_false,lgB,zee,Bool.decide_or]
 rw[hlg]at h215;have h177:=qb3 (toL x) (toL y) O O;rw[zdi]at h177;refine fY4 Tryz.func262 rfl ?_;refine cbI [] _ h215 (fun h1=>?_) (fun h1=>?_)
 .rw[Z4 (Z0 h1)];conv=>whnf
  exact⟨lt0 (lc (li0 rfl) (lc (lr rfl) ln0)),lh0⟩
 rw[Z5 (Z1 h1)];conv=>whnf
 refine gYn h177 ?_;refine brI (fun h2=>?_) (fun h2=>?_)
 .have h2:xg x y<0:=Z0 h2;have h3:x<y:=by unfold xg at h2;split at h2;assumption;split at h2<;>omega
  rw[Z4 h3];conv=>whnf
  exact⟨lt0 (lc (li0 rfl) (lc (lr rfl) ln0)),lh0⟩
 .have h2:¬xg x y<0:=Z1 h2;have h3:¬x<y:=fun h=>h2 (by unfold xg;rw[Z4 h];decide)
  rw[Z5 h3];have h280:=y280 x y lx ly O;have h221:=qbj (zcn (toL x).length (x-y)) (by rw[uz];omega);rw[zd2 (yy _ _)]at h221;have hv:val (zcn (toL x).length (x-y))=x-y:=by
   refine uw _ _ ?_;have h1:=(jy x _).1 (qD (toL x).length);rw[wA]at h1;have e:(2:Nat)^32=4294967296:=rfl;rw[e]at h1;omega
  rw[hv]at h221;unfold dnN;conv=>whnf
  refine gYn h280 ?_;refine gYn h221 ?_;exact⟨lr rfl,lh0⟩
