/-
  Limbs and natural numbers: plain functions.
-/
import Derived.Test.YtbolipecnhlnnaaGreatDoorQYa
import Derived.Test.YtbolipecnhlnnaaGreatDoorQZz
set_option linter.unusedVariables false
set_option linter.unusedSimpArgs false
open And renaming intro->qX
open BitVec renaming ofInt->qF,ofInt_natCast->wB,toNat_ofNat->wD
open Int renaming toNat_natCast->q2,eq_ofNat_of_zero_le->qB,toNat_zero->qV
open List renaming length_cons->q4,mem_cons_of_mem->q6,mem_cons_self->q9,take_of_length_le->qC,length_set->qE,eq_of_mem_replicate->qK,take_length->qL,getElem?_set_ne->qO,mem_of_getElem?->qP,getElem?_replicate->qT,replicate->qU,mem_cons->w3,length_take->w4,getElem?_cons_zero->w6,getElem?_cons_succ->w7,cons_append->wG,any_cons->wL,any_nil->wP
open Nat renaming mul_assoc->q3,mul_add->q5,div_lt_iff_lt_mul->q7,pow_add->qA,two_pow_pos->qD,le_refl->qG,pow_succ->qI,mul_comm->qJ,div_div_eq_div_mul->qM,pow_le_pow_right->qN,not_le->qQ,xor_lt_two_pow->qR,lt_of_le_of_lt->qS,mod_lt->qW,and_le_right->qY,mod_add_div->qZ,add_zero->w1,lt_of_lt_of_le->w2,mod_eq_of_lt->w5,mul_zero->w8,testBit_xor->w9,succ_le_succ_iff->wi,mul_le_mul_right->ws,add_mul_div_left->wA,mul_le_mul_left->wC,or_lt_two_pow->wE,lt_log2_self->wF,pow_mul->wH,min_eq_left->wJ,testBit_and->wK,mul_succ->wO,add_mul->wR,not_lt->wS
open Option renaming getD_some->qH
namespace Go.Proofs.YtbolipecnhlnnaaGreatDoor
open Go Go.Sx
def val:List Int->Nat
 | []=>0
 |x::l=>x.toNat+4294967296*val l
def zva:Nat->Nat->List Int
 |0,_=> []
 |f+1,n=>if n=0 then []else((n % 4294967296:Nat):Int)::zva f (n/4294967296)
def toL (n:Nat):List Int:=zva (n.log2/32+1) n
def bl (n:Nat):Nat:=if n=0 then 0 else n.log2+1
theorem zfb (n:Nat):n<2^bl n:=by
 unfold bl;split
 ·rename_i h;subst h;decide
 ·exact wF
theorem yg {n k:Nat}:bl n<=k<->n<2^k:=by
 unfold bl;split
 ·rename_i h;subst h;exact⟨fun _=>qD k,fun _=>Nat.zero_le _⟩
 ·rename_i h;rw[Nat.succ_le_iff];exact Nat.log2_lt h
theorem zeq {n k:Nat} (h:n≠0):k+1<=bl n<->2^k<=n:=by
 unfold bl;rw[if_neg h,wi];exact Nat.le_log2 h
theorem qgp {n k:Nat} (h1:2^k<=n) (h2:n<2^(k+1)):bl n=k+1:=by
 have h0:n≠0:=by have:=qD k;omega
 have a:=(zeq h0).2 h1;have b:=yg.2 h2;omega
theorem ko:bl 0=0:=rfl
theorem za6 {n:Nat}:bl n=0<->n=0:=by
 constructor
 ·intro h;have:=yg.1 (Nat.le_of_eq h);simpa using this
 ·intro h;subst h;rfl
theorem qk (n k:Nat) (h:n≠0):bl (n*2^k)=bl n+k:=by
 have h1:bl n≠0:=fun e=>h (za6.1 e)
 obtain⟨j,hj⟩: ∃j,bl n=j+1:=⟨bl n-1,by omega⟩;have h2:2^j<=n:=(zeq h).1 (by omega);have h3:n<2^(j+1):=yg.1 (by omega);rw[hj,show j+1+k=(j+k)+1 by omega];refine qgp ?_ ?_
 ·rw[qA];exact ws _ h2
 ·rw[show j+k+1=(j+1)+k by omega,qA 2 (j+1) k];exact Nat.mul_lt_mul_of_pos_right h3 (qD k)
theorem zer (n k:Nat) (h:2^k<=n):bl (n/2^k)=bl n-k:=by
 have h0:n≠0:=by have:=qD k;omega
 have h1:k+1<=bl n:=(zeq h0).2 h;obtain⟨j,hj⟩: ∃j,bl n=j+k+1:=⟨bl n-k-1,by omega⟩;have h2:2^(j+k)<=n:=(zeq h0).1 (by omega);have h3:n<2^(j+k+1):=yg.1 (by omega);rw[hj,show j+k+1-k=j+1 by omega];refine qgp ?_ ?_
 ·rw[Nat.le_div_iff_mul_le (qD k),←qA];exact h2
 ·rw[q7 (qD k),←qA,show j+1+k=j+k+1 by omega];exact h3
theorem zoe: ∀(f n:Nat),n<2^(32*f)->val (zva f n)=n
 |0,n,h=>by simp at h;subst h;rfl
 |f+1,n,h=>by
  simp only[zva];split
  ·rename_i h0;subst h0;rfl
  ·have hd:n/4294967296<2^(32*f):=by
    rw[q7 (by decide)];rw[show 32*(f+1)=32*f+32 by omega,qA]at h;exact h
   simp only[val,zoe f _ hd,q2];omega
theorem zf9: ∀(f g n:Nat),n<2^(32*f)->f<=g->zva g n=zva f n
 |0,g,n,h,_=>by
  simp at h;subst h;cases g<;>simp[zva]
 |f+1,0,n,h,hg=>by omega
 |f+1,g+1,n,h,hg=>by
  simp only[zva];split
  ·rfl
  ·have hd:n/4294967296<2^(32*f):=by
    rw[q7 (by decide)];rw[show 32*(f+1)=32*f+32 by omega,qA]at h;exact h
   rw[zf9 f g _ hd (by omega)]
theorem znh (n:Nat):n<2^(32*(n.log2/32+1)):=by
 refine w2 (wF (n:=n)) (qN (by decide) (by omega))
theorem zr (n:Nat):val (toL n)=n:=zoe _ _ (znh n)
theorem jt:toL 0= []:=rfl
theorem zvn {n f:Nat} (h:n<2^(32*f)):toL n=zva f n:=by
 unfold toL;by_cases hf:f<=n.log2/32+1
 ·exact zf9 f _ n h hf
 ·exact(zf9 _ f n (znh n) (by omega)).symm
theorem zaq {n:Nat} (h:n≠0):toL n=((n % 4294967296:Nat):Int)::toL (n/4294967296):=by
 have h1:=znh n;have hd:n/4294967296<2^(32*(n.log2/32)):=by
  rw[q7 (by decide)];rw[show 32*(n.log2/32+1)=32*(n.log2/32)+32 by omega,qA]at h1;exact h1
 rw[zvn hd];unfold toL;simp only[zva,if_neg h]
theorem zmq {P:Nat->Prop} (h0:P 0) (hs: ∀n,n≠0->P (n/4294967296)->P n) (n:Nat):P n:=by
 induction n using Nat.strongRecOn with
 | _ n ih=>
   by_cases h:n=0
   ·subst h;exact h0
   ·exact hs n h (ih _ (Nat.div_lt_self (by omega) (by decide)))
theorem zz (n:Nat):LB (toL n):=by
 refine zmq (P:=fun n=>LB (toL n)) (fun _ h=>nomatch h) (fun n h ih=>?_) n;rw[zaq h];intro x hx;rcases w3.1 hx with rfl|hx
 ·have:n % 4294967296<4294967296:=qW _ (by decide);omega
 ·exact ih x hx
theorem jl (n k:Nat):(toL n).length <=k<->n<2^(32*k):=by
 have: ∀n,∀k,(toL n).length <=k<->n<2^(32*k):=by
  refine zmq (fun k=>?_) fun n h ih k=>?_
  ·simp[jt,qD]
  ·rw[zaq h,q4]
   cases k with
   |zero=>simp;omega
   |succ k=>
    rw[wi,ih k,q7 (by decide),show 32*(k+1)=32*k+32 by omega,qA]
 exact this n k
theorem zx0 {l:List Int} (h:LB l):val l<2^(32*l.length):=by
 induction l with
 |nil=>decide
 |cons x l ih=>
  have ih:=ih fun y hy=>h y (q6 _ hy)
  have hx:=h x q9;simp only[val,q4];rw[show 32*(l.length+1)=32*l.length+32 by omega,qA];generalize 2^(32*l.length)=m at ih;omega
theorem zi9 (x:Int) (l:List Int): ∀n,trN (x::l) (n+1)=if trN l n=0 then(if x=0 then 0 else 1)else trN l n+1
 |0=>by simp[trN]
 |n+1=>by
  have ih:=zi9 x l n;rw[show trN (x::l) (n+1+1)=if(x::l)[n+1]?.getD 0=0 then trN (x::l) (n+1)else n+1+1 from rfl];rw[show(x::l)[n+1]? =l[n]? by simp,show trN l (n+1)=if l[n]?.getD 0=0 then trN l n else n+1 from rfl];split
  ·exact ih
  ·simp
theorem zvk (x:Int) (l:List Int):trL (x::l)=if trL l= []then(if x=0 then []else [x])else x::trL l:=by
 have hl:trL l= []<->trN l l.length=0:=by
  have:=zrf l l.length;unfold trL;constructor
  ·intro h;have:=congrArg List.length h;rw[w4,List.length_nil]at this;omega
  ·intro h;rw[h];rfl
 by_cases h:trN l l.length=0
 ·rw[if_pos (hl.2 h)];unfold trL;rw[q4,zi9,if_pos h];split<;>rfl
 ·rw[if_neg fun e=>h (hl.1 e)];unfold trL;rw[q4,zi9,if_neg h];rfl
theorem xv: ∀ {l:List Int},LB l->trL l=toL (val l)
 | [],_=>rfl
 |x::l,h=>by
  have ih:=xv (l:=l) fun y hy=>h y (q6 _ hy)
  have hx:=h x q9;rw[zvk,ih];simp only[val];by_cases hv:val l=0
  ·rw[hv,jt,if_pos rfl];by_cases h0:x=0
   ·subst h0;rfl
   ·rw[if_neg h0,zaq (by omega),show(x.toNat+4294967296*0)/4294967296=0 by omega,jt]
    congr 1;omega
  ·rw[if_neg (fun e=>hv (by have:=congrArg val e;rw[zr]at this;exact this)),zaq (n:=x.toNat+4294967296*val l) (by omega)];rw[show(x.toNat+4294967296*val l)/4294967296=val l by omega,show(((x.toNat+4294967296*val l) % 4294967296:Nat):Int)=x by omega]
theorem qi (n:Nat):trL (toL n)=toL n:=by rw[xv (zz n),zr]
theorem zur {n:Nat} (h:n≠0):bl n=bl (n/2)+1:=by
 by_cases h2:2<=n
 ·have:=zer n 1 (by simpa using h2);have h1:2<=bl n:=(zeq h).2 (by simpa using h2);simp only[Nat.pow_one]at this;omega
 ·obtain rfl:n=1:=by omega
  rfl
theorem zd2 {x:Nat} (h:x<2^64):Lib.bitLen x=bl x:=by
 have: ∀(f x:Nat),x<2^f->Lib.bitLenAux f x=bl x:=by
  intro f
  induction f with
  |zero=>intro x hx;simp at hx;subst hx;rfl
  |succ f ih=>
   intro x hx;simp only[Lib.bitLenAux];split
   ·rename_i h0;subst h0;rfl
   ·rename_i h0;rw[ih (x/2) (by rw[qI]at hx;omega),zur h0];omega
 exact this 64 x h
theorem zfy (n:Nat):(match(toL n).getLast? with|none=>(0:Int)|some x=>32*(((toL n).length :Int)-1)+((Lib.bitLen x.toNat:Nat):Int):Int)=((bl n:Nat):Int):=by
 refine zmq (P:=fun n=>(match(toL n).getLast? with|none=>(0:Int)|some x=>32*(((toL n).length :Int)-1)+((Lib.bitLen x.toNat:Nat):Int):Int)=((bl n:Nat):Int)) rfl (fun n h ih=>?_) n;rw[zaq h];by_cases h1:n/4294967296=0
 ·have h2:n<4294967296:=by omega
  rw[h1,jt];simp only[List.getLast?_singleton,List.length_singleton];rw[q2,w5 h2,zd2 (by omega)];simp
 ·have hne:toL (n/4294967296)≠ []:=fun e=>h1 (by have:=congrArg val e;rw[zr]at this;exact this)
  rw[List.getLast?_cons_of_ne_nil hne];have hb:bl (n/4294967296)=bl n-32:=zer n 32 (by omega);have hb2:33<=bl n:=(zeq h).2 (by omega)
  cases hg:(toL (n/4294967296)).getLast? with
  |none=>exact absurd (List.getLast?_eq_none_iff.1 hg) hne
  |some x=>
   rw[hg]at ih;simp only at ih;have hl:0<(toL (n/4294967296)).length :=List.length_pos_iff.2 hne;simp only[q4];omega
theorem zi0 {l:List Int} (h:LB l):btL l=(bl (val l):Nat):=by
 unfold btL;rw[xv h];exact zfy _
theorem qq (x:Int) (l:List Int):val (x::l)=x.toNat+4294967296*val l:=rfl
theorem zkp (k:Nat) (l:List Int):val (qU k 0++l)=2^(32*k)*val l:=by
 induction k with
 |zero=>simp
 |succ k ih=>
  rw[List.replicate_succ,wG,show 32*(k+1)=32*k+32 by omega,qA];simp only[val,ih,qV,Nat.zero_add];have e:(2:Nat)^32=4294967296:=rfl;rw[e,qJ (2^(32*k)) 4294967296,q3]
theorem zh4 (r:Nat) (hr:r<=32): ∀(l:List Int) (c:Nat),LB l->c<2^r->val (xe r l c)=val l*2^r+c/\LB (xe r l c)
 | [],c,_,hc=>by
   have h2:2^r<=2^32:=qN (by decide) hr;refine⟨by simp[xe,val],fun x hx=>?_⟩;simp only[xe,List.mem_singleton]at hx;omega
 |x::l,c,h,hc=>by
  have h2:2^r<=2^32:=qN (by decide) hr;have hx:=h x q9;obtain⟨y,rfl⟩:=qB hx.1;have hy:y<4294967296:=by omega
  have e:((y:Int)*2^r+(c:Int))=((y*2^r+c:Nat):Int):=by simp
  have hq:(y*2^r+c)/4294967296<2^r:=by
   rw[q7 (by decide)];have:(y+1)*2^r<=4294967296*2^r:=ws _ (by omega);rw[Nat.succ_mul]at this;rw[qJ (2^r)];omega
  simp only[xe];rw[e,show(((y*2^r+c:Nat):Int)/4294967296)=(((y*2^r+c)/4294967296:Nat):Int)from rfl,show(((y*2^r+c:Nat):Int) % 4294967296)=(((y*2^r+c) % 4294967296:Nat):Int)from rfl];obtain⟨i1,i2⟩:=zh4 r hr l ((y*2^r+c)/4294967296) (fun z hz=>h z (q6 _ hz)) hq;constructor
  ·simp only[val,i1,q2];have h1:4294967296*(val l*2^r)=(4294967296*val l)*2^r:=by rw[q3]
   have h3:(y+4294967296*val l)*2^r=y*2^r+(4294967296*val l)*2^r:=wR _ _ _;have h4:=qZ (y*2^r+c) 4294967296;omega
  ·intro z hz;rcases w3.1 hz with rfl|hz
   ·have:=qW (y*2^r+c) (show 0<4294967296 by decide);omega
   ·exact i2 z hz
theorem zc7 (n x:Nat):val (zjf (toL x) n)=x*2^n/\LB (zjf (toL x) n):=by
 unfold zjf;rw[qi];obtain⟨h1,h2⟩:=zh4 (n % 32) (by omega) (toL x) 0 (zz x) (qD _);constructor
 ·rw[zkp];have h1:val (xe (n % 32) (toL x) 0)=x*2^(n % 32):=by
   have:=h1;rw[zr]at this;simpa using this
  rw[h1,←q3,qJ _ x,q3,←qA,show 32*(n/32)+n % 32=n by omega]
 ·intro z hz;rcases List.mem_append.1 hz with hz|hz
  ·have:=qK hz;omega
  ·exact h2 z hz
theorem zhc {l:List Int} (h:LB l):dnL l=if 8192<bl (val l)then([],9)else(toL (val l),0):=by
 unfold dnL;rw[xv h];have h1:(256<(toL (val l)).length)<->8192<bl (val l):=by
  have a:=jl (val l) 256;have b:=yg (n:=val l) (k:=32*256);constructor
  ·intro hh;exact qQ.1 fun hc=>qQ.2 hh (a.2 (b.1 hc))
  ·intro hh;exact qQ.1 fun hc=>qQ.2 hh (b.2 (a.1 hc))
 by_cases hh:256<(toL (val l)).length
 ·rw[if_pos hh,if_pos (h1.1 hh)]
 ·rw[if_neg hh,if_neg fun e=>hh (h1.2 e)]
theorem zgo (x:Nat):(256<(toL x).length)<->8192<bl x:=by
 have a:=jl x 256;have b:=yg (n:=x) (k:=32*256);constructor
 ·intro hh;exact qQ.1 fun hc=>qQ.2 hh (a.2 (b.1 hc))
 ·intro hh;exact qQ.1 fun hc=>qQ.2 hh (b.2 (a.1 hc))
def dnN (x:Nat):List Int×Int:=if 8192<bl x then([],9)else(toL x,0)
theorem zom (x:Nat) (n:Int):qcw (toL x) n=if 8192<bl x then([],9)else if n<0\/65536<n then([],2)else dnN (x*2^n.toNat):=by
 unfold qcw dnN;obtain⟨h1,h2⟩:=zc7 n.toNat x;rw[zhc h2,h1];simp only[zgo]
theorem zvu (p q y z w:Nat) (hp:0<p) (hpq:p*q=4294967296) (hy:y<4294967296):
 (y+4294967296*(z+4294967296*w))/p=(y+z*4294967296)/p % 4294967296+4294967296*((z+4294967296*w)/p):=by
 have a1:(z+4294967296*w)/p=z/p+q*w:=by
  rw[←hpq,q3,wA _ _ hp]
 have a2:(y+4294967296*(z+4294967296*w))/p=(y+z*4294967296)/p+q*(4294967296*w):=by
  have e:y+4294967296*(z+4294967296*w)=(y+z*4294967296)+p*(q*(4294967296*w)):=by
   rw[←q3 p q,hpq];omega
  rw[e,wA _ _ hp]
 have a3:(y+z*4294967296)/p/4294967296=z/p:=by
  rw[qM,qJ p,←qM]
  congr 1;omega
 have a4:=qZ ((y+z*4294967296)/p) 4294967296;have a5:q*(4294967296*w)=4294967296*(q*w):=by rw[←q3,qJ q,q3]
 rw[a1,a2,q5];rw[a3]at a4;omega
theorem zqc (x:Int) (l:List Int) (r:Nat):zc6 (x::l) r=ze8 (x::l) r 0::zc6 l r:=by
 unfold zc6;rw[q4,List.range_succ_eq_map,List.map_cons,List.map_map]
 congr 1
theorem zpe (l:List Int) (h:LB l): ∃z w:Nat,z<4294967296/\l[0]?.getD 0=(z:Int)/\val l=z+4294967296*w:=by
 cases l with
 |nil=>exact⟨0,0,by decide,rfl,rfl⟩
 |cons a m=>
  have ha:=h a (by simp);exact⟨a.toNat,val m,by omega,by simp;omega,rfl⟩
theorem zqd (y z r:Nat) (l:List Int) (h:l[0]?.getD 0=(z:Int)):ze8 ((y:Int)::l) r 0=(((y+z*4294967296)/2^r % 4294967296:Nat):Int):=by
 unfold ze8;simp only[w6,qH,w7,h];simp
theorem zqb (r:Nat) (hr:r<=32) (l:List Int) (h:LB l):val (zc6 l r)=val l/2^r/\LB (zc6 l r):=by
 have ep:2^r*2^(32-r)=4294967296:=by rw[←qA,show r+(32-r)=32 by omega]
 have hp:=qD r;have hsh:=fun y z l h=>zqd y z r l h
 generalize 2^(32-r)=q at ep;generalize hP:2^r=p at ep hp hsh
 induction l with
 |nil=>exact⟨by simp[zc6,val],fun _ h=>nomatch h⟩
 |cons x l ih=>
  have hl:LB l:=fun z hz=>h z (q6 _ hz)
  obtain⟨i1,i2⟩:=ih hl;have hx:=h x q9;obtain⟨y,rfl⟩:=qB hx.1;have hy:y<4294967296:=by omega
  obtain⟨z,w,hz,hl0,hv⟩:=zpe l hl;rw[zqc,hsh y z l hl0];refine⟨?_,?_⟩
  ·rw[qq,qq,i1,hv,q2,q2];exact(zvu p q y z w hp ep hy).symm
  ·intro v hvm;rcases w3.1 hvm with rfl|hvm
   ·have:=qW ((y+z*4294967296)/p) (show 0<4294967296 by decide);omega
   ·exact i2 v hvm
theorem zi7: ∀(k:Nat) (l:List Int),LB l->val (l.drop k)=val l/2^(32*k)
 |0,l,_=>by simp
 |k+1,[],_=>by simp[val]
 |k+1,x::l,h=>by
  have ih:=zi7 k l fun z hz=>h z (q6 _ hz)
  have hx:=h x q9;rw[List.drop_succ_cons,ih,show 32*(k+1)=32+32*k by omega,qA,←qM];simp only[val]
  congr 1;omega
theorem zgb (n x:Nat):val (zkk (toL x) n)=x/2^n/\LB (zkk (toL x) n):=by
 unfold zkk;rw[qi];split
 ·rename_i h;refine⟨?_,fun _ h=>nomatch h⟩;have h1:=(jl x (n/32)).1 h;have h2:x<2^n:=w2 h1 (qN (by decide) (by omega));rw[Nat.div_eq_of_lt h2];rfl
 ·have hd:LB ((toL x).drop (n/32)):=fun z hz=>zz x z (List.mem_of_mem_drop hz)
  obtain⟨h1,h2⟩:=zqb (n % 32) (by omega) _ hd;refine⟨?_,h2⟩;rw[h1,zi7 _ _ (zz x),zr,qM,←qA,show 32*(n/32)+n % 32=n by omega]
theorem zoj (x:Nat) (n:Int):shrR (toL x) n=if 8192<bl x then([],9)else if n<0\/65536<n then([],2)else dnN (x/2^n.toNat):=by
 unfold shrR dnN;obtain⟨h1,h2⟩:=zgb n.toNat x;rw[zhc h2,h1];simp only[zgo]
theorem zi8: ∀(l m:List Int),val (l++m)=val l+4294967296^l.length*val m
 | [],m=>by simp[val]
 |x::l,m=>by
  rw[wG,qq,qq,zi8 l m,q4,qI,q5,←q3,qJ 4294967296 (4294967296^l.length)];omega
theorem ui: ∀(l:List Int) (i:Nat) (y:Int),i<l.length->val (l.set i y)+4294967296^i*(l[i]?.getD 0).toNat =val l+4294967296^i*y.toNat
 | [],i,y,h=>by simp at h
 |x::l,0,y,h=>by
  rw[List.set_cons_zero,qq,qq];simp only[Nat.pow_zero,Nat.one_mul,w6,qH];omega
 |x::l,i+1,y,h=>by
  have ih:=ui l i y (by simpa using h);rw[List.set_cons_succ,qq,qq,w7,qI];generalize (l[i]?.getD 0).toNat =o at ih⊢;generalize y.toNat=y at ih⊢;generalize 4294967296^i=P at ih⊢;have e1:P*4294967296*o=4294967296*(P*o):=by rw[qJ P,q3]
  have e2:P*4294967296*y=4294967296*(P*y):=by rw[qJ P,q3]
  rw[e1,e2];omega
theorem zle (x:Nat) (hx:x<4294967296): ∀(b:List Int) (p:Nat) (out:List Int) (c:Nat),LB b->LB out->c<4294967296->p+b.length<=out.length->
 ∃(o:List Int) (d:Nat),zkm x b p out c=(o,(d:Int))/\LB o/\o.length=out.length/\d<4294967296/\val o+4294967296^(p+b.length)*d=val out+4294967296^p*(x*val b+c)/\ ∀j,p+b.length<=j->o[j]? =out[j]?
 | [],p,out,c,_,ho,hc,_=>⟨out,c,rfl,ho,rfl,hc,by simp[val],fun _ _=>rfl⟩
 |y::b,p,out,c,hb,ho,hc,hl=>by
  have hy:=hb y q9;obtain⟨y,rfl⟩:=qB hy.1;have hy:y<4294967296:=by omega
  rw[q4]at hl;obtain⟨q,hq⟩: ∃q:Nat,out[p]?.getD 0=(q:Int):=⟨_,(Int.toNat_of_nonneg (ho.at p).1).symm⟩;have hq2:q<4294967296:=by have:=(ho.at p).2;omega
  have e:((x:Int)*(y:Int)+out[p]?.getD 0+(c:Int))=((x*y+q+c:Nat):Int):=by rw[hq];simp
  have hxy:x*y<=4294967295*4294967295:=Nat.mul_le_mul (by omega) (by omega);have hd:(x*y+q+c)/4294967296<4294967296:=by omega
  have hm:=qW (x*y+q+c) (show 0<4294967296 by decide);obtain⟨o,d,h1,h2,h3,h4,h5,h6⟩:=zle x hx b (p+1) (out.set p (((x*y+q+c) % 4294967296:Nat):Int)) ((x*y+q+c)/4294967296) (fun z hz=>hb z (q6 _ hz)) (ho.set (by omega)) hd (by rw[qE];omega);refine⟨o,d,?_,h2,by rw[h3,qE],h4,?_,fun j hj=>?_⟩
  ·simp only[zkm];rw[e];exact h1
  ·have hs:=ui out p (((x*y+q+c) % 4294967296:Nat):Int) (by omega);rw[hq,q2,q2]at hs;rw[q4,show p+(b.length+1)=p+1+b.length by omega,h5,qq,q2,qI];have hmd:=qZ (x*y+q+c) 4294967296;generalize (x*y+q+c)/4294967296=t at hmd⊢;generalize (x*y+q+c) % 4294967296=r at hs hmd⊢;generalize 4294967296^p=P at hs⊢;have e1:P*4294967296*(x*val b+t)=P*(4294967296*(x*val b))+P*(4294967296*t):=by rw[q3,q5,q5]
   have e2:P*(x*(y+4294967296*val b)+c)=P*(x*y)+P*(4294967296*(x*val b))+P*c:=by
    rw[q5 x,q5 P,q5 P]
    congr 3
    rw[←q3,qJ x,q3]
   have e3:P*r+P*(4294967296*t)=P*(x*y)+P*q+P*c:=by rw[←q5,←q5,←q5,hmd]
   rw[e1,e2];omega
  ·rw[q4]at hj;rw[h6 j (by omega),qO (by omega)]
theorem zgl (b:List Int) (hb:LB b): ∀(a:List Int) (i:Nat) (out:List Int),LB a->LB out->i+a.length+b.length<=out.length->(∀j,i+b.length<=j->out[j]?.getD 0=0)->
 val (znf b a i out)=val out+4294967296^i*(val a*val b)/\LB (znf b a i out)
 | [],i,out,_,ho,_,_=>⟨by simp[znf,val],ho⟩
 |x::a,i,out,ha,ho,hl,hz=>by
  have hx:=ha x q9;obtain⟨x,rfl⟩:=qB hx.1;have hx:x<4294967296:=by omega
  rw[q4]at hl;obtain⟨o,d,h1,h2,h3,h4,h5,h6⟩:=zle x hx b i out 0 hb ho (by omega) (by omega);have h1:zkm (x:Int) b i out 0=(o,(d:Int)):=h1;simp only[znf];rw[h1];have hzo:o[i+b.length]?.getD 0=0:=by rw[h6 _ (qG _)];exact hz _ (qG _)
  have hs:=ui o (i+b.length) (d:Int) (by omega);rw[hzo,q2,qV,w8,w1,h5]at hs;obtain⟨i1,i2⟩:=zgl b hb a (i+1) (o.set (i+b.length) (d:Int)) (fun z hz=>ha z (q6 _ hz)) (h2.set (by omega)) (by rw[qE];omega) (fun j hj=>by
   rw[qO (by omega),h6 j (by omega)];exact hz j (by omega))
  refine⟨?_,i2⟩;rw[i1,hs,qq,q2,qI];generalize 4294967296^i=P;have e1:P*4294967296*(val a*val b)=P*(4294967296*(val a*val b)):=q3 _ _ _;have e2:P*((x+4294967296*val a)*val b)=P*(x*val b)+P*(4294967296*(val a*val b)):=by
   rw[wR,q5,q3]
  rw[e1,e2,w1];omega
theorem zec (n:Nat):val (qU n 0)=0:=by
 have:=zkp n [];simpa[val]using this
theorem zs0 (x y:Nat):val (zvc (toL x) (toL y))=x*y/\LB (zvc (toL x) (toL y)):=by
 unfold zvc;obtain⟨h1,h2⟩:=zgl (toL y) (zz y) (toL x) 0 (qU ((toL x).length +(toL y).length) 0) (zz x) (fun z hz=>by have:=qK hz;omega) (by simp) (fun j _=>by
  rw[qT];split<;>rfl)
 refine⟨?_,h2⟩;rw[h1,zec,zr,zr];simp
theorem zwm (x y:Nat):qew (toL x) (toL y)=if 8192<bl x\/8192<bl y then([],9)else dnN (x*y):=by
 unfold qew dnN;rw[qi,qi];obtain⟨h1,h2⟩:=zs0 x y;rw[zhc h2,h1];simp only[zgo]
def zae (x y:Nat):Int:=if x<y then-1 else if y<x then 1 else 0
theorem wu (l:List Int) {n:Nat} (h:n<l.length):val (l.take (n+1))=val (l.take n)+4294967296^n*(l[n]?.getD 0).toNat :=by
 rw[List.take_add_one,List.getElem?_eq_getElem h];simp only[Option.toList_some,qH];rw[zi8,w4,wJ (by omega),qq];simp[val]
theorem yc {l:List Int} (h:LB l) (n:Nat) (hn:n<=l.length):val (l.take n)<4294967296^n:=by
 have:=zx0 (l:=l.take n) fun x hx=>h x (List.mem_of_mem_take hx)
 rw[w4,wJ hn,wH]at this;exact this
theorem zix {a b:List Int} (ha:LB a) (hb:LB b): ∀n,n<=a.length->n<=b.length->zhg a b n=zae (val (a.take n)) (val (b.take n))
 |0,_,_=>by simp[zhg,zae,val]
 |n+1,h1,h2=>by
  have ih:=zix ha hb n (by omega) (by omega);have ea:=wu a (n:=n) (by omega);have eb:=wu b (n:=n) (by omega);have la:=yc ha n (by omega);have lb:=yc hb n (by omega);have pa:=ha.at n;have pb:=hb.at n;simp only[zhg];rw[ea,eb,ih];generalize a[n]?.getD 0=u at*;generalize b[n]?.getD 0=v at*;generalize val (a.take n)=A at*;generalize val (b.take n)=B at*;generalize 4294967296^n=P at*;obtain⟨u,rfl⟩:=qB pa.1;obtain⟨v,rfl⟩:=qB pb.1;rw[q2,q2];unfold zae;by_cases c1:u<v
  ·have:P*(u+1)<=P*v:=wC _ c1;rw[wO]at this;rw[if_pos (by omega),if_pos (by omega)]
  ·by_cases c2:v<u
   ·have:P*(v+1)<=P*u:=wC _ c2;rw[wO]at this;rw[if_neg (by omega),if_pos (by omega),if_neg (by omega),if_pos (by omega)]
   ·obtain rfl:u=v:=by omega
    rw[if_neg (by omega),if_neg (by omega)];by_cases c3:A<B
    ·rw[if_pos c3,if_pos (by omega)]
    ·rw[if_neg c3,if_neg (show ¬A+P*u<B+P*u by omega)];by_cases c4:B<A
     ·rw[if_pos c4,if_pos (by omega)]
     ·rw[if_neg c4,if_neg (by omega)]
theorem zpa {x y:Nat} (h:(toL x).length <(toL y).length):x<y:=by
 have h1:=(jl x (toL x).length).1 (qG _);refine w2 h1 (wS.1 fun hc=>?_);have:=(jl y (toL x).length).2 hc;omega
theorem zd1 (x y:Nat):qcc (toL x) (toL y)=zae x y:=by
 unfold qcc;rw[qi,qi];by_cases h1:(toL x).length <(toL y).length
 ·rw[if_pos h1];unfold zae;rw[if_pos (zpa h1)]
 ·rw[if_neg h1];by_cases h2:(toL y).length <(toL x).length
  ·have:=zpa h2;rw[if_pos h2];unfold zae;rw[if_neg (by omega),if_pos this]
  ·rw[if_neg h2,zix (zz x) (zz y) _ (qG _) (by omega),qL,show(toL x).length =(toL y).length by omega,qL,zr,zr]
set_option maxRecDepth 100000
set_option maxHeartbeats 8000000
def zeg:Nat->Nat->List Int
 |0,_=> []
 |k+1,v=>((v % 4294967296:Nat):Int)::zeg k (v/4294967296)
theorem xo: ∀k v,(zeg k v).length =k
 |0,_=>rfl
 |k+1,v=>by simp[zeg,xo k]
theorem za2: ∀k v,LB (zeg k v)
 |0,_=>fun _ h=>nomatch h
 |k+1,v=>fun x hx=>by
  rcases w3.1 hx with rfl|hx
  ·have:=qW v (show 0<4294967296 by decide);omega
  ·exact za2 k _ x hx
theorem zav: ∀ {l:List Int},LB l->zeg l.length (val l)=l
 | [],_=>rfl
 |x::l,h=>by
  have hx:=h x q9;have ih:=zav (l:=l) fun y hy=>h y (q6 _ hy)
  rw[qq,q4];show(((x.toNat+4294967296*val l) % 4294967296:Nat):Int)::zeg l.length ((x.toNat+4294967296*val l)/4294967296)=x::l;rw[show(x.toNat+4294967296*val l)/4294967296=val l by omega,ih,show(((x.toNat+4294967296*val l) % 4294967296:Nat):Int)=x by omega]
theorem xi: ∀k v,v<4294967296^k->val (zeg k v)=v
 |0,v,h=>by simp at h;subst h;rfl
 |k+1,v,h=>by
  have hd:v/4294967296<4294967296^k:=by
   rw[q7 (by decide),←qI];exact h
  show val (((v % 4294967296:Nat):Int)::zeg k (v/4294967296))=v;rw[qq,xi k _ hd,q2];omega
theorem zq8 {n:Int} (h:0<=n/\n<4294967296):IntKind.u32.wrap n=n:=by
 simp[IntKind.wrap,IntKind.signed,IntKind.bits];omega
theorem y261 (x y c:Nat) (hx:x<4294967296) (hy:y<4294967296) (hc:c<4294967296):Fn 398 [] [.int .u32 x,.int .u32 y,.int .u32 c] (.tup [.int .u32 ((x+y+c) % 4294967296:Nat),.int .u32 ((x+y+c)/4294967296:Nat)]) []:=by
 refine fnT hT4 hmx Tryz.func398 rfl rfl (ex:= []) ?_;conv=>whnf
 refine⟨by decide,?_⟩;conv=>whnf
 have e1:IntKind.u64.wrap (IntKind.u64.wrap (IntKind.u64.wrap (x:Int)+IntKind.u64.wrap (y:Int))+IntKind.u64.wrap (c:Int))=((x+y+c:Nat):Int):=by
  rw[wU (x:=(x:Int)) (by omega),wU (x:=(y:Int)) (by omega),wU (x:=(c:Int)) (by omega),wU (x:=(x:Int)+(y:Int)) (by omega),wU (by omega)];omega
 refine⟨lt0 (lc (ai0 ?_) (lc (ai0 ?_) ln0)),lh0⟩
 ·refine(congrArg IntKind.u32.wrap e1).trans ?_;simp[IntKind.wrap,IntKind.signed,IntKind.bits]
 ·refine(congrArg (fun z:Int=>IntKind.u32.wrap (z.fdiv 4294967296)) e1).trans ?_;show IntKind.u32.wrap (((x+y+c:Nat):Int).fdiv 4294967296)=_;rw[Int.fdiv_eq_ediv_of_nonneg _ (by decide),show((x+y+c:Nat):Int)/4294967296=(((x+y+c)/4294967296:Nat):Int)from rfl];exact zq8 (by omega)
noncomputable def zuo:Code:=Tryz.f373.body.getD .skip
theorem y272 (a b:List Int) (ha:LB a) (hb:LB b) (hal:a.length<=100000) (hbl:b.length<=100000):Fn 373 [] [.sl .u32 a,.sl .u32 b] (.sl .u32 (zeg (max a.length b.length+1) (val a+val b))) []:=by
 refine vn (code:=zuo) hT4 hmx Tryz.func373 rfl rfl (ex:= []) ?_;conv=>whnf
 refine jm hT4 hmx 2 (fun x: {p:List Int×List Int//LB p.1/\LB p.2/\p.2.length<=p.1.length/\p.1.length=max a.length b.length/\val p.1+val p.2=val a+val b}=>⟨[.sl .u32 x.1.1,.sl .u32 x.1.2]++uh 51,[(20,.free)]⟩) (fun _=>by kernel_rfl) ?_ (fun x=>?_)
 ·conv=>whnf
  refine brI (fun h1=>?_) (fun h1=>?_)
  ·have h1:a.length<b.length:=by simp only[decide_eq_true_eq]at h1;omega
   conv=>whnf
   refine⟨⟨(b,a),hb,ha,by simp only;omega,by simp only;omega,Nat.add_comm _ _⟩,?_⟩
   ((conv=>whnf);refine qX ?_ ?_;repeat' first|refine lc ?_ ?_|exact la0|exact lr rfl|exact ln0|refine lh1 ?_ ?_|exact lh0|exact bf0|exact bd0|refine bc0 ?_|exact bm0 rfl|exact bb0 rfl|exact bg0 rfl|exact li0 rfl|refine lg0 ?_|refine lt0 ?_|fail)
  ·have h1: ¬a.length<b.length:=by simp only[decide_eq_false_iff_not]at h1;omega
   conv=>whnf
   refine⟨⟨(a,b),ha,hb,by simp only;omega,by simp only;omega,rfl⟩,?_⟩
   ((conv=>whnf);refine qX ?_ ?_;repeat' first|refine lc ?_ ?_|exact la0|exact lr rfl|exact ln0|refine lh1 ?_ ?_|exact lh0|exact bf0|exact bd0|refine bc0 ?_|exact bm0 rfl|exact bb0 rfl|exact bg0 rfl|exact li0 rfl|refine lg0 ?_|refine lt0 ?_|fail)
 ·obtain⟨⟨A,B⟩,hA,hB,hle,hmax,hval⟩:=x;simp only at hA hB hle hmax hval;show SemOK Tryz.prog T4 Tryz.f373.results.toList [] _ [] (zd0 2 zuo) ⟨[.sl .u32 A,.sl .u32 B]++uh 51,[(20,.free)]⟩;rw[←hmax,←hval];have hAl:A.length<=100000:=by omega
  clear hmax hval ha hb hal hbl;refine jf hT4 hmx ?_;conv=>whnf
  have hw:IntKind.i64.wrap ((A.length:Int)+1)=((A.length+1:Nat):Int):=by rw[wI (by omega)];omega
  rw[hw];refine⟨⟨by omega,by omega,by omega⟩,?_⟩;conv=>whnf
  refine⟨Nat×List Int×Nat,fun x=>x.1<=A.length/\LB x.2.1/\x.2.1.length=A.length+1/\x.2.2<4294967296/\(∀j,x.1<=j->x.2.1[j]?.getD 0=0)/\val x.2.1+4294967296^x.1*x.2.2=val (A.take x.1)+val (B.take x.1),fun x=> [(23,.int .i64 x.1),(6,.int .u32 x.2.2)],fun x=> [(20,.buf 108 .u32 x.2.1)],fun x=>A.length-x.1,(0,qU (A.length+1) 0,0),⟨by simp,fun x hx=>by rw[qK hx];omega,by simp,by simp,fun j _=>by rw[qT];split<;>rfl,by rw[zec];simp[val]⟩,?_,fun x hx=>?_⟩
  ·((conv=>whnf);refine qX ?_ ?_;repeat' first|refine lc ?_ ?_|exact la0|exact lr rfl|exact ln0|refine lh1 ?_ ?_|exact lh0|exact bf0|exact bd0|refine bc0 ?_|exact bm0 rfl|exact bb0 rfl|exact bg0 rfl|exact li0 rfl|refine lg0 ?_|refine lt0 ?_|fail)
  (refine⟨by kernel_rfl,?_⟩;(conv=>whnf))
  obtain⟨i,out,c⟩:=x;obtain⟨hi1,hi2,hi3,hi4,hi5,hi6⟩:=hx;simp only at hi1 hi2 hi3 hi4 hi5 hi6;refine brI (fun h1=>?_) (fun h1=>?_)
  ·have hi:i<A.length:=by simp only[decide_eq_true_eq]at h1;omega
   conv=>whnf
   refine⟨⟨by omega,by simp only;omega⟩,fun(x:Int) hx=>?_⟩;have hx:A[i]? =some x:=by simpa using hx
   have hxb:=hA x (qP hx);have ta:=wu A hi;rw[hx,qH]at ta;have key: ∀y:Nat,y<4294967296->val (B.take (i+1))=val (B.take i)+4294967296^i*y->
    LB (out.set i (((x.toNat+y+c) % 4294967296:Nat):Int))/\(∀j,i+1<=j->(out.set i (((x.toNat+y+c) % 4294967296:Nat):Int))[j]?.getD 0=0)/\
    val (out.set i (((x.toNat+y+c) % 4294967296:Nat):Int))+4294967296^(i+1)*((x.toNat+y+c)/4294967296)=val (A.take (i+1))+val (B.take (i+1)):=by
    intro y hy tb;refine⟨hi2.set (by omega),fun j hj=>by rw[qO (by omega)];exact hi5 j (by omega),?_⟩;have hs:=ui out i (((x.toNat+y+c) % 4294967296:Nat):Int) (by omega);rw[hi5 i (qG _),qV,w8,w1,q2]at hs;rw[hs,ta,tb,qI];have hmd:=qZ (x.toNat+y+c) 4294967296;generalize (x.toNat+y+c)/4294967296=t at hmd⊢;generalize (x.toNat+y+c) % 4294967296=r at hmd⊢;generalize 4294967296^i=P at hi6⊢;have e1:P*4294967296*t=P*(4294967296*t):=q3 _ _ _;have e2:P*r+P*(4294967296*t)=P*x.toNat+P*y+P*c:=by rw[←q5,hmd,q5,q5]
    rw[e1];omega
   conv=>whnf
   refine brI (fun h2=>?_) (fun h2=>?_)
   ·have h2:i<B.length:=by simp only[decide_eq_true_eq]at h2;omega
    conv=>whnf
    refine⟨⟨by omega,by simp only;omega⟩,fun(y:Int) hy=>?_⟩;have hy:B[i]? =some y:=by simpa using hy
    have hyb:=hB y (qP hy);have tb:=wu B h2;rw[hy,qH]at tb;obtain⟨k1,k2,k3⟩:=key y.toNat (by omega) tb;have h261:=y261 x.toNat y.toNat c (by omega) (by omega) hi4;rw[show((x.toNat:Nat):Int)=x by omega,show((y.toNat:Nat):Int)=y by omega]at h261;conv=>whnf
    refine gZn h261 ?_;conv=>whnf
    refine⟨⟨by omega,by simp only;omega⟩,?_⟩;conv=>whnf
    refine⟨by simp only;omega,?_⟩;conv=>whnf
    refine⟨(i+1,out.set i (((x.toNat+y.toNat+c) % 4294967296:Nat):Int),(x.toNat+y.toNat+c)/4294967296),⟨by simp only;omega,k1,by simp only[qE];exact hi3,by simp only;omega,k2,k3⟩,by show A.length-(i+1)<A.length-i;omega,?_⟩
    ((conv=>whnf);refine qX ?_ ?_;repeat' first|refine lc ?_ ?_|exact la0|exact lr rfl|exact ln0|refine lh1 ?_ ?_|exact lh0|exact bf0|exact bd0|refine bc0 ?_|exact bm0 rfl|exact bb0 rfl|exact bg0 rfl|exact li0 rfl|refine lg0 ?_|refine lt0 ?_|fail)
    ·exact ai0 (by rw[wI (by simp only;omega)];simp only;omega)
    all_goals trace_state
   ·have h2: ¬i<B.length:=by simp only[decide_eq_false_iff_not]at h2;omega
    obtain⟨k1,k2,k3⟩:=key 0 (by omega) (by rw[qC (by omega),qC (by omega)];simp);have h261:=y261 x.toNat 0 c (by omega) (by omega) hi4;rw[show((x.toNat:Nat):Int)=x by omega]at h261;conv=>whnf
    refine gZn h261 ?_;conv=>whnf
    refine⟨⟨by omega,by simp only;omega⟩,?_⟩;conv=>whnf
    refine⟨by simp only;omega,?_⟩;conv=>whnf
    refine⟨(i+1,out.set i (((x.toNat+0+c) % 4294967296:Nat):Int),(x.toNat+0+c)/4294967296),⟨by simp only;omega,k1,by simp only[qE];exact hi3,by simp only;omega,k2,k3⟩,by show A.length-(i+1)<A.length-i;omega,?_⟩
    ((conv=>whnf);refine qX ?_ ?_;repeat' first|refine lc ?_ ?_|exact la0|exact lr rfl|exact ln0|refine lh1 ?_ ?_|exact lh0|exact bf0|exact bd0|refine bc0 ?_|exact bm0 rfl|exact bb0 rfl|exact bg0 rfl|exact li0 rfl|refine lg0 ?_|refine lt0 ?_|fail)
    ·exact ai0 (by rw[wI (by simp only;omega)];simp only;omega)
    all_goals trace_state
  ·have hi:i=A.length:=by simp only[decide_eq_false_iff_not]at h1;omega
   subst hi;rw[qL,qC hle]at hi6;have hs:=ui out A.length (c:Int) (by omega);rw[hi5 _ (qG _),qV,w8,w1,q2,hi6]at hs;have hp:=zav (hi2.set (i:=A.length) (x:=(c:Int)) (by omega));rw[qE,hi3,hs]at hp;conv=>whnf
   refine⟨⟨by omega,by simp only;omega⟩,?_⟩;conv=>whnf
   refine⟨by simp only;omega,?_⟩;conv=>whnf
   exact⟨uz hp.symm,lh0⟩
theorem c284 (x y b:Nat) (D R:Int) (hD:((x:Int)-(y:Int)-(b:Int)) % 4294967296=D)
 (hR:bits BinOp.or IntKind.u32 (bits BinOp.and IntKind.u32 (bits BinOp.xor IntKind.u32 IntKind.u32.max (x:Int)) (y:Int)) (bits BinOp.and IntKind.u32 (bits BinOp.xor IntKind.u32 IntKind.u32.max (bits BinOp.xor IntKind.u32 (x:Int) (y:Int))) D)/2147483648=R) (w:World):
 Calls Tryz.prog 399 #[.int .u32 x,.int .u32 y,.int .u32 b] w fun e w'=>e= .returned (.tuple #[.int .u32 D,.int .u32 R])/\w'=w:=by
 go_enter Tryz.func399,Tryz.ntmps399
 go_wp2_with (simp only[hD,hR])
 go_ret2
 exact⟨rfl,rfl⟩
theorem b32 (x y:Nat) (hx:x<4294967296) (hy:y<4294967296):(qF 32 (x:Int)).toNat =x/\(qF 32 (y:Int)).toNat =y:=by
 constructor
 ·rw[wB,wD];exact w5 hx
 ·rw[wB,wD];exact w5 hy
theorem or32 (x y:Nat) (hx:x<4294967296) (hy:y<4294967296):bits .or .u32 (x:Int) (y:Int)=((x|||y:Nat):Int):=by
 obtain⟨e1,e2⟩:=b32 x y hx hy;have h:x|||y<2^32:=wE hx hy
 have h2:(qF 32 (x:Int)|||qF 32 (y:Int)).toNat =x|||y:=by rw[BitVec.toNat_or,e1,e2]
 show IntKind.u32.wrap ((qF 32 (x:Int)|||qF 32 (y:Int)).toNat :Int)=_;rw[h2];exact zq8 (by omega)
theorem zzt (x y:Nat) (hx:x<4294967296) (hy:y<4294967296):bits .xor .u32 (x:Int) (y:Int)=((x^^^y:Nat):Int):=by
 obtain⟨e1,e2⟩:=b32 x y hx hy;have h:x^^^y<2^32:=qR hx hy;have h2:(qF 32 (x:Int)^^^qF 32 (y:Int)).toNat =x^^^y:=by rw[BitVec.toNat_xor,e1,e2]
 show IntKind.u32.wrap ((qF 32 (x:Int)^^^qF 32 (y:Int)).toNat :Int)=_;rw[h2];exact zq8 (by omega)
theorem zvl {n:Nat} (h:n<4294967296):n.testBit 31=decide (2147483648<=n):=by
 rw[Nat.testBit_eq_decide_div_mod_eq]
 congr 1
 rw[eq_iff_iff];show n/2147483648 % 2=1<->_;omega
theorem qgm (x y b:Nat) (hx:x<4294967296) (hy:y<4294967296) (hb:b<=1):
 ((4294967295^^^x)&&& y|||(4294967295^^^(x^^^y))&&& ((x+4294967296-y-b) % 4294967296))/2147483648=if x<y+b then 1 else 0:=by
 have hd:=qW (x+4294967296-y-b) (show 0<4294967296 by decide);have hdef: ∃d,(x+4294967296-y-b) % 4294967296=d:=⟨_,rfl⟩;obtain⟨d,hdd⟩:=hdef;rw[hdd]at hd⊢;have hN:((4294967295^^^x)&&& y|||(4294967295^^^(x^^^y))&&& d)<2^32:=
  wE (qS qY hy) (qS qY hd)
 have ht:=zvl hN;rw[Nat.testBit_or,wK,wK,w9,w9,w9,zvl hx,zvl hy,zvl hd,show Nat.testBit 4294967295 31=true by decide]at ht;generalize ((4294967295^^^x)&&& y|||(4294967295^^^(x^^^y))&&& d)=N at hN ht⊢;have hN:N<4294967296:=hN;by_cases c1:2147483648<=x<;>by_cases c2:2147483648<=y<;>by_cases c3:2147483648<=d<;>simp only[c1,c2,c3,decide_true,decide_false,Bool.xor_true,Bool.xor_false,Bool.true_xor,Bool.false_xor,Bool.not_true,Bool.not_false,Bool.and_true,Bool.and_false,Bool.true_and,Bool.false_and,Bool.or_false,Bool.or_true,Bool.false_or,true_eq_decide_iff,false_eq_decide_iff]at ht<;>split<;>omega
theorem y284 (x y b:Nat) (hx:x<4294967296) (hy:y<4294967296) (hb:b<=1):Fn 399 [] [.int .u32 x,.int .u32 y,.int .u32 b] (.tup [.int .u32 ((x+4294967296-y-b) % 4294967296:Nat),.int .u32 ((if x<y+b then 1 else 0:Nat):Int)]) []:=by
 refine⟨⟨_,Tryz.func399,rfl,rfl⟩,fun w M pt ow S vs hcore hcont hargs=>?_⟩
 match vs,hargs with
 | [v1,v2,v3],⟨h1,h2,h3,_⟩=>
   obtain rfl:v1= .int .u32 x:=h1;obtain rfl:v2= .int .u32 y:=h2;obtain rfl:v3= .int .u32 b:=h3;have hd:=qW (x+4294967296-y-b) (show 0<4294967296 by decide);have hD:((x:Int)-(y:Int)-(b:Int)) % 4294967296=(((x+4294967296-y-b) % 4294967296:Nat):Int):=by omega
   have hm:IntKind.u32.max=((4294967295:Nat):Int):=by decide
   have x1:4294967295^^^x<4294967296:=qR (n:=32) (by decide) hx;have x2:x^^^y<4294967296:=qR (n:=32) hx hy;have x3:4294967295^^^(x^^^y)<4294967296:=qR (n:=32) (by decide) x2;refine(c284 x y b _ ((if x<y+b then 1 else 0:Nat):Int) hD ?_ w).mono ?_
   ·rw[hm,zzt _ _ (by decide) hx,zzt _ _ hx hy,zzt _ _ (by decide) x2,bits_and_u32_nat _ _ x1 hy,bits_and_u32_nat _ _ x3 hd,
     or32 _ _ (qS qY hy) (qS qY hd),←qgm x y b hx hy hb]
    rfl
   ·rintro e w' ⟨rfl,rfl⟩;exact⟨_,M,pt,ow,S,rfl,hcore,hcont,⟨_,rfl,rfl,rfl,trivial⟩,rfl,rfl,rfl,qG _,fun _ _ _ _=>rfl,fun _ h=>h,fun _ h=> .inl h,fun _ h=> .inl h,fun _ _ h=> .inl h,fun _ _ h=> .inl h⟩
theorem qs (x k:Nat):(toL x).length <=k<->bl x<=32*k:=by rw[jl,yg]
theorem y263 (x y:Nat) (hx:bl x<=100000) (hy:bl y<=100000):Fn 320 [] [.sl .u32 (toL x),.sl .u32 (toL y)] (dnV (if 8192<bl x\/8192<bl y then([],9)else dnN (x+y))) []:=by
 have lx:(toL x).length <=100000:=(qs x 100000).2 (by omega);have ly:(toL y).length <=100000:=(qs y 100000).2 (by omega);have h215:=zzs [toL x,toL y] (by simp);have h272:=y272 (toL x) (toL y) (zz x) (zz y) lx ly;rw[zr,zr]at h272;have h221:=qdh (zeg (max (toL x).length (toL y).length +1) (x+y)) (by rw[xo];omega);rw[zhc (za2 _ _)]at h221;have hv:val (zeg (max (toL x).length (toL y).length +1) (x+y))=x+y:=by
  refine xi _ _ ?_;have h1:=(jl x _).1 (Nat.le_max_left (toL x).length (toL y).length);have h2:=(jl y _).1 (Nat.le_max_right (toL x).length (toL y).length);rw[wH]at h1 h2;have e:(2:Nat)^32=4294967296:=rfl;rw[e]at h1 h2;rw[qI];omega
 rw[hv]at h221;have hlg:([toL x,toL y].any lgB)=decide (8192<bl x\/8192<bl y):=by
  simp only[wL,wP,Bool.or_false,lgB,zgo,Bool.decide_or]
 rw[hlg]at h215;refine fnT hT4 hmx Tryz.func320 rfl rfl (ex:= []) ?_;conv=>whnf
 refine cbI [] _ h215 (fun h1=>?_) (fun h1=>?_)
 ·rw[if_pos (of_decide_eq_true h1)];conv=>whnf
  exact⟨lt0 (lc (li0 rfl) (lc (lr rfl) ln0)),lh0⟩
 ·rw[if_neg (of_decide_eq_false h1)];unfold dnN;conv=>whnf
  refine gZn h272 ?_;conv=>whnf
  refine gZn h221 ?_;conv=>whnf
  exact⟨lr rfl,lh0⟩
theorem y280 (x y:Nat) (hxl:(toL x).length <=100000) (hyl:(toL y).length <=100000) (hle:y<=x):Fn 374 [] [.sl .u32 (toL x),.sl .u32 (toL y)] (.sl .u32 (zeg (toL x).length (x-y))) []:=by
 have hx216:=zi5 (toL x) (by omega);have hy216:=zi5 (toL y) (by omega);rw[qi]at hx216 hy216;have hA:=zz x;have hB:=zz y;have vA:=zr x;have vB:=zr y;have hll:(toL y).length <=(toL x).length :=wS.1 fun h=>by have:=zpa h;omega
 have hlt:=yc hA (toL x).length (qG _);generalize toL x=A at*;generalize toL y=B at*;refine fnT hT4 hmx Tryz.func374 rfl rfl (ex:= []) ?_;conv=>whnf
 refine gZn hx216 ?_;conv=>whnf
 refine gZn hy216 ?_;conv=>whnf
 refine⟨⟨by omega,by omega,by omega⟩,?_⟩;conv=>whnf
 refine⟨Nat×List Int×Nat,fun x=>x.1<=A.length/\LB x.2.1/\x.2.1.length=A.length/\x.2.2<=1/\(∀j,x.1<=j->x.2.1[j]?.getD 0=0)/\val x.2.1+val (B.take x.1)=val (A.take x.1)+4294967296^x.1*x.2.2,fun x=> [(19,.int .i64 x.1),(6,.int .u32 x.2.2)],fun x=> [(16,.buf 108 .u32 x.2.1)],fun x=>A.length-x.1,(0,qU A.length 0,0),⟨by simp,fun x hx=>by rw[qK hx];omega,by simp,by simp,fun j _=>by rw[qT];split<;>rfl,by rw[zec];simp[val]⟩,?_,fun x hx=>?_⟩
 ·((conv=>whnf);refine qX ?_ ?_;repeat' first|refine lc ?_ ?_|exact la0|exact lr rfl|exact ln0|refine lh1 ?_ ?_|exact lh0|exact bf0|exact bd0|refine bc0 ?_|exact bm0 rfl|exact bb0 rfl|exact bg0 rfl|exact li0 rfl|refine lg0 ?_|refine lt0 ?_|fail)
 (refine⟨by kernel_rfl,?_⟩;(conv=>whnf))
 obtain⟨i,out,c⟩:=x;obtain⟨hi1,hi2,hi3,hi4,hi5,hi6⟩:=hx;simp only at hi1 hi2 hi3 hi4 hi5 hi6;refine brI (fun h1=>?_) (fun h1=>?_)
 ·have hi:i<A.length:=by simp only[decide_eq_true_eq]at h1;omega
  conv=>whnf
  refine⟨⟨by omega,by simp only;omega⟩,fun(x:Int) hx=>?_⟩;have hx:A[i]? =some x:=by simpa using hx
  have hxb:=hA x (qP hx);have ta:=wu A hi;rw[hx,qH]at ta;have key: ∀y:Nat,y<4294967296->val (B.take (i+1))=val (B.take i)+4294967296^i*y->
   LB (out.set i (((x.toNat+4294967296-y-c) % 4294967296:Nat):Int))/\(∀j,i+1<=j->(out.set i (((x.toNat+4294967296-y-c) % 4294967296:Nat):Int))[j]?.getD 0=0)/\
   val (out.set i (((x.toNat+4294967296-y-c) % 4294967296:Nat):Int))+val (B.take (i+1))=val (A.take (i+1))+4294967296^(i+1)*(if x.toNat<y+c then 1 else 0):=by
   intro y hy tb;refine⟨hi2.set (by omega),fun j hj=>by rw[qO (by omega)];exact hi5 j (by omega),?_⟩;have hs:=ui out i (((x.toNat+4294967296-y-c) % 4294967296:Nat):Int) (by omega);rw[hi5 i (qG _),qV,w8,w1,q2]at hs;rw[hs,ta,tb,qI];have hmd:(x.toNat+4294967296-y-c) % 4294967296+y+c=x.toNat+4294967296*(if x.toNat<y+c then 1 else 0):=by split<;>omega
   generalize (x.toNat+4294967296-y-c) % 4294967296=r at hmd⊢;generalize (if x.toNat<y+c then 1 else 0)=t at hmd⊢;generalize 4294967296^i=P at hi6⊢;have e1:P*4294967296*t=P*(4294967296*t):=q3 _ _ _;have e2:P*r+P*y+P*c=P*x.toNat+P*(4294967296*t):=by rw[←q5,←q5,hmd,q5]
   rw[e1];omega
  conv=>whnf
  refine brI (fun h2=>?_) (fun h2=>?_)
  ·have h2:i<B.length:=by simp only[decide_eq_true_eq]at h2;omega
   conv=>whnf
   refine⟨⟨by omega,by simp only;omega⟩,fun(y:Int) hy=>?_⟩;have hy:B[i]? =some y:=by simpa using hy
   have hyb:=hB y (qP hy);have tb:=wu B h2;rw[hy,qH]at tb;obtain⟨k1,k2,k3⟩:=key y.toNat (by omega) tb;have h284:=y284 x.toNat y.toNat c (by omega) (by omega) hi4;rw[show((x.toNat:Nat):Int)=x by omega,show((y.toNat:Nat):Int)=y by omega]at h284;conv=>whnf
   refine gZn h284 ?_;conv=>whnf
   refine⟨⟨by omega,by simp only;omega⟩,?_⟩;conv=>whnf
   refine⟨by simp only;omega,?_⟩;conv=>whnf
   refine⟨(i+1,out.set i (((x.toNat+4294967296-y.toNat-c) % 4294967296:Nat):Int),if x.toNat<y.toNat+c then 1 else 0),⟨by simp only;omega,k1,by simp only[qE];exact hi3,by simp only;split<;>omega,k2,k3⟩,by show A.length-(i+1)<A.length-i;omega,?_⟩
   ((conv=>whnf);refine qX ?_ ?_;repeat' first|refine lc ?_ ?_|exact la0|exact lr rfl|exact ln0|refine lh1 ?_ ?_|exact lh0|exact bf0|exact bd0|refine bc0 ?_|exact bm0 rfl|exact bb0 rfl|exact bg0 rfl|exact li0 rfl|refine lg0 ?_|refine lt0 ?_|fail)
   ·exact ai0 (by rw[wI (by simp only;omega)];simp only;omega)
  ·have h2: ¬i<B.length:=by simp only[decide_eq_false_iff_not]at h2;omega
   obtain⟨k1,k2,k3⟩:=key 0 (by omega) (by rw[qC (by omega),qC (by omega)];simp);have h284:=y284 x.toNat 0 c (by omega) (by omega) hi4;rw[show((x.toNat:Nat):Int)=x by omega]at h284;conv=>whnf
   refine gZn h284 ?_;conv=>whnf
   refine⟨⟨by omega,by simp only;omega⟩,?_⟩;conv=>whnf
   refine⟨by simp only;omega,?_⟩;conv=>whnf
   refine⟨(i+1,out.set i (((x.toNat+4294967296-0-c) % 4294967296:Nat):Int),if x.toNat<0+c then 1 else 0),⟨by simp only;omega,k1,by simp only[qE];exact hi3,by simp only;split<;>omega,k2,k3⟩,by show A.length-(i+1)<A.length-i;omega,?_⟩
   ((conv=>whnf);refine qX ?_ ?_;repeat' first|refine lc ?_ ?_|exact la0|exact lr rfl|exact ln0|refine lh1 ?_ ?_|exact lh0|exact bf0|exact bd0|refine bc0 ?_|exact bm0 rfl|exact bb0 rfl|exact bg0 rfl|exact li0 rfl|refine lg0 ?_|refine lt0 ?_|fail)
   ·exact ai0 (by rw[wI (by simp only;omega)];simp only;omega)
 ·have hi:i=A.length:=by simp only[decide_eq_false_iff_not]at h1;omega
  subst hi;rw[qL,qC hll,vA,vB]at hi6;rw[qL,vA]at hlt;have ho:=yc hi2 out.length (qG _);rw[qL,hi3]at ho;have hc:c=0:=by
   rcases(by omega:c=0\/c=1)with h|h
   ·exact h
   ·subst h;omega
  subst hc;have hp:=zav hi2;rw[hi3,show val out=x-y by omega]at hp;conv=>whnf
  exact⟨uz hp.symm,lh0⟩
theorem y264 (x y:Nat) (hx:bl x<=100000) (hy:bl y<=100000):Fn 321 [] [.sl .u32 (toL x),.sl .u32 (toL y)] (dnV (if 8192<bl x\/8192<bl y then([],9)else if x<y then([],2)else dnN (x-y))) []:=by
 have lx:(toL x).length <=100000:=(qs x 100000).2 (by omega);have ly:(toL y).length <=100000:=(qs y 100000).2 (by omega);have h215:=zzs [toL x,toL y] (by simp);have hlg:([toL x,toL y].any lgB)=decide (8192<bl x\/8192<bl y):=by
  simp only[wL,wP,Bool.or_false,lgB,zgo,Bool.decide_or]
 rw[hlg]at h215;have h177:=y177 (toL x) (toL y) (by omega) (by omega);rw[zd1]at h177;refine fnT hT4 hmx Tryz.func321 rfl rfl (ex:= []) ?_;conv=>whnf
 refine cbI [] _ h215 (fun h1=>?_) (fun h1=>?_)
 ·rw[if_pos (of_decide_eq_true h1)];conv=>whnf
  exact⟨lt0 (lc (li0 rfl) (lc (lr rfl) ln0)),lh0⟩
 rw[if_neg (of_decide_eq_false h1)];conv=>whnf
 refine gZn h177 ?_;conv=>whnf
 refine brI (fun h2=>?_) (fun h2=>?_)
 ·have h2:zae x y<0:=of_decide_eq_true h2;have h3:x<y:=by unfold zae at h2;split at h2;assumption;split at h2<;>omega
  rw[if_pos h3];conv=>whnf
  exact⟨lt0 (lc (li0 rfl) (lc (lr rfl) ln0)),lh0⟩
 ·have h2: ¬zae x y<0:=of_decide_eq_false h2;have h3: ¬x<y:=fun h=>h2 (by unfold zae;rw[if_pos h];decide)
  rw[if_neg h3];have h280:=y280 x y lx ly (by omega);have h221:=qdh (zeg (toL x).length (x-y)) (by rw[xo];omega);rw[zhc (za2 _ _)]at h221;have hv:val (zeg (toL x).length (x-y))=x-y:=by
   refine xi _ _ ?_;have h1:=(jl x _).1 (qG (toL x).length);rw[wH]at h1;have e:(2:Nat)^32=4294967296:=rfl;rw[e]at h1;omega
  rw[hv]at h221;unfold dnN;conv=>whnf
  refine gZn h280 ?_;conv=>whnf
  refine gZn h221 ?_;conv=>whnf
  exact⟨lr rfl,lh0⟩
end Go.Proofs.YtbolipecnhlnnaaGreatDoor
