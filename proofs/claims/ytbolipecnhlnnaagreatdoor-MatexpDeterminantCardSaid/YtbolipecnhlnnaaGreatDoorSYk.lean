/- Limbs and natural numbers: plain functions. -/
import Derived.Test.YtbolipecnhlnnaaGreatDoorSYa
set_option linter.unusedVariables false
set_option linter.unusedSimpArgs false
open And renaming intro->qU
open BitVec renaming ofInt->qC,ofInt_natCast->w9,toNat_ofNat->wn
open Int renaming toNat_natCast->q0,eq_ofNat_of_zero_le->q8,toNat_zero->qS
open List renaming length_cons->q2,mem_cons_of_mem->q4,mem_cons_self->q6,take_of_length_le->q9,length_set->qB,eq_of_mem_replicate->qH,take_length->qI,getElem?_set_ne->qL,mem_of_getElem?->qM,getElem?_replicate->qQ,replicate->qR,mem_cons->qZ,length_take->w0,getElem?_cons_zero->w2,getElem?_cons_succ->w3,cons_append->wB,any_cons->wF,any_nil->wH
open Nat renaming mul_assoc->q1,mul_add->q3,div_lt_iff_lt_mul->q5,pow_add->q7,two_pow_pos->qA,le_refl->qD,pow_succ->qF,mul_comm->qG,div_div_eq_div_mul->qJ,pow_le_pow_right->qK,not_le->qN,xor_lt_two_pow->qO,lt_of_le_of_lt->qP,mod_lt->qT,and_le_right->qV,mod_add_div->qW,add_zero->qX,lt_of_lt_of_le->qY,mod_eq_of_lt->w1,mul_zero->w4,testBit_xor->w5,succ_le_succ_iff->w6,mul_le_mul_right->w7,add_mul_div_left->w8,mul_le_mul_left->wi,or_lt_two_pow->ws,lt_log2_self->wA,pow_mul->wC,min_eq_left->wD,testBit_and->wE,mul_succ->wG,add_mul->wJ,not_lt->wK
open Option renaming getD_some->qE
open Go.IntKind renaming u32->wL,u64->wM,signed->wN,wrap->wO,bits->wP
namespace Go.Proofs.YtbolipecnhlnnaaGreatDoor
open Go Go.Sx
def val:List Int->Nat
 | []=>0
 |x::l=>x.toNat+4294967296*val l
def zvp:Nat->Nat->List Int
 |0,_=> []
 |f+1,n=>if n=0 then []else((n % 4294967296:Nat):Int)::zvp f (n/4294967296)
def toL (n:Nat):List Int:=zvp (n.log2/32+1) n
def bl (n:Nat):Nat:=if n=0 then 0 else n.log2+1
theorem zfj (n:Nat):n<2^bl n:=by
 unfold bl;split
 .rename_i h;subst h;decide
 .exact wA
theorem yr {n k:Nat}:bl n<=k<->n<2^k:=by
 unfold bl;split
 .rename_i h;subst h;exact⟨fun _=>qA k,fun _=>Nat.zero_le _⟩
 .rename_i h;rw[Nat.succ_le_iff];exact Nat.log2_lt h
theorem zex {n k:Nat} (h:n≠0):k+1<=bl n<->2^k<=n:=by
 unfold bl;rw[Z5 h,w6];exact Nat.le_log2 h
theorem qhl {n k:Nat} (h1:2^k<=n) (h2:n<2^(k+1)):bl n=k+1:=by
 have h0:n≠0:=by have:=qA k;omega
 have a:=(zex h0).2 h1;have b:=yr.2 h2;omega
theorem uc:bl 0=0:=rfl
theorem zbg {n:Nat}:bl n=0<->n=0:=by
 constructor
 .intro h;have:=yr.1 (Nat.le_of_eq h);simpa using this
 .intro h;subst h;rfl
theorem ql (n k:Nat) (h:n≠0):bl (n*2^k)=bl n+k:=by
 have h1:bl n≠0:=fun e=>h (zbg.1 e)
 obtain⟨j,hj⟩: ∃j,bl n=j+1:=⟨bl n-1,by omega⟩;have h2:2^j<=n:=(zex h).1 (by omega);have h3:n<2^(j+1):=yr.1 (by omega);rw[hj,show j+1+k=(j+k)+1 by omega];refine qhl ?_ ?_
 .rw[q7];exact w7 _ h2
 .rw[show j+k+1=(j+1)+k by omega,q7 2 (j+1) k];exact Nat.mul_lt_mul_of_pos_right h3 (qA k)
theorem zey (n k:Nat) (h:2^k<=n):bl (n/2^k)=bl n-k:=by
 have h0:n≠0:=by have:=qA k;omega
 have h1:k+1<=bl n:=(zex h0).2 h;obtain⟨j,hj⟩: ∃j,bl n=j+k+1:=⟨bl n-k-1,by omega⟩;have h2:2^(j+k)<=n:=(zex h0).1 (by omega);have h3:n<2^(j+k+1):=yr.1 (by omega);rw[hj,show j+k+1-k=j+1 by omega];refine qhl ?_ ?_
 .rw[Nat.le_div_iff_mul_le (qA k),<-q7];exact h2
 .rw[q5 (qA k),<-q7,show j+1+k=j+k+1 by omega];exact h3
theorem zoo: ∀(f n:Nat),n<2^(32*f)->val (zvp f n)=n
 |0,n,h=>by simp at h;subst h;rfl
 |f+1,n,h=>by
  simp only[zvp];split
  .rename_i h0;subst h0;rfl
  .have hd:n/4294967296<2^(32*f):=by
    rw[q5 (by decide)];rw[show 32*(f+1)=32*f+32 by omega,q7]at h;exact h
   simp only[val,zoo f _ hd,q0];omega
theorem zgg: ∀(f g n:Nat),n<2^(32*f)->f<=g->zvp g n=zvp f n
 |0,g,n,h,_=>by
  simp at h;subst h;cases g<;>simp[zvp]
 |f+1,0,n,h,hg=>by omega
 |f+1,g+1,n,h,hg=>by
  simp only[zvp];split
  .rfl
  .have hd:n/4294967296<2^(32*f):=by
    rw[q5 (by decide)];rw[show 32*(f+1)=32*f+32 by omega,q7]at h;exact h
   rw[zgg f g _ hd (by omega)]
theorem znr (n:Nat):n<2^(32*(n.log2/32+1)):=by
 refine qY (wA (n:=n)) (qK (by decide) (by omega))
theorem zw (n:Nat):val (toL n)=n:=zoo _ _ (znr n)
theorem kc:toL 0= []:=rfl
theorem zv1 {n f:Nat} (h:n<2^(32*f)):toL n=zvp f n:=by
 unfold toL;by_cases hf:f<=n.log2/32+1
 .exact zgg f _ n h hf
 .exact(zgg _ f n (znr n) (by omega)).symm
theorem za0 {n:Nat} (h:n≠0):toL n=((n % 4294967296:Nat):Int)::toL (n/4294967296):=by
 have h1:=znr n;have hd:n/4294967296<2^(32*(n.log2/32)):=by
  rw[q5 (by decide)];rw[show 32*(n.log2/32+1)=32*(n.log2/32)+32 by omega,q7]at h1;exact h1
 rw[zv1 hd];unfold toL;simp only[zvp,Z5 h]
theorem zmy {P:Nat->Prop} (h0:P 0) (hs: ∀n,n≠0->P (n/4294967296)->P n) (n:Nat):P n:=by
 induction n using Nat.strongRecOn with
 | _ n ih=>
   by_cases h:n=0
   .subst h;exact h0
   .exact hs n h (ih _ (Nat.div_lt_self (by omega) (by decide)))
theorem qc (n:Nat):LB (toL n):=by
 refine zmy (P:=fun n=>LB (toL n)) (fun _ h=>nomatch h) (fun n h ih=>?_) n;rw[za0 h];intro x hx;rcases qZ.1 hx with rfl|hx
 .have:n % 4294967296<4294967296:=qT _ (by decide);omega
 .exact ih x hx
theorem jt (n k:Nat):(toL n).length <=k<->n<2^(32*k):=by
 have: ∀n,∀k,(toL n).length <=k<->n<2^(32*k):=by
  refine zmy (fun k=>?_) fun n h ih k=>?_
  .simp[kc,qA]
  .rw[za0 h,q2]
   cases k with
   |zero=>simp;omega
   |succ k=>
    rw[w6,ih k,q5 (by decide),show 32*(k+1)=32*k+32 by omega,q7]
 exact this n k
theorem zyj {l:List Int} (h:LB l):val l<2^(32*l.length):=by
 induction l with
 |nil=>decide
 |cons x l ih=>
  have ih:=ih fun y hy=>h y (q4 _ hy)
  have hx:=h x q6;simp only[val,q2];rw[show 32*(l.length+1)=32*l.length+32 by omega,q7];generalize 2^(32*l.length)=m at ih;omega
theorem zjh (x:Int) (l:List Int): ∀n,trN (x::l) (n+1)=if trN l n=0 then(if x=0 then 0 else 1)else trN l n+1
 |0=>by simp[trN]
 |n+1=>by
  have ih:=zjh x l n;rw[show trN (x::l) (n+1+1)=if(x::l)[n+1]?.getD 0=0 then trN (x::l) (n+1)else n+1+1 from rfl];rw[show(x::l)[n+1]? =l[n]? by simp,show trN l (n+1)=if l[n]?.getD 0=0 then trN l n else n+1 from rfl];split
  .exact ih
  .simp
theorem zvy (x:Int) (l:List Int):trL (x::l)=if trL l= []then(if x=0 then []else [x])else x::trL l:=by
 have hl:trL l= []<->trN l l.length=0:=by
  have:=zro l l.length;unfold trL;constructor
  .intro h;have:=congrArg List.length h;rw[w0,List.length_nil]at this;omega
  .intro h;rw[h];rfl
 by_cases h:trN l l.length=0
 .rw[Z4 (hl.2 h)];unfold trL;rw[q2,zjh,Z4 h];split<;>rfl
 .rw[Z5 fun e=>h (hl.1 e)];unfold trL;rw[q2,zjh,Z5 h];rfl
theorem zai: ∀ {l:List Int},LB l->trL l=toL (val l)
 | [],_=>rfl
 |x::l,h=>by
  have ih:=zai (l:=l) fun y hy=>h y (q4 _ hy)
  have hx:=h x q6;rw[zvy,ih];simp only[val];by_cases hv:val l=0
  .rw[hv,kc,Z4 rfl];by_cases h0:x=0
   .subst h0;rfl
   .rw[Z5 h0,za0 (by omega),show(x.toNat+4294967296*0)/4294967296=0 by omega,kc]
    congr 1;omega
  .rw[Z5 (fun e=>hv (by have:=congrArg val e;rw[zw]at this;exact this)),za0 (n:=x.toNat+4294967296*val l) (by omega)];rw[show(x.toNat+4294967296*val l)/4294967296=val l by omega,show(((x.toNat+4294967296*val l) % 4294967296:Nat):Int)=x by omega]
theorem qj (n:Nat):trL (toL n)=toL n:=by rw[zai (qc n),zw]
theorem zu6 {n:Nat} (h:n≠0):bl n=bl (n/2)+1:=by
 by_cases h2:2<=n
 .have:=zey n 1 (by simpa using h2);have h1:2<=bl n:=(zex h).2 (by simpa using h2);simp only[Nat.pow_one]at this;omega
 .obtain rfl:n=1:=by omega
  rfl
theorem zd8 {x:Nat} (h:x<2^64):Lib.bitLen x=bl x:=by
 have: ∀(f x:Nat),x<2^f->Lib.bitLenAux f x=bl x:=by
  intro f
  induction f with
  |zero=>intro x hx;simp at hx;subst hx;rfl
  |succ f ih=>
   intro x hx;simp only[Lib.bitLenAux];split
   .rename_i h0;subst h0;rfl
   .rename_i h0;rw[ih (x/2) (by rw[qF]at hx;omega),zu6 h0];omega
 exact this 64 x h
theorem zf5 (n:Nat):(match(toL n).getLast? with|none=>(0:Int)|some x=>32*(((toL n).length :Int)-1)+((Lib.bitLen x.toNat:Nat):Int):Int)=((bl n:Nat):Int):=by
 refine zmy (P:=fun n=>(match(toL n).getLast? with|none=>(0:Int)|some x=>32*(((toL n).length :Int)-1)+((Lib.bitLen x.toNat:Nat):Int):Int)=((bl n:Nat):Int)) rfl (fun n h ih=>?_) n;rw[za0 h];by_cases h1:n/4294967296=0
 .have h2:n<4294967296:=by omega
  rw[h1,kc];simp only[List.getLast?_singleton,List.length_singleton];rw[q0,w1 h2,zd8 (by omega)];simp
 .have hne:toL (n/4294967296)≠ []:=fun e=>h1 (by have:=congrArg val e;rw[zw]at this;exact this)
  rw[List.getLast?_cons_of_ne_nil hne];have hb:bl (n/4294967296)=bl n-32:=zey n 32 (by omega);have hb2:33<=bl n:=(zex h).2 (by omega)
  cases hg:(toL (n/4294967296)).getLast? with
  |none=>exact absurd (List.getLast?_eq_none_iff.1 hg) hne
  |some x=>
   rw[hg]at ih;simp only at ih;have hl:0<(toL (n/4294967296)).length :=List.length_pos_iff.2 hne;simp only[q2];omega
theorem zi7 {l:List Int} (h:LB l):btL l=(bl (val l):Nat):=by
 unfold btL;rw[zai h];exact zf5 _
theorem qr (x:Int) (l:List Int):val (x::l)=x.toNat+4294967296*val l:=rfl
theorem zky (k:Nat) (l:List Int):val (qR k 0++l)=2^(32*k)*val l:=by
 induction k with
 |zero=>simp
 |succ k ih=>
  rw[List.replicate_succ,wB,show 32*(k+1)=32*k+32 by omega,q7];simp only[val,ih,qS,Nat.zero_add];have e:(2:Nat)^32=4294967296:=rfl;rw[e,qG (2^(32*k)) 4294967296,q1]
theorem zic (r:Nat) (hr:r<=32): ∀(l:List Int) (c:Nat),LB l->c<2^r->val (xr r l c)=val l*2^r+c/\LB (xr r l c)
 | [],c,_,hc=>by
   have h2:2^r<=2^32:=qK (by decide) hr;refine⟨by simp[xr,val],fun x hx=>?_⟩;simp only[xr,List.mem_singleton]at hx;omega
 |x::l,c,h,hc=>by
  have h2:2^r<=2^32:=qK (by decide) hr;have hx:=h x q6;obtain⟨y,rfl⟩:=q8 hx.1;have hy:y<4294967296:=by omega
  have e:((y:Int)*2^r+(c:Int))=((y*2^r+c:Nat):Int):=by simp
  have hq:(y*2^r+c)/4294967296<2^r:=by
   rw[q5 (by decide)];have:(y+1)*2^r<=4294967296*2^r:=w7 _ (by omega);rw[Nat.succ_mul]at this;rw[qG (2^r)];omega
  simp only[xr];rw[e,show(((y*2^r+c:Nat):Int)/4294967296)=(((y*2^r+c)/4294967296:Nat):Int)from rfl,show(((y*2^r+c:Nat):Int) % 4294967296)=(((y*2^r+c) % 4294967296:Nat):Int)from rfl];obtain⟨i1,i2⟩:=zic r hr l ((y*2^r+c)/4294967296) (fun z hz=>h z (q4 _ hz)) hq;constructor
  .simp only[val,i1,q0];have h1:4294967296*(val l*2^r)=(4294967296*val l)*2^r:=by rw[q1]
   have h3:(y+4294967296*val l)*2^r=y*2^r+(4294967296*val l)*2^r:=wJ _ _ _;have h4:=qW (y*2^r+c) 4294967296;omega
  .intro z hz;rcases qZ.1 hz with rfl|hz
   .have:=qT (y*2^r+c) (show 0<4294967296 by decide);omega
   .exact i2 z hz
theorem zdc (n x:Nat):val (zjn (toL x) n)=x*2^n/\LB (zjn (toL x) n):=by
 unfold zjn;rw[qj];obtain⟨h1,h2⟩:=zic (n % 32) (by omega) (toL x) 0 (qc x) (qA _);constructor
 .rw[zky];have h1:val (xr (n % 32) (toL x) 0)=x*2^(n % 32):=by
   have:=h1;rw[zw]at this;simpa using this
  rw[h1,<-q1,qG _ x,q1,<-q7,show 32*(n/32)+n % 32=n by omega]
 .intro z hz;rcases List.mem_append.1 hz with hz|hz
  .have:=qH hz;omega
  .exact h2 z hz
theorem zhp {l:List Int} (h:LB l):dnL l=if 8192<bl (val l)then([],9)else(toL (val l),0):=by
 unfold dnL;rw[zai h];have h1:(256<(toL (val l)).length)<->8192<bl (val l):=by
  have a:=jt (val l) 256;have b:=yr (n:=val l) (k:=32*256);constructor
  .intro hh;exact qN.1 fun hc=>qN.2 hh (a.2 (b.1 hc))
  .intro hh;exact qN.1 fun hc=>qN.2 hh (b.2 (a.1 hc))
 by_cases hh:256<(toL (val l)).length
 .rw[Z4 hh,Z4 (h1.1 hh)]
 .rw[Z5 hh,Z5 fun e=>hh (h1.2 e)]
theorem zgz (x:Nat):(256<(toL x).length)<->8192<bl x:=by
 have a:=jt x 256;have b:=yr (n:=x) (k:=32*256);constructor
 .intro hh;exact qN.1 fun hc=>qN.2 hh (a.2 (b.1 hc))
 .intro hh;exact qN.1 fun hc=>qN.2 hh (b.2 (a.1 hc))
def dnN (x:Nat):List Int×Int:=if 8192<bl x then([],9)else(toL x,0)
theorem zow (x:Nat) (n:Int):qdh (toL x) n=if 8192<bl x then([],9)else if n<0\/65536<n then([],2)else dnN (x*2^n.toNat):=by
 unfold qdh dnN;obtain⟨h1,h2⟩:=zdc n.toNat x;rw[zhp h2,h1];simp only[zgz]
theorem zv8 (p q y z w:Nat) (hp:0<p) (hpq:p*q=4294967296) (hy:y<4294967296):
 (y+4294967296*(z+4294967296*w))/p=(y+z*4294967296)/p % 4294967296+4294967296*((z+4294967296*w)/p):=by
 have a1:(z+4294967296*w)/p=z/p+q*w:=by
  rw[<-hpq,q1,w8 _ _ hp]
 have a2:(y+4294967296*(z+4294967296*w))/p=(y+z*4294967296)/p+q*(4294967296*w):=by
  have e:y+4294967296*(z+4294967296*w)=(y+z*4294967296)+p*(q*(4294967296*w)):=by
   rw[<-q1 p q,hpq];omega
  rw[e,w8 _ _ hp]
 have a3:(y+z*4294967296)/p/4294967296=z/p:=by
  rw[qJ,qG p,<-qJ]
  congr 1;omega
 have a4:=qW ((y+z*4294967296)/p) 4294967296;have a5:q*(4294967296*w)=4294967296*(q*w):=by rw[<-q1,qG q,q1]
 rw[a1,a2,q3];rw[a3]at a4;omega
theorem zql (x:Int) (l:List Int) (r:Nat):zdb (x::l) r=zff (x::l) r 0::zdb l r:=by
 unfold zdb;rw[q2,List.range_succ_eq_map,List.map_cons,List.map_map]
 congr 1
theorem zpm (l:List Int) (h:LB l): ∃z w:Nat,z<4294967296/\l[0]?.getD 0=(z:Int)/\val l=z+4294967296*w:=by
 cases l with
 |nil=>exact⟨0,0,by decide,rfl,rfl⟩
 |cons a m=>
  have ha:=h a (by simp);exact⟨a.toNat,val m,by omega,by simp;omega,rfl⟩
theorem zqm (y z r:Nat) (l:List Int) (h:l[0]?.getD 0=(z:Int)):zff ((y:Int)::l) r 0=(((y+z*4294967296)/2^r % 4294967296:Nat):Int):=by
 unfold zff;simp only[w2,qE,w3,h];simp
theorem zqk (r:Nat) (hr:r<=32) (l:List Int) (h:LB l):val (zdb l r)=val l/2^r/\LB (zdb l r):=by
 have ep:2^r*2^(32-r)=4294967296:=by rw[<-q7,show r+(32-r)=32 by omega]
 have hp:=qA r;have hsh:=fun y z l h=>zqm y z r l h
 generalize 2^(32-r)=q at ep;generalize hP:2^r=p at ep hp hsh
 induction l with
 |nil=>exact⟨by simp[zdb,val],fun _ h=>nomatch h⟩
 |cons x l ih=>
  have hl:LB l:=fun z hz=>h z (q4 _ hz)
  obtain⟨i1,i2⟩:=ih hl;have hx:=h x q6;obtain⟨y,rfl⟩:=q8 hx.1;have hy:y<4294967296:=by omega
  obtain⟨z,w,hz,hl0,hv⟩:=zpm l hl;rw[zql,hsh y z l hl0];refine⟨?_,?_⟩
  .rw[qr,qr,i1,hv,q0,q0];exact(zv8 p q y z w hp ep hy).symm
  .intro v hvm;rcases qZ.1 hvm with rfl|hvm
   .have:=qT ((y+z*4294967296)/p) (show 0<4294967296 by decide);omega
   .exact i2 v hvm
theorem zjf: ∀(k:Nat) (l:List Int),LB l->val (l.drop k)=val l/2^(32*k)
 |0,l,_=>by simp
 |k+1,[],_=>by simp[val]
 |k+1,x::l,h=>by
  have ih:=zjf k l fun z hz=>h z (q4 _ hz)
  have hx:=h x q6;rw[List.drop_succ_cons,ih,show 32*(k+1)=32+32*k by omega,q7,<-qJ];simp only[val]
  congr 1;omega
theorem zgj (n x:Nat):val (zkt (toL x) n)=x/2^n/\LB (zkt (toL x) n):=by
 unfold zkt;rw[qj];split
 .rename_i h;refine⟨?_,fun _ h=>nomatch h⟩;have h1:=(jt x (n/32)).1 h;have h2:x<2^n:=qY h1 (qK (by decide) (by omega));rw[Nat.div_eq_of_lt h2];rfl
 .have hd:LB ((toL x).drop (n/32)):=fun z hz=>qc x z (List.mem_of_mem_drop hz)
  obtain⟨h1,h2⟩:=zqk (n % 32) (by omega) _ hd;refine⟨?_,h2⟩;rw[h1,zjf _ _ (qc x),zw,qJ,<-q7,show 32*(n/32)+n % 32=n by omega]
theorem zot (x:Nat) (n:Int):shrR (toL x) n=if 8192<bl x then([],9)else if n<0\/65536<n then([],2)else dnN (x/2^n.toNat):=by
 unfold shrR dnN;obtain⟨h1,h2⟩:=zgj n.toNat x;rw[zhp h2,h1];simp only[zgz]
theorem zjg: ∀(l m:List Int),val (l++m)=val l+4294967296^l.length*val m
 | [],m=>by simp[val]
 |x::l,m=>by
  rw[wB,qr,qr,zjg l m,q2,qF,q3,<-q1,qG 4294967296 (4294967296^l.length)];omega
theorem ur: ∀(l:List Int) (i:Nat) (y:Int),i<l.length->val (l.set i y)+4294967296^i*(l[i]?.getD 0).toNat =val l+4294967296^i*y.toNat
 | [],i,y,h=>by simp at h
 |x::l,0,y,h=>by
  rw[List.set_cons_zero,qr,qr];simp only[Nat.pow_zero,Nat.one_mul,w2,qE];omega
 |x::l,i+1,y,h=>by
  have ih:=ur l i y (by simpa using h);rw[List.set_cons_succ,qr,qr,w3,qF];generalize (l[i]?.getD 0).toNat =o at ih⊢;generalize y.toNat=y at ih⊢;generalize 4294967296^i=P at ih⊢;have e1:P*4294967296*o=4294967296*(P*o):=by rw[qG P,q1]
  have e2:P*4294967296*y=4294967296*(P*y):=by rw[qG P,q1]
  rw[e1,e2];omega
theorem zln (x:Nat) (hx:x<4294967296): ∀(b:List Int) (p:Nat) (out:List Int) (c:Nat),LB b->LB out->c<4294967296->p+b.length<=out.length->
 ∃(o:List Int) (d:Nat),zkv x b p out c=(o,(d:Int))/\LB o/\o.length=out.length/\d<4294967296/\val o+4294967296^(p+b.length)*d=val out+4294967296^p*(x*val b+c)/\ ∀j,p+b.length<=j->o[j]? =out[j]?
 | [],p,out,c,_,ho,hc,_=>⟨out,c,rfl,ho,rfl,hc,by simp[val],fun _ _=>rfl⟩
 |y::b,p,out,c,hb,ho,hc,hl=>by
  have hy:=hb y q6;obtain⟨y,rfl⟩:=q8 hy.1;have hy:y<4294967296:=by omega
  rw[q2]at hl;obtain⟨q,hq⟩: ∃q:Nat,out[p]?.getD 0=(q:Int):=⟨_,(Int.toNat_of_nonneg (ho.at p).1).symm⟩;have hq2:q<4294967296:=by have:=(ho.at p).2;omega
  have e:((x:Int)*(y:Int)+out[p]?.getD 0+(c:Int))=((x*y+q+c:Nat):Int):=by rw[hq];simp
  have hxy:x*y<=4294967295*4294967295:=Nat.mul_le_mul (by omega) (by omega);have hd:(x*y+q+c)/4294967296<4294967296:=by omega
  have hm:=qT (x*y+q+c) (show 0<4294967296 by decide);obtain⟨o,d,h1,h2,h3,h4,h5,h6⟩:=zln x hx b (p+1) (out.set p (((x*y+q+c) % 4294967296:Nat):Int)) ((x*y+q+c)/4294967296) (fun z hz=>hb z (q4 _ hz)) (ho.set (by omega)) hd (by rw[qB];omega);refine⟨o,d,?_,h2,by rw[h3,qB],h4,?_,fun j hj=>?_⟩
  .simp only[zkv];rw[e];exact h1
  .have hs:=ur out p (((x*y+q+c) % 4294967296:Nat):Int) (by omega);rw[hq,q0,q0]at hs;rw[q2,show p+(b.length+1)=p+1+b.length by omega,h5,qr,q0,qF];have hmd:=qW (x*y+q+c) 4294967296;generalize (x*y+q+c)/4294967296=t at hmd⊢;generalize (x*y+q+c) % 4294967296=r at hs hmd⊢;generalize 4294967296^p=P at hs⊢;have e1:P*4294967296*(x*val b+t)=P*(4294967296*(x*val b))+P*(4294967296*t):=by rw[q1,q3,q3]
   have e2:P*(x*(y+4294967296*val b)+c)=P*(x*y)+P*(4294967296*(x*val b))+P*c:=by
    rw[q3 x,q3 P,q3 P]
    congr 3
    rw[<-q1,qG x,q1]
   have e3:P*r+P*(4294967296*t)=P*(x*y)+P*q+P*c:=by rw[<-q3,<-q3,<-q3,hmd]
   rw[e1,e2];omega
  .rw[q2]at hj;rw[h6 j (by omega),qL (by omega)]
theorem zgw (b:List Int) (hb:LB b): ∀(a:List Int) (i:Nat) (out:List Int),LB a->LB out->i+a.length+b.length<=out.length->(∀j,i+b.length<=j->out[j]?.getD 0=0)->
 val (zno b a i out)=val out+4294967296^i*(val a*val b)/\LB (zno b a i out)
 | [],i,out,_,ho,_,_=>⟨by simp[zno,val],ho⟩
 |x::a,i,out,ha,ho,hl,hz=>by
  have hx:=ha x q6;obtain⟨x,rfl⟩:=q8 hx.1;have hx:x<4294967296:=by omega
  rw[q2]at hl;obtain⟨o,d,h1,h2,h3,h4,h5,h6⟩:=zln x hx b i out 0 hb ho (by omega) (by omega);have h1:zkv (x:Int) b i out 0=(o,(d:Int)):=h1;simp only[zno];rw[h1];have hzo:o[i+b.length]?.getD 0=0:=by rw[h6 _ (qD _)];exact hz _ (qD _)
  have hs:=ur o (i+b.length) (d:Int) (by omega);rw[hzo,q0,qS,w4,qX,h5]at hs;obtain⟨i1,i2⟩:=zgw b hb a (i+1) (o.set (i+b.length) (d:Int)) (fun z hz=>ha z (q4 _ hz)) (h2.set (by omega)) (by rw[qB];omega) (fun j hj=>by
   rw[qL (by omega),h6 j (by omega)];exact hz j (by omega))
  refine⟨?_,i2⟩;rw[i1,hs,qr,q0,qF];generalize 4294967296^i=P;have e1:P*4294967296*(val a*val b)=P*(4294967296*(val a*val b)):=q1 _ _ _;have e2:P*((x+4294967296*val a)*val b)=P*(x*val b)+P*(4294967296*(val a*val b)):=by
   rw[wJ,q3,q1]
  rw[e1,e2,qX];omega
theorem zeh (n:Nat):val (qR n 0)=0:=by
 have:=zky n [];simpa[val]using this
theorem ztb (x y:Nat):val (zvr (toL x) (toL y))=x*y/\LB (zvr (toL x) (toL y)):=by
 unfold zvr;obtain⟨h1,h2⟩:=zgw (toL y) (qc y) (toL x) 0 (qR ((toL x).length +(toL y).length) 0) (qc x) (fun z hz=>by have:=qH hz;omega) (by simp) (fun j _=>by
  rw[qQ];split<;>rfl)
 refine⟨?_,h2⟩;rw[h1,zeh,zw,zw];simp
theorem zw3 (x y:Nat):qfj (toL x) (toL y)=if 8192<bl x\/8192<bl y then([],9)else dnN (x*y):=by
 unfold qfj dnN;rw[qj,qj];obtain⟨h1,h2⟩:=ztb x y;rw[zhp h2,h1];simp only[zgz]
def zap (x y:Nat):Int:=if x<y then-1 else if y<x then 1 else 0
theorem wy (l:List Int) {n:Nat} (h:n<l.length):val (l.take (n+1))=val (l.take n)+4294967296^n*(l[n]?.getD 0).toNat :=by
 rw[List.take_add_one,List.getElem?_eq_getElem h];simp only[Option.toList_some,qE];rw[zjg,w0,wD (by omega),qr];simp[val]
theorem yn {l:List Int} (h:LB l) (n:Nat) (hn:n<=l.length):val (l.take n)<4294967296^n:=by
 have:=zyj (l:=l.take n) fun x hx=>h x (List.mem_of_mem_take hx)
 rw[w0,wD hn,wC]at this;exact this
theorem zi5 {a b:List Int} (ha:LB a) (hb:LB b): ∀n,n<=a.length->n<=b.length->zht a b n=zap (val (a.take n)) (val (b.take n))
 |0,_,_=>by simp[zht,zap,val]
 |n+1,h1,h2=>by
  have ih:=zi5 ha hb n (by omega) (by omega);have ea:=wy a (n:=n) (by omega);have eb:=wy b (n:=n) (by omega);have la:=yn ha n (by omega);have lb:=yn hb n (by omega);have pa:=ha.at n;have pb:=hb.at n;simp only[zht];rw[ea,eb,ih];generalize a[n]?.getD 0=u at*;generalize b[n]?.getD 0=v at*;generalize val (a.take n)=A at*;generalize val (b.take n)=B at*;generalize 4294967296^n=P at*;obtain⟨u,rfl⟩:=q8 pa.1;obtain⟨v,rfl⟩:=q8 pb.1;rw[q0,q0];unfold zap;by_cases c1:u<v
  .have:P*(u+1)<=P*v:=wi _ c1;rw[wG]at this;rw[Z4 (by omega),Z4 (by omega)]
  .by_cases c2:v<u
   .have:P*(v+1)<=P*u:=wi _ c2;rw[wG]at this;rw[Z5 (by omega),Z4 (by omega),Z5 (by omega),Z4 (by omega)]
   .obtain rfl:u=v:=by omega
    rw[Z5 (by omega),Z5 (by omega)];by_cases c3:A<B
    .rw[Z4 c3,Z4 (by omega)]
    .rw[Z5 c3,Z5 (show ¬A+P*u<B+P*u by omega)];by_cases c4:B<A
     .rw[Z4 c4,Z4 (by omega)]
     .rw[Z5 c4,Z5 (by omega)]
theorem zpi {x y:Nat} (h:(toL x).length <(toL y).length):x<y:=by
 have h1:=(jt x (toL x).length).1 (qD _);refine qY h1 (wK.1 fun hc=>?_);have:=(jt y (toL x).length).2 hc;omega
theorem zd7 (x y:Nat):qcw (toL x) (toL y)=zap x y:=by
 unfold qcw;rw[qj,qj];by_cases h1:(toL x).length <(toL y).length
 .rw[Z4 h1];unfold zap;rw[Z4 (zpi h1)]
 .rw[Z5 h1];by_cases h2:(toL y).length <(toL x).length
  .have:=zpi h2;rw[Z4 h2];unfold zap;rw[Z5 (by omega),Z4 this]
  .rw[Z5 h2,zi5 (qc x) (qc y) _ (qD _) (by omega),qI,show(toL x).length =(toL y).length by omega,qI,zw,zw]
set_option maxRecDepth 100000
set_option maxHeartbeats 8000000
def zem:Nat->Nat->List Int
 |0,_=> []
 |k+1,v=>((v % 4294967296:Nat):Int)::zem k (v/4294967296)
theorem zaa: ∀k v,(zem k v).length =k
 |0,_=>rfl
 |k+1,v=>by simp[zem,zaa k]
theorem zbb: ∀k v,LB (zem k v)
 |0,_=>fun _ h=>nomatch h
 |k+1,v=>fun x hx=>by
  rcases qZ.1 hx with rfl|hx
  .have:=qT v (show 0<4294967296 by decide);omega
  .exact zbb k _ x hx
theorem za4: ∀ {l:List Int},LB l->zem l.length (val l)=l
 | [],_=>rfl
 |x::l,h=>by
  have hx:=h x q6;have ih:=za4 (l:=l) fun y hy=>h y (q4 _ hy)
  rw[qr,q2];show(((x.toNat+4294967296*val l) % 4294967296:Nat):Int)::zem l.length ((x.toNat+4294967296*val l)/4294967296)=x::l;rw[show(x.toNat+4294967296*val l)/4294967296=val l by omega,ih,show(((x.toNat+4294967296*val l) % 4294967296:Nat):Int)=x by omega]
theorem xv: ∀k v,v<4294967296^k->val (zem k v)=v
 |0,v,h=>by simp at h;subst h;rfl
 |k+1,v,h=>by
  have hd:v/4294967296<4294967296^k:=by
   rw[q5 (by decide),<-qF];exact h
  show val (((v % 4294967296:Nat):Int)::zem k (v/4294967296))=v;rw[qr,xv k _ hd,q0];omega
theorem zrh {n:Int} (h:0<=n/\n<4294967296):wL.wrap n=n:=by
 simp[wO,wN,wP];omega
theorem y261 (x y c:Nat) (hx:x<4294967296) (hy:y<4294967296) (hc:c<4294967296):Fn 398 [] [.int .u32 x,.int .u32 y,.int .u32 c] (.tup [.int .u32 ((x+y+c) % 4294967296:Nat),.int .u32 ((x+y+c)/4294967296:Nat)]) []:=by
 refine fnT hT4 hmx Tryz.func398 rfl rfl (ex:= []) ?_;conv=>whnf
 refine⟨by decide,?_⟩;conv=>whnf
 have e1:wM.wrap (wM.wrap (wM.wrap (x:Int)+wM.wrap (y:Int))+wM.wrap (c:Int))=((x+y+c:Nat):Int):=by
  rw[wU (x:=(x:Int)) (by omega),wU (x:=(y:Int)) (by omega),wU (x:=(c:Int)) (by omega),wU (x:=(x:Int)+(y:Int)) (by omega),wU (by omega)];omega
 refine⟨lt0 (lc (ai0 ?_) (lc (ai0 ?_) ln0)),lh0⟩
 .refine(congrArg wL.wrap e1).trans ?_;simp[wO,wN,wP]
 .refine(congrArg (fun z:Int=>wL.wrap (z.fdiv 4294967296)) e1).trans ?_;show wL.wrap (((x+y+c:Nat):Int).fdiv 4294967296)=_;rw[Int.fdiv_eq_ediv_of_nonneg _ (by decide),show((x+y+c:Nat):Int)/4294967296=(((x+y+c)/4294967296:Nat):Int)from rfl];exact zrh (by omega)
noncomputable def zu3:Code:=Tryz.f373.body.getD .skip
theorem y272 (a b:List Int) (ha:LB a) (hb:LB b) (hal:a.length<=100000) (hbl:b.length<=100000):Fn 373 [] [.sl .u32 a,.sl .u32 b] (.sl .u32 (zem (max a.length b.length+1) (val a+val b))) []:=by
 refine wc (code:=zu3) hT4 hmx Tryz.func373 rfl rfl (ex:= []) ?_;conv=>whnf
 refine ju hT4 hmx 2 (fun x: {p:List Int×List Int//LB p.1/\LB p.2/\p.2.length<=p.1.length/\p.1.length=max a.length b.length/\val p.1+val p.2=val a+val b}=>⟨[.sl .u32 x.1.1,.sl .u32 x.1.2]++uq 51,[(20,.free)]⟩) (fun _=>by kernel_rfl) ?_ (fun x=>?_)
 .conv=>whnf
  refine brI (fun h1=>?_) (fun h1=>?_)
  .have h1:a.length<b.length:=by simp only[Z2]at h1;omega
   conv=>whnf
   refine⟨⟨(b,a),hb,ha,by simp only;omega,by simp only;omega,Nat.add_comm _ _⟩,?_⟩
   ((conv=>whnf);refine qU ?_ ?_;repeat' first|refine lc ?_ ?_|exact la0|exact lr rfl|exact ln0|refine lh1 ?_ ?_|exact lh0|exact bf0|exact bd0|refine bc0 ?_|exact bm0 rfl|exact bb0 rfl|exact bg0 rfl|exact li0 rfl|refine lg0 ?_|refine lt0 ?_|fail)
  .have h1: ¬a.length<b.length:=by simp only[Z3]at h1;omega
   conv=>whnf
   refine⟨⟨(a,b),ha,hb,by simp only;omega,by simp only;omega,rfl⟩,?_⟩
   ((conv=>whnf);refine qU ?_ ?_;repeat' first|refine lc ?_ ?_|exact la0|exact lr rfl|exact ln0|refine lh1 ?_ ?_|exact lh0|exact bf0|exact bd0|refine bc0 ?_|exact bm0 rfl|exact bb0 rfl|exact bg0 rfl|exact li0 rfl|refine lg0 ?_|refine lt0 ?_|fail)
 .obtain⟨⟨A,B⟩,hA,hB,hle,hmax,hval⟩:=x;simp only at hA hB hle hmax hval;show SemOK Tryz.prog T4 Tryz.f373.results.toList [] _ [] (zd6 2 zu3) ⟨[.sl .u32 A,.sl .u32 B]++uq 51,[(20,.free)]⟩;rw[<-hmax,<-hval];have hAl:A.length<=100000:=by omega
  clear hmax hval ha hb hal hbl;refine jm hT4 hmx ?_;conv=>whnf
  have hw:IntKind.i64.wrap ((A.length:Int)+1)=((A.length+1:Nat):Int):=by rw[wI (by omega)];omega
  rw[hw];refine⟨⟨by omega,by omega,by omega⟩,?_⟩;conv=>whnf
  refine⟨Nat×List Int×Nat,fun x=>x.1<=A.length/\LB x.2.1/\x.2.1.length=A.length+1/\x.2.2<4294967296/\(∀j,x.1<=j->x.2.1[j]?.getD 0=0)/\val x.2.1+4294967296^x.1*x.2.2=val (A.take x.1)+val (B.take x.1),fun x=> [(23,.int .i64 x.1),(6,.int .u32 x.2.2)],fun x=> [(20,.buf 108 .u32 x.2.1)],fun x=>A.length-x.1,(0,qR (A.length+1) 0,0),⟨by simp,fun x hx=>by rw[qH hx];omega,by simp,by simp,fun j _=>by rw[qQ];split<;>rfl,by rw[zeh];simp[val]⟩,?_,fun x hx=>?_⟩
  ·((conv=>whnf);refine qU ?_ ?_;repeat' first|refine lc ?_ ?_|exact la0|exact lr rfl|exact ln0|refine lh1 ?_ ?_|exact lh0|exact bf0|exact bd0|refine bc0 ?_|exact bm0 rfl|exact bb0 rfl|exact bg0 rfl|exact li0 rfl|refine lg0 ?_|refine lt0 ?_|fail)
  (refine⟨by kernel_rfl,?_⟩;(conv=>whnf))
  obtain⟨i,out,c⟩:=x;obtain⟨hi1,hi2,hi3,hi4,hi5,hi6⟩:=hx;simp only at hi1 hi2 hi3 hi4 hi5 hi6;refine brI (fun h1=>?_) (fun h1=>?_)
  .have hi:i<A.length:=by simp only[Z2]at h1;omega
   conv=>whnf
   refine⟨⟨by omega,by simp only;omega⟩,fun(x:Int) hx=>?_⟩;have hx:A[i]? =some x:=by simpa using hx
   have hxb:=hA x (qM hx);have ta:=wy A hi;rw[hx,qE]at ta;have key: ∀y:Nat,y<4294967296->val (B.take (i+1))=val (B.take i)+4294967296^i*y->
    LB (out.set i (((x.toNat+y+c) % 4294967296:Nat):Int))/\(∀j,i+1<=j->(out.set i (((x.toNat+y+c) % 4294967296:Nat):Int))[j]?.getD 0=0)/\
    val (out.set i (((x.toNat+y+c) % 4294967296:Nat):Int))+4294967296^(i+1)*((x.toNat+y+c)/4294967296)=val (A.take (i+1))+val (B.take (i+1)):=by
    intro y hy tb;refine⟨hi2.set (by omega),fun j hj=>by rw[qL (by omega)];exact hi5 j (by omega),?_⟩;have hs:=ur out i (((x.toNat+y+c) % 4294967296:Nat):Int) (by omega);rw[hi5 i (qD _),qS,w4,qX,q0]at hs;rw[hs,ta,tb,qF];have hmd:=qW (x.toNat+y+c) 4294967296;generalize (x.toNat+y+c)/4294967296=t at hmd⊢;generalize (x.toNat+y+c) % 4294967296=r at hmd⊢;generalize 4294967296^i=P at hi6⊢;have e1:P*4294967296*t=P*(4294967296*t):=q1 _ _ _;have e2:P*r+P*(4294967296*t)=P*x.toNat+P*y+P*c:=by rw[<-q3,hmd,q3,q3]
    rw[e1];omega
   conv=>whnf
   refine brI (fun h2=>?_) (fun h2=>?_)
   .have h2:i<B.length:=by simp only[Z2]at h2;omega
    conv=>whnf
    refine⟨⟨by omega,by simp only;omega⟩,fun(y:Int) hy=>?_⟩;have hy:B[i]? =some y:=by simpa using hy
    have hyb:=hB y (qM hy);have tb:=wy B h2;rw[hy,qE]at tb;obtain⟨k1,k2,k3⟩:=key y.toNat (by omega) tb;have h261:=y261 x.toNat y.toNat c (by omega) (by omega) hi4;rw[show((x.toNat:Nat):Int)=x by omega,show((y.toNat:Nat):Int)=y by omega]at h261;conv=>whnf
    refine gZn h261 ?_;conv=>whnf
    refine⟨⟨by omega,by simp only;omega⟩,?_⟩;conv=>whnf
    refine⟨by simp only;omega,?_⟩;conv=>whnf
    refine⟨(i+1,out.set i (((x.toNat+y.toNat+c) % 4294967296:Nat):Int),(x.toNat+y.toNat+c)/4294967296),⟨by simp only;omega,k1,by simp only[qB];exact hi3,by simp only;omega,k2,k3⟩,by show A.length-(i+1)<A.length-i;omega,?_⟩
    ((conv=>whnf);refine qU ?_ ?_;repeat' first|refine lc ?_ ?_|exact la0|exact lr rfl|exact ln0|refine lh1 ?_ ?_|exact lh0|exact bf0|exact bd0|refine bc0 ?_|exact bm0 rfl|exact bb0 rfl|exact bg0 rfl|exact li0 rfl|refine lg0 ?_|refine lt0 ?_|fail)
    .exact ai0 (by rw[wI (by simp only;omega)];simp only;omega)
    all_goals trace_state
   .have h2: ¬i<B.length:=by simp only[Z3]at h2;omega
    obtain⟨k1,k2,k3⟩:=key 0 (by omega) (by rw[q9 (by omega),q9 (by omega)];simp);have h261:=y261 x.toNat 0 c (by omega) (by omega) hi4;rw[show((x.toNat:Nat):Int)=x by omega]at h261;conv=>whnf
    refine gZn h261 ?_;conv=>whnf
    refine⟨⟨by omega,by simp only;omega⟩,?_⟩;conv=>whnf
    refine⟨by simp only;omega,?_⟩;conv=>whnf
    refine⟨(i+1,out.set i (((x.toNat+0+c) % 4294967296:Nat):Int),(x.toNat+0+c)/4294967296),⟨by simp only;omega,k1,by simp only[qB];exact hi3,by simp only;omega,k2,k3⟩,by show A.length-(i+1)<A.length-i;omega,?_⟩
    ((conv=>whnf);refine qU ?_ ?_;repeat' first|refine lc ?_ ?_|exact la0|exact lr rfl|exact ln0|refine lh1 ?_ ?_|exact lh0|exact bf0|exact bd0|refine bc0 ?_|exact bm0 rfl|exact bb0 rfl|exact bg0 rfl|exact li0 rfl|refine lg0 ?_|refine lt0 ?_|fail)
    .exact ai0 (by rw[wI (by simp only;omega)];simp only;omega)
    all_goals trace_state
  .have hi:i=A.length:=by simp only[Z3]at h1;omega
   subst hi;rw[qI,q9 hle]at hi6;have hs:=ur out A.length (c:Int) (by omega);rw[hi5 _ (qD _),qS,w4,qX,q0,hi6]at hs;have hp:=za4 (hi2.set (i:=A.length) (x:=(c:Int)) (by omega));rw[qB,hi3,hs]at hp;conv=>whnf
   refine⟨⟨by omega,by simp only;omega⟩,?_⟩;conv=>whnf
   refine⟨by simp only;omega,?_⟩;conv=>whnf
   exact⟨un hp.symm,lh0⟩
theorem c284 (x y b:Nat) (D R:Int) (hD:((x:Int)-(y:Int)-(b:Int)) % 4294967296=D)
 (hR:bits BinOp.or wL (bits BinOp.and wL (bits BinOp.xor wL wL.max (x:Int)) (y:Int)) (bits BinOp.and wL (bits BinOp.xor wL wL.max (bits BinOp.xor wL (x:Int) (y:Int))) D)/2147483648=R) (w:World):
 Calls Tryz.prog 399 #[.int .u32 x,.int .u32 y,.int .u32 b] w fun e w'=>e= .returned (.tuple #[.int .u32 D,.int .u32 R])/\w'=w:=by
 go_enter Tryz.func399,Tryz.ntmps399
 go_wp2_with (simp only[hD,hR])
 go_ret2
 exact⟨rfl,rfl⟩
theorem b32 (x y:Nat) (hx:x<4294967296) (hy:y<4294967296):(qC 32 (x:Int)).toNat =x/\(qC 32 (y:Int)).toNat =y:=by
 constructor
 .rw[w9,wn];exact w1 hx
 .rw[w9,wn];exact w1 hy
theorem or32 (x y:Nat) (hx:x<4294967296) (hy:y<4294967296):bits .or .u32 (x:Int) (y:Int)=((x|||y:Nat):Int):=by
 obtain⟨e1,e2⟩:=b32 x y hx hy;have h:x|||y<2^32:=ws hx hy
 have h2:(qC 32 (x:Int)|||qC 32 (y:Int)).toNat =x|||y:=by rw[BitVec.toNat_or,e1,e2]
 show wL.wrap ((qC 32 (x:Int)|||qC 32 (y:Int)).toNat :Int)=_;rw[h2];exact zrh (by omega)
theorem qad (x y:Nat) (hx:x<4294967296) (hy:y<4294967296):bits .xor .u32 (x:Int) (y:Int)=((x^^^y:Nat):Int):=by
 obtain⟨e1,e2⟩:=b32 x y hx hy;have h:x^^^y<2^32:=qO hx hy;have h2:(qC 32 (x:Int)^^^qC 32 (y:Int)).toNat =x^^^y:=by rw[BitVec.toNat_xor,e1,e2]
 show wL.wrap ((qC 32 (x:Int)^^^qC 32 (y:Int)).toNat :Int)=_;rw[h2];exact zrh (by omega)
theorem zvz {n:Nat} (h:n<4294967296):n.testBit 31=decide (2147483648<=n):=by
 rw[Nat.testBit_eq_decide_div_mod_eq]
 congr 1
 rw[eq_iff_iff];show n/2147483648 % 2=1<->_;omega
theorem qhi (x y b:Nat) (hx:x<4294967296) (hy:y<4294967296) (hb:b<=1):
 ((4294967295^^^x)&&& y|||(4294967295^^^(x^^^y))&&& ((x+4294967296-y-b) % 4294967296))/2147483648=if x<y+b then 1 else 0:=by
 have hd:=qT (x+4294967296-y-b) (show 0<4294967296 by decide);have hdef: ∃d,(x+4294967296-y-b) % 4294967296=d:=⟨_,rfl⟩;obtain⟨d,hdd⟩:=hdef;rw[hdd]at hd⊢;have hN:((4294967295^^^x)&&& y|||(4294967295^^^(x^^^y))&&& d)<2^32:=
  ws (qP qV hy) (qP qV hd)
 have ht:=zvz hN;rw[Nat.testBit_or,wE,wE,w5,w5,w5,zvz hx,zvz hy,zvz hd,show Nat.testBit 4294967295 31=true by decide]at ht;generalize ((4294967295^^^x)&&& y|||(4294967295^^^(x^^^y))&&& d)=N at hN ht⊢;have hN:N<4294967296:=hN;by_cases c1:2147483648<=x<;>by_cases c2:2147483648<=y<;>by_cases c3:2147483648<=d<;>simp only[c1,c2,c3,decide_true,decide_false,Bool.xor_true,Bool.xor_false,Bool.true_xor,Bool.false_xor,Bool.not_true,Bool.not_false,Bool.and_true,Bool.and_false,Bool.true_and,Bool.false_and,Bool.or_false,Bool.or_true,Bool.false_or,true_eq_decide_iff,false_eq_decide_iff]at ht<;>split<;>omega
theorem y284 (x y b:Nat) (hx:x<4294967296) (hy:y<4294967296) (hb:b<=1):Fn 399 [] [.int .u32 x,.int .u32 y,.int .u32 b] (.tup [.int .u32 ((x+4294967296-y-b) % 4294967296:Nat),.int .u32 ((if x<y+b then 1 else 0:Nat):Int)]) []:=by
 refine⟨⟨_,Tryz.func399,rfl,rfl⟩,fun w M pt ow S vs hcore hcont hargs=>?_⟩
 match vs,hargs with
 | [v1,v2,v3],⟨h1,h2,h3,_⟩=>
   obtain rfl:v1= .int .u32 x:=h1;obtain rfl:v2= .int .u32 y:=h2;obtain rfl:v3= .int .u32 b:=h3;have hd:=qT (x+4294967296-y-b) (show 0<4294967296 by decide);have hD:((x:Int)-(y:Int)-(b:Int)) % 4294967296=(((x+4294967296-y-b) % 4294967296:Nat):Int):=by omega
   have hm:wL.max=((4294967295:Nat):Int):=by decide
   have x1:4294967295^^^x<4294967296:=qO (n:=32) (by decide) hx;have x2:x^^^y<4294967296:=qO (n:=32) hx hy;have x3:4294967295^^^(x^^^y)<4294967296:=qO (n:=32) (by decide) x2;refine(c284 x y b _ ((if x<y+b then 1 else 0:Nat):Int) hD ?_ w).mono ?_
   .rw[hm,qad _ _ (by decide) hx,qad _ _ hx hy,qad _ _ (by decide) x2,bits_and_u32_nat _ _ x1 hy,bits_and_u32_nat _ _ x3 hd,
     or32 _ _ (qP qV hy) (qP qV hd),<-qhi x y b hx hy hb]
    rfl
   .rintro e w' ⟨rfl,rfl⟩;exact⟨_,M,pt,ow,S,rfl,hcore,hcont,⟨_,rfl,rfl,rfl,trivial⟩,rfl,rfl,rfl,qD _,fun _ _ _ _=>rfl,fun _ h=>h,fun _ h=> .inl h,fun _ h=> .inl h,fun _ _ h=> .inl h,fun _ _ h=> .inl h⟩
theorem qu (x k:Nat):(toL x).length <=k<->bl x<=32*k:=by rw[jt,yr]
theorem y263 (x y:Nat) (hx:bl x<=100000) (hy:bl y<=100000):Fn 320 [] [.sl .u32 (toL x),.sl .u32 (toL y)] (dnV (if 8192<bl x\/8192<bl y then([],9)else dnN (x+y))) []:=by
 have lx:(toL x).length <=100000:=(qu x 100000).2 (by omega);have ly:(toL y).length <=100000:=(qu y 100000).2 (by omega);have h215:=qac [toL x,toL y] (by simp);have h272:=y272 (toL x) (toL y) (qc x) (qc y) lx ly;rw[zw,zw]at h272;have h221:=qd2 (zem (max (toL x).length (toL y).length +1) (x+y)) (by rw[zaa];omega);rw[zhp (zbb _ _)]at h221;have hv:val (zem (max (toL x).length (toL y).length +1) (x+y))=x+y:=by
  refine xv _ _ ?_;have h1:=(jt x _).1 (Nat.le_max_left (toL x).length (toL y).length);have h2:=(jt y _).1 (Nat.le_max_right (toL x).length (toL y).length);rw[wC]at h1 h2;have e:(2:Nat)^32=4294967296:=rfl;rw[e]at h1 h2;rw[qF];omega
 rw[hv]at h221;have hlg:([toL x,toL y].any lgB)=decide (8192<bl x\/8192<bl y):=by
  simp only[wF,wH,Bool.or_false,lgB,zgz,Bool.decide_or]
 rw[hlg]at h215;refine fnT hT4 hmx Tryz.func320 rfl rfl (ex:= []) ?_;conv=>whnf
 refine cbI [] _ h215 (fun h1=>?_) (fun h1=>?_)
 .rw[Z4 (Z0 h1)];conv=>whnf
  exact⟨lt0 (lc (li0 rfl) (lc (lr rfl) ln0)),lh0⟩
 .rw[Z5 (Z1 h1)];unfold dnN;conv=>whnf
  refine gZn h272 ?_;conv=>whnf
  refine gZn h221 ?_;conv=>whnf
  exact⟨lr rfl,lh0⟩
theorem y280 (x y:Nat) (hxl:(toL x).length <=100000) (hyl:(toL y).length <=100000) (hle:y<=x):Fn 374 [] [.sl .u32 (toL x),.sl .u32 (toL y)] (.sl .u32 (zem (toL x).length (x-y))) []:=by
 have hx216:=zjd (toL x) (by omega);have hy216:=zjd (toL y) (by omega);rw[qj]at hx216 hy216;have hA:=qc x;have hB:=qc y;have vA:=zw x;have vB:=zw y;have hll:(toL y).length <=(toL x).length :=wK.1 fun h=>by have:=zpi h;omega
 have hlt:=yn hA (toL x).length (qD _);generalize toL x=A at*;generalize toL y=B at*;refine fnT hT4 hmx Tryz.func374 rfl rfl (ex:= []) ?_;conv=>whnf
 refine gZn hx216 ?_;conv=>whnf
 refine gZn hy216 ?_;conv=>whnf
 refine⟨⟨by omega,by omega,by omega⟩,?_⟩;conv=>whnf
 refine⟨Nat×List Int×Nat,fun x=>x.1<=A.length/\LB x.2.1/\x.2.1.length=A.length/\x.2.2<=1/\(∀j,x.1<=j->x.2.1[j]?.getD 0=0)/\val x.2.1+val (B.take x.1)=val (A.take x.1)+4294967296^x.1*x.2.2,fun x=> [(19,.int .i64 x.1),(6,.int .u32 x.2.2)],fun x=> [(16,.buf 108 .u32 x.2.1)],fun x=>A.length-x.1,(0,qR A.length 0,0),⟨by simp,fun x hx=>by rw[qH hx];omega,by simp,by simp,fun j _=>by rw[qQ];split<;>rfl,by rw[zeh];simp[val]⟩,?_,fun x hx=>?_⟩
 ·((conv=>whnf);refine qU ?_ ?_;repeat' first|refine lc ?_ ?_|exact la0|exact lr rfl|exact ln0|refine lh1 ?_ ?_|exact lh0|exact bf0|exact bd0|refine bc0 ?_|exact bm0 rfl|exact bb0 rfl|exact bg0 rfl|exact li0 rfl|refine lg0 ?_|refine lt0 ?_|fail)
 (refine⟨by kernel_rfl,?_⟩;(conv=>whnf))
 obtain⟨i,out,c⟩:=x;obtain⟨hi1,hi2,hi3,hi4,hi5,hi6⟩:=hx;simp only at hi1 hi2 hi3 hi4 hi5 hi6;refine brI (fun h1=>?_) (fun h1=>?_)
 .have hi:i<A.length:=by simp only[Z2]at h1;omega
  conv=>whnf
  refine⟨⟨by omega,by simp only;omega⟩,fun(x:Int) hx=>?_⟩;have hx:A[i]? =some x:=by simpa using hx
  have hxb:=hA x (qM hx);have ta:=wy A hi;rw[hx,qE]at ta;have key: ∀y:Nat,y<4294967296->val (B.take (i+1))=val (B.take i)+4294967296^i*y->
   LB (out.set i (((x.toNat+4294967296-y-c) % 4294967296:Nat):Int))/\(∀j,i+1<=j->(out.set i (((x.toNat+4294967296-y-c) % 4294967296:Nat):Int))[j]?.getD 0=0)/\
   val (out.set i (((x.toNat+4294967296-y-c) % 4294967296:Nat):Int))+val (B.take (i+1))=val (A.take (i+1))+4294967296^(i+1)*(if x.toNat<y+c then 1 else 0):=by
   intro y hy tb;refine⟨hi2.set (by omega),fun j hj=>by rw[qL (by omega)];exact hi5 j (by omega),?_⟩;have hs:=ur out i (((x.toNat+4294967296-y-c) % 4294967296:Nat):Int) (by omega);rw[hi5 i (qD _),qS,w4,qX,q0]at hs;rw[hs,ta,tb,qF];have hmd:(x.toNat+4294967296-y-c) % 4294967296+y+c=x.toNat+4294967296*(if x.toNat<y+c then 1 else 0):=by split<;>omega
   generalize (x.toNat+4294967296-y-c) % 4294967296=r at hmd⊢;generalize (if x.toNat<y+c then 1 else 0)=t at hmd⊢;generalize 4294967296^i=P at hi6⊢;have e1:P*4294967296*t=P*(4294967296*t):=q1 _ _ _;have e2:P*r+P*y+P*c=P*x.toNat+P*(4294967296*t):=by rw[<-q3,<-q3,hmd,q3]
   rw[e1];omega
  conv=>whnf
  refine brI (fun h2=>?_) (fun h2=>?_)
  .have h2:i<B.length:=by simp only[Z2]at h2;omega
   conv=>whnf
   refine⟨⟨by omega,by simp only;omega⟩,fun(y:Int) hy=>?_⟩;have hy:B[i]? =some y:=by simpa using hy
   have hyb:=hB y (qM hy);have tb:=wy B h2;rw[hy,qE]at tb;obtain⟨k1,k2,k3⟩:=key y.toNat (by omega) tb;have h284:=y284 x.toNat y.toNat c (by omega) (by omega) hi4;rw[show((x.toNat:Nat):Int)=x by omega,show((y.toNat:Nat):Int)=y by omega]at h284;conv=>whnf
   refine gZn h284 ?_;conv=>whnf
   refine⟨⟨by omega,by simp only;omega⟩,?_⟩;conv=>whnf
   refine⟨by simp only;omega,?_⟩;conv=>whnf
   refine⟨(i+1,out.set i (((x.toNat+4294967296-y.toNat-c) % 4294967296:Nat):Int),if x.toNat<y.toNat+c then 1 else 0),⟨by simp only;omega,k1,by simp only[qB];exact hi3,by simp only;split<;>omega,k2,k3⟩,by show A.length-(i+1)<A.length-i;omega,?_⟩
   ((conv=>whnf);refine qU ?_ ?_;repeat' first|refine lc ?_ ?_|exact la0|exact lr rfl|exact ln0|refine lh1 ?_ ?_|exact lh0|exact bf0|exact bd0|refine bc0 ?_|exact bm0 rfl|exact bb0 rfl|exact bg0 rfl|exact li0 rfl|refine lg0 ?_|refine lt0 ?_|fail)
   .exact ai0 (by rw[wI (by simp only;omega)];simp only;omega)
  .have h2: ¬i<B.length:=by simp only[Z3]at h2;omega
   obtain⟨k1,k2,k3⟩:=key 0 (by omega) (by rw[q9 (by omega),q9 (by omega)];simp);have h284:=y284 x.toNat 0 c (by omega) (by omega) hi4;rw[show((x.toNat:Nat):Int)=x by omega]at h284;conv=>whnf
   refine gZn h284 ?_;conv=>whnf
   refine⟨⟨by omega,by simp only;omega⟩,?_⟩;conv=>whnf
   refine⟨by simp only;omega,?_⟩;conv=>whnf
   refine⟨(i+1,out.set i (((x.toNat+4294967296-0-c) % 4294967296:Nat):Int),if x.toNat<0+c then 1 else 0),⟨by simp only;omega,k1,by simp only[qB];exact hi3,by simp only;split<;>omega,k2,k3⟩,by show A.length-(i+1)<A.length-i;omega,?_⟩
   ((conv=>whnf);refine qU ?_ ?_;repeat' first|refine lc ?_ ?_|exact la0|exact lr rfl|exact ln0|refine lh1 ?_ ?_|exact lh0|exact bf0|exact bd0|refine bc0 ?_|exact bm0 rfl|exact bb0 rfl|exact bg0 rfl|exact li0 rfl|refine lg0 ?_|refine lt0 ?_|fail)
   .exact ai0 (by rw[wI (by simp only;omega)];simp only;omega)
 .have hi:i=A.length:=by simp only[Z3]at h1;omega
  subst hi;rw[qI,q9 hll,vA,vB]at hi6;rw[qI,vA]at hlt;have ho:=yn hi2 out.length (qD _);rw[qI,hi3]at ho;have hc:c=0:=by
   rcases(by omega:c=0\/c=1)with h|h
   .exact h
   .subst h;omega
  subst hc;have hp:=za4 hi2;rw[hi3,show val out=x-y by omega]at hp;conv=>whnf
  exact⟨un hp.symm,lh0⟩
theorem y264 (x y:Nat) (hx:bl x<=100000) (hy:bl y<=100000):Fn 321 [] [.sl .u32 (toL x),.sl .u32 (toL y)] (dnV (if 8192<bl x\/8192<bl y then([],9)else if x<y then([],2)else dnN (x-y))) []:=by
 have lx:(toL x).length <=100000:=(qu x 100000).2 (by omega);have ly:(toL y).length <=100000:=(qu y 100000).2 (by omega);have h215:=qac [toL x,toL y] (by simp);have hlg:([toL x,toL y].any lgB)=decide (8192<bl x\/8192<bl y):=by
  simp only[wF,wH,Bool.or_false,lgB,zgz,Bool.decide_or]
 rw[hlg]at h215;have h177:=y177 (toL x) (toL y) (by omega) (by omega);rw[zd7]at h177;refine fnT hT4 hmx Tryz.func321 rfl rfl (ex:= []) ?_;conv=>whnf
 refine cbI [] _ h215 (fun h1=>?_) (fun h1=>?_)
 .rw[Z4 (Z0 h1)];conv=>whnf
  exact⟨lt0 (lc (li0 rfl) (lc (lr rfl) ln0)),lh0⟩
 rw[Z5 (Z1 h1)];conv=>whnf
 refine gZn h177 ?_;conv=>whnf
 refine brI (fun h2=>?_) (fun h2=>?_)
 .have h2:zap x y<0:=Z0 h2;have h3:x<y:=by unfold zap at h2;split at h2;assumption;split at h2<;>omega
  rw[Z4 h3];conv=>whnf
  exact⟨lt0 (lc (li0 rfl) (lc (lr rfl) ln0)),lh0⟩
 .have h2: ¬zap x y<0:=Z1 h2;have h3: ¬x<y:=fun h=>h2 (by unfold zap;rw[Z4 h];decide)
  rw[Z5 h3];have h280:=y280 x y lx ly (by omega);have h221:=qd2 (zem (toL x).length (x-y)) (by rw[zaa];omega);rw[zhp (zbb _ _)]at h221;have hv:val (zem (toL x).length (x-y))=x-y:=by
   refine xv _ _ ?_;have h1:=(jt x _).1 (qD (toL x).length);rw[wC]at h1;have e:(2:Nat)^32=4294967296:=rfl;rw[e]at h1;omega
  rw[hv]at h221;unfold dnN;conv=>whnf
  refine gZn h280 ?_;conv=>whnf
  refine gZn h221 ?_;conv=>whnf
  exact⟨lr rfl,lh0⟩
