/-
  Limbs and natural numbers: plain functions.
-/
import Derived.Test.YtgehdbenidimlaaGreatDoorQYa
import Derived.Test.YtgehdbenidimlaaGreatDoorQZz
set_option linter.unusedVariables false
set_option linter.unusedSimpArgs false
namespace Go.Proofs.YtgehdbenidimlaaGreatDoor
open Go Go.Sx
def val:List Int->Nat
 | []=>0
 |x::l=>x.toNat+4294967296*val l
def zuz:Nat->Nat->List Int
 |0,_=> []
 |f+1,n=>if n=0 then []else((n % 4294967296:Nat):Int)::zuz f (n/4294967296)
def toL (n:Nat):List Int:=zuz (n.log2/32+1) n
def bl (n:Nat):Nat:=if n=0 then 0 else n.log2+1
theorem ze5 (n:Nat):n<2^bl n:=by
 unfold bl;split
 ·rename_i h;subst h;decide
 ·exact Nat.lt_log2_self
theorem uz {n k:Nat}:bl n<=k<->n<2^k:=by
 unfold bl;split
 ·rename_i h;subst h;exact⟨fun _=>Nat.two_pow_pos k,fun _=>Nat.zero_le _⟩
 ·rename_i h;rw[Nat.succ_le_iff];exact Nat.log2_lt h
theorem zej {n k:Nat} (h:n≠0):k+1<=bl n<->2^k<=n:=by
 unfold bl;rw[if_neg h,Nat.succ_le_succ_iff];exact Nat.le_log2 h
theorem qfu {n k:Nat} (h1:2^k<=n) (h2:n<2^(k+1)):bl n=k+1:=by
 have h0:n≠0:=by have:=Nat.two_pow_pos k;omega
 have a:=(zej h0).2 h1;have b:=uz.2 h2;omega
theorem jz:bl 0=0:=rfl
theorem zaw {n:Nat}:bl n=0<->n=0:=by
 constructor
 ·intro h;have:=uz.1 (Nat.le_of_eq h);simpa using this
 ·intro h;subst h;rfl
theorem qj (n k:Nat) (h:n≠0):bl (n*2^k)=bl n+k:=by
 have h1:bl n≠0:=fun e=>h (zaw.1 e)
 obtain⟨j,hj⟩: ∃j,bl n=j+1:=⟨bl n-1,by omega⟩;have h2:2^j<=n:=(zej h).1 (by omega);have h3:n<2^(j+1):=uz.1 (by omega);rw[hj,show j+1+k=(j+k)+1 by omega];refine qfu ?_ ?_
 ·rw[Nat.pow_add];exact Nat.mul_le_mul_right _ h2
 ·rw[show j+k+1=(j+1)+k by omega,Nat.pow_add 2 (j+1) k];exact Nat.mul_lt_mul_of_pos_right h3 (Nat.two_pow_pos k)
theorem zek (n k:Nat) (h:2^k<=n):bl (n/2^k)=bl n-k:=by
 have h0:n≠0:=by have:=Nat.two_pow_pos k;omega
 have h1:k+1<=bl n:=(zej h0).2 h;obtain⟨j,hj⟩: ∃j,bl n=j+k+1:=⟨bl n-k-1,by omega⟩;have h2:2^(j+k)<=n:=(zej h0).1 (by omega);have h3:n<2^(j+k+1):=uz.1 (by omega);rw[hj,show j+k+1-k=j+1 by omega];refine qfu ?_ ?_
 ·rw[Nat.le_div_iff_mul_le (Nat.two_pow_pos k),←Nat.pow_add];exact h2
 ·rw[Nat.div_lt_iff_lt_mul (Nat.two_pow_pos k),←Nat.pow_add,show j+1+k=j+k+1 by omega];exact h3
theorem zn2: ∀(f n:Nat),n<2^(32*f)->val (zuz f n)=n
 |0,n,h=>by simp at h;subst h;rfl
 |f+1,n,h=>by
  simp only[zuz];split
  ·rename_i h0;subst h0;rfl
  ·have hd:n/4294967296<2^(32*f):=by
    rw[Nat.div_lt_iff_lt_mul (by decide)];rw[show 32*(f+1)=32*f+32 by omega,Nat.pow_add]at h;exact h
   simp only[val,zn2 f _ hd,Int.toNat_natCast];omega
theorem zf3: ∀(f g n:Nat),n<2^(32*f)->f<=g->zuz g n=zuz f n
 |0,g,n,h,_=>by
  simp at h;subst h;cases g<;>simp[zuz]
 |f+1,0,n,h,hg=>by omega
 |f+1,g+1,n,h,hg=>by
  simp only[zuz];split
  ·rfl
  ·have hd:n/4294967296<2^(32*f):=by
    rw[Nat.div_lt_iff_lt_mul (by decide)];rw[show 32*(f+1)=32*f+32 by omega,Nat.pow_add]at h;exact h
   rw[zf3 f g _ hd (by omega)]
theorem zm9 (n:Nat):n<2^(32*(n.log2/32+1)):=by
 refine Nat.lt_of_lt_of_le (Nat.lt_log2_self (n:=n)) (Nat.pow_le_pow_right (by decide) (by omega))
theorem zr (n:Nat):val (toL n)=n:=zn2 _ _ (zm9 n)
theorem jl:toL 0= []:=rfl
theorem zvb {n f:Nat} (h:n<2^(32*f)):toL n=zuz f n:=by
 unfold toL;by_cases hf:f<=n.log2/32+1
 ·exact zf3 f _ n h hf
 ·exact(zf3 _ f n (zm9 n) (by omega)).symm
theorem zak {n:Nat} (h:n≠0):toL n=((n % 4294967296:Nat):Int)::toL (n/4294967296):=by
 have h1:=zm9 n;have hd:n/4294967296<2^(32*(n.log2/32)):=by
  rw[Nat.div_lt_iff_lt_mul (by decide)];rw[show 32*(n.log2/32+1)=32*(n.log2/32)+32 by omega,Nat.pow_add]at h1;exact h1
 rw[zvb hd];unfold toL;simp only[zuz,if_neg h]
theorem zml {P:Nat->Prop} (h0:P 0) (hs: ∀n,n≠0->P (n/4294967296)->P n) (n:Nat):P n:=by
 induction n using Nat.strongRecOn with
 | _ n ih=>
   by_cases h:n=0
   ·subst h;exact h0
   ·exact hs n h (ih _ (Nat.div_lt_self (by omega) (by decide)))
theorem zw (n:Nat):LB (toL n):=by
 refine zml (P:=fun n=>LB (toL n)) (fun _ h=>nomatch h) (fun n h ih=>?_) n;rw[zak h];intro x hx;rcases List.mem_cons.1 hx with rfl|hx
 ·have:n % 4294967296<4294967296:=Nat.mod_lt _ (by decide);omega
 ·exact ih x hx
theorem jd (n k:Nat):(toL n).length <=k<->n<2^(32*k):=by
 have: ∀n,∀k,(toL n).length <=k<->n<2^(32*k):=by
  refine zml (fun k=>?_) fun n h ih k=>?_
  ·simp[jl,Nat.two_pow_pos]
  ·rw[zak h,List.length_cons]
   cases k with
   |zero=>simp;omega
   |succ k=>
    rw[Nat.succ_le_succ_iff,ih k,Nat.div_lt_iff_lt_mul (by decide),show 32*(k+1)=32*k+32 by omega,Nat.pow_add]
 exact this n k
theorem zxr {l:List Int} (h:LB l):val l<2^(32*l.length):=by
 induction l with
 |nil=>decide
 |cons x l ih=>
  have ih:=ih fun y hy=>h y (List.mem_cons_of_mem _ hy)
  have hx:=h x List.mem_cons_self;simp only[val,List.length_cons];rw[show 32*(l.length+1)=32*l.length+32 by omega,Nat.pow_add];generalize 2^(32*l.length)=m at ih;omega
theorem zix (x:Int) (l:List Int): ∀n,trN (x::l) (n+1)=if trN l n=0 then(if x=0 then 0 else 1)else trN l n+1
 |0=>by simp[trN]
 |n+1=>by
  have ih:=zix x l n;rw[show trN (x::l) (n+1+1)=if(x::l)[n+1]?.getD 0=0 then trN (x::l) (n+1)else n+1+1 from rfl];rw[show(x::l)[n+1]? =l[n]? by simp,show trN l (n+1)=if l[n]?.getD 0=0 then trN l n else n+1 from rfl];split
  ·exact ih
  ·simp
theorem zu8 (x:Int) (l:List Int):trL (x::l)=if trL l= []then(if x=0 then []else [x])else x::trL l:=by
 have hl:trL l= []<->trN l l.length=0:=by
  have:=zq1 l l.length;unfold trL;constructor
  ·intro h;have:=congrArg List.length h;rw[List.length_take,List.length_nil]at this;omega
  ·intro h;rw[h];rfl
 by_cases h:trN l l.length=0
 ·rw[if_pos (hl.2 h)];unfold trL;rw[List.length_cons,zix,if_pos h];split<;>rfl
 ·rw[if_neg fun e=>h (hl.1 e)];unfold trL;rw[List.length_cons,zix,if_neg h];rfl
theorem xt: ∀ {l:List Int},LB l->trL l=toL (val l)
 | [],_=>rfl
 |x::l,h=>by
  have ih:=xt (l:=l) fun y hy=>h y (List.mem_cons_of_mem _ hy)
  have hx:=h x List.mem_cons_self;rw[zu8,ih];simp only[val];by_cases hv:val l=0
  ·rw[hv,jl,if_pos rfl];by_cases h0:x=0
   ·subst h0;rfl
   ·rw[if_neg h0,zak (by omega),show(x.toNat+4294967296*0)/4294967296=0 by omega,jl]
    congr 1;omega
  ·rw[if_neg (fun e=>hv (by have:=congrArg val e;rw[zr]at this;exact this)),zak (n:=x.toNat+4294967296*val l) (by omega)];rw[show(x.toNat+4294967296*val l)/4294967296=val l by omega,show(((x.toNat+4294967296*val l) % 4294967296:Nat):Int)=x by omega]
theorem qh (n:Nat):trL (toL n)=toL n:=by rw[xt (zw n),zr]
theorem zuk {n:Nat} (h:n≠0):bl n=bl (n/2)+1:=by
 by_cases h2:2<=n
 ·have:=zek n 1 (by simpa using h2);have h1:2<=bl n:=(zej h).2 (by simpa using h2);simp only[Nat.pow_one]at this;omega
 ·obtain rfl:n=1:=by omega
  rfl
theorem zdz {x:Nat} (h:x<2^64):Lib.bitLen x=bl x:=by
 have: ∀(f x:Nat),x<2^f->Lib.bitLenAux f x=bl x:=by
  intro f
  induction f with
  |zero=>intro x hx;simp at hx;subst hx;rfl
  |succ f ih=>
   intro x hx;simp only[Lib.bitLenAux];split
   ·rename_i h0;subst h0;rfl
   ·rename_i h0;rw[ih (x/2) (by rw[Nat.pow_succ]at hx;omega),zuk h0];omega
 exact this 64 x h
theorem zfs (n:Nat):(match(toL n).getLast? with|none=>(0:Int)|some x=>32*(((toL n).length :Int)-1)+((Lib.bitLen x.toNat:Nat):Int):Int)=((bl n:Nat):Int):=by
 refine zml (P:=fun n=>(match(toL n).getLast? with|none=>(0:Int)|some x=>32*(((toL n).length :Int)-1)+((Lib.bitLen x.toNat:Nat):Int):Int)=((bl n:Nat):Int)) rfl (fun n h ih=>?_) n;rw[zak h];by_cases h1:n/4294967296=0
 ·have h2:n<4294967296:=by omega
  rw[h1,jl];simp only[List.getLast?_singleton,List.length_singleton];rw[Int.toNat_natCast,Nat.mod_eq_of_lt h2,zdz (by omega)];simp
 ·have hne:toL (n/4294967296)≠ []:=fun e=>h1 (by have:=congrArg val e;rw[zr]at this;exact this)
  rw[List.getLast?_cons_of_ne_nil hne];have hb:bl (n/4294967296)=bl n-32:=zek n 32 (by omega);have hb2:33<=bl n:=(zej h).2 (by omega)
  cases hg:(toL (n/4294967296)).getLast? with
  |none=>exact absurd (List.getLast?_eq_none_iff.1 hg) hne
  |some x=>
   rw[hg]at ih;simp only at ih;have hl:0<(toL (n/4294967296)).length :=List.length_pos_iff.2 hne;simp only[List.length_cons];omega
theorem zim {l:List Int} (h:LB l):btL l=(bl (val l):Nat):=by
 unfold btL;rw[xt h];exact zfs _
theorem qr (x:Int) (l:List Int):val (x::l)=x.toNat+4294967296*val l:=rfl
theorem zke (k:Nat) (l:List Int):val (List.replicate k 0++l)=2^(32*k)*val l:=by
 induction k with
 |zero=>simp
 |succ k ih=>
  rw[List.replicate_succ,List.cons_append,show 32*(k+1)=32*k+32 by omega,Nat.pow_add];simp only[val,ih,Int.toNat_zero,Nat.zero_add];have e:(2:Nat)^32=4294967296:=rfl;rw[e,Nat.mul_comm (2^(32*k)) 4294967296,Nat.mul_assoc]
theorem zhw (r:Nat) (hr:r<=32): ∀(l:List Int) (c:Nat),LB l->c<2^r->val (yz r l c)=val l*2^r+c/\LB (yz r l c)
 | [],c,_,hc=>by
   have h2:2^r<=2^32:=Nat.pow_le_pow_right (by decide) hr;refine⟨by simp[yz,val],fun x hx=>?_⟩;simp only[yz,List.mem_singleton]at hx;omega
 |x::l,c,h,hc=>by
  have h2:2^r<=2^32:=Nat.pow_le_pow_right (by decide) hr;have hx:=h x List.mem_cons_self;obtain⟨y,rfl⟩:=Int.eq_ofNat_of_zero_le hx.1;have hy:y<4294967296:=by omega
  have e:((y:Int)*2^r+(c:Int))=((y*2^r+c:Nat):Int):=by simp
  have hq:(y*2^r+c)/4294967296<2^r:=by
   rw[Nat.div_lt_iff_lt_mul (by decide)];have:(y+1)*2^r<=4294967296*2^r:=Nat.mul_le_mul_right _ (by omega);rw[Nat.succ_mul]at this;rw[Nat.mul_comm (2^r)];omega
  simp only[yz];rw[e,show(((y*2^r+c:Nat):Int)/4294967296)=(((y*2^r+c)/4294967296:Nat):Int)from rfl,show(((y*2^r+c:Nat):Int) % 4294967296)=(((y*2^r+c) % 4294967296:Nat):Int)from rfl];obtain⟨i1,i2⟩:=zhw r hr l ((y*2^r+c)/4294967296) (fun z hz=>h z (List.mem_cons_of_mem _ hz)) hq;constructor
  ·simp only[val,i1,Int.toNat_natCast];have h1:4294967296*(val l*2^r)=(4294967296*val l)*2^r:=by rw[Nat.mul_assoc]
   have h3:(y+4294967296*val l)*2^r=y*2^r+(4294967296*val l)*2^r:=Nat.add_mul _ _ _;have h4:=Nat.mod_add_div (y*2^r+c) 4294967296;omega
  ·intro z hz;rcases List.mem_cons.1 hz with rfl|hz
   ·have:=Nat.mod_lt (y*2^r+c) (show 0<4294967296 by decide);omega
   ·exact i2 z hz
theorem zc2 (n x:Nat):val (zi3 (toL x) n)=x*2^n/\LB (zi3 (toL x) n):=by
 unfold zi3;rw[qh];obtain⟨h1,h2⟩:=zhw (n % 32) (by omega) (toL x) 0 (zw x) (Nat.two_pow_pos _);constructor
 ·rw[zke];have h1:val (yz (n % 32) (toL x) 0)=x*2^(n % 32):=by
   have:=h1;rw[zr]at this;simpa using this
  rw[h1,←Nat.mul_assoc,Nat.mul_comm _ x,Nat.mul_assoc,←Nat.pow_add,show 32*(n/32)+n % 32=n by omega]
 ·intro z hz;rcases List.mem_append.1 hz with hz|hz
  ·have:=List.eq_of_mem_replicate hz;omega
  ·exact h2 z hz
theorem zg8 {l:List Int} (h:LB l):dnL l=if 8192<bl (val l)then([],9)else(toL (val l),0):=by
 unfold dnL;rw[xt h];have h1:(256<(toL (val l)).length)<->8192<bl (val l):=by
  have a:=jd (val l) 256;have b:=uz (n:=val l) (k:=32*256);constructor
  ·intro hh;exact Nat.not_le.1 fun hc=>Nat.not_le.2 hh (a.2 (b.1 hc))
  ·intro hh;exact Nat.not_le.1 fun hc=>Nat.not_le.2 hh (b.2 (a.1 hc))
 by_cases hh:256<(toL (val l)).length
 ·rw[if_pos hh,if_pos (h1.1 hh)]
 ·rw[if_neg hh,if_neg fun e=>hh (h1.2 e)]
theorem zgk (x:Nat):(256<(toL x).length)<->8192<bl x:=by
 have a:=jd x 256;have b:=uz (n:=x) (k:=32*256);constructor
 ·intro hh;exact Nat.not_le.1 fun hc=>Nat.not_le.2 hh (a.2 (b.1 hc))
 ·intro hh;exact Nat.not_le.1 fun hc=>Nat.not_le.2 hh (b.2 (a.1 hc))
def dnN (x:Nat):List Int×Int:=if 8192<bl x then([],9)else(toL x,0)
theorem zoa (x:Nat) (n:Int):qcc (toL x) n=if 8192<bl x then([],9)else if n<0\/65536<n then([],2)else dnN (x*2^n.toNat):=by
 unfold qcc dnN;obtain⟨h1,h2⟩:=zc2 n.toNat x;rw[zg8 h2,h1];simp only[zgk]
theorem zvi (p q y z w:Nat) (hp:0<p) (hpq:p*q=4294967296) (hy:y<4294967296):
 (y+4294967296*(z+4294967296*w))/p=(y+z*4294967296)/p % 4294967296+4294967296*((z+4294967296*w)/p):=by
 have a1:(z+4294967296*w)/p=z/p+q*w:=by
  rw[←hpq,Nat.mul_assoc,Nat.add_mul_div_left _ _ hp]
 have a2:(y+4294967296*(z+4294967296*w))/p=(y+z*4294967296)/p+q*(4294967296*w):=by
  have e:y+4294967296*(z+4294967296*w)=(y+z*4294967296)+p*(q*(4294967296*w)):=by
   rw[←Nat.mul_assoc p q,hpq];omega
  rw[e,Nat.add_mul_div_left _ _ hp]
 have a3:(y+z*4294967296)/p/4294967296=z/p:=by
  rw[Nat.div_div_eq_div_mul,Nat.mul_comm p,←Nat.div_div_eq_div_mul]
  congr 1;omega
 have a4:=Nat.mod_add_div ((y+z*4294967296)/p) 4294967296;have a5:q*(4294967296*w)=4294967296*(q*w):=by rw[←Nat.mul_assoc,Nat.mul_comm q,Nat.mul_assoc]
 rw[a1,a2,Nat.mul_add];rw[a3]at a4;omega
theorem zpy (x:Int) (l:List Int) (r:Nat):zc1 (x::l) r=ze1 (x::l) r 0::zc1 l r:=by
 unfold zc1;rw[List.length_cons,List.range_succ_eq_map,List.map_cons,List.map_map]
 congr 1
theorem zoy (l:List Int) (h:LB l): ∃z w:Nat,z<4294967296/\l[0]?.getD 0=(z:Int)/\val l=z+4294967296*w:=by
 cases l with
 |nil=>exact⟨0,0,by decide,rfl,rfl⟩
 |cons a m=>
  have ha:=h a (by simp);exact⟨a.toNat,val m,by omega,by simp;omega,rfl⟩
theorem zpz (y z r:Nat) (l:List Int) (h:l[0]?.getD 0=(z:Int)):ze1 ((y:Int)::l) r 0=(((y+z*4294967296)/2^r % 4294967296:Nat):Int):=by
 unfold ze1;simp only[List.getElem?_cons_zero,Option.getD_some,List.getElem?_cons_succ,h];simp
theorem zpx (r:Nat) (hr:r<=32) (l:List Int) (h:LB l):val (zc1 l r)=val l/2^r/\LB (zc1 l r):=by
 have ep:2^r*2^(32-r)=4294967296:=by rw[←Nat.pow_add,show r+(32-r)=32 by omega]
 have hp:=Nat.two_pow_pos r;have hsh:=fun y z l h=>zpz y z r l h
 generalize 2^(32-r)=q at ep;generalize hP:2^r=p at ep hp hsh
 induction l with
 |nil=>exact⟨by simp[zc1,val],fun _ h=>nomatch h⟩
 |cons x l ih=>
  have hl:LB l:=fun z hz=>h z (List.mem_cons_of_mem _ hz)
  obtain⟨i1,i2⟩:=ih hl;have hx:=h x List.mem_cons_self;obtain⟨y,rfl⟩:=Int.eq_ofNat_of_zero_le hx.1;have hy:y<4294967296:=by omega
  obtain⟨z,w,hz,hl0,hv⟩:=zoy l hl;rw[zpy,hsh y z l hl0];refine⟨?_,?_⟩
  ·rw[qr,qr,i1,hv,Int.toNat_natCast,Int.toNat_natCast];exact(zvi p q y z w hp ep hy).symm
  ·intro v hvm;rcases List.mem_cons.1 hvm with rfl|hvm
   ·have:=Nat.mod_lt ((y+z*4294967296)/p) (show 0<4294967296 by decide);omega
   ·exact i2 v hvm
theorem ziv: ∀(k:Nat) (l:List Int),LB l->val (l.drop k)=val l/2^(32*k)
 |0,l,_=>by simp
 |k+1,[],_=>by simp[val]
 |k+1,x::l,h=>by
  have ih:=ziv k l fun z hz=>h z (List.mem_cons_of_mem _ hz)
  have hx:=h x List.mem_cons_self;rw[List.drop_succ_cons,ih,show 32*(k+1)=32+32*k by omega,Nat.pow_add,←Nat.div_div_eq_div_mul];simp only[val]
  congr 1;omega
theorem zf6 (n x:Nat):val (zka (toL x) n)=x/2^n/\LB (zka (toL x) n):=by
 unfold zka;rw[qh];split
 ·rename_i h;refine⟨?_,fun _ h=>nomatch h⟩;have h1:=(jd x (n/32)).1 h;have h2:x<2^n:=Nat.lt_of_lt_of_le h1 (Nat.pow_le_pow_right (by decide) (by omega));rw[Nat.div_eq_of_lt h2];rfl
 ·have hd:LB ((toL x).drop (n/32)):=fun z hz=>zw x z (List.mem_of_mem_drop hz)
  obtain⟨h1,h2⟩:=zpx (n % 32) (by omega) _ hd;refine⟨?_,h2⟩;rw[h1,ziv _ _ (zw x),zr,Nat.div_div_eq_div_mul,←Nat.pow_add,show 32*(n/32)+n % 32=n by omega]
theorem zn7 (x:Nat) (n:Int):shrR (toL x) n=if 8192<bl x then([],9)else if n<0\/65536<n then([],2)else dnN (x/2^n.toNat):=by
 unfold shrR dnN;obtain⟨h1,h2⟩:=zf6 n.toNat x;rw[zg8 h2,h1];simp only[zgk]
theorem ziw: ∀(l m:List Int),val (l++m)=val l+4294967296^l.length*val m
 | [],m=>by simp[val]
 |x::l,m=>by
  rw[List.cons_append,qr,qr,ziw l m,List.length_cons,Nat.pow_succ,Nat.mul_add,←Nat.mul_assoc,Nat.mul_comm 4294967296 (4294967296^l.length)];omega
theorem kz: ∀(l:List Int) (i:Nat) (y:Int),i<l.length->val (l.set i y)+4294967296^i*(l[i]?.getD 0).toNat =val l+4294967296^i*y.toNat
 | [],i,y,h=>by simp at h
 |x::l,0,y,h=>by
  rw[List.set_cons_zero,qr,qr];simp only[Nat.pow_zero,Nat.one_mul,List.getElem?_cons_zero,Option.getD_some];omega
 |x::l,i+1,y,h=>by
  have ih:=kz l i y (by simpa using h);rw[List.set_cons_succ,qr,qr,List.getElem?_cons_succ,Nat.pow_succ];generalize (l[i]?.getD 0).toNat =o at ih⊢;generalize y.toNat=y at ih⊢;generalize 4294967296^i=P at ih⊢;have e1:P*4294967296*o=4294967296*(P*o):=by rw[Nat.mul_comm P,Nat.mul_assoc]
  have e2:P*4294967296*y=4294967296*(P*y):=by rw[Nat.mul_comm P,Nat.mul_assoc]
  rw[e1,e2];omega
theorem zk5 (x:Nat) (hx:x<4294967296): ∀(b:List Int) (p:Nat) (out:List Int) (c:Nat),LB b->LB out->c<4294967296->p+b.length<=out.length->
 ∃(o:List Int) (d:Nat),zkc x b p out c=(o,(d:Int))/\LB o/\o.length=out.length/\d<4294967296/\val o+4294967296^(p+b.length)*d=val out+4294967296^p*(x*val b+c)/\ ∀j,p+b.length<=j->o[j]? =out[j]?
 | [],p,out,c,_,ho,hc,_=>⟨out,c,rfl,ho,rfl,hc,by simp[val],fun _ _=>rfl⟩
 |y::b,p,out,c,hb,ho,hc,hl=>by
  have hy:=hb y List.mem_cons_self;obtain⟨y,rfl⟩:=Int.eq_ofNat_of_zero_le hy.1;have hy:y<4294967296:=by omega
  rw[List.length_cons]at hl;obtain⟨q,hq⟩: ∃q:Nat,out[p]?.getD 0=(q:Int):=⟨_,(Int.toNat_of_nonneg (ho.at p).1).symm⟩;have hq2:q<4294967296:=by have:=(ho.at p).2;omega
  have e:((x:Int)*(y:Int)+out[p]?.getD 0+(c:Int))=((x*y+q+c:Nat):Int):=by rw[hq];simp
  have hxy:x*y<=4294967295*4294967295:=Nat.mul_le_mul (by omega) (by omega);have hd:(x*y+q+c)/4294967296<4294967296:=by omega
  have hm:=Nat.mod_lt (x*y+q+c) (show 0<4294967296 by decide);obtain⟨o,d,h1,h2,h3,h4,h5,h6⟩:=zk5 x hx b (p+1) (out.set p (((x*y+q+c) % 4294967296:Nat):Int)) ((x*y+q+c)/4294967296) (fun z hz=>hb z (List.mem_cons_of_mem _ hz)) (ho.set (by omega)) hd (by rw[List.length_set];omega);refine⟨o,d,?_,h2,by rw[h3,List.length_set],h4,?_,fun j hj=>?_⟩
  ·simp only[zkc];rw[e];exact h1
  ·have hs:=kz out p (((x*y+q+c) % 4294967296:Nat):Int) (by omega);rw[hq,Int.toNat_natCast,Int.toNat_natCast]at hs;rw[List.length_cons,show p+(b.length+1)=p+1+b.length by omega,h5,qr,Int.toNat_natCast,Nat.pow_succ];have hmd:=Nat.mod_add_div (x*y+q+c) 4294967296;generalize (x*y+q+c)/4294967296=t at hmd⊢;generalize (x*y+q+c) % 4294967296=r at hs hmd⊢;generalize 4294967296^p=P at hs⊢;have e1:P*4294967296*(x*val b+t)=P*(4294967296*(x*val b))+P*(4294967296*t):=by rw[Nat.mul_assoc,Nat.mul_add,Nat.mul_add]
   have e2:P*(x*(y+4294967296*val b)+c)=P*(x*y)+P*(4294967296*(x*val b))+P*c:=by
    rw[Nat.mul_add x,Nat.mul_add P,Nat.mul_add P]
    congr 3
    rw[←Nat.mul_assoc,Nat.mul_comm x,Nat.mul_assoc]
   have e3:P*r+P*(4294967296*t)=P*(x*y)+P*q+P*c:=by rw[←Nat.mul_add,←Nat.mul_add,←Nat.mul_add,hmd]
   rw[e1,e2];omega
  ·rw[List.length_cons]at hj;rw[h6 j (by omega),List.getElem?_set_ne (by omega)]
theorem zgg (b:List Int) (hb:LB b): ∀(a:List Int) (i:Nat) (out:List Int),LB a->LB out->i+a.length+b.length<=out.length->(∀j,i+b.length<=j->out[j]?.getD 0=0)->
 val (zm7 b a i out)=val out+4294967296^i*(val a*val b)/\LB (zm7 b a i out)
 | [],i,out,_,ho,_,_=>⟨by simp[zm7,val],ho⟩
 |x::a,i,out,ha,ho,hl,hz=>by
  have hx:=ha x List.mem_cons_self;obtain⟨x,rfl⟩:=Int.eq_ofNat_of_zero_le hx.1;have hx:x<4294967296:=by omega
  rw[List.length_cons]at hl;obtain⟨o,d,h1,h2,h3,h4,h5,h6⟩:=zk5 x hx b i out 0 hb ho (by omega) (by omega);have h1:zkc (x:Int) b i out 0=(o,(d:Int)):=h1;simp only[zm7];rw[h1];have hzo:o[i+b.length]?.getD 0=0:=by rw[h6 _ (Nat.le_refl _)];exact hz _ (Nat.le_refl _)
  have hs:=kz o (i+b.length) (d:Int) (by omega);rw[hzo,Int.toNat_natCast,Int.toNat_zero,Nat.mul_zero,Nat.add_zero,h5]at hs;obtain⟨i1,i2⟩:=zgg b hb a (i+1) (o.set (i+b.length) (d:Int)) (fun z hz=>ha z (List.mem_cons_of_mem _ hz)) (h2.set (by omega)) (by rw[List.length_set];omega) (fun j hj=>by
   rw[List.getElem?_set_ne (by omega),h6 j (by omega)];exact hz j (by omega))
  refine⟨?_,i2⟩;rw[i1,hs,qr,Int.toNat_natCast,Nat.pow_succ];generalize 4294967296^i=P;have e1:P*4294967296*(val a*val b)=P*(4294967296*(val a*val b)):=Nat.mul_assoc _ _ _;have e2:P*((x+4294967296*val a)*val b)=P*(x*val b)+P*(4294967296*(val a*val b)):=by
   rw[Nat.add_mul,Nat.mul_add,Nat.mul_assoc]
  rw[e1,e2,Nat.add_zero];omega
theorem zd5 (n:Nat):val (List.replicate n 0)=0:=by
 have:=zke n [];simpa[val]using this
theorem zst (x y:Nat):val (zu1 (toL x) (toL y))=x*y/\LB (zu1 (toL x) (toL y)):=by
 unfold zu1;obtain⟨h1,h2⟩:=zgg (toL y) (zw y) (toL x) 0 (List.replicate ((toL x).length +(toL y).length) 0) (zw x) (fun z hz=>by have:=List.eq_of_mem_replicate hz;omega) (by simp) (fun j _=>by
  rw[List.getElem?_replicate];split<;>rfl)
 refine⟨?_,h2⟩;rw[h1,zd5,zr,zr];simp
theorem zwb (x y:Nat):qd7 (toL x) (toL y)=if 8192<bl x\/8192<bl y then([],9)else dnN (x*y):=by
 unfold qd7 dnN;rw[qh,qh];obtain⟨h1,h2⟩:=zst x y;rw[zg8 h2,h1];simp only[zgk]
def xz (x y:Nat):Int:=if x<y then-1 else if y<x then 1 else 0
theorem wm (l:List Int) {n:Nat} (h:n<l.length):val (l.take (n+1))=val (l.take n)+4294967296^n*(l[n]?.getD 0).toNat :=by
 rw[List.take_add_one,List.getElem?_eq_getElem h];simp only[Option.toList_some,Option.getD_some];rw[ziw,List.length_take,Nat.min_eq_left (by omega),qr];simp[val]
theorem uu {l:List Int} (h:LB l) (n:Nat) (hn:n<=l.length):val (l.take n)<4294967296^n:=by
 have:=zxr (l:=l.take n) fun x hx=>h x (List.mem_of_mem_take hx)
 rw[List.length_take,Nat.min_eq_left hn,Nat.pow_mul]at this;exact this
theorem zil {a b:List Int} (ha:LB a) (hb:LB b): ∀n,n<=a.length->n<=b.length->zhb a b n=xz (val (a.take n)) (val (b.take n))
 |0,_,_=>by simp[zhb,xz,val]
 |n+1,h1,h2=>by
  have ih:=zil ha hb n (by omega) (by omega);have ea:=wm a (n:=n) (by omega);have eb:=wm b (n:=n) (by omega);have la:=uu ha n (by omega);have lb:=uu hb n (by omega);have pa:=ha.at n;have pb:=hb.at n;simp only[zhb];rw[ea,eb,ih];generalize a[n]?.getD 0=u at*;generalize b[n]?.getD 0=v at*;generalize val (a.take n)=A at*;generalize val (b.take n)=B at*;generalize 4294967296^n=P at*;obtain⟨u,rfl⟩:=Int.eq_ofNat_of_zero_le pa.1;obtain⟨v,rfl⟩:=Int.eq_ofNat_of_zero_le pb.1;rw[Int.toNat_natCast,Int.toNat_natCast];unfold xz;by_cases c1:u<v
  ·have:P*(u+1)<=P*v:=Nat.mul_le_mul_left _ c1;rw[Nat.mul_succ]at this;rw[if_pos (by omega),if_pos (by omega)]
  ·by_cases c2:v<u
   ·have:P*(v+1)<=P*u:=Nat.mul_le_mul_left _ c2;rw[Nat.mul_succ]at this;rw[if_neg (by omega),if_pos (by omega),if_neg (by omega),if_pos (by omega)]
   ·obtain rfl:u=v:=by omega
    rw[if_neg (by omega),if_neg (by omega)];by_cases c3:A<B
    ·rw[if_pos c3,if_pos (by omega)]
    ·rw[if_neg c3,if_neg (show ¬A+P*u<B+P*u by omega)];by_cases c4:B<A
     ·rw[if_pos c4,if_pos (by omega)]
     ·rw[if_neg c4,if_neg (by omega)]
theorem zov {x y:Nat} (h:(toL x).length <(toL y).length):x<y:=by
 have h1:=(jd x (toL x).length).1 (Nat.le_refl _);refine Nat.lt_of_lt_of_le h1 (Nat.not_lt.1 fun hc=>?_);have:=(jd y (toL x).length).2 hc;omega
theorem zdy (x y:Nat):qbo (toL x) (toL y)=xz x y:=by
 unfold qbo;rw[qh,qh];by_cases h1:(toL x).length <(toL y).length
 ·rw[if_pos h1];unfold xz;rw[if_pos (zov h1)]
 ·rw[if_neg h1];by_cases h2:(toL y).length <(toL x).length
  ·have:=zov h2;rw[if_pos h2];unfold xz;rw[if_neg (by omega),if_pos this]
  ·rw[if_neg h2,zil (zw x) (zw y) _ (Nat.le_refl _) (by omega),List.take_length,show(toL x).length =(toL y).length by omega,List.take_length,zr,zr]
set_option maxRecDepth 100000
set_option maxHeartbeats 8000000
def zd8:Nat->Nat->List Int
 |0,_=> []
 |k+1,v=>((v % 4294967296:Nat):Int)::zd8 k (v/4294967296)
theorem xm: ∀k v,(zd8 k v).length =k
 |0,_=>rfl
 |k+1,v=>by simp[zd8,xm k]
theorem zat: ∀k v,LB (zd8 k v)
 |0,_=>fun _ h=>nomatch h
 |k+1,v=>fun x hx=>by
  rcases List.mem_cons.1 hx with rfl|hx
  ·have:=Nat.mod_lt v (show 0<4294967296 by decide);omega
  ·exact zat k _ x hx
theorem zao: ∀ {l:List Int},LB l->zd8 l.length (val l)=l
 | [],_=>rfl
 |x::l,h=>by
  have hx:=h x List.mem_cons_self;have ih:=zao (l:=l) fun y hy=>h y (List.mem_cons_of_mem _ hy)
  rw[qr,List.length_cons];show(((x.toNat+4294967296*val l) % 4294967296:Nat):Int)::zd8 l.length ((x.toNat+4294967296*val l)/4294967296)=x::l;rw[show(x.toNat+4294967296*val l)/4294967296=val l by omega,ih,show(((x.toNat+4294967296*val l) % 4294967296:Nat):Int)=x by omega]
theorem xf: ∀k v,v<4294967296^k->val (zd8 k v)=v
 |0,v,h=>by simp at h;subst h;rfl
 |k+1,v,h=>by
  have hd:v/4294967296<4294967296^k:=by
   rw[Nat.div_lt_iff_lt_mul (by decide),←Nat.pow_succ];exact h
  show val (((v % 4294967296:Nat):Int)::zd8 k (v/4294967296))=v;rw[qr,xf k _ hd,Int.toNat_natCast];omega
theorem zqu {n:Int} (h:0<=n/\n<4294967296):IntKind.u32.wrap n=n:=by
 simp[IntKind.wrap,IntKind.signed,IntKind.bits];omega
theorem y261 (x y c:Nat) (hx:x<4294967296) (hy:y<4294967296) (hc:c<4294967296):Fn 217 [] [.int .u32 x,.int .u32 y,.int .u32 c] (.tup [.int .u32 ((x+y+c) % 4294967296:Nat),.int .u32 ((x+y+c)/4294967296:Nat)]) []:=by
 refine fnT hT4 hmx Tryz.func217 rfl rfl (ex:= []) ?_;conv=>whnf
 refine⟨by decide,?_⟩;conv=>whnf
 have e1:IntKind.u64.wrap (IntKind.u64.wrap (IntKind.u64.wrap (x:Int)+IntKind.u64.wrap (y:Int))+IntKind.u64.wrap (c:Int))=((x+y+c:Nat):Int):=by
  rw[wU (x:=(x:Int)) (by omega),wU (x:=(y:Int)) (by omega),wU (x:=(c:Int)) (by omega),wU (x:=(x:Int)+(y:Int)) (by omega),wU (by omega)];omega
 refine⟨lt0 (lc (ai0 ?_) (lc (ai0 ?_) ln0)),lh0⟩
 ·refine(congrArg IntKind.u32.wrap e1).trans ?_;simp[IntKind.wrap,IntKind.signed,IntKind.bits]
 ·refine(congrArg (fun z:Int=>IntKind.u32.wrap (z.fdiv 4294967296)) e1).trans ?_;show IntKind.u32.wrap (((x+y+c:Nat):Int).fdiv 4294967296)=_;rw[Int.fdiv_eq_ediv_of_nonneg _ (by decide),show((x+y+c:Nat):Int)/4294967296=(((x+y+c)/4294967296:Nat):Int)from rfl];exact zqu (by omega)
noncomputable def zui:Code:=Tryz.f219.body.getD .skip
theorem y272 (a b:List Int) (ha:LB a) (hb:LB b) (hal:a.length<=100000) (hbl:b.length<=100000):Fn 219 [] [.sl .u32 a,.sl .u32 b] (.sl .u32 (zd8 (max a.length b.length+1) (val a+val b))) []:=by
 refine wd (code:=zui) hT4 hmx Tryz.func219 rfl rfl (ex:= []) ?_;conv=>whnf
 refine ko hT4 hmx 2 (fun x: {p:List Int×List Int//LB p.1/\LB p.2/\p.2.length<=p.1.length/\p.1.length=max a.length b.length/\val p.1+val p.2=val a+val b}=>⟨[.sl .u32 x.1.1,.sl .u32 x.1.2]++um 51,[(20,.free)]⟩) (fun _=>by kernel_rfl) ?_ (fun x=>?_)
 ·conv=>whnf
  refine brI (fun h1=>?_) (fun h1=>?_)
  ·have h1:a.length<b.length:=by simp only[decide_eq_true_eq]at h1;omega
   conv=>whnf
   refine⟨⟨(b,a),hb,ha,by simp only;omega,by simp only;omega,Nat.add_comm _ _⟩,?_⟩
   ((conv=>whnf);refine And.intro ?_ ?_;repeat' first|refine lc ?_ ?_|exact la0|exact lr rfl|exact ln0|refine lh1 ?_ ?_|exact lh0|exact bf0|exact bd0|refine bc0 ?_|exact bm0 rfl|exact bb0 rfl|exact bg0 rfl|exact li0 rfl|refine lg0 ?_|refine lt0 ?_|fail)
  ·have h1: ¬a.length<b.length:=by simp only[decide_eq_false_iff_not]at h1;omega
   conv=>whnf
   refine⟨⟨(a,b),ha,hb,by simp only;omega,by simp only;omega,rfl⟩,?_⟩
   ((conv=>whnf);refine And.intro ?_ ?_;repeat' first|refine lc ?_ ?_|exact la0|exact lr rfl|exact ln0|refine lh1 ?_ ?_|exact lh0|exact bf0|exact bd0|refine bc0 ?_|exact bm0 rfl|exact bb0 rfl|exact bg0 rfl|exact li0 rfl|refine lg0 ?_|refine lt0 ?_|fail)
 ·obtain⟨⟨A,B⟩,hA,hB,hle,hmax,hval⟩:=x;simp only at hA hB hle hmax hval;show SemOK Tryz.prog T4 Tryz.f219.results.toList [] _ [] (ze7 2 zui) ⟨[.sl .u32 A,.sl .u32 B]++um 51,[(20,.free)]⟩;rw[←hmax,←hval];have hAl:A.length<=100000:=by omega
  clear hmax hval ha hb hal hbl;refine je hT4 hmx ?_;conv=>whnf
  have hw:IntKind.i64.wrap ((A.length:Int)+1)=((A.length+1:Nat):Int):=by rw[wI (by omega)];omega
  rw[hw];refine⟨⟨by omega,by omega,by omega⟩,?_⟩;conv=>whnf
  refine⟨Nat×List Int×Nat,fun x=>x.1<=A.length/\LB x.2.1/\x.2.1.length=A.length+1/\x.2.2<4294967296/\(∀j,x.1<=j->x.2.1[j]?.getD 0=0)/\val x.2.1+4294967296^x.1*x.2.2=val (A.take x.1)+val (B.take x.1),fun x=> [(23,.int .i64 x.1),(6,.int .u32 x.2.2)],fun x=> [(20,.buf 104 .u32 x.2.1)],fun x=>A.length-x.1,(0,List.replicate (A.length+1) 0,0),⟨by simp,fun x hx=>by rw[List.eq_of_mem_replicate hx];omega,by simp,by simp,fun j _=>by rw[List.getElem?_replicate];split<;>rfl,by rw[zd5];simp[val]⟩,?_,fun x hx=>?_⟩
  ·((conv=>whnf);refine And.intro ?_ ?_;repeat' first|refine lc ?_ ?_|exact la0|exact lr rfl|exact ln0|refine lh1 ?_ ?_|exact lh0|exact bf0|exact bd0|refine bc0 ?_|exact bm0 rfl|exact bb0 rfl|exact bg0 rfl|exact li0 rfl|refine lg0 ?_|refine lt0 ?_|fail)
  (refine⟨by kernel_rfl,?_⟩;(conv=>whnf))
  obtain⟨i,out,c⟩:=x;obtain⟨hi1,hi2,hi3,hi4,hi5,hi6⟩:=hx;simp only at hi1 hi2 hi3 hi4 hi5 hi6;refine brI (fun h1=>?_) (fun h1=>?_)
  ·have hi:i<A.length:=by simp only[decide_eq_true_eq]at h1;omega
   conv=>whnf
   refine⟨⟨by omega,by simp only;omega⟩,fun(x:Int) hx=>?_⟩;have hx:A[i]? =some x:=by simpa using hx
   have hxb:=hA x (List.mem_of_getElem? hx);have ta:=wm A hi;rw[hx,Option.getD_some]at ta;have key: ∀y:Nat,y<4294967296->val (B.take (i+1))=val (B.take i)+4294967296^i*y->
    LB (out.set i (((x.toNat+y+c) % 4294967296:Nat):Int))/\(∀j,i+1<=j->(out.set i (((x.toNat+y+c) % 4294967296:Nat):Int))[j]?.getD 0=0)/\
    val (out.set i (((x.toNat+y+c) % 4294967296:Nat):Int))+4294967296^(i+1)*((x.toNat+y+c)/4294967296)=val (A.take (i+1))+val (B.take (i+1)):=by
    intro y hy tb;refine⟨hi2.set (by omega),fun j hj=>by rw[List.getElem?_set_ne (by omega)];exact hi5 j (by omega),?_⟩;have hs:=kz out i (((x.toNat+y+c) % 4294967296:Nat):Int) (by omega);rw[hi5 i (Nat.le_refl _),Int.toNat_zero,Nat.mul_zero,Nat.add_zero,Int.toNat_natCast]at hs;rw[hs,ta,tb,Nat.pow_succ];have hmd:=Nat.mod_add_div (x.toNat+y+c) 4294967296;generalize (x.toNat+y+c)/4294967296=t at hmd⊢;generalize (x.toNat+y+c) % 4294967296=r at hmd⊢;generalize 4294967296^i=P at hi6⊢;have e1:P*4294967296*t=P*(4294967296*t):=Nat.mul_assoc _ _ _;have e2:P*r+P*(4294967296*t)=P*x.toNat+P*y+P*c:=by rw[←Nat.mul_add,hmd,Nat.mul_add,Nat.mul_add]
    rw[e1];omega
   conv=>whnf
   refine brI (fun h2=>?_) (fun h2=>?_)
   ·have h2:i<B.length:=by simp only[decide_eq_true_eq]at h2;omega
    conv=>whnf
    refine⟨⟨by omega,by simp only;omega⟩,fun(y:Int) hy=>?_⟩;have hy:B[i]? =some y:=by simpa using hy
    have hyb:=hB y (List.mem_of_getElem? hy);have tb:=wm B h2;rw[hy,Option.getD_some]at tb;obtain⟨k1,k2,k3⟩:=key y.toNat (by omega) tb;have h261:=y261 x.toNat y.toNat c (by omega) (by omega) hi4;rw[show((x.toNat:Nat):Int)=x by omega,show((y.toNat:Nat):Int)=y by omega]at h261;conv=>whnf
    refine gZn h261 ?_;conv=>whnf
    refine⟨⟨by omega,by simp only;omega⟩,?_⟩;conv=>whnf
    refine⟨by simp only;omega,?_⟩;conv=>whnf
    refine⟨(i+1,out.set i (((x.toNat+y.toNat+c) % 4294967296:Nat):Int),(x.toNat+y.toNat+c)/4294967296),⟨by simp only;omega,k1,by simp only[List.length_set];exact hi3,by simp only;omega,k2,k3⟩,by show A.length-(i+1)<A.length-i;omega,?_⟩
    ((conv=>whnf);refine And.intro ?_ ?_;repeat' first|refine lc ?_ ?_|exact la0|exact lr rfl|exact ln0|refine lh1 ?_ ?_|exact lh0|exact bf0|exact bd0|refine bc0 ?_|exact bm0 rfl|exact bb0 rfl|exact bg0 rfl|exact li0 rfl|refine lg0 ?_|refine lt0 ?_|fail)
    ·exact ai0 (by rw[wI (by simp only;omega)];simp only;omega)
    all_goals trace_state
   ·have h2: ¬i<B.length:=by simp only[decide_eq_false_iff_not]at h2;omega
    obtain⟨k1,k2,k3⟩:=key 0 (by omega) (by rw[List.take_of_length_le (by omega),List.take_of_length_le (by omega)];simp);have h261:=y261 x.toNat 0 c (by omega) (by omega) hi4;rw[show((x.toNat:Nat):Int)=x by omega]at h261;conv=>whnf
    refine gZn h261 ?_;conv=>whnf
    refine⟨⟨by omega,by simp only;omega⟩,?_⟩;conv=>whnf
    refine⟨by simp only;omega,?_⟩;conv=>whnf
    refine⟨(i+1,out.set i (((x.toNat+0+c) % 4294967296:Nat):Int),(x.toNat+0+c)/4294967296),⟨by simp only;omega,k1,by simp only[List.length_set];exact hi3,by simp only;omega,k2,k3⟩,by show A.length-(i+1)<A.length-i;omega,?_⟩
    ((conv=>whnf);refine And.intro ?_ ?_;repeat' first|refine lc ?_ ?_|exact la0|exact lr rfl|exact ln0|refine lh1 ?_ ?_|exact lh0|exact bf0|exact bd0|refine bc0 ?_|exact bm0 rfl|exact bb0 rfl|exact bg0 rfl|exact li0 rfl|refine lg0 ?_|refine lt0 ?_|fail)
    ·exact ai0 (by rw[wI (by simp only;omega)];simp only;omega)
    all_goals trace_state
  ·have hi:i=A.length:=by simp only[decide_eq_false_iff_not]at h1;omega
   subst hi;rw[List.take_length,List.take_of_length_le hle]at hi6;have hs:=kz out A.length (c:Int) (by omega);rw[hi5 _ (Nat.le_refl _),Int.toNat_zero,Nat.mul_zero,Nat.add_zero,Int.toNat_natCast,hi6]at hs;have hp:=zao (hi2.set (i:=A.length) (x:=(c:Int)) (by omega));rw[List.length_set,hi3,hs]at hp;conv=>whnf
   refine⟨⟨by omega,by simp only;omega⟩,?_⟩;conv=>whnf
   refine⟨by simp only;omega,?_⟩;conv=>whnf
   exact⟨kq hp.symm,lh0⟩
theorem c284 (x y b:Nat) (D R:Int) (hD:((x:Int)-(y:Int)-(b:Int)) % 4294967296=D)
 (hR:bits BinOp.or IntKind.u32 (bits BinOp.and IntKind.u32 (bits BinOp.xor IntKind.u32 IntKind.u32.max (x:Int)) (y:Int)) (bits BinOp.and IntKind.u32 (bits BinOp.xor IntKind.u32 IntKind.u32.max (bits BinOp.xor IntKind.u32 (x:Int) (y:Int))) D)/2147483648=R) (w:World):
 Calls Tryz.prog 228 #[.int .u32 x,.int .u32 y,.int .u32 b] w fun e w'=>e= .returned (.tuple #[.int .u32 D,.int .u32 R])/\w'=w:=by
 go_enter Tryz.func228,Tryz.ntmps228
 go_wp2_with (simp only[hD,hR])
 go_ret2
 exact⟨rfl,rfl⟩
theorem b32 (x y:Nat) (hx:x<4294967296) (hy:y<4294967296):(BitVec.ofInt 32 (x:Int)).toNat =x/\(BitVec.ofInt 32 (y:Int)).toNat =y:=by
 constructor
 ·rw[BitVec.ofInt_natCast,BitVec.toNat_ofNat];exact Nat.mod_eq_of_lt hx
 ·rw[BitVec.ofInt_natCast,BitVec.toNat_ofNat];exact Nat.mod_eq_of_lt hy
theorem or32 (x y:Nat) (hx:x<4294967296) (hy:y<4294967296):bits .or .u32 (x:Int) (y:Int)=((x|||y:Nat):Int):=by
 obtain⟨e1,e2⟩:=b32 x y hx hy;have h:x|||y<2^32:=Nat.or_lt_two_pow hx hy
 have h2:(BitVec.ofInt 32 (x:Int)|||BitVec.ofInt 32 (y:Int)).toNat =x|||y:=by rw[BitVec.toNat_or,e1,e2]
 show IntKind.u32.wrap ((BitVec.ofInt 32 (x:Int)|||BitVec.ofInt 32 (y:Int)).toNat :Int)=_;rw[h2];exact zqu (by omega)
theorem zzg (x y:Nat) (hx:x<4294967296) (hy:y<4294967296):bits .xor .u32 (x:Int) (y:Int)=((x^^^y:Nat):Int):=by
 obtain⟨e1,e2⟩:=b32 x y hx hy;have h:x^^^y<2^32:=Nat.xor_lt_two_pow hx hy;have h2:(BitVec.ofInt 32 (x:Int)^^^BitVec.ofInt 32 (y:Int)).toNat =x^^^y:=by rw[BitVec.toNat_xor,e1,e2]
 show IntKind.u32.wrap ((BitVec.ofInt 32 (x:Int)^^^BitVec.ofInt 32 (y:Int)).toNat :Int)=_;rw[h2];exact zqu (by omega)
theorem zu9 {n:Nat} (h:n<4294967296):n.testBit 31=decide (2147483648<=n):=by
 rw[Nat.testBit_eq_decide_div_mod_eq]
 congr 1
 rw[eq_iff_iff];show n/2147483648 % 2=1<->_;omega
theorem qfr (x y b:Nat) (hx:x<4294967296) (hy:y<4294967296) (hb:b<=1):
 ((4294967295^^^x)&&& y|||(4294967295^^^(x^^^y))&&& ((x+4294967296-y-b) % 4294967296))/2147483648=if x<y+b then 1 else 0:=by
 have hd:=Nat.mod_lt (x+4294967296-y-b) (show 0<4294967296 by decide);have hdef: ∃d,(x+4294967296-y-b) % 4294967296=d:=⟨_,rfl⟩;obtain⟨d,hdd⟩:=hdef;rw[hdd]at hd⊢;have hN:((4294967295^^^x)&&& y|||(4294967295^^^(x^^^y))&&& d)<2^32:=
  Nat.or_lt_two_pow (Nat.lt_of_le_of_lt Nat.and_le_right hy) (Nat.lt_of_le_of_lt Nat.and_le_right hd)
 have ht:=zu9 hN;rw[Nat.testBit_or,Nat.testBit_and,Nat.testBit_and,Nat.testBit_xor,Nat.testBit_xor,Nat.testBit_xor,zu9 hx,zu9 hy,zu9 hd,show Nat.testBit 4294967295 31=true by decide]at ht;generalize ((4294967295^^^x)&&& y|||(4294967295^^^(x^^^y))&&& d)=N at hN ht⊢;have hN:N<4294967296:=hN;by_cases c1:2147483648<=x<;>by_cases c2:2147483648<=y<;>by_cases c3:2147483648<=d<;>simp only[c1,c2,c3,decide_true,decide_false,Bool.xor_true,Bool.xor_false,Bool.true_xor,Bool.false_xor,Bool.not_true,Bool.not_false,Bool.and_true,Bool.and_false,Bool.true_and,Bool.false_and,Bool.or_false,Bool.or_true,Bool.false_or,true_eq_decide_iff,false_eq_decide_iff]at ht<;>split<;>omega
theorem y284 (x y b:Nat) (hx:x<4294967296) (hy:y<4294967296) (hb:b<=1):Fn 228 [] [.int .u32 x,.int .u32 y,.int .u32 b] (.tup [.int .u32 ((x+4294967296-y-b) % 4294967296:Nat),.int .u32 ((if x<y+b then 1 else 0:Nat):Int)]) []:=by
 refine⟨⟨_,Tryz.func228,rfl,rfl⟩,fun w M pt ow S vs hcore hcont hargs=>?_⟩
 match vs,hargs with
 | [v1,v2,v3],⟨h1,h2,h3,_⟩=>
   obtain rfl:v1= .int .u32 x:=h1;obtain rfl:v2= .int .u32 y:=h2;obtain rfl:v3= .int .u32 b:=h3;have hd:=Nat.mod_lt (x+4294967296-y-b) (show 0<4294967296 by decide);have hD:((x:Int)-(y:Int)-(b:Int)) % 4294967296=(((x+4294967296-y-b) % 4294967296:Nat):Int):=by omega
   have hm:IntKind.u32.max=((4294967295:Nat):Int):=by decide
   have x1:4294967295^^^x<4294967296:=Nat.xor_lt_two_pow (n:=32) (by decide) hx;have x2:x^^^y<4294967296:=Nat.xor_lt_two_pow (n:=32) hx hy;have x3:4294967295^^^(x^^^y)<4294967296:=Nat.xor_lt_two_pow (n:=32) (by decide) x2;refine(c284 x y b _ ((if x<y+b then 1 else 0:Nat):Int) hD ?_ w).mono ?_
   ·rw[hm,zzg _ _ (by decide) hx,zzg _ _ hx hy,zzg _ _ (by decide) x2,bits_and_u32_nat _ _ x1 hy,bits_and_u32_nat _ _ x3 hd,
     or32 _ _ (Nat.lt_of_le_of_lt Nat.and_le_right hy) (Nat.lt_of_le_of_lt Nat.and_le_right hd),←qfr x y b hx hy hb]
    rfl
   ·rintro e w' ⟨rfl,rfl⟩;exact⟨_,M,pt,ow,S,rfl,hcore,hcont,⟨_,rfl,rfl,rfl,trivial⟩,rfl,rfl,rfl,Nat.le_refl _,fun _ _ _ _=>rfl,fun _ h=>h,fun _ h=> .inl h,fun _ h=> .inl h,fun _ _ h=> .inl h,fun _ _ h=> .inl h⟩
theorem qt (x k:Nat):(toL x).length <=k<->bl x<=32*k:=by rw[jd,uz]
theorem y263 (x y:Nat) (hx:bl x<=100000) (hy:bl y<=100000):Fn 198 [] [.sl .u32 (toL x),.sl .u32 (toL y)] (dnV (if 8192<bl x\/8192<bl y then([],9)else dnN (x+y))) []:=by
 have lx:(toL x).length <=100000:=(qt x 100000).2 (by omega);have ly:(toL y).length <=100000:=(qt y 100000).2 (by omega);have h215:=zzf [toL x,toL y] (by simp);have h272:=y272 (toL x) (toL y) (zw x) (zw y) lx ly;rw[zr,zr]at h272;have h221:=qcx (zd8 (max (toL x).length (toL y).length +1) (x+y)) (by rw[xm];omega);rw[zg8 (zat _ _)]at h221;have hv:val (zd8 (max (toL x).length (toL y).length +1) (x+y))=x+y:=by
  refine xf _ _ ?_;have h1:=(jd x _).1 (Nat.le_max_left (toL x).length (toL y).length);have h2:=(jd y _).1 (Nat.le_max_right (toL x).length (toL y).length);rw[Nat.pow_mul]at h1 h2;have e:(2:Nat)^32=4294967296:=rfl;rw[e]at h1 h2;rw[Nat.pow_succ];omega
 rw[hv]at h221;have hlg:([toL x,toL y].any lgB)=decide (8192<bl x\/8192<bl y):=by
  simp only[List.any_cons,List.any_nil,Bool.or_false,lgB,zgk,Bool.decide_or]
 rw[hlg]at h215;refine fnT hT4 hmx Tryz.func198 rfl rfl (ex:= []) ?_;conv=>whnf
 refine cbI [] _ h215 (fun h1=>?_) (fun h1=>?_)
 ·rw[if_pos (of_decide_eq_true h1)];conv=>whnf
  exact⟨lt0 (lc (li0 rfl) (lc (lr rfl) ln0)),lh0⟩
 ·rw[if_neg (of_decide_eq_false h1)];unfold dnN;conv=>whnf
  refine gZn h272 ?_;conv=>whnf
  refine gZn h221 ?_;conv=>whnf
  exact⟨lr rfl,lh0⟩
theorem y280 (x y:Nat) (hxl:(toL x).length <=100000) (hyl:(toL y).length <=100000) (hle:y<=x):Fn 220 [] [.sl .u32 (toL x),.sl .u32 (toL y)] (.sl .u32 (zd8 (toL x).length (x-y))) []:=by
 have hx216:=zit (toL x) (by omega);have hy216:=zit (toL y) (by omega);rw[qh]at hx216 hy216;have hA:=zw x;have hB:=zw y;have vA:=zr x;have vB:=zr y;have hll:(toL y).length <=(toL x).length :=Nat.not_lt.1 fun h=>by have:=zov h;omega
 have hlt:=uu hA (toL x).length (Nat.le_refl _);generalize toL x=A at*;generalize toL y=B at*;refine fnT hT4 hmx Tryz.func220 rfl rfl (ex:= []) ?_;conv=>whnf
 refine gZn hx216 ?_;conv=>whnf
 refine gZn hy216 ?_;conv=>whnf
 refine⟨⟨by omega,by omega,by omega⟩,?_⟩;conv=>whnf
 refine⟨Nat×List Int×Nat,fun x=>x.1<=A.length/\LB x.2.1/\x.2.1.length=A.length/\x.2.2<=1/\(∀j,x.1<=j->x.2.1[j]?.getD 0=0)/\val x.2.1+val (B.take x.1)=val (A.take x.1)+4294967296^x.1*x.2.2,fun x=> [(19,.int .i64 x.1),(6,.int .u32 x.2.2)],fun x=> [(16,.buf 104 .u32 x.2.1)],fun x=>A.length-x.1,(0,List.replicate A.length 0,0),⟨by simp,fun x hx=>by rw[List.eq_of_mem_replicate hx];omega,by simp,by simp,fun j _=>by rw[List.getElem?_replicate];split<;>rfl,by rw[zd5];simp[val]⟩,?_,fun x hx=>?_⟩
 ·((conv=>whnf);refine And.intro ?_ ?_;repeat' first|refine lc ?_ ?_|exact la0|exact lr rfl|exact ln0|refine lh1 ?_ ?_|exact lh0|exact bf0|exact bd0|refine bc0 ?_|exact bm0 rfl|exact bb0 rfl|exact bg0 rfl|exact li0 rfl|refine lg0 ?_|refine lt0 ?_|fail)
 (refine⟨by kernel_rfl,?_⟩;(conv=>whnf))
 obtain⟨i,out,c⟩:=x;obtain⟨hi1,hi2,hi3,hi4,hi5,hi6⟩:=hx;simp only at hi1 hi2 hi3 hi4 hi5 hi6;refine brI (fun h1=>?_) (fun h1=>?_)
 ·have hi:i<A.length:=by simp only[decide_eq_true_eq]at h1;omega
  conv=>whnf
  refine⟨⟨by omega,by simp only;omega⟩,fun(x:Int) hx=>?_⟩;have hx:A[i]? =some x:=by simpa using hx
  have hxb:=hA x (List.mem_of_getElem? hx);have ta:=wm A hi;rw[hx,Option.getD_some]at ta;have key: ∀y:Nat,y<4294967296->val (B.take (i+1))=val (B.take i)+4294967296^i*y->
   LB (out.set i (((x.toNat+4294967296-y-c) % 4294967296:Nat):Int))/\(∀j,i+1<=j->(out.set i (((x.toNat+4294967296-y-c) % 4294967296:Nat):Int))[j]?.getD 0=0)/\
   val (out.set i (((x.toNat+4294967296-y-c) % 4294967296:Nat):Int))+val (B.take (i+1))=val (A.take (i+1))+4294967296^(i+1)*(if x.toNat<y+c then 1 else 0):=by
   intro y hy tb;refine⟨hi2.set (by omega),fun j hj=>by rw[List.getElem?_set_ne (by omega)];exact hi5 j (by omega),?_⟩;have hs:=kz out i (((x.toNat+4294967296-y-c) % 4294967296:Nat):Int) (by omega);rw[hi5 i (Nat.le_refl _),Int.toNat_zero,Nat.mul_zero,Nat.add_zero,Int.toNat_natCast]at hs;rw[hs,ta,tb,Nat.pow_succ];have hmd:(x.toNat+4294967296-y-c) % 4294967296+y+c=x.toNat+4294967296*(if x.toNat<y+c then 1 else 0):=by split<;>omega
   generalize (x.toNat+4294967296-y-c) % 4294967296=r at hmd⊢;generalize (if x.toNat<y+c then 1 else 0)=t at hmd⊢;generalize 4294967296^i=P at hi6⊢;have e1:P*4294967296*t=P*(4294967296*t):=Nat.mul_assoc _ _ _;have e2:P*r+P*y+P*c=P*x.toNat+P*(4294967296*t):=by rw[←Nat.mul_add,←Nat.mul_add,hmd,Nat.mul_add]
   rw[e1];omega
  conv=>whnf
  refine brI (fun h2=>?_) (fun h2=>?_)
  ·have h2:i<B.length:=by simp only[decide_eq_true_eq]at h2;omega
   conv=>whnf
   refine⟨⟨by omega,by simp only;omega⟩,fun(y:Int) hy=>?_⟩;have hy:B[i]? =some y:=by simpa using hy
   have hyb:=hB y (List.mem_of_getElem? hy);have tb:=wm B h2;rw[hy,Option.getD_some]at tb;obtain⟨k1,k2,k3⟩:=key y.toNat (by omega) tb;have h284:=y284 x.toNat y.toNat c (by omega) (by omega) hi4;rw[show((x.toNat:Nat):Int)=x by omega,show((y.toNat:Nat):Int)=y by omega]at h284;conv=>whnf
   refine gZn h284 ?_;conv=>whnf
   refine⟨⟨by omega,by simp only;omega⟩,?_⟩;conv=>whnf
   refine⟨by simp only;omega,?_⟩;conv=>whnf
   refine⟨(i+1,out.set i (((x.toNat+4294967296-y.toNat-c) % 4294967296:Nat):Int),if x.toNat<y.toNat+c then 1 else 0),⟨by simp only;omega,k1,by simp only[List.length_set];exact hi3,by simp only;split<;>omega,k2,k3⟩,by show A.length-(i+1)<A.length-i;omega,?_⟩
   ((conv=>whnf);refine And.intro ?_ ?_;repeat' first|refine lc ?_ ?_|exact la0|exact lr rfl|exact ln0|refine lh1 ?_ ?_|exact lh0|exact bf0|exact bd0|refine bc0 ?_|exact bm0 rfl|exact bb0 rfl|exact bg0 rfl|exact li0 rfl|refine lg0 ?_|refine lt0 ?_|fail)
   ·exact ai0 (by rw[wI (by simp only;omega)];simp only;omega)
  ·have h2: ¬i<B.length:=by simp only[decide_eq_false_iff_not]at h2;omega
   obtain⟨k1,k2,k3⟩:=key 0 (by omega) (by rw[List.take_of_length_le (by omega),List.take_of_length_le (by omega)];simp);have h284:=y284 x.toNat 0 c (by omega) (by omega) hi4;rw[show((x.toNat:Nat):Int)=x by omega]at h284;conv=>whnf
   refine gZn h284 ?_;conv=>whnf
   refine⟨⟨by omega,by simp only;omega⟩,?_⟩;conv=>whnf
   refine⟨by simp only;omega,?_⟩;conv=>whnf
   refine⟨(i+1,out.set i (((x.toNat+4294967296-0-c) % 4294967296:Nat):Int),if x.toNat<0+c then 1 else 0),⟨by simp only;omega,k1,by simp only[List.length_set];exact hi3,by simp only;split<;>omega,k2,k3⟩,by show A.length-(i+1)<A.length-i;omega,?_⟩
   ((conv=>whnf);refine And.intro ?_ ?_;repeat' first|refine lc ?_ ?_|exact la0|exact lr rfl|exact ln0|refine lh1 ?_ ?_|exact lh0|exact bf0|exact bd0|refine bc0 ?_|exact bm0 rfl|exact bb0 rfl|exact bg0 rfl|exact li0 rfl|refine lg0 ?_|refine lt0 ?_|fail)
   ·exact ai0 (by rw[wI (by simp only;omega)];simp only;omega)
 ·have hi:i=A.length:=by simp only[decide_eq_false_iff_not]at h1;omega
  subst hi;rw[List.take_length,List.take_of_length_le hll,vA,vB]at hi6;rw[List.take_length,vA]at hlt;have ho:=uu hi2 out.length (Nat.le_refl _);rw[List.take_length,hi3]at ho;have hc:c=0:=by
   rcases(by omega:c=0\/c=1)with h|h
   ·exact h
   ·subst h;omega
  subst hc;have hp:=zao hi2;rw[hi3,show val out=x-y by omega]at hp;conv=>whnf
  exact⟨kq hp.symm,lh0⟩
theorem y264 (x y:Nat) (hx:bl x<=100000) (hy:bl y<=100000):Fn 199 [] [.sl .u32 (toL x),.sl .u32 (toL y)] (dnV (if 8192<bl x\/8192<bl y then([],9)else if x<y then([],2)else dnN (x-y))) []:=by
 have lx:(toL x).length <=100000:=(qt x 100000).2 (by omega);have ly:(toL y).length <=100000:=(qt y 100000).2 (by omega);have h215:=zzf [toL x,toL y] (by simp);have hlg:([toL x,toL y].any lgB)=decide (8192<bl x\/8192<bl y):=by
  simp only[List.any_cons,List.any_nil,Bool.or_false,lgB,zgk,Bool.decide_or]
 rw[hlg]at h215;have h177:=y177 (toL x) (toL y) (by omega) (by omega);rw[zdy]at h177;refine fnT hT4 hmx Tryz.func199 rfl rfl (ex:= []) ?_;conv=>whnf
 refine cbI [] _ h215 (fun h1=>?_) (fun h1=>?_)
 ·rw[if_pos (of_decide_eq_true h1)];conv=>whnf
  exact⟨lt0 (lc (li0 rfl) (lc (lr rfl) ln0)),lh0⟩
 rw[if_neg (of_decide_eq_false h1)];conv=>whnf
 refine gZn h177 ?_;conv=>whnf
 refine brI (fun h2=>?_) (fun h2=>?_)
 ·have h2:xz x y<0:=of_decide_eq_true h2;have h3:x<y:=by unfold xz at h2;split at h2;assumption;split at h2<;>omega
  rw[if_pos h3];conv=>whnf
  exact⟨lt0 (lc (li0 rfl) (lc (lr rfl) ln0)),lh0⟩
 ·have h2: ¬xz x y<0:=of_decide_eq_false h2;have h3: ¬x<y:=fun h=>h2 (by unfold xz;rw[if_pos h];decide)
  rw[if_neg h3];have h280:=y280 x y lx ly (by omega);have h221:=qcx (zd8 (toL x).length (x-y)) (by rw[xm];omega);rw[zg8 (zat _ _)]at h221;have hv:val (zd8 (toL x).length (x-y))=x-y:=by
   refine xf _ _ ?_;have h1:=(jd x _).1 (Nat.le_refl (toL x).length);rw[Nat.pow_mul]at h1;have e:(2:Nat)^32=4294967296:=rfl;rw[e]at h1;omega
  rw[hv]at h221;unfold dnN;conv=>whnf
  refine gZn h280 ?_;conv=>whnf
  refine gZn h221 ?_;conv=>whnf
  exact⟨lr rfl,lh0⟩
end Go.Proofs.YtgehdbenidimlaaGreatDoor
