/- Trees as plain data: valid ones, their depth, their size. -/
import Derived.Test.YthbgbmdmimejiaaGreatDoorMUa
import Derived.Shelf.Sort.Plain
import Derived.Shelf.Slices.In.SortNone
import Derived.Shelf.Slices.CompactS
set_option linter.all false
open And renaming intro->q4
open Bool renaming and_eq_true->q3,and_true->qF
open Int renaming mul_ne_zero->q6
open List renaming mem_of_getElem?->q2,drop_of_length_le->q5,length_eq_zero_iff->qn,length_append->qB,append_assoc->qD
open Nat renaming gcd->q8,gcd_dvd_right->q9,gcd_pos_of_pos_right->qd,le_refl->qA,div_mul_cancel->qC,gcd_dvd_left->qE
open Rat renaming intCast_mul->q7
open Go.IntKind renaming i64->qG
namespace Go.Proofs.YthbgbmdmimejiaaGreatDoor
open Go Go.Sx
mutual
def zi8:Ex->Nat
 |.mk _ _ _ _ l=>zry l+1
def zry:List Ex->Nat
 | []=>0
 |x::l=>max (zi8 x) (zry l)
end
mutual
def zdn:Ex->Nat
 |.mk _ _ _ _ l=>zgz l+1
def zgz:List Ex->Nat
 | []=>0
 |x::l=>zdn x+zgz l
end
mutual
def VS:Ex->Prop
 |.mk k q s p l=>zdy (.mk k q s p l)=true/\VSL l
def VSL:List Ex->Prop
 | []=>True
 |x::l=>VS x/\VSL l
end
mutual
theorem zr2:∀(e:Ex)(d n:Nat),((zd6 e d n).1=true<->VS e/\d+zi8 e<=21/\n+zdn e<=200)/\((zd6 e d n).1=true->(zd6 e d n).2=n+zdn e)
 |.mk k q s p l,d,n=>by
   simp only[zd6,VS,zi8,zdn];by_cases h:d<=20/\n+1<=200/\zdy (.mk k q s p l)=true
   .rw[Z4 h];have ih:=zr1 l (d+1) (n+1) O O;refine⟨⟨fun h1=>?_,fun h1=>?_⟩,fun h1=>?_⟩
    .have:=ih.1.1 h1;exact⟨⟨h.2.2,this.1⟩,O,O⟩
    .exact ih.1.2 ⟨h1.1.2,O,O⟩
    .have:=ih.2 h1;omega
   .rw[Z5 h];refine⟨⟨fun h1=>by simp at h1,fun h1=>absurd ⟨O,O,h1.1.1⟩ h⟩,fun h1=>by simp at h1⟩
theorem zr1:∀(l:List Ex)(d n:Nat),d<=21->n<=200->((zgj l d n).1=true<->VSL l/\d+zry l<=21/\n+zgz l<=200)/\((zgj l d n).1=true->(zgj l d n).2=n+zgz l)
 | [],d,n,hd,hn=>by
   simp only[zgj,VSL,zry,zgz];exact⟨⟨fun _=>⟨trivial,O,O⟩,fun _=>trivial⟩,fun _=>rfl⟩
 |x::l,d,n,hd,hn=>by
  have ih:=zr2 x d n;simp only[zgj,VSL,zry,zgz];rcases hx:zd6 x d n with ⟨b,m⟩
  rw[hx]at ih
  cases b with
  |true=>
   have h1:=ih.1.1 rfl;have h2:m=n+zdn x:=ih.2 rfl;subst h2;have ih2:=zr1 l d (n+zdn x) hd O;refine⟨⟨fun h=>?_,fun h=>?_⟩,fun h=>?_⟩
   .have:=ih2.1.1 h;exact⟨⟨h1.1,this.1⟩,O,O⟩
   .exact ih2.1.2 ⟨h.1.2,O,O⟩
   .have:=ih2.2 h;simp only at this⊢;omega
  |false=>
   refine⟨⟨fun h=>by simp at h,fun h=>?_⟩,fun h=>by simp at h⟩;have:=ih.1.2 ⟨h.1.1,O,O⟩;simp at this
end
theorem zfq(e:Ex):okT e=true<->VS e/\zi8 e<=20/\zdn e<=200:=by
 have:=(zr2 e 1 0).1;unfold okT;rw[this];constructor
 .rintro⟨h1,h2,h3⟩;exact⟨h1,O,O⟩
 .rintro⟨h1,h2,h3⟩;exact⟨h1,O,O⟩
def zcg(s:zn):Ex:=.mk 2 ⟨0,0⟩ s 0 []
def K1(k:Int):Prop:=k=7\/k=9\/k=10\/k=11\/k=12\/k=13
def K2(k:Int):Prop:=k=3\/k=4\/k=5\/k=6
inductive VT:Ex->Prop
 |num (r:Rt):rOk r=true->VT (xq r)
 |var (s:zn):zat s=true->VT (zcg s)
 |un (k:Int) (a:Ex):K1 k->VT a->VT (opE k 0 [a])
 |pow (n:Int) (a:Ex):0<=n->n<=16->VT a->VT (opE 8 n [a])
 |bin (k:Int) (a b:Ex):K2 k->VT a->VT b->VT (opE k 0 [a,b])
theorem zyl:∀ {l:List Ex},VSL l->∀x∈l,VS x
 | [],_,x,hx=>by simp at hx
 |y::l,h,x,hx=>by
  rcases List.mem_cons.1 hx with rfl|hx
  .exact h.1
  .exact zyl h.2 x hx
theorem len1{α:Type}{l:List α}(h:l.length=1):∃a,l= [a]:=by
 match l,h with
 | [a],_=>exact⟨a,rfl⟩
theorem len2{α:Type}{l:List α}(h:l.length=2):∃a b,l= [a,b]:=by
 match l,h with
 | [a,b],_=>exact⟨a,b,rfl⟩
theorem VS_VT:∀e,VS e->VT e:=by
 refine ztf fun k q s p l ih h=>?_
 simp only[VS]at h;obtain⟨hn,hl⟩:=h;have hall:∀x∈l,VT x:=fun x hx=>ih x hx (zyl hl x hx)
 have hn:(if k=1 then numB (.mk k q s p l)else if k=2 then varB (.mk k q s p l)else if k=8 then powB (.mk k q s p l)else opB (.mk k q s p l))=true:=hn;by_cases hk1:k=1
 .rw[Z4 hk1]at hn;subst hk1;have hn:(rOk q&&(s== [])&&decide (p=0)&&decide (l.length=0))=true:=hn;simp only[q3,Z2,beq_iff_eq]at hn;obtain⟨⟨⟨h1,rfl⟩,rfl⟩,h2⟩:=hn;obtain rfl:l= []:=qn.1 h2;exact VT.num q h1
 .rw[Z5 hk1]at hn;by_cases hk2:k=2
  .rw[Z4 hk2]at hn;subst hk2;have hn:(decide (q=⟨0,0⟩)&&zat s&&decide (p=0)&&decide (l.length=0))=true:=hn;simp only[q3,Z2,beq_iff_eq]at hn;obtain⟨⟨⟨rfl,h1⟩,rfl⟩,h2⟩:=hn;obtain rfl:l= []:=qn.1 h2;exact VT.var s h1
  .rw[Z5 hk2]at hn;by_cases hk8:k=8
   .rw[Z4 hk8]at hn;subst hk8;have hn:(decide (q=⟨0,0⟩)&&(s== [])&&decide (0<=p)&&decide (p<=16)&&decide (l.length=1))=true:=hn;simp only[q3,Z2,beq_iff_eq]at hn;obtain⟨⟨⟨⟨rfl,rfl⟩,h1⟩,h2⟩,h3⟩:=hn;obtain⟨a,rfl⟩:=len1 h3;exact VT.pow p a h1 h2 (hall a OC)
   .rw[Z5 hk8]at hn;have hn:(decide (q=⟨0,0⟩)&&(s== [])&&decide (p=0)&&decide ((l.length:Int)=opn k))=true:=hn;simp only[q3,Z2,beq_iff_eq]at hn;obtain⟨⟨⟨rfl,rfl⟩,rfl⟩,h1⟩:=hn;unfold opn at h1;split at h1
    .obtain⟨a,b,rfl⟩:=len2 (l:=l) O;exact VT.bin k a b ‹_› (hall a OC) (hall b OC)
    .split at h1
     .obtain⟨a,rfl⟩:=len1 (l:=l) O;exact VT.un k a (by unfold K1;omega) (hall a OC)
     .omega
theorem ql9{e:Ex}(h:VT e):VS e:=by
 induction h with
 |num r hr=>simp[xq,VS,VSL,zdy,numB,Ex.k,Ex.q,Ex.s,Ex.p,Ex.l,hr]
 |var s hs=>simp[zcg,VS,VSL,zdy,varB,Ex.k,Ex.q,Ex.s,Ex.p,Ex.l,hs]
 |un k a hk _ ih=>
  rcases hk with rfl|rfl|rfl|rfl|rfl|rfl<;>simp[opE,VS,VSL,zdy,opB,opn,Ex.k,Ex.q,Ex.s,Ex.p,Ex.l,ih]
 |pow n a h1 h2 _ ih=>simp[opE,VS,VSL,zdy,powB,Ex.k,Ex.q,Ex.s,Ex.p,Ex.l,ih,h1,h2]
 |bin k a b hk _ _ ih1 ih2=>
  rcases hk with rfl|rfl|rfl|rfl<;>simp[opE,VS,VSL,zdy,opB,opn,Ex.k,Ex.q,Ex.s,Ex.p,Ex.l,ih1,ih2]
theorem zb2{e:Ex}(h:okT e=true):VT e:=VS_VT e ((zfq e).1 h).1
theorem zwa{s:zn}(h:zat s=true):s.length<=20:=by
 simp only[zat,q3,Z2]at h;exact h.1.2
theorem qbe{e:Ex}(h:VT e):Sm e:=by
 induction h with
 |num r hr=>simp[xq,Sm,SmL]
 |var s hs=>have:=zwa hs;simp only[zcg,Sm,SmL,List.length_nil];exact⟨O,O,trivial⟩
 |un k a hk _ ih=>simp[opE,Sm,SmL,ih]
 |pow n a h1 h2 _ ih=>simp[opE,Sm,SmL,ih]
 |bin k a b hk _ _ ih1 ih2=>simp[opE,Sm,SmL,ih1,ih2]
theorem zvd{r:Rt}(h:rIn r)(h2:q8 r.n.natAbs r.d.natAbs=1):rOk r=true:=by simp[rOk,h,h2]
theorem zqm{n d:Int}(h:(xy n d).2=0):rOk (xy n d).1=true:=by
 unfold xy at*;split at h
 .simp at h
 .rename_i hd;rw[Z5 hd];split at h
  .simp at h
  .rename_i r hr;unfold low at hr;split at hr
   .rename_i hle;have hg:0<q8 n.natAbs d.natAbs:=qd _ O;have hco:q8 (n.natAbs/q8 n.natAbs d.natAbs) (d.natAbs/q8 n.natAbs d.natAbs)=1:=by rw[Nat.gcd_div (qE _ _) (q9 _ _)];exact Nat.div_self hg
    have hpos:0<d.natAbs/q8 n.natAbs d.natAbs:=Nat.div_pos (Nat.le_of_dvd O (q9 _ _)) hg;generalize n.natAbs/q8 n.natAbs d.natAbs=A at*;generalize d.natAbs/q8 n.natAbs d.natAbs=B at*;simp only[Option.some.injEq]at hr;subst hr;cases (decide (n<0) != decide (d<0))with
    |true=>exact zvd (by simp only[rIn,if_true];omega) (by simpa using hco)
    |false=>exact zvd (by simp only[rIn,Bool.false_eq_true,if_false];omega) (by simpa using hco)
   .simp at hr
theorem qjg{a b:Rt}{n d:Int}(h:(rOp a b n d).2=0):rOk (rOp a b n d).1=true:=by
 unfold rOp at*;split at h
 .rename_i e;rw[Z4 e];exact zqm h
 .simp at h
theorem qcj{a b r:Rt}{n d:Int}(h:okN (rOp a b n d)=some r):rOk r=true:=by
 unfold okN at h;split at h
 .rename_i e;simp only[Option.some.injEq]at h;rw[<-h];exact qjg e
 .simp at h
theorem zvo{a:Rt}:∀(n:Nat)(r s:Rt),rOk r=true->zsy a n r=some s->rOk s=true
 |0,r,s,hr,h=>by simp only[zsy,Option.some.injEq]at h;rw[<-h];exact hr
 |n+1,r,s,hr,h=>by
  simp only[zsy]at h;split at h
  .rename_i t ht;exact zvo n t s (qcj ht) h
  .simp at h
theorem zbr{n:Int}(h: -1073741824<=n/\n<=1073741824):rOk ⟨n,1⟩=true:=by
 exact zvd (by simp only[rIn];omega) (Nat.gcd_one_right _)
theorem zri{k n:Int}{l:List Ex}{r:Rt}(h:jy k n l=some r):rOk r=true:=by
 unfold jy at h
 repeat' split at h
 all_goals first
  |exact qcj h
  |exact zvo _ _ _ (zbr O) h
  |simp at h
theorem zc4{n:Int}(h: -1073741824<=n/\n<=1073741824):VT (ud n):=VT.num ⟨n,1⟩ (zbr h)
theorem zen(k n:Int)(a:Ex)(ha:VT a):(∃r,rOk r=true/\op1 k n a=xq r)\/op1 k n a=opE k n [a]\/(k=8/\n=1/\op1 k n a=a)\/(∃x,VT x/\k=7/\a=opE 7 0 [x]/\op1 k n a=x):=by
 unfold op1;cases hf:jy k n [a]with
 |some r=>exact .inl ⟨r,zri hf,rfl⟩
 |none=>
  simp only;unfold yd;have one:∃r,rOk r=true/\ud 1=xq r:=⟨⟨1,1⟩,zbr O,rfl⟩;have zero:∃r,rOk r=true/\ud 0=xq r:=⟨⟨0,1⟩,zbr O,rfl⟩;by_cases h7:k=7
  .rw[Z4 h7];subst h7;by_cases ha7:a.k=7
   .rw[Z4 ha7]
    cases ha with
    |num r hr=>simp[xq,Ex.k]at ha7
    |var s hs=>simp[zcg,Ex.k]at ha7
    |un k x hk hx=>
     have:k=7:=ha7;subst this;exact .inr (.inr (.inr ⟨x,hx,rfl,rfl,rfl⟩))
    |pow m x h1 h2 hx=>simp[opE,Ex.k]at ha7
    |bin k x y hk hx hy=>have:k=7:=ha7;unfold K2 at hk;omega
   .rw[Z5 ha7];exact .inr (.inl rfl)
  .rw[Z5 h7]
   repeat' split
   all_goals first
    |exact .inl one
    |exact .inl zero
    |exact .inr (.inl rfl)
    |exact .inr (.inr (.inl ⟨‹_›,‹_›,rfl⟩))
    |(subst k;exact .inr (.inl rfl))
theorem qfi(b:Ex):qj1 b=op1 7 0 b:=by
 unfold qj1 op1 yd;simp
theorem zem(k:Int)(a b:Ex):(∃r,rOk r=true/\op2 k a b=xq r)\/op2 k a b=opE k 0 [a,b]\/op2 k a b=a\/op2 k a b=b\/(k=4/\op2 k a b=op1 7 0 b):=by
 unfold op2;cases hf:jy k 0 [a,b]with
 |some r=>exact .inl ⟨r,zri hf,rfl⟩
 |none=>
  simp only;unfold zb0;have one:∃r,rOk r=true/\ud 1=xq r:=⟨⟨1,1⟩,zbr O,rfl⟩;have zero:∃r,rOk r=true/\ud 0=xq r:=⟨⟨0,1⟩,zbr O,rfl⟩
  repeat' split
  all_goals first
   |exact .inl one
   |exact .inl zero
   |exact .inr (.inl rfl)
   |(subst k;exact .inr (.inl rfl))
   |exact .inr (.inr (.inl rfl))
   |exact .inr (.inr (.inr (.inl rfl)))
   |exact .inr (.inr (.inr (.inr ⟨‹_›,qfi b⟩)))
theorem zb6{k n:Int}{a:Ex}(hk:(K1 k/\n=0)\/(k=8/\0<=n/\n<=16))(ha:VT a):VT (op1 k n a):=by
 rcases zen k n a ha with ⟨r,hr,e⟩|e|⟨_,_,e⟩|⟨x,hx,_,_,e⟩<;>rw[e]
 .exact VT.num r hr
 .rcases hk with ⟨hk,rfl⟩|⟨rfl,h1,h2⟩
  .exact VT.un k a hk ha
  .exact VT.pow n a h1 h2 ha
 .exact ha
 .exact hx
theorem zfc{k:Int}{a b:Ex}(hk:K2 k)(ha:VT a)(hb:VT b):VT (op2 k a b):=by
 rcases zem k a b with ⟨r,hr,e⟩|e|e|e|⟨_,e⟩<;>rw[e]
 .exact VT.num r hr
 .exact VT.bin k a b hk ha hb
 .exact ha
 .exact hb
 .exact zb6 (.inl ⟨.inl rfl,rfl⟩) hb
theorem zxw(e:Ex):1<=zi8 e:=by cases e;simp[zi8]
theorem zus(e:Ex):1<=zdn e:=by cases e;simp[zdn]
theorem zpi(k n:Int){a:Ex}(ha:VT a):zi8 (op1 k n a)<=zi8 a+1:=by
 have:=zxw a;rcases zen k n a ha with ⟨r,hr,e⟩|e|⟨_,_,e⟩|⟨x,hx,_,ha',e⟩<;>rw[e]
 .simp[xq,zi8,zry]
 .simp[opE,zi8,zry]
 .omega
 .rw[ha'];simp[opE,zi8,zry];omega
theorem qgq(k:Int)(a:Ex){b:Ex}(hb:VT b):zi8 (op2 k a b)<=max (zi8 a) (zi8 b)+1:=by
 have:=zxw a;have:=zpi 7 0 hb;rcases zem k a b with ⟨r,hr,e⟩|e|e|e|⟨_,e⟩<;>rw[e]
 .simp[xq,zi8,zry]
 .simp[opE,zi8,zry]
 .omega
 .omega
 .omega
def opS(k n:Int)(l:List Ex):Ex:=match l with
 | [a]=>op1 k n a
 | [a,b]=>op2 k a b
 |l=>opE k n l
mutual
def yq:Ex->Ex
 |.mk k q s p l=>if k=1\/k=2 then .mk k q s p l else opS k p (simL l)
def simL:List Ex->List Ex
 | []=> []
 |x::l=>yq x::simL l
end
theorem zho(r:Rt):yq (xq r)=xq r:=by simp[xq,yq]
theorem zhn(s:zn):yq (zcg s)=zcg s:=by simp[zcg,yq]
theorem xo{k n:Int}(a:Ex)(h:k≠1/\k≠2):yq (opE k n [a])=op1 k n (yq a):=by simp[opE,yq,simL,opS,h]
theorem zfk{k:Int}(a b:Ex)(h:k≠1/\k≠2):yq (opE k 0 [a,b])=op2 k (yq a) (yq b):=by simp[opE,yq,simL,opS,h]
theorem zgx{k:Int}(h:K1 k):k≠1/\k≠2:=by unfold K1 at h;omega
theorem zf8{k:Int}(h:K2 k):k≠1/\k≠2:=by unfold K2 at h;omega
theorem jn{e:Ex}(h:VT e):VT (yq e):=by
 induction h with
 |num r hr=>rw[zho];exact VT.num r hr
 |var s hs=>rw[zhn];exact VT.var s hs
 |un k a hk _ ih=>rw[xo a (zgx hk)];exact zb6 (.inl ⟨hk,rfl⟩) ih
 |pow n a h1 h2 _ ih=>rw[xo a O];exact zb6 (.inr ⟨rfl,h1,h2⟩) ih
 |bin k a b hk _ _ ih1 ih2=>rw[zfk a b (zf8 hk)];exact zfc hk ih1 ih2
theorem qgp{e:Ex}(h:VT e):zi8 (yq e)<=zi8 e:=by
 induction h with
 |num r hr=>rw[zho];exact qA _
 |var s hs=>rw[zhn];exact qA _
 |un k a hk ha ih=>
  rw[xo a (zgx hk)];have:=zpi k 0 (jn ha);simp only[opE,zi8,zry];omega
 |pow n a h1 h2 ha ih=>
  rw[xo a O];have:=zpi 8 n (jn ha);simp only[opE,zi8,zry];omega
 |bin k a b hk ha hb ih1 ih2=>
  rw[zfk a b (zf8 hk)];have:=qgq k (yq a) (jn hb);simp only[opE,zi8,zry];omega
def zkg(k n:Int)(a x:Ex):Ex:=
 if k=7 then op1 7 0 x
 else if k=8 then(if n=0 then ud 0 else op2 5 (op2 5 (ud n) (op1 8 (n-1) a)) x)
 else if k=9 then op2 5 (op1 9 0 a) x
 else if k=10 then op2 6 x a
 else if k=11 then op2 5 (op1 12 0 a) x
 else if k=12 then op1 7 0 (op2 5 (op1 11 0 a) x)
 else op2 6 x (op2 5 (ud 2) (op1 13 0 a))
def zph(k:Int)(a b x y:Ex):Ex:=
 if k=5 then op2 3 (op2 5 x b) (op2 5 a y)
 else if k=6 then(if b.k=1 then op2 6 x b else op2 6 (op2 4 (op2 5 x b) (op2 5 a y)) (op1 8 2 b))
 else op2 k x y
def dif(k p:Int)(l xs:List Ex):Ex:=match l,xs with
 | [a],[x]=>zkg k p a x
 | [a,b],[x,y]=>zph k a b x y
 | _,_=>ud 0
mutual
def zau(nm:zn):Ex->Ex
 |.mk k _ s p l=>if k=1 then ud 0 else if k=2 then(if s=nm then ud 1 else ud 0)else dif k p l (difL nm l)
def difL(nm:zn):List Ex->List Ex
 | []=> []
 |x::l=>zau nm x::difL nm l
end
theorem zrw(nm:zn)(r:Rt):zau nm (xq r)=ud 0:=by simp[xq,zau]
theorem zru(nm s:zn):zau nm (zcg s)=if s=nm then ud 1 else ud 0:=by simp[zcg,zau]
theorem zhd(nm:zn){k n:Int}(a:Ex)(h:k≠1/\k≠2):zau nm (opE k n [a])=zkg k n a (zau nm a):=by simp[opE,zau,difL,dif,h]
theorem zrv(nm:zn){k:Int}(a b:Ex)(h:k≠1/\k≠2):zau nm (opE k 0 [a,b])=zph k a b (zau nm a) (zau nm b):=by simp[opE,zau,difL,dif,h]
theorem zyk{k n:Int}{a x:Ex}(hk:(K1 k/\n=0)\/(k=8/\0<=n/\n<=16))(ha:VT a)(hx:VT x):VT (zkg k n a x):=by
 have two:∀k:Int,K2 k->∀a b,VT a->VT b->VT (op2 k a b):=fun k hk a b ha hb=>zfc hk ha hb
 have one:∀k:Int,K1 k->∀a,VT a->VT (op1 k 0 a):=fun k hk a ha=>zb6 (.inl ⟨hk,rfl⟩) ha
 unfold zkg;split
 .exact one 7 (by unfold K1;omega) x hx
 .split
  .split
   .exact zc4 O
   .exact two 5 (by unfold K2;omega) _ _ (two 5 (by unfold K2;omega) _ _ (zc4 (by unfold K1 at hk;omega)) (zb6 (.inr ⟨rfl,by unfold K1 at hk;omega,by unfold K1 at hk;omega⟩) ha)) hx
  .split
   .exact two 5 (by unfold K2;omega) _ _ (one 9 (by unfold K1;omega) _ ha) hx
   .split
    .exact two 6 (by unfold K2;omega) _ _ hx ha
    .split
     .exact two 5 (by unfold K2;omega) _ _ (one 12 (by unfold K1;omega) _ ha) hx
     .split
      .exact one 7 (by unfold K1;omega) _ (two 5 (by unfold K2;omega) _ _ (one 11 (by unfold K1;omega) _ ha) hx)
      .exact two 6 (by unfold K2;omega) _ _ hx (two 5 (by unfold K2;omega) _ _ (zc4 O) (one 13 (by unfold K1;omega) _ ha))
theorem qg7{k:Int}{a b x y:Ex}(hk:K2 k)(ha:VT a)(hb:VT b)(hx:VT x)(hy:VT y):VT (zph k a b x y):=by
 have two:∀k:Int,K2 k->∀a b,VT a->VT b->VT (op2 k a b):=fun k hk a b ha hb=>zfc hk ha hb
 unfold zph;split
 .exact two 3 (by unfold K2;omega) _ _ (two 5 (by unfold K2;omega) _ _ hx hb) (two 5 (by unfold K2;omega) _ _ ha hy)
 .split
  .split
   .exact two 6 (by unfold K2;omega) _ _ hx hb
   .exact two 6 (by unfold K2;omega) _ _ (two 4 (by unfold K2;omega) _ _ (two 5 (by unfold K2;omega) _ _ hx hb) (two 5 (by unfold K2;omega) _ _ ha hy)) (zb6 (.inr ⟨rfl,O,O⟩) hb)
  .exact two k hk _ _ hx hy
theorem zf7(nm:zn){e:Ex}(h:VT e):VT (zau nm e):=by
 induction h with
 |num r hr=>rw[zrw];exact zc4 O
 |var s hs=>rw[zru];split<;>exact zc4 O
 |un k a hk ha ih=>rw[zhd nm a (zgx hk)];exact zyk (.inl ⟨hk,rfl⟩) ha ih
 |pow n a h1 h2 ha ih=>rw[zhd nm a O];exact zyk (.inr ⟨rfl,h1,h2⟩) ha ih
 |bin k a b hk ha hb ih1 ih2=>rw[zrv nm a b (zf8 hk)];exact qg7 hk ha hb ih1 ih2
def zbp:Ex:=.mk 0 ⟨0,0⟩ [] 0 []
mutual
def zmn:Ex->Ex->Bool
 |.mk k q s p l,b=>(k==b.k)&&((q.n==b.q.n)&&(q.d==b.q.d))&&(s==b.s)&&(p==b.p)&&decide (l.length<=3)&&zk4 l b.l
def zk4:List Ex->List Ex->Bool
 | [],[]=>true
 |x::l,y::m=>zmn x y&&zk4 l m
 | [],_::_=>false
 | _::_,[]=>false
end
theorem zmm:∀ {l m:List Ex},l.length≠m.length->zk4 l m=false
 | [],[],h=>by simp at h
 | [],_::_,_=>rfl
 | _::_,[],_=>rfl
 |x::l,y::m,h=>by
  simp only[zk4];rw[zmm (by simpa using h)];simp
mutual
def zwo:Ex->Nat->Bool
 |.mk _ _ s _ l,d=>decide (30<d)||(decide (3<l.length)||(decide (100<s.length)||qcv l (d+1)))
def qcv:List Ex->Nat->Bool
 | [],_=>false
 |x::l,d=>zwo x d||qcv l d
end
def dfE(e:Ex)(nm:zn):Ex×Int:=if okT e&&zat nm then(if okT (zau nm (yq e))then(zau nm (yq e),0)else(zbp,5))else(zbp,1)
theorem zon(k n:Int){a:Ex}(ha:VT a):zdn (op1 k n a)<=zdn a+1:=by
 have:=zus a;rcases zen k n a ha with ⟨r,hr,e⟩|e|⟨_,_,e⟩|⟨x,hx,_,ha',e⟩<;>rw[e]
 .simp[xq,zdn,zgz]
 .simp[opE,zdn,zgz]
 .omega
 .rw[ha'];simp[opE,zdn,zgz];omega
theorem qem(k:Int)(a:Ex){b:Ex}(hb:VT b):zdn (op2 k a b)<=zdn a+zdn b+1:=by
 have:=zus a;have:=zon 7 0 hb;rcases zem k a b with ⟨r,hr,e⟩|e|e|e|⟨_,e⟩<;>rw[e]
 .simp[xq,zdn,zgz]
 .simp[opE,zdn,zgz]
 .omega
 .omega
 .omega
theorem qel{e:Ex}(h:VT e):zdn (yq e)<=zdn e:=by
 induction h with
 |num r hr=>rw[zho];exact qA _
 |var s hs=>rw[zhn];exact qA _
 |un k a hk ha ih=>
  rw[xo a (zgx hk)];have:=zon k 0 (jn ha);simp only[opE,zdn,zgz];omega
 |pow n a h1 h2 ha ih=>
  rw[xo a O];have:=zon 8 n (jn ha);simp only[opE,zdn,zgz];omega
 |bin k a b hk ha hb ih1 ih2=>
  rw[zfk a b (zf8 hk)];have:=qem k (yq a) (jn hb);simp only[opE,zdn,zgz];omega
theorem qjx{e:Ex}(h:okT e=true):okT (yq e)=true:=by
 have h1:=(zfq e).1 h;have hv:=zb2 h;have h2:=qgp hv;have h3:=qel hv;exact(zfq _).2 ⟨ql9 (jn hv),O,O⟩
set_option maxRecDepth 100000
set_option maxHeartbeats 8000000
mutual
def xm:Ex->List Ex
 |.mk k q s p l=>.mk k q s p l::zbo l
def zbo:List Ex->List Ex
 | []=> []
 |x::l=>xm x++zbo l
end
mutual
theorem zqo:∀e:Ex,(xm e).length =zdn e
 |.mk k q s p l=>by simp only[xm,zdn,List.length_cons,zlb l]
theorem zlb:∀l:List Ex,(zbo l).length =zgz l
 | []=>rfl
 |x::l=>by simp only[zbo,zgz,qB,zqo x,zlb l]
end
def qg8(l:Nat)(J:List Ex->GJ):Prop:=∀(n:List Ex)(y:Ex),n.length<1000->qmh Tryz.prog l [(jh,.gst (J n))] [.agg (exC y)] (.bool true) [(jh,.gst (J (n++ [y])))]
abbrev H1(l:Nat)(J:List Ex->GJ)(n:List Ex):Hp:= [(1000003,.cells [.cb l]),(jh,.gst (J n))]
abbrev H2(l:Nat)(J:List Ex->GJ)(n:List Ex):Hp:= [(1000004,.cells [.fn 126 [.ptr 1000003 0]]),(1000003,.cells [.cb l]),(jh,.gst (J n))]
theorem qkn{h h':Hp}(l:Nat)(J:List Ex->GJ)(n:List Ex):leH h h' (H1 l J n) (H1 l J n):=lh1 (bc0 (lc (lr rfl) ln0)) (lh1 (bg0 rfl) lh0)
theorem qfp{h h':Hp}(l:Nat)(J:List Ex->GJ)(n:List Ex):leH h h' (H2 l J n) (H2 l J n):=lh1 (bc0 (lc (lr rfl) ln0)) (lh1 (bc0 (lc (lr rfl) ln0)) (lh1 (bg0 rfl) lh0))
abbrev qg6(l:Nat)(J:List Ex->GJ)(e:Ex):Prop:=∀n:List Ex,n.length+zdn e<=1000->Fn 91 [(jh,.gst (J n))] [.agg (exC e),.cb l] (.bool true) [(jh,.gst (J (n++xm e)))]
theorem f153(l:Nat)(J:List Ex->GJ)(x:Ex)(hx:qg6 l J x)(n:List Ex)(hn:n.length+zdn x<=1000):Fn 126 (H1 l J n) [.agg (exC x),.ptr 1000003 0] (.bool true) (H1 l J (n++xm x)):=by
 refine fnT hT hmx Tryz.func126 rfl rfl (ex:= []) ?_;conv=>whnf
 refine⟨[.gst (J (n++xm x))],.bool true,hx n hn,?_⟩;conv=>whnf
 exact⟨lr rfl,qkn l J _⟩
theorem f163(l:Nat)(J:List Ex->GJ)(x:Ex)(hx:qg6 l J x)(n:List Ex)(hn:n.length+zdn x<=1000):Fn 161 (H2 l J n) [.agg (exC x),.ptr 1000004 0] (.bool false) (H2 l J (n++xm x)):=by
 refine fnT hT hmx Tryz.func161 rfl rfl (ex:= []) ?_;conv=>whnf
 refine⟨[.cells [.cb l],.gst (J (n++xm x))],.bool true,f153 l J x hx n hn,?_⟩;conv=>whnf
 exact⟨lr rfl,qfp l J _⟩
theorem zvm{l:List Ex}{i:Nat}{x:Ex}(hx:l[i]? =some x):zbo (l.take (i+1))=zbo (l.take i)++xm x:=by
 rw[List.take_add_one,hx];simp only[Option.toList_some];generalize l.take i=m
 induction m with
 |nil=>simp[zbo]
 |cons y m ih=>simp only[List.cons_append,zbo,ih,qD]
theorem zut:∀ {l:List Ex}{i:Nat}{x:Ex},l[i]? =some x->zgz (l.take i)+zdn x<=zgz l
 | [],_,_,h=>by simp at h
 |y::l,0,x,h=>by
  obtain rfl:y=x:=by simpa using h
  simp only[List.take_zero,zgz];omega
 |y::l,i+1,x,h=>by
  have:=zut (l:=l) (i:=i) (x:=x) (by simpa using h);simp only[List.take_succ_cons,zgz];omega
theorem f114w(l:Nat)(J:List Ex->GJ)(xs:List Ex)(hl:∀x∈xs,qg6 l J x)(hlen:xs.length<9223372036854775808)(n:List Ex)(hn:n.length+zgz xs<=1000):
 Fn 87 (H2 l J n) [.sl .ex xs,.fn 161 [.ptr 1000004 0]] (.int .i64 (-1)) (H2 l J (n++zbo xs)):=by
 refine fnT hT hmx Tryz.func87 rfl rfl (ex:= []) ?_;conv=>whnf
 refine⟨Nat,fun i=>i<=xs.length,fun i=> [(8,.int .i64 i)],fun i=> [(jh,.gst (J (n++zbo (xs.take i))))],fun i=>xs.length-i,0,OC,?_,fun i hi=>?_⟩
 ·((conv=>whnf);refine q4 ?_ ?_;repeat' first|refine lc ?_ ?_|refine lh1 ?_ ?_|refine bc0 ?_|exact KXY|refine lg0 ?_|refine lt0 ?_)
  exact bg0 (by simp[zbo])
 .refine gYe ?_;refine brI (fun h1=>?_) (fun h1=>?_)
  .conv=>whnf
   have hi:i<xs.length:=by simp only[Z2]at h1;omega
   refine⟨⟨O,O⟩,fun e he=>?_⟩;have he:xs[(i:Int).toNat]? =some e:=he;have he:xs[i]? =some e:=by simpa using he
   conv=>whnf
   refine⟨[.cells [.fn 126 [.ptr 1000003 0]],.cells [.cb l],.gst (J (n++zbo (xs.take i)++xm e))],.bool false,f163 l J e (hl e (q2 he)) _ (by rw[qB,zlb];have:=zut he;omega),?_⟩;conv=>whnf
   refine⟨i+1,by show i+1<=xs.length;omega,by show xs.length-(i+1)<xs.length-i;omega,?_⟩
   ((conv=>whnf);refine q4 ?_ ?_;repeat' first|refine lc ?_ ?_|refine lh1 ?_ ?_|refine bc0 ?_|exact KXY|refine lg0 ?_|refine lt0 ?_)
   .exact ai0 (by rw[wI O];omega)
   .exact bg0 (by rw[zvm he,qD])
  .conv=>whnf
   have hi:¬i<xs.length:=by simp only[Z3]at h1;omega
   rw[List.take_of_length_le O];exact⟨lr rfl,qfp l J _⟩
theorem f60w(l:Nat)(J:List Ex->GJ)(xs:List Ex)(hl:∀x∈xs,qg6 l J x)(hlen:xs.length<9223372036854775808)(n:List Ex)(hn:n.length+zgz xs<=1000):
 Fn 56 (H2 l J n) [.sl .ex xs,.fn 161 [.ptr 1000004 0]] (.bool false) (H2 l J (n++zbo xs)):=by
 refine fnT hT hmx Tryz.func56 rfl rfl (ex:= []) ?_;conv=>whnf
 refine⟨[.cells [.fn 126 [.ptr 1000003 0]],.cells [.cb l],.gst (J (n++zbo xs))],_,f114w l J xs hl hlen n hn,?_⟩;conv=>whnf
 exact⟨lr rfl,qfp l J _⟩
theorem f152(l:Nat)(J:List Ex->GJ)(xs:List Ex)(hl:∀x∈xs,qg6 l J x)(hlen:xs.length<9223372036854775808)(n:List Ex)(hn:n.length+zgz xs<=1000):
 Fn 125 (H1 l J n) [.sl .ex xs,.fn 126 [.ptr 1000003 0]] (.bool true) (H1 l J (n++zbo xs)):=by
 refine fnT hT hmx Tryz.func125 rfl rfl (ex:= []) ?_;conv=>whnf
 refine⟨[.cells [.fn 126 [.ptr 1000003 0]],.cells [.cb l],.gst (J (n++zbo xs))],.bool false,(f60w l J xs hl hlen n hn).sw [(3,1000004)] rfl,?_⟩;conv=>whnf
 exact⟨lr rfl,qkn l J _⟩
theorem f127(l:Nat)(J:List Ex->GJ)(hJ:qg8 l J):∀e:Ex,Sm e->qg6 l J e:=by
 refine ztf fun k q s p xs ih hs n hn=>?_
 simp only[Sm]at hs;simp only[zdn]at hn;have hl:∀x∈xs,qg6 l J x:=fun x hx=>ih x hx (zpn hs.2.2 x hx)
 refine fnT hT hmx Tryz.func91 rfl rfl (ex:= []) ?_;conv=>whnf
 refine⟨[.gst (J (n++ [Ex.mk k q s p xs]))],.bool true,hJ n (.mk k q s p xs) O,?_⟩;conv=>whnf
 refine⟨[.cells [.cb l],.gst (J (n++ [Ex.mk k q s p xs]++zbo xs))],.bool true,(f152 l J xs hl hs.2.1 (n++ [Ex.mk k q s p xs]) OE).sw [(3,1000003)] rfl,?_⟩;conv=>whnf
 refine⟨lr rfl,lh1 (bg0 ?_) lh0⟩;rw[show n++ [Ex.mk k q s p xs]++zbo xs=n++xm (.mk k q s p xs) by simp[xm]]
theorem f154(l:List Ex)(hl:l.length<=1000):Fn 127 [] [.sl .ex l] (.own 2000000) [(2000000,.buf 26 .ex l)]:=by
 refine fnT hT hmx Tryz.func127 rfl rfl (ex:= [7]) ?_;conv=>whnf
 refine⟨fun h=>?_,fun _=>?_⟩
 .conv=>whnf
  subst h;exact⟨trivial,lh1 (qfr rfl rfl) lh0⟩
 .conv=>whnf
  refine⟨OE,?_⟩;conv=>whnf
  exact⟨trivial,lh1 (bb0 OC) lh0⟩
abbrev ClOK(e:Ex):Prop:=Fn 92 [] [.agg (exC e)] (.agg (exC e)) []
theorem zzs{α:Type}{l:List α}{i:Nat}{x:α}(h:l[i]? =some x):l.set i x=l:=by
 obtain⟨hi,hx⟩:=List.getElem?_eq_some_iff.1 h;rw[<-hx];exact List.set_getElem_self hi
theorem zcy(k:Int)(q:Rt)(s:zn)(n:Int)(l:List Ex)(hl:∀x∈l,ClOK x)(hlen:l.length<=1000):ClOK (.mk k q s n l):=by
 refine fnT hT hmx Tryz.func92 rfl rfl (ex:= []) ?_;conv=>whnf
 refine⟨[],[.buf 26 .ex l],.own 2000000,f154 l hlen,?_⟩;conv=>whnf
 refine⟨Nat,fun i=>i<=l.length,fun i=> [(10,.int .i64 i)],fun _=> [(7,.buf 26 .ex l)],fun i=>l.length-i,0,OC,?_,fun i hi=>?_⟩
 ·((conv=>whnf);refine q4 ?_ ?_;repeat' first|refine lc ?_ ?_|refine lh1 ?_ ?_|refine bc0 ?_|exact KXY|refine lg0 ?_|refine lt0 ?_)
  all_goals first|exact bb0 rfl|exact trivial|fail
 .refine gYe ?_;refine brI (fun h1=>?_) (fun h1=>?_)
  .conv=>whnf
   have h1:i<l.length:=by simp only[Z2]at h1;omega
   refine⟨⟨O,O⟩,?_⟩;conv=>whnf
   refine⟨by simpa using h1,fun x hx=>?_⟩;have hx:l[(i:Int).toNat]? =some x:=hx;have hx:l[i]? =some x:=by simpa using hx
   conv=>whnf
   refine gYn (hl x (q2 hx)) ?_;refine⟨⟨O,O⟩,?_⟩;conv=>whnf
   rw[Ex.eta2];refine⟨by simpa using h1,?_⟩;conv=>whnf
   refine⟨i+1,by show i+1<=l.length;omega,by show l.length-(i+1)<l.length-i;omega,?_⟩
   ((conv=>whnf);refine q4 ?_ ?_;repeat' first|refine lc ?_ ?_|refine lh1 ?_ ?_|refine bc0 ?_|exact KXY|refine lg0 ?_|refine lt0 ?_)
   .exact ai0 (by rw[wI O];omega)
   .exact bb0 (zzs (by simpa using hx))
  .conv=>whnf
   exact⟨zo rfl,lh0⟩
theorem f128{e:Ex}(h:VT e):ClOK e:=by
 induction h with
 |num r hr=>exact zcy 1 r [] 0 [] OC OC
 |var s hs=>exact zcy 2 ⟨0,0⟩ s 0 [] OC OC
 |un k a hk ha ih=>exact zcy k ⟨0,0⟩ [] 0 [a] (by simpa using ih) OC
 |pow n a h1 h2 ha ih=>exact zcy 8 ⟨0,0⟩ [] n [a] (by simpa using ih) OC
 |bin k a b hk ha hb ih1 ih2=>exact zcy k ⟨0,0⟩ [] 0 [a,b] (by simpa using⟨ih1,ih2⟩) OC
def szN(e:Ex):Nat:=if okT e then zdn e else 0
def qd0(e:Ex):List Ex:=if okT e then xm e else []
theorem zy8(e:Ex):(qd0 e).length =szN e:=by
 unfold qd0 szN;split
 .exact zqo e
 .rfl
theorem f126(l:Nat)(J:List Ex->GJ)(hJ:qg8 l J)(e:Ex)(he:Sm e):Fn 90 [(jh,.gst (J [])),(1000001,.cells (exC e))] [.cb l,.ptr 1000001 0] (.tup []) [(jh,.gst (J (qd0 e))),(1000001,.cells (exC e))]:=by
 refine fnT hT hmx Tryz.func90 rfl rfl (ex:= []) ?_;conv=>whnf
 refine cbI [] (okT e) (f17 e he) (fun h1=>?_) (fun h1=>?_)
 .conv=>whnf
  refine gYn (f128 (zb2 h1)) ?_;refine⟨[.gst (J ([]++xm e))],.bool true,f127 l J hJ e he [] (by have:=((zfq e).1 h1).2.2;simp;omega),?_⟩;conv=>whnf
  refine⟨lr rfl,lh1 (bg0 ?_) (lh1 (bc0 ?_) lh0)⟩
  .rw[show qd0 e= []++xm e by simp[qd0,h1]]
  .exact lc (lr rfl) (lc (lr rfl) (lc (lr rfl) (lc (lr rfl) (lc (lr rfl) (lc (lr rfl) ln0)))))
 .conv=>whnf
  refine⟨lr rfl,lh1 (bg0 ?_) (lh1 (bc0 ?_) lh0)⟩
  .rw[show qd0 e= [] by simp[qd0,h1]]
  .exact lc (lr rfl) (lc (lr rfl) (lc (lr rfl) (lc (lr rfl) (lc (lr rfl) (lc (lr rfl) ln0)))))
theorem f71(e:Ex):Fn 59 [] [.agg (exC e)] (.fn 90 [.ptr 2000000 0]) [(2000000,.cells (exC e))]:=by
 refine fnT hT hmx Tryz.func59 rfl rfl (ex:= [1]) ?_;conv=>whnf
 (refine q4 ?_ ?_;repeat' first|refine lc ?_ ?_|exact la0|exact lr rfl|exact ln0|refine lh1 ?_ ?_|exact lh0|exact bf0|exact bd0|refine bc0 ?_|exact bm0 rfl|exact bg0 rfl|exact li0 rfl|refine lg0 ?_|refine lt0 ?_|fail)
abbrev qdm(a:Ex):Prop:=∀b,Fn 20 [] [.agg (exC a),.agg (exC b)] (.bool (zmn a b)) []
theorem f35(l m:List Ex)(hl:∀x∈l,qdm x)(hlen:l.length<9223372036854775808):Fn 54 [] [.sl .ex l,.sl .ex m,.fn 20 []] (.bool (zk4 l m)) []:=by
 refine fnT hT hmx Tryz.func54 rfl rfl (ex:= []) ?_;conv=>whnf
 refine brI (fun h1=>?_) (fun h1=>?_)
 .conv=>whnf
  have h1:l.length≠m.length:=by simp only[bne_iff_ne,ne_eq]at h1;omega
  exact⟨ab0 (zmm h1).symm,lh0⟩
 .conv=>whnf
  have h1:l.length=m.length:=by simp only[bne_eq_false_iff_eq]at h1;omega
  refine⟨Nat,fun i=>i<=l.length/\zk4 (l.drop i) (m.drop i)=zk4 l m,fun i=> [(17,.int .i64 i)],fun _=> [],fun i=>l.length-i,0,⟨OC,rfl⟩,?_,fun i hi=>?_⟩
  ·((conv=>whnf);refine q4 ?_ ?_;repeat' first|exact ln0|exact lh0|exact la0|exact lr rfl|exact li0 rfl|refine lg0 ?_|refine lt0 ?_|exact bf0|exact bd0|refine lc ?_ ?_|refine lh1 ?_ ?_|refine bc0 ?_|fail)
  .refine gYe ?_;obtain⟨hi1,hi2⟩:=hi;refine brI (fun h3=>?_) (fun h3=>?_)
   .conv=>whnf
    have h3:i<l.length:=by simp only[Z2]at h3;omega
    refine⟨⟨O,O⟩,fun x hx=>?_⟩;have hx:l[i]? =some x:=by simpa using hx
    conv=>whnf
    refine⟨⟨O,O⟩,fun y hy=>?_⟩;have hy:m[i]? =some y:=by simpa using hy
    conv=>whnf
    refine gYn (hl x (q2 hx) y) ?_;rw[wv hx,wv hy]at hi2;simp only[zk4]at hi2;refine brI (fun h4=>?_) (fun h4=>?_)
    .conv=>whnf
     have h4:zmn x y=false:=by simpa using h4
     rw[h4]at hi2;exact⟨ab0 (by rw[<-hi2];rfl),lh0⟩
    .conv=>whnf
     have h4:zmn x y=true:=by simpa using h4
     rw[h4]at hi2;refine⟨i+1,⟨O,by rw[<-hi2];rfl⟩,by show l.length-(i+1)<l.length-i;omega,?_⟩
     ((conv=>whnf);refine q4 ?_ ?_;repeat' first|exact ln0|exact lh0|exact la0|exact lr rfl|exact li0 rfl|refine lg0 ?_|refine lt0 ?_|exact bf0|exact bd0|refine lc ?_ ?_|refine lh1 ?_ ?_|refine bc0 ?_|fail)
     exact ai0 (by rw[wI O];omega)
   .conv=>whnf
    have h3:¬i<l.length:=by simp only[Z3]at h3;omega
    rw[q5 O,q5 O]at hi2;exact⟨ab0 (by rw[<-hi2];rfl),lh0⟩
theorem zzu(k:Int)(q:Rt)(s:zn)(p:Int)(l:List Ex)(b:Ex):zmn (.mk k q s p l) b=((k==b.k)&&((q.n==b.q.n)&&(q.d==b.q.d))&&(s==b.s)&&(p==b.p)&&decide (l.length<=3)&&zk4 l b.l):=by rw[zmn]
theorem f19:∀a,qdm a:=by
 refine ztf fun k q s p l ih=>?_
 intro b;rw[zzu];refine fnT hT hmx Tryz.func20 rfl rfl (ex:= []) ?_;conv=>whnf
 refine brI (fun h1=>?_) (fun h1=>?_)
 .conv=>whnf
  have h1:(k==b.k)=true:=h1;refine brI (fun h2=>?_) (fun h2=>?_)
  .conv=>whnf
   have h2:((q.n==b.q.n)&&((q.d==b.q.d)&&true))=true:=h2;refine brI (fun h3=>?_) (fun h3=>?_)
   .conv=>whnf
    have h3:(s==b.s)=true:=h3;refine brI (fun h4=>?_) (fun h4=>?_)
    .conv=>whnf
     have h4:(p==b.p)=true:=h4;refine brI (fun h5=>?_) (fun h5=>?_)
     .conv=>whnf
      have h5:l.length<=3:=by have h5:decide ((l.length:Int)<=3)=true:=h5;simp only[Z2]at h5;omega
      refine gYn (f35 l b.l ih O) ?_;exact⟨ab0 (by rw[qF]at h2;simp[h1,h2,h3,h4,h5]),lh0⟩
     .conv=>whnf
      have h5:¬l.length<=3:=by have h5:decide ((l.length:Int)<=3)=false:=h5;simp only[Z3]at h5;omega
      exact⟨ab0 (by simp[h5]),lh0⟩
    .conv=>whnf
     have h4:(p==b.p)=false:=h4;exact⟨ab0 (by rw[h4];simp),lh0⟩
   .conv=>whnf
    have h3:(s==b.s)=false:=h3;exact⟨ab0 (by rw[h3];simp),lh0⟩
  .conv=>whnf
   have h2:((q.n==b.q.n)&&((q.d==b.q.d)&&true))=false:=h2;exact⟨ab0 (by rw[qF]at h2;rw[h2];simp),lh0⟩
 .conv=>whnf
  have h1:(k==b.k)=false:=h1;exact⟨ab0 (by rw[h1];simp),lh0⟩
def lxL:List Ex->Nat->Nat->Int
 | [],_,_=> -1
 |x::l,d,i=>if zwo x d then i else lxL l d (i+1)
theorem zwg:∀(l:List Ex)(d i:Nat),0<=lxL l d i<->qcv l d=true
 | [],d,i=>by simp[lxL,qcv]
 |x::l,d,i=>by
  simp only[lxL,qcv]
  cases h:zwo x d with
  |true=>simp
  |false=>simpa using zwg l d (i+1)
abbrev Hl(d:Nat):Hp:= [(1000003,cb1 d)]
abbrev zys(e:Ex):Prop:=∀d:Nat,d<=31->Fn 22 [] [.agg (exC e),.int .i64 d] (.bool (zwo e d)) []
theorem leHl{h h':Hp}(d:Nat):leH h h' (Hl d) (Hl d):=lh1 (bc0 (lc (lr rfl) ln0)) lh0
theorem f61(e:Ex)(h:zys e)(d:Nat)(hd:d<=30):Fn 57 (Hl d) [.agg (exC e),.ptr 1000003 0] (.bool (zwo e (d+1))) (Hl d):=by
 refine fnT hT hmx Tryz.func57 rfl rfl (ex:= []) ?_;conv=>whnf
 rw[wI (x:=(d:Int)+1) O];refine⟨[],.bool (zwo e (d+1)),h (d+1) O,?_⟩;conv=>whnf
 exact⟨lr rfl,leHl d⟩
theorem f114l(l:List Ex)(hl:∀x∈l,zys x)(hlen:l.length<9223372036854775808)(d:Nat)(hd:d<=30):
 Fn 87 (Hl d) [.sl .ex l,.fn 57 [.ptr 1000003 0]] (.int .i64 (lxL l (d+1) 0)) (Hl d):=by
 refine fnT hT hmx Tryz.func87 rfl rfl (ex:= []) ?_;conv=>whnf
 refine⟨Nat,fun i=>i<=l.length/\lxL (l.drop i) (d+1) i=lxL l (d+1) 0,fun i=> [(8,.int .i64 i)],fun _=> [],fun i=>l.length-i,0,⟨OC,rfl⟩,?_,fun i hi=>?_⟩
 ·((conv=>whnf);refine q4 ?_ ?_;repeat' first|exact ln0|exact lh0|exact la0|exact lr rfl|exact li0 rfl|refine lg0 ?_|refine lt0 ?_|exact bf0|exact bd0|refine lc ?_ ?_|refine lh1 ?_ ?_|refine bc0 ?_|fail)
 .refine gYe ?_;obtain⟨hi1,hi2⟩:=hi;refine brI (fun h1=>?_) (fun h1=>?_)
  .conv=>whnf
   have hi:i<l.length:=by simp only[Z2]at h1;omega
   refine⟨⟨O,O⟩,fun e he=>?_⟩;have he:l[i]? =some e:=by simpa using he
   conv=>whnf
   refine⟨[cb1 d],.bool (zwo e (d+1)),f61 e (hl e (q2 he)) d hd,?_⟩;conv=>whnf
   rw[wv he]at hi2;simp only[lxL]at hi2;refine brI (fun h2=>?_) (fun h2=>?_)
   .conv=>whnf
    rw[Z4 h2]at hi2;exact⟨ai0 hi2,leHl d⟩
   .conv=>whnf
    rw[Z5 (by rw[h2];simp)]at hi2;refine⟨i+1,⟨O,hi2⟩,by show l.length-(i+1)<l.length-i;omega,?_⟩
    ((conv=>whnf);refine q4 ?_ ?_;repeat' first|exact ln0|exact lh0|exact la0|exact lr rfl|exact li0 rfl|refine lg0 ?_|refine lt0 ?_|exact bf0|exact bd0|refine lc ?_ ?_|refine lh1 ?_ ?_|refine bc0 ?_|fail)
    exact ai0 (by rw[wI O];omega)
  .conv=>whnf
   have hi:¬i<l.length:=by simp only[Z3]at h1;omega
   rw[q5 O]at hi2;exact⟨ai0 hi2,leHl d⟩
theorem f60l(l:List Ex)(hl:∀x∈l,zys x)(hlen:l.length<9223372036854775808)(d:Nat)(hd:d<=30):
 Fn 56 (Hl d) [.sl .ex l,.fn 57 [.ptr 1000003 0]] (.bool (qcv l (d+1))) (Hl d):=by
 refine fnT hT hmx Tryz.func56 rfl rfl (ex:= []) ?_;conv=>whnf
 refine⟨[cb1 d],_,f114l l hl hlen d hd,?_⟩;conv=>whnf
 exact⟨ab0 (by have:=zwg l (d+1) 0;cases hc:qcv l (d+1)<;>simp_all),leHl d⟩
theorem f15:∀(e:Ex),Sm e->zys e:=by
 refine ztf fun k q s p l ih hs=>?_
 simp only[Sm]at hs;have hl:∀x∈l,zys x:=fun x hx=>ih x hx (zpn hs.2.2 x hx)
 intro d hd;have hcon:=f60l l hl hs.2.1 d;refine fnT hT hmx Tryz.func22 rfl rfl (ex:= []) ?_;conv=>whnf
 simp only[zwo];refine brI (fun h1=>?_) (fun h1=>?_)
 .conv=>whnf
  have h1:30<d:=by simp only[Z2]at h1;omega
  exact⟨ab0 (by simp[h1]),lh0⟩
 .conv=>whnf
  have h1:¬30<d:=by simp only[Z3]at h1;omega
  refine brI (fun h2=>?_) (fun h2=>?_)
  .conv=>whnf
   have h2:3<l.length:=by have h2:decide ((l.length:Int)>3)=true:=h2;simp only[Z2]at h2;omega
   exact⟨ab0 (by simp[h2]),lh0⟩
  .conv=>whnf
   have h2:¬3<l.length:=by have h2:decide ((l.length:Int)>3)=false:=h2;simp only[Z3]at h2;omega
   refine brI (fun h3=>?_) (fun h3=>?_)
   .conv=>whnf
    have h3:100<s.length:=by have h3:decide ((s.length:Int)>100)=true:=h3;simp only[Z2]at h3;omega
    exact⟨ab0 (by simp[h3]),lh0⟩
   .conv=>whnf
    have h3:¬100<s.length:=by have h3:decide ((s.length:Int)>100)=false:=h3;simp only[Z3]at h3;omega
    refine⟨[cb1 d],.bool (qcv l (d+1)),(hcon O).sw [(3,1000003)] rfl,?_⟩;conv=>whnf
    exact⟨ab0 (by simp[h1,h2,h3]),lh0⟩
theorem zko(x:Int):qG.wrap x=if 9223372036854775808<=x % 18446744073709551616 then x % 18446744073709551616-18446744073709551616 else x % 18446744073709551616:=by
 simp only[IntKind.wrap,show qG.signed=true from rfl,show qG.bits=64 from rfl,Bool.true_and,Z2,ge_iff_le];rfl
theorem zy7(x y:Int)(h:x % 18446744073709551616=y % 18446744073709551616):qG.wrap x=qG.wrap y:=by rw[zko,zko,h]
theorem ztw(n:Nat):qG.wrap (qG.wrap (n:Int)+1)=qG.wrap ((n+1:Nat):Int):=by
 refine zy7 _ _ ?_;rw[zko];split<;>omega
theorem qip(e:Ex):szN e<=200:=by
 unfold szN;split
 .rename_i h;exact((zfq e).1 h).2.2
 .omega
theorem f27(e:Ex)(he:Sm e):Fn 24 [] [.agg (exC e)] (.int .i64 (szN e)) []:=by
 have hle:=qip e;refine fnT hT hmx Tryz.func24 rfl rfl (ex:= []) ?_;conv=>whnf
 refine⟨[],[.cells (exC e)],.fn 90 [.ptr 2000000 0],f71 e,?_⟩;conv=>whnf
 refine⟨[3],Nat,Ex,fun n=> [.cells [.int .i64 (qG.wrap (n:Int))]],fun _=>true,fun _=>.skip,fun y=> [.agg (exC y)],fun n _=>n+1,0,szN e,.tup [],[.cells (exC e)],?_,rfl,Z,Z,fun _=>⟨rfl,rfl⟩,fun _=>rfl,?_,?_,?_⟩
 .rfl
 .intro l J h;have hJ:qg8 l (fun s=>J s.length):=fun s y _=>by
   show qmh Tryz.prog l [(jh,.gst (J s.length))] [.agg (exC y)] (.bool true) [(jh,.gst (J (s++ [y]).length))];rw[show(s++ [y]).length =s.length+1 by simp];exact h s.length y rfl
  have h126:=f126 l (fun s=>J s.length) hJ e he;rw[zy8]at h126;exact h126.sw [(5,1000001)] rfl
 .intro x y _;conv=>whnf
  refine⟨rfl,?_⟩;unfold zro;exact lh1 (bc0 (lc (ai0 (ztw x)) ln0)) lh0
 .conv=>whnf
  exact⟨ai0 (wI O),lh0⟩
theorem f28(e:Ex)(he:Sm e):Fn 6 [] [.agg (exC e)] (.bool (!zwo e 0&&(okT e&&decide (szN e<=60)))) []:=by
 refine fnT hT hmx Tryz.func6 rfl rfl (ex:= []) ?_;conv=>whnf
 refine cbI [] (zwo e 0) (f15 e he 0 O) (fun h1=>?_) (fun h1=>?_)
 .conv=>whnf
  exact⟨ab0 (by rw[h1];rfl),lh0⟩
 .conv=>whnf
  refine cbI [] (okT e) (f17 e he) (fun h2=>?_) (fun h2=>?_)
  .conv=>whnf
   refine gYn (f27 e he) ?_;exact⟨ab0 (by rw[h1,h2];simp;omega),lh0⟩
  .conv=>whnf
   exact⟨ab0 (by rw[h2];simp),lh0⟩
def rv(r:Rt):Rat:=(r.n:Rat)/(r.d:Rat)
theorem zbd{a:Int}(h:a≠0):(a:Rat)≠0:=by
 intro e;exact h (by exact_mod_cast e)
theorem qeu{a b c d:Int}(hb:b≠0)(hd:d≠0)(h:a*d=c*b):(a:Rat)/(b:Rat)=(c:Rat)/(d:Rat):=by
 have hb:=zbd hb;have hd:=zbd hd;have h:(a:Rat)*(d:Rat)=(c:Rat)*(b:Rat):=by exact_mod_cast h
 grind
theorem zve{n d:Int}(hd:d≠0):((xy n d).2=0/\rv (xy n d).1=(n:Rat)/(d:Rat))\/(xy n d).2=9:=by
 unfold xy;rw[Z5 hd]
 cases hl:low (decide (n<0) != decide (d<0)) n.natAbs d.natAbs with
 |none=>exact .inr rfl
 |some r=>
  refine .inl ⟨rfl,?_⟩;unfold low at hl;split at hl
  .cases hl
   have hg:0<q8 n.natAbs d.natAbs:=qd _ O;have h1:=qC (qE n.natAbs d.natAbs);have h2:=qC (q9 n.natAbs d.natAbs);generalize q8 n.natAbs d.natAbs=g at*;generalize n.natAbs/g=p at*;generalize d.natAbs/g=q at*;unfold rv;have hq:(q:Int)≠0:=by
    intro e;have:q=0:=O;subst this;simp at h2;omega
   have h1':(p:Int)*g=n.natAbs:=by exact_mod_cast h1
   have h2':(q:Int)*g=d.natAbs:=by exact_mod_cast h2
   refine qeu hq hd ?_;have hgz:(g:Int)≠0:=O;apply Int.eq_of_mul_eq_mul_right hgz;by_cases a:n<0<;>by_cases b:d<0<;>simp[a,b]
   .have e1:(p:Int)*g= -n:=by omega
    have e2:(q:Int)*g= -d:=O;grind
   .have e1:(p:Int)*g= -n:=by omega
    have e2:(q:Int)*g=d:=O;grind
   .have e1:(p:Int)*g=n:=by omega
    have e2:(q:Int)*g= -d:=O;grind
   .have e1:(p:Int)*g=n:=by omega
    have e2:(q:Int)*g=d:=O;grind
  .cases hl
theorem zk6{r:Rt}(h:rOk r=true):r.d≠0:=by have:=(zcm h).1;omega
def qh1(p:Rt×Int)(x:Rat):Prop:=(p.2=0/\rOk p.1=true/\rv p.1=x)\/p.2=9
theorem ze6{n d:Int}{x:Rat}(hd:d≠0)(h:(n:Rat)/(d:Rat)=x):qh1 (xy n d) x:=by
 rcases zve (n:=n) hd with ⟨h1,h2⟩|h1
 .exact .inl ⟨h1,zqm h1,by rw[h2,h]⟩
 .exact .inr h1
theorem qbd{a b:Rt}(ha:rOk a=true)(hb:rOk b=true):qh1 (qhn a b) (rv a+rv b):=by
 unfold qhn;rw[zbq ha hb];have h1:=zk6 ha;have h2:=zk6 hb;refine ze6 (q6 h1 h2) ?_;have h1:=zbd h1;have h2:=zbd h2;unfold rv;simp only[Rat.intCast_add,q7];grind
theorem zp5{a b:Rt}(ha:rOk a=true)(hb:rOk b=true):qh1 (qcb a b) (rv a-rv b):=by
 unfold qcb;rw[zbq ha hb];have h1:=zk6 ha;have h2:=zk6 hb;refine ze6 (q6 h1 h2) ?_;have h1:=zbd h1;have h2:=zbd h2;unfold rv;simp only[Rat.intCast_sub,q7];grind
theorem zqy{a b:Rt}(ha:rOk a=true)(hb:rOk b=true):qh1 (zsv a b) (rv a*rv b):=by
 unfold zsv;rw[zbq ha hb];have h1:=zk6 ha;have h2:=zk6 hb;refine ze6 (q6 h1 h2) ?_;have h1:=zbd h1;have h2:=zbd h2;unfold rv;simp only[q7];grind
theorem zu4{b:Rt}(hb:rOk b=true):rv b=0<->b.n=0:=by
 have h2:=zbd (zk6 hb);unfold rv;constructor
 .intro h;have h3:(b.n:Rat)=0:=by grind
  exact_mod_cast h3
 .intro h;rw[h];grind
theorem qaz{a b:Rt}(ha:rOk a=true)(hb:rOk b=true)(h0:rv b≠0):qh1 (qcf a b) (rv a/rv b):=by
 unfold qcf;rw[zbq ha hb];have h1:=zk6 ha;have h2:=zk6 hb;have h3:b.n≠0:=fun e=>h0 ((zu4 hb).2 e)
 refine ze6 (q6 h1 h3) ?_;have h1:=zbd h1;have h2:=zbd h2;have h3:=zbd h3;unfold rv;simp only[q7];grind
theorem qay{a b:Rt}(ha:rOk a=true)(hb:rOk b=true)(h0:rv b=0):(qcf a b).2=10:=by
 unfold qcf;rw[zbq ha hb,(zu4 hb).1 h0];simp[xy]
theorem zqe(n:Int):rv ⟨n,1⟩=(n:Rat):=by
 show(n:Rat)/((1:Int):Rat)=n;have:((1:Int):Rat)=1:=rfl;rw[this];grind
theorem zf1{p:Rt×Int}{x:Rat}(h:qh1 p x)(h0:p.2=0):rOk p.1=true/\rv p.1=x:=by
 rcases h with ⟨_,h2,h3⟩|h1
 .exact⟨h2,h3⟩
 .omega
theorem rv01:rv ⟨0,1⟩=0:=by rw[zqe];rfl
theorem ok01':rOk ⟨0,1⟩=true:=zbr O
theorem zc6{p:Rt×Int}{r:Rt}(h:okN p=some r):p.2=0/\p.1=r:=by
 unfold okN at h;split at h
 .rename_i h0;exact⟨h0,Option.some.inj h⟩
 .cases h
theorem zqp{a:Rt}(ha:rOk a=true):∀(n:Nat)(r:Rt)(s:Rt),rOk r=true->zsy a n r=some s->rv s=rv r*rv a^n
 |0,r,s,hr,h=>by
  have h:r=s:=Option.some.inj h;subst h;rw[Rat.pow_zero];grind
 |n+1,r,s,hr,h=>by
  simp only[zsy]at h;split at h
  .rename_i r' hr';obtain⟨h1,h2⟩:=zc6 hr';obtain⟨h3,h4⟩:=zf1 (zqy hr ha) h1;rw[h2]at h3 h4;have:=zqp ha n r' s h3 h;rw[this,h4,Rat.pow_succ];grind
  .cases h
theorem zkm{a:Ex}(h:VT a)(hk:a.k=1):∃r,rOk r=true/\a=xq r:=by
 cases h with
 |num r hr=>exact⟨r,hr,rfl⟩
 |var s hs=>simp[zcg,Ex.k]at hk
 |un k a h1 _=>simp[opE,Ex.k]at hk;unfold K1 at h1;omega
 |pow n a _ _ _=>simp[opE,Ex.k]at hk
 |bin k a b h1 _ _=>simp[opE,Ex.k]at hk;unfold K2 at h1;omega
section
variable {w w':World} {M:Nat->Prop} {pt:Nat->Option Nat} {ow:Nat->Option Value} {S:Nat->Prop} {j:Nat} {xs:List zn} {h:Value}
end
