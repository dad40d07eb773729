/-
  Trees as plain data: valid ones, their depth, their size.
-/
import Derived.Test.YtajnlbbgolmklaaGreatDoorQUb
import Derived.Test.YtajnlbbgolmklaaGreatDoorQSxY
set_option linter.unusedVariables false
set_option linter.unusedSimpArgs false
namespace Go.Proofs.YtajnlbbgolmklaaGreatDoor
open Go Go.Sx
mutual
def depE:Ex→Nat
 | .mk _ _ _ _ l=>depL l+1
def depL:List Ex→Nat
 | []=>0
 |x::l=>max (depE x) (depL l)
end
mutual
def sizE:Ex→Nat
 | .mk _ _ _ _ l=>sizL l+1
def sizL:List Ex→Nat
 | []=>0
 |x::l=>sizE x+sizL l
end
mutual
def VS:Ex→Prop
 | .mk k q s p l=>nodeB (.mk k q s p l)=true∧VSL l
def VSL:List Ex→Prop
 | []=>True
 |x::l=>VS x∧VSL l
end
mutual
theorem cntE_iff: ∀(e:Ex) (d n:Nat),((cntE e d n).1=true↔VS e∧d+depE e≤21∧n+sizE e≤200)∧((cntE e d n).1=true→(cntE e d n).2=n+sizE e)
 | .mk k q s p l,d,n=>by
   simp only[cntE,VS,depE,sizE]
   by_cases h:d≤20∧n+1≤200∧nodeB (.mk k q s p l)=true
   ·rw[if_pos h]
    have ih:=cntL_iff l (d+1) (n+1) (by omega) (by omega)
    refine⟨⟨fun h1=>?_,fun h1=>?_⟩,fun h1=>?_⟩
    ·have:=ih.1.1 h1;exact⟨⟨h.2.2,this.1⟩,by omega,by omega⟩
    ·exact ih.1.2 ⟨h1.1.2,by omega,by omega⟩
    ·have:=ih.2 h1;omega
   ·rw[if_neg h]
    refine⟨⟨fun h1=>by simp at h1,fun h1=>absurd ⟨by omega,by omega,h1.1.1⟩ h⟩,fun h1=>by simp at h1⟩
theorem cntL_iff: ∀(l:List Ex) (d n:Nat),d≤21→n≤200→((cntL l d n).1=true↔VSL l∧d+depL l≤21∧n+sizL l≤200)∧((cntL l d n).1=true→(cntL l d n).2=n+sizL l)
 | [],d,n,hd,hn=>by
   simp only[cntL,VSL,depL,sizL]
   exact⟨⟨fun _=>⟨trivial,by omega,by omega⟩,fun _=>trivial⟩,fun _=>rfl⟩
 |x::l,d,n,hd,hn=>by
  have ih:=cntE_iff x d n
  simp only[cntL,VSL,depL,sizL]
  rcases hx:cntE x d n with ⟨b,m⟩
  rw[hx]at ih
  cases b with
  |true=>
   have h1:=ih.1.1 rfl
   have h2:m=n+sizE x:=ih.2 rfl
   subst h2
   have ih2:=cntL_iff l d (n+sizE x) hd (by omega)
   refine⟨⟨fun h=>?_,fun h=>?_⟩,fun h=>?_⟩
   ·have:=ih2.1.1 h;exact⟨⟨h1.1,this.1⟩,by omega,by omega⟩
   ·exact ih2.1.2 ⟨h.1.2,by omega,by omega⟩
   ·have:=ih2.2 h;simp only at this⊢;omega
  |false=>
   refine⟨⟨fun h=>by simp at h,fun h=>?_⟩,fun h=>by simp at h⟩
   have:=ih.1.2 ⟨h.1.1,by omega,by omega⟩
   simp at this
end
theorem okT_iff (e:Ex):okT e=true↔VS e∧depE e≤20∧sizE e≤200:=by
 have:=(cntE_iff e 1 0).1
 unfold okT
 rw[this]
 constructor
 ·rintro⟨h1,h2,h3⟩;exact⟨h1,by omega,by omega⟩
 ·rintro⟨h1,h2,h3⟩;exact⟨h1,by omega,by omega⟩
def varE (s:Bytes):Ex:= .mk 2 ⟨0,0⟩ s 0 []
def K1 (k:Int):Prop:=k=7∨k=9∨k=10∨k=11∨k=12∨k=13
def K2 (k:Int):Prop:=k=3∨k=4∨k=5∨k=6
inductive VT:Ex→Prop
 |num (r:Rt):rOk r=true→VT (ratE r)
 |var (s:Bytes):nameB s=true→VT (varE s)
 |un (k:Int) (a:Ex):K1 k→VT a→VT (opE k 0 [a])
 |pow (n:Int) (a:Ex):0≤n→n≤16→VT a→VT (opE 8 n [a])
 |bin (k:Int) (a b:Ex):K2 k→VT a→VT b→VT (opE k 0 [a,b])
theorem VSL_mem: ∀ {l:List Ex},VSL l→ ∀x∈l,VS x
 | [],_,x,hx=>by simp at hx
 |y::l,h,x,hx=>by
  rcases List.mem_cons.1 hx with rfl|hx
  ·exact h.1
  ·exact VSL_mem h.2 x hx
theorem len1 {α:Type} {l:List α} (h:l.length=1): ∃a,l= [a]:=by
 match l,h with
 | [a],_=>exact⟨a,rfl⟩
theorem len2 {α:Type} {l:List α} (h:l.length=2): ∃a b,l= [a,b]:=by
 match l,h with
 | [a,b],_=>exact⟨a,b,rfl⟩
theorem VS_VT: ∀e,VS e→VT e:=by
 refine exInd fun k q s p l ih h=>?_
 simp only[VS]at h
 obtain⟨hn,hl⟩:=h
 have hall: ∀x∈l,VT x:=fun x hx=>ih x hx (VSL_mem hl x hx)
 have hn:(if k=1 then numB (.mk k q s p l)else if k=2 then varB (.mk k q s p l)else if k=8 then powB (.mk k q s p l)else opB (.mk k q s p l))=true:=hn
 by_cases hk1:k=1
 ·rw[if_pos hk1]at hn
  subst hk1
  have hn:(rOk q&&(s== [])&&decide (p=0)&&decide (l.length=0))=true:=hn
  simp only[Bool.and_eq_true,decide_eq_true_eq,beq_iff_eq]at hn
  obtain⟨⟨⟨h1,rfl⟩,rfl⟩,h2⟩:=hn
  obtain rfl:l= []:=List.length_eq_zero_iff.1 h2
  exact VT.num q h1
 ·rw[if_neg hk1]at hn
  by_cases hk2:k=2
  ·rw[if_pos hk2]at hn
   subst hk2
   have hn:(decide (q=⟨0,0⟩)&&nameB s&&decide (p=0)&&decide (l.length=0))=true:=hn
   simp only[Bool.and_eq_true,decide_eq_true_eq,beq_iff_eq]at hn
   obtain⟨⟨⟨rfl,h1⟩,rfl⟩,h2⟩:=hn
   obtain rfl:l= []:=List.length_eq_zero_iff.1 h2
   exact VT.var s h1
  ·rw[if_neg hk2]at hn
   by_cases hk8:k=8
   ·rw[if_pos hk8]at hn
    subst hk8
    have hn:(decide (q=⟨0,0⟩)&&(s== [])&&decide (0≤p)&&decide (p≤16)&&decide (l.length=1))=true:=hn
    simp only[Bool.and_eq_true,decide_eq_true_eq,beq_iff_eq]at hn
    obtain⟨⟨⟨⟨rfl,rfl⟩,h1⟩,h2⟩,h3⟩:=hn
    obtain⟨a,rfl⟩:=len1 h3
    exact VT.pow p a h1 h2 (hall a (by simp))
   ·rw[if_neg hk8]at hn
    have hn:(decide (q=⟨0,0⟩)&&(s== [])&&decide (p=0)&&decide ((l.length:Int)=opn k))=true:=hn
    simp only[Bool.and_eq_true,decide_eq_true_eq,beq_iff_eq]at hn
    obtain⟨⟨⟨rfl,rfl⟩,rfl⟩,h1⟩:=hn
    unfold opn at h1
    split at h1
    ·obtain⟨a,b,rfl⟩:=len2 (l:=l) (by omega)
     exact VT.bin k a b ‹_› (hall a (by simp)) (hall b (by simp))
    ·split at h1
     ·obtain⟨a,rfl⟩:=len1 (l:=l) (by omega)
      exact VT.un k a (by unfold K1;omega) (hall a (by simp))
     ·omega
theorem okT_VT {e:Ex} (h:okT e=true):VT e:=VS_VT e ((okT_iff e).1 h).1
theorem rOk_mk {r:Rt} (h:rIn r) (h2:Nat.gcd r.n.natAbs r.d.natAbs=1):rOk r=true:=by simp[rOk,h,h2]
theorem rMake_ok {n d:Int} (h:(rMake n d).2=0):rOk (rMake n d).1=true:=by
 unfold rMake at*
 split at h
 ·simp at h
 ·rename_i hd
  rw[if_neg hd]
  split at h
  ·simp at h
  ·rename_i r hr
   unfold low at hr
   split at hr
   ·rename_i hle
    have hg:0<Nat.gcd n.natAbs d.natAbs:=Nat.gcd_pos_of_pos_right _ (by omega)
    have hco:Nat.gcd (n.natAbs/Nat.gcd n.natAbs d.natAbs) (d.natAbs/Nat.gcd n.natAbs d.natAbs)=1:=by rw[Nat.gcd_div (Nat.gcd_dvd_left _ _) (Nat.gcd_dvd_right _ _)];exact Nat.div_self hg
    have hpos:0<d.natAbs/Nat.gcd n.natAbs d.natAbs:=Nat.div_pos (Nat.le_of_dvd (by omega) (Nat.gcd_dvd_right _ _)) hg
    generalize n.natAbs/Nat.gcd n.natAbs d.natAbs=A at*
    generalize d.natAbs/Nat.gcd n.natAbs d.natAbs=B at*
    simp only[Option.some.injEq]at hr
    subst hr
    cases (decide (n<0) != decide (d<0))with
    |true=>exact rOk_mk (by simp only[rIn,if_true];omega) (by simpa using hco)
    |false=>exact rOk_mk (by simp only[rIn,Bool.false_eq_true,if_false];omega) (by simpa using hco)
   ·simp at hr
theorem rOk_one {n:Int} (h: -1073741824≤n∧n≤1073741824):rOk ⟨n,1⟩=true:=by
 exact rOk_mk (by simp only[rIn];omega) (Nat.gcd_one_right _)
end Go.Proofs.YtajnlbbgolmklaaGreatDoor

namespace Go.Proofs.YtajnlbbgolmklaaGreatDoor
open Go Go.Sx
theorem K2_ne {k:Int} (h:K2 k):k≠1∧k≠2:=by unfold K2 at h;omega
end Go.Proofs.YtajnlbbgolmklaaGreatDoor

namespace Go.Proofs.YtajnlbbgolmklaaGreatDoor
open Go Go.Sx
end Go.Proofs.YtajnlbbgolmklaaGreatDoor

namespace Go.Proofs.YtajnlbbgolmklaaGreatDoor
open Go Go.Sx
end Go.Proofs.YtajnlbbgolmklaaGreatDoor

namespace Go.Proofs.YtajnlbbgolmklaaGreatDoor
open Go Go.Sx
set_option maxRecDepth 100000
set_option maxHeartbeats 8000000
mutual
def preE:Ex→List Ex
 | .mk k q s p l=> .mk k q s p l::preL l
def preL:List Ex→List Ex
 | []=> []
 |x::l=>preE x++preL l
end
mutual
theorem preE_len: ∀e:Ex,(preE e).length =sizE e
 | .mk k q s p l=>by simp only[preE,sizE,List.length_cons,preL_len l]
theorem preL_len: ∀l:List Ex,(preL l).length =sizL l
 | []=>rfl
 |x::l=>by simp only[preL,sizL,List.length_append,preE_len x,preL_len l]
end
def Ticks (l:Nat) (J:List Ex→GJ):Prop:= ∀(n:List Ex) (y:Ex),n.length<1000→CbOK Tryz.prog l [(CBID,.gst (J n))] [.agg (exC y)] (.bool true) [(CBID,.gst (J (n++ [y])))]
abbrev H1 (l:Nat) (J:List Ex→GJ) (n:List Ex):Hp:= [(1000003,.cells [.cb l]),(CBID,.gst (J n))]
abbrev H2 (l:Nat) (J:List Ex→GJ) (n:List Ex):Hp:= [(1000004,.cells [.fn 218 [.ptr 1000003 0]]),(1000003,.cells [.cb l]),(CBID,.gst (J n))]
theorem leH1g {h h':Hp} (l:Nat) (J:List Ex→GJ) (n:List Ex):leH h h' (H1 l J n) (H1 l J n):=lh1 (bc0 (lc (lr rfl) ln0)) (lh1 (bg0 rfl) lh0)
theorem leH2g {h h':Hp} (l:Nat) (J:List Ex→GJ) (n:List Ex):leH h h' (H2 l J n) (H2 l J n):=lh1 (bc0 (lc (lr rfl) ln0)) (lh1 (bc0 (lc (lr rfl) ln0)) (lh1 (bg0 rfl) lh0))
abbrev WkOK (l:Nat) (J:List Ex→GJ) (e:Ex):Prop:= ∀n:List Ex,n.length+sizE e≤1000→Fn 144 [(CBID,.gst (J n))] [.agg (exC e),.cb l] (.bool true) [(CBID,.gst (J (n++preE e)))]
theorem f153 (l:Nat) (J:List Ex→GJ) (x:Ex) (hx:WkOK l J x) (n:List Ex) (hn:n.length+sizE x≤1000):Fn 218 (H1 l J n) [.agg (exC x),.ptr 1000003 0] (.bool true) (H1 l J (n++preE x)):=by
 refine fnT hT hmx Tryz.func218 rfl rfl (ex:= []) ?_
 conv=>whnf
 refine⟨[.gst (J (n++preE x))],.bool true,hx n hn,?_⟩
 conv=>whnf
 exact⟨lr rfl,leH1g l J _⟩
theorem f163 (l:Nat) (J:List Ex→GJ) (x:Ex) (hx:WkOK l J x) (n:List Ex) (hn:n.length+sizE x≤1000):Fn 281 (H2 l J n) [.agg (exC x),.ptr 1000004 0] (.bool false) (H2 l J (n++preE x)):=by
 refine fnT hT hmx Tryz.func281 rfl rfl (ex:= []) ?_
 conv=>whnf
 refine⟨[.cells [.cb l],.gst (J (n++preE x))],.bool true,f153 l J x hx n hn,?_⟩
 conv=>whnf
 exact⟨lr rfl,leH2g l J _⟩
theorem preL_take {l:List Ex} {i:Nat} {x:Ex} (hx:l[i]? =some x):preL (l.take (i+1))=preL (l.take i)++preE x:=by
 rw[List.take_add_one,hx]
 simp only[Option.toList_some]
 generalize l.take i=m
 induction m with
 |nil=>simp[preL]
 |cons y m ih=>simp only[List.cons_append,preL,ih,List.append_assoc]
theorem sizL_at: ∀ {l:List Ex} {i:Nat} {x:Ex},l[i]? =some x→sizL (l.take i)+sizE x≤sizL l
 | [],_,_,h=>by simp at h
 |y::l,0,x,h=>by
  obtain rfl:y=x:=by simpa using h
  simp only[List.take_zero,sizL];omega
 |y::l,i+1,x,h=>by
  have:=sizL_at (l:=l) (i:=i) (x:=x) (by simpa using h)
  simp only[List.take_succ_cons,sizL];omega
theorem f114w (l:Nat) (J:List Ex→GJ) (xs:List Ex) (hl: ∀x∈xs,WkOK l J x) (hlen:xs.length<9223372036854775808) (n:List Ex) (hn:n.length+sizL xs≤1000):
 Fn 184 (H2 l J n) [.sl .ex xs,.fn 281 [.ptr 1000004 0]] (.int .i64 (-1)) (H2 l J (n++preL xs)):=by
 refine fnT hT hmx Tryz.func184 rfl rfl (ex:= []) ?_
 conv=>whnf
 refine⟨Nat,fun i=>i≤xs.length,fun i=> [(8,.int .i64 i)],fun i=> [(CBID,.gst (J (n++preL (xs.take i))))],fun i=>xs.length-i,0,by simp,?_,fun i hi=>?_⟩
 ·((conv=>whnf);refine And.intro ?_ ?_;repeat' first|refine lc ?_ ?_|exact la0|exact lr rfl|exact ln0|refine lh1 ?_ ?_|exact lh0|exact bf0|exact bd0|refine bc0 ?_|exact bm0 rfl|exact bg0 rfl|exact li0 rfl|refine lg0 ?_|refine lt0 ?_|fail)
  exact bg0 (by simp[preL])
 ·(refine⟨by kernel_rfl,?_⟩;(conv=>whnf))
  refine brI (fun h1=>?_) (fun h1=>?_)
  ·conv=>whnf
   have hi:i<xs.length:=by simp only[decide_eq_true_eq]at h1;omega
   refine⟨⟨by omega,by omega⟩,fun e he=>?_⟩
   have he:xs[(i:Int).toNat]? =some e:=he
   have he:xs[i]? =some e:=by simpa using he
   conv=>whnf
   refine⟨[.cells [.fn 218 [.ptr 1000003 0]],.cells [.cb l],.gst (J (n++preL (xs.take i)++preE e))],.bool false,f163 l J e (hl e (List.mem_of_getElem? he)) _ (by rw[List.length_append,preL_len];have:=sizL_at he;omega),?_⟩
   conv=>whnf
   refine⟨i+1,by show i+1≤xs.length;omega,by show xs.length-(i+1)<xs.length-i;omega,?_⟩
   ((conv=>whnf);refine And.intro ?_ ?_;repeat' first|refine lc ?_ ?_|exact la0|exact lr rfl|exact ln0|refine lh1 ?_ ?_|exact lh0|exact bf0|exact bd0|refine bc0 ?_|exact bm0 rfl|exact bg0 rfl|exact li0 rfl|refine lg0 ?_|refine lt0 ?_|fail)
   ·exact ai0 (by rw[wI (by omega)];omega)
   ·exact bg0 (by rw[preL_take he,List.append_assoc])
  ·conv=>whnf
   have hi: ¬i<xs.length:=by simp only[decide_eq_false_iff_not]at h1;omega
   rw[List.take_of_length_le (by omega)]
   exact⟨lr rfl,leH2g l J _⟩
theorem f60w (l:Nat) (J:List Ex→GJ) (xs:List Ex) (hl: ∀x∈xs,WkOK l J x) (hlen:xs.length<9223372036854775808) (n:List Ex) (hn:n.length+sizL xs≤1000):
 Fn 111 (H2 l J n) [.sl .ex xs,.fn 281 [.ptr 1000004 0]] (.bool false) (H2 l J (n++preL xs)):=by
 refine fnT hT hmx Tryz.func111 rfl rfl (ex:= []) ?_
 conv=>whnf
 refine⟨[.cells [.fn 218 [.ptr 1000003 0]],.cells [.cb l],.gst (J (n++preL xs))],_,f114w l J xs hl hlen n hn,?_⟩
 conv=>whnf
 exact⟨lr rfl,leH2g l J _⟩
theorem f152 (l:Nat) (J:List Ex→GJ) (xs:List Ex) (hl: ∀x∈xs,WkOK l J x) (hlen:xs.length<9223372036854775808) (n:List Ex) (hn:n.length+sizL xs≤1000):
 Fn 217 (H1 l J n) [.sl .ex xs,.fn 218 [.ptr 1000003 0]] (.bool true) (H1 l J (n++preL xs)):=by
 refine fnT hT hmx Tryz.func217 rfl rfl (ex:= []) ?_
 conv=>whnf
 refine⟨[.cells [.fn 218 [.ptr 1000003 0]],.cells [.cb l],.gst (J (n++preL xs))],.bool false,(f60w l J xs hl hlen n hn).sw [(3,1000004)] rfl,?_⟩
 conv=>whnf
 exact⟨lr rfl,leH1g l J _⟩
theorem f127 (l:Nat) (J:List Ex→GJ) (hJ:Ticks l J): ∀e:Ex,Sm e→WkOK l J e:=by
 refine exInd fun k q s p xs ih hs n hn=>?_
 simp only[Sm]at hs
 simp only[sizE]at hn
 have hl: ∀x∈xs,WkOK l J x:=fun x hx=>ih x hx (SmL_mem hs.2.2 x hx)
 refine fnT hT hmx Tryz.func144 rfl rfl (ex:= []) ?_
 conv=>whnf
 refine⟨[.gst (J (n++ [Ex.mk k q s p xs]))],.bool true,hJ n (.mk k q s p xs) (by omega),?_⟩
 conv=>whnf
 refine⟨[.cells [.cb l],.gst (J (n++ [Ex.mk k q s p xs]++preL xs))],.bool true,(f152 l J xs hl hs.2.1 (n++ [Ex.mk k q s p xs]) (by simp;omega)).sw [(3,1000003)] rfl,?_⟩
 conv=>whnf
 refine⟨lr rfl,lh1 (bg0 ?_) lh0⟩
 rw[show n++ [Ex.mk k q s p xs]++preL xs=n++preE (.mk k q s p xs) by simp[preE]]
end Go.Proofs.YtajnlbbgolmklaaGreatDoor

namespace Go.Proofs.YtajnlbbgolmklaaGreatDoor
open Go Go.Sx
set_option maxRecDepth 100000
set_option maxHeartbeats 8000000
theorem f154 (l:List Ex) (hl:l.length≤1000):Fn 150 [] [.sl .ex l] (.own 2000000) [(2000000,.buf 26 .ex l)]:=by
 refine fnT hT hmx Tryz.func150 rfl rfl (ex:= [7]) ?_
 conv=>whnf
 refine⟨fun h=>?_,fun _=>?_⟩
 ·conv=>whnf
  subst h
  exact⟨trivial,lh1 (leB_new rfl rfl) lh0⟩
 ·conv=>whnf
  refine⟨by simp;omega,?_⟩
  conv=>whnf
  exact⟨trivial,lh1 (bb0 (by simp)) lh0⟩
abbrev ClOK (e:Ex):Prop:=Fn 145 [] [.agg (exC e)] (.agg (exC e)) []
theorem set_same {α:Type} {l:List α} {i:Nat} {x:α} (h:l[i]? =some x):l.set i x=l:=by
 obtain⟨hi,hx⟩:=List.getElem?_eq_some_iff.1 h
 rw[←hx];exact List.set_getElem_self hi
theorem f128_node (k:Int) (q:Rt) (s:Bytes) (n:Int) (l:List Ex) (hl: ∀x∈l,ClOK x) (hlen:l.length≤1000):ClOK (.mk k q s n l):=by
 refine fnT hT hmx Tryz.func145 rfl rfl (ex:= []) ?_
 conv=>whnf
 refine⟨[],[.buf 26 .ex l],.own 2000000,f154 l hlen,?_⟩
 conv=>whnf
 refine⟨Nat,fun i=>i≤l.length,fun i=> [(10,.int .i64 i)],fun _=> [(7,.buf 26 .ex l)],fun i=>l.length-i,0,by simp,?_,fun i hi=>?_⟩
 ·((conv=>whnf);refine And.intro ?_ ?_;repeat' first|refine lc ?_ ?_|exact la0|exact lr rfl|exact ln0|refine lh1 ?_ ?_|exact lh0|exact bf0|exact bd0|refine bc0 ?_|exact bm0 rfl|exact bg0 rfl|exact li0 rfl|refine lg0 ?_|refine lt0 ?_|fail)
  all_goals first|exact bb0 rfl|exact trivial|fail
 ·(refine⟨by kernel_rfl,?_⟩;(conv=>whnf))
  refine brI (fun h1=>?_) (fun h1=>?_)
  ·conv=>whnf
   have h1:i<l.length:=by simp only[decide_eq_true_eq]at h1;omega
   refine⟨⟨by omega,by omega⟩,?_⟩
   conv=>whnf
   refine⟨by simpa using h1,fun x hx=>?_⟩
   have hx:l[(i:Int).toNat]? =some x:=hx
   have hx:l[i]? =some x:=by simpa using hx
   conv=>whnf
   refine⟨[],_,hl x (List.mem_of_getElem? hx),?_⟩
   conv=>whnf
   refine⟨⟨by omega,by omega⟩,?_⟩
   conv=>whnf
   rw[Ex.eta2]
   refine⟨by simpa using h1,?_⟩
   conv=>whnf
   refine⟨i+1,by show i+1≤l.length;omega,by show l.length-(i+1)<l.length-i;omega,?_⟩
   ((conv=>whnf);refine And.intro ?_ ?_;repeat' first|refine lc ?_ ?_|exact la0|exact lr rfl|exact ln0|refine lh1 ?_ ?_|exact lh0|exact bf0|exact bd0|refine bc0 ?_|exact bm0 rfl|exact bg0 rfl|exact li0 rfl|refine lg0 ?_|refine lt0 ?_|fail)
   ·exact ai0 (by rw[wI (by omega)];omega)
   ·exact bb0 (set_same (by simpa using hx))
  ·conv=>whnf
   exact⟨leA_ex rfl,lh0⟩
theorem f128 {e:Ex} (h:VT e):ClOK e:=by
 induction h with
 |num r hr=>exact f128_node 1 r [] 0 [] (by simp) (by simp)
 |var s hs=>exact f128_node 2 ⟨0,0⟩ s 0 [] (by simp) (by simp)
 |un k a hk ha ih=>exact f128_node k ⟨0,0⟩ [] 0 [a] (by simpa using ih) (by simp)
 |pow n a h1 h2 ha ih=>exact f128_node 8 ⟨0,0⟩ [] n [a] (by simpa using ih) (by simp)
 |bin k a b hk ha hb ih1 ih2=>exact f128_node k ⟨0,0⟩ [] 0 [a,b] (by simpa using⟨ih1,ih2⟩) (by simp)
def szN (e:Ex):Nat:=if okT e then sizE e else 0
def visE (e:Ex):List Ex:=if okT e then preE e else []
theorem visE_len (e:Ex):(visE e).length =szN e:=by
 unfold visE szN
 split
 ·exact preE_len e
 ·rfl
theorem f126 (l:Nat) (J:List Ex→GJ) (hJ:Ticks l J) (e:Ex) (he:Sm e):Fn 143 [(CBID,.gst (J [])),(1000001,.cells (exC e))] [.cb l,.ptr 1000001 0] (.tup []) [(CBID,.gst (J (visE e))),(1000001,.cells (exC e))]:=by
 refine fnT hT hmx Tryz.func143 rfl rfl (ex:= []) ?_
 conv=>whnf
 refine cbI [] (okT e) (f17 e he) (fun h1=>?_) (fun h1=>?_)
 ·conv=>whnf
  refine⟨[],_,f128 (okT_VT h1),?_⟩
  conv=>whnf
  refine⟨[.gst (J ([]++preE e))],.bool true,f127 l J hJ e he [] (by have:=((okT_iff e).1 h1).2.2;simp;omega),?_⟩
  conv=>whnf
  refine⟨lr rfl,lh1 (bg0 ?_) (lh1 (bc0 ?_) lh0)⟩
  ·rw[show visE e= []++preE e by simp[visE,h1]]
  ·exact lc (lr rfl) (lc (lr rfl) (lc (lr rfl) (lc (lr rfl) (lc (lr rfl) (lc (lr rfl) ln0)))))
 ·conv=>whnf
  refine⟨lr rfl,lh1 (bg0 ?_) (lh1 (bc0 ?_) lh0)⟩
  ·rw[show visE e= [] by simp[visE,h1]]
  ·exact lc (lr rfl) (lc (lr rfl) (lc (lr rfl) (lc (lr rfl) (lc (lr rfl) (lc (lr rfl) ln0)))))
theorem f71 (e:Ex):Fn 91 [] [.agg (exC e)] (.fn 143 [.ptr 2000000 0]) [(2000000,.cells (exC e))]:=by
 refine fnT hT hmx Tryz.func91 rfl rfl (ex:= [1]) ?_
 conv=>whnf
 (refine And.intro ?_ ?_;repeat' first|refine lc ?_ ?_|exact la0|exact lr rfl|exact ln0|refine lh1 ?_ ?_|exact lh0|exact bf0|exact bd0|refine bc0 ?_|exact bm0 rfl|exact bg0 rfl|exact li0 rfl|refine lg0 ?_|refine lt0 ?_|fail)
end Go.Proofs.YtajnlbbgolmklaaGreatDoor

namespace Go.Proofs.YtajnlbbgolmklaaGreatDoor
open Go Go.Sx
set_option maxRecDepth 100000
set_option maxHeartbeats 8000000
end Go.Proofs.YtajnlbbgolmklaaGreatDoor

namespace Go.Proofs.YtajnlbbgolmklaaGreatDoor
open Go Go.Sx
set_option maxRecDepth 100000
set_option maxHeartbeats 8000000
theorem szN_le (e:Ex):szN e≤200:=by
 unfold szN
 split
 ·rename_i h;exact((okT_iff e).1 h).2.2
 ·omega
end Go.Proofs.YtajnlbbgolmklaaGreatDoor
