/-
  Trees as plain data: valid ones, their depth, their size.
-/
import Derived.Test.YtajnlbbgolmklaaGreatDoorQUb
import Derived.Test.YtajnlbbgolmklaaGreatDoorQSxY
set_option linter.unusedVariables false
set_option linter.unusedSimpArgs false
namespace Go.Proofs.YtajnlbbgolmklaaGreatDoor
open Go Go.Sx
mutual
def zul:Ex→Nat
 | .mk _ _ _ _ l=>zuk l+1
def zuk:List Ex→Nat
 | []=>0
 |x::l=>max (zul x) (zuk l)
end
mutual
def zd6:Ex→Nat
 | .mk _ _ _ _ l=>zd5 l+1
def zd5:List Ex→Nat
 | []=>0
 |x::l=>zd6 x+zd5 l
end
mutual
def VS:Ex→Prop
 | .mk k q s p l=>xz (.mk k q s p l)=true∧VSL l
def VSL:List Ex→Prop
 | []=>True
 |x::l=>VS x∧VSL l
end
mutual
theorem zos: ∀(e:Ex) (d n:Nat),((zcl e d n).1=true↔VS e∧d+zul e≤21∧n+zd6 e≤200)∧((zcl e d n).1=true→(zcl e d n).2=n+zd6 e)
 | .mk k q s p l,d,n=>by
   simp only[zcl,VS,zul,zd6]
   by_cases h:d≤20∧n+1≤200∧xz (.mk k q s p l)=true
   ·rw[if_pos h]
    have ih:=zor l (d+1) (n+1) (by omega) (by omega)
    refine⟨⟨fun h1=>?_,fun h1=>?_⟩,fun h1=>?_⟩
    ·have:=ih.1.1 h1;exact⟨⟨h.2.2,this.1⟩,by omega,by omega⟩
    ·exact ih.1.2 ⟨h1.1.2,by omega,by omega⟩
    ·have:=ih.2 h1;omega
   ·rw[if_neg h]
    refine⟨⟨fun h1=>by simp at h1,fun h1=>absurd ⟨by omega,by omega,h1.1.1⟩ h⟩,fun h1=>by simp at h1⟩
theorem zor: ∀(l:List Ex) (d n:Nat),d≤21→n≤200→((zec l d n).1=true↔VSL l∧d+zuk l≤21∧n+zd5 l≤200)∧((zec l d n).1=true→(zec l d n).2=n+zd5 l)
 | [],d,n,hd,hn=>by
   simp only[zec,VSL,zuk,zd5]
   exact⟨⟨fun _=>⟨trivial,by omega,by omega⟩,fun _=>trivial⟩,fun _=>rfl⟩
 |x::l,d,n,hd,hn=>by
  have ih:=zos x d n
  simp only[zec,VSL,zuk,zd5]
  rcases hx:zcl x d n with ⟨b,m⟩
  rw[hx]at ih
  cases b with
  |true=>
   have h1:=ih.1.1 rfl
   have h2:m=n+zd6 x:=ih.2 rfl
   subst h2
   have ih2:=zor l d (n+zd6 x) hd (by omega)
   refine⟨⟨fun h=>?_,fun h=>?_⟩,fun h=>?_⟩
   ·have:=ih2.1.1 h;exact⟨⟨h1.1,this.1⟩,by omega,by omega⟩
   ·exact ih2.1.2 ⟨h.1.2,by omega,by omega⟩
   ·have:=ih2.2 h;simp only at this⊢;omega
  |false=>
   refine⟨⟨fun h=>by simp at h,fun h=>?_⟩,fun h=>by simp at h⟩
   have:=ih.1.2 ⟨h.1.1,by omega,by omega⟩
   simp at this
end
theorem xc (e:Ex):okT e=true↔VS e∧zul e≤20∧zd6 e≤200:=by
 have:=(zos e 1 0).1
 unfold okT
 rw[this]
 constructor
 ·rintro⟨h1,h2,h3⟩;exact⟨h1,by omega,by omega⟩
 ·rintro⟨h1,h2,h3⟩;exact⟨h1,by omega,by omega⟩
def zgr (s:zd):Ex:= .mk 2 ⟨0,0⟩ s 0 []
def K1 (k:Int):Prop:=k=7∨k=9∨k=10∨k=11∨k=12∨k=13
def K2 (k:Int):Prop:=k=3∨k=4∨k=5∨k=6
inductive VT:Ex→Prop
 |num (r:Rt):rOk r=true→VT (zik r)
 |var (s:zd):zdt s=true→VT (zgr s)
 |un (k:Int) (a:Ex):K1 k→VT a→VT (opE k 0 [a])
 |pow (n:Int) (a:Ex):0≤n→n≤16→VT a→VT (opE 8 n [a])
 |bin (k:Int) (a b:Ex):K2 k→VT a→VT b→VT (opE k 0 [a,b])
theorem zt2: ∀ {l:List Ex},VSL l→ ∀x∈l,VS x
 | [],_,x,hx=>by simp at hx
 |y::l,h,x,hx=>by
  rcases List.mem_cons.1 hx with rfl|hx
  ·exact h.1
  ·exact zt2 h.2 x hx
theorem len1 {α:Type} {l:List α} (h:l.length=1): ∃a,l= [a]:=by
 match l,h with
 | [a],_=>exact⟨a,rfl⟩
theorem len2 {α:Type} {l:List α} (h:l.length=2): ∃a b,l= [a,b]:=by
 match l,h with
 | [a,b],_=>exact⟨a,b,rfl⟩
theorem VS_VT: ∀e,VS e→VT e:=by
 refine zmk fun k q s p l ih h=>?_
 simp only[VS]at h
 obtain⟨hn,hl⟩:=h
 have hall: ∀x∈l,VT x:=fun x hx=>ih x hx (zt2 hl x hx)
 have hn:(if k=1 then qcp (.mk k q s p l)else if k=2 then qbu (.mk k q s p l)else if k=8 then qcl (.mk k q s p l)else opB (.mk k q s p l))=true:=hn
 by_cases hk1:k=1
 ·rw[if_pos hk1]at hn
  subst hk1
  have hn:(rOk q&&(s== [])&&decide (p=0)&&decide (l.length=0))=true:=hn
  simp only[Bool.and_eq_true,decide_eq_true_eq,beq_iff_eq]at hn
  obtain⟨⟨⟨h1,rfl⟩,rfl⟩,h2⟩:=hn
  obtain rfl:l= []:=List.length_eq_zero_iff.1 h2
  exact VT.num q h1
 ·rw[if_neg hk1]at hn
  by_cases hk2:k=2
  ·rw[if_pos hk2]at hn
   subst hk2
   have hn:(decide (q=⟨0,0⟩)&&zdt s&&decide (p=0)&&decide (l.length=0))=true:=hn
   simp only[Bool.and_eq_true,decide_eq_true_eq,beq_iff_eq]at hn
   obtain⟨⟨⟨rfl,h1⟩,rfl⟩,h2⟩:=hn
   obtain rfl:l= []:=List.length_eq_zero_iff.1 h2
   exact VT.var s h1
  ·rw[if_neg hk2]at hn
   by_cases hk8:k=8
   ·rw[if_pos hk8]at hn
    subst hk8
    have hn:(decide (q=⟨0,0⟩)&&(s== [])&&decide (0≤p)&&decide (p≤16)&&decide (l.length=1))=true:=hn
    simp only[Bool.and_eq_true,decide_eq_true_eq,beq_iff_eq]at hn
    obtain⟨⟨⟨⟨rfl,rfl⟩,h1⟩,h2⟩,h3⟩:=hn
    obtain⟨a,rfl⟩:=len1 h3
    exact VT.pow p a h1 h2 (hall a (by simp))
   ·rw[if_neg hk8]at hn
    have hn:(decide (q=⟨0,0⟩)&&(s== [])&&decide (p=0)&&decide ((l.length:Int)=opn k))=true:=hn
    simp only[Bool.and_eq_true,decide_eq_true_eq,beq_iff_eq]at hn
    obtain⟨⟨⟨rfl,rfl⟩,rfl⟩,h1⟩:=hn
    unfold opn at h1
    split at h1
    ·obtain⟨a,b,rfl⟩:=len2 (l:=l) (by omega)
     exact VT.bin k a b ‹_› (hall a (by simp)) (hall b (by simp))
    ·split at h1
     ·obtain⟨a,rfl⟩:=len1 (l:=l) (by omega)
      exact VT.un k a (by unfold K1;omega) (hall a (by simp))
     ·omega
theorem qax {e:Ex} (h:VT e):VS e:=by
 induction h with
 |num r hr=>simp[zik,VS,VSL,xz,qcp,Ex.k,Ex.q,Ex.s,Ex.p,Ex.l,hr]
 |var s hs=>simp[zgr,VS,VSL,xz,qbu,Ex.k,Ex.q,Ex.s,Ex.p,Ex.l,hs]
 |un k a hk _ ih=>
  rcases hk with rfl|rfl|rfl|rfl|rfl|rfl<;>simp[opE,VS,VSL,xz,opB,opn,Ex.k,Ex.q,Ex.s,Ex.p,Ex.l,ih]
 |pow n a h1 h2 _ ih=>simp[opE,VS,VSL,xz,qcl,Ex.k,Ex.q,Ex.s,Ex.p,Ex.l,ih,h1,h2]
 |bin k a b hk _ _ ih1 ih2=>
  rcases hk with rfl|rfl|rfl|rfl<;>simp[opE,VS,VSL,xz,opB,opn,Ex.k,Ex.q,Ex.s,Ex.p,Ex.l,ih1,ih2]
theorem zaf {e:Ex} (h:okT e=true):VT e:=VS_VT e ((xc e).1 h).1
theorem zse {s:zd} (h:zdt s=true):s.length≤20:=by
 simp only[zdt,Bool.and_eq_true,decide_eq_true_eq]at h;exact h.1.2
theorem VT_Sm {e:Ex} (h:VT e):Sm e:=by
 induction h with
 |num r hr=>simp[zik,Sm,SmL]
 |var s hs=>have:=zse hs;simp only[zgr,Sm,SmL,List.length_nil];exact⟨by omega,by omega,trivial⟩
 |un k a hk _ ih=>simp[opE,Sm,SmL,ih]
 |pow n a h1 h2 _ ih=>simp[opE,Sm,SmL,ih]
 |bin k a b hk _ _ ih1 ih2=>simp[opE,Sm,SmL,ih1,ih2]
end Go.Proofs.YtajnlbbgolmklaaGreatDoor

namespace Go.Proofs.YtajnlbbgolmklaaGreatDoor
open Go Go.Sx
end Go.Proofs.YtajnlbbgolmklaaGreatDoor

namespace Go.Proofs.YtajnlbbgolmklaaGreatDoor
open Go Go.Sx
end Go.Proofs.YtajnlbbgolmklaaGreatDoor

namespace Go.Proofs.YtajnlbbgolmklaaGreatDoor
open Go Go.Sx
end Go.Proofs.YtajnlbbgolmklaaGreatDoor

namespace Go.Proofs.YtajnlbbgolmklaaGreatDoor
open Go Go.Sx
set_option maxRecDepth 100000
set_option maxHeartbeats 8000000
mutual
def um:Ex→List Ex
 | .mk k q s p l=> .mk k q s p l::xm l
def xm:List Ex→List Ex
 | []=> []
 |x::l=>um x++xm l
end
mutual
theorem zc1: ∀e:Ex,(um e).length =zd6 e
 | .mk k q s p l=>by simp only[um,zd6,List.length_cons,zir l]
theorem zir: ∀l:List Ex,(xm l).length =zd5 l
 | []=>rfl
 |x::l=>by simp only[xm,zd5,List.length_append,zc1 x,zir l]
end
def qen (l:Nat) (J:List Ex→GJ):Prop:= ∀(n:List Ex) (y:Ex),n.length<1000→zx3 Tryz.prog l [(qo,.gst (J n))] [.agg (exC y)] (.bool true) [(qo,.gst (J (n++ [y])))]
abbrev H1 (l:Nat) (J:List Ex→GJ) (n:List Ex):Hp:= [(1000003,.cells [.cb l]),(qo,.gst (J n))]
abbrev H2 (l:Nat) (J:List Ex→GJ) (n:List Ex):Hp:= [(1000004,.cells [.fn 218 [.ptr 1000003 0]]),(1000003,.cells [.cb l]),(qo,.gst (J n))]
theorem qc4 {h h':Hp} (l:Nat) (J:List Ex→GJ) (n:List Ex):leH h h' (H1 l J n) (H1 l J n):=lh1 (bc0 (lc (lr rfl) ln0)) (lh1 (bg0 rfl) lh0)
theorem zzr {h h':Hp} (l:Nat) (J:List Ex→GJ) (n:List Ex):leH h h' (H2 l J n) (H2 l J n):=lh1 (bc0 (lc (lr rfl) ln0)) (lh1 (bc0 (lc (lr rfl) ln0)) (lh1 (bg0 rfl) lh0))
abbrev qaw (l:Nat) (J:List Ex→GJ) (e:Ex):Prop:= ∀n:List Ex,n.length+zd6 e≤1000→Fn 144 [(qo,.gst (J n))] [.agg (exC e),.cb l] (.bool true) [(qo,.gst (J (n++um e)))]
theorem f153 (l:Nat) (J:List Ex→GJ) (x:Ex) (hx:qaw l J x) (n:List Ex) (hn:n.length+zd6 x≤1000):Fn 218 (H1 l J n) [.agg (exC x),.ptr 1000003 0] (.bool true) (H1 l J (n++um x)):=by
 refine fnT hT hmx Tryz.func218 rfl rfl (ex:= []) ?_;conv=>whnf
 refine⟨[.gst (J (n++um x))],.bool true,hx n hn,?_⟩;conv=>whnf
 exact⟨lr rfl,qc4 l J _⟩
theorem f163 (l:Nat) (J:List Ex→GJ) (x:Ex) (hx:qaw l J x) (n:List Ex) (hn:n.length+zd6 x≤1000):Fn 281 (H2 l J n) [.agg (exC x),.ptr 1000004 0] (.bool false) (H2 l J (n++um x)):=by
 refine fnT hT hmx Tryz.func281 rfl rfl (ex:= []) ?_;conv=>whnf
 refine⟨[.cells [.cb l],.gst (J (n++um x))],.bool true,f153 l J x hx n hn,?_⟩;conv=>whnf
 exact⟨lr rfl,zzr l J _⟩
theorem zr0 {l:List Ex} {i:Nat} {x:Ex} (hx:l[i]? =some x):xm (l.take (i+1))=xm (l.take i)++um x:=by
 rw[List.take_add_one,hx]
 simp only[Option.toList_some]
 generalize l.take i=m
 induction m with
 |nil=>simp[xm]
 |cons y m ih=>simp only[List.cons_append,xm,ih,List.append_assoc]
theorem zra: ∀ {l:List Ex} {i:Nat} {x:Ex},l[i]? =some x→zd5 (l.take i)+zd6 x≤zd5 l
 | [],_,_,h=>by simp at h
 |y::l,0,x,h=>by
  obtain rfl:y=x:=by simpa using h
  simp only[List.take_zero,zd5];omega
 |y::l,i+1,x,h=>by
  have:=zra (l:=l) (i:=i) (x:=x) (by simpa using h)
  simp only[List.take_succ_cons,zd5];omega
theorem f114w (l:Nat) (J:List Ex→GJ) (xs:List Ex) (hl: ∀x∈xs,qaw l J x) (hlen:xs.length<9223372036854775808) (n:List Ex) (hn:n.length+zd5 xs≤1000):
 Fn 184 (H2 l J n) [.sl .ex xs,.fn 281 [.ptr 1000004 0]] (.int .i64 (-1)) (H2 l J (n++xm xs)):=by
 refine fnT hT hmx Tryz.func184 rfl rfl (ex:= []) ?_;conv=>whnf
 refine⟨Nat,fun i=>i≤xs.length,fun i=> [(8,.int .i64 i)],fun i=> [(qo,.gst (J (n++xm (xs.take i))))],fun i=>xs.length-i,0,by simp,?_,fun i hi=>?_⟩
 ·((conv=>whnf);refine And.intro ?_ ?_;repeat' first|refine lc ?_ ?_|exact la0|exact lr rfl|exact ln0|refine lh1 ?_ ?_|exact lh0|exact bf0|exact bd0|refine bc0 ?_|exact bm0 rfl|exact bg0 rfl|exact li0 rfl|refine lg0 ?_|refine lt0 ?_|fail)
  exact bg0 (by simp[xm])
 ·(refine⟨by kernel_rfl,?_⟩;(conv=>whnf))
  refine brI (fun h1=>?_) (fun h1=>?_)
  ·conv=>whnf
   have hi:i<xs.length:=by simp only[decide_eq_true_eq]at h1;omega
   refine⟨⟨by omega,by omega⟩,fun e he=>?_⟩
   have he:xs[(i:Int).toNat]? =some e:=he
   have he:xs[i]? =some e:=by simpa using he
   conv=>whnf
   refine⟨[.cells [.fn 218 [.ptr 1000003 0]],.cells [.cb l],.gst (J (n++xm (xs.take i)++um e))],.bool false,f163 l J e (hl e (List.mem_of_getElem? he)) _ (by rw[List.length_append,zir];have:=zra he;omega),?_⟩;conv=>whnf
   refine⟨i+1,by show i+1≤xs.length;omega,by show xs.length-(i+1)<xs.length-i;omega,?_⟩
   ((conv=>whnf);refine And.intro ?_ ?_;repeat' first|refine lc ?_ ?_|exact la0|exact lr rfl|exact ln0|refine lh1 ?_ ?_|exact lh0|exact bf0|exact bd0|refine bc0 ?_|exact bm0 rfl|exact bg0 rfl|exact li0 rfl|refine lg0 ?_|refine lt0 ?_|fail)
   ·exact ai0 (by rw[wI (by omega)];omega)
   ·exact bg0 (by rw[zr0 he,List.append_assoc])
  ·conv=>whnf
   have hi: ¬i<xs.length:=by simp only[decide_eq_false_iff_not]at h1;omega
   rw[List.take_of_length_le (by omega)]
   exact⟨lr rfl,zzr l J _⟩
theorem f60w (l:Nat) (J:List Ex→GJ) (xs:List Ex) (hl: ∀x∈xs,qaw l J x) (hlen:xs.length<9223372036854775808) (n:List Ex) (hn:n.length+zd5 xs≤1000):
 Fn 111 (H2 l J n) [.sl .ex xs,.fn 281 [.ptr 1000004 0]] (.bool false) (H2 l J (n++xm xs)):=by
 refine fnT hT hmx Tryz.func111 rfl rfl (ex:= []) ?_;conv=>whnf
 refine⟨[.cells [.fn 218 [.ptr 1000003 0]],.cells [.cb l],.gst (J (n++xm xs))],_,f114w l J xs hl hlen n hn,?_⟩;conv=>whnf
 exact⟨lr rfl,zzr l J _⟩
theorem f152 (l:Nat) (J:List Ex→GJ) (xs:List Ex) (hl: ∀x∈xs,qaw l J x) (hlen:xs.length<9223372036854775808) (n:List Ex) (hn:n.length+zd5 xs≤1000):
 Fn 217 (H1 l J n) [.sl .ex xs,.fn 218 [.ptr 1000003 0]] (.bool true) (H1 l J (n++xm xs)):=by
 refine fnT hT hmx Tryz.func217 rfl rfl (ex:= []) ?_;conv=>whnf
 refine⟨[.cells [.fn 218 [.ptr 1000003 0]],.cells [.cb l],.gst (J (n++xm xs))],.bool false,(f60w l J xs hl hlen n hn).sw [(3,1000004)] rfl,?_⟩;conv=>whnf
 exact⟨lr rfl,qc4 l J _⟩
theorem f127 (l:Nat) (J:List Ex→GJ) (hJ:qen l J): ∀e:Ex,Sm e→qaw l J e:=by
 refine zmk fun k q s p xs ih hs n hn=>?_
 simp only[Sm]at hs
 simp only[zd6]at hn
 have hl: ∀x∈xs,qaw l J x:=fun x hx=>ih x hx (zjm hs.2.2 x hx)
 refine fnT hT hmx Tryz.func144 rfl rfl (ex:= []) ?_;conv=>whnf
 refine⟨[.gst (J (n++ [Ex.mk k q s p xs]))],.bool true,hJ n (.mk k q s p xs) (by omega),?_⟩;conv=>whnf
 refine⟨[.cells [.cb l],.gst (J (n++ [Ex.mk k q s p xs]++xm xs))],.bool true,(f152 l J xs hl hs.2.1 (n++ [Ex.mk k q s p xs]) (by simp;omega)).sw [(3,1000003)] rfl,?_⟩;conv=>whnf
 refine⟨lr rfl,lh1 (bg0 ?_) lh0⟩
 rw[show n++ [Ex.mk k q s p xs]++xm xs=n++um (.mk k q s p xs) by simp[um]]
end Go.Proofs.YtajnlbbgolmklaaGreatDoor

namespace Go.Proofs.YtajnlbbgolmklaaGreatDoor
open Go Go.Sx
set_option maxRecDepth 100000
set_option maxHeartbeats 8000000
theorem f154 (l:List Ex) (hl:l.length≤1000):Fn 150 [] [.sl .ex l] (.own 2000000) [(2000000,.buf 26 .ex l)]:=by
 refine fnT hT hmx Tryz.func150 rfl rfl (ex:= [7]) ?_;conv=>whnf
 refine⟨fun h=>?_,fun _=>?_⟩
 ·conv=>whnf
  subst h
  exact⟨trivial,lh1 (zss rfl rfl) lh0⟩
 ·conv=>whnf
  refine⟨by simp;omega,?_⟩;conv=>whnf
  exact⟨trivial,lh1 (bb0 (by simp)) lh0⟩
abbrev ClOK (e:Ex):Prop:=Fn 145 [] [.agg (exC e)] (.agg (exC e)) []
theorem zu7 {α:Type} {l:List α} {i:Nat} {x:α} (h:l[i]? =some x):l.set i x=l:=by
 obtain⟨hi,hx⟩:=List.getElem?_eq_some_iff.1 h
 rw[←hx];exact List.set_getElem_self hi
theorem za2 (k:Int) (q:Rt) (s:zd) (n:Int) (l:List Ex) (hl: ∀x∈l,ClOK x) (hlen:l.length≤1000):ClOK (.mk k q s n l):=by
 refine fnT hT hmx Tryz.func145 rfl rfl (ex:= []) ?_;conv=>whnf
 refine⟨[],[.buf 26 .ex l],.own 2000000,f154 l hlen,?_⟩;conv=>whnf
 refine⟨Nat,fun i=>i≤l.length,fun i=> [(10,.int .i64 i)],fun _=> [(7,.buf 26 .ex l)],fun i=>l.length-i,0,by simp,?_,fun i hi=>?_⟩
 ·((conv=>whnf);refine And.intro ?_ ?_;repeat' first|refine lc ?_ ?_|exact la0|exact lr rfl|exact ln0|refine lh1 ?_ ?_|exact lh0|exact bf0|exact bd0|refine bc0 ?_|exact bm0 rfl|exact bg0 rfl|exact li0 rfl|refine lg0 ?_|refine lt0 ?_|fail)
  all_goals first|exact bb0 rfl|exact trivial|fail
 ·(refine⟨by kernel_rfl,?_⟩;(conv=>whnf))
  refine brI (fun h1=>?_) (fun h1=>?_)
  ·conv=>whnf
   have h1:i<l.length:=by simp only[decide_eq_true_eq]at h1;omega
   refine⟨⟨by omega,by omega⟩,?_⟩;conv=>whnf
   refine⟨by simpa using h1,fun x hx=>?_⟩
   have hx:l[(i:Int).toNat]? =some x:=hx
   have hx:l[i]? =some x:=by simpa using hx
   conv=>whnf
   refine gZn (hl x (List.mem_of_getElem? hx)) ?_;conv=>whnf
   refine⟨⟨by omega,by omega⟩,?_⟩;conv=>whnf
   rw[Ex.eta2]
   refine⟨by simpa using h1,?_⟩;conv=>whnf
   refine⟨i+1,by show i+1≤l.length;omega,by show l.length-(i+1)<l.length-i;omega,?_⟩
   ((conv=>whnf);refine And.intro ?_ ?_;repeat' first|refine lc ?_ ?_|exact la0|exact lr rfl|exact ln0|refine lh1 ?_ ?_|exact lh0|exact bf0|exact bd0|refine bc0 ?_|exact bm0 rfl|exact bg0 rfl|exact li0 rfl|refine lg0 ?_|refine lt0 ?_|fail)
   ·exact ai0 (by rw[wI (by omega)];omega)
   ·exact bb0 (zu7 (by simpa using hx))
  ·conv=>whnf
   exact⟨qc5 rfl,lh0⟩
theorem f128 {e:Ex} (h:VT e):ClOK e:=by
 induction h with
 |num r hr=>exact za2 1 r [] 0 [] (by simp) (by simp)
 |var s hs=>exact za2 2 ⟨0,0⟩ s 0 [] (by simp) (by simp)
 |un k a hk ha ih=>exact za2 k ⟨0,0⟩ [] 0 [a] (by simpa using ih) (by simp)
 |pow n a h1 h2 ha ih=>exact za2 8 ⟨0,0⟩ [] n [a] (by simpa using ih) (by simp)
 |bin k a b hk ha hb ih1 ih2=>exact za2 k ⟨0,0⟩ [] 0 [a,b] (by simpa using⟨ih1,ih2⟩) (by simp)
def szN (e:Ex):Nat:=if okT e then zd6 e else 0
def zgq (e:Ex):List Ex:=if okT e then um e else []
theorem zh9 (e:Ex):(zgq e).length =szN e:=by
 unfold zgq szN
 split
 ·exact zc1 e
 ·rfl
theorem f126 (l:Nat) (J:List Ex→GJ) (hJ:qen l J) (e:Ex) (he:Sm e):Fn 143 [(qo,.gst (J [])),(1000001,.cells (exC e))] [.cb l,.ptr 1000001 0] (.tup []) [(qo,.gst (J (zgq e))),(1000001,.cells (exC e))]:=by
 refine fnT hT hmx Tryz.func143 rfl rfl (ex:= []) ?_;conv=>whnf
 refine cbI [] (okT e) (f17 e he) (fun h1=>?_) (fun h1=>?_)
 ·conv=>whnf
  refine gZn (f128 (zaf h1)) ?_;conv=>whnf
  refine⟨[.gst (J ([]++um e))],.bool true,f127 l J hJ e he [] (by have:=((xc e).1 h1).2.2;simp;omega),?_⟩
  conv=>whnf
  refine⟨lr rfl,lh1 (bg0 ?_) (lh1 (bc0 ?_) lh0)⟩
  ·rw[show zgq e= []++um e by simp[zgq,h1]]
  ·exact lc (lr rfl) (lc (lr rfl) (lc (lr rfl) (lc (lr rfl) (lc (lr rfl) (lc (lr rfl) ln0)))))
 ·conv=>whnf
  refine⟨lr rfl,lh1 (bg0 ?_) (lh1 (bc0 ?_) lh0)⟩
  ·rw[show zgq e= [] by simp[zgq,h1]]
  ·exact lc (lr rfl) (lc (lr rfl) (lc (lr rfl) (lc (lr rfl) (lc (lr rfl) (lc (lr rfl) ln0)))))
theorem f71 (e:Ex):Fn 91 [] [.agg (exC e)] (.fn 143 [.ptr 2000000 0]) [(2000000,.cells (exC e))]:=by
 refine fnT hT hmx Tryz.func91 rfl rfl (ex:= [1]) ?_;conv=>whnf
 (refine And.intro ?_ ?_;repeat' first|refine lc ?_ ?_|exact la0|exact lr rfl|exact ln0|refine lh1 ?_ ?_|exact lh0|exact bf0|exact bd0|refine bc0 ?_|exact bm0 rfl|exact bg0 rfl|exact li0 rfl|refine lg0 ?_|refine lt0 ?_|fail)
end Go.Proofs.YtajnlbbgolmklaaGreatDoor

namespace Go.Proofs.YtajnlbbgolmklaaGreatDoor
open Go Go.Sx
set_option maxRecDepth 100000
set_option maxHeartbeats 8000000
end Go.Proofs.YtajnlbbgolmklaaGreatDoor

namespace Go.Proofs.YtajnlbbgolmklaaGreatDoor
open Go Go.Sx
set_option maxRecDepth 100000
set_option maxHeartbeats 8000000
theorem zqv (e:Ex):szN e≤200:=by
 unfold szN
 split
 ·rename_i h;exact((xc e).1 h).2.2
 ·omega
end Go.Proofs.YtajnlbbgolmklaaGreatDoor
