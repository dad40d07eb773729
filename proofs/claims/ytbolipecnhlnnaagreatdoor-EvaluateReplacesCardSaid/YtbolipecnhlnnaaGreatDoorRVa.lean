/-
  Trees as plain data: valid ones, their depth, their size.
-/
import Derived.Test.YtbolipecnhlnnaaGreatDoorRUb
import Derived.Test.YtbolipecnhlnnaaGreatDoorRSxY
import Derived.Test.YtbolipecnhlnnaaGreatDoorRUa
import Derived.Shelf.Sort.Plain
import Derived.Shelf.Slices.In.SortNone
import Derived.Shelf.Slices.CompactS
import Derived.Test.YtbolipecnhlnnaaGreatDoorRZz
set_option linter.unusedVariables false
set_option linter.unusedSimpArgs false
open And renaming intro->q2
open Bool renaming and_eq_true->q4,and_true->qB,eq_iff_iff->qE
open List renaming drop_of_length_le->q3,getElem?_eq_some_iff->q5,length_cons->q6,mem_of_getElem?->q7,length_append->q9,length_eq_zero_iff->qd,length_mergeSort->qn,mem_cons->qA,append_assoc->qC,cons_append->qD,all_cons->qF
namespace Go.Proofs.YtbolipecnhlnnaaGreatDoor
open Go Go.Sx
mutual
def depE:Ex->Nat
 | .mk _ _ _ _ l=>qgy l+1
def qgy:List Ex->Nat
 | []=>0
 |x::l=>max (depE x) (qgy l)
end
mutual
def zmt:Ex->Nat
 | .mk _ _ _ _ l=>zms l+1
def zms:List Ex->Nat
 | []=>0
 |x::l=>zmt x+zms l
end
mutual
def VS:Ex->Prop
 | .mk k q s p l=>zjt (.mk k q s p l)=true/\VSL l
def VSL:List Ex->Prop
 | []=>True
 |x::l=>VS x/\VSL l
end
mutual
theorem zpw: ∀(e:Ex) (d n:Nat),((zda e d n).1=true<->VS e/\d+depE e<=21/\n+zmt e<=200)/\((zda e d n).1=true->(zda e d n).2=n+zmt e)
 | .mk k q s p l,d,n=>by
   simp only[zda,VS,depE,zmt];by_cases h:d<=20/\n+1<=200/\zjt (.mk k q s p l)=true
   ·rw[if_pos h];have ih:=zpv l (d+1) (n+1) (by omega) (by omega);refine⟨⟨fun h1=>?_,fun h1=>?_⟩,fun h1=>?_⟩
    ·have:=ih.1.1 h1;exact⟨⟨h.2.2,this.1⟩,by omega,by omega⟩
    ·exact ih.1.2 ⟨h1.1.2,by omega,by omega⟩
    ·have:=ih.2 h1;omega
   ·rw[if_neg h];refine⟨⟨fun h1=>by simp at h1,fun h1=>absurd ⟨by omega,by omega,h1.1.1⟩ h⟩,fun h1=>by simp at h1⟩
theorem zpv: ∀(l:List Ex) (d n:Nat),d<=21->n<=200->((ze4 l d n).1=true<->VSL l/\d+qgy l<=21/\n+zms l<=200)/\((ze4 l d n).1=true->(ze4 l d n).2=n+zms l)
 | [],d,n,hd,hn=>by
   simp only[ze4,VSL,qgy,zms];exact⟨⟨fun _=>⟨trivial,by omega,by omega⟩,fun _=>trivial⟩,fun _=>rfl⟩
 |x::l,d,n,hd,hn=>by
  have ih:=zpw x d n;simp only[ze4,VSL,qgy,zms];rcases hx:zda x d n with ⟨b,m⟩
  rw[hx]at ih
  cases b with
  |true=>
   have h1:=ih.1.1 rfl;have h2:m=n+zmt x:=ih.2 rfl;subst h2;have ih2:=zpv l d (n+zmt x) hd (by omega);refine⟨⟨fun h=>?_,fun h=>?_⟩,fun h=>?_⟩
   ·have:=ih2.1.1 h;exact⟨⟨h1.1,this.1⟩,by omega,by omega⟩
   ·exact ih2.1.2 ⟨h.1.2,by omega,by omega⟩
   ·have:=ih2.2 h;simp only at this⊢;omega
  |false=>
   refine⟨⟨fun h=>by simp at h,fun h=>?_⟩,fun h=>by simp at h⟩;have:=ih.1.2 ⟨h.1.1,by omega,by omega⟩;simp at this
end
theorem zm4 (e:Ex):okT e=true<->VS e/\depE e<=20/\zmt e<=200:=by
 have:=(zpw e 1 0).1;unfold okT;rw[this];constructor
 ·rintro⟨h1,h2,h3⟩;exact⟨h1,by omega,by omega⟩
 ·rintro⟨h1,h2,h3⟩;exact⟨h1,by omega,by omega⟩
def zi5 (s:ze):Ex:= .mk 2 ⟨0,0⟩ s 0 []
def K1 (k:Int):Prop:=k=7\/k=9\/k=10\/k=11\/k=12\/k=13
def K2 (k:Int):Prop:=k=3\/k=4\/k=5\/k=6
inductive VT:Ex->Prop
 |num (r:Rt):rOk r=true->VT (zhs r)
 |var (s:ze):zht s=true->VT (zi5 s)
 |un (k:Int) (a:Ex):K1 k->VT a->VT (opE k 0 [a])
 |pow (n:Int) (a:Ex):0<=n->n<=16->VT a->VT (opE 8 n [a])
 |bin (k:Int) (a b:Ex):K2 k->VT a->VT b->VT (opE k 0 [a,b])
theorem zvr: ∀ {l:List Ex},VSL l-> ∀x∈l,VS x
 | [],_,x,hx=>by simp at hx
 |y::l,h,x,hx=>by
  rcases qA.1 hx with rfl|hx
  ·exact h.1
  ·exact zvr h.2 x hx
theorem len1 {α:Type} {l:List α} (h:l.length=1): ∃a,l= [a]:=by
 match l,h with
 | [a],_=>exact⟨a,rfl⟩
theorem len2 {α:Type} {l:List α} (h:l.length=2): ∃a b,l= [a,b]:=by
 match l,h with
 | [a,b],_=>exact⟨a,b,rfl⟩
theorem VS_VT: ∀e,VS e->VT e:=by
 refine zul fun k q s p l ih h=>?_
 simp only[VS]at h;obtain⟨hn,hl⟩:=h;have hall: ∀x∈l,VT x:=fun x hx=>ih x hx (zvr hl x hx)
 have hn:(if k=1 then numB (.mk k q s p l)else if k=2 then varB (.mk k q s p l)else if k=8 then powB (.mk k q s p l)else opB (.mk k q s p l))=true:=hn;by_cases hk1:k=1
 ·rw[if_pos hk1]at hn;subst hk1;have hn:(rOk q&&(s== [])&&decide (p=0)&&decide (l.length=0))=true:=hn;simp only[q4,decide_eq_true_eq,beq_iff_eq]at hn;obtain⟨⟨⟨h1,rfl⟩,rfl⟩,h2⟩:=hn;obtain rfl:l= []:=qd.1 h2;exact VT.num q h1
 ·rw[if_neg hk1]at hn;by_cases hk2:k=2
  ·rw[if_pos hk2]at hn;subst hk2;have hn:(decide (q=⟨0,0⟩)&&zht s&&decide (p=0)&&decide (l.length=0))=true:=hn;simp only[q4,decide_eq_true_eq,beq_iff_eq]at hn;obtain⟨⟨⟨rfl,h1⟩,rfl⟩,h2⟩:=hn;obtain rfl:l= []:=qd.1 h2;exact VT.var s h1
  ·rw[if_neg hk2]at hn;by_cases hk8:k=8
   ·rw[if_pos hk8]at hn;subst hk8;have hn:(decide (q=⟨0,0⟩)&&(s== [])&&decide (0<=p)&&decide (p<=16)&&decide (l.length=1))=true:=hn;simp only[q4,decide_eq_true_eq,beq_iff_eq]at hn;obtain⟨⟨⟨⟨rfl,rfl⟩,h1⟩,h2⟩,h3⟩:=hn;obtain⟨a,rfl⟩:=len1 h3;exact VT.pow p a h1 h2 (hall a (by simp))
   ·rw[if_neg hk8]at hn;have hn:(decide (q=⟨0,0⟩)&&(s== [])&&decide (p=0)&&decide ((l.length:Int)=opn k))=true:=hn;simp only[q4,decide_eq_true_eq,beq_iff_eq]at hn;obtain⟨⟨⟨rfl,rfl⟩,rfl⟩,h1⟩:=hn;unfold opn at h1;split at h1
    ·obtain⟨a,b,rfl⟩:=len2 (l:=l) (by omega);exact VT.bin k a b ‹_› (hall a (by simp)) (hall b (by simp))
    ·split at h1
     ·obtain⟨a,rfl⟩:=len1 (l:=l) (by omega);exact VT.un k a (by unfold K1;omega) (hall a (by simp))
     ·omega
theorem zbg {e:Ex} (h:okT e=true):VT e:=VS_VT e ((zm4 e).1 h).1
set_option maxRecDepth 100000
set_option maxHeartbeats 8000000
mutual
def zfe:Ex->List Ex
 | .mk k q s p l=> .mk k q s p l::zdp l
def zdp:List Ex->List Ex
 | []=> []
 |x::l=>zfe x++zdp l
end
mutual
theorem zoq: ∀e:Ex,(zfe e).length =zmt e
 | .mk k q s p l=>by simp only[zfe,zmt,q6,zjp l]
theorem zjp: ∀l:List Ex,(zdp l).length =zms l
 | []=>rfl
 |x::l=>by simp only[zdp,zms,q9,zoq x,zjp l]
end
def qhj (l:Nat) (J:List Ex->GJ):Prop:= ∀(n:List Ex) (y:Ex),n.length<1000->zz3 Tryz.prog l [(qu,.gst (J n))] [.agg (exC y)] (.bool true) [(qu,.gst (J (n++ [y])))]
abbrev H1 (l:Nat) (J:List Ex->GJ) (n:List Ex):Hp:= [(1000003,.cells [.cb l]),(qu,.gst (J n))]
abbrev H2 (l:Nat) (J:List Ex->GJ) (n:List Ex):Hp:= [(1000004,.cells [.fn 281 [.ptr 1000003 0]]),(1000003,.cells [.cb l]),(qu,.gst (J n))]
theorem qfw {h h':Hp} (l:Nat) (J:List Ex->GJ) (n:List Ex):leH h h' (H1 l J n) (H1 l J n):=lh1 (bc0 (lc (lr rfl) ln0)) (lh1 (bg0 rfl) lh0)
theorem qb0 {h h':Hp} (l:Nat) (J:List Ex->GJ) (n:List Ex):leH h h' (H2 l J n) (H2 l J n):=lh1 (bc0 (lc (lr rfl) ln0)) (lh1 (bc0 (lc (lr rfl) ln0)) (lh1 (bg0 rfl) lh0))
abbrev qda (l:Nat) (J:List Ex->GJ) (e:Ex):Prop:= ∀n:List Ex,n.length+zmt e<=1000->Fn 189 [(qu,.gst (J n))] [.agg (exC e),.cb l] (.bool true) [(qu,.gst (J (n++zfe e)))]
theorem f153 (l:Nat) (J:List Ex->GJ) (x:Ex) (hx:qda l J x) (n:List Ex) (hn:n.length+zmt x<=1000):Fn 281 (H1 l J n) [.agg (exC x),.ptr 1000003 0] (.bool true) (H1 l J (n++zfe x)):=by
 refine fnT hT hmx Tryz.func281 rfl rfl (ex:= []) ?_;conv=>whnf
 refine⟨[.gst (J (n++zfe x))],.bool true,hx n hn,?_⟩;conv=>whnf
 exact⟨lr rfl,qfw l J _⟩
theorem f163 (l:Nat) (J:List Ex->GJ) (x:Ex) (hx:qda l J x) (n:List Ex) (hn:n.length+zmt x<=1000):Fn 355 (H2 l J n) [.agg (exC x),.ptr 1000004 0] (.bool false) (H2 l J (n++zfe x)):=by
 refine fnT hT hmx Tryz.func355 rfl rfl (ex:= []) ?_;conv=>whnf
 refine⟨[.cells [.cb l],.gst (J (n++zfe x))],.bool true,f153 l J x hx n hn,?_⟩;conv=>whnf
 exact⟨lr rfl,qb0 l J _⟩
theorem ztc {l:List Ex} {i:Nat} {x:Ex} (hx:l[i]? =some x):zdp (l.take (i+1))=zdp (l.take i)++zfe x:=by
 rw[List.take_add_one,hx];simp only[Option.toList_some];generalize l.take i=m
 induction m with
 |nil=>simp[zdp]
 |cons y m ih=>simp only[qD,zdp,ih,qC]
theorem zsl: ∀ {l:List Ex} {i:Nat} {x:Ex},l[i]? =some x->zms (l.take i)+zmt x<=zms l
 | [],_,_,h=>by simp at h
 |y::l,0,x,h=>by
  obtain rfl:y=x:=by simpa using h
  simp only[List.take_zero,zms];omega
 |y::l,i+1,x,h=>by
  have:=zsl (l:=l) (i:=i) (x:=x) (by simpa using h);simp only[List.take_succ_cons,zms];omega
theorem f114w (l:Nat) (J:List Ex->GJ) (xs:List Ex) (hl: ∀x∈xs,qda l J x) (hlen:xs.length<9223372036854775808) (n:List Ex) (hn:n.length+zms xs<=1000):
 Fn 342 (H2 l J n) [.sl .ex xs,.fn 355 [.ptr 1000004 0]] (.int .i64 (-1)) (H2 l J (n++zdp xs)):=by
 refine fnT hT hmx Tryz.func342 rfl rfl (ex:= []) ?_;conv=>whnf
 refine⟨Nat,fun i=>i<=xs.length,fun i=> [(8,.int .i64 i)],fun i=> [(qu,.gst (J (n++zdp (xs.take i))))],fun i=>xs.length-i,0,by simp,?_,fun i hi=>?_⟩
 ·((conv=>whnf);refine q2 ?_ ?_;repeat' first|refine lc ?_ ?_|exact la0|exact lr rfl|exact ln0|refine lh1 ?_ ?_|exact lh0|exact bf0|exact bd0|refine bc0 ?_|exact bm0 rfl|exact bg0 rfl|exact li0 rfl|refine lg0 ?_|refine lt0 ?_|fail)
  exact bg0 (by simp[zdp])
 ·(refine⟨by kernel_rfl,?_⟩;(conv=>whnf))
  refine brI (fun h1=>?_) (fun h1=>?_)
  ·conv=>whnf
   have hi:i<xs.length:=by simp only[decide_eq_true_eq]at h1;omega
   refine⟨⟨by omega,by omega⟩,fun e he=>?_⟩;have he:xs[(i:Int).toNat]? =some e:=he;have he:xs[i]? =some e:=by simpa using he
   conv=>whnf
   refine⟨[.cells [.fn 281 [.ptr 1000003 0]],.cells [.cb l],.gst (J (n++zdp (xs.take i)++zfe e))],.bool false,f163 l J e (hl e (q7 he)) _ (by rw[q9,zjp];have:=zsl he;omega),?_⟩;conv=>whnf
   refine⟨i+1,by show i+1<=xs.length;omega,by show xs.length-(i+1)<xs.length-i;omega,?_⟩
   ((conv=>whnf);refine q2 ?_ ?_;repeat' first|refine lc ?_ ?_|exact la0|exact lr rfl|exact ln0|refine lh1 ?_ ?_|exact lh0|exact bf0|exact bd0|refine bc0 ?_|exact bm0 rfl|exact bg0 rfl|exact li0 rfl|refine lg0 ?_|refine lt0 ?_|fail)
   ·exact ai0 (by rw[wI (by omega)];omega)
   ·exact bg0 (by rw[ztc he,qC])
  ·conv=>whnf
   have hi: ¬i<xs.length:=by simp only[decide_eq_false_iff_not]at h1;omega
   rw[List.take_of_length_le (by omega)];exact⟨lr rfl,qb0 l J _⟩
theorem f60w (l:Nat) (J:List Ex->GJ) (xs:List Ex) (hl: ∀x∈xs,qda l J x) (hlen:xs.length<9223372036854775808) (n:List Ex) (hn:n.length+zms xs<=1000):
 Fn 263 (H2 l J n) [.sl .ex xs,.fn 355 [.ptr 1000004 0]] (.bool false) (H2 l J (n++zdp xs)):=by
 refine fnT hT hmx Tryz.func263 rfl rfl (ex:= []) ?_;conv=>whnf
 refine⟨[.cells [.fn 281 [.ptr 1000003 0]],.cells [.cb l],.gst (J (n++zdp xs))],_,f114w l J xs hl hlen n hn,?_⟩;conv=>whnf
 exact⟨lr rfl,qb0 l J _⟩
theorem f152 (l:Nat) (J:List Ex->GJ) (xs:List Ex) (hl: ∀x∈xs,qda l J x) (hlen:xs.length<9223372036854775808) (n:List Ex) (hn:n.length+zms xs<=1000):
 Fn 280 (H1 l J n) [.sl .ex xs,.fn 281 [.ptr 1000003 0]] (.bool true) (H1 l J (n++zdp xs)):=by
 refine fnT hT hmx Tryz.func280 rfl rfl (ex:= []) ?_;conv=>whnf
 refine⟨[.cells [.fn 281 [.ptr 1000003 0]],.cells [.cb l],.gst (J (n++zdp xs))],.bool false,(f60w l J xs hl hlen n hn).sw [(3,1000004)] rfl,?_⟩;conv=>whnf
 exact⟨lr rfl,qfw l J _⟩
theorem f127 (l:Nat) (J:List Ex->GJ) (hJ:qhj l J): ∀e:Ex,Sm e->qda l J e:=by
 refine zul fun k q s p xs ih hs n hn=>?_
 simp only[Sm]at hs;simp only[zmt]at hn;have hl: ∀x∈xs,qda l J x:=fun x hx=>ih x hx (znx hs.2.2 x hx)
 refine fnT hT hmx Tryz.func189 rfl rfl (ex:= []) ?_;conv=>whnf
 refine⟨[.gst (J (n++ [Ex.mk k q s p xs]))],.bool true,hJ n (.mk k q s p xs) (by omega),?_⟩;conv=>whnf
 refine⟨[.cells [.cb l],.gst (J (n++ [Ex.mk k q s p xs]++zdp xs))],.bool true,(f152 l J xs hl hs.2.1 (n++ [Ex.mk k q s p xs]) (by simp;omega)).sw [(3,1000003)] rfl,?_⟩;conv=>whnf
 refine⟨lr rfl,lh1 (bg0 ?_) lh0⟩;rw[show n++ [Ex.mk k q s p xs]++zdp xs=n++zfe (.mk k q s p xs) by simp[zfe]]
theorem f154 (l:List Ex) (hl:l.length<=1000):Fn 187 [] [.sl .ex l] (.own 2000000) [(2000000,.buf 63 .ex l)]:=by
 refine fnT hT hmx Tryz.func187 rfl rfl (ex:= [7]) ?_;conv=>whnf
 refine⟨fun h=>?_,fun _=>?_⟩
 ·conv=>whnf
  subst h;exact⟨trivial,lh1 (zt2 rfl rfl) lh0⟩
 ·conv=>whnf
  refine⟨by simp;omega,?_⟩;conv=>whnf
  exact⟨trivial,lh1 (bb0 (by simp)) lh0⟩
abbrev qhr (e:Ex):Prop:=Fn 186 [] [.agg (exC e)] (.agg (exC e)) []
theorem zwu {α:Type} {l:List α} {i:Nat} {x:α} (h:l[i]? =some x):l.set i x=l:=by
 obtain⟨hi,hx⟩:=q5.1 h;rw[←hx];exact List.set_getElem_self hi
theorem zbr (k:Int) (q:Rt) (s:ze) (n:Int) (l:List Ex) (hl: ∀x∈l,qhr x) (hlen:l.length<=1000):qhr (.mk k q s n l):=by
 refine fnT hT hmx Tryz.func186 rfl rfl (ex:= []) ?_;conv=>whnf
 refine⟨[],[.buf 63 .ex l],.own 2000000,f154 l hlen,?_⟩;conv=>whnf
 refine⟨Nat,fun i=>i<=l.length,fun i=> [(10,.int .i64 i)],fun _=> [(7,.buf 63 .ex l)],fun i=>l.length-i,0,by simp,?_,fun i hi=>?_⟩
 ·((conv=>whnf);refine q2 ?_ ?_;repeat' first|refine lc ?_ ?_|exact la0|exact lr rfl|exact ln0|refine lh1 ?_ ?_|exact lh0|exact bf0|exact bd0|refine bc0 ?_|exact bm0 rfl|exact bg0 rfl|exact li0 rfl|refine lg0 ?_|refine lt0 ?_|fail)
  all_goals first|exact bb0 rfl|exact trivial|fail
 ·(refine⟨by kernel_rfl,?_⟩;(conv=>whnf))
  refine brI (fun h1=>?_) (fun h1=>?_)
  ·conv=>whnf
   have h1:i<l.length:=by simp only[decide_eq_true_eq]at h1;omega
   refine⟨⟨by omega,by omega⟩,?_⟩;conv=>whnf
   refine⟨by simpa using h1,fun x hx=>?_⟩;have hx:l[(i:Int).toNat]? =some x:=hx;have hx:l[i]? =some x:=by simpa using hx
   conv=>whnf
   refine gZn (hl x (q7 hx)) ?_;conv=>whnf
   refine⟨⟨by omega,by omega⟩,?_⟩;conv=>whnf
   rw[Ex.eta2];refine⟨by simpa using h1,?_⟩;conv=>whnf
   refine⟨i+1,by show i+1<=l.length;omega,by show l.length-(i+1)<l.length-i;omega,?_⟩
   ((conv=>whnf);refine q2 ?_ ?_;repeat' first|refine lc ?_ ?_|exact la0|exact lr rfl|exact ln0|refine lh1 ?_ ?_|exact lh0|exact bf0|exact bd0|refine bc0 ?_|exact bm0 rfl|exact bg0 rfl|exact li0 rfl|refine lg0 ?_|refine lt0 ?_|fail)
   ·exact ai0 (by rw[wI (by omega)];omega)
   ·exact bb0 (zwu (by simpa using hx))
  ·conv=>whnf
   exact⟨zt3 rfl,lh0⟩
theorem f128 {e:Ex} (h:VT e):qhr e:=by
 induction h with
 |num r hr=>exact zbr 1 r [] 0 [] (by simp) (by simp)
 |var s hs=>exact zbr 2 ⟨0,0⟩ s 0 [] (by simp) (by simp)
 |un k a hk ha ih=>exact zbr k ⟨0,0⟩ [] 0 [a] (by simpa using ih) (by simp)
 |pow n a h1 h2 ha ih=>exact zbr 8 ⟨0,0⟩ [] n [a] (by simpa using ih) (by simp)
 |bin k a b hk ha hb ih1 ih2=>exact zbr k ⟨0,0⟩ [] 0 [a,b] (by simpa using⟨ih1,ih2⟩) (by simp)
def szN (e:Ex):Nat:=if okT e then zmt e else 0
def zhp (e:Ex):List Ex:=if okT e then zfe e else []
theorem zi4 (e:Ex):(zhp e).length =szN e:=by
 unfold zhp szN;split
 ·exact zoq e
 ·rfl
theorem f126 (l:Nat) (J:List Ex->GJ) (hJ:qhj l J) (e:Ex) (he:Sm e):Fn 188 [(qu,.gst (J [])),(1000001,.cells (exC e))] [.cb l,.ptr 1000001 0] (.tup []) [(qu,.gst (J (zhp e))),(1000001,.cells (exC e))]:=by
 refine fnT hT hmx Tryz.func188 rfl rfl (ex:= []) ?_;conv=>whnf
 refine cbI [] (okT e) (f17 e he) (fun h1=>?_) (fun h1=>?_)
 ·conv=>whnf
  refine gZn (f128 (zbg h1)) ?_;conv=>whnf
  refine⟨[.gst (J ([]++zfe e))],.bool true,f127 l J hJ e he [] (by have:=((zm4 e).1 h1).2.2;simp;omega),?_⟩;conv=>whnf
  refine⟨lr rfl,lh1 (bg0 ?_) (lh1 (bc0 ?_) lh0)⟩
  ·rw[show zhp e= []++zfe e by simp[zhp,h1]]
  ·exact lc (lr rfl) (lc (lr rfl) (lc (lr rfl) (lc (lr rfl) (lc (lr rfl) (lc (lr rfl) ln0)))))
 ·conv=>whnf
  refine⟨lr rfl,lh1 (bg0 ?_) (lh1 (bc0 ?_) lh0)⟩
  ·rw[show zhp e= [] by simp[zhp,h1]]
  ·exact lc (lr rfl) (lc (lr rfl) (lc (lr rfl) (lc (lr rfl) (lc (lr rfl) (lc (lr rfl) ln0)))))
theorem f71 (e:Ex):Fn 110 [] [.agg (exC e)] (.fn 188 [.ptr 2000000 0]) [(2000000,.cells (exC e))]:=by
 refine fnT hT hmx Tryz.func110 rfl rfl (ex:= [1]) ?_;conv=>whnf
 (refine q2 ?_ ?_;repeat' first|refine lc ?_ ?_|exact la0|exact lr rfl|exact ln0|refine lh1 ?_ ?_|exact lh0|exact bf0|exact bd0|refine bc0 ?_|exact bm0 rfl|exact bg0 rfl|exact li0 rfl|refine lg0 ?_|refine lt0 ?_|fail)
theorem zr7 (e:Ex):szN e<=200:=by
 unfold szN;split
 ·rename_i h;exact((zm4 e).1 h).2.2
 ·omega
def qhk (l:Nat) (J:Bool->GJ) (p:Ex->Bool):Prop:= ∀y:Ex,zz3 Tryz.prog l [(qu,.gst (J true))] [.agg (exC y)] (.bool (p y)) [(qu,.gst (J (p y)))]
abbrev B1 (l:Nat) (J:Bool->GJ) (b:Bool):Hp:= [(1000003,.cells [.cb l]),(qu,.gst (J b))]
abbrev B2 (l:Nat) (J:Bool->GJ) (b:Bool):Hp:= [(1000004,.cells [.fn 281 [.ptr 1000003 0]]),(1000003,.cells [.cb l]),(qu,.gst (J b))]
theorem leB1 {h h':Hp} (l:Nat) (J:Bool->GJ) (b:Bool):leH h h' (B1 l J b) (B1 l J b):=lh1 (bc0 (lc (lr rfl) ln0)) (lh1 (bg0 rfl) lh0)
theorem leB2 {h h':Hp} (l:Nat) (J:Bool->GJ) (b:Bool):leH h h' (B2 l J b) (B2 l J b):=lh1 (bc0 (lc (lr rfl) ln0)) (lh1 (bc0 (lc (lr rfl) ln0)) (lh1 (bg0 rfl) lh0))
mutual
def ze5 (p:Ex->Bool):Ex->Bool
 | .mk k q s n l=>p (.mk k q s n l)&&zkh p l
def zkh (p:Ex->Bool):List Ex->Bool
 | []=>true
 |x::l=>ze5 p x&&zkh p l
end
def ixA (p:Ex->Bool):List Ex->Nat->Int
 | [],_=> -1
 |x::l,i=>if ze5 p x then ixA p l (i+1)else i
theorem zt9 (p:Ex->Bool): ∀(l:List Ex) (i:Nat),0<=ixA p l i<->zkh p l=false
 | [],i=>by simp[ixA,zkh]
 |x::l,i=>by
  have ih:=zt9 p l (i+1);by_cases h:ze5 p x=true
  ·simp[ixA,zkh,h,ih]
  ·simp[ixA,zkh,h]
abbrev zz0 (l:Nat) (J:Bool->GJ) (p:Ex->Bool) (e:Ex):Prop:=Fn 189 [(qu,.gst (J true))] [.agg (exC e),.cb l] (.bool (ze5 p e)) [(qu,.gst (J (ze5 p e)))]
theorem s153 (l:Nat) (J:Bool->GJ) (p:Ex->Bool) (x:Ex) (hx:zz0 l J p x):Fn 281 (B1 l J true) [.agg (exC x),.ptr 1000003 0] (.bool (ze5 p x)) (B1 l J (ze5 p x)):=by
 refine fnT hT hmx Tryz.func281 rfl rfl (ex:= []) ?_;conv=>whnf
 refine⟨[.gst (J (ze5 p x))],.bool (ze5 p x),hx,?_⟩;conv=>whnf
 exact⟨lr rfl,leB1 l J _⟩
theorem s163 (l:Nat) (J:Bool->GJ) (p:Ex->Bool) (x:Ex) (hx:zz0 l J p x):Fn 355 (B2 l J true) [.agg (exC x),.ptr 1000004 0] (.bool (!ze5 p x)) (B2 l J (ze5 p x)):=by
 refine fnT hT hmx Tryz.func355 rfl rfl (ex:= []) ?_;conv=>whnf
 refine⟨[.cells [.cb l],.gst (J (ze5 p x))],.bool (ze5 p x),s153 l J p x hx,?_⟩;conv=>whnf
 exact⟨ab0 rfl,leB2 l J _⟩
theorem s114 (l:Nat) (J:Bool->GJ) (p:Ex->Bool) (xs:List Ex) (hl: ∀x∈xs,zz0 l J p x) (hlen:xs.length<9223372036854775808):
 Fn 342 (B2 l J true) [.sl .ex xs,.fn 355 [.ptr 1000004 0]] (.int .i64 (ixA p xs 0)) (B2 l J (zkh p xs)):=by
 refine fnT hT hmx Tryz.func342 rfl rfl (ex:= []) ?_;conv=>whnf
 refine⟨Nat,fun i=>i<=xs.length/\ixA p (xs.drop i) i=ixA p xs 0/\zkh p (xs.drop i)=zkh p xs,fun i=> [(8,.int .i64 i)],fun i=> [(qu,.gst (J true))],fun i=>xs.length-i,0,⟨by simp,rfl,rfl⟩,?_,fun i hi=>?_⟩
 ·((conv=>whnf);refine q2 ?_ ?_;repeat' first|refine lc ?_ ?_|exact la0|exact lr rfl|exact ln0|refine lh1 ?_ ?_|exact lh0|exact bf0|exact bd0|refine bc0 ?_|exact bm0 rfl|exact bg0 rfl|exact li0 rfl|refine lg0 ?_|refine lt0 ?_|fail)
 ·(refine⟨by kernel_rfl,?_⟩;(conv=>whnf))
  obtain⟨hi1,hi2,hi3⟩:=hi;refine brI (fun h1=>?_) (fun h1=>?_)
  ·conv=>whnf
   have hi:i<xs.length:=by simp only[decide_eq_true_eq]at h1;omega
   refine⟨⟨by omega,by omega⟩,fun e he=>?_⟩;have he:xs[i]? =some e:=by simpa using he
   rw[wq he]at hi2 hi3;simp only[ixA,zkh]at hi2 hi3;have hx:=s163 l J p e (hl e (q7 he));conv=>whnf
   cases hp:ze5 p e with
   |true=>
    rw[hp]at hx hi2 hi3;refine⟨[.cells [.fn 281 [.ptr 1000003 0]],.cells [.cb l],.gst (J true)],.bool false,hx,?_⟩;conv=>whnf
    refine⟨i+1,⟨by omega,by simpa using hi2,by simpa using hi3⟩,by show xs.length-(i+1)<xs.length-i;omega,?_⟩
    ((conv=>whnf);refine q2 ?_ ?_;repeat' first|refine lc ?_ ?_|exact la0|exact lr rfl|exact ln0|refine lh1 ?_ ?_|exact lh0|exact bf0|exact bd0|refine bc0 ?_|exact bm0 rfl|exact bg0 rfl|exact li0 rfl|refine lg0 ?_|refine lt0 ?_|fail)
    exact ai0 (by rw[wI (by omega)];omega)
   |false=>
    rw[hp]at hx hi2 hi3;refine⟨[.cells [.fn 281 [.ptr 1000003 0]],.cells [.cb l],.gst (J false)],.bool true,hx,?_⟩;conv=>whnf
    rw[←hi3];exact⟨ai0 (by simpa using hi2),leB2 l J _⟩
  ·conv=>whnf
   have hi: ¬i<xs.length:=by simp only[decide_eq_false_iff_not]at h1;omega
   rw[q3 (by omega)]at hi2 hi3;rw[←hi3];exact⟨ai0 hi2,leB2 l J _⟩
theorem s60 (l:Nat) (J:Bool->GJ) (p:Ex->Bool) (xs:List Ex) (hl: ∀x∈xs,zz0 l J p x) (hlen:xs.length<9223372036854775808):
 Fn 263 (B2 l J true) [.sl .ex xs,.fn 355 [.ptr 1000004 0]] (.bool (!zkh p xs)) (B2 l J (zkh p xs)):=by
 refine fnT hT hmx Tryz.func263 rfl rfl (ex:= []) ?_;conv=>whnf
 refine⟨[.cells [.fn 281 [.ptr 1000003 0]],.cells [.cb l],.gst (J (zkh p xs))],_,s114 l J p xs hl hlen,?_⟩;conv=>whnf
 exact⟨ab0 (by rw[qE,decide_eq_true_eq];have:=zt9 p xs 0;simp only[ge_iff_le,this,Bool.not_eq_true']),leB2 l J _⟩
theorem s152 (l:Nat) (J:Bool->GJ) (p:Ex->Bool) (xs:List Ex) (hl: ∀x∈xs,zz0 l J p x) (hlen:xs.length<9223372036854775808):
 Fn 280 (B1 l J true) [.sl .ex xs,.fn 281 [.ptr 1000003 0]] (.bool (zkh p xs)) (B1 l J (zkh p xs)):=by
 refine fnT hT hmx Tryz.func280 rfl rfl (ex:= []) ?_;conv=>whnf
 refine⟨[.cells [.fn 281 [.ptr 1000003 0]],.cells [.cb l],.gst (J (zkh p xs))],.bool (!zkh p xs),(s60 l J p xs hl hlen).sw [(3,1000004)] rfl,?_⟩;conv=>whnf
 exact⟨ab0 (by simp),leB1 l J _⟩
theorem s127 (l:Nat) (J:Bool->GJ) (p:Ex->Bool) (hJ:qhk l J p): ∀e:Ex,Sm e->zz0 l J p e:=by
 refine zul fun k q s n xs ih hs=>?_
 simp only[Sm]at hs;have hl: ∀x∈xs,zz0 l J p x:=fun x hx=>ih x hx (znx hs.2.2 x hx)
 have hy:=hJ (.mk k q s n xs);unfold zz0;simp only[ze5];refine fnT hT hmx Tryz.func189 rfl rfl (ex:= []) ?_;conv=>whnf
 cases hp:p (.mk k q s n xs)with
 |true=>
  rw[hp]at hy;refine⟨[.gst (J true)],.bool true,hy,?_⟩;conv=>whnf
  refine⟨[.cells [.cb l],.gst (J (zkh p xs))],.bool (zkh p xs),(s152 l J p xs hl hs.2.1).sw [(3,1000003)] rfl,?_⟩;conv=>whnf
  exact⟨lr rfl,lh1 (bg0 rfl) lh0⟩
 |false=>
  rw[hp]at hy;refine⟨[.gst (J false)],.bool false,hy,?_⟩;conv=>whnf
  exact⟨lr rfl,lh1 (bg0 rfl) lh0⟩
theorem s126 (l:Nat) (J:Bool->GJ) (p:Ex->Bool) (hJ:qhk l J p) (e:Ex) (he:Sm e) (b:Bool) (hb:b=(!okT e||ze5 p e)):
 Fn 188 [(qu,.gst (J true)),(1000001,.cells (exC e))] [.cb l,.ptr 1000001 0] (.tup []) [(qu,.gst (J b)),(1000001,.cells (exC e))]:=by
 refine fnT hT hmx Tryz.func188 rfl rfl (ex:= []) ?_;conv=>whnf
 refine cbI [] (okT e) (f17 e he) (fun h1=>?_) (fun h1=>?_)
 ·conv=>whnf
  refine gZn (f128 (zbg h1)) ?_;conv=>whnf
  refine⟨[.gst (J (ze5 p e))],.bool (ze5 p e),s127 l J p hJ e he,?_⟩;conv=>whnf
  refine⟨lr rfl,lh1 (bg0 ?_) (lh1 (bc0 (zas rfl)) lh0)⟩;rw[hb,h1];rfl
 ·conv=>whnf
  refine⟨lr rfl,lh1 (bg0 ?_) (lh1 (bc0 (zas rfl)) lh0)⟩;rw[hb,h1];rfl
def qbb (e:Ex):Bool:=okT e&&ze5 (fun y=>decide (y.k<9)) e
theorem f101 (e:Ex) (he:Sm e):Fn 171 [] [.agg (exC e)] (.bool (qbb e)) []:=by
 obtain⟨b,hb⟩: ∃b,b=(!okT e||ze5 (fun y=>decide (y.k<9)) e):=⟨_,rfl⟩;refine fnT hT hmx Tryz.func171 rfl rfl (ex:= []) ?_;conv=>whnf
 refine⟨[],[.cells (exC e)],.fn 188 [.ptr 2000000 0],f71 e,?_⟩;conv=>whnf
 refine⟨[2],Bool,Ex,fun _=> [.cells [.bool false]],fun b=>b,fun _=> .ret,fun y=> [.agg (exC y)],fun _ y=>decide (y.k<9),true,b,.tup [],[.cells (exC e)],?_,rfl,by kernel_rfl,by kernel_rfl,fun _=>⟨rfl,rfl⟩,fun _=>rfl,?_,?_,?_⟩
 ·rfl
 ·intro l J h;exact(s126 l J (fun y=>decide (y.k<9)) (fun y=>h true y rfl) e he b hb).sw [(5,1000001)] rfl
 ·intro x y _;conv=>whnf
  refine brI (fun h1=>?_) (fun h1=>?_)
  ·conv=>whnf
   have h1:y.k≥9:=by simpa using h1
   refine⟨by simp only[decide_eq_false_iff_not];omega,rfl,?_⟩;unfold zno;exact lh1 (bc0 (lc (lr rfl) ln0)) lh0
  ·conv=>whnf
   have h1: ¬y.k≥9:=by simpa using h1
   refine⟨by simp only[decide_eq_true_eq];omega,?_⟩;unfold zno;exact lh1 (bc0 (lc (lr rfl) ln0)) lh0
 ·cases b with
  |true=>
   conv=>whnf
   refine gZn (f17 e he) ?_;conv=>whnf
   exact⟨ab0 (by unfold qbb;cases h1:okT e<;>rw[h1]at hb<;>simp_all),lh0⟩
  |false=>
   conv=>whnf
   exact⟨ab0 (by unfold qbb;cases h1:okT e<;>rw[h1]at hb<;>simp_all),lh0⟩
def qdq (a:Rt):Nat->Rt->Rt×Int
 |0,r=>(r,0)
 |n+1,r=>if(zy6 r a).2=0 then qdq a n (zy6 r a).1 else zy6 r a
def xop (k p:Int) (a b:Rt):Rt×Int:=
 if k=3 then rAdd a b else if k=4 then qdp a b else if k=5 then zy6 a b else if k=6 then rDiv a b else if k=7 then qdp ⟨0,1⟩ a else qdq a p.toNat ⟨1,1⟩
abbrev zi3:=List (ze×Rt)
mutual
def xcE (es:zi3):Ex->Rt×Int
 | .mk k q s p l=>if k=1 then(q,0)else if k=2 then(zb4 .str s ⟨0,0⟩ es,0)else xcL es k p l []
def xcL (es:zi3) (k p:Int):List Ex->List Rt->Rt×Int
 | [],acc=>xop k p (acc[0]?.getD ⟨0,0⟩) (acc[1]?.getD ⟨0,0⟩)
 |x::l,acc=>if(xcE es x).2=0 then xcL es k p l (acc++ [(xcE es x).1])else xcE es x
end
abbrev Hm (es:zi3):Hp:= [(1000001,.map .str .rat es)]
theorem zjy {h h':Hp} (es:zi3):leH h h' (Hm es) (Hm es):=lh1 (bm0 rfl) lh0
abbrev zeb (es:zi3) (e:Ex):Prop:=Fn 173 (Hm es) [.agg (exC e),.mp 1000001] (rto (xcE es e)) (Hm es)
theorem zxx (es:zi3) (r:Rt):zeb es (zhs r):=by
 unfold zeb;rw[show xcE es (zhs r)=(r,0) by simp[zhs,xcE]];refine fnT hT hmx Tryz.func173 rfl rfl (ex:= []) ?_;conv=>whnf
 exact⟨lr rfl,zjy es⟩
theorem zxv (es:zi3) (s:ze):zeb es (zi5 s):=by
 unfold zeb;rw[show xcE es (zi5 s)=(zb4 .str s ⟨0,0⟩ es,0) by simp[zi5,xcE]];refine fnT hT hmx Tryz.func173 rfl rfl (ex:= []) ?_;conv=>whnf
 exact⟨lr rfl,zjy es⟩
theorem zxy (es:zi3) (a:Ex) (ha:zeb es a):zeb es (opE 7 0 [a]):=by
 unfold zeb at*;rw[show xcE es (opE 7 0 [a])=if(xcE es a).2=0 then qdp ⟨0,1⟩ (xcE es a).1 else xcE es a by simp[opE,xcE,xcL,xop]];generalize xcE es a=A at ha;obtain⟨x,f⟩:=A;refine fnT hT hmx Tryz.func173 rfl rfl (ex:= []) ?_;conv=>whnf
 refine⟨Nat,fun i=>i<=1/\(i=1->f=0),fun i=> [(29,.int .i64 i)],fun i=> [(6,.cells (if i=0 then [.int .i64 0,.int .i64 0,.int .i64 0,.int .i64 0]else [.int .i64 x.n,.int .i64 x.d,.int .i64 0,.int .i64 0]))],fun i=>1-i,0,⟨by omega,by omega⟩,?_,fun i hi=>?_⟩
 ·((conv=>whnf);refine q2 ?_ ?_;repeat' first|refine lc ?_ ?_|exact la0|exact lr rfl|exact ln0|refine lh1 ?_ ?_|exact lh0|exact bf0|exact bd0|refine bc0 ?_|exact bm0 rfl|exact bg0 rfl|exact li0 rfl|refine lg0 ?_|refine lt0 ?_|fail)
 obtain⟨hi1,hi2⟩:=hi;obtain rfl|rfl:i=0\/i=1:=by omega
 ·(refine⟨by kernel_rfl,?_⟩;(conv=>whnf))
  refine ix0 ?_;conv=>whnf
  refine⟨[.map .str .rat es],rto (x,f),ha,?_⟩;conv=>whnf
  refine brI (fun h1=>?_) (fun h1=>?_)
  ·conv=>whnf
   have h1:f≠0:=by simpa using h1
   rw[if_neg h1];exact⟨lr rfl,zjy es⟩
  ·conv=>whnf
   have h1:f=0:=by simpa using h1
   refine⟨⟨by omega,by omega⟩,?_⟩;conv=>whnf
   refine⟨1,⟨by omega,fun _=>h1⟩,by show 1-1<1-0;omega,?_⟩
   ((conv=>whnf);refine q2 ?_ ?_;repeat' first|refine lc ?_ ?_|exact la0|exact lr rfl|exact ln0|refine lh1 ?_ ?_|exact lh0|exact bf0|exact bd0|refine bc0 ?_|exact bm0 rfl|exact bg0 rfl|exact li0 rfl|refine lg0 ?_|refine lt0 ?_|fail)
 ·(refine⟨by kernel_rfl,?_⟩;(conv=>whnf))
  have h1:f=0:=hi2 rfl;rw[if_pos h1];refine⟨⟨by omega,by omega⟩,?_⟩;conv=>whnf
  refine gZn (f108 ⟨0,1⟩ x) ?_;conv=>whnf
  exact⟨lr rfl,zjy es⟩
theorem zxw (es:zi3) (n:Int) (h0:0<=n) (h16:n<=16) (a:Ex) (ha:zeb es a):zeb es (opE 8 n [a]):=by
 unfold zeb at*;rw[show xcE es (opE 8 n [a])=if(xcE es a).2=0 then qdq (xcE es a).1 n.toNat ⟨1,1⟩else xcE es a by simp[opE,xcE,xcL,xop]];generalize xcE es a=A at ha;obtain⟨x,f⟩:=A;refine fnT hT hmx Tryz.func173 rfl rfl (ex:= []) ?_;conv=>whnf
 refine⟨Nat,fun i=>i<=1/\(i=1->f=0),fun i=> [(29,.int .i64 i)],fun i=> [(6,.cells (if i=0 then [.int .i64 0,.int .i64 0,.int .i64 0,.int .i64 0]else [.int .i64 x.n,.int .i64 x.d,.int .i64 0,.int .i64 0]))],fun i=>1-i,0,⟨by omega,by omega⟩,?_,fun i hi=>?_⟩
 ·((conv=>whnf);refine q2 ?_ ?_;repeat' first|refine lc ?_ ?_|exact la0|exact lr rfl|exact ln0|refine lh1 ?_ ?_|exact lh0|exact bf0|exact bd0|refine bc0 ?_|exact bm0 rfl|exact bg0 rfl|exact li0 rfl|refine lg0 ?_|refine lt0 ?_|fail)
 obtain⟨hi1,hi2⟩:=hi;obtain rfl|rfl:i=0\/i=1:=by omega
 ·(refine⟨by kernel_rfl,?_⟩;(conv=>whnf))
  refine ix0 ?_;conv=>whnf
  refine⟨[.map .str .rat es],rto (x,f),ha,?_⟩;conv=>whnf
  refine brI (fun h1=>?_) (fun h1=>?_)
  ·conv=>whnf
   have h1:f≠0:=by simpa using h1
   rw[if_neg h1];exact⟨lr rfl,zjy es⟩
  ·conv=>whnf
   have h1:f=0:=by simpa using h1
   refine⟨⟨by omega,by omega⟩,?_⟩;conv=>whnf
   refine⟨1,⟨by omega,fun _=>h1⟩,by show 1-1<1-0;omega,?_⟩
   ((conv=>whnf);refine q2 ?_ ?_;repeat' first|refine lc ?_ ?_|exact la0|exact lr rfl|exact ln0|refine lh1 ?_ ?_|exact lh0|exact bf0|exact bd0|refine bc0 ?_|exact bm0 rfl|exact bg0 rfl|exact li0 rfl|refine lg0 ?_|refine lt0 ?_|fail)
 ·(refine⟨by kernel_rfl,?_⟩;(conv=>whnf))
  have h1:f=0:=hi2 rfl;simp only[if_pos h1];obtain⟨W,hW⟩: ∃W,qdq x n.toNat ⟨1,1⟩=W:=⟨_,rfl⟩;rw[hW];refine⟨Nat×Rt×Int,fun y=>(y.1:Int)<=n/\(y.2.2=0->qdq x (n.toNat-y.1) y.2.1=W)/\(y.2.2≠0->(y.2.1,y.2.2)=W),fun y=> [(13,.int .i64 y.1),(12,.int .i64 y.2.2)],fun y=> [(11,.cells [.int .i64 y.2.1.n,.int .i64 y.2.1.d])],fun y=>n.toNat-y.1,(0,⟨1,1⟩,0),⟨by simpa using h0,fun _=>hW,fun h=>absurd rfl h⟩,?_,fun y hy=>?_⟩
  ·((conv=>whnf);refine q2 ?_ ?_;repeat' first|refine lc ?_ ?_|exact la0|exact lr rfl|exact ln0|refine lh1 ?_ ?_|exact lh0|exact bf0|exact bd0|refine bc0 ?_|exact bm0 rfl|exact bg0 rfl|exact li0 rfl|refine lg0 ?_|refine lt0 ?_|fail)
  (refine⟨by kernel_rfl,?_⟩;(conv=>whnf))
  obtain⟨j,r,g⟩:=y;obtain⟨hy1,hy2,hy3⟩:=hy;simp only at hy1 hy2 hy3;refine brI (fun h2=>?_) (fun h2=>?_)
  ·conv=>whnf
   have h2:decide ((j:Int)<n)=true:=h2;have h2:(j:Int)<n:=by simpa using h2
   refine brI (fun h3=>?_) (fun h3=>?_)
   ·conv=>whnf
    have h3:g=0:=by simpa using h3
    have hy2:=hy2 h3;rw[show n.toNat-j=(n.toNat-(j+1))+1 by omega]at hy2;simp only[qdq]at hy2;refine⟨⟨by omega,by omega⟩,?_⟩;conv=>whnf
    have h142:=f142 r x;generalize zy6 r x=B at h142 hy2;obtain⟨r2,g2⟩:=B;simp only at hy2;refine⟨[],rto (r2,g2),h142,?_⟩;conv=>whnf
    refine⟨(j+1,r2,g2),⟨by simp only;omega,fun h=>?_,fun h=>?_⟩,by show n.toNat-(j+1)<n.toNat-j;omega,?_⟩
    ·simp only at h;rw[if_pos h]at hy2;exact hy2
    ·simp only at h;rw[if_neg h]at hy2;exact hy2
    ((conv=>whnf);refine q2 ?_ ?_;repeat' first|refine lc ?_ ?_|exact la0|exact lr rfl|exact ln0|refine lh1 ?_ ?_|exact lh0|exact bf0|exact bd0|refine bc0 ?_|exact bm0 rfl|exact bg0 rfl|exact li0 rfl|refine lg0 ?_|refine lt0 ?_|fail)
    exact ai0 (by rw[wI (by simp only;omega)];simp only;omega)
   ·conv=>whnf
    have h3:g≠0:=by simpa using h3
    have hy3:=hy3 h3;subst hy3;exact⟨lr rfl,zjy es⟩
  ·conv=>whnf
   have h2:decide ((j:Int)<n)=false:=h2;have h2: ¬(j:Int)<n:=by simpa using h2
   have h3:(r,g)=W:=by
    by_cases hg:g=0
    ·have:=hy2 hg;rw[show n.toNat-j=0 by omega]at this;rw[←this,hg];rfl
    ·exact hy3 hg
   subst h3;exact⟨lr rfl,zjy es⟩
theorem qgi (es:zi3) (a b:Ex) (ha:zeb es a) (hb:zeb es b):zeb es (opE 3 0 [a,b]):=by
 unfold zeb at*;rw[show xcE es (opE 3 0 [a,b])=if(xcE es a).2=0 then(if(xcE es b).2=0 then rAdd (xcE es a).1 (xcE es b).1 else xcE es b)else xcE es a by simp[opE,xcE,xcL,xop]];generalize xcE es a=A at ha;generalize xcE es b=B at hb;obtain⟨x,f⟩:=A;obtain⟨y,g⟩:=B;refine fnT hT hmx Tryz.func173 rfl rfl (ex:= []) ?_;conv=>whnf
 refine⟨Nat,fun i=>i<=2/\(1<=i->f=0)/\(i=2->g=0),fun i=> [(29,.int .i64 i)],fun i=> [(6,.cells (match i with
  |0=> [.int .i64 0,.int .i64 0,.int .i64 0,.int .i64 0]
  |1=> [.int .i64 x.n,.int .i64 x.d,.int .i64 0,.int .i64 0]
  | _=> [.int .i64 x.n,.int .i64 x.d,.int .i64 y.n,.int .i64 y.d]))],fun i=>2-i,0,⟨by omega,by omega,by omega⟩,?_,fun i hi=>?_⟩
 ·((conv=>whnf);refine q2 ?_ ?_;repeat' first|refine lc ?_ ?_|exact la0|exact lr rfl|exact ln0|refine lh1 ?_ ?_|exact lh0|exact bf0|exact bd0|refine bc0 ?_|exact bm0 rfl|exact bg0 rfl|exact li0 rfl|refine lg0 ?_|refine lt0 ?_|fail)
 obtain⟨hi1,hi2,hi3⟩:=hi;obtain rfl|rfl|rfl:i=0\/i=1\/i=2:=by omega
 ·(refine⟨by kernel_rfl,?_⟩;(conv=>whnf))
  refine ix0 ?_;conv=>whnf
  refine⟨[.map .str .rat es],rto (x,f),ha,?_⟩;conv=>whnf
  refine brI (fun h1=>?_) (fun h1=>?_)
  ·conv=>whnf
   have h1:f≠0:=by simpa using h1
   rw[if_neg h1];exact⟨lr rfl,zjy es⟩
  ·conv=>whnf
   have h1:f=0:=by simpa using h1
   refine⟨⟨by omega,by omega⟩,?_⟩;conv=>whnf
   refine⟨1,⟨by omega,fun _=>h1,by omega⟩,by show 2-1<2-0;omega,?_⟩
   ((conv=>whnf);refine q2 ?_ ?_;repeat' first|refine lc ?_ ?_|exact la0|exact lr rfl|exact ln0|refine lh1 ?_ ?_|exact lh0|exact bf0|exact bd0|refine bc0 ?_|exact bm0 rfl|exact bg0 rfl|exact li0 rfl|refine lg0 ?_|refine lt0 ?_|fail)
 ·(refine⟨by kernel_rfl,?_⟩;(conv=>whnf))
  have h0:f=0:=hi2 (by omega);simp only[if_pos h0];refine ix1 ?_;conv=>whnf
  refine⟨[.map .str .rat es],rto (y,g),hb,?_⟩;conv=>whnf
  refine brI (fun h1=>?_) (fun h1=>?_)
  ·conv=>whnf
   have h1:g≠0:=by simpa using h1
   rw[if_neg h1];exact⟨lr rfl,zjy es⟩
  ·conv=>whnf
   have h1:g=0:=by simpa using h1
   refine⟨⟨by omega,by omega⟩,?_⟩;conv=>whnf
   refine⟨2,⟨by omega,fun _=>h0,fun _=>h1⟩,by show 2-2<2-1;omega,?_⟩
   ((conv=>whnf);refine q2 ?_ ?_;repeat' first|refine lc ?_ ?_|exact la0|exact lr rfl|exact ln0|refine lh1 ?_ ?_|exact lh0|exact bf0|exact bd0|refine bc0 ?_|exact bm0 rfl|exact bg0 rfl|exact li0 rfl|refine lg0 ?_|refine lt0 ?_|fail)
 ·(refine⟨by kernel_rfl,?_⟩;(conv=>whnf))
  have h0:f=0:=hi2 (by omega);have h1:g=0:=hi3 rfl;simp only[if_pos h0,if_pos h1];refine⟨⟨by omega,by omega⟩,?_⟩;conv=>whnf
  refine⟨⟨by omega,by omega⟩,?_⟩;conv=>whnf
  refine gZn (f58 x y) ?_;conv=>whnf
  exact⟨lr rfl,zjy es⟩
theorem qgh (es:zi3) (a b:Ex) (ha:zeb es a) (hb:zeb es b):zeb es (opE 4 0 [a,b]):=by
 unfold zeb at*;rw[show xcE es (opE 4 0 [a,b])=if(xcE es a).2=0 then(if(xcE es b).2=0 then qdp (xcE es a).1 (xcE es b).1 else xcE es b)else xcE es a by simp[opE,xcE,xcL,xop]];generalize xcE es a=A at ha;generalize xcE es b=B at hb;obtain⟨x,f⟩:=A;obtain⟨y,g⟩:=B;refine fnT hT hmx Tryz.func173 rfl rfl (ex:= []) ?_;conv=>whnf
 refine⟨Nat,fun i=>i<=2/\(1<=i->f=0)/\(i=2->g=0),fun i=> [(29,.int .i64 i)],fun i=> [(6,.cells (match i with
  |0=> [.int .i64 0,.int .i64 0,.int .i64 0,.int .i64 0]
  |1=> [.int .i64 x.n,.int .i64 x.d,.int .i64 0,.int .i64 0]
  | _=> [.int .i64 x.n,.int .i64 x.d,.int .i64 y.n,.int .i64 y.d]))],fun i=>2-i,0,⟨by omega,by omega,by omega⟩,?_,fun i hi=>?_⟩
 ·((conv=>whnf);refine q2 ?_ ?_;repeat' first|refine lc ?_ ?_|exact la0|exact lr rfl|exact ln0|refine lh1 ?_ ?_|exact lh0|exact bf0|exact bd0|refine bc0 ?_|exact bm0 rfl|exact bg0 rfl|exact li0 rfl|refine lg0 ?_|refine lt0 ?_|fail)
 obtain⟨hi1,hi2,hi3⟩:=hi;obtain rfl|rfl|rfl:i=0\/i=1\/i=2:=by omega
 ·(refine⟨by kernel_rfl,?_⟩;(conv=>whnf))
  refine ix0 ?_;conv=>whnf
  refine⟨[.map .str .rat es],rto (x,f),ha,?_⟩;conv=>whnf
  refine brI (fun h1=>?_) (fun h1=>?_)
  ·conv=>whnf
   have h1:f≠0:=by simpa using h1
   rw[if_neg h1];exact⟨lr rfl,zjy es⟩
  ·conv=>whnf
   have h1:f=0:=by simpa using h1
   refine⟨⟨by omega,by omega⟩,?_⟩;conv=>whnf
   refine⟨1,⟨by omega,fun _=>h1,by omega⟩,by show 2-1<2-0;omega,?_⟩
   ((conv=>whnf);refine q2 ?_ ?_;repeat' first|refine lc ?_ ?_|exact la0|exact lr rfl|exact ln0|refine lh1 ?_ ?_|exact lh0|exact bf0|exact bd0|refine bc0 ?_|exact bm0 rfl|exact bg0 rfl|exact li0 rfl|refine lg0 ?_|refine lt0 ?_|fail)
 ·(refine⟨by kernel_rfl,?_⟩;(conv=>whnf))
  have h0:f=0:=hi2 (by omega);simp only[if_pos h0];refine ix1 ?_;conv=>whnf
  refine⟨[.map .str .rat es],rto (y,g),hb,?_⟩;conv=>whnf
  refine brI (fun h1=>?_) (fun h1=>?_)
  ·conv=>whnf
   have h1:g≠0:=by simpa using h1
   rw[if_neg h1];exact⟨lr rfl,zjy es⟩
  ·conv=>whnf
   have h1:g=0:=by simpa using h1
   refine⟨⟨by omega,by omega⟩,?_⟩;conv=>whnf
   refine⟨2,⟨by omega,fun _=>h0,fun _=>h1⟩,by show 2-2<2-1;omega,?_⟩
   ((conv=>whnf);refine q2 ?_ ?_;repeat' first|refine lc ?_ ?_|exact la0|exact lr rfl|exact ln0|refine lh1 ?_ ?_|exact lh0|exact bf0|exact bd0|refine bc0 ?_|exact bm0 rfl|exact bg0 rfl|exact li0 rfl|refine lg0 ?_|refine lt0 ?_|fail)
 ·(refine⟨by kernel_rfl,?_⟩;(conv=>whnf))
  have h0:f=0:=hi2 (by omega);have h1:g=0:=hi3 rfl;simp only[if_pos h0,if_pos h1];refine⟨⟨by omega,by omega⟩,?_⟩;conv=>whnf
  refine⟨⟨by omega,by omega⟩,?_⟩;conv=>whnf
  refine gZn (f108 x y) ?_;conv=>whnf
  exact⟨lr rfl,zjy es⟩
theorem qgg (es:zi3) (a b:Ex) (ha:zeb es a) (hb:zeb es b):zeb es (opE 5 0 [a,b]):=by
 unfold zeb at*;rw[show xcE es (opE 5 0 [a,b])=if(xcE es a).2=0 then(if(xcE es b).2=0 then zy6 (xcE es a).1 (xcE es b).1 else xcE es b)else xcE es a by simp[opE,xcE,xcL,xop]];generalize xcE es a=A at ha;generalize xcE es b=B at hb;obtain⟨x,f⟩:=A;obtain⟨y,g⟩:=B;refine fnT hT hmx Tryz.func173 rfl rfl (ex:= []) ?_;conv=>whnf
 refine⟨Nat,fun i=>i<=2/\(1<=i->f=0)/\(i=2->g=0),fun i=> [(29,.int .i64 i)],fun i=> [(6,.cells (match i with
  |0=> [.int .i64 0,.int .i64 0,.int .i64 0,.int .i64 0]
  |1=> [.int .i64 x.n,.int .i64 x.d,.int .i64 0,.int .i64 0]
  | _=> [.int .i64 x.n,.int .i64 x.d,.int .i64 y.n,.int .i64 y.d]))],fun i=>2-i,0,⟨by omega,by omega,by omega⟩,?_,fun i hi=>?_⟩
 ·((conv=>whnf);refine q2 ?_ ?_;repeat' first|refine lc ?_ ?_|exact la0|exact lr rfl|exact ln0|refine lh1 ?_ ?_|exact lh0|exact bf0|exact bd0|refine bc0 ?_|exact bm0 rfl|exact bg0 rfl|exact li0 rfl|refine lg0 ?_|refine lt0 ?_|fail)
 obtain⟨hi1,hi2,hi3⟩:=hi;obtain rfl|rfl|rfl:i=0\/i=1\/i=2:=by omega
 ·(refine⟨by kernel_rfl,?_⟩;(conv=>whnf))
  refine ix0 ?_;conv=>whnf
  refine⟨[.map .str .rat es],rto (x,f),ha,?_⟩;conv=>whnf
  refine brI (fun h1=>?_) (fun h1=>?_)
  ·conv=>whnf
   have h1:f≠0:=by simpa using h1
   rw[if_neg h1];exact⟨lr rfl,zjy es⟩
  ·conv=>whnf
   have h1:f=0:=by simpa using h1
   refine⟨⟨by omega,by omega⟩,?_⟩;conv=>whnf
   refine⟨1,⟨by omega,fun _=>h1,by omega⟩,by show 2-1<2-0;omega,?_⟩
   ((conv=>whnf);refine q2 ?_ ?_;repeat' first|refine lc ?_ ?_|exact la0|exact lr rfl|exact ln0|refine lh1 ?_ ?_|exact lh0|exact bf0|exact bd0|refine bc0 ?_|exact bm0 rfl|exact bg0 rfl|exact li0 rfl|refine lg0 ?_|refine lt0 ?_|fail)
 ·(refine⟨by kernel_rfl,?_⟩;(conv=>whnf))
  have h0:f=0:=hi2 (by omega);simp only[if_pos h0];refine ix1 ?_;conv=>whnf
  refine⟨[.map .str .rat es],rto (y,g),hb,?_⟩;conv=>whnf
  refine brI (fun h1=>?_) (fun h1=>?_)
  ·conv=>whnf
   have h1:g≠0:=by simpa using h1
   rw[if_neg h1];exact⟨lr rfl,zjy es⟩
  ·conv=>whnf
   have h1:g=0:=by simpa using h1
   refine⟨⟨by omega,by omega⟩,?_⟩;conv=>whnf
   refine⟨2,⟨by omega,fun _=>h0,fun _=>h1⟩,by show 2-2<2-1;omega,?_⟩
   ((conv=>whnf);refine q2 ?_ ?_;repeat' first|refine lc ?_ ?_|exact la0|exact lr rfl|exact ln0|refine lh1 ?_ ?_|exact lh0|exact bf0|exact bd0|refine bc0 ?_|exact bm0 rfl|exact bg0 rfl|exact li0 rfl|refine lg0 ?_|refine lt0 ?_|fail)
 ·(refine⟨by kernel_rfl,?_⟩;(conv=>whnf))
  have h0:f=0:=hi2 (by omega);have h1:g=0:=hi3 rfl;simp only[if_pos h0,if_pos h1];refine⟨⟨by omega,by omega⟩,?_⟩;conv=>whnf
  refine⟨⟨by omega,by omega⟩,?_⟩;conv=>whnf
  refine gZn (f142 x y) ?_;conv=>whnf
  exact⟨lr rfl,zjy es⟩
theorem qgf (es:zi3) (a b:Ex) (ha:zeb es a) (hb:zeb es b):zeb es (opE 6 0 [a,b]):=by
 unfold zeb at*;rw[show xcE es (opE 6 0 [a,b])=if(xcE es a).2=0 then(if(xcE es b).2=0 then rDiv (xcE es a).1 (xcE es b).1 else xcE es b)else xcE es a by simp[opE,xcE,xcL,xop]];generalize xcE es a=A at ha;generalize xcE es b=B at hb;obtain⟨x,f⟩:=A;obtain⟨y,g⟩:=B;refine fnT hT hmx Tryz.func173 rfl rfl (ex:= []) ?_;conv=>whnf
 refine⟨Nat,fun i=>i<=2/\(1<=i->f=0)/\(i=2->g=0),fun i=> [(29,.int .i64 i)],fun i=> [(6,.cells (match i with
  |0=> [.int .i64 0,.int .i64 0,.int .i64 0,.int .i64 0]
  |1=> [.int .i64 x.n,.int .i64 x.d,.int .i64 0,.int .i64 0]
  | _=> [.int .i64 x.n,.int .i64 x.d,.int .i64 y.n,.int .i64 y.d]))],fun i=>2-i,0,⟨by omega,by omega,by omega⟩,?_,fun i hi=>?_⟩
 ·((conv=>whnf);refine q2 ?_ ?_;repeat' first|refine lc ?_ ?_|exact la0|exact lr rfl|exact ln0|refine lh1 ?_ ?_|exact lh0|exact bf0|exact bd0|refine bc0 ?_|exact bm0 rfl|exact bg0 rfl|exact li0 rfl|refine lg0 ?_|refine lt0 ?_|fail)
 obtain⟨hi1,hi2,hi3⟩:=hi;obtain rfl|rfl|rfl:i=0\/i=1\/i=2:=by omega
 ·(refine⟨by kernel_rfl,?_⟩;(conv=>whnf))
  refine ix0 ?_;conv=>whnf
  refine⟨[.map .str .rat es],rto (x,f),ha,?_⟩;conv=>whnf
  refine brI (fun h1=>?_) (fun h1=>?_)
  ·conv=>whnf
   have h1:f≠0:=by simpa using h1
   rw[if_neg h1];exact⟨lr rfl,zjy es⟩
  ·conv=>whnf
   have h1:f=0:=by simpa using h1
   refine⟨⟨by omega,by omega⟩,?_⟩;conv=>whnf
   refine⟨1,⟨by omega,fun _=>h1,by omega⟩,by show 2-1<2-0;omega,?_⟩
   ((conv=>whnf);refine q2 ?_ ?_;repeat' first|refine lc ?_ ?_|exact la0|exact lr rfl|exact ln0|refine lh1 ?_ ?_|exact lh0|exact bf0|exact bd0|refine bc0 ?_|exact bm0 rfl|exact bg0 rfl|exact li0 rfl|refine lg0 ?_|refine lt0 ?_|fail)
 ·(refine⟨by kernel_rfl,?_⟩;(conv=>whnf))
  have h0:f=0:=hi2 (by omega);simp only[if_pos h0];refine ix1 ?_;conv=>whnf
  refine⟨[.map .str .rat es],rto (y,g),hb,?_⟩;conv=>whnf
  refine brI (fun h1=>?_) (fun h1=>?_)
  ·conv=>whnf
   have h1:g≠0:=by simpa using h1
   rw[if_neg h1];exact⟨lr rfl,zjy es⟩
  ·conv=>whnf
   have h1:g=0:=by simpa using h1
   refine⟨⟨by omega,by omega⟩,?_⟩;conv=>whnf
   refine⟨2,⟨by omega,fun _=>h0,fun _=>h1⟩,by show 2-2<2-1;omega,?_⟩
   ((conv=>whnf);refine q2 ?_ ?_;repeat' first|refine lc ?_ ?_|exact la0|exact lr rfl|exact ln0|refine lh1 ?_ ?_|exact lh0|exact bf0|exact bd0|refine bc0 ?_|exact bm0 rfl|exact bg0 rfl|exact li0 rfl|refine lg0 ?_|refine lt0 ?_|fail)
 ·(refine⟨by kernel_rfl,?_⟩;(conv=>whnf))
  have h0:f=0:=hi2 (by omega);have h1:g=0:=hi3 rfl;simp only[if_pos h0,if_pos h1];refine⟨⟨by omega,by omega⟩,?_⟩;conv=>whnf
  refine⟨⟨by omega,by omega⟩,?_⟩;conv=>whnf
  refine gZn (f57 x y) ?_;conv=>whnf
  exact⟨lr rfl,zjy es⟩
theorem f102 (es:zi3) {e:Ex} (h:VT e) (hr:ze5 (fun y=>decide (y.k<9)) e=true):zeb es e:=by
 induction h with
 |num r _=>exact zxx es r
 |var s _=>exact zxv es s
 |un k a hk _ ih=>
  have hr:(decide (k<9)&&(ze5 (fun y=>decide (y.k<9)) a&&true))=true:=hr;simp only[q4,decide_eq_true_eq,qB]at hr;obtain rfl:k=7:=by unfold K1 at hk;omega
  exact zxy es a (ih hr.2)
 |pow n a h1 h2 _ ih=>
  have hr:(decide ((8:Int)<9)&&(ze5 (fun y=>decide (y.k<9)) a&&true))=true:=hr;simp only[q4,decide_eq_true_eq,qB]at hr;exact zxw es n h1 h2 a (ih hr.2)
 |bin k a b hk _ _ ih1 ih2=>
  have hr:(decide (k<9)&&(ze5 (fun y=>decide (y.k<9)) a&&(ze5 (fun y=>decide (y.k<9)) b&&true)))=true:=hr;simp only[q4,decide_eq_true_eq,qB]at hr;rcases hk with rfl|rfl|rfl|rfl
  ·exact qgi es a b (ih1 hr.2.1) (ih2 hr.2.2)
  ·exact qgh es a b (ih1 hr.2.1) (ih2 hr.2.2)
  ·exact qgg es a b (ih1 hr.2.1) (ih2 hr.2.2)
  ·exact qgf es a b (ih1 hr.2.1) (ih2 hr.2.2)
def rv (r:Rt):Rat:=(r.n:Rat)/(r.d:Rat)
theorem qe1 {a:Int} (h:a≠0):(a:Rat)≠0:=by
 intro e;exact h (by exact_mod_cast e)
def znf:Go.Shelf.Ren:=⟨fun|190=>111|125=>191|258=>190|128=>291|129=>292|302=>282|303=>283|304=>284|305=>285|306=>286|307=>287|308=>288|309=>289|310=>290|333=>356|329=>357|330=>358|334=>359|335=>360|336=>361|344=>393|n=>n,fun|31=>64|9=>9|3=>3|46=>37|0=>0|51=>108|53=>143|4=>4|183=>239|182=>238|131=>244|5=>5|218=>273|222=>179|228=>290|229=>269|n=>n,fun|n=>n⟩
theorem zt4:Go.Proofs.Lays.n190 Tryz.prog znf where
 mixed:=by kernel_rfl
 f125:=Tryz.func191.trans (congrArg some (by kernel_rfl))
 f128:=Tryz.func291.trans (congrArg some (by kernel_rfl))
 f129:=Tryz.func292.trans (congrArg some (by kernel_rfl))
 f190:=Tryz.func111.trans (congrArg some (by kernel_rfl))
 f258:=Tryz.func190.trans (congrArg some (by kernel_rfl))
 f302:=Tryz.func282.trans (congrArg some (by kernel_rfl))
 f303:=Tryz.func283.trans (congrArg some (by kernel_rfl))
 f304:=Tryz.func284.trans (congrArg some (by kernel_rfl))
 f305:=Tryz.func285.trans (congrArg some (by kernel_rfl))
 f306:=Tryz.func286.trans (congrArg some (by kernel_rfl))
 f307:=Tryz.func287.trans (congrArg some (by kernel_rfl))
 f308:=Tryz.func288.trans (congrArg some (by kernel_rfl))
 f309:=Tryz.func289.trans (congrArg some (by kernel_rfl))
 f310:=Tryz.func290.trans (congrArg some (by kernel_rfl))
 f329:=Tryz.func357.trans (congrArg some (by kernel_rfl))
 f330:=Tryz.func358.trans (congrArg some (by kernel_rfl))
 f333:=Tryz.func356.trans (congrArg some (by kernel_rfl))
 f334:=Tryz.func359.trans (congrArg some (by kernel_rfl))
 f335:=Tryz.func360.trans (congrArg some (by kernel_rfl))
 f336:=Tryz.func361.trans (congrArg some (by kernel_rfl))
 f344:=Tryz.func393.trans (congrArg some (by kernel_rfl))
 t0:=Tryz.underlying0
 a0:=Tryz.isAgg0
 z0:=Tryz.sizeOf0
 v0:=Tryz.zeroValue0
 t3:=Tryz.underlying3
 a3:=Tryz.isAgg3
 z3:=Tryz.sizeOf3
 v3:=Tryz.zeroValue3
 t4:=Tryz.underlying4
 a4:=Tryz.isAgg4
 z4:=Tryz.sizeOf4
 v4:=Tryz.zeroValue4
 t5:=Tryz.underlying5
 a5:=Tryz.isAgg5
 z5:=Tryz.sizeOf5
 v5:=Tryz.zeroValue5
 t9:=Tryz.underlying9
 a9:=Tryz.isAgg9
 z9:=Tryz.sizeOf9
 v9:=Tryz.zeroValue9
 t31:=Tryz.underlying64
 a31:=Tryz.isAgg64
 z31:=Tryz.sizeOf64
 v31:=Tryz.zeroValue64
 t46:=Tryz.underlying37
 a46:=Tryz.isAgg37
 z46:=Tryz.sizeOf37
 v46:=Tryz.zeroValue37
 t51:=Tryz.underlying108
 a51:=Tryz.isAgg108
 z51:=Tryz.sizeOf108
 v51:=Tryz.zeroValue108
 t53:=Tryz.underlying143
 a53:=Tryz.isAgg143
 z53:=Tryz.sizeOf143
 v53:=Tryz.zeroValue143
 t131:=Tryz.underlying244
 a131:=Tryz.isAgg244
 z131:=Tryz.sizeOf244
 v131:=Tryz.zeroValue244
 t182:=Tryz.underlying238
 a182:=Tryz.isAgg238
 z182:=Tryz.sizeOf238
 v182:=Tryz.zeroValue238
 t183:=Tryz.underlying239
 a183:=Tryz.isAgg239
 z183:=Tryz.sizeOf239
 v183:=Tryz.zeroValue239
 t218:=Tryz.underlying273
 a218:=Tryz.isAgg273
 z218:=Tryz.sizeOf273
 v218:=Tryz.zeroValue273
 t222:=Tryz.underlying179
 a222:=Tryz.isAgg179
 z222:=Tryz.sizeOf179
 v222:=Tryz.zeroValue179
 t228:=Tryz.underlying290
 a228:=Tryz.isAgg290
 z228:=Tryz.sizeOf290
 v228:=Tryz.zeroValue290
 t229:=Tryz.underlying269
 a229:=Tryz.isAgg269
 z229:=Tryz.sizeOf269
 v229:=Tryz.zeroValue269
def zhv:Go.Shelf.Ren:=⟨fun|194=>112|n=>n,fun|31=>64|9=>9|3=>3|4=>4|0=>0|n=>n,fun|n=>n⟩
theorem zif:Go.Proofs.Lays.n194 Tryz.prog zhv where
 mixed:=by kernel_rfl
 f194:=Tryz.func112.trans (congrArg some (by kernel_rfl))
 t0:=Tryz.underlying0
 a0:=Tryz.isAgg0
 z0:=Tryz.sizeOf0
 v0:=Tryz.zeroValue0
 t3:=Tryz.underlying3
 a3:=Tryz.isAgg3
 z3:=Tryz.sizeOf3
 v3:=Tryz.zeroValue3
 t4:=Tryz.underlying4
 a4:=Tryz.isAgg4
 z4:=Tryz.sizeOf4
 v4:=Tryz.zeroValue4
 t9:=Tryz.underlying9
 a9:=Tryz.isAgg9
 z9:=Tryz.sizeOf9
 v9:=Tryz.zeroValue9
 t31:=Tryz.underlying64
 a31:=Tryz.isAgg64
 z31:=Tryz.sizeOf64
 v31:=Tryz.zeroValue64
theorem zlq (j i:Nat) (B:Blk):hget [(j,B)] i=if j=i then B else .dead :=by
 simp only[hget];by_cases h:j=i
 ·subst h;simp
 ·rw[if_neg h];have:Nat.beq j i=false:=by
   cases e:Nat.beq j i with
   |false=>rfl
   |true=>exact absurd (Nat.eq_of_beq_eq_true e) h
  rw[this]
section
variable {w w':World} {M:Nat->Prop} {pt:Nat->Option Nat} {ow:Nat->Option Value} {S:Nat->Prop} {j:Nat} {xs:List ze} {h:Value}
theorem znr (hc:Core M pt ow S [(j,.buf 9 .str xs)] w) (i:Nat):pt i=none:=by
 cases e:pt i with
 |none=>rfl
 |some b=>
  have:=hc.dpt i b e;rw[zlq]at this;split at this<;>cases this
theorem qcu (hc:Core M pt ow S [(j,.buf 9 .str xs)] w) {i:Nat} (hi:i≠j):ow i=none:=by
 cases e:ow i with
 |none=>rfl
 |some b=>
  have:=hc.dow i b e;rw[zlq,if_neg (fun h=>hi h.symm)]at this;cases this
theorem zg7 (hc:Core M pt ow S [(j,.buf 9 .str xs)] w) (hj:ow j=some h):bl pt ow j=vbl h:=by
 unfold bl;rw[znr hc,hj];cases h<;>first|rfl|(rename_i ao _ _;cases ao<;>rfl)
theorem zp5 (hc:Core M pt ow S [(j,.buf 9 .str xs)] w) (hj:ow j=some h) (hos:w'.os=w.os) (htape:w'.tape=w.tape) (hout:w'.output=w.output) (hsz:w.heap.size<=w'.heap.size)
 (hsame: ∀b,b<w.heap.size->vbl h≠some b->w'.heap[b]? =w.heap[b]?) {ys:List ze} (hb:za8 w' (zn w' M) 9 .str ys h):
 Ans w M pt ow S (.tup []) [(j,.buf 9 .str ys)] (.returned (.tuple #[])) w':=by
 refine⟨.tuple #[],M,pt,ow,S,rfl,?_,?_,⟨#[],rfl,trivial⟩,?_⟩
 ·exact {
   fresh:=fun b hb=>Nat.lt_of_lt_of_le (hc.fresh b hb) hsz
   mt:=hc.mt,inj:=hc.inj,gm:=hc.gm,gd:=hc.gd
   dpt:=fun i b e=>by rw[znr hc]at e;cases e
   dow:=fun i x e=>by
    by_cases hi:i=j
    ·subst hi;rw[zlq,if_pos rfl];rfl
    ·rw[qcu hc hi]at e;cases e
   blk:=fun i=>by
    rw[zlq];split
    ·rename_i e;subst e;exact⟨h,hj,hb⟩
    ·trivial}
 ·intro i l b cs T hl hb';rw[znr hc]at hb';cases hb'
 ·exact {
   os:=hos,tape:=htape,output:=hout,size:=hsz
   same:=fun b hb hn _=>hsame b hb fun e=>hn j (by rw[zg7 hc hj];exact e)
   mm:=fun _ h=>h,mn:=fun _ h=> .inl h,sn:=fun _ h=> .inl h,lept:=fun _ _ h=> .inl h,leow:=fun _ _ h=> .inl h}
theorem zp4 (hc:Core M pt ow S [(j,.buf 9 .str xs)] w) (hj:ow j=some h) {h':Value} (hv:vbl h'=vbl h\/vbl h'=none) (hsl: ∃a n c,h'= .slice a n c) (hos:w'.os=w.os) (htape:w'.tape=w.tape) (hout:w'.output=w.output)
 (hsz:w.heap.size<=w'.heap.size) (hsame: ∀b,b<w.heap.size->vbl h≠some b->w'.heap[b]? =w.heap[b]?) {ys:List ze} (hb:za8 w' (zn w' M) 9 .str ys h') (hj2:j≠2000000):
 Ans w M pt ow S (.own 2000000) [(j,.dead),(2000000,.buf 9 .str ys)] (.returned h') w':=by
 let ow':Nat->Option Value:=fun i=>if i=2000000 then some h' else none
 have hbl: ∀i b,bl (fun _=>none) ow' i=some b->i=2000000/\vbl h=some b:=fun i b e=>by
  by_cases hi:i=2000000
  ·refine⟨hi,?_⟩;subst hi;have e2:vbl h'=some b:=by
    simp only[bl,ow',if_true]at e;obtain⟨a,n,c,rfl⟩:=hsl;cases a<;>exact e
   rcases hv with h1|h1
   ·rw[←h1];exact e2
   ·rw[h1]at e2;cases e2
  ·simp only[bl,ow',if_neg hi]at e;cases e
 have hget2: ∀i,hget [(j,.dead),(2000000,.buf 9 .str ys)] i=if 2000000=i then .buf 9 .str ys else .dead :=fun i=>by
  rw[←zlq];show(match Nat.beq j i with|true=>Blk.dead|false=>hget [(2000000,Blk.buf 9 .str ys)] i)=_
  cases e:Nat.beq j i with
  |false=>rfl
  |true=>
   have:=Nat.eq_of_beq_eq_true e;subst this;rw[zlq,if_neg fun h=>hj2 h.symm]
 refine⟨h',M,fun _=>none,ow',S,rfl,?_,?_,?_,?_⟩
 ·exact {
   fresh:=fun b hb=>Nat.lt_of_lt_of_le (hc.fresh b hb) hsz
   mt:=fun i b e=>hc.mt j b (by rw[zg7 hc hj];exact(hbl i b e).2)
   inj:=fun i k b e1 e2=>by rw[(hbl i b e1).1,(hbl k b e2).1]
   gm:=hc.gm
   gd:=fun i b e=>hc.gd j b (by rw[zg7 hc hj];exact(hbl i b e).2)
   dpt:=fun i b e=>by cases e
   dow:=fun i x e=>by
    by_cases hi:i=2000000
    ·subst hi;rw[hget2,if_pos rfl];rfl
    ·simp only[ow',if_neg hi]at e;cases e
   blk:=fun i=>by
    rw[hget2];split
    ·rename_i e;subst e;exact⟨h',by simp[ow'],hb⟩
    ·trivial}
 ·intro i l b cs T hl hb';cases hb'
 ·refine⟨hsl,fun x hx=>?_⟩;have:some h'=some x:=by simpa[ow']using hx
  exact Option.some.inj this
 ·exact {
   os:=hos,tape:=htape,output:=hout,size:=hsz
   same:=fun b hb hn _=>hsame b hb fun e=>hn j (by rw[zg7 hc hj];exact e)
   mm:=fun _ h=>h,mn:=fun _ h=> .inl h,sn:=fun _ h=> .inl h,lept:=fun _ _ h=>by cases h
   leow:=fun i x hx=>by
    by_cases hi:i=2000000
    ·have hx2:h'=x:=by
      have:ow' i=some h':=by simp[ow',hi]
      rw[this]at hx;exact Option.some.inj hx
     subst hx2;refine .inr ⟨fun b hb=> .inr ⟨j,?_⟩,by omega⟩;rw[zg7 hc hj];rcases hv with h1|h1
     ·rw[←h1];exact hb
     ·rw[h1]at hb;cases hb
    ·simp only[ow',if_neg hi]at hx;cases hx}
end
theorem zsz {w:World} {b cap:Nat} {cs:Array Value} (hb:w.heap[b]? =some (.cells cs 9 (0,0))) (hcs:cs.size=cap) (d:List ze) (hd:d.length<=cap) (n:Nat) (os:Array Obj) {w':World}
 (hw:w'=Go.Sort.grow (Go.Sort.putRow Go.Proofs.encStr (Go.Sort.ahead w n) b 0 d.toArray) os):
 w'.os=w.os/\w'.tape=w.tape/\w'.output=w.output/\w.heap.size<=w'.heap.size/\(∀c,c<w.heap.size->c≠b->w'.heap[c]? =w.heap[c]?)/\
  ∃cs':Array Value,w'.heap[b]? =some (.cells cs' 9 (0,0))/\cs'.size=cap/\ ∀(i:Nat) x,d[i]? =some x->cs'[i]? =some (.string ⟨x.toArray⟩):=by
 subst hw;have hlt:b<w.heap.size:=zf hb;refine⟨rfl,rfl,rfl,?_,fun c hc hne=>?_,Go.Sort.putCells Go.Proofs.encStr 0 d.toArray cs,?_,?_,fun i x hx=>?_⟩
 ·simp[Go.Sort.grow,Go.Sort.putRow,Go.Sort.mapBlock,Go.Sort.ahead]
 ·simp only[Go.Sort.grow,Go.Sort.putRow,Go.Sort.mapBlock,Go.Sort.ahead];rw[Array.getElem?_append_left (by simpa using hc),Array.getElem?_modify,if_neg (fun h=>hne h.symm)]
 ·simp only[Go.Sort.grow,Go.Sort.putRow,Go.Sort.mapBlock,Go.Sort.ahead];rw[Array.getElem?_append_left (by simpa using hlt),Array.getElem?_modify,if_pos rfl,hb];rfl
 ·simp[Go.Sort.putCells,hcs]
 ·have hi:i<d.length:=(q5.1 hx).1;have hxe:d[i]=x:=(q5.1 hx).2;have hic:i<cs.size:=by omega
  simp only[Go.Sort.putCells];rw[Array.getElem?_mapIdx,Array.getElem?_eq_getElem hic];simp only[Option.map_some];rw[if_pos (by simp;omega)];simp[hi,hxe]
theorem zpz {w':World} {V:ua} {b cap:Nat} {cs':Array Value} {d ys:List ze} (h1:w'.heap[b]? =some (.cells cs' 9 (0,0))) (h2:cs'.size=cap) (h3: ∀(i:Nat) x,d[i]? =some x->cs'[i]? =some (.string ⟨x.toArray⟩))
 (hy: ∀(i:Nat) x,ys[i]? =some x->d[i]? =some x) (hl:ys.length<=cap) (hm:cap<=maxLen):za8 w' V 9 .str ys (.slice (some ⟨b,0,none⟩) ys.length cap):=by
 refine .inr ⟨b,cap,cs',rfl,h1,hl,hm,by rw[h2];simp[Elt.size],fun i x hx k u hu=>?_⟩
 match k,hu with
 |0,hu=>
  obtain rfl: .str x=u:=by simpa[Elt.cells]using hu
  refine⟨.string ⟨x.toArray⟩,?_,.str x⟩;have:=h3 i x (hy i x hx);simpa[Elt.size]using this
 |k+1,hu=>simp[Elt.cells]at hu
theorem zpd {w:World} {V:ua} {b:Nat} {cs:Array Value} {xs:List ze} (hb:w.heap[b]? =some (.cells cs 9 (0,0)))
 (hx: ∀(i:Nat) (x:ze),xs[i]? =some x-> ∀(j:Nat) (u:AV),(Elt.str.cells x)[j]? =some u-> ∃v,cs[i*Elt.str.size+j]? =some v/\Leaf V u v):Go.Sort.Holds Go.Proofs.encStr w b 0 xs.toArray:=by
 intro i hi;have hi:i<xs.length:=by simpa using hi
 have hg:xs[i]? =some xs[i]:=List.getElem?_eq_getElem hi;obtain⟨v,h1,h2⟩:=hx i xs[i] hg 0 (.str xs[i]) rfl;cases h2
 have h1:cs[i]? =some (.string ⟨xs[i].toArray⟩):=by simpa[Elt.size]using h1
 constructor
 ·unfold World.cell?;simp only[hb,Nat.zero_add];simp[h1,hi]
 ·unfold World.frozen?;simp only[hb];simp
theorem zry (d:Array ze): ∀m,(Go.Lib.compactUpTo d m).length <=m
 |0=>by simp[Go.Lib.compactUpTo]
 |m+1=>by
  rw[Go.Lib.compactUpTo_succ,q9];have:=zry d m;split<;>simp<;>omega
theorem zet (xs:List ze):(Go.Lib.compact xs).length <=xs.length:=zry _ _
theorem zo5 (d:Array ze) (x:ze): ∀m,x∈Go.Lib.compactUpTo d m<-> ∃j,j<m/\d[j]! =x
 |0=>by simp[Go.Lib.compactUpTo]
 |m+1=>by
  rw[Go.Lib.compactUpTo_succ,List.mem_append,zo5 d x m];constructor
  ·rintro(⟨j,h1,h2⟩|h)
   ·exact⟨j,by omega,h2⟩
   ·split at h
    ·simp only[List.mem_singleton]at h;exact⟨m,by omega,h.symm⟩
    ·simp at h
  ·rintro⟨j,h1,h2⟩;rcases Nat.lt_or_ge j m with h3|h3
   ·exact .inl ⟨j,h3,h2⟩
   ·obtain rfl:j=m:=by omega
    by_cases hk:Go.Lib.keeps d j=true
    ·exact .inr (by rw[if_pos hk];simp[h2])
    ·refine .inl ⟨j-1,?_⟩;have hj:0<j:=by
      rcases Nat.eq_zero_or_pos j with h0|h0
      ·subst h0;exact absurd (by simp[Go.Lib.keeps]) hk
      ·exact h0
     refine⟨by omega,?_⟩;by_cases he:d[j]! =d[j-1]!
     ·rw[←he];exact h2
     ·exact absurd (Go.Lib.keeps_pos he) hk
theorem zm7 (xs:List ze) (x:ze):x∈Go.Lib.compact xs<->x∈xs:=by
 unfold Go.Lib.compact;rw[zo5];constructor
 ·rintro⟨j,h1,h2⟩;rw[←h2];simp[h1]
 ·intro h;obtain⟨j,h1,h2⟩:=List.getElem_of_mem h;exact⟨j,h1,by simp[h1,h2]⟩
def zmo (xs:List ze):List ze:=xs.mergeSort fun x y=>decide (x<=y)
theorem qgs:Ent Tryz.prog 111:=⟨Tryz.f111,Tryz.func111,by kernel_rfl,by kernel_rfl⟩
theorem qgr:Ent Tryz.prog 112:=⟨Tryz.f112,Tryz.func112,by kernel_rfl,by kernel_rfl⟩
theorem f136 (j:Nat) (xs:List ze) (hx:xs.length<4611686018427387904):zkj Tryz.prog 111 [(j,.buf 9 .str xs)] [.own j] (.tup []) [(j,.buf 9 .str (zmo xs))]:=by
 refine⟨qgs,fun w M pt ow S vs hc _ ha=>?_⟩
 match vs,ha with
 | [v],⟨⟨_,hv⟩,_⟩=>
   have hbj:=hc.blk j;rw[zlq,if_pos rfl]at hbj;obtain⟨h,hj,hb⟩:=hbj;obtain rfl:v=h:=hv h hj;have none:xs= []-> ∀p cap,v= .slice p 0 cap->Calls Tryz.prog 111 #[v] w (Ans w M pt ow S (.tup []) [(j,.buf 9 .str (zmo xs))]):=fun hx0 p cap hp=>by
    have e:zmo xs=xs:=by subst hx0;simp[zmo]
    rw[e,hp];refine(Go.Proofs.Any.slices_Sort_string_none zt4 p cap w).mono ?_;rintro e w' ⟨rfl,rfl⟩;exact zp5 hc hj rfl rfl rfl (Nat.le_refl _) (fun _ _ _=>rfl) hb
   rcases hb with ⟨h1,h2⟩|⟨b,cap,cs,h1,h2,h3,h4,h5,h6⟩
   ·exact none h2 _ _ h1
   ·by_cases hx0:xs= []
    ·exact none hx0 _ _ (by rw[h1,hx0];rfl)
    ·have hlt:=zf h2;have hcs:cs.size=cap:=by rw[h5];simp[Elt.size]
     subst h1;refine(Go.Proofs.Any.slices_Sort_string zt4 b 0 cap xs w (zpd h2 h6) hlt hx).mono ?_;rintro e w' ⟨rfl,n,os,hw⟩;have hl:(zmo xs).length =xs.length:=qn _;obtain⟨g1,g2,g3,g4,g5,cs',g6,g7,g8⟩:=zsz h2 hcs (zmo xs) (by omega) n os hw;have hbuf:=zpz (V:=zn w' M) (ys:=zmo xs) g6 g7 g8 (fun _ _ h=>h) (by omega) h4;rw[hl]at hbuf;exact zp5 hc hj g1 g2 g3 g4 (fun c hc' hne=>g5 c hc' fun e=>hne (by rw[e];rfl)) hbuf
theorem f137 (j:Nat) (hj2:j<=999999) (xs:List ze):zkj Tryz.prog 112 [(j,.buf 9 .str xs)] [.own j] (.own 2000000) [(j,.dead),(2000000,.buf 9 .str (Go.Lib.compact xs))]:=by
 refine⟨qgr,fun w M pt ow S vs hc _ ha=>?_⟩
 match vs,ha with
 | [v],⟨⟨_,hv⟩,_⟩=>
   have hbj:=hc.blk j;rw[zlq,if_pos rfl]at hbj;obtain⟨h,hj,hb⟩:=hbj;obtain rfl:v=h:=hv h hj;have none:xs= []-> ∀p cap,v= .slice p 0 cap->Calls Tryz.prog 112 #[v] w (Ans w M pt ow S (.own 2000000) [(j,.dead),(2000000,.buf 9 .str (Go.Lib.compact xs))]):=fun hx0 p cap hp=>by
    have e:Go.Lib.compact xs=xs:=by subst hx0;rfl
    rw[e,hp];refine(Go.Proofs.Any.slices_Compact_string_empty zif p cap w).mono ?_;rintro e w' ⟨rfl,rfl⟩;rw[←hp];exact zp4 hc hj (.inl rfl) ⟨_,_,_,hp⟩ rfl rfl rfl (Nat.le_refl _) (fun _ _ _=>rfl) hb (by omega)
   rcases hb with ⟨h1,h2⟩|⟨b,cap,cs,h1,h2,h3,h4,h5,h6⟩
   ·exact none h2 _ _ h1
   ·by_cases hx0:xs= []
    ·exact none hx0 _ _ (by rw[h1,hx0];rfl)
    ·have hlt:=zf h2;have hcs:cs.size=cap:=by rw[h5];simp[Elt.size]
     have hm:maxLen=9223372036854775807:=by decide
     subst h1;refine(Go.Proofs.Any.slices_Compact_string zif b 0 cap xs w (zpd h2 h6) (by omega) h3).mono ?_;rintro e w' ⟨rfl,n,hw⟩;have hl:(Go.Lib.compact xs).length <=xs.length:=zet xs;have hw2:w'=Go.Sort.grow (Go.Sort.putRow Go.Proofs.encStr (Go.Sort.ahead w n) b 0 (Go.Lib.compact xs++List.replicate (xs.length-(Go.Lib.compact xs).length) []).toArray) #[]:=by rw[hw];simp
     obtain⟨g1,g2,g3,g4,g5,cs',g6,g7,g8⟩:=zsz h2 hcs _ (by simp;omega) n #[] hw2;have hbuf:=zpz (V:=zn w' M) (ys:=Go.Lib.compact xs) g6 g7 g8 (fun i x h=>by rw[List.getElem?_append_left (q5.1 h).1];exact h) (by omega) h4;exact zp4 hc hj (h':= .slice (some ⟨b,0,Option.none⟩) (Go.Lib.compact xs).length cap) (.inl rfl) ⟨_,_,_,rfl⟩ g1 g2 g3 g4 (fun c hc' hne=>g5 c hc' fun e=>hne (by rw[e];rfl)) hbuf (by omega)
def zgl:List Ex->List ze
 | []=> []
 |y::l=>if y.k=2 then y.s::zgl l else zgl l
theorem zox (l m:List Ex):zgl (l++m)=zgl l++zgl m:=by
 induction l with
 |nil=>rfl
 |cons y l ih=>simp only[qD,zgl,ih];split<;>rfl
theorem zfq (l:List Ex):(zgl l).length <=l.length:=by
 induction l with
 |nil=>exact Nat.le_refl _
 |cons y l ih=>simp only[zgl];split<;>simp<;>omega
def nmE (e:Ex):List ze:=Go.Lib.compact (zmo (zgl (zhp e)))
noncomputable def zzv:Code:=Tryz.f42.body.getD .skip
theorem f91 (e:Ex) (he:Sm e):Fn 42 [] [.agg (exC e)] (.sl .str (nmE e)) []:=by
 refine jc (code:=zzv) hT hmx Tryz.func42 rfl rfl (ex:= []) ?_;conv=>whnf
 refine yd hT hmx 2 (fun _:Unit=>⟨[.any,.ptr 1 0,.any,.ptr 3 0]++zf1 16,[(1,.cells (exC e)),(3,.cells [.nilsl]),(6,.free),(19,.free)]⟩) (fun _=>by kernel_rfl) ?_ (fun _=>?_)
 ·conv=>whnf
  refine⟨(),?_⟩
  ((conv=>whnf);refine q2 ?_ ?_;repeat' first|refine lc ?_ ?_|exact la0|exact lr rfl|exact ln0|refine lh1 ?_ ?_|exact lh0|exact bf0|exact bd0|refine bc0 ?_|exact bm0 rfl|exact bg0 rfl|exact li0 rfl|refine lg0 ?_|refine lt0 ?_|fail)
 refine qa3 15 (by kernel_rfl) ?_;show SemOK Tryz.prog T Tryz.f42.results.toList [] (.sl .str (nmE e)) [] (zl4 2 zzv) ⟨[.any,.ptr 1 0,.any,.ptr 3 0]++zf1 16,[(1,.cells (exC e)),(3,.cells [.nilsl]),(6,.free),(19,.free),(15,.free)]⟩;refine zqo hT hmx ⟨[.any,.ptr 1 0,.any,.ptr 3 0,.any,.any,.fn 188 [.ptr 6 0]]++zf1 13,[(1,.cells (exC e)),(3,.cells [.own 15]),(6,.cells (exC e)),(19,.free),(15,.buf 9 .str [])]⟩ (by kernel_rfl) ?_ (g:=188) (caps:= [.ptr 6 0]) rfl
  (i0:=3) (k0:=15) (bi:=1000003) (ob:=1400000) (e:=9) (k:= .str) (X:=List Ex) (Y:=Ex) (xs:=fun s=>zgl s) (args:=fun y=> [.agg (exC y)]) (next:=fun s y=>s++ [y]) (x₀:= []) (xE:=zhp e) (r:= .tup []) (ib:= [.cells (exC e)]) rfl rfl rfl (by kernel_rfl) (fun _=>rfl) (fun s=>s.length<1000) ?_ ?_ ?_
 ·conv=>whnf
  refine⟨[],[.cells (exC e)],.fn 188 [.ptr 2000000 0],f71 e,?_⟩;conv=>whnf
  ((conv=>whnf);refine q2 ?_ ?_;repeat' first|refine lc ?_ ?_|exact la0|exact lr rfl|exact ln0|refine lh1 ?_ ?_|exact lh0|exact bf0|exact bd0|refine bc0 ?_|exact bm0 rfl|exact bg0 rfl|exact li0 rfl|refine lg0 ?_|refine lt0 ?_|fail)
  ·exact trivial
  ·exact zt2 rfl rfl
 ·intro l J h;exact(f126 l J (fun s y hs=>h s y hs) e he).sw [(6,1000001)] rfl
 ·intro x y hx;by_cases hy:y.k=2
  ·refine⟨1500015,by decide,?_⟩;conv=>whnf
   refine brI (fun _=>?_) (fun h=>absurd hy (by simpa using h));conv=>whnf
   refine⟨?_,?_⟩
   ·have:=zfq x;simp only[q6,List.length_nil];omega
   conv=>whnf
   refine⟨?_⟩;refine lh1 (bc0 (lc (lr rfl) ln0)) (lh1 (bb0 ?_) lh0);rw[zox];simp[zgl,hy]
  ·refine⟨1400000,by decide,?_⟩;conv=>whnf
   refine brI (fun h=>absurd (by simpa using h) hy) (fun _=>?_);conv=>whnf
   refine⟨?_⟩;refine lh1 (bc0 (lc (lr rfl) ln0)) (lh1 (bb0 ?_) lh0);rw[zox];simp[zgl,hy]
 ·refine yc hT hmx ?_;conv=>whnf
  refine⟨[.buf 9 .str (zmo (zgl (zhp e)))],_,f136 15 _ ?_,?_⟩
  ·have h1:=zfq (zhp e);have h2:=zi4 e;have h3:=zr7 e;omega
  conv=>whnf
  refine⟨[.dead],[.buf 9 .str (Go.Lib.compact (zmo (zgl (zhp e))))],.own 2000000,f137 15 (by omega) _,?_⟩;conv=>whnf
  exact⟨xi rfl,lh0⟩
def zl1:List ze->List Rt->zi3->zi3
 |n::ns,r::rs,es=>zl1 ns rs (zba .str n r es)
 | _,_,es=>es
theorem qci (ns:List ze) (rs:List Rt) (h: ¬(ns.length=rs.length/\ns.length<=200)) (h1:ns.length<9223372036854775808) (h2:rs.length<9223372036854775808):
 Fn 170 [] [.sl .str ns,.sl .rat rs] (.tup [.any,.bool false]) [(2000000,.dead)]:=by
 refine fnT hT hmx Tryz.func170 rfl rfl (ex:= [21]) ?_;conv=>whnf
 refine brI (fun h3=>?_) (fun h3=>?_)
 ·conv=>whnf
  exact⟨lt0 (lc la0 (lc (lr rfl) ln0)),lh1 bd0 lh0⟩
 ·conv=>whnf
  refine brI (fun h4=>?_) (fun h4=>?_)
  ·conv=>whnf
   exact⟨lt0 (lc la0 (lc (lr rfl) ln0)),lh1 bd0 lh0⟩
  ·refine absurd ⟨?_,?_⟩ h
   ·have h3:((ns.length:Int) != (rs.length:Int))=false:=h3;simp only[bne_eq_false_iff_eq]at h3;omega
   ·simp only[decide_eq_false_iff_not]at h4;omega
theorem zus {ns:List ze} {rs:List Rt} {i:Nat} {n:ze} {r:Rt} (es:zi3) (h1:ns[i]? =some n) (h2:rs[i]? =some r):zl1 (ns.drop i) (rs.drop i) es=zl1 (ns.drop (i+1)) (rs.drop (i+1)) (zba .str n r es):=by
 rw[wq h1,wq h2];rfl
theorem zo2 (n:ze) (r:Rt): ∀es:zi3,(zba .str n r es).length <=es.length+1
 | []=>by simp[zba]
 |(y,v)::l=>by
  have:=zo2 n r l;simp only[zba];cases zig .str n y
  ·simp only[cond_false,q6];omega
  ·simp only[cond_true,q6];omega
theorem f100 (ns:List ze) (rs:List Rt) (h:ns.length=rs.length/\ns.length<=200):
 Fn 170 [] [.sl .str ns,.sl .rat rs] (.tup [.mp 2000000,.bool (decide ((zl1 ns rs []).length =rs.length))]) [(2000000,.map .str .rat (zl1 ns rs []))]:=by
 refine fnT hT hmx Tryz.func170 rfl rfl (ex:= [21]) ?_;conv=>whnf
 refine brI (fun h0=>?_) (fun h0=>?_)
 ·have h0:((ns.length:Int) != (rs.length:Int))=true:=h0;refine absurd h.1 (fun e=>?_);rw[e]at h0;simp at h0
 conv=>whnf
 refine brI (fun h0=>absurd h.2 (by simp only[decide_eq_true_eq]at h0;omega)) (fun _=>?_);conv=>whnf
 refine⟨Nat×zi3,fun x=>x.1<=ns.length/\zl1 (ns.drop x.1) (rs.drop x.1) x.2=zl1 ns rs []/\x.2.length<=x.1,fun x=> [(24,.int .i64 x.1)],fun x=> [(21,.map .str .rat x.2)],fun x=>ns.length-x.1,(0,[]),⟨by simp,rfl,by simp⟩,?_,fun x hx=>?_⟩
 ·((conv=>whnf);refine q2 ?_ ?_;repeat' first|refine lc ?_ ?_|exact la0|exact lr rfl|exact ln0|refine lh1 ?_ ?_|exact lh0|exact bf0|exact bd0|refine bc0 ?_|exact bm0 rfl|exact bg0 rfl|exact li0 rfl|refine lg0 ?_|refine lt0 ?_|fail)
 (refine⟨by kernel_rfl,?_⟩;(conv=>whnf))
 obtain⟨i,es⟩:=x;obtain⟨hx1,hx2,hx3⟩:=hx;simp only at hx1 hx2 hx3;refine brI (fun h3=>?_) (fun h3=>?_)
 ·conv=>whnf
  have h3:i<ns.length:=by simp only[decide_eq_true_eq]at h3;omega
  refine⟨⟨by omega,by omega⟩,fun n hn=>?_⟩;have hn:ns[i]? =some n:=by simpa using hn
  conv=>whnf
  refine⟨⟨by omega,by simp only;omega⟩,fun r hr=>?_⟩;have hr:rs[i]? =some r:=by simpa using hr
  rw[zus es hn hr]at hx2;conv=>whnf
  refine⟨(i+1,zba .str n r es),⟨by simp only;omega,hx2,by have:=zo2 n r es;simp only;omega⟩,by show ns.length-(i+1)<ns.length-i;omega,?_⟩
  ((conv=>whnf);refine q2 ?_ ?_;repeat' first|refine lc ?_ ?_|exact la0|exact lr rfl|exact ln0|refine lh1 ?_ ?_|exact lh0|exact bf0|exact bd0|refine bc0 ?_|exact bm0 rfl|exact bg0 rfl|exact li0 rfl|refine lg0 ?_|refine lt0 ?_|fail)
  exact ai0 (by rw[wI (by simp only;omega)];simp only;omega)
 ·conv=>whnf
  have h3: ¬i<ns.length:=by simp only[decide_eq_false_iff_not]at h3;omega
  rw[q3 (by omega),q3 (by omega)]at hx2;have hx2:es=zl1 ns rs []:=hx2;rw[←hx2];refine⟨lt0 (lc (lr rfl) (lc (ab0 ?_) ln0)),lh1 (bm0 rfl) lh0⟩;rw[qE,decide_eq_true_eq];constructor
  ·intro h;have h:((es.length:Int)==(rs.length:Int))=true:=h;simp only[beq_iff_eq]at h;omega
  ·intro h;show((es.length:Int)==(rs.length:Int))=true;simp only[beq_iff_eq];omega
theorem zxf {l:List Ex} {s:ze}:s∈zgl l<-> ∃y∈l,y.k=2/\y.s=s:=by
 induction l with
 |nil=>simp[zgl]
 |cons y l ih=>
  simp only[zgl];split
  ·rename_i h;simp only[qA,ih];constructor
   ·rintro(h1|⟨z,h1,h2⟩)
    ·exact⟨y,.inl rfl,h,h1.symm⟩
    ·exact⟨z,.inr h1,h2⟩
   ·rintro⟨z,rfl|h1,h2,h3⟩
    ·exact .inl h3.symm
    ·exact .inr ⟨z,h1,h2,h3⟩
  ·rename_i h;simp only[qA,ih];constructor
   ·rintro⟨z,h1,h2⟩;exact⟨z,.inr h1,h2⟩
   ·rintro⟨z,rfl|h1,h2,h3⟩
    ·exact absurd h2 h
    ·exact⟨z,h1,h2,h3⟩
theorem zm6 {e:Ex} (h:okT e=true) {s:ze}:s∈nmE e<-> ∃y∈zfe e,y.k=2/\y.s=s:=by
 unfold nmE;rw[zm7];unfold zmo;rw[List.mem_mergeSort,zxf];simp[zhp,h]
def zv8 (es:zi3) (n:ze):Bool:=zc3 .str n es
def exF (e:Ex) (ns:List ze) (rs:List Rt):Rt×Int:=
 if(ns.length=rs.length/\ns.length<=200)/\(zl1 ns rs []).length =rs.length/\qbb e=true/\rs.all rOk=true/\(nmE e).all (zv8 (zl1 ns rs []))=true then
  (if(xcE (zl1 ns rs []) e).2=0 then xcE (zl1 ns rs []) e else(⟨0,0⟩,(xcE (zl1 ns rs []) e).2))else(⟨0,0⟩,1)
theorem zs2 {e:Ex} (h:qbb e=true):okT e=true/\ze5 (fun y=>decide (y.k<9)) e=true:=by
 unfold qbb at h;simpa using h
theorem f51 (e:Ex) (ns:List ze) (rs:List Rt) (he:Sm e) (h1:ns.length<9223372036854775808) (h2:rs.length<9223372036854775808):
 Fn 91 [] [.agg (exC e),.sl .str ns,.sl .rat rs] (rto (exF e ns rs)) []:=by
 obtain⟨A,hA⟩: ∃A,exF e ns rs=A:=⟨_,rfl⟩;rw[hA];refine fnT hT hmx Tryz.func91 rfl rfl (ex:= []) ?_;conv=>whnf
 by_cases h:ns.length=rs.length/\ns.length<=200
 rotate_left
 ·have hA:A=(⟨0,0⟩,1):=by rw[←hA,exF,if_neg fun hh=>h hh.1]
  subst hA;refine⟨[],[.dead],.tup [.any,.bool false],qci ns rs h h1 h2,?_⟩;conv=>whnf
  exact⟨lr rfl,lh0⟩
 have h100:=f100 ns rs h;obtain⟨es,hes⟩: ∃es,es=zl1 ns rs []:=⟨_,rfl⟩;rw[←hes]at h100;unfold exF at hA;rw[←hes]at hA;cases hd:decide (es.length=rs.length)with
 |false=>
  rw[hd]at h100;have hA:A=(⟨0,0⟩,1):=by rw[←hA,if_neg fun hh=>by simp at hd;exact hd hh.2.1]
  subst hA;refine⟨[],[.map .str .rat es],.tup [.mp 2000000,.bool false],h100,?_⟩;conv=>whnf
  exact⟨lr rfl,lh0⟩
 |true=>
  rw[hd]at h100;have hd:es.length=rs.length:=by simpa using hd
  refine⟨[],[.map .str .rat es],.tup [.mp 2000000,.bool true],h100,?_⟩;conv=>whnf
  refine cbI [] (qbb e) (f101 e he) (fun h3=>?_) (fun h3=>?_)
  rotate_left
  ·have hA:A=(⟨0,0⟩,1):=by rw[←hA,if_neg fun hh=>by rw[h3]at hh;cases hh.2.2.1]
   subst hA;conv=>whnf
   exact⟨lr rfl,lh0⟩
  conv=>whnf
  refine⟨Nat,fun i=>i<=rs.length/\(rs.drop i).all rOk=rs.all rOk,fun i=> [(34,.int .i64 i)],fun _=> [],fun i=>rs.length-i,0,⟨by simp,rfl⟩,?_,fun i hi=>?_⟩
  ·((conv=>whnf);refine q2 ?_ ?_;repeat' first|refine lc ?_ ?_|exact la0|exact lr rfl|exact ln0|refine lh1 ?_ ?_|exact lh0|exact bf0|exact bd0|refine bc0 ?_|exact bm0 rfl|exact bg0 rfl|exact li0 rfl|refine lg0 ?_|refine lt0 ?_|fail)
  (refine⟨by kernel_rfl,?_⟩;(conv=>whnf))
  obtain⟨hi1,hi2⟩:=hi;refine brI (fun h4=>?_) (fun h4=>?_)
  ·conv=>whnf
   have h4:i<rs.length:=by simp only[decide_eq_true_eq]at h4;omega
   refine⟨⟨by omega,by omega⟩,fun r hr=>?_⟩;have hr:rs[i]? =some r:=by simpa using hr
   rw[wq hr]at hi2;simp only[qF]at hi2;conv=>whnf
   refine cbI [] (rOk r) (f54 r.n r.d) (fun h5=>?_) (fun h5=>?_)
   ·conv=>whnf
    rw[h5]at hi2;refine⟨i+1,⟨by omega,by simpa using hi2⟩,by show rs.length-(i+1)<rs.length-i;omega,?_⟩
    ((conv=>whnf);refine q2 ?_ ?_;repeat' first|refine lc ?_ ?_|exact la0|exact lr rfl|exact ln0|refine lh1 ?_ ?_|exact lh0|exact bf0|exact bd0|refine bc0 ?_|exact bm0 rfl|exact bg0 rfl|exact li0 rfl|refine lg0 ?_|refine lt0 ?_|fail)
    exact ai0 (by rw[wI (by omega)];omega)
   ·conv=>whnf
    rw[h5]at hi2;have hA:A=(⟨0,0⟩,1):=by rw[←hA,if_neg fun hh=>by rw[←hi2]at hh;simp at hh]
    subst hA;exact⟨lr rfl,lh0⟩
  have h4: ¬i<rs.length:=by simp only[decide_eq_false_iff_not]at h4;omega
  have hok:rs.all rOk=true:=by rw[←hi2,q3 (by omega)];rfl
  clear hi1 hi2 h4;conv=>whnf
  have h91:=f91 e he;have hnl:(nmE e).length <=1000:=by
   have g1:=zet (zmo (zgl (zhp e)));have g2:(zmo (zgl (zhp e))).length =(zgl (zhp e)).length :=qn _;have g3:=zfq (zhp e);have g4:=zi4 e;have g5:=zr7 e;unfold nmE;omega
  generalize nmE e=nm at h91 hA hnl;refine gZn h91 ?_;conv=>whnf
  refine⟨Nat,fun i=>i<=nm.length/\(nm.drop i).all (zv8 es)=nm.all (zv8 es),fun i=> [(46,.int .i64 i)],fun _=> [],fun i=>nm.length-i,0,⟨by simp,rfl⟩,?_,fun i hi=>?_⟩
  ·((conv=>whnf);refine q2 ?_ ?_;repeat' first|refine lc ?_ ?_|exact la0|exact lr rfl|exact ln0|refine lh1 ?_ ?_|exact lh0|exact bf0|exact bd0|refine bc0 ?_|exact bm0 rfl|exact bg0 rfl|exact li0 rfl|refine lg0 ?_|refine lt0 ?_|fail)
  (refine⟨by kernel_rfl,?_⟩;(conv=>whnf))
  obtain⟨hi1,hi2⟩:=hi;refine brI (fun h4=>?_) (fun h4=>?_)
  ·conv=>whnf
   have h4:i<nm.length:=by simp only[decide_eq_true_eq]at h4;omega
   refine⟨⟨by omega,by omega⟩,fun n hn=>?_⟩;have hn:nm[i]? =some n:=by simpa using hn
   rw[wq hn]at hi2;simp only[qF]at hi2;conv=>whnf
   refine brI (fun h5=>?_) (fun h5=>?_)
   ·conv=>whnf
    have h5:zv8 es n=false:=by simpa[zv8]using h5
    rw[h5]at hi2;have hA:A=(⟨0,0⟩,1):=by rw[←hA,if_neg fun hh=>by rw[←hi2]at hh;simp at hh]
    subst hA;exact⟨lr rfl,lh0⟩
   ·conv=>whnf
    have h5:zv8 es n=true:=by simpa[zv8]using h5
    rw[h5]at hi2;refine⟨i+1,⟨by omega,by simpa using hi2⟩,by show nm.length-(i+1)<nm.length-i;omega,?_⟩
    ((conv=>whnf);refine q2 ?_ ?_;repeat' first|refine lc ?_ ?_|exact la0|exact lr rfl|exact ln0|refine lh1 ?_ ?_|exact lh0|exact bf0|exact bd0|refine bc0 ?_|exact bm0 rfl|exact bg0 rfl|exact li0 rfl|refine lg0 ?_|refine lt0 ?_|fail)
    exact ai0 (by rw[wI (by omega)];omega)
  have h4: ¬i<nm.length:=by simp only[decide_eq_false_iff_not]at h4;omega
  have hnm:nm.all (zv8 es)=true:=by rw[←hi2,q3 (by omega)];rfl
  clear hi1 hi2 h4;have h102:zeb es e:=f102 es (zbg (zs2 h3).1) (zs2 h3).2;unfold zeb at h102;rw[if_pos ⟨h,hd,h3,hok,hnm⟩]at hA;generalize xcE es e=B at h102 hA;obtain⟨r,f⟩:=B;conv=>whnf
  refine⟨[.map .str .rat es],rto (r,f),h102.sw [(21,1000001)] rfl,?_⟩;conv=>whnf
  refine brI (fun h5=>?_) (fun h5=>?_)
  ·conv=>whnf
   have h5:f≠0:=by simpa using h5
   rw[if_neg h5]at hA;subst hA;exact⟨lr rfl,lh0⟩
  ·conv=>whnf
   have h5:f=0:=by simpa using h5
   rw[if_pos h5]at hA;subst hA;exact⟨lt0 (lc (lr rfl) (lc (ai0 h5.symm) ln0)),lh0⟩
end Go.Proofs.YtbolipecnhlnnaaGreatDoor
