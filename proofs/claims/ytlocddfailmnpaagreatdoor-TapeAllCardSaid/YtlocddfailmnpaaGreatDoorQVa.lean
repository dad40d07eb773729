/-
  Trees as plain data: valid ones, their depth, their size.
-/
import Derived.Test.YtlocddfailmnpaaGreatDoorQUb
import Derived.Test.YtlocddfailmnpaaGreatDoorQSxY
set_option linter.unusedVariables false
set_option linter.unusedSimpArgs false
namespace Go.Proofs.YtlocddfailmnpaaGreatDoor
open Go Go.Sx
mutual
def qdx:Ex→Nat
 | .mk _ _ _ _ l=>qa9 l+1
def qa9:List Ex→Nat
 | []=>0
 |x::l=>max (qdx x) (qa9 l)
end
mutual
def zdc:Ex→Nat
 | .mk _ _ _ _ l=>zea l+1
def zea:List Ex→Nat
 | []=>0
 |x::l=>zdc x+zea l
end
mutual
def VS:Ex→Prop
 | .mk k q s p l=>zcl (.mk k q s p l)=true∧VSL l
def VSL:List Ex→Prop
 | []=>True
 |x::l=>VS x∧VSL l
end
mutual
theorem zof: ∀(e:Ex) (d n:Nat),((zb5 e d n).1=true↔VS e∧d+qdx e≤21∧n+zdc e≤200)∧((zb5 e d n).1=true→(zb5 e d n).2=n+zdc e)
 | .mk k q s p l,d,n=>by
   simp only[zb5,VS,qdx,zdc]
   by_cases h:d≤20∧n+1≤200∧zcl (.mk k q s p l)=true
   ·rw[if_pos h]
    have ih:=zoe l (d+1) (n+1) (by omega) (by omega)
    refine⟨⟨fun h1=>?_,fun h1=>?_⟩,fun h1=>?_⟩
    ·have:=ih.1.1 h1;exact⟨⟨h.2.2,this.1⟩,by omega,by omega⟩
    ·exact ih.1.2 ⟨h1.1.2,by omega,by omega⟩
    ·have:=ih.2 h1;omega
   ·rw[if_neg h]
    refine⟨⟨fun h1=>by simp at h1,fun h1=>absurd ⟨by omega,by omega,h1.1.1⟩ h⟩,fun h1=>by simp at h1⟩
theorem zoe: ∀(l:List Ex) (d n:Nat),d≤21→n≤200→((zdy l d n).1=true↔VSL l∧d+qa9 l≤21∧n+zea l≤200)∧((zdy l d n).1=true→(zdy l d n).2=n+zea l)
 | [],d,n,hd,hn=>by
   simp only[zdy,VSL,qa9,zea]
   exact⟨⟨fun _=>⟨trivial,by omega,by omega⟩,fun _=>trivial⟩,fun _=>rfl⟩
 |x::l,d,n,hd,hn=>by
  have ih:=zof x d n
  simp only[zdy,VSL,qa9,zea]
  rcases hx:zb5 x d n with ⟨b,m⟩
  rw[hx]at ih
  cases b with
  |true=>
   have h1:=ih.1.1 rfl
   have h2:m=n+zdc x:=ih.2 rfl
   subst h2
   have ih2:=zoe l d (n+zdc x) hd (by omega)
   refine⟨⟨fun h=>?_,fun h=>?_⟩,fun h=>?_⟩
   ·have:=ih2.1.1 h;exact⟨⟨h1.1,this.1⟩,by omega,by omega⟩
   ·exact ih2.1.2 ⟨h.1.2,by omega,by omega⟩
   ·have:=ih2.2 h;simp only at this⊢;omega
  |false=>
   refine⟨⟨fun h=>by simp at h,fun h=>?_⟩,fun h=>by simp at h⟩
   have:=ih.1.2 ⟨h.1.1,by omega,by omega⟩
   simp at this
end
theorem zde (e:Ex):okT e=true↔VS e∧qdx e≤20∧zdc e≤200:=by
 have:=(zof e 1 0).1
 unfold okT
 rw[this]
 constructor
 ·rintro⟨h1,h2,h3⟩;exact⟨h1,by omega,by omega⟩
 ·rintro⟨h1,h2,h3⟩;exact⟨h1,by omega,by omega⟩
def zky (s:zg):Ex:= .mk 2 ⟨0,0⟩ s 0 []
def K1 (k:Int):Prop:=k=7∨k=9∨k=10∨k=11∨k=12∨k=13
def K2 (k:Int):Prop:=k=3∨k=4∨k=5∨k=6
inductive VT:Ex→Prop
 |num (r:Rt):rOk r=true→VT (zix r)
 |var (s:zg):zd6 s=true→VT (zky s)
 |un (k:Int) (a:Ex):K1 k→VT a→VT (opE k 0 [a])
 |pow (n:Int) (a:Ex):0≤n→n≤16→VT a→VT (opE 8 n [a])
 |bin (k:Int) (a b:Ex):K2 k→VT a→VT b→VT (opE k 0 [a,b])
theorem ztr: ∀ {l:List Ex},VSL l→ ∀x∈l,VS x
 | [],_,x,hx=>by simp at hx
 |y::l,h,x,hx=>by
  rcases List.mem_cons.1 hx with rfl|hx
  ·exact h.1
  ·exact ztr h.2 x hx
theorem len1 {α:Type} {l:List α} (h:l.length=1): ∃a,l= [a]:=by
 match l,h with
 | [a],_=>exact⟨a,rfl⟩
theorem len2 {α:Type} {l:List α} (h:l.length=2): ∃a b,l= [a,b]:=by
 match l,h with
 | [a,b],_=>exact⟨a,b,rfl⟩
theorem VS_VT: ∀e,VS e→VT e:=by
 refine zvt fun k q s p l ih h=>?_
 simp only[VS]at h
 obtain⟨hn,hl⟩:=h
 have hall: ∀x∈l,VT x:=fun x hx=>ih x hx (ztr hl x hx)
 have hn:(if k=1 then numB (.mk k q s p l)else if k=2 then varB (.mk k q s p l)else if k=8 then powB (.mk k q s p l)else opB (.mk k q s p l))=true:=hn
 by_cases hk1:k=1
 ·rw[if_pos hk1]at hn
  subst hk1
  have hn:(rOk q&&(s== [])&&decide (p=0)&&decide (l.length=0))=true:=hn
  simp only[Bool.and_eq_true,decide_eq_true_eq,beq_iff_eq]at hn
  obtain⟨⟨⟨h1,rfl⟩,rfl⟩,h2⟩:=hn
  obtain rfl:l= []:=List.length_eq_zero_iff.1 h2
  exact VT.num q h1
 ·rw[if_neg hk1]at hn
  by_cases hk2:k=2
  ·rw[if_pos hk2]at hn
   subst hk2
   have hn:(decide (q=⟨0,0⟩)&&zd6 s&&decide (p=0)&&decide (l.length=0))=true:=hn
   simp only[Bool.and_eq_true,decide_eq_true_eq,beq_iff_eq]at hn
   obtain⟨⟨⟨rfl,h1⟩,rfl⟩,h2⟩:=hn
   obtain rfl:l= []:=List.length_eq_zero_iff.1 h2
   exact VT.var s h1
  ·rw[if_neg hk2]at hn
   by_cases hk8:k=8
   ·rw[if_pos hk8]at hn
    subst hk8
    have hn:(decide (q=⟨0,0⟩)&&(s== [])&&decide (0≤p)&&decide (p≤16)&&decide (l.length=1))=true:=hn
    simp only[Bool.and_eq_true,decide_eq_true_eq,beq_iff_eq]at hn
    obtain⟨⟨⟨⟨rfl,rfl⟩,h1⟩,h2⟩,h3⟩:=hn
    obtain⟨a,rfl⟩:=len1 h3
    exact VT.pow p a h1 h2 (hall a (by simp))
   ·rw[if_neg hk8]at hn
    have hn:(decide (q=⟨0,0⟩)&&(s== [])&&decide (p=0)&&decide ((l.length:Int)=opn k))=true:=hn
    simp only[Bool.and_eq_true,decide_eq_true_eq,beq_iff_eq]at hn
    obtain⟨⟨⟨rfl,rfl⟩,rfl⟩,h1⟩:=hn
    unfold opn at h1
    split at h1
    ·obtain⟨a,b,rfl⟩:=len2 (l:=l) (by omega)
     exact VT.bin k a b ‹_› (hall a (by simp)) (hall b (by simp))
    ·split at h1
     ·obtain⟨a,rfl⟩:=len1 (l:=l) (by omega)
      exact VT.un k a (by unfold K1;omega) (hall a (by simp))
     ·omega
theorem VT_VS {e:Ex} (h:VT e):VS e:=by
 induction h with
 |num r hr=>simp[zix,VS,VSL,zcl,numB,Ex.k,Ex.q,Ex.s,Ex.p,Ex.l,hr]
 |var s hs=>simp[zky,VS,VSL,zcl,varB,Ex.k,Ex.q,Ex.s,Ex.p,Ex.l,hs]
 |un k a hk _ ih=>
  rcases hk with rfl|rfl|rfl|rfl|rfl|rfl<;>simp[opE,VS,VSL,zcl,opB,opn,Ex.k,Ex.q,Ex.s,Ex.p,Ex.l,ih]
 |pow n a h1 h2 _ ih=>simp[opE,VS,VSL,zcl,powB,Ex.k,Ex.q,Ex.s,Ex.p,Ex.l,ih,h1,h2]
 |bin k a b hk _ _ ih1 ih2=>
  rcases hk with rfl|rfl|rfl|rfl<;>simp[opE,VS,VSL,zcl,opB,opn,Ex.k,Ex.q,Ex.s,Ex.p,Ex.l,ih1,ih2]
theorem zjn {e:Ex} (h:okT e=true):VT e:=VS_VT e ((zde e).1 h).1
theorem zr2 {s:zg} (h:zd6 s=true):s.length≤20:=by
 simp only[zd6,Bool.and_eq_true,decide_eq_true_eq]at h;exact h.1.2
theorem qal {e:Ex} (h:VT e):Sm e:=by
 induction h with
 |num r hr=>simp[zix,Sm,SmL]
 |var s hs=>have:=zr2 hs;simp only[zky,Sm,SmL,List.length_nil];exact⟨by omega,by omega,trivial⟩
 |un k a hk _ ih=>simp[opE,Sm,SmL,ih]
 |pow n a h1 h2 _ ih=>simp[opE,Sm,SmL,ih]
 |bin k a b hk _ _ ih1 ih2=>simp[opE,Sm,SmL,ih1,ih2]
end Go.Proofs.YtlocddfailmnpaaGreatDoor

namespace Go.Proofs.YtlocddfailmnpaaGreatDoor
open Go Go.Sx
theorem K1_ne {k:Int} (h:K1 k):k≠1∧k≠2:=by unfold K1 at h;omega
theorem K2_ne {k:Int} (h:K2 k):k≠1∧k≠2:=by unfold K2 at h;omega
end Go.Proofs.YtlocddfailmnpaaGreatDoor

namespace Go.Proofs.YtlocddfailmnpaaGreatDoor
open Go Go.Sx
set_option maxRecDepth 100000
set_option maxHeartbeats 8000000
mutual
def zjg:Ex→List Ex
 | .mk k q s p l=> .mk k q s p l::ziy l
def ziy:List Ex→List Ex
 | []=> []
 |x::l=>zjg x++ziy l
end
mutual
theorem zm2: ∀e:Ex,(zjg e).length =zdc e
 | .mk k q s p l=>by simp only[zjg,zdc,List.length_cons,zh7 l]
theorem zh7: ∀l:List Ex,(ziy l).length =zea l
 | []=>rfl
 |x::l=>by simp only[ziy,zea,List.length_append,zm2 x,zh7 l]
end
def qeo (l:Nat) (J:List Ex→GJ):Prop:= ∀(n:List Ex) (y:Ex),n.length<1000→qap Tryz.prog l [(qr,.gst (J n))] [.agg (exC y)] (.bool true) [(qr,.gst (J (n++ [y])))]
abbrev H1 (l:Nat) (J:List Ex→GJ) (n:List Ex):Hp:= [(1000003,.cells [.cb l]),(qr,.gst (J n))]
abbrev H2 (l:Nat) (J:List Ex→GJ) (n:List Ex):Hp:= [(1000004,.cells [.fn 201 [.ptr 1000003 0]]),(1000003,.cells [.cb l]),(qr,.gst (J n))]
theorem qc4 {h h':Hp} (l:Nat) (J:List Ex→GJ) (n:List Ex):leH h h' (H1 l J n) (H1 l J n):=lh1 (bc0 (lc (lr rfl) ln0)) (lh1 (bg0 rfl) lh0)
theorem zzi {h h':Hp} (l:Nat) (J:List Ex→GJ) (n:List Ex):leH h h' (H2 l J n) (H2 l J n):=lh1 (bc0 (lc (lr rfl) ln0)) (lh1 (bc0 (lc (lr rfl) ln0)) (lh1 (bg0 rfl) lh0))
abbrev qak (l:Nat) (J:List Ex→GJ) (e:Ex):Prop:= ∀n:List Ex,n.length+zdc e≤1000→Fn 155 [(qr,.gst (J n))] [.agg (exC e),.cb l] (.bool true) [(qr,.gst (J (n++zjg e)))]
theorem f153 (l:Nat) (J:List Ex→GJ) (x:Ex) (hx:qak l J x) (n:List Ex) (hn:n.length+zdc x≤1000):Fn 201 (H1 l J n) [.agg (exC x),.ptr 1000003 0] (.bool true) (H1 l J (n++zjg x)):=by
 refine fnT hT hmx Tryz.func201 rfl rfl (ex:= []) ?_;conv=>whnf
 refine⟨[.gst (J (n++zjg x))],.bool true,hx n hn,?_⟩;conv=>whnf
 exact⟨lr rfl,qc4 l J _⟩
theorem f163 (l:Nat) (J:List Ex→GJ) (x:Ex) (hx:qak l J x) (n:List Ex) (hn:n.length+zdc x≤1000):Fn 235 (H2 l J n) [.agg (exC x),.ptr 1000004 0] (.bool false) (H2 l J (n++zjg x)):=by
 refine fnT hT hmx Tryz.func235 rfl rfl (ex:= []) ?_;conv=>whnf
 refine⟨[.cells [.cb l],.gst (J (n++zjg x))],.bool true,f153 l J x hx n hn,?_⟩;conv=>whnf
 exact⟨lr rfl,zzi l J _⟩
theorem zrn {l:List Ex} {i:Nat} {x:Ex} (hx:l[i]? =some x):ziy (l.take (i+1))=ziy (l.take i)++zjg x:=by
 rw[List.take_add_one,hx]
 simp only[Option.toList_some]
 generalize l.take i=m
 induction m with
 |nil=>simp[ziy]
 |cons y m ih=>simp only[List.cons_append,ziy,ih,List.append_assoc]
theorem zqz: ∀ {l:List Ex} {i:Nat} {x:Ex},l[i]? =some x→zea (l.take i)+zdc x≤zea l
 | [],_,_,h=>by simp at h
 |y::l,0,x,h=>by
  obtain rfl:y=x:=by simpa using h
  simp only[List.take_zero,zea];omega
 |y::l,i+1,x,h=>by
  have:=zqz (l:=l) (i:=i) (x:=x) (by simpa using h)
  simp only[List.take_succ_cons,zea];omega
theorem f114w (l:Nat) (J:List Ex→GJ) (xs:List Ex) (hl: ∀x∈xs,qak l J x) (hlen:xs.length<9223372036854775808) (n:List Ex) (hn:n.length+zea xs≤1000):
 Fn 102 (H2 l J n) [.sl .ex xs,.fn 235 [.ptr 1000004 0]] (.int .i64 (-1)) (H2 l J (n++ziy xs)):=by
 refine fnT hT hmx Tryz.func102 rfl rfl (ex:= []) ?_;conv=>whnf
 refine⟨Nat,fun i=>i≤xs.length,fun i=> [(8,.int .i64 i)],fun i=> [(qr,.gst (J (n++ziy (xs.take i))))],fun i=>xs.length-i,0,by simp,?_,fun i hi=>?_⟩
 ·((conv=>whnf);refine And.intro ?_ ?_;repeat' first|refine lc ?_ ?_|exact la0|exact lr rfl|exact ln0|refine lh1 ?_ ?_|exact lh0|exact bf0|exact bd0|refine bc0 ?_|exact bm0 rfl|exact bg0 rfl|exact li0 rfl|refine lg0 ?_|refine lt0 ?_|fail)
  exact bg0 (by simp[ziy])
 ·(refine⟨by kernel_rfl,?_⟩;(conv=>whnf))
  refine brI (fun h1=>?_) (fun h1=>?_)
  ·conv=>whnf
   have hi:i<xs.length:=by simp only[decide_eq_true_eq]at h1;omega
   refine⟨⟨by omega,by omega⟩,fun e he=>?_⟩
   have he:xs[(i:Int).toNat]? =some e:=he
   have he:xs[i]? =some e:=by simpa using he
   conv=>whnf
   refine⟨[.cells [.fn 201 [.ptr 1000003 0]],.cells [.cb l],.gst (J (n++ziy (xs.take i)++zjg e))],.bool false,f163 l J e (hl e (List.mem_of_getElem? he)) _ (by rw[List.length_append,zh7];have:=zqz he;omega),?_⟩;conv=>whnf
   refine⟨i+1,by show i+1≤xs.length;omega,by show xs.length-(i+1)<xs.length-i;omega,?_⟩
   ((conv=>whnf);refine And.intro ?_ ?_;repeat' first|refine lc ?_ ?_|exact la0|exact lr rfl|exact ln0|refine lh1 ?_ ?_|exact lh0|exact bf0|exact bd0|refine bc0 ?_|exact bm0 rfl|exact bg0 rfl|exact li0 rfl|refine lg0 ?_|refine lt0 ?_|fail)
   ·exact ai0 (by rw[wI (by omega)];omega)
   ·exact bg0 (by rw[zrn he,List.append_assoc])
  ·conv=>whnf
   have hi: ¬i<xs.length:=by simp only[decide_eq_false_iff_not]at h1;omega
   rw[List.take_of_length_le (by omega)]
   exact⟨lr rfl,zzi l J _⟩
theorem f60w (l:Nat) (J:List Ex→GJ) (xs:List Ex) (hl: ∀x∈xs,qak l J x) (hlen:xs.length<9223372036854775808) (n:List Ex) (hn:n.length+zea xs≤1000):
 Fn 49 (H2 l J n) [.sl .ex xs,.fn 235 [.ptr 1000004 0]] (.bool false) (H2 l J (n++ziy xs)):=by
 refine fnT hT hmx Tryz.func49 rfl rfl (ex:= []) ?_;conv=>whnf
 refine⟨[.cells [.fn 201 [.ptr 1000003 0]],.cells [.cb l],.gst (J (n++ziy xs))],_,f114w l J xs hl hlen n hn,?_⟩;conv=>whnf
 exact⟨lr rfl,zzi l J _⟩
theorem f152 (l:Nat) (J:List Ex→GJ) (xs:List Ex) (hl: ∀x∈xs,qak l J x) (hlen:xs.length<9223372036854775808) (n:List Ex) (hn:n.length+zea xs≤1000):
 Fn 200 (H1 l J n) [.sl .ex xs,.fn 201 [.ptr 1000003 0]] (.bool true) (H1 l J (n++ziy xs)):=by
 refine fnT hT hmx Tryz.func200 rfl rfl (ex:= []) ?_;conv=>whnf
 refine⟨[.cells [.fn 201 [.ptr 1000003 0]],.cells [.cb l],.gst (J (n++ziy xs))],.bool false,(f60w l J xs hl hlen n hn).sw [(3,1000004)] rfl,?_⟩;conv=>whnf
 exact⟨lr rfl,qc4 l J _⟩
theorem f127 (l:Nat) (J:List Ex→GJ) (hJ:qeo l J): ∀e:Ex,Sm e→qak l J e:=by
 refine zvt fun k q s p xs ih hs n hn=>?_
 simp only[Sm]at hs
 simp only[zdc]at hn
 have hl: ∀x∈xs,qak l J x:=fun x hx=>ih x hx (ztw hs.2.2 x hx)
 refine fnT hT hmx Tryz.func155 rfl rfl (ex:= []) ?_;conv=>whnf
 refine⟨[.gst (J (n++ [Ex.mk k q s p xs]))],.bool true,hJ n (.mk k q s p xs) (by omega),?_⟩;conv=>whnf
 refine⟨[.cells [.cb l],.gst (J (n++ [Ex.mk k q s p xs]++ziy xs))],.bool true,(f152 l J xs hl hs.2.1 (n++ [Ex.mk k q s p xs]) (by simp;omega)).sw [(3,1000003)] rfl,?_⟩;conv=>whnf
 refine⟨lr rfl,lh1 (bg0 ?_) lh0⟩
 rw[show n++ [Ex.mk k q s p xs]++ziy xs=n++zjg (.mk k q s p xs) by simp[zjg]]
end Go.Proofs.YtlocddfailmnpaaGreatDoor

namespace Go.Proofs.YtlocddfailmnpaaGreatDoor
open Go Go.Sx
set_option maxRecDepth 100000
set_option maxHeartbeats 8000000
theorem f154 (l:List Ex) (hl:l.length≤1000):Fn 202 [] [.sl .ex l] (.own 2000000) [(2000000,.buf 43 .ex l)]:=by
 refine fnT hT hmx Tryz.func202 rfl rfl (ex:= [7]) ?_;conv=>whnf
 refine⟨fun h=>?_,fun _=>?_⟩
 ·conv=>whnf
  subst h
  exact⟨trivial,lh1 (zsh rfl rfl) lh0⟩
 ·conv=>whnf
  refine⟨by simp;omega,?_⟩;conv=>whnf
  exact⟨trivial,lh1 (bb0 (by simp)) lh0⟩
abbrev ClOK (e:Ex):Prop:=Fn 156 [] [.agg (exC e)] (.agg (exC e)) []
theorem zuq {α:Type} {l:List α} {i:Nat} {x:α} (h:l[i]? =some x):l.set i x=l:=by
 obtain⟨hi,hx⟩:=List.getElem?_eq_some_iff.1 h
 rw[←hx];exact List.set_getElem_self hi
theorem zav (k:Int) (q:Rt) (s:zg) (n:Int) (l:List Ex) (hl: ∀x∈l,ClOK x) (hlen:l.length≤1000):ClOK (.mk k q s n l):=by
 refine fnT hT hmx Tryz.func156 rfl rfl (ex:= []) ?_;conv=>whnf
 refine⟨[],[.buf 43 .ex l],.own 2000000,f154 l hlen,?_⟩;conv=>whnf
 refine⟨Nat,fun i=>i≤l.length,fun i=> [(10,.int .i64 i)],fun _=> [(7,.buf 43 .ex l)],fun i=>l.length-i,0,by simp,?_,fun i hi=>?_⟩
 ·((conv=>whnf);refine And.intro ?_ ?_;repeat' first|refine lc ?_ ?_|exact la0|exact lr rfl|exact ln0|refine lh1 ?_ ?_|exact lh0|exact bf0|exact bd0|refine bc0 ?_|exact bm0 rfl|exact bg0 rfl|exact li0 rfl|refine lg0 ?_|refine lt0 ?_|fail)
  all_goals first|exact bb0 rfl|exact trivial|fail
 ·(refine⟨by kernel_rfl,?_⟩;(conv=>whnf))
  refine brI (fun h1=>?_) (fun h1=>?_)
  ·conv=>whnf
   have h1:i<l.length:=by simp only[decide_eq_true_eq]at h1;omega
   refine⟨⟨by omega,by omega⟩,?_⟩;conv=>whnf
   refine⟨by simpa using h1,fun x hx=>?_⟩
   have hx:l[(i:Int).toNat]? =some x:=hx
   have hx:l[i]? =some x:=by simpa using hx
   conv=>whnf
   refine gZn (hl x (List.mem_of_getElem? hx)) ?_;conv=>whnf
   refine⟨⟨by omega,by omega⟩,?_⟩;conv=>whnf
   rw[Ex.eta2]
   refine⟨by simpa using h1,?_⟩;conv=>whnf
   refine⟨i+1,by show i+1≤l.length;omega,by show l.length-(i+1)<l.length-i;omega,?_⟩
   ((conv=>whnf);refine And.intro ?_ ?_;repeat' first|refine lc ?_ ?_|exact la0|exact lr rfl|exact ln0|refine lh1 ?_ ?_|exact lh0|exact bf0|exact bd0|refine bc0 ?_|exact bm0 rfl|exact bg0 rfl|exact li0 rfl|refine lg0 ?_|refine lt0 ?_|fail)
   ·exact ai0 (by rw[wI (by omega)];omega)
   ·exact bb0 (zuq (by simpa using hx))
  ·conv=>whnf
   exact⟨qc5 rfl,lh0⟩
theorem f128 {e:Ex} (h:VT e):ClOK e:=by
 induction h with
 |num r hr=>exact zav 1 r [] 0 [] (by simp) (by simp)
 |var s hs=>exact zav 2 ⟨0,0⟩ s 0 [] (by simp) (by simp)
 |un k a hk ha ih=>exact zav k ⟨0,0⟩ [] 0 [a] (by simpa using ih) (by simp)
 |pow n a h1 h2 ha ih=>exact zav 8 ⟨0,0⟩ [] n [a] (by simpa using ih) (by simp)
 |bin k a b hk ha hb ih1 ih2=>exact zav k ⟨0,0⟩ [] 0 [a,b] (by simpa using⟨ih1,ih2⟩) (by simp)
def szN (e:Ex):Nat:=if okT e then zdc e else 0
def zi1 (e:Ex):List Ex:=if okT e then zjg e else []
theorem zmh (e:Ex):(zi1 e).length =szN e:=by
 unfold zi1 szN
 split
 ·exact zm2 e
 ·rfl
theorem f126 (l:Nat) (J:List Ex→GJ) (hJ:qeo l J) (e:Ex) (he:Sm e):Fn 154 [(qr,.gst (J [])),(1000001,.cells (exC e))] [.cb l,.ptr 1000001 0] (.tup []) [(qr,.gst (J (zi1 e))),(1000001,.cells (exC e))]:=by
 refine fnT hT hmx Tryz.func154 rfl rfl (ex:= []) ?_;conv=>whnf
 refine cbI [] (okT e) (f17 e he) (fun h1=>?_) (fun h1=>?_)
 ·conv=>whnf
  refine gZn (f128 (zjn h1)) ?_;conv=>whnf
  refine⟨[.gst (J ([]++zjg e))],.bool true,f127 l J hJ e he [] (by have:=((zde e).1 h1).2.2;simp;omega),?_⟩
  conv=>whnf
  refine⟨lr rfl,lh1 (bg0 ?_) (lh1 (bc0 ?_) lh0)⟩
  ·rw[show zi1 e= []++zjg e by simp[zi1,h1]]
  ·exact lc (lr rfl) (lc (lr rfl) (lc (lr rfl) (lc (lr rfl) (lc (lr rfl) (lc (lr rfl) ln0)))))
 ·conv=>whnf
  refine⟨lr rfl,lh1 (bg0 ?_) (lh1 (bc0 ?_) lh0)⟩
  ·rw[show zi1 e= [] by simp[zi1,h1]]
  ·exact lc (lr rfl) (lc (lr rfl) (lc (lr rfl) (lc (lr rfl) (lc (lr rfl) (lc (lr rfl) ln0)))))
theorem f71 (e:Ex):Fn 106 [] [.agg (exC e)] (.fn 154 [.ptr 2000000 0]) [(2000000,.cells (exC e))]:=by
 refine fnT hT hmx Tryz.func106 rfl rfl (ex:= [1]) ?_;conv=>whnf
 (refine And.intro ?_ ?_;repeat' first|refine lc ?_ ?_|exact la0|exact lr rfl|exact ln0|refine lh1 ?_ ?_|exact lh0|exact bf0|exact bd0|refine bc0 ?_|exact bm0 rfl|exact bg0 rfl|exact li0 rfl|refine lg0 ?_|refine lt0 ?_|fail)
end Go.Proofs.YtlocddfailmnpaaGreatDoor

namespace Go.Proofs.YtlocddfailmnpaaGreatDoor
open Go Go.Sx
end Go.Proofs.YtlocddfailmnpaaGreatDoor

namespace Go.Proofs.YtlocddfailmnpaaGreatDoor
open Go Go.Sx
set_option maxRecDepth 100000
set_option maxHeartbeats 8000000
end Go.Proofs.YtlocddfailmnpaaGreatDoor

namespace Go.Proofs.YtlocddfailmnpaaGreatDoor
open Go Go.Sx
set_option maxRecDepth 100000
set_option maxHeartbeats 8000000
theorem zwm (e:Ex):szN e≤200:=by
 unfold szN
 split
 ·rename_i h;exact((zde e).1 h).2.2
 ·omega
end Go.Proofs.YtlocddfailmnpaaGreatDoor

namespace Go.Proofs.YtlocddfailmnpaaGreatDoor
open Go Go.Sx
end Go.Proofs.YtlocddfailmnpaaGreatDoor
