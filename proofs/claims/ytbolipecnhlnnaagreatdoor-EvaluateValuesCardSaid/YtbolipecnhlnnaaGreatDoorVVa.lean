/- Trees as plain data: valid ones, their depth, their size. -/
import Derived.Test.YtbolipecnhlnnaaGreatDoorVUa
import Derived.Shelf.Sort.Plain
import Derived.Shelf.Slices.In.SortNone
import Derived.Shelf.Slices.CompactS
set_option linter.all false
open And renaming intro->q5
open Bool renaming and_eq_true->q1,eq_iff_iff->q9
open List renaming drop_of_length_le->q0,mem_of_getElem?->q2,length_eq_zero_iff->q3,length_cons->q4,length_append->q6,append_assoc->q7,cons_append->q8
namespace Go.Proofs.YtbolipecnhlnnaaGreatDoor
open Go Go.Sx
mutual
def qde:Ex->Nat
 |.mk _ _ _ _ l=>qdd l+1
def qdd:List Ex->Nat
 | []=>0
 |x::l=>max (qde x) (qdd l)
end
mutual
def zgt:Ex->Nat
 |.mk _ _ _ _ l=>zg7 l+1
def zg7:List Ex->Nat
 | []=>0
 |x::l=>zgt x+zg7 l
end
mutual
def VS:Ex->Prop
 |.mk k q s p l=>ze9 (.mk k q s p l)=true/\VSL l
def VSL:List Ex->Prop
 | []=>True
 |x::l=>VS x/\VSL l
end
mutual
theorem zr5:∀(e:Ex)(d n:Nat),((zem e d n).1=true<->VS e/\d+qde e<=21/\n+zgt e<=200)/\((zem e d n).1=true->(zem e d n).2=n+zgt e)
 |.mk k q s p l,d,n=>by
   simp only[zem,VS,qde,zgt];by_cases h:d<=20/\n+1<=200/\ze9 (.mk k q s p l)=true
   .rw[Z4 h];have ih:=zr4 l (d+1) (n+1) O O;refine⟨⟨fun h1=>?_,fun h1=>?_⟩,fun h1=>?_⟩
    .have:=ih.1.1 h1;exact⟨⟨h.2.2,this.1⟩,O,O⟩
    .exact ih.1.2 ⟨h1.1.2,O,O⟩
    .have:=ih.2 h1;omega
   .rw[Z5 h];refine⟨⟨fun h1=>by simp at h1,fun h1=>absurd ⟨O,O,h1.1.1⟩ h⟩,fun h1=>by simp at h1⟩
theorem zr4:∀(l:List Ex)(d n:Nat),d<=21->n<=200->((zgk l d n).1=true<->VSL l/\d+qdd l<=21/\n+zg7 l<=200)/\((zgk l d n).1=true->(zgk l d n).2=n+zg7 l)
 | [],d,n,hd,hn=>by
   simp only[zgk,VSL,qdd,zg7];exact⟨⟨fun _=>⟨trivial,O,O⟩,fun _=>trivial⟩,fun _=>rfl⟩
 |x::l,d,n,hd,hn=>by
  have ih:=zr5 x d n;simp only[zgk,VSL,qdd,zg7];rcases hx:zem x d n with ⟨b,m⟩
  rw[hx]at ih
  cases b with
  |true=>
   have h1:=ih.1.1 rfl;have h2:m=n+zgt x:=ih.2 rfl;subst h2;have ih2:=zr4 l d (n+zgt x) hd O;refine⟨⟨fun h=>?_,fun h=>?_⟩,fun h=>?_⟩
   .have:=ih2.1.1 h;exact⟨⟨h1.1,this.1⟩,O,O⟩
   .exact ih2.1.2 ⟨h.1.2,O,O⟩
   .have:=ih2.2 h;simp only at this⊢;omega
  |false=>
   refine⟨⟨fun h=>by simp at h,fun h=>?_⟩,fun h=>by simp at h⟩;have:=ih.1.2 ⟨h.1.1,O,O⟩;simp at this
end
theorem zh8(e:Ex):okT e=true<->VS e/\qde e<=20/\zgt e<=200:=by
 have:=(zr5 e 1 0).1;unfold okT;rw[this];constructor
 .rintro⟨h1,h2,h3⟩;exact⟨h1,O,O⟩
 .rintro⟨h1,h2,h3⟩;exact⟨h1,O,O⟩
def zjn(s:zg):Ex:=.mk 2 ⟨0,0⟩ s 0 []
def K1(k:Int):Prop:=k=7\/k=9\/k=10\/k=11\/k=12\/k=13
def K2(k:Int):Prop:=k=3\/k=4\/k=5\/k=6
inductive VT:Ex->Prop
 |num (r:Rt):rOk r=true->VT (zge r)
 |var (s:zg):zia s=true->VT (zjn s)
 |un (k:Int) (a:Ex):K1 k->VT a->VT (opE k 0 [a])
 |pow (n:Int) (a:Ex):0<=n->n<=16->VT a->VT (opE 8 n [a])
 |bin (k:Int) (a b:Ex):K2 k->VT a->VT b->VT (opE k 0 [a,b])
theorem zyf:∀ {l:List Ex},VSL l->∀x∈l,VS x
 | [],_,x,hx=>by simp at hx
 |y::l,h,x,hx=>by
  rcases List.mem_cons.1 hx with rfl|hx
  .exact h.1
  .exact zyf h.2 x hx
theorem len1{α:Type}{l:List α}(h:l.length=1):∃a,l= [a]:=by
 match l,h with
 | [a],_=>exact⟨a,rfl⟩
theorem len2{α:Type}{l:List α}(h:l.length=2):∃a b,l= [a,b]:=by
 match l,h with
 | [a,b],_=>exact⟨a,b,rfl⟩
theorem VS_VT:∀e,VS e->VT e:=by
 refine zpp fun k q s p l ih h=>?_
 simp only[VS]at h;obtain⟨hn,hl⟩:=h;have hall:∀x∈l,VT x:=fun x hx=>ih x hx (zyf hl x hx)
 have hn:(if k=1 then numB (.mk k q s p l)else if k=2 then varB (.mk k q s p l)else if k=8 then powB (.mk k q s p l)else opB (.mk k q s p l))=true:=hn;by_cases hk1:k=1
 .rw[Z4 hk1]at hn;subst hk1;have hn:(rOk q&&(s== [])&&decide (p=0)&&decide (l.length=0))=true:=hn;simp only[q1,Z2,beq_iff_eq]at hn;obtain⟨⟨⟨h1,rfl⟩,rfl⟩,h2⟩:=hn;obtain rfl:l= []:=q3.1 h2;exact VT.num q h1
 .rw[Z5 hk1]at hn;by_cases hk2:k=2
  .rw[Z4 hk2]at hn;subst hk2;have hn:(decide (q=⟨0,0⟩)&&zia s&&decide (p=0)&&decide (l.length=0))=true:=hn;simp only[q1,Z2,beq_iff_eq]at hn;obtain⟨⟨⟨rfl,h1⟩,rfl⟩,h2⟩:=hn;obtain rfl:l= []:=q3.1 h2;exact VT.var s h1
  .rw[Z5 hk2]at hn;by_cases hk8:k=8
   .rw[Z4 hk8]at hn;subst hk8;have hn:(decide (q=⟨0,0⟩)&&(s== [])&&decide (0<=p)&&decide (p<=16)&&decide (l.length=1))=true:=hn;simp only[q1,Z2,beq_iff_eq]at hn;obtain⟨⟨⟨⟨rfl,rfl⟩,h1⟩,h2⟩,h3⟩:=hn;obtain⟨a,rfl⟩:=len1 h3;exact VT.pow p a h1 h2 (hall a OC)
   .rw[Z5 hk8]at hn;have hn:(decide (q=⟨0,0⟩)&&(s== [])&&decide (p=0)&&decide ((l.length:Int)=opn k))=true:=hn;simp only[q1,Z2,beq_iff_eq]at hn;obtain⟨⟨⟨rfl,rfl⟩,rfl⟩,h1⟩:=hn;unfold opn at h1;split at h1
    .obtain⟨a,b,rfl⟩:=len2 (l:=l) O;exact VT.bin k a b ‹_› (hall a OC) (hall b OC)
    .split at h1
     .obtain⟨a,rfl⟩:=len1 (l:=l) O;exact VT.un k a (by unfold K1;omega) (hall a OC)
     .omega
theorem zh9{e:Ex}(h:okT e=true):VT e:=VS_VT e ((zh8 e).1 h).1
set_option maxRecDepth 100000
set_option maxHeartbeats 8000000
mutual
def ue:Ex->List Ex
 |.mk k q s p l=>.mk k q s p l::zbx l
def zbx:List Ex->List Ex
 | []=> []
 |x::l=>ue x++zbx l
end
mutual
theorem zc3:∀e:Ex,(ue e).length =zgt e
 |.mk k q s p l=>by simp only[ue,zgt,q4,zlh l]
theorem zlh:∀l:List Ex,(zbx l).length =zg7 l
 | []=>rfl
 |x::l=>by simp only[zbx,zg7,q6,zc3 x,zlh l]
end
def ql7(l:Nat)(J:List Ex->GJ):Prop:=∀(n:List Ex)(y:Ex),n.length<1000->qds Tryz.prog l [(vu,.gst (J n))] [.agg (exC y)] (.bool true) [(vu,.gst (J (n++ [y])))]
abbrev H1(l:Nat)(J:List Ex->GJ)(n:List Ex):Hp:= [(1000003,.cells [.cb l]),(vu,.gst (J n))]
abbrev H2(l:Nat)(J:List Ex->GJ)(n:List Ex):Hp:= [(1000004,.cells [.fn 281 [.ptr 1000003 0]]),(1000003,.cells [.cb l]),(vu,.gst (J n))]
theorem qkd{h h':Hp}(l:Nat)(J:List Ex->GJ)(n:List Ex):leH h h' (H1 l J n) (H1 l J n):=lh1 (bc0 (lc (lr rfl) ln0)) (lh1 (bg0 rfl) lh0)
theorem qfw{h h':Hp}(l:Nat)(J:List Ex->GJ)(n:List Ex):leH h h' (H2 l J n) (H2 l J n):=lh1 (bc0 (lc (lr rfl) ln0)) (lh1 (bc0 (lc (lr rfl) ln0)) (lh1 (bg0 rfl) lh0))
abbrev qhd(l:Nat)(J:List Ex->GJ)(e:Ex):Prop:=∀n:List Ex,n.length+zgt e<=1000->Fn 189 [(vu,.gst (J n))] [.agg (exC e),.cb l] (.bool true) [(vu,.gst (J (n++ue e)))]
theorem f153(l:Nat)(J:List Ex->GJ)(x:Ex)(hx:qhd l J x)(n:List Ex)(hn:n.length+zgt x<=1000):Fn 281 (H1 l J n) [.agg (exC x),.ptr 1000003 0] (.bool true) (H1 l J (n++ue x)):=by
 refine fnT hT hmx Tryz.func281 rfl rfl (ex:= []) ?_;conv=>whnf
 refine⟨[.gst (J (n++ue x))],.bool true,hx n hn,?_⟩;conv=>whnf
 exact⟨lr rfl,qkd l J _⟩
theorem f163(l:Nat)(J:List Ex->GJ)(x:Ex)(hx:qhd l J x)(n:List Ex)(hn:n.length+zgt x<=1000):Fn 355 (H2 l J n) [.agg (exC x),.ptr 1000004 0] (.bool false) (H2 l J (n++ue x)):=by
 refine fnT hT hmx Tryz.func355 rfl rfl (ex:= []) ?_;conv=>whnf
 refine⟨[.cells [.cb l],.gst (J (n++ue x))],.bool true,f153 l J x hx n hn,?_⟩;conv=>whnf
 exact⟨lr rfl,qfw l J _⟩
theorem zvm{l:List Ex}{i:Nat}{x:Ex}(hx:l[i]? =some x):zbx (l.take (i+1))=zbx (l.take i)++ue x:=by
 rw[List.take_add_one,hx];simp only[Option.toList_some];generalize l.take i=m
 induction m with
 |nil=>simp[zbx]
 |cons y m ih=>simp only[q8,zbx,ih,q7]
theorem zuq:∀ {l:List Ex}{i:Nat}{x:Ex},l[i]? =some x->zg7 (l.take i)+zgt x<=zg7 l
 | [],_,_,h=>by simp at h
 |y::l,0,x,h=>by
  obtain rfl:y=x:=by simpa using h
  simp only[List.take_zero,zg7];omega
 |y::l,i+1,x,h=>by
  have:=zuq (l:=l) (i:=i) (x:=x) (by simpa using h);simp only[List.take_succ_cons,zg7];omega
theorem f114w(l:Nat)(J:List Ex->GJ)(xs:List Ex)(hl:∀x∈xs,qhd l J x)(hlen:xs.length<9223372036854775808)(n:List Ex)(hn:n.length+zg7 xs<=1000):
 Fn 342 (H2 l J n) [.sl .ex xs,.fn 355 [.ptr 1000004 0]] (.int .i64 (-1)) (H2 l J (n++zbx xs)):=by
 refine fnT hT hmx Tryz.func342 rfl rfl (ex:= []) ?_;conv=>whnf
 refine⟨Nat,fun i=>i<=xs.length,fun i=> [(8,.int .i64 i)],fun i=> [(vu,.gst (J (n++zbx (xs.take i))))],fun i=>xs.length-i,0,OC,?_,fun i hi=>?_⟩
 ·((conv=>whnf);refine q5 ?_ ?_;repeat' first|refine lc ?_ ?_|refine lh1 ?_ ?_|refine bc0 ?_|exact KXY|refine lg0 ?_|refine lt0 ?_)
  exact bg0 (by simp[zbx])
 .refine gYe ?_;refine brI (fun h1=>?_) (fun h1=>?_)
  .conv=>whnf
   have hi:i<xs.length:=by simp only[Z2]at h1;omega
   refine⟨⟨O,O⟩,fun e he=>?_⟩;have he:xs[(i:Int).toNat]? =some e:=he;have he:xs[i]? =some e:=by simpa using he
   conv=>whnf
   refine⟨[.cells [.fn 281 [.ptr 1000003 0]],.cells [.cb l],.gst (J (n++zbx (xs.take i)++ue e))],.bool false,f163 l J e (hl e (q2 he)) _ (by rw[q6,zlh];have:=zuq he;omega),?_⟩;conv=>whnf
   refine⟨i+1,by show i+1<=xs.length;omega,by show xs.length-(i+1)<xs.length-i;omega,?_⟩
   ((conv=>whnf);refine q5 ?_ ?_;repeat' first|refine lc ?_ ?_|refine lh1 ?_ ?_|refine bc0 ?_|exact KXY|refine lg0 ?_|refine lt0 ?_)
   .exact ai0 (by rw[wI O];omega)
   .exact bg0 (by rw[zvm he,q7])
  .conv=>whnf
   have hi:¬i<xs.length:=by simp only[Z3]at h1;omega
   rw[List.take_of_length_le O];exact⟨lr rfl,qfw l J _⟩
theorem f60w(l:Nat)(J:List Ex->GJ)(xs:List Ex)(hl:∀x∈xs,qhd l J x)(hlen:xs.length<9223372036854775808)(n:List Ex)(hn:n.length+zg7 xs<=1000):
 Fn 263 (H2 l J n) [.sl .ex xs,.fn 355 [.ptr 1000004 0]] (.bool false) (H2 l J (n++zbx xs)):=by
 refine fnT hT hmx Tryz.func263 rfl rfl (ex:= []) ?_;conv=>whnf
 refine⟨[.cells [.fn 281 [.ptr 1000003 0]],.cells [.cb l],.gst (J (n++zbx xs))],_,f114w l J xs hl hlen n hn,?_⟩;conv=>whnf
 exact⟨lr rfl,qfw l J _⟩
theorem f152(l:Nat)(J:List Ex->GJ)(xs:List Ex)(hl:∀x∈xs,qhd l J x)(hlen:xs.length<9223372036854775808)(n:List Ex)(hn:n.length+zg7 xs<=1000):
 Fn 280 (H1 l J n) [.sl .ex xs,.fn 281 [.ptr 1000003 0]] (.bool true) (H1 l J (n++zbx xs)):=by
 refine fnT hT hmx Tryz.func280 rfl rfl (ex:= []) ?_;conv=>whnf
 refine⟨[.cells [.fn 281 [.ptr 1000003 0]],.cells [.cb l],.gst (J (n++zbx xs))],.bool false,(f60w l J xs hl hlen n hn).sw [(3,1000004)] rfl,?_⟩;conv=>whnf
 exact⟨lr rfl,qkd l J _⟩
theorem f127(l:Nat)(J:List Ex->GJ)(hJ:ql7 l J):∀e:Ex,Sm e->qhd l J e:=by
 refine zpp fun k q s p xs ih hs n hn=>?_
 simp only[Sm]at hs;simp only[zgt]at hn;have hl:∀x∈xs,qhd l J x:=fun x hx=>ih x hx (zmj hs.2.2 x hx)
 refine fnT hT hmx Tryz.func189 rfl rfl (ex:= []) ?_;conv=>whnf
 refine⟨[.gst (J (n++ [Ex.mk k q s p xs]))],.bool true,hJ n (.mk k q s p xs) O,?_⟩;conv=>whnf
 refine⟨[.cells [.cb l],.gst (J (n++ [Ex.mk k q s p xs]++zbx xs))],.bool true,(f152 l J xs hl hs.2.1 (n++ [Ex.mk k q s p xs]) OE).sw [(3,1000003)] rfl,?_⟩;conv=>whnf
 refine⟨lr rfl,lh1 (bg0 ?_) lh0⟩;rw[show n++ [Ex.mk k q s p xs]++zbx xs=n++ue (.mk k q s p xs) by simp[ue]]
theorem f154(l:List Ex)(hl:l.length<=1000):Fn 187 [] [.sl .ex l] (.own 2000000) [(2000000,.buf 63 .ex l)]:=by
 refine fnT hT hmx Tryz.func187 rfl rfl (ex:= [7]) ?_;conv=>whnf
 refine⟨fun h=>?_,fun _=>?_⟩
 .conv=>whnf
  subst h;exact⟨trivial,lh1 (zwn rfl rfl) lh0⟩
 .conv=>whnf
  refine⟨OE,?_⟩;conv=>whnf
  exact⟨trivial,lh1 (bb0 OC) lh0⟩
abbrev ClOK(e:Ex):Prop:=Fn 186 [] [.agg (exC e)] (.agg (exC e)) []
theorem zzs{α:Type}{l:List α}{i:Nat}{x:α}(h:l[i]? =some x):l.set i x=l:=by
 obtain⟨hi,hx⟩:=List.getElem?_eq_some_iff.1 h;rw[<-hx];exact List.set_getElem_self hi
theorem zcm(k:Int)(q:Rt)(s:zg)(n:Int)(l:List Ex)(hl:∀x∈l,ClOK x)(hlen:l.length<=1000):ClOK (.mk k q s n l):=by
 refine fnT hT hmx Tryz.func186 rfl rfl (ex:= []) ?_;conv=>whnf
 refine⟨[],[.buf 63 .ex l],.own 2000000,f154 l hlen,?_⟩;conv=>whnf
 refine⟨Nat,fun i=>i<=l.length,fun i=> [(10,.int .i64 i)],fun _=> [(7,.buf 63 .ex l)],fun i=>l.length-i,0,OC,?_,fun i hi=>?_⟩
 ·((conv=>whnf);refine q5 ?_ ?_;repeat' first|refine lc ?_ ?_|refine lh1 ?_ ?_|refine bc0 ?_|exact KXY|refine lg0 ?_|refine lt0 ?_)
  all_goals first|exact bb0 rfl|exact trivial|fail
 .refine gYe ?_;refine brI (fun h1=>?_) (fun h1=>?_)
  .conv=>whnf
   have h1:i<l.length:=by simp only[Z2]at h1;omega
   refine⟨⟨O,O⟩,?_⟩;conv=>whnf
   refine⟨by simpa using h1,fun x hx=>?_⟩;have hx:l[(i:Int).toNat]? =some x:=hx;have hx:l[i]? =some x:=by simpa using hx
   conv=>whnf
   refine gYn (hl x (q2 hx)) ?_;refine⟨⟨O,O⟩,?_⟩;conv=>whnf
   rw[Ex.eta2];refine⟨by simpa using h1,?_⟩;conv=>whnf
   refine⟨i+1,by show i+1<=l.length;omega,by show l.length-(i+1)<l.length-i;omega,?_⟩
   ((conv=>whnf);refine q5 ?_ ?_;repeat' first|refine lc ?_ ?_|refine lh1 ?_ ?_|refine bc0 ?_|exact KXY|refine lg0 ?_|refine lt0 ?_)
   .exact ai0 (by rw[wI O];omega)
   .exact bb0 (zzs (by simpa using hx))
  .conv=>whnf
   exact⟨qke rfl,lh0⟩
theorem f128{e:Ex}(h:VT e):ClOK e:=by
 induction h with
 |num r hr=>exact zcm 1 r [] 0 [] OC OC
 |var s hs=>exact zcm 2 ⟨0,0⟩ s 0 [] OC OC
 |un k a hk ha ih=>exact zcm k ⟨0,0⟩ [] 0 [a] (by simpa using ih) OC
 |pow n a h1 h2 ha ih=>exact zcm 8 ⟨0,0⟩ [] n [a] (by simpa using ih) OC
 |bin k a b hk ha hb ih1 ih2=>exact zcm k ⟨0,0⟩ [] 0 [a,b] (by simpa using⟨ih1,ih2⟩) OC
def zmn(e:Ex):List Ex:=if okT e then ue e else []
theorem f126(l:Nat)(J:List Ex->GJ)(hJ:ql7 l J)(e:Ex)(he:Sm e):Fn 188 [(vu,.gst (J [])),(1000001,.cells (exC e))] [.cb l,.ptr 1000001 0] (.tup []) [(vu,.gst (J (zmn e))),(1000001,.cells (exC e))]:=by
 refine fnT hT hmx Tryz.func188 rfl rfl (ex:= []) ?_;conv=>whnf
 refine cbI [] (okT e) (f17 e he) (fun h1=>?_) (fun h1=>?_)
 .conv=>whnf
  refine gYn (f128 (zh9 h1)) ?_;refine⟨[.gst (J ([]++ue e))],.bool true,f127 l J hJ e he [] (by have:=((zh8 e).1 h1).2.2;simp;omega),?_⟩;conv=>whnf
  refine⟨lr rfl,lh1 (bg0 ?_) (lh1 (bc0 ?_) lh0)⟩
  .rw[show zmn e= []++ue e by simp[zmn,h1]]
  .exact lc (lr rfl) (lc (lr rfl) (lc (lr rfl) (lc (lr rfl) (lc (lr rfl) (lc (lr rfl) ln0)))))
 .conv=>whnf
  refine⟨lr rfl,lh1 (bg0 ?_) (lh1 (bc0 ?_) lh0)⟩
  .rw[show zmn e= [] by simp[zmn,h1]]
  .exact lc (lr rfl) (lc (lr rfl) (lc (lr rfl) (lc (lr rfl) (lc (lr rfl) (lc (lr rfl) ln0)))))
theorem f71(e:Ex):Fn 110 [] [.agg (exC e)] (.fn 188 [.ptr 2000000 0]) [(2000000,.cells (exC e))]:=by
 refine fnT hT hmx Tryz.func110 rfl rfl (ex:= [1]) ?_;conv=>whnf
 (refine q5 ?_ ?_;repeat' first|refine lc ?_ ?_|exact la0|exact lr rfl|exact ln0|refine lh1 ?_ ?_|exact lh0|exact bf0|exact bd0|refine bc0 ?_|exact bm0 rfl|exact bg0 rfl|exact li0 rfl|refine lg0 ?_|refine lt0 ?_|fail)
def ql8(l:Nat)(J:Bool->GJ)(p:Ex->Bool):Prop:=∀y:Ex,qds Tryz.prog l [(vu,.gst (J true))] [.agg (exC y)] (.bool (p y)) [(vu,.gst (J (p y)))]
abbrev B1(l:Nat)(J:Bool->GJ)(b:Bool):Hp:= [(1000003,.cells [.cb l]),(vu,.gst (J b))]
abbrev B2(l:Nat)(J:Bool->GJ)(b:Bool):Hp:= [(1000004,.cells [.fn 281 [.ptr 1000003 0]]),(1000003,.cells [.cb l]),(vu,.gst (J b))]
theorem leB1{h h':Hp}(l:Nat)(J:Bool->GJ)(b:Bool):leH h h' (B1 l J b) (B1 l J b):=lh1 (bc0 (lc (lr rfl) ln0)) (lh1 (bg0 rfl) lh0)
theorem leB2{h h':Hp}(l:Nat)(J:Bool->GJ)(b:Bool):leH h h' (B2 l J b) (B2 l J b):=lh1 (bc0 (lc (lr rfl) ln0)) (lh1 (bc0 (lc (lr rfl) ln0)) (lh1 (bg0 rfl) lh0))
mutual
def zgl(p:Ex->Bool):Ex->Bool
 |.mk k q s n l=>p (.mk k q s n l)&&zmh p l
def zmh(p:Ex->Bool):List Ex->Bool
 | []=>true
 |x::l=>zgl p x&&zmh p l
end
def ixA(p:Ex->Bool):List Ex->Nat->Int
 | [],_=> -1
 |x::l,i=>if zgl p x then ixA p l (i+1)else i
theorem zwu(p:Ex->Bool):∀(l:List Ex)(i:Nat),0<=ixA p l i<->zmh p l=false
 | [],i=>by simp[ixA,zmh]
 |x::l,i=>by
  have ih:=zwu p l (i+1);by_cases h:zgl p x=true
  .simp[ixA,zmh,h,ih]
  .simp[ixA,zmh,h]
abbrev qdo(l:Nat)(J:Bool->GJ)(p:Ex->Bool)(e:Ex):Prop:=Fn 189 [(vu,.gst (J true))] [.agg (exC e),.cb l] (.bool (zgl p e)) [(vu,.gst (J (zgl p e)))]
theorem s153(l:Nat)(J:Bool->GJ)(p:Ex->Bool)(x:Ex)(hx:qdo l J p x):Fn 281 (B1 l J true) [.agg (exC x),.ptr 1000003 0] (.bool (zgl p x)) (B1 l J (zgl p x)):=by
 refine fnT hT hmx Tryz.func281 rfl rfl (ex:= []) ?_;conv=>whnf
 refine⟨[.gst (J (zgl p x))],.bool (zgl p x),hx,?_⟩;conv=>whnf
 exact⟨lr rfl,leB1 l J _⟩
theorem s163(l:Nat)(J:Bool->GJ)(p:Ex->Bool)(x:Ex)(hx:qdo l J p x):Fn 355 (B2 l J true) [.agg (exC x),.ptr 1000004 0] (.bool (!zgl p x)) (B2 l J (zgl p x)):=by
 refine fnT hT hmx Tryz.func355 rfl rfl (ex:= []) ?_;conv=>whnf
 refine⟨[.cells [.cb l],.gst (J (zgl p x))],.bool (zgl p x),s153 l J p x hx,?_⟩;conv=>whnf
 exact⟨ab0 rfl,leB2 l J _⟩
theorem s114(l:Nat)(J:Bool->GJ)(p:Ex->Bool)(xs:List Ex)(hl:∀x∈xs,qdo l J p x)(hlen:xs.length<9223372036854775808):
 Fn 342 (B2 l J true) [.sl .ex xs,.fn 355 [.ptr 1000004 0]] (.int .i64 (ixA p xs 0)) (B2 l J (zmh p xs)):=by
 refine fnT hT hmx Tryz.func342 rfl rfl (ex:= []) ?_;conv=>whnf
 refine⟨Nat,fun i=>i<=xs.length/\ixA p (xs.drop i) i=ixA p xs 0/\zmh p (xs.drop i)=zmh p xs,fun i=> [(8,.int .i64 i)],fun i=> [(vu,.gst (J true))],fun i=>xs.length-i,0,⟨OC,rfl,rfl⟩,?_,fun i hi=>?_⟩
 .exact KZ0
 .refine gYe ?_;obtain⟨hi1,hi2,hi3⟩:=hi;refine brI (fun h1=>?_) (fun h1=>?_)
  .conv=>whnf
   have hi:i<xs.length:=by simp only[Z2]at h1;omega
   refine⟨⟨O,O⟩,fun e he=>?_⟩;have he:xs[i]? =some e:=by simpa using he
   rw[qe he]at hi2 hi3;simp only[ixA,zmh]at hi2 hi3;have hx:=s163 l J p e (hl e (q2 he));conv=>whnf
   cases hp:zgl p e with
   |true=>
    rw[hp]at hx hi2 hi3;refine⟨[.cells [.fn 281 [.ptr 1000003 0]],.cells [.cb l],.gst (J true)],.bool false,hx,?_⟩;conv=>whnf
    refine⟨i+1,⟨O,by simpa using hi2,by simpa using hi3⟩,by show xs.length-(i+1)<xs.length-i;omega,?_⟩;exact KZ0
   |false=>
    rw[hp]at hx hi2 hi3;refine⟨[.cells [.fn 281 [.ptr 1000003 0]],.cells [.cb l],.gst (J false)],.bool true,hx,?_⟩;conv=>whnf
    rw[<-hi3];exact⟨ai0 (by simpa using hi2),leB2 l J _⟩
  .conv=>whnf
   have hi:¬i<xs.length:=by simp only[Z3]at h1;omega
   rw[q0 O]at hi2 hi3;rw[<-hi3];exact⟨ai0 hi2,leB2 l J _⟩
theorem s60(l:Nat)(J:Bool->GJ)(p:Ex->Bool)(xs:List Ex)(hl:∀x∈xs,qdo l J p x)(hlen:xs.length<9223372036854775808):
 Fn 263 (B2 l J true) [.sl .ex xs,.fn 355 [.ptr 1000004 0]] (.bool (!zmh p xs)) (B2 l J (zmh p xs)):=by
 refine fnT hT hmx Tryz.func263 rfl rfl (ex:= []) ?_;conv=>whnf
 refine⟨[.cells [.fn 281 [.ptr 1000003 0]],.cells [.cb l],.gst (J (zmh p xs))],_,s114 l J p xs hl hlen,?_⟩;conv=>whnf
 exact⟨ab0 (by rw[q9,Z2];have:=zwu p xs 0;simp only[ge_iff_le,this,Bool.not_eq_true']),leB2 l J _⟩
theorem s152(l:Nat)(J:Bool->GJ)(p:Ex->Bool)(xs:List Ex)(hl:∀x∈xs,qdo l J p x)(hlen:xs.length<9223372036854775808):
 Fn 280 (B1 l J true) [.sl .ex xs,.fn 281 [.ptr 1000003 0]] (.bool (zmh p xs)) (B1 l J (zmh p xs)):=by
 refine fnT hT hmx Tryz.func280 rfl rfl (ex:= []) ?_;conv=>whnf
 refine⟨[.cells [.fn 281 [.ptr 1000003 0]],.cells [.cb l],.gst (J (zmh p xs))],.bool (!zmh p xs),(s60 l J p xs hl hlen).sw [(3,1000004)] rfl,?_⟩;conv=>whnf
 exact⟨ab0 OC,leB1 l J _⟩
theorem s127(l:Nat)(J:Bool->GJ)(p:Ex->Bool)(hJ:ql8 l J p):∀e:Ex,Sm e->qdo l J p e:=by
 refine zpp fun k q s n xs ih hs=>?_
 simp only[Sm]at hs;have hl:∀x∈xs,qdo l J p x:=fun x hx=>ih x hx (zmj hs.2.2 x hx)
 have hy:=hJ (.mk k q s n xs);unfold qdo;simp only[zgl];refine fnT hT hmx Tryz.func189 rfl rfl (ex:= []) ?_;conv=>whnf
 cases hp:p (.mk k q s n xs)with
 |true=>
  rw[hp]at hy;refine⟨[.gst (J true)],.bool true,hy,?_⟩;conv=>whnf
  refine⟨[.cells [.cb l],.gst (J (zmh p xs))],.bool (zmh p xs),(s152 l J p xs hl hs.2.1).sw [(3,1000003)] rfl,?_⟩;conv=>whnf
  exact⟨lr rfl,lh1 (bg0 rfl) lh0⟩
 |false=>
  rw[hp]at hy;refine⟨[.gst (J false)],.bool false,hy,?_⟩;conv=>whnf
  exact⟨lr rfl,lh1 (bg0 rfl) lh0⟩
theorem s126(l:Nat)(J:Bool->GJ)(p:Ex->Bool)(hJ:ql8 l J p)(e:Ex)(he:Sm e)(b:Bool)(hb:b=(!okT e||zgl p e)):
 Fn 188 [(vu,.gst (J true)),(1000001,.cells (exC e))] [.cb l,.ptr 1000001 0] (.tup []) [(vu,.gst (J b)),(1000001,.cells (exC e))]:=by
 refine fnT hT hmx Tryz.func188 rfl rfl (ex:= []) ?_;conv=>whnf
 refine cbI [] (okT e) (f17 e he) (fun h1=>?_) (fun h1=>?_)
 .conv=>whnf
  refine gYn (f128 (zh9 h1)) ?_;refine⟨[.gst (J (zgl p e))],.bool (zgl p e),s127 l J p hJ e he,?_⟩;conv=>whnf
  refine⟨lr rfl,lh1 (bg0 ?_) (lh1 (bc0 (zbk rfl)) lh0)⟩;rw[hb,h1];rfl
 .conv=>whnf
  refine⟨lr rfl,lh1 (bg0 ?_) (lh1 (bc0 (zbk rfl)) lh0)⟩;rw[hb,h1];rfl
def qe6(e:Ex):Bool:=okT e&&zgl (fun y=>decide (y.k<9)) e
theorem f101(e:Ex)(he:Sm e):Fn 171 [] [.agg (exC e)] (.bool (qe6 e)) []:=by
 obtain⟨b,hb⟩:∃b,b=(!okT e||zgl (fun y=>decide (y.k<9)) e):=⟨_,rfl⟩;refine fnT hT hmx Tryz.func171 rfl rfl (ex:= []) ?_;conv=>whnf
 refine⟨[],[.cells (exC e)],.fn 188 [.ptr 2000000 0],f71 e,?_⟩;conv=>whnf
 refine⟨[2],Bool,Ex,fun _=> [.cells [.bool false]],fun b=>b,fun _=>.ret,fun y=> [.agg (exC y)],fun _ y=>decide (y.k<9),true,b,.tup [],[.cells (exC e)],?_,rfl,Z,Z,fun _=>⟨rfl,rfl⟩,fun _=>rfl,?_,?_,?_⟩
 .rfl
 .intro l J h;exact(s126 l J (fun y=>decide (y.k<9)) (fun y=>h true y rfl) e he b hb).sw [(5,1000001)] rfl
 .intro x y _;conv=>whnf
  refine brI (fun h1=>?_) (fun h1=>?_)
  .conv=>whnf
   have h1:y.k≥9:=by simpa using h1
   refine⟨by simp only[Z3];omega,rfl,?_⟩;unfold zpq;exact lh1 (bc0 (lc (lr rfl) ln0)) lh0
  .conv=>whnf
   have h1:¬y.k≥9:=by simpa using h1
   refine⟨by simp only[Z2];omega,?_⟩;unfold zpq;exact lh1 (bc0 (lc (lr rfl) ln0)) lh0
 .cases b with
  |true=>
   conv=>whnf
   refine gYn (f17 e he) ?_;exact⟨ab0 (by unfold qe6;cases h1:okT e<;>rw[h1]at hb<;>simp_all),lh0⟩
  |false=>
   conv=>whnf
   exact⟨ab0 (by unfold qe6;cases h1:okT e<;>rw[h1]at hb<;>simp_all),lh0⟩
def qhy(a:Rt):Nat->Rt->Rt×Int
 |0,r=>(r,0)
 |n+1,r=>if(qcn r a).2=0 then qhy a n (qcn r a).1 else qcn r a
def xop(k p:Int)(a b:Rt):Rt×Int:=
 if k=3 then rAdd a b else if k=4 then qhv a b else if k=5 then qcn a b else if k=6 then rDiv a b else if k=7 then qhv ⟨0,1⟩ a else qhy a p.toNat ⟨1,1⟩
abbrev zkw:=List (zg×Rt)
mutual
def xcE(es:zkw):Ex->Rt×Int
 |.mk k q s p l=>if k=1 then(q,0)else if k=2 then(zgz .str s ⟨0,0⟩ es,0)else xcL es k p l []
def xcL(es:zkw)(k p:Int):List Ex->List Rt->Rt×Int
 | [],acc=>xop k p (acc[0]?.getD ⟨0,0⟩) (acc[1]?.getD ⟨0,0⟩)
 |x::l,acc=>if(xcE es x).2=0 then xcL es k p l (acc++ [(xcE es x).1])else xcE es x
end
abbrev Hm(es:zkw):Hp:= [(1000001,.map .str .rat es)]
theorem zly{h h':Hp}(es:zkw):leH h h' (Hm es) (Hm es):=lh1 (bm0 rfl) lh0
abbrev zft(es:zkw)(e:Ex):Prop:=Fn 173 (Hm es) [.agg (exC e),.mp 1000001] (rto (xcE es e)) (Hm es)
theorem qa8(es:zkw)(r:Rt):zft es (zge r):=by
 unfold zft;rw[show xcE es (zge r)=(r,0) by simp[zge,xcE]];refine fnT hT hmx Tryz.func173 rfl rfl (ex:= []) ?_;conv=>whnf
 exact⟨lr rfl,zly es⟩
theorem qa6(es:zkw)(s:zg):zft es (zjn s):=by
 unfold zft;rw[show xcE es (zjn s)=(zgz .str s ⟨0,0⟩ es,0) by simp[zjn,xcE]];refine fnT hT hmx Tryz.func173 rfl rfl (ex:= []) ?_;conv=>whnf
 exact⟨lr rfl,zly es⟩
theorem qk0(es:zkw)(a b:Ex)(ha:zft es a)(hb:zft es b):zft es (opE 4 0 [a,b]):=by
 unfold zft at*;rw[show xcE es (opE 4 0 [a,b])=if(xcE es a).2=0 then(if(xcE es b).2=0 then qhv (xcE es a).1 (xcE es b).1 else xcE es b)else xcE es a by simp[opE,xcE,xcL,xop]];generalize xcE es a=A at ha;generalize xcE es b=B at hb;obtain⟨x,f⟩:=A;obtain⟨y,g⟩:=B;refine fnT hT hmx Tryz.func173 rfl rfl (ex:= []) ?_;conv=>whnf
 refine⟨Nat,fun i=>i<=2/\(1<=i->f=0)/\(i=2->g=0),fun i=> [(29,.int .i64 i)],fun i=> [(6,.cells (match i with
  |0=> [.int .i64 0,.int .i64 0,.int .i64 0,.int .i64 0]
  |1=> [.int .i64 x.n,.int .i64 x.d,.int .i64 0,.int .i64 0]
  | _=> [.int .i64 x.n,.int .i64 x.d,.int .i64 y.n,.int .i64 y.d]))],fun i=>2-i,0,⟨O,O,O⟩,?_,fun i hi=>?_⟩
 .exact KZ0
 obtain⟨hi1,hi2,hi3⟩:=hi;obtain rfl|rfl|rfl:i=0\/i=1\/i=2:=O
 .refine gYe ?_;refine ix0 ?_;conv=>whnf
  refine⟨[.map .str .rat es],rto (x,f),ha,?_⟩;conv=>whnf
  refine brI (fun h1=>?_) (fun h1=>?_)
  .conv=>whnf
   have h1:f≠0:=by simpa using h1
   rw[Z5 h1];exact⟨lr rfl,zly es⟩
  .conv=>whnf
   have h1:f=0:=by simpa using h1
   refine⟨⟨O,O⟩,?_⟩;conv=>whnf
   refine⟨1,⟨O,fun _=>h1,O⟩,by show 2-1<2-0;omega,?_⟩;exact KZ0
 .refine gYe ?_;have h0:f=0:=hi2 O;simp only[Z4 h0];refine ix1 ?_;conv=>whnf
  refine⟨[.map .str .rat es],rto (y,g),hb,?_⟩;conv=>whnf
  refine brI (fun h1=>?_) (fun h1=>?_)
  .conv=>whnf
   have h1:g≠0:=by simpa using h1
   rw[Z5 h1];exact⟨lr rfl,zly es⟩
  .conv=>whnf
   have h1:g=0:=by simpa using h1
   refine⟨⟨O,O⟩,?_⟩;conv=>whnf
   refine⟨2,⟨O,fun _=>h0,fun _=>h1⟩,by show 2-2<2-1;omega,?_⟩;exact KZ0
 .refine gYe ?_;have h0:f=0:=hi2 O;have h1:g=0:=hi3 rfl;simp only[Z4 h0,Z4 h1];refine⟨⟨O,O⟩,?_⟩;conv=>whnf
  refine⟨⟨O,O⟩,?_⟩;conv=>whnf
  refine gYn (f108 x y) ?_;exact⟨lr rfl,zly es⟩
theorem qky(es:zkw)(a b:Ex)(ha:zft es a)(hb:zft es b):zft es (opE 6 0 [a,b]):=by
 unfold zft at*;rw[show xcE es (opE 6 0 [a,b])=if(xcE es a).2=0 then(if(xcE es b).2=0 then rDiv (xcE es a).1 (xcE es b).1 else xcE es b)else xcE es a by simp[opE,xcE,xcL,xop]];generalize xcE es a=A at ha;generalize xcE es b=B at hb;obtain⟨x,f⟩:=A;obtain⟨y,g⟩:=B;refine fnT hT hmx Tryz.func173 rfl rfl (ex:= []) ?_;conv=>whnf
 refine⟨Nat,fun i=>i<=2/\(1<=i->f=0)/\(i=2->g=0),fun i=> [(29,.int .i64 i)],fun i=> [(6,.cells (match i with
  |0=> [.int .i64 0,.int .i64 0,.int .i64 0,.int .i64 0]
  |1=> [.int .i64 x.n,.int .i64 x.d,.int .i64 0,.int .i64 0]
  | _=> [.int .i64 x.n,.int .i64 x.d,.int .i64 y.n,.int .i64 y.d]))],fun i=>2-i,0,⟨O,O,O⟩,?_,fun i hi=>?_⟩
 .exact KZ0
 obtain⟨hi1,hi2,hi3⟩:=hi;obtain rfl|rfl|rfl:i=0\/i=1\/i=2:=O
 .refine gYe ?_;refine ix0 ?_;conv=>whnf
  refine⟨[.map .str .rat es],rto (x,f),ha,?_⟩;conv=>whnf
  refine brI (fun h1=>?_) (fun h1=>?_)
  .conv=>whnf
   have h1:f≠0:=by simpa using h1
   rw[Z5 h1];exact⟨lr rfl,zly es⟩
  .conv=>whnf
   have h1:f=0:=by simpa using h1
   refine⟨⟨O,O⟩,?_⟩;conv=>whnf
   refine⟨1,⟨O,fun _=>h1,O⟩,by show 2-1<2-0;omega,?_⟩;exact KZ0
 .refine gYe ?_;have h0:f=0:=hi2 O;simp only[Z4 h0];refine ix1 ?_;conv=>whnf
  refine⟨[.map .str .rat es],rto (y,g),hb,?_⟩;conv=>whnf
  refine brI (fun h1=>?_) (fun h1=>?_)
  .conv=>whnf
   have h1:g≠0:=by simpa using h1
   rw[Z5 h1];exact⟨lr rfl,zly es⟩
  .conv=>whnf
   have h1:g=0:=by simpa using h1
   refine⟨⟨O,O⟩,?_⟩;conv=>whnf
   refine⟨2,⟨O,fun _=>h0,fun _=>h1⟩,by show 2-2<2-1;omega,?_⟩;exact KZ0
 .refine gYe ?_;have h0:f=0:=hi2 O;have h1:g=0:=hi3 rfl;simp only[Z4 h0,Z4 h1];refine⟨⟨O,O⟩,?_⟩;conv=>whnf
  refine⟨⟨O,O⟩,?_⟩;conv=>whnf
  refine gYn (f57 x y) ?_;exact⟨lr rfl,zly es⟩
def rv(r:Rt):Rat:=(r.n:Rat)/(r.d:Rat)
theorem qjh{a:Int}(h:a≠0):(a:Rat)≠0:=by
 intro e;exact h (by exact_mod_cast e)
section
variable {w w':World} {M:Nat->Prop} {pt:Nat->Option Nat} {ow:Nat->Option Value} {S:Nat->Prop} {j:Nat} {xs:List zg} {h:Value}
end
def zj6:List Ex->List zg
 | []=> []
 |y::l=>if y.k=2 then y.s::zj6 l else zj6 l
theorem zq5(l m:List Ex):zj6 (l++m)=zj6 l++zj6 m:=by
 induction l with
 |nil=>rfl
 |cons y l ih=>simp only[q8,zj6,ih];split<;>rfl
theorem zlr(l:List Ex):(zj6 l).length <=l.length:=by
 induction l with
 |nil=>exact Nat.le_refl _
 |cons y l ih=>simp only[zj6];split<;>simp<;>omega
def zn5:List zg->List Rt->zkw->zkw
 |n::ns,r::rs,es=>zn5 ns rs (zby .str n r es)
 | _,_,es=>es
theorem qge(ns:List zg)(rs:List Rt)(h:¬(ns.length=rs.length/\ns.length<=200))(h1:ns.length<9223372036854775808)(h2:rs.length<9223372036854775808):
 Fn 170 [] [.sl .str ns,.sl .rat rs] (.tup [.any,.bool false]) [(2000000,.dead)]:=by
 refine fnT hT hmx Tryz.func170 rfl rfl (ex:= [21]) ?_;conv=>whnf
 refine brI (fun h3=>?_) (fun h3=>?_)
 .conv=>whnf
  exact⟨lt0 (lc la0 (lc (lr rfl) ln0)),lh1 bd0 lh0⟩
 .conv=>whnf
  refine brI (fun h4=>?_) (fun h4=>?_)
  .conv=>whnf
   exact⟨lt0 (lc la0 (lc (lr rfl) ln0)),lh1 bd0 lh0⟩
  .refine absurd ⟨?_,?_⟩ h
   .have h3:((ns.length:Int) != (rs.length:Int))=false:=h3;simp only[bne_eq_false_iff_eq]at h3;omega
   .simp only[Z3]at h4;omega
theorem zw9{ns:List zg}{rs:List Rt}{i:Nat}{n:zg}{r:Rt}(es:zkw)(h1:ns[i]? =some n)(h2:rs[i]? =some r):zn5 (ns.drop i) (rs.drop i) es=zn5 (ns.drop (i+1)) (rs.drop (i+1)) (zby .str n r es):=by
 rw[qe h1,qe h2];rfl
theorem zra(n:zg)(r:Rt):∀es:zkw,(zby .str n r es).length <=es.length+1
 | []=>by simp[zby]
 |(y,v)::l=>by
  have:=zra n r l;simp only[zby];cases zl0 .str n y
  .simp only[cond_false,q4];omega
  .simp only[cond_true,q4];omega
theorem f100(ns:List zg)(rs:List Rt)(h:ns.length=rs.length/\ns.length<=200):
 Fn 170 [] [.sl .str ns,.sl .rat rs] (.tup [.mp 2000000,.bool (decide ((zn5 ns rs []).length =rs.length))]) [(2000000,.map .str .rat (zn5 ns rs []))]:=by
 refine fnT hT hmx Tryz.func170 rfl rfl (ex:= [21]) ?_;conv=>whnf
 refine brI (fun h0=>?_) (fun h0=>?_)
 .have h0:((ns.length:Int) != (rs.length:Int))=true:=h0;refine absurd h.1 (fun e=>?_);rw[e]at h0;simp at h0
 conv=>whnf
 refine brI (fun h0=>absurd h.2 (by simp only[Z2]at h0;omega)) (fun _=>?_);conv=>whnf
 refine⟨Nat×zkw,fun x=>x.1<=ns.length/\zn5 (ns.drop x.1) (rs.drop x.1) x.2=zn5 ns rs []/\x.2.length<=x.1,fun x=> [(24,.int .i64 x.1)],fun x=> [(21,.map .str .rat x.2)],fun x=>ns.length-x.1,(0,[]),⟨OC,rfl,OC⟩,?_,fun x hx=>?_⟩
 .exact KZ0
 refine gYe ?_;obtain⟨i,es⟩:=x;obtain⟨hx1,hx2,hx3⟩:=hx;simp only at hx1 hx2 hx3;refine brI (fun h3=>?_) (fun h3=>?_)
 .conv=>whnf
  have h3:i<ns.length:=by simp only[Z2]at h3;omega
  refine⟨⟨O,O⟩,fun n hn=>?_⟩;have hn:ns[i]? =some n:=by simpa using hn
  conv=>whnf
  refine⟨⟨O,OD⟩,fun r hr=>?_⟩;have hr:rs[i]? =some r:=by simpa using hr
  rw[zw9 es hn hr]at hx2;conv=>whnf
  refine⟨(i+1,zby .str n r es),⟨OD,hx2,by have:=zra n r es;simp only;omega⟩,by show ns.length-(i+1)<ns.length-i;omega,?_⟩;exact KZ0
 .conv=>whnf
  have h3:¬i<ns.length:=by simp only[Z3]at h3;omega
  rw[q0 O,q0 O]at hx2;have hx2:es=zn5 ns rs []:=hx2;rw[<-hx2];refine⟨lt0 (lc (lr rfl) (lc (ab0 ?_) ln0)),lh1 (bm0 rfl) lh0⟩;rw[q9,Z2];constructor
  .intro h;have h:((es.length:Int)==(rs.length:Int))=true:=h;simp only[beq_iff_eq]at h;omega
  .intro h;show((es.length:Int)==(rs.length:Int))=true;simp only[beq_iff_eq];omega
def zy2(es:zkw)(n:zg):Bool:=zds .str n es
