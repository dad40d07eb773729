/- tape.start: a builder that begins with a tape. -/
import Derived.Test.YthbgbmdmimejiaaGreatDoorJJa
import Derived.Shelf.Spec.SlicesGrow
set_option linter.all false
open And renaming intro->q9
open List renaming length_cons->q0,length_append->q7,length_nil->q8,take_length->qA,take_add_one->qB,mem_of_getElem?->qE,length_take->qF,length_map->qG
open Nat renaming zero_le->qC,le_refl->qD,zero_add->qH
open Go.Builtin renaming zeroCells->qI
namespace Go.Proofs.YthbgbmdmimejiaaGreatDoor
open Go Go.Sx
set_option maxRecDepth 100000
set_option maxHeartbeats 8000000
def TK:Tab:= {T2 with of:=80::T2.of,nb:=(78,1)::(79,1)::T2.nb}
theorem hTK:TabOK Tryz.prog TK:=zqw qdv key3 Z Z
theorem k78(l:List TOp)(hl:l.length<=1000000):Fn 78 [] [.sl .op l] (.own 2000000) [(2000000,.buf 75 .op l)]:=by
 by_cases h0:l= []
 .subst h0;refine fnT hTK hmx Tryz.func78 rfl rfl (ex:= [7]) ?_;conv=>whnf
  refine⟨fun h=>?_,fun _=>?_⟩
  .conv=>whnf
   exact⟨trivial,lh1 ⟨rfl,rfl⟩ lh0⟩
  .conv=>whnf
   refine⟨OC,?_⟩;conv=>whnf
   exact⟨lr rfl,lh1 (bb0 OC) lh0⟩
 .refine fnT hTK hmx Tryz.func78 rfl rfl (ex:= [7]) ?_;conv=>whnf
  refine⟨fun h=>absurd h h0,fun _=>?_⟩;conv=>whnf
  refine⟨OE,?_⟩;conv=>whnf
  exact⟨lr rfl,lh1 (bb0 OC) lh0⟩
theorem k79(l:List Int)(hl:l.length<=1000000):Fn 79 [] [.sl .int l] (.own 2000000) [(2000000,.buf 3 .int l)]:=by
 by_cases h0:l= []
 .subst h0;refine fnT hTK hmx Tryz.func79 rfl rfl (ex:= [7]) ?_;conv=>whnf
  refine⟨fun h=>?_,fun _=>?_⟩
  .conv=>whnf
   exact⟨trivial,lh1 ⟨rfl,rfl⟩ lh0⟩
  .conv=>whnf
   refine⟨OC,?_⟩;conv=>whnf
   exact⟨lr rfl,lh1 (bb0 OC) lh0⟩
 .refine fnT hTK hmx Tryz.func79 rfl rfl (ex:= [7]) ?_;conv=>whnf
  refine⟨fun h=>absurd h h0,fun _=>?_⟩;conv=>whnf
  refine⟨OE,?_⟩;conv=>whnf
  exact⟨lr rfl,lh1 (bb0 OC) lh0⟩
theorem k80(m:List TOp):Fn 80 [(1000001,.buf 75 .op m)] [.own 1000001] (.fn 120 [.ptr 2000000 0]) [(1000001,.buf 75 .op m),(2000000,.cells [.own 1000001])]:=by
 refine fnT hTK hmx Tryz.func80 rfl rfl (ex:= [1]) ?_;conv=>whnf
 exact⟨lr rfl,lh1 (bb0 rfl) (lh1 (bc0 (lc (lr rfl) ln0)) lh0)⟩
abbrev H120(J:List (TOp×Int)->GJ)(ops:List TOp)(m:List (TOp×Int)):Hp:= [(qc,.gst (J m)),(1000001,.cells [.own 1000002]),(1000002,.buf 75 .op ops)]
theorem k120(n:Int)(hn:0<=n/\n<=1000)(ops:List TOp)(hl:ops.length<=1000000)(l:Nat)(J:List (TOp×Int)->GJ)
 (h:∀m(y:Int×TOp),True->zuk Tryz.prog l [(qc,.gst (J m))] [.int .i64 y.1,.agg (Elt.op.cells y.2)] (.bool true) [(qc,.gst (J (zed .op y.2 (IntKind.i64.wrap (n+y.1)) m)))]):
 Fn 120 (H120 J ops []) [.cb l,.ptr 1000001 0] (.tup []) (H120 J ops (bkS ops n)):=by
 refine fnT hTK hmx Tryz.func120 rfl rfl (ex:= []) ?_;conv=>whnf
 refine⟨Int,fun v=> -1<=v/\v<ops.length,fun v=> [(3,.int .i64 v)],fun v=> [(qc,.gst (J (bkS (ops.drop (v+1).toNat) (n+(v+1)))))],fun v=>(v+1).toNat,(ops.length:Int)-1,⟨O,O⟩,?_,fun v hv=>?_⟩
 ·((conv=>whnf);refine q9 ?_ ?_;repeat' first|refine lc ?_ ?_|refine lh1 ?_ ?_|refine bc0 ?_|exact KXZ|refine lg0 ?_|refine lt0 ?_)
  .exact ai0 (by rw[wI O])
  .refine bg0 ?_;rw[show((ops.length:Int)-1+1).toNat =ops.length by omega,List.drop_length];rfl
 refine gYe ?_;have hv: -1<=v/\v<ops.length:=hv;refine brI (fun h1=>?_) (fun h1=>?_)
 .conv=>whnf
  have h1:0<=v:=by simpa using h1
  refine⟨⟨O,O⟩,?_⟩;conv=>whnf
  refine⟨O,fun x hx=>?_⟩;have hx:ops[v.toNat]? =some x:=hx;conv=>whnf
  refine⟨[.gst (J (zed .op x (IntKind.i64.wrap (n+v)) (bkS (ops.drop (v+1).toNat) (n+(v+1)))))],.bool true,h _ (v,x) trivial,?_⟩;conv=>whnf
  refine⟨v-1,⟨O,O⟩,by show(v-1+1).toNat <(v+1).toNat;omega,?_⟩
  ((conv=>whnf);refine q9 ?_ ?_;repeat' first|refine lc ?_ ?_|refine lh1 ?_ ?_|refine bc0 ?_|exact KXZ|refine lg0 ?_|refine lt0 ?_)
  .exact ai0 (by rw[wI O])
  .refine bg0 ?_;rw[show(v-1+1).toNat =v.toNat by omega,va hx,bkS,wI O,show(v+1).toNat =v.toNat+1 by omega,(O:v-1+1=v),(O:n+v+1=n+(v+1))]
 .conv=>whnf
  have h1:¬0<=v:=by simpa using h1
  obtain rfl:v= -1:=O;refine⟨lr rfl,lh1 (bg0 ?_) (lh1 (bc0 (lc (lr rfl) ln0)) (lh1 (bb0 rfl) lh0))⟩;simp
noncomputable def qey:Code:=Tryz.f39.body.getD .skip
theorem k39(n:Int)(hn:0<=n/\n<=1000)(ops:List TOp)(outs:List Int)(hl:ops.length<=1000000)(hu:outs.length<=1000000):
 Fn 39 [] [.agg [.int .i64 n,.sl .op ops,.sl .int outs]] (.ptr 2000000 0) (bH 2000000 2000001 2000002 2000003 n ops outs (bkS ops n)):=by
 refine vu (code:=qey) hTK hmx Tryz.func39 rfl rfl (ex:= [17,10,13,15]) ?_;conv=>whnf
 refine jf hTK hmx 2 (fun _:Unit=>⟨[.any,.ptr 1 0,.any,.ptr 3 0]++zbh 32,[(1,.cells [.int .i64 n,.sl .op ops,.sl .int outs]),(10,.buf 75 .op ops),(13,.buf 3 .int outs),(15,.map .op .int []),(17,.cells [.int .i64 n,.own 10,.own 13,.mp 15]),(3,.cells [.ptr 17 0]),(23,.free)]⟩) (fun _=>Z) ?_ (fun _=>?_)
 .conv=>whnf
  refine⟨[],[.buf 75 .op ops],.own 2000000,k78 ops hl,?_⟩;conv=>whnf
  refine⟨[],[.buf 3 .int outs],.own 2000000,k79 outs hu,?_⟩;conv=>whnf
  refine gYd ?_;refine⟨(),?_⟩;exact KZ0
 refine zpm hTK hmx ⟨[.any,.ptr 1 0,.any,.ptr 3 0]++zbh 19++ [.fn 120 [.ptr 23 0]]++zbh 12,[(1,.cells [.int .i64 n,.sl .op ops,.sl .int outs]),(10,.buf 75 .op ops),(13,.buf 3 .int outs),(15,.map .op .int []),(17,.cells [.int .i64 n,.own 10,.own 13,.mp 15]),(3,.cells [.ptr 17 0]),(23,.cells [.own 10])]⟩ Z ?_ (g:=120) (caps:= [.ptr 23 0]) rfl
  (is:= [1,3,17,15]) (os:= [10,13]) (ic:= [23,10]) (X:=List (TOp×Int)) (Y:=Int×TOp) (hb:=fun m=> [.cells [.int .i64 n,.sl .op ops,.sl .int outs],.cells [.ptr 17 0],.cells [.int .i64 n,.own 10,.own 13,.mp 15],.map .op .int m])
  (args:=fun y=> [.int .i64 y.1,.agg (Elt.op.cells y.2)]) (next:=fun m y=>zed .op y.2 (IntKind.i64.wrap (n+y.1)) m) (x₀:= []) (xE:=bkS ops n) (r:=.tup []) (ib:= [.cells [.own 10],.buf 75 .op ops]) rfl Z (fun _=>⟨rfl,rfl⟩) (fun _=>rfl) (fun _=>True) ?_ ?_ ?_
 .conv=>whnf
  refine⟨[.buf 75 .op ops],[.cells [.own 10]],.fn 120 [.ptr 2000000 0],(k80 ops).sw [(10,1000001)] rfl,?_⟩;conv=>whnf
  exact KZ0
 .intro l J h;exact(k120 n hn ops hl l J h).sw [(23,1000001),(10,1000002)] rfl
 .intro g m y _;conv=>whnf
  refine gYd ?_;refine⟨?_,?_,?_,?_,lh0⟩
  .exact bc0 (lc (lr rfl) (lc (lr rfl) (lc (lr rfl) ln0)))
  .exact bc0 (lc (lr rfl) ln0)
  .exact bc0 (lc (lr rfl) (lc rfl (lc rfl (lc (lr rfl) ln0))))
  .exact bm0 rfl
 .refine jt hTK hmx ?_;conv=>whnf
  exact⟨lr rfl,lh1 (bc0 (lc (lr rfl) (lc (lr rfl) (lc (lr rfl) (lc (lr rfl) ln0))))) (lh1 (bb0 rfl) (lh1 (bb0 rfl) (lh1 (bm0 rfl) lh0)))⟩
noncomputable def zty:Code:=Tryz.f11.body.getD .skip
theorem zn2(ins:Int)(o:TOp):∀(l:List TOp)(t:List Int)(st:BS),jnO ins (l++ [o]) t st=((jnO ins l t st).1++ [(zdu ins (rnO (jnO ins l t st).1 o) (jnO ins l t st).2).1],(zdu ins (rnO (jnO ins l t st).1 o) (jnO ins l t st).2).2)
 | [],t,st=>by simp[jnO]
 |x::l,t,st=>by simp only[List.cons_append,jnO,zn2 ins o l]
theorem zs2(ins:Int):∀(l:List TOp)(t:List Int)(st:BS),(jnO ins l t st).1.length =t.length+l.length/\(jnO ins l t st).2.1.length <=st.1.length+l.length
 | [],t,st=>by simp[jnO]
 |x::l,t,st=>by
  have h:=zs2 ins l (t++ [(zdu ins (rnO t x) st).1]) (zdu ins (rnO t x) st).2;have h2:=zr1 ins (rnO t x) st;simp only[q7,q0,q8]at h;simp only[jnO,q0];omega
theorem zod{l:List Int}{k:Int}(h0:0<=k)(h:k<l.length):l[k.toNat]? =some (gA l k):=by
 unfold gA;rw[List.getElem?_eq_getElem O];rfl
theorem zwt(i:Nat):atN (i+1)=atN i++ [(i:Int)]:=by
 unfold atN;rw[List.range_succ];simp
theorem k11(a b:Tp)(a1:a.ops.length<9223372036854775808)(a2:a.outs.length<9223372036854775808)(b1:b.ops.length<9223372036854775808)(b2:b.outs.length<9223372036854775808):
 Fn 11 [] [.agg (tpC a),.agg (tpC b)] (cpV (jnE a b)) []:=by
 obtain⟨A,hA⟩:∃A,jnE a b=A:=⟨_,rfl⟩;rw[hA];unfold jnE at hA;refine vu (code:=zty) hTK hmx Tryz.func11 rfl rfl (ex:= []) ?_;conv=>whnf
 refine jf hTK hmx 4 (fun _:PLift (tvB a=true/\tvB b=true/\a.ins=b.ins)=>⟨[.any,.any,.any,.ptr 3 0,.ptr 4 0,.any,.ptr 31 0,.own 40]++zbh 97,
  [(2,.cells (tpC a)),(3,.cells (tpC b)),(4,.cells [.int .i64 0,.nilsl,.nilsl]),(31,.cells [.int .i64 a.ins,.own 100031,.own 200031,.mp 300031]),(100031,.buf 75 .op a.ops),(200031,.buf 3 .int a.outs),(300031,.map .op .int (bkS a.ops a.ins)),(40,.buf 3 .int []),(100040,.free),(1500040,.free),(10,.free),(73,.free),(100073,.free),(1500073,.free),(93,.free),(100093,.free),(1500093,.free)]⟩) (fun _=>Z) ?_ (fun hx=>?_)
 .conv=>whnf
  refine cbI [] (tvB a) (f41 a a1 a2) (fun h1=>?_) (fun h1=>?_)
  rotate_left
  .rw[Z4 (fun h=>by rw[h1]at h;cases h.1)]at hA;subst hA;conv=>whnf
   exact⟨lt0 (lc (lg0 (lc (lr rfl) (lc (li0 rfl) (lc (li0 rfl) ln0)))) (lc (lr rfl) ln0)),lh0⟩
  conv=>whnf
  refine cbI [] (tvB b) (f41 b b1 b2) (fun h2=>?_) (fun h2=>?_)
  rotate_left
  .rw[Z4 (fun h=>by rw[h2]at h;cases h.2.1)]at hA;subst hA;conv=>whnf
   exact⟨lt0 (lc (lg0 (lc (lr rfl) (lc (li0 rfl) (lc (li0 rfl) ln0)))) (lc (lr rfl) ln0)),lh0⟩
  conv=>whnf
  refine brI (fun h3=>?_) (fun h3=>?_)
  .rw[Z4 (fun h=>by rw[h.2.2]at h3;simp at h3)]at hA;subst hA;conv=>whnf
   exact⟨lt0 (lc (lg0 (lc (lr rfl) (lc (li0 rfl) (lc (li0 rfl) ln0)))) (lc (lr rfl) ln0)),lh0⟩
  have h3:a.ins=b.ins:=by simpa using h3
  obtain⟨hn,_⟩:=wv h1;conv=>whnf
  refine⟨[],zdj (bH 2000000 2000001 2000002 2000003 a.ins a.ops a.outs (bkS a.ops a.ins)),.ptr 2000000 0,k39 a.ins ⟨hn.1,O⟩ a.ops a.outs O O,?_⟩;conv=>whnf
  refine⟨⟨h1,h2,h3⟩,?_⟩;exact KZ0
 .obtain⟨⟨h1,h2,h3⟩⟩:=hx;obtain⟨⟨p1,p2,p3,p4⟩,p5,p6⟩:=wv h1;obtain⟨⟨q1,q2,q3,q4⟩,q5,q6⟩:=wv h2;obtain⟨m,hm⟩:∃m:Nat,b.ins=m:=⟨b.ins.toNat,O⟩;simp only[tpC];rw[hm];refine jf hTK hmx 1 (fun _:Unit=>⟨[.any,.any,.any,.ptr 3 0,.ptr 4 0,.any,.ptr 31 0,.own 40]++zbh 97,
   [(2,.cells (tpC a)),(3,.cells [.int .i64 m,.sl .op b.ops,.sl .int b.outs]),(4,.cells [.int .i64 0,.nilsl,.nilsl]),(31,.cells [.int .i64 a.ins,.own 100031,.own 200031,.mp 300031]),(100031,.buf 75 .op a.ops),(200031,.buf 3 .int a.outs),(300031,.map .op .int (bkS a.ops a.ins)),(40,.buf 3 .int (atN m)),(100040,.free),(1500040,.free),(10,.free),(73,.dead),(100073,.free),(1500073,.free),(93,.free),(100093,.free),(1500093,.free)]⟩) (fun _=>Z) ?_ (fun _=>?_)
  .conv=>whnf
   refine⟨Nat,fun i=>i<=m,fun i=> [(34,.int .i64 i),(7,.own 40)],fun i=> [(40,.buf 3 .int (atN i))],fun i=>m-i,0,O,?_,fun i hi=>?_⟩
   .exact KZ0
   refine gYe ?_;have hi:i<=m:=hi;refine brI (fun h7=>?_) (fun h7=>?_)
   .conv=>whnf
    have hi:i<m:=by simp only[Z2]at h7;omega
    refine⟨by simp only[atN,qG,List.length_range,q0,q8];omega,?_⟩;conv=>whnf
    refine⟨i+1,by show i+1<=m;omega,by show m-(i+1)<m-i;omega,?_⟩
    ((conv=>whnf);refine q9 ?_ ?_;repeat' first|refine lc ?_ ?_|refine lh1 ?_ ?_|refine bc0 ?_|exact KXZ|refine lg0 ?_|refine lt0 ?_)
    .exact ai0 (by rw[wI O];omega)
    .exact bb0 (zwt i).symm
   .conv=>whnf
    have hi:i=m:=by simp only[Z3]at h7;omega
    subst hi;refine⟨(),?_⟩;exact KZ0
  refine zae 73 40 Z ?_;show SemOK Tryz.prog TK Tryz.f11.results.toList [] (cpV A) [] (zd1 1 (zd1 4 zty)) ⟨[.any,.any,.any,.ptr 3 0,.ptr 4 0,.any,.ptr 31 0,.own 73]++zbh 97,
   [(2,.cells (tpC a)),(3,.cells [.int .i64 m,.sl .op b.ops,.sl .int b.outs]),(4,.cells [.int .i64 0,.nilsl,.nilsl]),(31,.cells [.int .i64 a.ins,.own 100031,.own 200031,.mp 300031]),(100031,.buf 75 .op a.ops),(200031,.buf 3 .int a.outs),(300031,.map .op .int (bkS a.ops a.ins)),(73,.buf 3 .int (atN m)),(100040,.free),(1500040,.free),(10,.free),(40,.dead),(100073,.free),(1500073,.free),(93,.free),(100093,.free),(1500093,.free)]⟩
  conv=>whnf
  obtain⟨J,hJ⟩:∃J:Nat->List Int×BS,J=fun i=>jnO a.ins (b.ops.take i) (atN m) (a.ops,bkS a.ops a.ins):=⟨_,rfl⟩
  have J0:J 0=(atN m,a.ops,bkS a.ops a.ins):=by rw[hJ];rfl
  have Jn:J b.ops.length=jnS a b:=by rw[hJ];simp only[qA];unfold jnS;rw[hm];rfl
  have Js:∀i o,b.ops[i]? =some o->J (i+1)=((J i).1++ [(zdu a.ins (rnO (J i).1 o) (J i).2).1],(zdu a.ins (rnO (J i).1 o) (J i).2).2):=fun i o h=>by
   rw[hJ];simp only;rw[qB,h,Option.toList_some,zn2]
  have Jl:∀i,i<=b.ops.length->(J i).1.length =m+i/\(J i).2.1.length <=200+i:=fun i h=>by
   have:=zs2 a.ins (b.ops.take i) (atN m) (a.ops,bkS a.ops a.ins);rw[qF,show(atN m).length =m by simp[atN]]at this;rw[hJ];simp only at this⊢;omega
  clear hJ;refine zy4 (m:=fun K=>∃_:Unit,leS K ⟨[.any,.any,.any,.ptr 3 0,.ptr 4 0,.any,.ptr 31 0,.own 73]++zbh 97,
   [(2,.cells (tpC a)),(3,.cells [.int .i64 m,.sl .op b.ops,.sl .int b.outs]),(4,.cells [.int .i64 0,.nilsl,.nilsl]),(31,.cells [.int .i64 a.ins,.own 100031,.own 200031,.mp 300031]),(100031,.buf 75 .op (jnS a b).2.1),(200031,.buf 3 .int a.outs),(300031,.map .op .int (jnS a b).2.2),(73,.buf 3 .int (jnS a b).1),(100040,.free),(1500040,.free),(10,.free),(40,.dead),(100073,.free),(1500073,.free),(93,.dead),(100093,.free),(1500093,.free)]⟩) (zk0 hTK hmx [18] _ _ _ _ _ ?_) (fun K hτ=>?_)
  .conv=>whnf
   refine⟨Nat,fun i=>i<=b.ops.length,fun i=> [(45,.int .i64 i),(7,.own 73)],fun i=> [(73,.buf 3 .int (J i).1),(100031,.buf 75 .op (J i).2.1),(300031,.map .op .int (J i).2.2)],fun i=>b.ops.length-i,0,qC _,?_,fun i hi=>?_⟩
   ·((conv=>whnf);refine q9 ?_ ?_;repeat' first|refine lc ?_ ?_|refine lh1 ?_ ?_|refine bc0 ?_|exact KXZ|refine lg0 ?_|refine lt0 ?_)
    .exact bb0 (by rw[J0])
    .exact bm0 (by rw[J0])
    .exact bb0 (by rw[J0])
   refine gYe ?_;have hi:i<=b.ops.length:=hi;refine brI (fun h7=>?_) (fun h7=>?_)
   .conv=>whnf
    have hi:i<b.ops.length:=by simp only[Z2]at h7;omega
    refine⟨⟨O,O⟩,fun(o:TOp)ho=>?_⟩;have ho:b.ops[i]? =some o:=by simpa using ho
    have hb:=zc1 q5 ho;have hs:=Js i o ho;have hl:=Jl i O;have h40:=f129 o.k;have h41:=(f141 a.ins a.outs (rnO (J i).1 o) (J i).2 p1 O O).sw [(31,1000001),(100031,1700002),(200031,1000003),(300031,1000004)] rfl;generalize J i=V at*;obtain⟨at1,ops1,map1⟩:=V;simp only at hs hl h41⊢;obtain⟨Q,hQ⟩:∃Q,zdu a.ins (rnO at1 o) (ops1,map1)=Q:=⟨_,rfl⟩;rw[hQ]at hs h41;obtain⟨z,S2⟩:=Q;unfold rnO at h41;rcases ze8 hb with k1|⟨k1,k2,k3⟩|⟨k1,⟨k2,k3⟩,k4,k5⟩
    .rw[k1]at h40 h41;conv=>whnf
     refine gYn h40 ?_;refine zct 73 100073 ?_;refine wt hTK 3 ?_;conv=>whnf
     refine⟨41,[31,100031,200031,300031],[100031],zdj (bH 31 100031 200031 300031 a.ins S2.1 a.outs S2.2),.int .i64 z,rfl,Z,h41,?_⟩;conv=>whnf
     refine⟨by simp only[q0,q8];omega,?_⟩;conv=>whnf
     refine⟨Z,?_⟩;conv=>whnf
     refine⟨i+1,O,by show b.ops.length-(i+1)<b.ops.length-i;omega,?_⟩
     ((conv=>whnf);refine q9 ?_ ?_;repeat' first|refine lc ?_ ?_|refine lh1 ?_ ?_|refine bc0 ?_|exact KXZ|refine lg0 ?_|refine lt0 ?_)
     .exact ai0 (by rw[wI O];omega)
     .exact bb0 (by rw[hs])
     .exact bm0 (by rw[hs])
     .exact bb0 (by rw[hs])
    .rw[k1]at h40 h41;have ga:=zod (l:=at1) k2 O;conv=>whnf
     refine gYn h40 ?_;refine⟨⟨O,O⟩,?_⟩;conv=>whnf
     refine⟨O,fun(A':Int)hA'=>?_⟩;obtain rfl:gA at1 o.a=A':=by
      have hA':at1[o.a.toNat]? =some A':=hA';rw[ga]at hA';exact Option.some.inj hA'
     conv=>whnf
     refine zct 73 100073 ?_;refine wt hTK 3 ?_;conv=>whnf
     refine⟨41,[31,100031,200031,300031],[100031],zdj (bH 31 100031 200031 300031 a.ins S2.1 a.outs S2.2),.int .i64 z,rfl,Z,h41,?_⟩;conv=>whnf
     refine⟨by simp only[q0,q8];omega,?_⟩;conv=>whnf
     refine⟨Z,?_⟩;conv=>whnf
     refine⟨i+1,O,by show b.ops.length-(i+1)<b.ops.length-i;omega,?_⟩
     ((conv=>whnf);refine q9 ?_ ?_;repeat' first|refine lc ?_ ?_|refine lh1 ?_ ?_|refine bc0 ?_|exact KXZ|refine lg0 ?_|refine lt0 ?_)
     .exact ai0 (by rw[wI O];omega)
     .exact bb0 (by rw[hs])
     .exact bm0 (by rw[hs])
     .exact bb0 (by rw[hs])
    .rw[k1]at h40 h41;have ga:=zod (l:=at1) k2 O;have gb:=zod (l:=at1) k4 O;conv=>whnf
     refine gYn h40 ?_;refine⟨⟨O,O⟩,?_⟩;conv=>whnf
     refine⟨O,fun(A':Int)hA'=>?_⟩;obtain rfl:gA at1 o.a=A':=by
      have hA':at1[o.a.toNat]? =some A':=hA';rw[ga]at hA';exact Option.some.inj hA'
     conv=>whnf
     refine⟨⟨O,O⟩,?_⟩;conv=>whnf
     refine⟨O,fun(A':Int)hA'=>?_⟩;obtain rfl:gA at1 o.b=A':=by
      have hA':at1[o.b.toNat]? =some A':=hA';rw[gb]at hA';exact Option.some.inj hA'
     conv=>whnf
     refine zct 73 100073 ?_;refine wt hTK 3 ?_;conv=>whnf
     refine⟨41,[31,100031,200031,300031],[100031],zdj (bH 31 100031 200031 300031 a.ins S2.1 a.outs S2.2),.int .i64 z,rfl,Z,h41,?_⟩;conv=>whnf
     refine⟨by simp only[q0,q8];omega,?_⟩;conv=>whnf
     refine⟨Z,?_⟩;conv=>whnf
     refine⟨i+1,O,by show b.ops.length-(i+1)<b.ops.length-i;omega,?_⟩
     ((conv=>whnf);refine q9 ?_ ?_;repeat' first|refine lc ?_ ?_|refine lh1 ?_ ?_|refine bc0 ?_|exact KXZ|refine lg0 ?_|refine lt0 ?_)
     .exact ai0 (by rw[wI O];omega)
     .exact bb0 (by rw[hs])
     .exact bm0 (by rw[hs])
     .exact bb0 (by rw[hs])
   .conv=>whnf
    have hi:i=b.ops.length:=by simp only[Z3]at h7;omega
    subst hi;rw[Jn];refine⟨(),?_⟩;exact KZ0
  .obtain⟨_,hτ⟩:=hτ;refine qcr hτ Z ?_;refine zae 93 200031 Z ?_;have hA2:=hA;rw[Z5 (fun h=>h ⟨h1,h2,h3⟩)]at hA2;have hjl:=Jl b.ops.length (qD _);rw[Jn]at hjl;unfold jnT at hA2;generalize jnS a b=V at*;obtain⟨at1,ops1,map1⟩:=V;simp only at hA2 hjl;show SemOK Tryz.prog TK Tryz.f11.results.toList [] (cpV A) [] (zd1 2 (zd1 4 zty)) ⟨[.any,.any,.any,.ptr 3 0,.ptr 4 0,.any,.ptr 31 0,.own 73]++zbh 97,
    [(2,.cells (tpC a)),(3,.cells [.int .i64 m,.sl .op b.ops,.sl .int b.outs]),(4,.cells [.int .i64 0,.nilsl,.nilsl]),(31,.cells [.int .i64 a.ins,.own 100031,.own 93,.mp 300031]),(100031,.buf 75 .op ops1),(93,.buf 3 .int a.outs),(300031,.map .op .int map1),(73,.buf 3 .int at1),(100040,.free),(1500040,.free),(10,.free),(40,.dead),(100073,.free),(1500073,.free),(200031,.dead),(100093,.free),(1500093,.free)]⟩
   refine xf hTK hmx [25] ?_;conv=>whnf
   refine⟨Nat,fun i=>i<=b.outs.length,fun i=> [(78,.int .i64 i)],fun i=> [(93,.buf 3 .int (a.outs++(b.outs.take i).map (gA at1)))],fun i=>b.outs.length-i,0,qC _,?_,fun i hi=>?_⟩
   ·((conv=>whnf);refine q9 ?_ ?_;repeat' first|refine lc ?_ ?_|refine lh1 ?_ ?_|refine bc0 ?_|exact KXZ|refine lg0 ?_|refine lt0 ?_)
    exact bb0 OC
   refine gYe ?_;have hi:i<=b.outs.length:=hi;refine brI (fun h7=>?_) (fun h7=>?_)
   .conv=>whnf
    have hi:i<b.outs.length:=by simp only[Z2]at h7;omega
    refine⟨⟨O,O⟩,fun(k:Int)hk=>?_⟩;have hk:b.outs[i]? =some k:=by simpa using hk
    have hr:=q6 k (qE hk);have ga:=zod (l:=at1) hr.1 O;conv=>whnf
    refine⟨⟨hr.1,O⟩,?_⟩;conv=>whnf
    refine⟨O,fun(z:Int)hz=>?_⟩;obtain rfl:gA at1 k=z:=by
     have hz:at1[k.toNat]? =some z:=hz;rw[ga]at hz;exact Option.some.inj hz
    conv=>whnf
    refine⟨by simp only[q7,qG,qF,q0,q8];omega,?_⟩;conv=>whnf
    refine gYd ?_;refine⟨i+1,by show i+1<=b.outs.length;omega,by show b.outs.length-(i+1)<b.outs.length-i;omega,?_⟩
    ((conv=>whnf);refine q9 ?_ ?_;repeat' first|refine lc ?_ ?_|refine lh1 ?_ ?_|refine bc0 ?_|exact KXZ|refine lg0 ?_|refine lt0 ?_)
    .exact ai0 (by rw[wI O];omega)
    .exact bb0 (by rw[qB,hk];simp)
   .conv=>whnf
    have hi:i=b.outs.length:=by simp only[Z3]at h7;omega
    subst hi;rw[qA];generalize a.outs++b.outs.map (gA at1)=outs at*;have h42:=(f95 a.ins ops1 outs map1).sw [(31,1000001),(100031,1000002),(93,1000003),(300031,1000004)] rfl;by_cases h8:200<ops1.length\/200<outs.length
    .rw[Z4 h8]at hA2;subst hA2;rw[show(decide (200<ops1.length)||decide (200<outs.length))=true by simpa using h8]at h42;refine wt hTK 1 ?_;conv=>whnf
     refine⟨42,[31,100031,93,300031],[],zdj (bH 31 100031 93 300031 a.ins ops1 outs map1),.bool true,rfl,Z,h42,?_⟩;conv=>whnf
     exact⟨lt0 (lc (lg0 (lc (lr rfl) (lc (li0 rfl) (lc (li0 rfl) ln0)))) (lc (lr rfl) ln0)),lh0⟩
    .rw[Z5 h8]at hA2;subst hA2;rw[show(decide (200<ops1.length)||decide (200<outs.length))=false by simpa using h8]at h42;refine wt hTK 1 ?_;conv=>whnf
     refine⟨42,[31,100031,93,300031],[],zdj (bH 31 100031 93 300031 a.ins ops1 outs map1),.bool false,rfl,Z,h42,?_⟩;conv=>whnf
     exact⟨lr rfl,lh0⟩
def zl8:Go.Shelf.Ren:=⟨fun|4=>49|n=>n,fun|22=>28|25=>35|n=>n,fun|n=>n⟩
theorem zsy:Go.Proofs.Lays8.n4 Tryz.prog zl8 where
 mixed:=Z
 f4:=⟨Tryz.f49.name,Z,Tryz.func49.trans (congrArg some Z)⟩
 t0:=Tryz.underlying0
 a0:=Tryz.isAgg0
 z0:=Tryz.sizeOf0
 v0:=Tryz.zeroValue0
 t3:=Tryz.underlying3
 a3:=Tryz.isAgg3
 z3:=Tryz.sizeOf3
 v3:=Tryz.zeroValue3
 t4:=Tryz.underlying4
 a4:=Tryz.isAgg4
 z4:=Tryz.sizeOf4
 v4:=Tryz.zeroValue4
 t9:=Tryz.underlying9
 a9:=Tryz.isAgg9
 z9:=Tryz.sizeOf9
 v9:=Tryz.zeroValue9
 t20:=Tryz.underlying20
 a20:=Tryz.isAgg20
 z20:=Tryz.sizeOf20
 v20:=Tryz.zeroValue20
 t22:=Tryz.underlying28
 a22:=Tryz.isAgg28
 z22:=Tryz.sizeOf28
 v22:=Tryz.zeroValue28
theorem zt7{w w':World}{M:Nat->Prop}{pt:Nat->Option Nat}{ow:Nat->Option Value}{S:Nat->Prop}{e:TypeId}{k:Elt}{h:Value}(hc:Core M pt ow S [] w)(hos:w'.os=w.os)(htape:w'.tape=w.tape)(hout:w'.output=w.output)
 (hsz:w.heap.size<=w'.heap.size) (hsame:∀b,b<w.heap.size->w'.heap[b]? =w.heap[b]?) (hfr:∀b,vbl h=some b->w.heap.size<=b/\b<w'.heap.size) (hb:∀V,zao w' V e k [] h):
 Ans w M pt ow S (.own 2000000) [(2000000,.buf e k [])] (.returned h) w':=by
 let ow':Nat->Option Value:=fun i=>if i=2000000 then some h else none
 have hsl:=(hb (zj w' M)).slice;have hbl:∀i b,Sx.bl (fun _=>none) ow' i=some b->i=2000000/\vbl h=some b:=fun i b e=>by
  by_cases hi:i=2000000
  .refine⟨hi,?_⟩;subst hi;simp only[Sx.bl,ow',if_true]at e;obtain⟨a,n,c,rfl⟩:=hsl;cases a<;>exact e
  .simp only[Sx.bl,ow',Z5 hi]at e;cases e
 have hget2:∀i,hget [(2000000,.buf e k [])] i=if 2000000=i then .buf e k []else .dead :=fun i=>by rw[ze];rfl
 refine⟨h,fun b=>M b\/vbl h=some b,fun _=>none,ow',S,rfl,?_,?_,?_,?_⟩
 .exact {
   fresh:=fun b hb=>hb.elim (fun hb=>Nat.lt_of_lt_of_le (hc.fresh b hb) hsz) fun hb=>(hfr b hb).2
   mt:=fun i b e=>.inr (hbl i b e).2
   inj:=fun i k b e1 e2=>by rw[(hbl i b e1).1,(hbl k b e2).1]
   gm:=fun b hb=>.inl (hc.gm b hb)
   gd:=fun i b e hS=>by
    have h1:=(hfr b (hbl i b e).2).1;have h2:=hc.fresh b (hc.gm b hS);omega
   dpt:=fun i b e=>by cases e
   dow:=fun i x e=>by
    by_cases hi:i=2000000
    .subst hi;rw[hget2,Z4 rfl];rfl
    .simp only[ow',Z5 hi]at e;cases e
   blk:=fun i=>by
    rw[hget2];split
    .rename_i e;subst e;exact⟨h,by simp[ow'],hb _⟩
    .trivial}
 .intro i l b cs T hl hb';cases hb'
 .refine⟨hsl,fun x hx=>?_⟩;have:some h=some x:=by simpa[ow']using hx
  exact Option.some.inj this
 .exact {
   os:=hos,tape:=htape,output:=hout,size:=hsz
   same:=fun b hb _ _=>hsame b hb
   mm:=fun _ h=>.inl h,mn:=fun b h=>h.elim .inl fun h=>.inr (hfr b h).1,sn:=fun _ h=>.inl h,lept:=fun _ _ h=>by cases h
   leow:=fun i x hx=>by
    by_cases hi:i=2000000
    .have hx2:h=x:=by
      have:ow' i=some h:=by simp[ow',hi]
      rw[this]at hx;exact Option.some.inj hx
     subst hx2;exact .inr ⟨fun b hb=>.inl (hfr b hb).1,O⟩
    .simp only[ow',Z5 hi]at hx;cases hx}
theorem k49(n:Nat)(hn:n<=1000000):Fn 49 [] [.nilsl,.int .i64 n] (.own 2000000) [(2000000,.buf 35 .iv [])]:=by
 refine⟨⟨_,Tryz.func49,rfl,rfl⟩,fun w M pt ow S vs hc hk hv=>?_⟩
 match vs,hv with
 | [a,b],⟨ha,hb,_⟩=>
   obtain rfl:a=.slice none 0 0:=ha;obtain rfl:b=.int .i64 n:=hb;by_cases h0:n=0
   .subst h0;refine(Any8.slices_Grow_room zsy none 0 0 0 w (qD _) O O (qD _)).mono ?_;rintro e w' ⟨rfl,rfl⟩;exact zt7 hc rfl rfl rfl (qD _) (fun _ _=>rfl) (fun b hb=>by cases hb) fun V=>.inl ⟨rfl,rfl⟩
   .refine(Any8.slices_Grow_grow zsy Tryz.t35 _ Tryz.type35 rfl OA none 0 0 n [] w (qD _) O (by show(0+n)*88<=_;omega) O rfl (fun _=>rfl) (fun a h=>by cases h)).mono ?_;rintro e w' ⟨rfl,hw⟩;rw[qH,Nat.sub_zero]at hw;have hex:=Ext.alloc w.drew (.cells (#[]++qI (Value.cells (.agg #[.bool false,.slice none 0 0,.int .i64 0,.bool false,.slice none 0 0,.int .i64 0,.bool false])) n++qI (Value.cells (.agg #[.bool false,.slice none 0 0,.int .i64 0,.bool false,.slice none 0 0,.int .i64 0,.bool false])) (grownCap w n 0 35-n)) 35);have hw:w'=w.drew.alloc (.cells (#[]++qI (Value.cells (.agg #[.bool false,.slice none 0 0,.int .i64 0,.bool false,.slice none 0 0,.int .i64 0,.bool false])) n++qI (Value.cells (.agg #[.bool false,.slice none 0 0,.int .i64 0,.bool false,.slice none 0 0,.int .i64 0,.bool false])) (grownCap w n 0 35-n)) 35):=hw;rw[qH];show Ans w M pt ow S (.own 2000000) [(2000000,.buf 35 .iv [])] (.returned (.slice (some ⟨w.heap.size,0,none⟩) 0 (grownCap w n 0 35))) w';have hcap:=grownCap_ge w n 0 35;have hcm:=grownCap_le_maxLen w n 0 35 (by unfold maxLen;omega);rw[<-hw]at hex;have hsz:w'.heap.size=w.heap.size+1:=by rw[hw];simp
    refine zt7 hc hex.os hex.tape hex.output hex.size (fun b hb=>hex.block b hb) (fun b hb=>?_) fun V=>.inr ⟨w.heap.size,_,_,rfl,by rw[hw];exact heap_alloc_new w.drew _,qC _,hcm,?_,fun i x hx=>by simp at hx⟩
    .obtain rfl:w.heap.size=b:=by simpa[vbl]using hb
     omega
    .simp only[Array.size_append,size_zeroCells];show 0+n*7+(grownCap w n 0 35-n)*7=grownCap w n 0 35*7;omega
def TC:Tab:= {TJ with nb:=(49,1)::TJ.nb}
theorem hTC:TabOK Tryz.prog TC:=ze7 Z Z
noncomputable def zx6:Code:=Tryz.f15.body.getD .skip
theorem k15(L:List (List Iv))(hL:L.flatten.length<=1000000)(hl:L.length<=1000):Fn 15 [] [.sl .vs L] (.sl .iv L.flatten) []:=by
 have hle:∀i,(L.take i).flatten.length <=L.flatten.length:=fun i=>by
  have h:L.flatten=(L.take i).flatten ++(L.drop i).flatten :=by rw[<-List.flatten_append,List.take_append_drop]
  rw[h,q7];omega
 have hst:∀i(x:List Iv),L[i]? =some x->(L.take (i+1)).flatten =(L.take i).flatten ++x:=fun i x h=>by
  rw[qB,h];simp
 refine vu (code:=zx6) hTC hmx Tryz.func15 rfl rfl (ex:= []) ?_;conv=>whnf
 refine jf hTC hmx 3 (fun _:Unit=>⟨[.sl .vs L,.any,.any,.int .i64 L.flatten.length]++zbh 32,[(24,.free),(33,.dead),(100033,.free),(1500033,.free)]⟩) (fun _=>Z) ?_ (fun _=>?_)
 .conv=>whnf
  refine⟨Nat,fun i=>i<=L.length,fun i=> [(11,.int .i64 i),(3,.int .i64 (L.take i).flatten.length)],fun _=> [],fun i=>L.length-i,0,qC _,?_,fun i hi=>?_⟩
  .exact KZ0
  refine gYe ?_;have hi:i<=L.length:=hi;refine brI (fun h7=>?_) (fun h7=>?_)
  .conv=>whnf
   have hi:i<L.length:=by simp only[Z2]at h7;omega
   refine⟨⟨O,O⟩,fun(x:List Iv)hx=>?_⟩;have hx:L[i]? =some x:=by simpa using hx
   have h1:=hst i x hx;have h2:=hle (i+1);have h3:(L.take (i+1)).flatten.length =(L.take i).flatten.length +x.length:=by rw[h1,q7]
   have h4:IntKind.i64.wrap (((L.take i).flatten.length :Int)+(x.length:Int))=((L.take (i+1)).flatten.length :Int):=by rw[wI O];omega
   conv=>whnf
   rw[h4];conv=>whnf
   refine⟨i+1,by show i+1<=L.length;omega,by show L.length-(i+1)<L.length-i;omega,?_⟩;exact KZ0
  .conv=>whnf
   have hi:i=L.length:=by simp only[Z3]at h7;omega
   subst hi;rw[qA];refine⟨(),?_⟩;exact KZ0
 refine jf hTC hmx 1 (fun _:Unit=>⟨[.sl .vs L,.any,.any,.any,.any,.any,.own 24]++zbh 29,[(24,.buf 35 .iv []),(33,.dead),(100033,.free),(1500033,.free)]⟩) (fun _=>Z) ?_ (fun _=>?_)
 .conv=>whnf
  refine⟨[],[.buf 35 .iv []],.own 2000000,k49 _ hL,?_⟩;conv=>whnf
  refine⟨(),?_⟩;exact KZ0
 refine zae 33 24 Z ?_;show SemOK Tryz.prog TC Tryz.f15.results.toList [] (.sl .iv L.flatten) [] (zd1 1 (zd1 3 zx6)) ⟨[.sl .vs L,.any,.any,.any,.any,.any,.own 33]++zbh 29,[(33,.buf 35 .iv []),(24,.dead),(100033,.free),(1500033,.free)]⟩;refine jt hTC hmx ?_;conv=>whnf
 refine⟨Nat,fun i=>i<=L.length,fun i=> [(27,.int .i64 i),(6,.own 33)],fun i=> [(33,.buf 35 .iv (L.take i).flatten)],fun i=>L.length-i,0,qC _,?_,fun i hi=>?_⟩
 .exact KZ0
 refine gYe ?_;have hi:i<=L.length:=hi;refine brI (fun h7=>?_) (fun h7=>?_)
 .conv=>whnf
  have hi:i<L.length:=by simp only[Z2]at h7;omega
  refine⟨⟨O,O⟩,fun(x:List Iv)hx=>?_⟩;have hx:L[i]? =some x:=by simpa using hx
  have h1:=hst i x hx;have h2:=hle (i+1);have h3:(L.take (i+1)).flatten.length =(L.take i).flatten.length +x.length:=by rw[h1,q7]
  conv=>whnf
  refine⟨O,?_⟩;conv=>whnf
  refine⟨i+1,by show i+1<=L.length;omega,by show L.length-(i+1)<L.length-i;omega,?_⟩;exact KZ0
 .conv=>whnf
  have hi:i=L.length:=by simp only[Z3]at h7;omega
  subst hi;rw[qA];exact⟨lr rfl,lh0⟩
theorem zie(t:Tp)(x:List Iv)(p:Int):(zgv t x p).length <=t.outs.length:=by
 unfold zgv;split<;>simp
theorem zy8{t:Tp}(ht:tvB t=true){x:List Iv}{p:Int}(hx:∀y∈x,RI y):∀y∈zgv t x p,RI y:=by
 obtain⟨⟨a1,a2,a3,a4⟩,a5,a6⟩:=wv ht;unfold zgv;split
 .rename_i h;intro y hy;obtain⟨k,hk,rfl⟩:=List.mem_map.1 hy;have hr:=a6 k hk;rw[<-h.2]at a5 hr;exact zuh a5 hx _ (qE (zhs hr.1 (by rw[zbj];omega)))
 .intro y hy;cases hy
noncomputable def body4:Code:=Tryz.f4.body.getD .skip
theorem k4r(a b:Tp)(x:List Iv)(p:Int)(a1:a.ops.length<9223372036854775808)(a2:a.outs.length<9223372036854775808)(b1:b.ops.length<9223372036854775808)(b2:b.outs.length<9223372036854775808)
 (hx:∀y∈x,RI y) (hxl:x.length<9223372036854775808):Fn 4 G0 [.agg (tpC a),.agg (tpC b),.sl .iv x,.int .i64 p] (.bool true) G0:=by
 have h11:=k11 a b a1 a2 b1 b2;obtain⟨t,e,hA⟩:∃t e,jnE a b=(t,e):=⟨_,_,rfl⟩;rw[hA]at h11;refine vu (code:=body4) hTC hmx Tryz.func4 rfl rfl (ex:= []) ?_;conv=>whnf
 refine jf hTC hmx 3 (fun _:Unit=>⟨[.any,.any,.sl .iv x,.int .i64 p,.ptr 4 0,.ptr 5 0]++zbh 68,[(4,.cells (tpC a)),(5,.cells (tpC b)),(9,.free),(qc,.gst JT)]⟩) (fun _=>Z) ?_ (fun _=>?_)
 .conv=>whnf
  refine gYn f40 ?_
  repeat' first
   |(refine brI (fun h=>?_) (fun h=>?_)<;>(conv=>whnf))
   |exact⟨lr rfl,leG⟩
   |refine⟨(),?_⟩
   |fail
  all_goals ((conv=>whnf);refine q9 ?_ ?_;repeat' first|refine lc ?_ ?_|exact la0|exact lr rfl|exact ln0|refine lh1 ?_ ?_|exact lh0|exact bf0|exact bd0|refine bc0 ?_|exact bm0 rfl|exact bb0 rfl|exact bg0 rfl|exact li0 rfl|refine lg0 ?_|refine lt0 ?_|fail)
 by_cases he:e=0
 rotate_left
 .have ht:=zv2 (a:=a) (b:=b) (by rw[hA];exact he);rw[hA]at ht;have ht:t=tp0:=ht;subst ht;clear hA;refine jt hTC hmx ?_;conv=>whnf
  refine gYn h11 ?_;refine brI (fun _=>?_) (fun c=>?_)
  .conv=>whnf
   exact⟨lr rfl,leG⟩
  .have c:(e != 0)=false:=c;exact absurd (by simpa using c) he
 subst he;obtain⟨v1,v2,v3,_,_⟩:=zhg hA;have hlaw:=zpx hA x p;obtain⟨⟨_,_,t3,t4⟩,_,_⟩:=wv v1;obtain⟨⟨_,_,_,a4⟩,_,_⟩:=wv v2;obtain⟨⟨_,_,_,b4⟩,_,_⟩:=wv v3;have la:=zie a x p;have lb:=zie b x p;have lt:=zie t x p;have h12:=f41 t O O;rw[v1]at h12;have ht:=j8 t x p O O hx hxl;have ha:=j8 a x p a1 a2 hx hxl;have hb:=j8 b x p b1 b2 hx hxl;have h15:=k15 [zgv a x p,zgv b x p] OE OC;have e2: [zgv a x p,zgv b x p].flatten =zgv t x p:=by rw[hlaw];simp
 rw[e2]at h15;have h13:=j10 (zgv t x p) (zy8 v1 hx) O;clear hlaw e2 hA;refine jt hTC hmx ?_;conv=>whnf
 refine gYn h11 ?_;refine gYn h12 ?_;refine gYc ht ?_;refine gYc ha ?_;refine gYc hb ?_;refine gYn h15 ?_;refine gYn h13 ?_;refine gYd ?_;exact⟨lr rfl,leG⟩
