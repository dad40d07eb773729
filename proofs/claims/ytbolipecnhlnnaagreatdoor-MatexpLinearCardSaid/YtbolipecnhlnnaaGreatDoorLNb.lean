/- matrix.Mul. -/
import Derived.Test.YtbolipecnhlnnaaGreatDoorLNa
set_option linter.all false
open And renaming intro->qE
open List renaming getElem?_eq_getElem->qA,mem_of_getElem?->qB,replicate->qC,getElem?_eq_some_iff->qD,getElem?_map->qF,drop_of_length_le->qG,range->qI,length_mapIdx->qJ,length_take->qK,length_set->qL
open Nat renaming zero_le->qH,beq->qM
open Go.Region renaming binds->qN
namespace Go.Proofs.YtbolipecnhlnnaaGreatDoor
open Go Go.Sx
set_option maxRecDepth 100000
set_option maxHeartbeats 8000000
theorem zjz(x y:Iv)(p:Int):RI (kf x y p):=(qbv x y p).ri
theorem znf(x y:Iv)(p:Int):RI (yp x y p):=(qbw x y p).ri
abbrev Hd(b:Mx)(j:Nat):Hp:= [(1000003,.cells [.sl .vs b]),(1000004,.cells [.int .i64 j])]
theorem n74(b:Mx)(j k:Nat){r:List Iv}{y:Iv}(hr:b[k]? =some r)(hy:r[j]? =some y):Fn 212 (Hd b j) [.int .i64 k,.ptr 1000003 0,.ptr 1000004 0] (.agg (ivC y)) (Hd b j):=by
 have h1:=(qD.1 hr).1;have h2:=(qD.1 hy).1;refine fZN Tryz.func212 rfl rfl ?_;conv=>whnf
 refine⟨⟨O,O⟩,fun(x:List Iv)hx=>?_⟩;obtain rfl:r=x:=by
  have hx:b[k]? =some x:=by simpa using hx
  rw[hr]at hx;exact Option.some.inj hx
 conv=>whnf
 refine⟨⟨O,O⟩,fun(z:Iv)hz=>?_⟩;obtain rfl:y=z:=by
  have hz:r[j]? =some z:=by simpa using hz
  rw[hy]at hz;exact Option.some.inj hz
 (refine⟨Z,Z,?_⟩;(conv=>whnf))
 exact⟨lr rfl,lh1 (zg rfl rfl) (lh1 (zg rfl rfl) lh0)⟩
theorem n73{K:GJ}(hK:zit K)(hM:zgf K)(b:Mx)(j:Nat)(row col:List Iv)(hl:1<=row.length/\row.length<=100)(hcl:row.length<=col.length)(hr:∀x∈row,RI x)(hy:∀x∈col,RI x)(p:Int)
 (hc:∀(k:Nat)(y:Iv),col[k]? =some y->Fn 212 [(1000003,.cells [.sl .vs b]),(1000004,.cells [.int .i64 j])] [.int .i64 k,.ptr 1000003 0,.ptr 1000004 0] (.agg (ivC y)) [(1000003,.cells [.sl .vs b]),(1000004,.cells [.int .i64 j])]):
 Fn 138 [(qa,.gst (zni JT K)),(1000003,.cells [.sl .vs b]),(1000004,.cells [.int .i64 j])] [.sl .iv row,.fn 212 [.ptr 1000003 0,.ptr 1000004 0],.int .i64 p] (.agg (ivC (dtM p row col))) [(qa,.gst (zni JT K)),(1000003,.cells [.sl .vs b]),(1000004,.cells [.int .i64 j])]:=by
 obtain⟨D,hD⟩:∃D,dtM p row col=D:=⟨_,rfl⟩;rw[hD];refine fZN Tryz.func138 rfl rfl ?_;conv=>whnf
 refine⟨⟨O,O⟩,fun(x:Iv)hx=>?_⟩;have hx:row[0]? =some x:=hx;obtain⟨y,hy0⟩:∃y,col[0]? =some y:=⟨_,qA O⟩;conv=>whnf
 refine⟨[.cells [.sl .vs b],.cells [.int .i64 j]],_,hc 0 y hy0,?_⟩;conv=>whnf
 refine⟨[.gst _],_,(i84 x y (hr x (qB hx)) (hy y (qB hy0)) p).lift yq hK hM,?_⟩
 (refine⟨Z,Z,?_⟩;(conv=>whnf))
 refine⟨Nat×Iv,fun z=>(1<=z.1/\z.1<=row.length)/\RI z.2/\dtG p (row.drop z.1) (col.drop z.1) z.2=D,fun z=> [(8,.int .i64 z.1)],fun z=> [(7,.cells (ivC z.2))],fun z=>row.length-z.1,(1,kf x y p),⟨OE,zjz x y p,?_⟩,?_,?_⟩
 .rw[<-hD]
  cases row with
  |nil=>simp at hx
  |cons x' row=>
   cases col with
   |nil=>simp at hy0
   |cons y' col=>simp at hx hy0;subst hx;subst hy0;rfl
 .exact KZ0
 rintro⟨k,z⟩ ⟨hk,hz,he⟩;have hk:1<=k/\k<=row.length:=hk;have hz:RI z:=hz;have he:dtG p (row.drop k) (col.drop k) z=D:=he
 (refine⟨Z,?_⟩;(conv=>whnf))
 refine brI (fun c=>?_) (fun c=>?_)
 .have c:k<row.length:=by have:=Z0 c;omega
  conv=>whnf
  refine⟨⟨O,O⟩,fun(x:Iv)hx=>?_⟩;have hx:row[k]? =some x:=by simpa using hx
  obtain⟨y,hyk⟩:∃y,col[k]? =some y:=⟨_,qA O⟩;rw[zu hx,zu hyk]at he;conv=>whnf
  refine⟨[.cells [.sl .vs b],.cells [.int .i64 j]],_,hc k y hyk,?_⟩;conv=>whnf
  refine⟨[.gst _],_,(i84 x y (hr x (qB hx)) (hy y (qB hyk)) p).lift yq hK hM,?_⟩;conv=>whnf
  refine⟨[.gst _],_,(i82 z (kf x y p) hz (zjz x y p) p).lift yq hK hM,?_⟩
  (refine⟨Z,Z,?_⟩;(conv=>whnf))
  refine⟨(k+1,yp z (kf x y p) p),⟨OE,znf _ _ _,he⟩,by show row.length-(k+1)<row.length-k;omega,?_⟩
  ((conv=>whnf);refine qE ?_ ?_;repeat' first|refine lc ?_ ?_|refine lh1 ?_ ?_|refine bc0 ?_|exact KXZ|refine lg0 ?_|refine lt0 ?_)
  .refine ai0 ?_;rw[wI O];show(k:Int)+1=((k+1:Nat):Int);omega
 .have c:k=row.length:=by have:=Z1 c;omega
  rw[qG O]at he;have he:z=D:=he;subst he;conv=>whnf
  exact⟨lr rfl,lh1 (bg0 rfl) (lh1 (zg rfl rfl) (lh1 (zg rfl rfl) (lh0)))⟩
theorem n73v(v:List Iv)(row col:List Iv)(hl:1<=row.length/\row.length<=100)(hcl:row.length<=col.length)(hr:∀x∈row,RI x)(hy:∀x∈col,RI x)(p:Int)
 (hc:∀(k:Nat)(y:Iv),col[k]? =some y->Fn 139 [(1000003,.cells [.sl .iv v])] [.int .i64 k,.ptr 1000003 0] (.agg (ivC y)) [(1000003,.cells [.sl .iv v])]):
 Fn 138 [(qa,.gst JT),(1000003,.cells [.sl .iv v])] [.sl .iv row,.fn 139 [.ptr 1000003 0],.int .i64 p] (.agg (ivC (dtM p row col))) [(qa,.gst JT),(1000003,.cells [.sl .iv v])]:=by
 obtain⟨D,hD⟩:∃D,dtM p row col=D:=⟨_,rfl⟩;rw[hD];refine fZN Tryz.func138 rfl rfl ?_;conv=>whnf
 refine⟨⟨O,O⟩,fun(x:Iv)hx=>?_⟩;have hx:row[0]? =some x:=hx;obtain⟨y,hy0⟩:∃y,col[0]? =some y:=⟨_,qA O⟩;conv=>whnf
 refine⟨[.cells [.sl .iv v]],_,hc 0 y hy0,?_⟩;conv=>whnf
 refine⟨[.gst _],_,(i84 x y (hr x (qB hx)) (hy y (qB hy0)) p),?_⟩
 (refine⟨Z,Z,?_⟩;(conv=>whnf))
 refine⟨Nat×Iv,fun z=>(1<=z.1/\z.1<=row.length)/\RI z.2/\dtG p (row.drop z.1) (col.drop z.1) z.2=D,fun z=> [(8,.int .i64 z.1)],fun z=> [(7,.cells (ivC z.2))],fun z=>row.length-z.1,(1,kf x y p),⟨OE,zjz x y p,?_⟩,?_,?_⟩
 .rw[<-hD]
  cases row with
  |nil=>simp at hx
  |cons x' row=>
   cases col with
   |nil=>simp at hy0
   |cons y' col=>simp at hx hy0;subst hx;subst hy0;rfl
 .exact KZ0
 rintro⟨k,z⟩ ⟨hk,hz,he⟩;have hk:1<=k/\k<=row.length:=hk;have hz:RI z:=hz;have he:dtG p (row.drop k) (col.drop k) z=D:=he
 (refine⟨Z,?_⟩;(conv=>whnf))
 refine brI (fun c=>?_) (fun c=>?_)
 .have c:k<row.length:=by have:=Z0 c;omega
  conv=>whnf
  refine⟨⟨O,O⟩,fun(x:Iv)hx=>?_⟩;have hx:row[k]? =some x:=by simpa using hx
  obtain⟨y,hyk⟩:∃y,col[k]? =some y:=⟨_,qA O⟩;rw[zu hx,zu hyk]at he;conv=>whnf
  refine⟨[.cells [.sl .iv v]],_,hc k y hyk,?_⟩;conv=>whnf
  refine⟨[.gst _],_,(i84 x y (hr x (qB hx)) (hy y (qB hyk)) p),?_⟩;conv=>whnf
  refine⟨[.gst _],_,(i82 z (kf x y p) hz (zjz x y p) p),?_⟩
  (refine⟨Z,Z,?_⟩;(conv=>whnf))
  refine⟨(k+1,yp z (kf x y p) p),⟨OE,znf _ _ _,he⟩,by show row.length-(k+1)<row.length-k;omega,?_⟩
  ((conv=>whnf);refine qE ?_ ?_;repeat' first|refine lc ?_ ?_|refine lh1 ?_ ?_|refine bc0 ?_|exact KXZ|refine lg0 ?_|refine lt0 ?_)
  .refine ai0 ?_;rw[wI O];show(k:Int)+1=((k+1:Nat):Int);omega
 .have c:k=row.length:=by have:=Z1 c;omega
  rw[qG O]at he;have he:z=D:=he;subst he;conv=>whnf
  exact⟨lr rfl,lh1 (bg0 rfl) (lh1 (zg rfl rfl) (lh0))⟩
noncomputable def oM:Array Oper:=zty 14 (Tryz.f132.body.getD .skip)
def SMb(a b:Mx)(ra:List Iv)(p:Int)(c n b0 i j:Nat)(hs:List Value)(rows:Mx)(hv:Value)(y:Iv)(rw0:List Iv)(h':Value)(q0 q1 q2 q3 q4 q5 q6 q7 q8 q9 q10 q11 q12 q13 q14 q15 q16:Bool):St:=
 ⟨[.sl .vs a,.any,.int .i64 p,.any,.ptr 4 0,.any,.nilsl,.int .i64 0,.val (.slice (some ⟨b0,0,none⟩) n n),.int .i64 i,.ptr 10 0,.any,.any,.any,.any,.any,.any,.any,.any,.any,.any,.any,.any,.any,.any,.any,.any,.any,.any,.any,.any,.any,.sl .vs a,.int .i64 n,.val (.slice (some ⟨b0,0,none⟩) n n),.sl .vs a,.int .i64 n,.int .i64 i,.any,.any,.any,.any,.any,.int .i64 c,.int .i64 j,.any,.any,(bif q0 then .val (.slice (some ⟨b0,0,none⟩) n n)else .any),(bif q1 then .int .i64 i else .any),(bif q2 then .val (.slice (some ⟨b0,0,none⟩) n n)else .any),(bif q3 then .int .i64 i else .any),(bif q4 then .val (.pointer (some ⟨b0,i,none⟩))else .any),(bif q5 then .val hv else .any),(bif q6 then .sl .vs a else .any),(bif q7 then .int .i64 i else .any),(bif q8 then .rp .vs ra 0 else .any),(bif q9 then .sl .iv ra else .any),(bif q10 then .fn 212 [.ptr 4 0,.ptr 10 0]else .any),(bif q11 then .int .i64 p else .any),(bif q12 then .agg (ivC y)else .any),(bif q13 then .sl .iv [y]else .any),(bif q14 then .val h' else .any),(bif q15 then .val (.pointer (some ⟨b0,i,none⟩))else .any),.any,.any,.any],
  [(4,.cells [.sl .vs b]),(34,.free),(10,.cells [.int .i64 j]),(61,.free),(100061,.free),(1500061,.free),(qa,.gst (bif q16 then vu JT 23 28 .iv b0 n (hs.set i h') (rows.set i (rw0++ [y])) none else bif q14 then vu JT 23 28 .iv b0 n hs rows (some (i,h',rw0++ [y]))else vu JT 23 28 .iv b0 n hs rows none))]⟩
def SM(a b:Mx)(ra:List Iv)(p:Int)(c n b0 i j:Nat)(hs:List Value)(rows:Mx)(hv:Value)(y:Iv)(rw0:List Iv)(L:Nat->Bool)(Q:St):Prop:=∃h':Value,Q=SMb a b ra p c n b0 i j hs rows hv y rw0 h' (L 0) (L 1) (L 2) (L 3) (L 4) (L 5) (L 6) (L 7) (L 8) (L 9) (L 10) (L 11) (L 12) (L 13) (L 14) (L 15) (L 16)
section
variable (a b:Mx) (ra:List Iv) (p:Int) (c n b0 i j:Nat) (hs:List Value) (rows:Mx) (hv:Value) (y:Iv) (rw0:List Iv) (h':Value) (L:Nat->Bool)
theorem Mo0:∀o,oM[0]? =some o->OpT Tryz.prog o (SMb a b ra p c n b0 i j hs rows hv y rw0 h' false (L 1) (L 2) (L 3) (L 4) (L 5) (L 6) (L 7) (L 8) (L 9) (L 10) (L 11) (L 12) (L 13) (L 14) (L 15) (L 16)) (SMb a b ra p c n b0 i j hs rows hv y rw0 h' true (L 1) (L 2) (L 3) (L 4) (L 5) (L 6) (L 7) (L 8) (L 9) (L 10) (L 11) (L 12) (L 13) (L 14) (L 15) (L 16)):=by
 intro o ho;have ho:some _=some o:=ho;cases ho
 refine qc hTN rfl ?_;conv=>whnf
 exact rfl
theorem Mo1:∀o,oM[1]? =some o->OpT Tryz.prog o (SMb a b ra p c n b0 i j hs rows hv y rw0 h' (L 0) false (L 2) (L 3) (L 4) (L 5) (L 6) (L 7) (L 8) (L 9) (L 10) (L 11) (L 12) (L 13) (L 14) (L 15) (L 16)) (SMb a b ra p c n b0 i j hs rows hv y rw0 h' (L 0) true (L 2) (L 3) (L 4) (L 5) (L 6) (L 7) (L 8) (L 9) (L 10) (L 11) (L 12) (L 13) (L 14) (L 15) (L 16)):=by
 intro o ho;have ho:some _=some o:=ho;cases ho
 refine qc hTN rfl ?_;conv=>whnf
 exact rfl
theorem Mo2:∀o,oM[2]? =some o->OpT Tryz.prog o (SMb a b ra p c n b0 i j hs rows hv y rw0 h' (L 0) (L 1) false (L 3) (L 4) (L 5) (L 6) (L 7) (L 8) (L 9) (L 10) (L 11) (L 12) (L 13) (L 14) (L 15) (L 16)) (SMb a b ra p c n b0 i j hs rows hv y rw0 h' (L 0) (L 1) true (L 3) (L 4) (L 5) (L 6) (L 7) (L 8) (L 9) (L 10) (L 11) (L 12) (L 13) (L 14) (L 15) (L 16)):=by
 intro o ho;have ho:some _=some o:=ho;cases ho
 refine qc hTN rfl ?_;conv=>whnf
 exact rfl
theorem Mo3:∀o,oM[3]? =some o->OpT Tryz.prog o (SMb a b ra p c n b0 i j hs rows hv y rw0 h' (L 0) (L 1) (L 2) false (L 4) (L 5) (L 6) (L 7) (L 8) (L 9) (L 10) (L 11) (L 12) (L 13) (L 14) (L 15) (L 16)) (SMb a b ra p c n b0 i j hs rows hv y rw0 h' (L 0) (L 1) (L 2) true (L 4) (L 5) (L 6) (L 7) (L 8) (L 9) (L 10) (L 11) (L 12) (L 13) (L 14) (L 15) (L 16)):=by
 intro o ho;have ho:some _=some o:=ho;cases ho
 refine qc hTN rfl ?_;conv=>whnf
 exact rfl
theorem Mo4(hin:i<n):∀o,oM[4]? =some o->OpT Tryz.prog o (SMb a b ra p c n b0 i j hs rows hv y rw0 h' (L 0) (L 1) true true false (L 5) (L 6) (L 7) (L 8) (L 9) (L 10) (L 11) (L 12) (L 13) (L 14) (L 15) (L 16)) (SMb a b ra p c n b0 i j hs rows hv y rw0 h' (L 0) (L 1) true true true (L 5) (L 6) (L 7) (L 8) (L 9) (L 10) (L 11) (L 12) (L 13) (L 14) (L 15) (L 16)):=by
 intro o ho;have ho:some _=some o:=ho;cases ho
 exact(yi (j:=(i:Int)) rfl rfl rfl Tryz.underlying22 Tryz.type23 rfl rfl rfl O O).to rfl
theorem Mo5(hh:hs[i]? =some hv):∀o,oM[5]? =some o->OpT Tryz.prog o (SMb a b ra p c n b0 i j hs rows hv y rw0 h' (L 0) (L 1) (L 2) (L 3) true false (L 6) (L 7) (L 8) (L 9) (L 10) (L 11) (L 12) (L 13) false (L 15) false) (SMb a b ra p c n b0 i j hs rows hv y rw0 h' (L 0) (L 1) (L 2) (L 3) true true (L 6) (L 7) (L 8) (L 9) (L 10) (L 11) (L 12) (L 13) false (L 15) false):=by
 intro o ho;have ho:some _=some o:=ho;cases ho
 exact(zd9 (j:=i) rfl rfl rfl qgc rfl rfl rfl rfl hh).to rfl
theorem Mo6:∀o,oM[6]? =some o->OpT Tryz.prog o (SMb a b ra p c n b0 i j hs rows hv y rw0 h' (L 0) (L 1) (L 2) (L 3) (L 4) (L 5) false (L 7) (L 8) (L 9) (L 10) (L 11) (L 12) (L 13) (L 14) (L 15) (L 16)) (SMb a b ra p c n b0 i j hs rows hv y rw0 h' (L 0) (L 1) (L 2) (L 3) (L 4) (L 5) true (L 7) (L 8) (L 9) (L 10) (L 11) (L 12) (L 13) (L 14) (L 15) (L 16)):=by
 intro o ho;have ho:some _=some o:=ho;cases ho
 refine qc hTN rfl ?_;conv=>whnf
 exact rfl
theorem Mo7:∀o,oM[7]? =some o->OpT Tryz.prog o (SMb a b ra p c n b0 i j hs rows hv y rw0 h' (L 0) (L 1) (L 2) (L 3) (L 4) (L 5) (L 6) false (L 8) (L 9) (L 10) (L 11) (L 12) (L 13) (L 14) (L 15) (L 16)) (SMb a b ra p c n b0 i j hs rows hv y rw0 h' (L 0) (L 1) (L 2) (L 3) (L 4) (L 5) (L 6) true (L 8) (L 9) (L 10) (L 11) (L 12) (L 13) (L 14) (L 15) (L 16)):=by
 intro o ho;have ho:some _=some o:=ho;cases ho
 refine qc hTN rfl ?_;conv=>whnf
 exact rfl
theorem Mo8(ha:a[i]? =some ra):∀o,oM[8]? =some o->OpT Tryz.prog o (SMb a b ra p c n b0 i j hs rows hv y rw0 h' (L 0) (L 1) (L 2) (L 3) (L 4) (L 5) true true false (L 9) (L 10) (L 11) (L 12) (L 13) false (L 15) false) (SMb a b ra p c n b0 i j hs rows hv y rw0 h' (L 0) (L 1) (L 2) (L 3) (L 4) (L 5) true true true (L 9) (L 10) (L 11) (L 12) (L 13) false (L 15) false):=by
 intro o ho;have ho:some _=some o:=ho;cases ho
 refine qc hTN rfl ?_;conv=>whnf
 have hlt:=(qD.1 ha).1;refine⟨⟨O,O⟩,fun(x:List Iv)hx=>?_⟩;obtain rfl:ra=x:=by
  have hx:a[i]? =some x:=by simpa using hx
  rw[ha]at hx;exact Option.some.inj hx
 conv=>whnf
 exact rfl
theorem Mo9:∀o,oM[9]? =some o->OpT Tryz.prog o (SMb a b ra p c n b0 i j hs rows hv y rw0 h' (L 0) (L 1) (L 2) (L 3) (L 4) (L 5) (L 6) (L 7) true false (L 10) (L 11) (L 12) (L 13) (L 14) (L 15) (L 16)) (SMb a b ra p c n b0 i j hs rows hv y rw0 h' (L 0) (L 1) (L 2) (L 3) (L 4) (L 5) (L 6) (L 7) true true (L 10) (L 11) (L 12) (L 13) (L 14) (L 15) (L 16)):=by
 intro o ho;have ho:some _=some o:=ho;cases ho
 refine qc hTN rfl ?_;conv=>whnf
 exact rfl
theorem Mo10:∀o,oM[10]? =some o->OpT Tryz.prog o (SMb a b ra p c n b0 i j hs rows hv y rw0 h' (L 0) (L 1) (L 2) (L 3) (L 4) (L 5) (L 6) (L 7) (L 8) (L 9) false (L 11) (L 12) (L 13) (L 14) (L 15) (L 16)) (SMb a b ra p c n b0 i j hs rows hv y rw0 h' (L 0) (L 1) (L 2) (L 3) (L 4) (L 5) (L 6) (L 7) (L 8) (L 9) true (L 11) (L 12) (L 13) (L 14) (L 15) (L 16)):=by
 intro o ho;have ho:some _=some o:=ho;cases ho
 refine qc hTN rfl ?_;conv=>whnf
 exact rfl
theorem Mo11:∀o,oM[11]? =some o->OpT Tryz.prog o (SMb a b ra p c n b0 i j hs rows hv y rw0 h' (L 0) (L 1) (L 2) (L 3) (L 4) (L 5) (L 6) (L 7) (L 8) (L 9) (L 10) false (L 12) (L 13) (L 14) (L 15) (L 16)) (SMb a b ra p c n b0 i j hs rows hv y rw0 h' (L 0) (L 1) (L 2) (L 3) (L 4) (L 5) (L 6) (L 7) (L 8) (L 9) (L 10) true (L 12) (L 13) (L 14) (L 15) (L 16)):=by
 intro o ho;have ho:some _=some o:=ho;cases ho
 refine qc hTN rfl ?_;conv=>whnf
 exact rfl
theorem Mo12(hc:∀K,zit K->zgf K->Fn 138 [(qa,.gst (zni JT K)),(1000003,.cells [.sl .vs b]),(1000004,.cells [.int .i64 j])] [.sl .iv ra,.fn 212 [.ptr 1000003 0,.ptr 1000004 0],.int .i64 p] (.agg (ivC y)) [(qa,.gst (zni JT K)),(1000003,.cells [.sl .vs b]),(1000004,.cells [.int .i64 j])]):∀o,oM[12]? =some o->OpT Tryz.prog o (SMb a b ra p c n b0 i j hs rows hv y rw0 h' (L 0) (L 1) (L 2) (L 3) (L 4) (L 5) (L 6) (L 7) (L 8) true true true false (L 13) false (L 15) false) (SMb a b ra p c n b0 i j hs rows hv y rw0 h' (L 0) (L 1) (L 2) (L 3) (L 4) (L 5) (L 6) (L 7) (L 8) true true true true (L 13) false (L 15) false):=by
 intro o ho;have ho:some _=some o:=ho;cases ho
 refine qc hTN rfl ?_;conv=>whnf
 refine⟨[.gst _,.cells [.sl .vs b],.cells [.int .i64 j]],_,(hc _ zc9.stab zc9.mono).sw [(4,1000003),(10,1000004)] rfl,?_⟩;conv=>whnf
 exact rfl
theorem Mo13:∀o,oM[13]? =some o->OpT Tryz.prog o (SMb a b ra p c n b0 i j hs rows hv y rw0 h' (L 0) (L 1) (L 2) (L 3) (L 4) (L 5) (L 6) (L 7) (L 8) (L 9) (L 10) (L 11) true false (L 14) (L 15) (L 16)) (SMb a b ra p c n b0 i j hs rows hv y rw0 h' (L 0) (L 1) (L 2) (L 3) (L 4) (L 5) (L 6) (L 7) (L 8) (L 9) (L 10) (L 11) true true (L 14) (L 15) (L 16)):=by
 intro o ho;have ho:some _=some o:=ho;cases ho
 refine qc hTN rfl ?_;conv=>whnf
 exact rfl
theorem Mo14(hh:hs[i]? =some hv)(hr:rows[i]? =some rw0)(hlr:rw0.length<=100000):∀o,oM[14]? =some o->OpX Tryz.prog o (SMb a b ra p c n b0 i j hs rows hv y rw0 h' (L 0) (L 1) (L 2) (L 3) (L 4) true (L 6) (L 7) (L 8) (L 9) (L 10) (L 11) (L 12) true false (L 15) false) fun Q=>∃h'',Q=SMb a b ra p c n b0 i j hs rows hv y rw0 h'' (L 0) (L 1) (L 2) (L 3) (L 4) true (L 6) (L 7) (L 8) (L 9) (L 10) (L 11) (L 12) true true (L 15) false:=by
 intro o ho;have ho:some _=some o:=ho;cases ho
 refine(zd7 (k:=.iv) (i:=i) (row:=rw0) (y:=y) rfl rfl rfl rfl rfl rfl yq rfl rfl rfl rfl rfl rfl rfl rfl hh hr ?_ ?_).mono fun Q h=>?_
 .show(_+1)*88<=_;omega
 .decide
 .obtain⟨h'',rfl⟩:=h;exact⟨h'',rfl⟩
theorem Mo15(hin:i<n):∀o,oM[15]? =some o->OpT Tryz.prog o (SMb a b ra p c n b0 i j hs rows hv y rw0 h' true true (L 2) (L 3) (L 4) (L 5) (L 6) (L 7) (L 8) (L 9) (L 10) (L 11) (L 12) (L 13) (L 14) false (L 16)) (SMb a b ra p c n b0 i j hs rows hv y rw0 h' true true (L 2) (L 3) (L 4) (L 5) (L 6) (L 7) (L 8) (L 9) (L 10) (L 11) (L 12) (L 13) (L 14) true (L 16)):=by
 intro o ho;have ho:some _=some o:=ho;cases ho
 exact(yi (j:=(i:Int)) rfl rfl rfl Tryz.underlying22 Tryz.type23 rfl rfl rfl O O).to rfl
theorem Mo16(hi:i<hs.length):∀o,oM[16]? =some o->OpT Tryz.prog o (SMb a b ra p c n b0 i j hs rows hv y rw0 h' (L 0) (L 1) (L 2) (L 3) (L 4) (L 5) (L 6) (L 7) (L 8) (L 9) (L 10) (L 11) (L 12) (L 13) true true false) (SMb a b ra p c n b0 i j hs rows hv y rw0 h' (L 0) (L 1) (L 2) (L 3) (L 4) (L 5) (L 6) (L 7) (L 8) (L 9) (L 10) (L 11) (L 12) (L 13) true true true):=by
 intro o ho;have ho:some _=some o:=ho;cases ho
 exact(zd8 (i:=i) rfl rfl rfl yq qh2 rfl rfl rfl rfl hi).to rfl
theorem Mstep(hin:i<n)(hh:hs[i]? =some hv)(ha:a[i]? =some ra)(hc:∀K,zit K->zgf K->Fn 138 [(qa,.gst (zni JT K)),(1000003,.cells [.sl .vs b]),(1000004,.cells [.int .i64 j])] [.sl .iv ra,.fn 212 [.ptr 1000003 0,.ptr 1000004 0],.int .i64 p] (.agg (ivC y)) [(qa,.gst (zni JT K)),(1000003,.cells [.sl .vs b]),(1000004,.cells [.int .i64 j])])(hr:rows[i]? =some rw0)(hlr:rw0.length<=100000)(hi:i<hs.length)
 (q:Nat) (o:Oper) (hcl:∀j oj,oM[j]? =some oj->L j=true->∀e∈oj.after,qN .any e=true->L e.on=true) (ho:oM[q]? =some o) (hL:L q=false)
 (hd:∀e∈o.after,qN .any e=true->L e.on=true):∀Q,SM a b ra p c n b0 i j hs rows hv y rw0 L Q->OpX Tryz.prog o Q (SM a b ra p c n b0 i j hs rows hv y rw0 (zz8 L q)):=by
 rintro Q ⟨h',rfl⟩;have dpq:∀ {j:Nat},oM[j]? =some o->∀q,((oM[j]?.map fun o=>o.after.toList.any fun e=>qN .any e&&qM e.on q)=some true)->L q=true:=fun {j}ho q hq=>zjp ho hd q hq
 have cl:∀a q,((oM[a]?.map fun o=>o.after.toList.any fun e=>qN .any e&&qM e.on q)=some true)->L a=true->L q=true:=fun a q hq ha=>zm5 hcl hq ha
 match q,ho,hL with
 |0,ho,hL=>
  have hall:=Mo0 a b ra p c n b0 i j hs rows hv y rw0 h' L o ho;refine OpT.x (σ':=SMb a b ra p c n b0 i j hs rows hv y rw0 h' true (L 1) (L 2) (L 3) (L 4) (L 5) (L 6) (L 7) (L 8) (L 9) (L 10) (L 11) (L 12) (L 13) (L 14) (L 15) (L 16)) ?_ ⟨h',rfl⟩;show OpT Tryz.prog o (SMb a b ra p c n b0 i j hs rows hv y rw0 h' (L 0) (L 1) (L 2) (L 3) (L 4) (L 5) (L 6) (L 7) (L 8) (L 9) (L 10) (L 11) (L 12) (L 13) (L 14) (L 15) (L 16)) _;rw[hL];exact hall
 |1,ho,hL=>
  have hall:=Mo1 a b ra p c n b0 i j hs rows hv y rw0 h' L o ho;refine OpT.x (σ':=SMb a b ra p c n b0 i j hs rows hv y rw0 h' (L 0) true (L 2) (L 3) (L 4) (L 5) (L 6) (L 7) (L 8) (L 9) (L 10) (L 11) (L 12) (L 13) (L 14) (L 15) (L 16)) ?_ ⟨h',rfl⟩;show OpT Tryz.prog o (SMb a b ra p c n b0 i j hs rows hv y rw0 h' (L 0) (L 1) (L 2) (L 3) (L 4) (L 5) (L 6) (L 7) (L 8) (L 9) (L 10) (L 11) (L 12) (L 13) (L 14) (L 15) (L 16)) _;rw[hL];exact hall
 |2,ho,hL=>
  have hall:=Mo2 a b ra p c n b0 i j hs rows hv y rw0 h' L o ho;refine OpT.x (σ':=SMb a b ra p c n b0 i j hs rows hv y rw0 h' (L 0) (L 1) true (L 3) (L 4) (L 5) (L 6) (L 7) (L 8) (L 9) (L 10) (L 11) (L 12) (L 13) (L 14) (L 15) (L 16)) ?_ ⟨h',rfl⟩;show OpT Tryz.prog o (SMb a b ra p c n b0 i j hs rows hv y rw0 h' (L 0) (L 1) (L 2) (L 3) (L 4) (L 5) (L 6) (L 7) (L 8) (L 9) (L 10) (L 11) (L 12) (L 13) (L 14) (L 15) (L 16)) _;rw[hL];exact hall
 |3,ho,hL=>
  have hall:=Mo3 a b ra p c n b0 i j hs rows hv y rw0 h' L o ho;refine OpT.x (σ':=SMb a b ra p c n b0 i j hs rows hv y rw0 h' (L 0) (L 1) (L 2) true (L 4) (L 5) (L 6) (L 7) (L 8) (L 9) (L 10) (L 11) (L 12) (L 13) (L 14) (L 15) (L 16)) ?_ ⟨h',rfl⟩;show OpT Tryz.prog o (SMb a b ra p c n b0 i j hs rows hv y rw0 h' (L 0) (L 1) (L 2) (L 3) (L 4) (L 5) (L 6) (L 7) (L 8) (L 9) (L 10) (L 11) (L 12) (L 13) (L 14) (L 15) (L 16)) _;rw[hL];exact hall
 |4,ho,hL=>
  have hall:=Mo4 a b ra p c n b0 i j hs rows hv y rw0 h' L hin o ho;have g2:L 2=true:=dpq ho 2 OB;have g3:L 3=true:=dpq ho 3 OB;refine OpT.x (σ':=SMb a b ra p c n b0 i j hs rows hv y rw0 h' (L 0) (L 1) (L 2) (L 3) true (L 5) (L 6) (L 7) (L 8) (L 9) (L 10) (L 11) (L 12) (L 13) (L 14) (L 15) (L 16)) ?_ ⟨h',rfl⟩;show OpT Tryz.prog o (SMb a b ra p c n b0 i j hs rows hv y rw0 h' (L 0) (L 1) (L 2) (L 3) (L 4) (L 5) (L 6) (L 7) (L 8) (L 9) (L 10) (L 11) (L 12) (L 13) (L 14) (L 15) (L 16)) _;rw[hL,g2,g3];exact hall
 |5,ho,hL=>
  have hall:=Mo5 a b ra p c n b0 i j hs rows hv y rw0 h' L hh o ho;have g4:L 4=true:=dpq ho 4 OB;have g14:L 14=false:=by
   cases h:L 14 with
   |false=>rfl
   |true=>have:=cl 14 5 OB (h);rw[hL]at this;cases this
  have g16:L 16=false:=by
   cases h:L 16 with
   |false=>rfl
   |true=>have:=cl 14 5 OB (cl 16 14 OB (h));rw[hL]at this;cases this
  refine OpT.x (σ':=SMb a b ra p c n b0 i j hs rows hv y rw0 h' (L 0) (L 1) (L 2) (L 3) (L 4) true (L 6) (L 7) (L 8) (L 9) (L 10) (L 11) (L 12) (L 13) (L 14) (L 15) (L 16)) ?_ ⟨h',rfl⟩;show OpT Tryz.prog o (SMb a b ra p c n b0 i j hs rows hv y rw0 h' (L 0) (L 1) (L 2) (L 3) (L 4) (L 5) (L 6) (L 7) (L 8) (L 9) (L 10) (L 11) (L 12) (L 13) (L 14) (L 15) (L 16)) _;rw[hL,g4,g14,g16];exact hall
 |6,ho,hL=>
  have hall:=Mo6 a b ra p c n b0 i j hs rows hv y rw0 h' L o ho;refine OpT.x (σ':=SMb a b ra p c n b0 i j hs rows hv y rw0 h' (L 0) (L 1) (L 2) (L 3) (L 4) (L 5) true (L 7) (L 8) (L 9) (L 10) (L 11) (L 12) (L 13) (L 14) (L 15) (L 16)) ?_ ⟨h',rfl⟩;show OpT Tryz.prog o (SMb a b ra p c n b0 i j hs rows hv y rw0 h' (L 0) (L 1) (L 2) (L 3) (L 4) (L 5) (L 6) (L 7) (L 8) (L 9) (L 10) (L 11) (L 12) (L 13) (L 14) (L 15) (L 16)) _;rw[hL];exact hall
 |7,ho,hL=>
  have hall:=Mo7 a b ra p c n b0 i j hs rows hv y rw0 h' L o ho;refine OpT.x (σ':=SMb a b ra p c n b0 i j hs rows hv y rw0 h' (L 0) (L 1) (L 2) (L 3) (L 4) (L 5) (L 6) true (L 8) (L 9) (L 10) (L 11) (L 12) (L 13) (L 14) (L 15) (L 16)) ?_ ⟨h',rfl⟩;show OpT Tryz.prog o (SMb a b ra p c n b0 i j hs rows hv y rw0 h' (L 0) (L 1) (L 2) (L 3) (L 4) (L 5) (L 6) (L 7) (L 8) (L 9) (L 10) (L 11) (L 12) (L 13) (L 14) (L 15) (L 16)) _;rw[hL];exact hall
 |8,ho,hL=>
  have hall:=Mo8 a b ra p c n b0 i j hs rows hv y rw0 h' L ha o ho;have g6:L 6=true:=dpq ho 6 OB;have g7:L 7=true:=dpq ho 7 OB;have g14:L 14=false:=by
   cases h:L 14 with
   |false=>rfl
   |true=>have:=cl 9 8 OB (cl 12 9 OB (cl 13 12 OB (cl 14 13 OB (h))));rw[hL]at this;cases this
  have g16:L 16=false:=by
   cases h:L 16 with
   |false=>rfl
   |true=>have:=cl 9 8 OB (cl 12 9 OB (cl 13 12 OB (cl 14 13 OB (cl 16 14 OB (h)))));rw[hL]at this;cases this
  refine OpT.x (σ':=SMb a b ra p c n b0 i j hs rows hv y rw0 h' (L 0) (L 1) (L 2) (L 3) (L 4) (L 5) (L 6) (L 7) true (L 9) (L 10) (L 11) (L 12) (L 13) (L 14) (L 15) (L 16)) ?_ ⟨h',rfl⟩;show OpT Tryz.prog o (SMb a b ra p c n b0 i j hs rows hv y rw0 h' (L 0) (L 1) (L 2) (L 3) (L 4) (L 5) (L 6) (L 7) (L 8) (L 9) (L 10) (L 11) (L 12) (L 13) (L 14) (L 15) (L 16)) _;rw[hL,g6,g7,g14,g16];exact hall
 |9,ho,hL=>
  have hall:=Mo9 a b ra p c n b0 i j hs rows hv y rw0 h' L o ho;have g8:L 8=true:=dpq ho 8 OB;refine OpT.x (σ':=SMb a b ra p c n b0 i j hs rows hv y rw0 h' (L 0) (L 1) (L 2) (L 3) (L 4) (L 5) (L 6) (L 7) (L 8) true (L 10) (L 11) (L 12) (L 13) (L 14) (L 15) (L 16)) ?_ ⟨h',rfl⟩;show OpT Tryz.prog o (SMb a b ra p c n b0 i j hs rows hv y rw0 h' (L 0) (L 1) (L 2) (L 3) (L 4) (L 5) (L 6) (L 7) (L 8) (L 9) (L 10) (L 11) (L 12) (L 13) (L 14) (L 15) (L 16)) _;rw[hL,g8];exact hall
 |10,ho,hL=>
  have hall:=Mo10 a b ra p c n b0 i j hs rows hv y rw0 h' L o ho;refine OpT.x (σ':=SMb a b ra p c n b0 i j hs rows hv y rw0 h' (L 0) (L 1) (L 2) (L 3) (L 4) (L 5) (L 6) (L 7) (L 8) (L 9) true (L 11) (L 12) (L 13) (L 14) (L 15) (L 16)) ?_ ⟨h',rfl⟩;show OpT Tryz.prog o (SMb a b ra p c n b0 i j hs rows hv y rw0 h' (L 0) (L 1) (L 2) (L 3) (L 4) (L 5) (L 6) (L 7) (L 8) (L 9) (L 10) (L 11) (L 12) (L 13) (L 14) (L 15) (L 16)) _;rw[hL];exact hall
 |11,ho,hL=>
  have hall:=Mo11 a b ra p c n b0 i j hs rows hv y rw0 h' L o ho;refine OpT.x (σ':=SMb a b ra p c n b0 i j hs rows hv y rw0 h' (L 0) (L 1) (L 2) (L 3) (L 4) (L 5) (L 6) (L 7) (L 8) (L 9) (L 10) true (L 12) (L 13) (L 14) (L 15) (L 16)) ?_ ⟨h',rfl⟩;show OpT Tryz.prog o (SMb a b ra p c n b0 i j hs rows hv y rw0 h' (L 0) (L 1) (L 2) (L 3) (L 4) (L 5) (L 6) (L 7) (L 8) (L 9) (L 10) (L 11) (L 12) (L 13) (L 14) (L 15) (L 16)) _;rw[hL];exact hall
 |12,ho,hL=>
  have hall:=Mo12 a b ra p c n b0 i j hs rows hv y rw0 h' L hc o ho;have g9:L 9=true:=dpq ho 9 OB;have g10:L 10=true:=dpq ho 10 OB;have g11:L 11=true:=dpq ho 11 OB;have g14:L 14=false:=by
   cases h:L 14 with
   |false=>rfl
   |true=>have:=cl 13 12 OB (cl 14 13 OB (h));rw[hL]at this;cases this
  have g16:L 16=false:=by
   cases h:L 16 with
   |false=>rfl
   |true=>have:=cl 13 12 OB (cl 14 13 OB (cl 16 14 OB (h)));rw[hL]at this;cases this
  refine OpT.x (σ':=SMb a b ra p c n b0 i j hs rows hv y rw0 h' (L 0) (L 1) (L 2) (L 3) (L 4) (L 5) (L 6) (L 7) (L 8) (L 9) (L 10) (L 11) true (L 13) (L 14) (L 15) (L 16)) ?_ ⟨h',rfl⟩;show OpT Tryz.prog o (SMb a b ra p c n b0 i j hs rows hv y rw0 h' (L 0) (L 1) (L 2) (L 3) (L 4) (L 5) (L 6) (L 7) (L 8) (L 9) (L 10) (L 11) (L 12) (L 13) (L 14) (L 15) (L 16)) _;rw[hL,g9,g10,g11,g14,g16];exact hall
 |13,ho,hL=>
  have hall:=Mo13 a b ra p c n b0 i j hs rows hv y rw0 h' L o ho;have g12:L 12=true:=dpq ho 12 OB;refine OpT.x (σ':=SMb a b ra p c n b0 i j hs rows hv y rw0 h' (L 0) (L 1) (L 2) (L 3) (L 4) (L 5) (L 6) (L 7) (L 8) (L 9) (L 10) (L 11) (L 12) true (L 14) (L 15) (L 16)) ?_ ⟨h',rfl⟩;show OpT Tryz.prog o (SMb a b ra p c n b0 i j hs rows hv y rw0 h' (L 0) (L 1) (L 2) (L 3) (L 4) (L 5) (L 6) (L 7) (L 8) (L 9) (L 10) (L 11) (L 12) (L 13) (L 14) (L 15) (L 16)) _;rw[hL,g12];exact hall
 |14,ho,hL=>
  have hall:=Mo14 a b ra p c n b0 i j hs rows hv y rw0 h' L hh hr hlr o ho;have g5:L 5=true:=dpq ho 5 OB;have g13:L 13=true:=dpq ho 13 OB;have g16:L 16=false:=by
   cases h:L 16 with
   |false=>rfl
   |true=>have:=cl 16 14 OB (h);rw[hL]at this;cases this
  show OpX Tryz.prog o (SMb a b ra p c n b0 i j hs rows hv y rw0 h' (L 0) (L 1) (L 2) (L 3) (L 4) (L 5) (L 6) (L 7) (L 8) (L 9) (L 10) (L 11) (L 12) (L 13) (L 14) (L 15) (L 16)) (fun Q=>∃h'',Q=SMb a b ra p c n b0 i j hs rows hv y rw0 h'' (L 0) (L 1) (L 2) (L 3) (L 4) (L 5) (L 6) (L 7) (L 8) (L 9) (L 10) (L 11) (L 12) (L 13) true (L 15) (L 16));rw[hL,g5,g13,g16];exact hall
 |15,ho,hL=>
  have hall:=Mo15 a b ra p c n b0 i j hs rows hv y rw0 h' L hin o ho;have g0:L 0=true:=dpq ho 0 OB;have g1:L 1=true:=dpq ho 1 OB;refine OpT.x (σ':=SMb a b ra p c n b0 i j hs rows hv y rw0 h' (L 0) (L 1) (L 2) (L 3) (L 4) (L 5) (L 6) (L 7) (L 8) (L 9) (L 10) (L 11) (L 12) (L 13) (L 14) true (L 16)) ?_ ⟨h',rfl⟩;show OpT Tryz.prog o (SMb a b ra p c n b0 i j hs rows hv y rw0 h' (L 0) (L 1) (L 2) (L 3) (L 4) (L 5) (L 6) (L 7) (L 8) (L 9) (L 10) (L 11) (L 12) (L 13) (L 14) (L 15) (L 16)) _;rw[hL,g0,g1];exact hall
 |16,ho,hL=>
  have hall:=Mo16 a b ra p c n b0 i j hs rows hv y rw0 h' L hi o ho;have g15:L 15=true:=dpq ho 15 OB;have g14:L 14=true:=dpq ho 14 OB;refine OpT.x (σ':=SMb a b ra p c n b0 i j hs rows hv y rw0 h' (L 0) (L 1) (L 2) (L 3) (L 4) (L 5) (L 6) (L 7) (L 8) (L 9) (L 10) (L 11) (L 12) (L 13) (L 14) (L 15) true) ?_ ⟨h',rfl⟩;show OpT Tryz.prog o (SMb a b ra p c n b0 i j hs rows hv y rw0 h' (L 0) (L 1) (L 2) (L 3) (L 4) (L 5) (L 6) (L 7) (L 8) (L 9) (L 10) (L 11) (L 12) (L 13) (L 14) (L 15) (L 16)) _;rw[hL,g15,g14];exact hall
 |q+17,ho,_=>
  have hs:oM.size=17:=Z;have:=(Array.getElem?_eq_some_iff.1 ho).1;omega
end
noncomputable def qbk:Code:=Tryz.f132.body.getD .skip
abbrev frM:Hp:= [(34,.free),(10,.free),(61,.free),(100061,.free),(1500061,.free)]
theorem n33s(a b:Mx)(ha:RM a)(hb:RM b)(p:Int)(c:Nat)(hal:a.length<=100)(hb1:1<=b.length/\b.length<=100)(hrow:∀r∈a,r.length=b.length)(hc:∀r∈b,r.length=c)(hc2:c<=100):
 SemOK Tryz.prog TN Tryz.f132.results.toList [] (.tup [.sl .vs (a.map fun r=>(qI c).map fun j=>dtM p r (zdm b j)),.int .i64 0]) G0 (zev 2 qbk) ⟨[.sl .vs a,.any,.int .i64 p,.any,.ptr 4 0,.any,.nilsl,.int .i64 0]++jr 58,[(4,.cells [.sl .vs b])]++frM++G0⟩:=by
 obtain⟨G,hG⟩:∃G,(a.map fun r=>(qI c).map fun j=>dtM p r (zdm b j))=G:=⟨_,rfl⟩;have hGl:G.length=a.length:=by rw[<-hG];simp
 have hGi:∀(i:Nat)(row:List Iv),a[i]? =some row->G[i]? =some ((qI c).map fun j=>dtM p row (zdm b j)):=fun i row h=>by
  rw[<-hG,qF,h];rfl
 rw[hG];refine zdx hTN hmx [14] yq (E:=23) (e:=28) (k:=.iv) (kk:=.vs) (fun r=>r) (fun _=>rfl) rfl (cap:=a.length) (fun rows=>rows=G)
  (fun b0=>⟨[.sl .vs a,.any,.int .i64 p,.any,.ptr 4 0,.any,.nilsl,.int .i64 0,.val (.slice (some ⟨b0,0,none⟩) a.length a.length)]++jr 23++ [.sl .vs a,.int .i64 a.length,.val (.slice (some ⟨b0,0,none⟩) a.length a.length)]++jr 31,[(4,.cells [.sl .vs b])]++frM++ [(qa,.gst (vu JT 23 28 .iv b0 a.length (qC a.length (.slice none 0 0)) (qC a.length []) none))]⟩)
  (fun b0 hs rows=>⟨[.any,.any,.any,.any,.any,.any,.val (.slice (some ⟨b0,0,none⟩) a.length a.length),.int .i64 0]++jr 58,[(4,.free)]++frM++ [(qa,.gst (vu JT 23 28 .iv b0 a.length hs rows none))]⟩)
  (fun rows=> [.any,.any,.any,.any,.any,.any,.sl .vs rows,.int .i64 0]++jr 58) ?_ (fun b0=>?_) (fun b0 hs rows=>Z) (fun b0 hs rows h=>⟨rfl,?_⟩) (fun b0 hs rows h=>?_)
 .refine zb4 hTN (σa:=⟨[.sl .vs a,.any,.int .i64 p,.any,.ptr 4 0,.any,.nilsl,.int .i64 0]++jr 24++ [.sl .vs a,.int .i64 a.length]++jr 32,[(4,.cells [.sl .vs b])]++frM++G0⟩) (n:=a.length) (e:=28) (k:=.iv) _ _ (spl 2 rfl) rfl yq rfl rfl rfl rfl rfl Tryz.underlying22 Tryz.type23 rfl rfl OA O _ ?_ (fun b0=>?_)
  .conv=>whnf
   exact rfl
  .conv=>whnf
   exact rfl
 .conv=>whnf
  refine⟨Nat×List Value,fun y=>y.1<=a.length/\y.2.length=a.length,fun y=> [(37,.int .i64 y.1)],fun y=> [(10,.free),(61,.free),(100061,.free),(1500061,.free),(qa,.gst (vu JT 23 28 .iv b0 a.length y.2 (rwA G y.1 0) none))],fun y=>a.length-y.1,(0,qC a.length (.slice none 0 0)),⟨qH _,OC⟩,?_,?_⟩
  ·((conv=>whnf);refine qE ?_ ?_;repeat' first|refine lc ?_ ?_|refine lh1 ?_ ?_|refine bc0 ?_|exact KXZ|refine lg0 ?_|refine lt0 ?_)
   exact bg0 (by rw[zdz,hGl])
  rintro⟨i,hs⟩ ⟨hi,hh⟩;have hi:i<=a.length:=hi;have hh:hs.length=a.length:=hh
  (refine⟨Z,?_⟩;(conv=>whnf))
  refine brI (fun c1=>?_) (fun c1=>?_)
  .have c1:i<a.length:=by have:=Z0 c1;omega
   obtain⟨row,hr⟩:∃row,a[i]? =some row:=⟨_,qA c1⟩;have hm:=qB hr;have hrl:=hrow row hm;have hGr:=hGi i row hr;generalize hg:((qI c).map fun j=>dtM p row (zdm b j))=g at hGr;have hgl:g.length=c:=by rw[<-hg];simp
   obtain⟨b00,hb00⟩:∃r,b[0]? =some r:=⟨_,qA O⟩;have hb0l:=hc b00 (qB hb00);conv=>whnf
   refine⟨⟨O,O⟩,fun(x:List Iv)hx=>?_⟩;obtain rfl:b00=x:=by
    have hx:b[0]? =some x:=hx;rw[hb00]at hx;exact Option.some.inj hx
   conv=>whnf
   refine⟨Nat×List Value,fun y=>y.1<=c/\y.2.length=a.length,fun y=> [(38,.any),(39,.any),(40,.any),(41,.any),(42,.any),(43,.int .i64 c),(44,.int .i64 y.1)],fun y=> [(10,.free),(61,.free),(100061,.free),(1500061,.free),(qa,.gst (vu JT 23 28 .iv b0 a.length y.2 (rwA G i y.1) none))],fun y=>c-y.1,(0,hs),⟨qH _,hh⟩,?_,?_⟩
   ·((conv=>whnf);refine qE ?_ ?_;repeat' first|refine lc ?_ ?_|refine lh1 ?_ ?_|refine bc0 ?_|exact KXZ|refine lg0 ?_|refine lt0 ?_)
    refine ai0 ?_;rw[hb0l]
   rintro⟨j,hs⟩ ⟨hj,hh⟩;have hj:j<=c:=hj;have hh:hs.length=a.length:=hh
   (refine⟨Z,?_⟩;(conv=>whnf))
   refine brI (fun c2=>?_) (fun c2=>?_)
   .have c2:j<c:=by have:=Z0 c2;omega
    have hgy:g[j]? =some (dtM p row (zdm b j)):=by rw[<-hg,qF,List.getElem?_range c2];rfl
    obtain⟨hv,hhv⟩:∃hv,hs[i]? =some hv:=⟨_,qA O⟩;have haa:=zff (j:=j) hGr;have hbb:=zg3 hGr hgy;have hdot:∀K,zit K->zgf K->Fn 138 [(qa,.gst (zni JT K)),(1000003,.cells [.sl .vs b]),(1000004,.cells [.int .i64 j])] [.sl .iv row,.fn 212 [.ptr 1000003 0,.ptr 1000004 0],.int .i64 p] (.agg (ivC (dtM p row (zdm b j)))) [(qa,.gst (zni JT K)),(1000003,.cells [.sl .vs b]),(1000004,.cells [.int .i64 j])]:=fun K h5 h6=>by
     refine n73 h5 h6 b j row (zdm b j) O (by unfold zdm;simp;omega) (ha row hm) (fun x hx=>?_) p (fun k y hk=>?_)
     .obtain⟨r,hr2,rfl⟩:=List.mem_map.1 hx;have hl2:=hc r hr2;rw[qA O];exact hb r hr2 _ (List.getElem_mem _)
     .unfold zdm at hk;rw[qF,Option.map_eq_some_iff]at hk;obtain⟨r,hr2,rfl⟩:=hk;have hl2:=hc r (qB hr2);have e:r[j]? =some (r[j]?.getD zI):=by rw[qA O];rfl
      exact n74 b j k hr2 e
    conv=>whnf
    refine zao hmx (SM a b row p c a.length b0 i j hs (rwA G i j) hv (dtM p row (zdm b j)) (g.take j)) (σ0:=SMb a b row p c a.length b0 i j hs (rwA G i j) hv (dtM p row (zdm b j)) (g.take j) (.slice none 0 0) false false false false false false false false false false false false false false false false false) Z ⟨_,rfl⟩ ?_ Z (fun L q o h1 h2 h3 h4=>Mstep a b row p c a.length b0 i j hs (rwA G i j) hv (dtM p row (zdm b j)) (g.take j) L c1 hhv hr hdot haa (by rw[qK];omega) O q o h1 h2 h3 h4) ?_
    .exact KZ0
    .rintro Q ⟨h',rfl⟩;conv=>whnf
     refine⟨(j+1,hs.set i h'),⟨c2,by rw[qL];exact hh⟩,by show c-(j+1)<c-j;omega,?_⟩
     ((conv=>whnf);refine qE ?_ ?_;repeat' first|refine lc ?_ ?_|refine lh1 ?_ ?_|refine bc0 ?_|exact KXZ|refine lg0 ?_|refine lt0 ?_)
     .refine ai0 ?_;rw[wI O];show(j:Int)+1=((j+1:Nat):Int);omega
     .refine bg0 ?_;rw[<-hbb];rfl
   .conv=>whnf
    have hj2:j=c:=by have:=Z1 c2;omega
    have hn:=zd0 hGr;refine⟨(i+1,hs),⟨O,hh⟩,by show a.length-(i+1)<a.length-i;omega,?_⟩
    ((conv=>whnf);refine qE ?_ ?_;repeat' first|refine lc ?_ ?_|refine lh1 ?_ ?_|refine bc0 ?_|exact KXZ|refine lg0 ?_|refine lt0 ?_)
    .exact ai0 (by rw[wI O];omega)
    .exact bg0 (by rw[hj2,<-hgl,hn])
  .conv=>whnf
   have hi2:i=a.length:=by have:=Z1 c1;omega
   refine⟨hs,rwA G i 0,by rw[hi2,<-hGl];exact zg4 G,?_⟩;exact KZ0
 .subst h;rw[hGl];exact⟨.inl rfl,.inl rfl,.inl rfl,.inl rfl,.inl rfl,.inl rfl,.inr (.inr ⟨rfl,OC⟩),.inr (.inl rfl),za3 _⟩
 .subst h;refine wx hTN hmx ?_;conv=>whnf
  exact⟨lr rfl,lh1 (bg0 rfl) lh0⟩
abbrev HA(b:Mx)(p:Int)(K:GJ):Hp:= [(qa,.gst (zni JT K)),(1000003,.cells [.fn 23 []]),(1000004,.cells [.sl .vs b]),(1000005,.cells [.int .i64 p])]
abbrev HA0(b:Mx)(p:Int):Hp:= [(qa,.gst JT),(1000003,.cells [.fn 23 []]),(1000004,.cells [.sl .vs b]),(1000005,.cells [.int .i64 p])]
def CA(b:Mx)(p:Int)(F:Nat->Nat->Iv->Iv)(m:Mx):Prop:=∀K,zit K->zgf K->∀(i j:Nat)(row:List Iv)(y0:Iv),m[i]? =some row->row[j]? =some y0->Fn 299 (HA b p K) [.int .i64 i,.int .i64 j,.agg (ivC y0),.ptr 1000003 0,.ptr 1000004 0,.ptr 1000005 0] (.agg (ivC (F i j y0))) (HA b p K)
noncomputable def oA:Array Oper:=zty 8 (Tryz.f203.body.getD .skip)
def SAb(m:Mx)(row:List Iv)(y0:Iv)(b:Mx)(p:Int)(n b0 i j:Nat)(hs:List Value)(rows:Mx)(hv:Value)(y:Iv)(rw0:List Iv)(h':Value)(q0 q1 q2 q3 q4 q5 q6 q7 q8 q9 q10 q11 q12 q13 q14:Bool):St:=
 ⟨[.sl .vs m,.fn 299 [.ptr 1000003 0,.ptr 1000004 0,.ptr 1000005 0],.any,.any,.nilsl,.val (.slice (some ⟨b0,0,none⟩) n n),.int .i64 i,.sl .iv row,.int .i64 j,.ptr 9 0,.sl .vs m,.int .i64 n,.val (.slice (some ⟨b0,0,none⟩) n n),.sl .vs m,.int .i64 n,.int .i64 i,.any,.any,.any,.any,.sl .iv row,.int .i64 row.length,.int .i64 j,.any,.any,.any,.any,(bif q0 then .val (.slice (some ⟨b0,0,none⟩) n n)else .any),(bif q1 then .int .i64 i else .any),(bif q2 then .val (.slice (some ⟨b0,0,none⟩) n n)else .any),(bif q3 then .int .i64 i else .any),(bif q4 then .val (.pointer (some ⟨b0,i,none⟩))else .any),(bif q5 then .val hv else .any),(bif q6 then .fn 299 [.ptr 1000003 0,.ptr 1000004 0,.ptr 1000005 0]else .any),(bif q7 then .int .i64 i else .any),(bif q8 then .int .i64 j else .any),(bif q9 then .agg (ivC y0)else .any),(bif q10 then .agg (ivC y)else .any),(bif q11 then .sl .iv [y]else .any),(bif q12 then .val h' else .any),(bif q13 then .val (.pointer (some ⟨b0,i,none⟩))else .any),.any,.any,.any],
  [(12,.free),(9,.cells (ivC y0)),(39,.free),(100039,.free),(1500039,.free),(qa,.gst (bif q14 then vu JT 23 28 .iv b0 n (hs.set i h') (rows.set i (rw0++ [y])) none else bif q12 then vu JT 23 28 .iv b0 n hs rows (some (i,h',rw0++ [y]))else vu JT 23 28 .iv b0 n hs rows none)),(1000003,.cells [.fn 23 []]),(1000004,.cells [.sl .vs b]),(1000005,.cells [.int .i64 p])]⟩
def SA(m:Mx)(row:List Iv)(y0:Iv)(b:Mx)(p:Int)(n b0 i j:Nat)(hs:List Value)(rows:Mx)(hv:Value)(y:Iv)(rw0:List Iv)(L:Nat->Bool)(Q:St):Prop:=∃h':Value,Q=SAb m row y0 b p n b0 i j hs rows hv y rw0 h' (L 0) (L 1) (L 2) (L 3) (L 4) (L 5) (L 6) (L 7) (L 8) (L 9) (L 10) (L 11) (L 12) (L 13) (L 14)
section
variable (m:Mx) (row:List Iv) (y0:Iv) (b:Mx) (p:Int) (n b0 i j:Nat) (hs:List Value) (rows:Mx) (hv:Value) (y:Iv) (rw0:List Iv) (h':Value) (L:Nat->Bool)
theorem Ao0:∀o,oA[0]? =some o->OpT Tryz.prog o (SAb m row y0 b p n b0 i j hs rows hv y rw0 h' false (L 1) (L 2) (L 3) (L 4) (L 5) (L 6) (L 7) (L 8) (L 9) (L 10) (L 11) (L 12) (L 13) (L 14)) (SAb m row y0 b p n b0 i j hs rows hv y rw0 h' true (L 1) (L 2) (L 3) (L 4) (L 5) (L 6) (L 7) (L 8) (L 9) (L 10) (L 11) (L 12) (L 13) (L 14)):=by
 intro o ho;have ho:some _=some o:=ho;cases ho
 refine qc hTN rfl ?_;conv=>whnf
 exact rfl
theorem Ao1:∀o,oA[1]? =some o->OpT Tryz.prog o (SAb m row y0 b p n b0 i j hs rows hv y rw0 h' (L 0) false (L 2) (L 3) (L 4) (L 5) (L 6) (L 7) (L 8) (L 9) (L 10) (L 11) (L 12) (L 13) (L 14)) (SAb m row y0 b p n b0 i j hs rows hv y rw0 h' (L 0) true (L 2) (L 3) (L 4) (L 5) (L 6) (L 7) (L 8) (L 9) (L 10) (L 11) (L 12) (L 13) (L 14)):=by
 intro o ho;have ho:some _=some o:=ho;cases ho
 refine qc hTN rfl ?_;conv=>whnf
 exact rfl
theorem Ao2:∀o,oA[2]? =some o->OpT Tryz.prog o (SAb m row y0 b p n b0 i j hs rows hv y rw0 h' (L 0) (L 1) false (L 3) (L 4) (L 5) (L 6) (L 7) (L 8) (L 9) (L 10) (L 11) (L 12) (L 13) (L 14)) (SAb m row y0 b p n b0 i j hs rows hv y rw0 h' (L 0) (L 1) true (L 3) (L 4) (L 5) (L 6) (L 7) (L 8) (L 9) (L 10) (L 11) (L 12) (L 13) (L 14)):=by
 intro o ho;have ho:some _=some o:=ho;cases ho
 refine qc hTN rfl ?_;conv=>whnf
 exact rfl
theorem Ao3:∀o,oA[3]? =some o->OpT Tryz.prog o (SAb m row y0 b p n b0 i j hs rows hv y rw0 h' (L 0) (L 1) (L 2) false (L 4) (L 5) (L 6) (L 7) (L 8) (L 9) (L 10) (L 11) (L 12) (L 13) (L 14)) (SAb m row y0 b p n b0 i j hs rows hv y rw0 h' (L 0) (L 1) (L 2) true (L 4) (L 5) (L 6) (L 7) (L 8) (L 9) (L 10) (L 11) (L 12) (L 13) (L 14)):=by
 intro o ho;have ho:some _=some o:=ho;cases ho
 refine qc hTN rfl ?_;conv=>whnf
 exact rfl
theorem Ao4(hin:i<n):∀o,oA[4]? =some o->OpT Tryz.prog o (SAb m row y0 b p n b0 i j hs rows hv y rw0 h' (L 0) (L 1) true true false (L 5) (L 6) (L 7) (L 8) (L 9) (L 10) (L 11) (L 12) (L 13) (L 14)) (SAb m row y0 b p n b0 i j hs rows hv y rw0 h' (L 0) (L 1) true true true (L 5) (L 6) (L 7) (L 8) (L 9) (L 10) (L 11) (L 12) (L 13) (L 14)):=by
 intro o ho;have ho:some _=some o:=ho;cases ho
 exact(yi (j:=(i:Int)) rfl rfl rfl Tryz.underlying22 Tryz.type23 rfl rfl rfl O O).to rfl
theorem Ao5(hh:hs[i]? =some hv):∀o,oA[5]? =some o->OpT Tryz.prog o (SAb m row y0 b p n b0 i j hs rows hv y rw0 h' (L 0) (L 1) (L 2) (L 3) true false (L 6) (L 7) (L 8) (L 9) (L 10) (L 11) false (L 13) false) (SAb m row y0 b p n b0 i j hs rows hv y rw0 h' (L 0) (L 1) (L 2) (L 3) true true (L 6) (L 7) (L 8) (L 9) (L 10) (L 11) false (L 13) false):=by
 intro o ho;have ho:some _=some o:=ho;cases ho
 exact(zd9 (j:=i) rfl rfl rfl qgc rfl rfl rfl rfl hh).to rfl
theorem Ao6:∀o,oA[6]? =some o->OpT Tryz.prog o (SAb m row y0 b p n b0 i j hs rows hv y rw0 h' (L 0) (L 1) (L 2) (L 3) (L 4) (L 5) false (L 7) (L 8) (L 9) (L 10) (L 11) (L 12) (L 13) (L 14)) (SAb m row y0 b p n b0 i j hs rows hv y rw0 h' (L 0) (L 1) (L 2) (L 3) (L 4) (L 5) true (L 7) (L 8) (L 9) (L 10) (L 11) (L 12) (L 13) (L 14)):=by
 intro o ho;have ho:some _=some o:=ho;cases ho
 refine qc hTN rfl ?_;conv=>whnf
 exact rfl
theorem Ao7:∀o,oA[7]? =some o->OpT Tryz.prog o (SAb m row y0 b p n b0 i j hs rows hv y rw0 h' (L 0) (L 1) (L 2) (L 3) (L 4) (L 5) (L 6) false (L 8) (L 9) (L 10) (L 11) (L 12) (L 13) (L 14)) (SAb m row y0 b p n b0 i j hs rows hv y rw0 h' (L 0) (L 1) (L 2) (L 3) (L 4) (L 5) (L 6) true (L 8) (L 9) (L 10) (L 11) (L 12) (L 13) (L 14)):=by
 intro o ho;have ho:some _=some o:=ho;cases ho
 refine qc hTN rfl ?_;conv=>whnf
 exact rfl
theorem Ao8:∀o,oA[8]? =some o->OpT Tryz.prog o (SAb m row y0 b p n b0 i j hs rows hv y rw0 h' (L 0) (L 1) (L 2) (L 3) (L 4) (L 5) (L 6) (L 7) false (L 9) (L 10) (L 11) (L 12) (L 13) (L 14)) (SAb m row y0 b p n b0 i j hs rows hv y rw0 h' (L 0) (L 1) (L 2) (L 3) (L 4) (L 5) (L 6) (L 7) true (L 9) (L 10) (L 11) (L 12) (L 13) (L 14)):=by
 intro o ho;have ho:some _=some o:=ho;cases ho
 refine qc hTN rfl ?_;conv=>whnf
 exact rfl
theorem Ao9:∀o,oA[9]? =some o->OpT Tryz.prog o (SAb m row y0 b p n b0 i j hs rows hv y rw0 h' (L 0) (L 1) (L 2) (L 3) (L 4) (L 5) (L 6) (L 7) (L 8) false (L 10) (L 11) (L 12) (L 13) (L 14)) (SAb m row y0 b p n b0 i j hs rows hv y rw0 h' (L 0) (L 1) (L 2) (L 3) (L 4) (L 5) (L 6) (L 7) (L 8) true (L 10) (L 11) (L 12) (L 13) (L 14)):=by
 intro o ho;have ho:some _=some o:=ho;cases ho
 refine qc hTN rfl ?_;conv=>whnf
 exact rfl
theorem Ao10(hc:∀K,zit K->zgf K->Fn 299 (HA b p K) [.int .i64 i,.int .i64 j,.agg (ivC y0),.ptr 1000003 0,.ptr 1000004 0,.ptr 1000005 0] (.agg (ivC y)) (HA b p K)):∀o,oA[10]? =some o->OpT Tryz.prog o (SAb m row y0 b p n b0 i j hs rows hv y rw0 h' (L 0) (L 1) (L 2) (L 3) (L 4) (L 5) true true true true false (L 11) false (L 13) false) (SAb m row y0 b p n b0 i j hs rows hv y rw0 h' (L 0) (L 1) (L 2) (L 3) (L 4) (L 5) true true true true true (L 11) false (L 13) false):=by
 intro o ho;have ho:some _=some o:=ho;cases ho
 refine qc hTN rfl ?_;conv=>whnf
 refine⟨[.gst _,.cells [.fn 23 []],.cells [.sl .vs b],.cells [.int .i64 p]],_,hc _ zc9.stab zc9.mono,?_⟩;conv=>whnf
 exact rfl
theorem Ao11:∀o,oA[11]? =some o->OpT Tryz.prog o (SAb m row y0 b p n b0 i j hs rows hv y rw0 h' (L 0) (L 1) (L 2) (L 3) (L 4) (L 5) (L 6) (L 7) (L 8) (L 9) true false (L 12) (L 13) (L 14)) (SAb m row y0 b p n b0 i j hs rows hv y rw0 h' (L 0) (L 1) (L 2) (L 3) (L 4) (L 5) (L 6) (L 7) (L 8) (L 9) true true (L 12) (L 13) (L 14)):=by
 intro o ho;have ho:some _=some o:=ho;cases ho
 refine qc hTN rfl ?_;conv=>whnf
 exact rfl
theorem Ao12(hh:hs[i]? =some hv)(hr:rows[i]? =some rw0)(hlr:rw0.length<=100000):∀o,oA[12]? =some o->OpX Tryz.prog o (SAb m row y0 b p n b0 i j hs rows hv y rw0 h' (L 0) (L 1) (L 2) (L 3) (L 4) true (L 6) (L 7) (L 8) (L 9) (L 10) true false (L 13) false) fun Q=>∃h'',Q=SAb m row y0 b p n b0 i j hs rows hv y rw0 h'' (L 0) (L 1) (L 2) (L 3) (L 4) true (L 6) (L 7) (L 8) (L 9) (L 10) true true (L 13) false:=by
 intro o ho;have ho:some _=some o:=ho;cases ho
 refine(zd7 (k:=.iv) (i:=i) (row:=rw0) (y:=y) rfl rfl rfl rfl rfl rfl yq rfl rfl rfl rfl rfl rfl rfl rfl hh hr ?_ ?_).mono fun Q h=>?_
 .show(_+1)*88<=_;omega
 .decide
 .obtain⟨h'',rfl⟩:=h;exact⟨h'',rfl⟩
theorem Ao13(hin:i<n):∀o,oA[13]? =some o->OpT Tryz.prog o (SAb m row y0 b p n b0 i j hs rows hv y rw0 h' true true (L 2) (L 3) (L 4) (L 5) (L 6) (L 7) (L 8) (L 9) (L 10) (L 11) (L 12) false (L 14)) (SAb m row y0 b p n b0 i j hs rows hv y rw0 h' true true (L 2) (L 3) (L 4) (L 5) (L 6) (L 7) (L 8) (L 9) (L 10) (L 11) (L 12) true (L 14)):=by
 intro o ho;have ho:some _=some o:=ho;cases ho
 exact(yi (j:=(i:Int)) rfl rfl rfl Tryz.underlying22 Tryz.type23 rfl rfl rfl O O).to rfl
theorem Ao14(hi:i<hs.length):∀o,oA[14]? =some o->OpT Tryz.prog o (SAb m row y0 b p n b0 i j hs rows hv y rw0 h' (L 0) (L 1) (L 2) (L 3) (L 4) (L 5) (L 6) (L 7) (L 8) (L 9) (L 10) (L 11) true true false) (SAb m row y0 b p n b0 i j hs rows hv y rw0 h' (L 0) (L 1) (L 2) (L 3) (L 4) (L 5) (L 6) (L 7) (L 8) (L 9) (L 10) (L 11) true true true):=by
 intro o ho;have ho:some _=some o:=ho;cases ho
 exact(zd8 (i:=i) rfl rfl rfl yq qh2 rfl rfl rfl rfl hi).to rfl
theorem Astep(hin:i<n)(hh:hs[i]? =some hv)(hc:∀K,zit K->zgf K->Fn 299 (HA b p K) [.int .i64 i,.int .i64 j,.agg (ivC y0),.ptr 1000003 0,.ptr 1000004 0,.ptr 1000005 0] (.agg (ivC y)) (HA b p K))(hr:rows[i]? =some rw0)(hlr:rw0.length<=100000)(hi:i<hs.length)
 (q:Nat) (o:Oper) (hcl:∀j oj,oA[j]? =some oj->L j=true->∀e∈oj.after,qN .any e=true->L e.on=true) (ho:oA[q]? =some o) (hL:L q=false)
 (hd:∀e∈o.after,qN .any e=true->L e.on=true):∀Q,SA m row y0 b p n b0 i j hs rows hv y rw0 L Q->OpX Tryz.prog o Q (SA m row y0 b p n b0 i j hs rows hv y rw0 (zz8 L q)):=by
 rintro Q ⟨h',rfl⟩;have dpq:∀ {j:Nat},oA[j]? =some o->∀q,((oA[j]?.map fun o=>o.after.toList.any fun e=>qN .any e&&qM e.on q)=some true)->L q=true:=fun {j}ho q hq=>zjp ho hd q hq
 have cl:∀a q,((oA[a]?.map fun o=>o.after.toList.any fun e=>qN .any e&&qM e.on q)=some true)->L a=true->L q=true:=fun a q hq ha=>zm5 hcl hq ha
 match q,ho,hL with
 |0,ho,hL=>
  have hall:=Ao0 m row y0 b p n b0 i j hs rows hv y rw0 h' L o ho;refine OpT.x (σ':=SAb m row y0 b p n b0 i j hs rows hv y rw0 h' true (L 1) (L 2) (L 3) (L 4) (L 5) (L 6) (L 7) (L 8) (L 9) (L 10) (L 11) (L 12) (L 13) (L 14)) ?_ ⟨h',rfl⟩;show OpT Tryz.prog o (SAb m row y0 b p n b0 i j hs rows hv y rw0 h' (L 0) (L 1) (L 2) (L 3) (L 4) (L 5) (L 6) (L 7) (L 8) (L 9) (L 10) (L 11) (L 12) (L 13) (L 14)) _;rw[hL];exact hall
 |1,ho,hL=>
  have hall:=Ao1 m row y0 b p n b0 i j hs rows hv y rw0 h' L o ho;refine OpT.x (σ':=SAb m row y0 b p n b0 i j hs rows hv y rw0 h' (L 0) true (L 2) (L 3) (L 4) (L 5) (L 6) (L 7) (L 8) (L 9) (L 10) (L 11) (L 12) (L 13) (L 14)) ?_ ⟨h',rfl⟩;show OpT Tryz.prog o (SAb m row y0 b p n b0 i j hs rows hv y rw0 h' (L 0) (L 1) (L 2) (L 3) (L 4) (L 5) (L 6) (L 7) (L 8) (L 9) (L 10) (L 11) (L 12) (L 13) (L 14)) _;rw[hL];exact hall
 |2,ho,hL=>
  have hall:=Ao2 m row y0 b p n b0 i j hs rows hv y rw0 h' L o ho;refine OpT.x (σ':=SAb m row y0 b p n b0 i j hs rows hv y rw0 h' (L 0) (L 1) true (L 3) (L 4) (L 5) (L 6) (L 7) (L 8) (L 9) (L 10) (L 11) (L 12) (L 13) (L 14)) ?_ ⟨h',rfl⟩;show OpT Tryz.prog o (SAb m row y0 b p n b0 i j hs rows hv y rw0 h' (L 0) (L 1) (L 2) (L 3) (L 4) (L 5) (L 6) (L 7) (L 8) (L 9) (L 10) (L 11) (L 12) (L 13) (L 14)) _;rw[hL];exact hall
 |3,ho,hL=>
  have hall:=Ao3 m row y0 b p n b0 i j hs rows hv y rw0 h' L o ho;refine OpT.x (σ':=SAb m row y0 b p n b0 i j hs rows hv y rw0 h' (L 0) (L 1) (L 2) true (L 4) (L 5) (L 6) (L 7) (L 8) (L 9) (L 10) (L 11) (L 12) (L 13) (L 14)) ?_ ⟨h',rfl⟩;show OpT Tryz.prog o (SAb m row y0 b p n b0 i j hs rows hv y rw0 h' (L 0) (L 1) (L 2) (L 3) (L 4) (L 5) (L 6) (L 7) (L 8) (L 9) (L 10) (L 11) (L 12) (L 13) (L 14)) _;rw[hL];exact hall
 |4,ho,hL=>
  have hall:=Ao4 m row y0 b p n b0 i j hs rows hv y rw0 h' L hin o ho;have g2:L 2=true:=dpq ho 2 OB;have g3:L 3=true:=dpq ho 3 OB;refine OpT.x (σ':=SAb m row y0 b p n b0 i j hs rows hv y rw0 h' (L 0) (L 1) (L 2) (L 3) true (L 5) (L 6) (L 7) (L 8) (L 9) (L 10) (L 11) (L 12) (L 13) (L 14)) ?_ ⟨h',rfl⟩;show OpT Tryz.prog o (SAb m row y0 b p n b0 i j hs rows hv y rw0 h' (L 0) (L 1) (L 2) (L 3) (L 4) (L 5) (L 6) (L 7) (L 8) (L 9) (L 10) (L 11) (L 12) (L 13) (L 14)) _;rw[hL,g2,g3];exact hall
 |5,ho,hL=>
  have hall:=Ao5 m row y0 b p n b0 i j hs rows hv y rw0 h' L hh o ho;have g4:L 4=true:=dpq ho 4 OB;have g12:L 12=false:=by
   cases h:L 12 with
   |false=>rfl
   |true=>have:=cl 12 5 OB (h);rw[hL]at this;cases this
  have g14:L 14=false:=by
   cases h:L 14 with
   |false=>rfl
   |true=>have:=cl 12 5 OB (cl 14 12 OB (h));rw[hL]at this;cases this
  refine OpT.x (σ':=SAb m row y0 b p n b0 i j hs rows hv y rw0 h' (L 0) (L 1) (L 2) (L 3) (L 4) true (L 6) (L 7) (L 8) (L 9) (L 10) (L 11) (L 12) (L 13) (L 14)) ?_ ⟨h',rfl⟩;show OpT Tryz.prog o (SAb m row y0 b p n b0 i j hs rows hv y rw0 h' (L 0) (L 1) (L 2) (L 3) (L 4) (L 5) (L 6) (L 7) (L 8) (L 9) (L 10) (L 11) (L 12) (L 13) (L 14)) _;rw[hL,g4,g12,g14];exact hall
 |6,ho,hL=>
  have hall:=Ao6 m row y0 b p n b0 i j hs rows hv y rw0 h' L o ho;refine OpT.x (σ':=SAb m row y0 b p n b0 i j hs rows hv y rw0 h' (L 0) (L 1) (L 2) (L 3) (L 4) (L 5) true (L 7) (L 8) (L 9) (L 10) (L 11) (L 12) (L 13) (L 14)) ?_ ⟨h',rfl⟩;show OpT Tryz.prog o (SAb m row y0 b p n b0 i j hs rows hv y rw0 h' (L 0) (L 1) (L 2) (L 3) (L 4) (L 5) (L 6) (L 7) (L 8) (L 9) (L 10) (L 11) (L 12) (L 13) (L 14)) _;rw[hL];exact hall
 |7,ho,hL=>
  have hall:=Ao7 m row y0 b p n b0 i j hs rows hv y rw0 h' L o ho;refine OpT.x (σ':=SAb m row y0 b p n b0 i j hs rows hv y rw0 h' (L 0) (L 1) (L 2) (L 3) (L 4) (L 5) (L 6) true (L 8) (L 9) (L 10) (L 11) (L 12) (L 13) (L 14)) ?_ ⟨h',rfl⟩;show OpT Tryz.prog o (SAb m row y0 b p n b0 i j hs rows hv y rw0 h' (L 0) (L 1) (L 2) (L 3) (L 4) (L 5) (L 6) (L 7) (L 8) (L 9) (L 10) (L 11) (L 12) (L 13) (L 14)) _;rw[hL];exact hall
 |8,ho,hL=>
  have hall:=Ao8 m row y0 b p n b0 i j hs rows hv y rw0 h' L o ho;refine OpT.x (σ':=SAb m row y0 b p n b0 i j hs rows hv y rw0 h' (L 0) (L 1) (L 2) (L 3) (L 4) (L 5) (L 6) (L 7) true (L 9) (L 10) (L 11) (L 12) (L 13) (L 14)) ?_ ⟨h',rfl⟩;show OpT Tryz.prog o (SAb m row y0 b p n b0 i j hs rows hv y rw0 h' (L 0) (L 1) (L 2) (L 3) (L 4) (L 5) (L 6) (L 7) (L 8) (L 9) (L 10) (L 11) (L 12) (L 13) (L 14)) _;rw[hL];exact hall
 |9,ho,hL=>
  have hall:=Ao9 m row y0 b p n b0 i j hs rows hv y rw0 h' L o ho;refine OpT.x (σ':=SAb m row y0 b p n b0 i j hs rows hv y rw0 h' (L 0) (L 1) (L 2) (L 3) (L 4) (L 5) (L 6) (L 7) (L 8) true (L 10) (L 11) (L 12) (L 13) (L 14)) ?_ ⟨h',rfl⟩;show OpT Tryz.prog o (SAb m row y0 b p n b0 i j hs rows hv y rw0 h' (L 0) (L 1) (L 2) (L 3) (L 4) (L 5) (L 6) (L 7) (L 8) (L 9) (L 10) (L 11) (L 12) (L 13) (L 14)) _;rw[hL];exact hall
 |10,ho,hL=>
  have hall:=Ao10 m row y0 b p n b0 i j hs rows hv y rw0 h' L hc o ho;have g6:L 6=true:=dpq ho 6 OB;have g7:L 7=true:=dpq ho 7 OB;have g8:L 8=true:=dpq ho 8 OB;have g9:L 9=true:=dpq ho 9 OB;have g12:L 12=false:=by
   cases h:L 12 with
   |false=>rfl
   |true=>have:=cl 11 10 OB (cl 12 11 OB (h));rw[hL]at this;cases this
  have g14:L 14=false:=by
   cases h:L 14 with
   |false=>rfl
   |true=>have:=cl 11 10 OB (cl 12 11 OB (cl 14 12 OB (h)));rw[hL]at this;cases this
  refine OpT.x (σ':=SAb m row y0 b p n b0 i j hs rows hv y rw0 h' (L 0) (L 1) (L 2) (L 3) (L 4) (L 5) (L 6) (L 7) (L 8) (L 9) true (L 11) (L 12) (L 13) (L 14)) ?_ ⟨h',rfl⟩;show OpT Tryz.prog o (SAb m row y0 b p n b0 i j hs rows hv y rw0 h' (L 0) (L 1) (L 2) (L 3) (L 4) (L 5) (L 6) (L 7) (L 8) (L 9) (L 10) (L 11) (L 12) (L 13) (L 14)) _;rw[hL,g6,g7,g8,g9,g12,g14];exact hall
 |11,ho,hL=>
  have hall:=Ao11 m row y0 b p n b0 i j hs rows hv y rw0 h' L o ho;have g10:L 10=true:=dpq ho 10 OB;refine OpT.x (σ':=SAb m row y0 b p n b0 i j hs rows hv y rw0 h' (L 0) (L 1) (L 2) (L 3) (L 4) (L 5) (L 6) (L 7) (L 8) (L 9) (L 10) true (L 12) (L 13) (L 14)) ?_ ⟨h',rfl⟩;show OpT Tryz.prog o (SAb m row y0 b p n b0 i j hs rows hv y rw0 h' (L 0) (L 1) (L 2) (L 3) (L 4) (L 5) (L 6) (L 7) (L 8) (L 9) (L 10) (L 11) (L 12) (L 13) (L 14)) _;rw[hL,g10];exact hall
 |12,ho,hL=>
  have hall:=Ao12 m row y0 b p n b0 i j hs rows hv y rw0 h' L hh hr hlr o ho;have g5:L 5=true:=dpq ho 5 OB;have g11:L 11=true:=dpq ho 11 OB;have g14:L 14=false:=by
   cases h:L 14 with
   |false=>rfl
   |true=>have:=cl 14 12 OB (h);rw[hL]at this;cases this
  show OpX Tryz.prog o (SAb m row y0 b p n b0 i j hs rows hv y rw0 h' (L 0) (L 1) (L 2) (L 3) (L 4) (L 5) (L 6) (L 7) (L 8) (L 9) (L 10) (L 11) (L 12) (L 13) (L 14)) (fun Q=>∃h'',Q=SAb m row y0 b p n b0 i j hs rows hv y rw0 h'' (L 0) (L 1) (L 2) (L 3) (L 4) (L 5) (L 6) (L 7) (L 8) (L 9) (L 10) (L 11) true (L 13) (L 14));rw[hL,g5,g11,g14];exact hall
 |13,ho,hL=>
  have hall:=Ao13 m row y0 b p n b0 i j hs rows hv y rw0 h' L hin o ho;have g0:L 0=true:=dpq ho 0 OB;have g1:L 1=true:=dpq ho 1 OB;refine OpT.x (σ':=SAb m row y0 b p n b0 i j hs rows hv y rw0 h' (L 0) (L 1) (L 2) (L 3) (L 4) (L 5) (L 6) (L 7) (L 8) (L 9) (L 10) (L 11) (L 12) true (L 14)) ?_ ⟨h',rfl⟩;show OpT Tryz.prog o (SAb m row y0 b p n b0 i j hs rows hv y rw0 h' (L 0) (L 1) (L 2) (L 3) (L 4) (L 5) (L 6) (L 7) (L 8) (L 9) (L 10) (L 11) (L 12) (L 13) (L 14)) _;rw[hL,g0,g1];exact hall
 |14,ho,hL=>
  have hall:=Ao14 m row y0 b p n b0 i j hs rows hv y rw0 h' L hi o ho;have g13:L 13=true:=dpq ho 13 OB;have g12:L 12=true:=dpq ho 12 OB;refine OpT.x (σ':=SAb m row y0 b p n b0 i j hs rows hv y rw0 h' (L 0) (L 1) (L 2) (L 3) (L 4) (L 5) (L 6) (L 7) (L 8) (L 9) (L 10) (L 11) (L 12) (L 13) true) ?_ ⟨h',rfl⟩;show OpT Tryz.prog o (SAb m row y0 b p n b0 i j hs rows hv y rw0 h' (L 0) (L 1) (L 2) (L 3) (L 4) (L 5) (L 6) (L 7) (L 8) (L 9) (L 10) (L 11) (L 12) (L 13) (L 14)) _;rw[hL,g13,g12];exact hall
 |q+15,ho,_=>
  have hs:oA.size=15:=Z;have:=(Array.getElem?_eq_some_iff.1 ho).1;omega
end
theorem qg8(b:Mx)(p:Int){F:Nat->Nat->Iv->Iv}{m:Mx}(hF:CA b p F m)(hl:m.length<=100)(h8:∀r∈m,r.length<=100):
 SemOK Tryz.prog TN Tryz.f203.results.toList [] (.sl .vs (xt F m)) (HA0 b p) (zev 1 zy8) ⟨[.sl .vs m,.fn 299 [.ptr 1000003 0,.ptr 1000004 0,.ptr 1000005 0],.any,.any,.nilsl]++jr 39,fr5++HA0 b p⟩:=by
 obtain⟨G,hG⟩:∃G,xt F m=G:=⟨_,rfl⟩;have hGl:G.length=m.length:=by rw[<-hG];unfold xt;rw[qJ]
 have hGi:∀(i:Nat)(row:List Iv),m[i]? =some row->G[i]? =some (row.mapIdx fun j x=>F i j x):=fun i row h=>by
  rw[<-hG];exact zu9 h
 rw[hG];refine zdx hTN hmx [8] yq (E:=23) (e:=28) (k:=.iv) (kk:=.vs) (fun r=>r) (fun _=>rfl) rfl (cap:=m.length) (fun rows=>rows=G)
  (fun b0=>⟨[.sl .vs m,.fn 299 [.ptr 1000003 0,.ptr 1000004 0,.ptr 1000005 0],.any,.any,.nilsl,.val (.slice (some ⟨b0,0,none⟩) m.length m.length),.any,.any,.any,.any,.sl .vs m,.int .i64 m.length,.val (.slice (some ⟨b0,0,none⟩) m.length m.length)]++jr 31,fr5++ [(qa,.gst (vu JT 23 28 .iv b0 m.length (qC m.length (.slice none 0 0)) (qC m.length []) none)),(1000003,.cells [.fn 23 []]),(1000004,.cells [.sl .vs b]),(1000005,.cells [.int .i64 p])]⟩)
  (fun b0 hs rows=>⟨[.sl .vs m,.fn 299 [.ptr 1000003 0,.ptr 1000004 0,.ptr 1000005 0],.any,.any,.val (.slice (some ⟨b0,0,none⟩) m.length m.length)]++jr 39,fr5++ [(qa,.gst (vu JT 23 28 .iv b0 m.length hs rows none)),(1000003,.cells [.fn 23 []]),(1000004,.cells [.sl .vs b]),(1000005,.cells [.int .i64 p])]⟩)
  (fun rows=> [.sl .vs m,.fn 299 [.ptr 1000003 0,.ptr 1000004 0,.ptr 1000005 0],.any,.any,.sl .vs rows]++jr 39) ?_ (fun b0=>?_) (fun b0 hs rows=>Z) (fun b0 hs rows h=>⟨rfl,?_⟩) (fun b0 hs rows h=>?_)
 .refine zb4 hTN (σa:=⟨[.sl .vs m,.fn 299 [.ptr 1000003 0,.ptr 1000004 0,.ptr 1000005 0],.any,.any,.nilsl,.any,.any,.any,.any,.any,.sl .vs m,.int .i64 m.length]++jr 32,fr5++HA0 b p⟩) (n:=m.length) (e:=28) (k:=.iv) _ _ (spl 2 rfl) rfl yq rfl rfl rfl rfl rfl Tryz.underlying22 Tryz.type23 rfl rfl OA O _ ?_ (fun b0=>?_)
  .conv=>whnf
   exact rfl
  .conv=>whnf
   exact rfl
 .conv=>whnf
  refine⟨Nat×List Value,fun y=>y.1<=m.length/\y.2.length=m.length,fun y=> [(15,.int .i64 y.1)],fun y=> [(9,.free),(39,.free),(100039,.free),(1500039,.free),(qa,.gst (vu JT 23 28 .iv b0 m.length y.2 (rwA G y.1 0) none))],fun y=>m.length-y.1,(0,qC m.length (.slice none 0 0)),⟨qH _,OC⟩,?_,?_⟩
  ·((conv=>whnf);refine qE ?_ ?_;repeat' first|refine lc ?_ ?_|refine lh1 ?_ ?_|refine bc0 ?_|exact KXZ|refine lg0 ?_|refine lt0 ?_)
   exact bg0 (by rw[zdz,hGl])
  rintro⟨i,hs⟩ ⟨hi,hh⟩;have hi:i<=m.length:=hi;have hh:hs.length=m.length:=hh
  (refine⟨Z,?_⟩;(conv=>whnf))
  refine brI (fun c1=>?_) (fun c1=>?_)
  .have c1:i<m.length:=by have:=Z0 c1;omega
   conv=>whnf
   refine⟨⟨O,O⟩,fun(row:List Iv)hr=>?_⟩;have hr:m[i]? =some row:=by simpa using hr
   have hrl:=h8 row (qB hr);have hGr:=hGi i row hr;generalize hg:(row.mapIdx fun j x=>F i j x)=g at hGr;have hgl:g.length=row.length:=by rw[<-hg,qJ]
   conv=>whnf
   refine⟨Nat×List Value,fun y=>y.1<=row.length/\y.2.length=m.length,fun y=> [(16,.any),(17,.any),(18,.any),(19,.any),(22,.int .i64 y.1)],fun y=> [(9,.free),(39,.free),(100039,.free),(1500039,.free),(qa,.gst (vu JT 23 28 .iv b0 m.length y.2 (rwA G i y.1) none))],fun y=>row.length-y.1,(0,hs),⟨qH _,hh⟩,?_,?_⟩
   .exact KZ0
   rintro⟨j,hs⟩ ⟨hj,hh⟩;have hj:j<=row.length:=hj;have hh:hs.length=m.length:=hh
   (refine⟨Z,?_⟩;(conv=>whnf))
   refine brI (fun c2=>?_) (fun c2=>?_)
   .have c2:j<row.length:=by have:=Z0 c2;omega
    conv=>whnf
    refine⟨⟨O,O⟩,fun(y0:Iv)hy=>?_⟩;have hy:row[j]? =some y0:=by simpa using hy
    have hgy:g[j]? =some (F i j y0):=by rw[<-hg,List.getElem?_mapIdx,hy];rfl
    obtain⟨hv,hhv⟩:∃hv,hs[i]? =some hv:=⟨_,qA O⟩;have ha:=zff (j:=j) hGr;have hb:=zg3 hGr hgy;conv=>whnf
    refine zao hmx (SA m row y0 b p m.length b0 i j hs (rwA G i j) hv (F i j y0) (g.take j)) (σ0:=SAb m row y0 b p m.length b0 i j hs (rwA G i j) hv (F i j y0) (g.take j) (.slice none 0 0) false false false false false false false false false false false false false false false) Z ⟨_,rfl⟩ ?_ Z (fun L q o h1 h2 h3 h4=>Astep m row y0 b p m.length b0 i j hs (rwA G i j) hv (F i j y0) (g.take j) L c1 hhv (fun K h5 h6=>hF K h5 h6 i j row y0 hr hy) ha (by rw[qK];omega) O q o h1 h2 h3 h4) ?_
    .exact KZ0
    .rintro Q ⟨h',rfl⟩;conv=>whnf
     refine⟨(j+1,hs.set i h'),⟨c2,by rw[qL];exact hh⟩,by show row.length-(j+1)<row.length-j;omega,?_⟩
     ((conv=>whnf);refine qE ?_ ?_;repeat' first|refine lc ?_ ?_|refine lh1 ?_ ?_|refine bc0 ?_|exact KXZ|refine lg0 ?_|refine lt0 ?_)
     .refine ai0 ?_;rw[wI O];show(j:Int)+1=((j+1:Nat):Int);omega
     .refine bg0 ?_;rw[<-hb];rfl
   .conv=>whnf
    have hj2:j=row.length:=by have:=Z1 c2;omega
    have hn:=zd0 hGr;refine⟨(i+1,hs),⟨O,hh⟩,by show m.length-(i+1)<m.length-i;omega,?_⟩
    ((conv=>whnf);refine qE ?_ ?_;repeat' first|refine lc ?_ ?_|refine lh1 ?_ ?_|refine bc0 ?_|exact KXZ|refine lg0 ?_|refine lt0 ?_)
    .exact ai0 (by rw[wI O];omega)
    .exact bg0 (by rw[hj2,<-hgl,hn])
  .conv=>whnf
   have hi2:i=m.length:=by have:=Z1 c1;omega
   refine⟨hs,rwA G i 0,by rw[hi2,<-hGl];exact zg4 G,?_⟩;exact KZ0
 .subst h;rw[hGl];exact⟨.inr (.inl rfl),.inr (.inl rfl),.inl rfl,.inl rfl,.inr (.inr ⟨rfl,OC⟩),.inl rfl,za3 _⟩
 .subst h;refine wx hTN hmx ?_;conv=>whnf
  exact⟨lr rfl,lh1 (bg0 rfl) (lh1 (zg rfl rfl) (lh1 (zg rfl rfl) (lh1 (zg rfl rfl) lh0)))⟩
theorem n125A(b:Mx)(p:Int){F:Nat->Nat->Iv->Iv}{m:Mx}(hF:CA b p F m)(hl:m.length<=100)(h8:∀r∈m,r.length<=100):Fn 203 (HA0 b p) [.sl .vs m,.fn 299 [.ptr 1000003 0,.ptr 1000004 0,.ptr 1000005 0]] (.sl .vs (xt F m)) (HA0 b p):=by
 refine qy (code:=zy8) hTN hmx Tryz.func203 rfl rfl (ex:= []) ?_;conv=>whnf
 refine je hTN hmx 1 (fun _:Unit=>⟨[.sl .vs m,.fn 299 [.ptr 1000003 0,.ptr 1000004 0,.ptr 1000005 0],.any,.any,.nilsl]++jr 39,fr5++HA0 b p⟩) (fun _=>Z) ?_ (fun _=>qg8 b p hF hl h8);conv=>whnf
 refine⟨(),?_⟩;exact KZ0
