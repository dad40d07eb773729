/- matrix.Identity. -/
import Derived.Test.YtbolipecnhlnnaaGreatDoorLNc
set_option linter.all false
open List renaming replicate->qA,getElem?_range->qB,range->qC,getElem?_map->qD,length_take->qE,length_set->qF
open Go.Region renaming binds->qG
namespace Go.Proofs.YtbolipecnhlnnaaGreatDoor
open Go Go.Sx
set_option maxRecDepth 100000
set_option maxHeartbeats 8000000
noncomputable def oId:Array Oper:=zty 13 (Tryz.f208.body.getD .skip)
def yf(c:Int)(n b0 i j:Nat)(hs:List Value)(rows:Mx)(hv:Value)(rw0:List Iv)(h':Value)(q0 q1 q2 q3 q4 q5 q6 q7 q8 q9 q10 q11 q12:Bool):St:=
 ⟨[.int .i64 n,.any,.nilsl,.val (.slice (some ⟨b0,0,none⟩) n n),.int .i64 i,.int .i64 j,.int .i64 c,.any,.any,.any,.any,.any,.any,.int .i64 n,.val (.slice (some ⟨b0,0,none⟩) n n),.val (.slice (some ⟨b0,0,none⟩) n n),.int .i64 n,.int .i64 i,.any,.any,.int .i64 n,.int .i64 j,.any,.any,.any,.any,.any,(bif q0 then .val (.slice (some ⟨b0,0,none⟩) n n)else .any),(bif q1 then .int .i64 i else .any),(bif q2 then .val (.slice (some ⟨b0,0,none⟩) n n)else .any),(bif q3 then .int .i64 i else .any),(bif q4 then .val (.pointer (some ⟨b0,i,none⟩))else .any),(bif q5 then .val hv else .any),(bif q6 then .int .i64 c else .any),(bif q7 then .agg (dyC (zcb c))else .any),(bif q8 then .agg (ivC (whI c))else .any),(bif q9 then .sl .iv [whI c]else .any),(bif q10 then .val h' else .any),(bif q11 then .val (.pointer (some ⟨b0,i,none⟩))else .any),.any,.any,.any],
  [(14,.free),(37,.free),(100037,.free),(1500037,.free),(qa,.gst (bif q12 then vu JT 23 28 .iv b0 n (hs.set i h') (rows.set i (rw0++ [(whI c)])) none else bif q10 then vu JT 23 28 .iv b0 n hs rows (some (i,h',rw0++ [(whI c)]))else vu JT 23 28 .iv b0 n hs rows none))]⟩
def SId(c:Int)(n b0 i j:Nat)(hs:List Value)(rows:Mx)(hv:Value)(rw0:List Iv)(L:Nat->Bool)(K:St):Prop:=∃h':Value,K=yf c n b0 i j hs rows hv rw0 h' (L 0) (L 1) (L 2) (L 3) (L 4) (L 5) (L 6) (L 7) (L 8) (L 9) (L 10) (L 11) (L 12)
section
variable (c:Int) (n b0 i j:Nat) (hs:List Value) (rows:Mx) (hv:Value) (rw0:List Iv) (h':Value) (L:Nat->Bool)
theorem Ido0:∀o,oId[0]? =some o->OpT Tryz.prog o (yf c n b0 i j hs rows hv rw0 h' false (L 1) (L 2) (L 3) (L 4) (L 5) (L 6) (L 7) (L 8) (L 9) (L 10) (L 11) (L 12)) (yf c n b0 i j hs rows hv rw0 h' true (L 1) (L 2) (L 3) (L 4) (L 5) (L 6) (L 7) (L 8) (L 9) (L 10) (L 11) (L 12)):=by
 intro o ho;have ho:some _=some o:=ho;cases ho
 refine qc hTN rfl ?_;conv=>whnf
 exact rfl
theorem Ido1:∀o,oId[1]? =some o->OpT Tryz.prog o (yf c n b0 i j hs rows hv rw0 h' (L 0) false (L 2) (L 3) (L 4) (L 5) (L 6) (L 7) (L 8) (L 9) (L 10) (L 11) (L 12)) (yf c n b0 i j hs rows hv rw0 h' (L 0) true (L 2) (L 3) (L 4) (L 5) (L 6) (L 7) (L 8) (L 9) (L 10) (L 11) (L 12)):=by
 intro o ho;have ho:some _=some o:=ho;cases ho
 refine qc hTN rfl ?_;conv=>whnf
 exact rfl
theorem Ido2:∀o,oId[2]? =some o->OpT Tryz.prog o (yf c n b0 i j hs rows hv rw0 h' (L 0) (L 1) false (L 3) (L 4) (L 5) (L 6) (L 7) (L 8) (L 9) (L 10) (L 11) (L 12)) (yf c n b0 i j hs rows hv rw0 h' (L 0) (L 1) true (L 3) (L 4) (L 5) (L 6) (L 7) (L 8) (L 9) (L 10) (L 11) (L 12)):=by
 intro o ho;have ho:some _=some o:=ho;cases ho
 refine qc hTN rfl ?_;conv=>whnf
 exact rfl
theorem Ido3:∀o,oId[3]? =some o->OpT Tryz.prog o (yf c n b0 i j hs rows hv rw0 h' (L 0) (L 1) (L 2) false (L 4) (L 5) (L 6) (L 7) (L 8) (L 9) (L 10) (L 11) (L 12)) (yf c n b0 i j hs rows hv rw0 h' (L 0) (L 1) (L 2) true (L 4) (L 5) (L 6) (L 7) (L 8) (L 9) (L 10) (L 11) (L 12)):=by
 intro o ho;have ho:some _=some o:=ho;cases ho
 refine qc hTN rfl ?_;conv=>whnf
 exact rfl
theorem Ido4(hin:i<n):∀o,oId[4]? =some o->OpT Tryz.prog o (yf c n b0 i j hs rows hv rw0 h' (L 0) (L 1) true true false (L 5) (L 6) (L 7) (L 8) (L 9) (L 10) (L 11) (L 12)) (yf c n b0 i j hs rows hv rw0 h' (L 0) (L 1) true true true (L 5) (L 6) (L 7) (L 8) (L 9) (L 10) (L 11) (L 12)):=by
 intro o ho;have ho:some _=some o:=ho;cases ho
 exact(yi (j:=(i:Int)) rfl rfl rfl Tryz.underlying22 Tryz.type23 rfl rfl rfl O O).to rfl
theorem Ido5(hh:hs[i]? =some hv):∀o,oId[5]? =some o->OpT Tryz.prog o (yf c n b0 i j hs rows hv rw0 h' (L 0) (L 1) (L 2) (L 3) true false (L 6) (L 7) (L 8) (L 9) false (L 11) false) (yf c n b0 i j hs rows hv rw0 h' (L 0) (L 1) (L 2) (L 3) true true (L 6) (L 7) (L 8) (L 9) false (L 11) false):=by
 intro o ho;have ho:some _=some o:=ho;cases ho
 exact(zd9 (j:=i) rfl rfl rfl qgc rfl rfl rfl rfl hh).to rfl
theorem Ido6:∀o,oId[6]? =some o->OpT Tryz.prog o (yf c n b0 i j hs rows hv rw0 h' (L 0) (L 1) (L 2) (L 3) (L 4) (L 5) false (L 7) (L 8) (L 9) (L 10) (L 11) (L 12)) (yf c n b0 i j hs rows hv rw0 h' (L 0) (L 1) (L 2) (L 3) (L 4) (L 5) true (L 7) (L 8) (L 9) (L 10) (L 11) (L 12)):=by
 intro o ho;have ho:some _=some o:=ho;cases ho
 refine qc hTN rfl ?_;conv=>whnf
 exact rfl
theorem Ido7(hc: -4611686018427387904<=c/\c<=4611686018427387904):∀o,oId[7]? =some o->OpT Tryz.prog o (yf c n b0 i j hs rows hv rw0 h' (L 0) (L 1) (L 2) (L 3) (L 4) (L 5) true false (L 8) (L 9) false (L 11) false) (yf c n b0 i j hs rows hv rw0 h' (L 0) (L 1) (L 2) (L 3) (L 4) (L 5) true true (L 8) (L 9) false (L 11) false):=by
 intro o ho;have ho:some _=some o:=ho;cases ho
 refine qc hTN rfl ?_;conv=>whnf
 refine⟨[.gst _],_,(v77 c hc).lift yq zc9.stab zc9.mono,?_⟩;conv=>whnf
 exact rfl
theorem Ido8(hc: -4611686018427387904<=c/\c<=4611686018427387904):∀o,oId[8]? =some o->OpT Tryz.prog o (yf c n b0 i j hs rows hv rw0 h' (L 0) (L 1) (L 2) (L 3) (L 4) (L 5) (L 6) true false (L 9) false (L 11) false) (yf c n b0 i j hs rows hv rw0 h' (L 0) (L 1) (L 2) (L 3) (L 4) (L 5) (L 6) true true (L 9) false (L 11) false):=by
 intro o ho;have ho:some _=some o:=ho;cases ho
 refine qc hTN rfl ?_;conv=>whnf
 refine gZn (i136 (zjy c hc)) ?_;conv=>whnf
 exact rfl
theorem Ido9:∀o,oId[9]? =some o->OpT Tryz.prog o (yf c n b0 i j hs rows hv rw0 h' (L 0) (L 1) (L 2) (L 3) (L 4) (L 5) (L 6) (L 7) true false (L 10) (L 11) (L 12)) (yf c n b0 i j hs rows hv rw0 h' (L 0) (L 1) (L 2) (L 3) (L 4) (L 5) (L 6) (L 7) true true (L 10) (L 11) (L 12)):=by
 intro o ho;have ho:some _=some o:=ho;cases ho
 refine qc hTN rfl ?_;conv=>whnf
 exact rfl
theorem Ido10(hh:hs[i]? =some hv)(hr:rows[i]? =some rw0)(hlr:rw0.length<=100000):∀o,oId[10]? =some o->OpX Tryz.prog o (yf c n b0 i j hs rows hv rw0 h' (L 0) (L 1) (L 2) (L 3) (L 4) true (L 6) (L 7) (L 8) true false (L 11) false) fun K=>∃h'',K=yf c n b0 i j hs rows hv rw0 h'' (L 0) (L 1) (L 2) (L 3) (L 4) true (L 6) (L 7) (L 8) true true (L 11) false:=by
 intro o ho;have ho:some _=some o:=ho;cases ho
 refine(zd7 (k:=.iv) (i:=i) (row:=rw0) (y:=(whI c)) rfl rfl rfl rfl rfl rfl yq rfl rfl rfl rfl rfl rfl rfl rfl hh hr ?_ ?_).mono fun K h=>?_
 .show(_+1)*88<=_;omega
 .decide
 .obtain⟨h'',rfl⟩:=h;exact⟨h'',rfl⟩
theorem Ido11(hin:i<n):∀o,oId[11]? =some o->OpT Tryz.prog o (yf c n b0 i j hs rows hv rw0 h' true true (L 2) (L 3) (L 4) (L 5) (L 6) (L 7) (L 8) (L 9) (L 10) false (L 12)) (yf c n b0 i j hs rows hv rw0 h' true true (L 2) (L 3) (L 4) (L 5) (L 6) (L 7) (L 8) (L 9) (L 10) true (L 12)):=by
 intro o ho;have ho:some _=some o:=ho;cases ho
 exact(yi (j:=(i:Int)) rfl rfl rfl Tryz.underlying22 Tryz.type23 rfl rfl rfl O O).to rfl
theorem Ido12(hi:i<hs.length):∀o,oId[12]? =some o->OpT Tryz.prog o (yf c n b0 i j hs rows hv rw0 h' (L 0) (L 1) (L 2) (L 3) (L 4) (L 5) (L 6) (L 7) (L 8) (L 9) true true false) (yf c n b0 i j hs rows hv rw0 h' (L 0) (L 1) (L 2) (L 3) (L 4) (L 5) (L 6) (L 7) (L 8) (L 9) true true true):=by
 intro o ho;have ho:some _=some o:=ho;cases ho
 exact(zd8 (i:=i) rfl rfl rfl yq qh2 rfl rfl rfl rfl hi).to rfl
theorem qbs(hin:i<n)(hh:hs[i]? =some hv)(hc: -4611686018427387904<=c/\c<=4611686018427387904)(hr:rows[i]? =some rw0)(hlr:rw0.length<=100000)(hi:i<hs.length)
 (q:Nat) (o:Oper) (hcl:∀j oj,oId[j]? =some oj->L j=true->∀e∈oj.after,qG .any e=true->L e.on=true) (ho:oId[q]? =some o) (hL:L q=false)
 (hd:∀e∈o.after,qG .any e=true->L e.on=true):∀K,SId c n b0 i j hs rows hv rw0 L K->OpX Tryz.prog o K (SId c n b0 i j hs rows hv rw0 (zz8 L q)):=by
 rintro K ⟨h',rfl⟩;have dpq:∀ {j:Nat},oId[j]? =some o->∀q,((oId[j]?.map fun o=>o.after.toList.any fun e=>qG .any e&&Nat.beq e.on q)=some true)->L q=true:=fun {j}ho q hq=>zjp ho hd q hq
 have cl:∀a q,((oId[a]?.map fun o=>o.after.toList.any fun e=>qG .any e&&Nat.beq e.on q)=some true)->L a=true->L q=true:=fun a q hq ha=>zm5 hcl hq ha
 match q,ho,hL with
 |0,ho,hL=>
  have hall:=Ido0 c n b0 i j hs rows hv rw0 h' L o ho;refine OpT.x (σ':=yf c n b0 i j hs rows hv rw0 h' true (L 1) (L 2) (L 3) (L 4) (L 5) (L 6) (L 7) (L 8) (L 9) (L 10) (L 11) (L 12)) ?_ ⟨h',rfl⟩;show OpT Tryz.prog o (yf c n b0 i j hs rows hv rw0 h' (L 0) (L 1) (L 2) (L 3) (L 4) (L 5) (L 6) (L 7) (L 8) (L 9) (L 10) (L 11) (L 12)) _;rw[hL];exact hall
 |1,ho,hL=>
  have hall:=Ido1 c n b0 i j hs rows hv rw0 h' L o ho;refine OpT.x (σ':=yf c n b0 i j hs rows hv rw0 h' (L 0) true (L 2) (L 3) (L 4) (L 5) (L 6) (L 7) (L 8) (L 9) (L 10) (L 11) (L 12)) ?_ ⟨h',rfl⟩;show OpT Tryz.prog o (yf c n b0 i j hs rows hv rw0 h' (L 0) (L 1) (L 2) (L 3) (L 4) (L 5) (L 6) (L 7) (L 8) (L 9) (L 10) (L 11) (L 12)) _;rw[hL];exact hall
 |2,ho,hL=>
  have hall:=Ido2 c n b0 i j hs rows hv rw0 h' L o ho;refine OpT.x (σ':=yf c n b0 i j hs rows hv rw0 h' (L 0) (L 1) true (L 3) (L 4) (L 5) (L 6) (L 7) (L 8) (L 9) (L 10) (L 11) (L 12)) ?_ ⟨h',rfl⟩;show OpT Tryz.prog o (yf c n b0 i j hs rows hv rw0 h' (L 0) (L 1) (L 2) (L 3) (L 4) (L 5) (L 6) (L 7) (L 8) (L 9) (L 10) (L 11) (L 12)) _;rw[hL];exact hall
 |3,ho,hL=>
  have hall:=Ido3 c n b0 i j hs rows hv rw0 h' L o ho;refine OpT.x (σ':=yf c n b0 i j hs rows hv rw0 h' (L 0) (L 1) (L 2) true (L 4) (L 5) (L 6) (L 7) (L 8) (L 9) (L 10) (L 11) (L 12)) ?_ ⟨h',rfl⟩;show OpT Tryz.prog o (yf c n b0 i j hs rows hv rw0 h' (L 0) (L 1) (L 2) (L 3) (L 4) (L 5) (L 6) (L 7) (L 8) (L 9) (L 10) (L 11) (L 12)) _;rw[hL];exact hall
 |4,ho,hL=>
  have hall:=Ido4 c n b0 i j hs rows hv rw0 h' L hin o ho;have g2:L 2=true:=dpq ho 2 OB;have g3:L 3=true:=dpq ho 3 OB;refine OpT.x (σ':=yf c n b0 i j hs rows hv rw0 h' (L 0) (L 1) (L 2) (L 3) true (L 5) (L 6) (L 7) (L 8) (L 9) (L 10) (L 11) (L 12)) ?_ ⟨h',rfl⟩;show OpT Tryz.prog o (yf c n b0 i j hs rows hv rw0 h' (L 0) (L 1) (L 2) (L 3) (L 4) (L 5) (L 6) (L 7) (L 8) (L 9) (L 10) (L 11) (L 12)) _;rw[hL,g2,g3];exact hall
 |5,ho,hL=>
  have hall:=Ido5 c n b0 i j hs rows hv rw0 h' L hh o ho;have g4:L 4=true:=dpq ho 4 OB;have g10:L 10=false:=by
   cases h:L 10 with
   |false=>rfl
   |true=>have:=cl 10 5 OB (h);rw[hL]at this;cases this
  have g12:L 12=false:=by
   cases h:L 12 with
   |false=>rfl
   |true=>have:=cl 10 5 OB (cl 12 10 OB (h));rw[hL]at this;cases this
  refine OpT.x (σ':=yf c n b0 i j hs rows hv rw0 h' (L 0) (L 1) (L 2) (L 3) (L 4) true (L 6) (L 7) (L 8) (L 9) (L 10) (L 11) (L 12)) ?_ ⟨h',rfl⟩;show OpT Tryz.prog o (yf c n b0 i j hs rows hv rw0 h' (L 0) (L 1) (L 2) (L 3) (L 4) (L 5) (L 6) (L 7) (L 8) (L 9) (L 10) (L 11) (L 12)) _;rw[hL,g4,g10,g12];exact hall
 |6,ho,hL=>
  have hall:=Ido6 c n b0 i j hs rows hv rw0 h' L o ho;refine OpT.x (σ':=yf c n b0 i j hs rows hv rw0 h' (L 0) (L 1) (L 2) (L 3) (L 4) (L 5) true (L 7) (L 8) (L 9) (L 10) (L 11) (L 12)) ?_ ⟨h',rfl⟩;show OpT Tryz.prog o (yf c n b0 i j hs rows hv rw0 h' (L 0) (L 1) (L 2) (L 3) (L 4) (L 5) (L 6) (L 7) (L 8) (L 9) (L 10) (L 11) (L 12)) _;rw[hL];exact hall
 |7,ho,hL=>
  have hall:=Ido7 c n b0 i j hs rows hv rw0 h' L hc o ho;have g6:L 6=true:=dpq ho 6 OB;have g10:L 10=false:=by
   cases h:L 10 with
   |false=>rfl
   |true=>have:=cl 8 7 OB (cl 9 8 OB (cl 10 9 OB (h)));rw[hL]at this;cases this
  have g12:L 12=false:=by
   cases h:L 12 with
   |false=>rfl
   |true=>have:=cl 8 7 OB (cl 9 8 OB (cl 10 9 OB (cl 12 10 OB (h))));rw[hL]at this;cases this
  refine OpT.x (σ':=yf c n b0 i j hs rows hv rw0 h' (L 0) (L 1) (L 2) (L 3) (L 4) (L 5) (L 6) true (L 8) (L 9) (L 10) (L 11) (L 12)) ?_ ⟨h',rfl⟩;show OpT Tryz.prog o (yf c n b0 i j hs rows hv rw0 h' (L 0) (L 1) (L 2) (L 3) (L 4) (L 5) (L 6) (L 7) (L 8) (L 9) (L 10) (L 11) (L 12)) _;rw[hL,g6,g10,g12];exact hall
 |8,ho,hL=>
  have hall:=Ido8 c n b0 i j hs rows hv rw0 h' L hc o ho;have g7:L 7=true:=dpq ho 7 OB;have g10:L 10=false:=by
   cases h:L 10 with
   |false=>rfl
   |true=>have:=cl 9 8 OB (cl 10 9 OB (h));rw[hL]at this;cases this
  have g12:L 12=false:=by
   cases h:L 12 with
   |false=>rfl
   |true=>have:=cl 9 8 OB (cl 10 9 OB (cl 12 10 OB (h)));rw[hL]at this;cases this
  refine OpT.x (σ':=yf c n b0 i j hs rows hv rw0 h' (L 0) (L 1) (L 2) (L 3) (L 4) (L 5) (L 6) (L 7) true (L 9) (L 10) (L 11) (L 12)) ?_ ⟨h',rfl⟩;show OpT Tryz.prog o (yf c n b0 i j hs rows hv rw0 h' (L 0) (L 1) (L 2) (L 3) (L 4) (L 5) (L 6) (L 7) (L 8) (L 9) (L 10) (L 11) (L 12)) _;rw[hL,g7,g10,g12];exact hall
 |9,ho,hL=>
  have hall:=Ido9 c n b0 i j hs rows hv rw0 h' L o ho;have g8:L 8=true:=dpq ho 8 OB;refine OpT.x (σ':=yf c n b0 i j hs rows hv rw0 h' (L 0) (L 1) (L 2) (L 3) (L 4) (L 5) (L 6) (L 7) (L 8) true (L 10) (L 11) (L 12)) ?_ ⟨h',rfl⟩;show OpT Tryz.prog o (yf c n b0 i j hs rows hv rw0 h' (L 0) (L 1) (L 2) (L 3) (L 4) (L 5) (L 6) (L 7) (L 8) (L 9) (L 10) (L 11) (L 12)) _;rw[hL,g8];exact hall
 |10,ho,hL=>
  have hall:=Ido10 c n b0 i j hs rows hv rw0 h' L hh hr hlr o ho;have g5:L 5=true:=dpq ho 5 OB;have g9:L 9=true:=dpq ho 9 OB;have g12:L 12=false:=by
   cases h:L 12 with
   |false=>rfl
   |true=>have:=cl 12 10 OB (h);rw[hL]at this;cases this
  show OpX Tryz.prog o (yf c n b0 i j hs rows hv rw0 h' (L 0) (L 1) (L 2) (L 3) (L 4) (L 5) (L 6) (L 7) (L 8) (L 9) (L 10) (L 11) (L 12)) (fun K=>∃h'',K=yf c n b0 i j hs rows hv rw0 h'' (L 0) (L 1) (L 2) (L 3) (L 4) (L 5) (L 6) (L 7) (L 8) (L 9) true (L 11) (L 12));rw[hL,g5,g9,g12];exact hall
 |11,ho,hL=>
  have hall:=Ido11 c n b0 i j hs rows hv rw0 h' L hin o ho;have g0:L 0=true:=dpq ho 0 OB;have g1:L 1=true:=dpq ho 1 OB;refine OpT.x (σ':=yf c n b0 i j hs rows hv rw0 h' (L 0) (L 1) (L 2) (L 3) (L 4) (L 5) (L 6) (L 7) (L 8) (L 9) (L 10) true (L 12)) ?_ ⟨h',rfl⟩;show OpT Tryz.prog o (yf c n b0 i j hs rows hv rw0 h' (L 0) (L 1) (L 2) (L 3) (L 4) (L 5) (L 6) (L 7) (L 8) (L 9) (L 10) (L 11) (L 12)) _;rw[hL,g0,g1];exact hall
 |12,ho,hL=>
  have hall:=Ido12 c n b0 i j hs rows hv rw0 h' L hi o ho;have g11:L 11=true:=dpq ho 11 OB;have g10:L 10=true:=dpq ho 10 OB;refine OpT.x (σ':=yf c n b0 i j hs rows hv rw0 h' (L 0) (L 1) (L 2) (L 3) (L 4) (L 5) (L 6) (L 7) (L 8) (L 9) (L 10) (L 11) true) ?_ ⟨h',rfl⟩;show OpT Tryz.prog o (yf c n b0 i j hs rows hv rw0 h' (L 0) (L 1) (L 2) (L 3) (L 4) (L 5) (L 6) (L 7) (L 8) (L 9) (L 10) (L 11) (L 12)) _;rw[hL,g11,g10];exact hall
 |q+13,ho,_=>
  have hs:oId.size=13:=Z;have:=(Array.getElem?_eq_some_iff.1 ho).1;omega
end
noncomputable def qiy:Code:=Tryz.f208.body.getD .skip
abbrev frI:Hp:= [(14,.free),(37,.free),(100037,.free),(1500037,.free)]
theorem n35s(n:Nat)(hn:1<=n/\n<=8):
 SemOK Tryz.prog TN Tryz.f208.results.toList [] (.sl .vs (idM n)) G0 (zev 2 qiy) ⟨[.int .i64 n,.any,.nilsl]++jr 39,frI++G0⟩:=by
 obtain⟨G,hG⟩:∃G,idM n=G:=⟨_,rfl⟩;have hGe:G=(qC n).map fun i=>(qC n).map fun j=>whI (if i=j then 1 else 0):=by rw[<-hG];unfold idM;rw[Z5 O]
 have hGl:G.length=n:=by rw[hGe];simp
 have hGi:∀i:Nat,i<n->G[i]? =some ((qC n).map fun j=>whI (if i=j then 1 else 0)):=fun i h=>by
  rw[hGe,qD,qB h];rfl
 rw[hG];refine zdx hTN hmx [4,13] yq (E:=23) (e:=28) (k:=.iv) (kk:=.vs) (fun r=>r) (fun _=>rfl) rfl (cap:=n) (fun rows=>rows=G)
  (fun b0=>⟨[.int .i64 n,.any,.nilsl,.val (.slice (some ⟨b0,0,none⟩) n n)]++jr 9++ [.int .i64 n,.val (.slice (some ⟨b0,0,none⟩) n n)]++jr 27,frI++ [(qa,.gst (vu JT 23 28 .iv b0 n (qA n (.slice none 0 0)) (qA n []) none))]⟩)
  (fun b0 hs rows=>⟨[.any,.any,.val (.slice (some ⟨b0,0,none⟩) n n)]++jr 39,frI++ [(qa,.gst (vu JT 23 28 .iv b0 n hs rows none))]⟩)
  (fun rows=> [.any,.any,.sl .vs rows]++jr 39) ?_ (fun b0=>?_) (fun b0 hs rows=>Z) (fun b0 hs rows h=>⟨rfl,?_⟩) (fun b0 hs rows h=>?_)
 .refine zb4 hTN (σa:=⟨[.int .i64 n,.any,.nilsl]++jr 10++ [.int .i64 n]++jr 28,frI++G0⟩) (n:=n) (e:=28) (k:=.iv) _ _ (spl 1 rfl) rfl yq rfl rfl rfl rfl rfl Tryz.underlying22 Tryz.type23 rfl rfl OA O _ ?_ (fun b0=>?_)
  .conv=>whnf
   exact rfl
  .conv=>whnf
   exact rfl
 .conv=>whnf
  refine znm hTN (X:=Unit) _ _ (spl 1 rfl) ⟨[.int .i64 n,.any,.nilsl,.val (.slice (some ⟨b0,0,none⟩) n n)]++jr 9++ [.int .i64 n,.val (.slice (some ⟨b0,0,none⟩) n n),.val (.slice (some ⟨b0,0,none⟩) n n)]++jr 26,frI++ [(qa,.gst (vu JT 23 28 .iv b0 n (qA n (.slice none 0 0)) (qA n []) none))]⟩ (fun _=>⟨[.int .i64 n,.any,.nilsl,.val (.slice (some ⟨b0,0,none⟩) n n)]++jr 9++ [.int .i64 n,.val (.slice (some ⟨b0,0,none⟩) n n),.val (.slice (some ⟨b0,0,none⟩) n n),.int .i64 n]++jr 25,frI++ [(qa,.gst (vu JT 23 28 .iv b0 n (qA n (.slice none 0 0)) (qA n []) none))]⟩) ((zxw rfl rfl rfl rfl rfl rfl Tryz.underlying22 rfl).x ⟨(),rfl⟩) ?_ (fun _=>?_)
  .conv=>whnf
   exact rfl
  conv=>whnf
  refine⟨Nat×List Value,fun y=>y.1<=n/\y.2.length=n,fun y=> [(17,.int .i64 y.1)],fun y=> [(37,.free),(100037,.free),(1500037,.free),(qa,.gst (vu JT 23 28 .iv b0 n y.2 (rwA G y.1 0) none))],fun y=>n-y.1,(0,qA n (.slice none 0 0)),⟨Nat.zero_le _,OC⟩,?_,?_⟩
  ·((conv=>whnf);refine And.intro ?_ ?_;repeat' first|refine lc ?_ ?_|refine lh1 ?_ ?_|refine bc0 ?_|exact KXZ|refine lg0 ?_|refine lt0 ?_)
   exact bg0 (by rw[zdz,hGl])
  rintro⟨i,hs⟩ ⟨hi,hh⟩;have hi:i<=n:=hi;have hh:hs.length=n:=hh
  (refine⟨Z,?_⟩;(conv=>whnf))
  refine brI (fun c1=>?_) (fun c1=>?_)
  .have c1:i<n:=by have:=Z0 c1;omega
   have hGr:=hGi i c1;generalize hg:((qC n).map fun j=>whI (if i=j then 1 else 0))=g at hGr;have hgl:g.length=n:=by rw[<-hg];simp
   conv=>whnf
   refine⟨Nat×List Value,fun y=>y.1<=n/\y.2.length=n,fun y=> [(18,.any),(19,.any),(21,.int .i64 y.1)],fun y=> [(37,.free),(100037,.free),(1500037,.free),(qa,.gst (vu JT 23 28 .iv b0 n y.2 (rwA G i y.1) none))],fun y=>n-y.1,(0,hs),⟨Nat.zero_le _,hh⟩,?_,?_⟩
   .exact KZ0
   rintro⟨j,hs⟩ ⟨hj,hh⟩;have hj:j<=n:=hj;have hh:hs.length=n:=hh
   (refine⟨Z,?_⟩;(conv=>whnf))
   refine brI (fun c2=>?_) (fun c2=>?_)
   .have c2:j<n:=by have:=Z0 c2;omega
    have hgy:g[j]? =some (whI (if i=j then 1 else 0)):=by rw[<-hg,qD,qB c2];rfl
    obtain⟨hv,hhv⟩:∃hv,hs[i]? =some hv:=⟨_,List.getElem?_eq_getElem O⟩;have haa:=zff (j:=j) hGr;have hbb:=zg3 hGr hgy;conv=>whnf
    refine brI (fun c3=>?_) (fun c3=>?_)
    .have c3:i=j:=by have:=Z0 c3;omega
     rw[Z4 c3]at hbb;conv=>whnf
     refine zao hmx (SId 1 n b0 i j hs (rwA G i j) hv (g.take j)) (σ0:=yf 1 n b0 i j hs (rwA G i j) hv (g.take j) (.slice none 0 0) false false false false false false false false false false false false false) Z ⟨_,rfl⟩ ?_ Z (fun L q o h1 h2 h3 h4=>qbs 1 n b0 i j hs (rwA G i j) hv (g.take j) L c1 hhv OA haa (by rw[qE];omega) O q o h1 h2 h3 h4) ?_
     .exact KZ0
     .rintro K ⟨h',rfl⟩;conv=>whnf
      refine⟨(j+1,hs.set i h'),⟨c2,by rw[qF];exact hh⟩,by show n-(j+1)<n-j;omega,?_⟩
      ((conv=>whnf);refine And.intro ?_ ?_;repeat' first|refine lc ?_ ?_|refine lh1 ?_ ?_|refine bc0 ?_|exact KXZ|refine lg0 ?_|refine lt0 ?_)
      .refine ai0 ?_;rw[wI O];show(j:Int)+1=((j+1:Nat):Int);omega
      .refine bg0 ?_;rw[<-hbb];rfl
    .have c3:i≠j:=by have:=Z1 c3;omega
     rw[Z5 c3]at hbb;conv=>whnf
     refine zao hmx (SId 0 n b0 i j hs (rwA G i j) hv (g.take j)) (σ0:=yf 0 n b0 i j hs (rwA G i j) hv (g.take j) (.slice none 0 0) false false false false false false false false false false false false false) Z ⟨_,rfl⟩ ?_ Z (fun L q o h1 h2 h3 h4=>qbs 0 n b0 i j hs (rwA G i j) hv (g.take j) L c1 hhv OA haa (by rw[qE];omega) O q o h1 h2 h3 h4) ?_
     .exact KZ0
     .rintro K ⟨h',rfl⟩;conv=>whnf
      refine⟨(j+1,hs.set i h'),⟨c2,by rw[qF];exact hh⟩,by show n-(j+1)<n-j;omega,?_⟩
      ((conv=>whnf);refine And.intro ?_ ?_;repeat' first|refine lc ?_ ?_|refine lh1 ?_ ?_|refine bc0 ?_|exact KXZ|refine lg0 ?_|refine lt0 ?_)
      .refine ai0 ?_;rw[wI O];show(j:Int)+1=((j+1:Nat):Int);omega
      .refine bg0 ?_;rw[<-hbb];rfl
   .conv=>whnf
    have hj2:j=n:=by have:=Z1 c2;omega
    have hn2:=zd0 hGr;refine⟨(i+1,hs),⟨O,hh⟩,by show n-(i+1)<n-i;omega,?_⟩
    ((conv=>whnf);refine And.intro ?_ ?_;repeat' first|refine lc ?_ ?_|refine lh1 ?_ ?_|refine bc0 ?_|exact KXZ|refine lg0 ?_|refine lt0 ?_)
    .exact ai0 (by rw[wI O];omega)
    .exact bg0 (by rw[hj2,<-hgl,hn2])
  .conv=>whnf
   have hi2:i=n:=by have:=Z1 c1;omega
   refine⟨hs,rwA G i 0,by rw[hi2,<-hGl];exact zg4 G,?_⟩;exact KZ0
 .subst h;rw[hGl];exact⟨.inl rfl,.inl rfl,.inr (.inr ⟨rfl,OC⟩),za3 _⟩
 .subst h;refine wx hTN hmx ?_;conv=>whnf
  exact⟨lr rfl,lh1 (bg0 rfl) lh0⟩
theorem n35(n:Nat)(hn:1<=n/\n<=8):Fn 208 G0 [.int .i64 n] (.sl .vs (idM n)) G0:=by
 refine qy (code:=qiy) hTN hmx Tryz.func208 rfl rfl (ex:= []) ?_;conv=>whnf
 refine je hTN hmx 2 (fun _:Unit=>⟨[.int .i64 n,.any,.nilsl]++jr 39,frI++G0⟩) (fun _=>Z) ?_ (fun _=>n35s n hn);conv=>whnf
 refine brI (fun c=>?_) (fun c=>?_)
 .have c:=Z0 c;omega
 conv=>whnf
 refine brI (fun c2=>?_) (fun c2=>?_)
 .have c2:=Z0 c2;omega
 conv=>whnf
 refine⟨(),?_⟩;exact KZ0
def TM:Tab:= {TN with gl:=209::TN.gl}
theorem hTM:TabOK Tryz.prog TM:=zfz Z Z
theorem fZM{f:Nat}{fn:Func}{c:Code}(a:Tryz.prog.funcs[f]?=some fn)(b:fn.body=some c)(d:(fn.name == "runtime.NumGoroutine")=false){H H':Hp}{A:List AV}{r:AV}(h:fnC TM [] c fn.ntmps H A H' fun Y=>zbu TM (CN Tryz.prog) c true Y (fun Y=>zh0 TM fn.results.toList [] r H' Y) (fun _ _=>False) (fun Y=>zh0 TM fn.results.toList [] r H' Y)):znk Tryz.prog f H A r H':=fnT hTM hmx a b d h
theorem zs2{m:Mx}{u:Iv}{p:Int}{k:Nat}{s:MSt}{S:MSt×Iv}(hk:1<=k/\k<=700)(h:zad m u p (701-k) k s (rsI u p (k-1))=S):
 zwk u p k (rsI u p (k-1))=rsI u p k/\(if zlp (rsI u p k) p=true then(ze5 m p k s,rsI u p k)else zad m u p (701-(k+1)) (k+1) (ze5 m p k s) (rsI u p (k+1-1)))=S:=by
 obtain⟨j,rfl⟩:∃j,k=j+1:=⟨k-1,O⟩;have e:zwk u p (j+1) (rsI u p j)=rsI u p (j+1):=rfl;refine⟨e,?_⟩;rw[<-h,(O:701-(j+1)=(699-j)+1),(O:701-(j+1+1)=699-j)];show _=if zlp (zwk u p (j+1) (rsI u p j)) p=true then _ else _
 rw[e];rfl
noncomputable def qix:Code:=Tryz.f131.body.getD .skip
theorem n88s{n:Nat}{m:Mx}{h:Iv}(vh:VI h){p:Int}(hp:pcB p=true)(E F:Mx)(r:Iv)(vE:VM n n E)(vF:VM n n F)(hr:VI r):
 SemOK Tryz.prog TM Tryz.f131.results.toList [] (.agg [.sl .vs (arM E r p),.sl .vs (scM (arM F r p) h p)]) G0 (zev 6 qix)
  ⟨[.any,.any,.int .i64 p,.any,.ptr 4 0,.any,.ptr 6 0,.any,.any,.any,.ptr 10 0,.any,.ptr 12 0]++jr 105,[(4,.cells (ivC h)),(6,.cells [.nilsl,.nilsl]),(7,.free),(9,.free),(10,.cells [.sl .vs E,.sl .vs F]),(12,.cells (ivC r)),(14,.free)]++G0⟩:=by
 have n1:=vE.n1;have l1:=vE.len;have l2:=vF.len;refine wx hTM hmx ?_;conv=>whnf
 refine gZc (n134 E vE.ri O (fun r hr=>by rw[vE.row r hr];omega) r hr.ri p) ?_;conv=>whnf
 refine gZc (n134 F vF.ri O (fun r hr=>by rw[vF.row r hr];omega) r hr.ri p) ?_;conv=>whnf
 refine gZc (n84 _ (zv6 vF hr hp).rx h vh.ri p) ?_
 (refine⟨Z,Z,?_⟩;(conv=>whnf))
 exact⟨lr rfl,za1⟩
theorem n88{n:Nat}{m:Mx}(vm:VM n n m){h:Iv}(vh:VI h){p:Int}(hp:pcB p=true)(hu:bI (pw 2) (zx (nmM m p).1)):
 Fn 131 G0 [.sl .vs m,.agg (ivC h),.int .i64 p] (.agg [.sl .vs (znr m h p).exp,.sl .vs (znr m h p).phi]) G0:=by
 have n1:=vm.n1;have hml:=vm.len;have hpc:=vg hp;have hnd:=(zko (a:=m) (p:=p) vm.el).1;have h85:=n85 m vm.rx p;obtain⟨K0,hK1,hK2,hK3⟩:=qcc hp hu;have hpt:Fn 82 [] [.agg (dyC (nmM m p).1)] (.agg (ivC (zx (nmM m p).1))) []:=i136 hnd;have hui:VI (zx (nmM m p).1):=hu.1;unfold znr;generalize zx (nmM m p).1=u at*;generalize nmM m p=N at*;obtain⟨N1,N2⟩:=N;obtain⟨S,hS⟩:∃S,zad m u p 700 1 ⟨idM m.length,idM m.length,idM m.length⟩ (whI 1)=S:=⟨_,rfl⟩;simp only[hS];have hid:VM n n (idM m.length):=by rw[hml];exact zrl n1
 have h35:Fn 208 G0 [.int .i64 m.length] (.sl .vs (idM m.length)) G0:=n35 m.length O;have hfin:VM n n S.1.exp/\VM n n S.1.phi/\VI S.2:=by
  have key:∀(f k:Nat)(s:MSt)(r:Iv),k+f<=2000->1<=k->VM n n s.term->VM n n s.exp->VM n n s.phi->VI r->VM n n (zad m u p f k s r).1.exp /\VM n n (zad m u p f k s r).1.phi /\VI (zad m u p f k s r).2:=by
   intro f
   induction f with
   |zero=>exact fun k s r _ _ h1 h2 h3 h4=>⟨h2,h3,h4⟩
   |succ f ih=>
    intro k s r hk hk1 h1 h2 h3 h4;have hb:=zgd (k:=k) hk1 O hp;have hb2:=zgd (k:=k+1) O O hp;have ht:=yr (zdf h1 vm hp).2 hb hp;have hE:=(zbv h2 ht hp).2;have hF:=(zbv h3 (yr ht hb2 hp) hp).2;have hr:=jg (jg h4 hui hp) hb hp;unfold zad;split
    .exact⟨hE,hF,hr⟩
    .exact ih (k+1) _ _ O O ht hE hF hr
  rw[<-hS];exact key 700 1 _ _ O O hid hid hid (uz OA)
 refine qy (code:=qix) hTM hmx Tryz.func131 rfl rfl (ex:= []) ?_;conv=>whnf
 refine je hTM hmx 6 (fun _:Unit=>⟨[.any,.any,.int .i64 p,.any,.ptr 4 0,.any,.ptr 6 0,.any,.any,.any,.ptr 10 0,.any,.ptr 12 0]++jr 105,[(4,.cells (ivC h)),(6,.cells [.nilsl,.nilsl]),(7,.free),(9,.free),(10,.cells [.sl .vs S.1.exp,.sl .vs S.1.phi]),(12,.cells (ivC S.2)),(14,.free)]++G0⟩) (fun _=>Z) ?_ (fun _=>n88s (m:=m) vh hp S.1.exp S.1.phi S.2 hfin.1 hfin.2.1 hfin.2.2);conv=>whnf
 refine gZc h85 ?_;conv=>whnf
 refine gZn hpt ?_;conv=>whnf
 refine gZc h35 ?_;conv=>whnf
 refine gZc h35 ?_;conv=>whnf
 refine gZc h35 ?_;conv=>whnf
 refine gZc (qg6 1 OA) ?_;conv=>whnf
 refine⟨Nat×MSt×Iv,fun z=>((1<=z.1/\z.1<=K0)/\VM n n z.2.1.term/\VM n n z.2.1.exp/\VM n n z.2.1.phi)/\zad m u p (701-z.1) z.1 z.2.1 z.2.2=S/\z.2.2=rsI u p (z.1-1),fun z=> [(13,.int .i64 z.1),(11,.sl .vs z.2.1.term)],
  fun z=> [(10,.cells [.sl .vs z.2.1.exp,.sl .vs z.2.1.phi]),(12,.cells (ivC z.2.2)),(14,.free)],fun z=>K0-z.1,(1,⟨idM m.length,idM m.length,idM m.length⟩,whI 1),⟨⟨⟨Nat.le_refl _,hK1⟩,hid,hid,hid⟩,hS,rfl⟩,?_,?_⟩
 .exact KZ0
 rintro⟨k,s,r⟩ ⟨⟨⟨hk1,hk2⟩,ht,he,hf⟩,hz,hrr⟩;have hrr:r=rsI u p (k-1):=hrr;have hz:zad m u p (701-k) k s r=S:=hz;subst hrr;have hk1:1<=k:=hk1;have hk2:k<=K0:=hk2;obtain⟨hz1,hz2⟩:=zs2 ⟨hk1,O⟩ hz;have vr:=qct hui hp (k-1) O;have vr2:=qct hui hp k O;have hb:=zgd (k:=k) hk1 O hp;have hb2:=zgd (k:=k+1) O O hp;have hmu:=zdf ht vm hp;have hsc:=yr hmu.2 hb hp;have hsc2:=yr hsc hb2 hp;have hE:=zbv he hsc hp;have hF:=zbv hf hsc2 hp;have c1:Fn 210 G0 [.agg (ivC (whI 1)),.agg (ivC (whI (k:Int))),.int .i64 p] (.agg (ivC (byI k p))) G0:=i85 _ _ (uz OA).ri (uz O).ri p;have c2:Fn 210 G0 [.agg (ivC (whI 1)),.agg (ivC (whI ((k+1:Nat):Int))),.int .i64 p] (.agg (ivC (byI (k+1) p))) G0:=i85 _ _ (uz OA).ri (uz O).ri p;have c3:=n33 s.term m ht.rx vm.rx p;have c4:Fn 127 G0 [.sl .vs (muM s.term m p).1,.agg (ivC (byI k p)),.int .i64 p] (.sl .vs (ze5 m p k s).term) G0:=n84 _ hmu.2.rx _ hb.ri p;have c5:Fn 133 G0 [.sl .vs s.exp,.sl .vs (ze5 m p k s).term,.int .i64 p] (.tup [.sl .vs (ze5 m p k s).exp,.int .i64 0]) G0:=n34 he hsc hp;have c6:Fn 127 G0 [.sl .vs (ze5 m p k s).term,.agg (ivC (byI (k+1) p)),.int .i64 p] (.sl .vs (scM (ze5 m p k s).term (byI (k+1) p) p)) G0:=n84 _ hsc.rx _ hb2.ri p;have c7:Fn 133 G0 [.sl .vs s.phi,.sl .vs (scM (ze5 m p k s).term (byI (k+1) p) p),.int .i64 p] (.tup [.sl .vs (ze5 m p k s).phi,.int .i64 0]) G0:=n34 hf hsc2 hp;have c8:Fn 21 G0 [.agg (ivC (rsI u p (k-1))),.agg (ivC u),.int .i64 p] (.agg (ivC (kf (rsI u p (k-1)) u p))) G0:=i84 _ _ vr.ri hui.ri p;have c9:Fn 21 G0 [.agg (ivC (kf (rsI u p (k-1)) u p)),.agg (ivC (byI k p)),.int .i64 p] (.agg (ivC (rsI u p k))) G0:=by
  rw[<-hz1];exact i84 _ _ (jg vr hui hp).ri hb.ri p
 have hnt:VM n n (ze5 m p k s).term :=hsc;have hne:VM n n (ze5 m p k s).exp :=hE.2;have hnf:VM n n (ze5 m p k s).phi :=hF.2;generalize ze5 m p k s=s' at*;generalize kf (rsI u p (k-1)) u p=r1 at*;generalize muM s.term m p=A at*;obtain⟨A1,A2⟩:=A;generalize scM s'.term (byI (k+1) p) p=T2 at*;rw[(O:k+1-1=k)]at hz2;generalize hr':rsI u p k=r' at*;obtain⟨rl,rh,ra⟩:=r';have hkk:((k+1:Nat):Int)=IntKind.i64.wrap ((k:Int)+1):=by rw[wI O];omega
 (refine⟨Z,?_⟩;(conv=>whnf))
 refine gZc (qg6 1 OA) ?_;conv=>whnf
 refine gZc (qg6 k O) ?_;conv=>whnf
 refine gZc c1 ?_;conv=>whnf
 refine gZc c3 ?_;conv=>whnf
 refine gZc c4 ?_;conv=>whnf
 refine gZc c8 ?_;conv=>whnf
 refine gZc c9 ?_
 (refine⟨Z,Z,?_⟩;(conv=>whnf))
 refine gZc c5 ?_;conv=>whnf
 refine gZc (qg6 1 OA) ?_;conv=>whnf
 refine gZc (qg6 (IntKind.i64.wrap ((k:Int)+1)) (by rw[wI O];omega)) ?_;conv=>whnf
 rw[hkk]at c2;refine gZc c2 ?_;conv=>whnf
 refine gZc c6 ?_;conv=>whnf
 refine gZc c7 ?_
 (refine⟨Z,Z,?_⟩;(conv=>whnf))
 cases ra with
 |true=>
  have hs1:zlp ⟨rl,rh,true⟩ p=true:=rfl;rw[Z4 hs1]at hz2;subst hz2;conv=>whnf
  refine⟨(),?_⟩;exact KZ0
 |false=>
  have kr:=(xi vr2).1 rfl;have hrh:VD rh:=kr.hi;have h87:=zzx hrh;have h119:=qf2 hrh;have hsb:zlp ⟨rl,rh,false⟩ p=(decide (jh rh=0)||decide (qd rh< -p-8)):=rfl;have hcases:jh rh=0\/jh rh=1\/jh rh= -1:=by
   unfold jh;split
   .exact .inl rfl
   .split
    .exact .inr (.inr rfl)
    .exact .inr (.inl rfl)
  have hgo:zlp ⟨rl,rh,false⟩ p=false->k+1<=K0:=fun c=>by
   rcases Nat.lt_or_ge k K0 with h|h
   .exact h
   .obtain rfl:k=K0:=by omega
    rw[hr']at hK3;rw[c]at hK3;cases hK3
  conv=>whnf
  rcases hcases with e|e|e
  .rw[e]at h119;have hs1:zlp ⟨rl,rh,false⟩ p=true:=by rw[hsb,e];rfl
   rw[Z4 hs1]at hz2;subst hz2;refine gZn h119 ?_;conv=>whnf
   refine⟨(),?_⟩;exact KZ0
  all_goals
   rw[e]at h119;refine gZn h119 ?_;conv=>whnf
   refine gZn h87 ?_;conv=>whnf
   refine brI (fun c=>?_) (fun c=>?_)
   .have c:=Z0 c;rw[wI (x:=0-p) O,wI (x:=0-p-8) O]at c;have c:qd rh< -p-8:=O;have hs1:zlp ⟨rl,rh,false⟩ p=true:=by rw[hsb,Z6 c,Bool.or_true]
    rw[Z4 hs1]at hz2;subst hz2;conv=>whnf
    refine⟨(),?_⟩;exact KZ0
   .have c:=Z1 c;rw[wI (x:=0-p) O,wI (x:=0-p-8) O]at c;have c:¬qd rh< -p-8:=O;have hf:zlp ⟨rl,rh,false⟩ p=false:=by rw[hsb,e,Z7 c];rfl
    rw[Z5 (by rw[hf];simp)]at hz2;have hg:=hgo hf;conv=>whnf
    refine⟨(k+1,s',⟨rl,rh,false⟩),⟨⟨⟨O,hg⟩,hnt,hne,hnf⟩,hz2,by show _=rsI u p k;rw[hr']⟩,by show K0-(k+1)<K0-k;omega,?_⟩;exact KZ0
