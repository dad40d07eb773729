/-
  The tape: Compile: the region in which a result is appended while an expression is compiled, in every order.
-/
import Derived.Test.YtmcdnbmamoggoaaGreatQTa
import Derived.Test.YtmcdnbmamoggoaaGreatQWx
import Derived.Test.YtmcdnbmamoggoaaGreatQZz
set_option linter.unusedVariables false
set_option linter.unusedSimpArgs false
namespace Go.Proofs.YtmcdnbmamoggoaaGreat
open Go Go.Sx
set_option maxRecDepth 100000
set_option maxHeartbeats 8000000
def S17b (l : List Ex) (ns : List Bytes) (x : Ex) (i k n : Int) (ops ops1 : List TOp) (outs : List Int) (at1 at2 : List (TOp × Int)) (b0 b1 b2 b3 b4 b5 b6 b7 b8 b9 b10 b11 b12 b13 b14 b15 : Bool) : St :=
  ⟨[.sl .ex l, .any, .any, .ptr 3 0, .ptr 4 0, .any, .any, .any, .ptr 48 0, .any, .ptr 10 0, .any, .any, .any, .any, .any, .any, .any, .any, .any, .any, .any, .any, .any, .any, .any, .any, .any, .any, .any, .any, .any, .any, .any, .any, .any, .any, .any, .any, .any, .any, .any, .any, .any, .any, .any, .any, .any, .any, .sl .ex l, .int .i64 l.length, .int .i64 i, .any, .any, .any, (bif b0 then .ptr 48 0 else .any), (bif b1 then .ptr 48 0 else .any), (bif b2 then .ptr 48 0 else .any), (bif b3 then .ptr 48 0 else .any), (bif b4 then .ptr 48 2 else .any), (bif b5 then .own 200048 else .any), (bif b6 then .ptr 48 0 else .any), (bif b7 then .agg (exC x) else .any), (bif b8 then .sl .str ns else .any), (bif b9 then .int .i64 k else .any), (bif b10 then .sl .int [k] else .any), (bif b11 then .own 66 else .any), (bif b12 then .ptr 48 0 else .any), (bif b13 then .ptr 48 0 else .any), (bif b14 then .ptr 48 2 else .any), .any, .any, .any, .any, .any, .any, .any, .any],
   [(3, .cells [.sl .str ns]), (4, .cells [.int .i64 0, .nilsl, .nilsl]), (7, .free), (48, .cells [.int .i64 n, .own 100048, bif b15 then .own 66 else .own 200048, .mp 300048]), (100048, .buf 50 .op (bif b9 then ops1 else ops)), (200048, bif b11 then .dead else .buf 3 .int outs),
    (300048, .map .op .int (bif b9 then at2 else at1)), (10, .cells (exC x)), (66, bif b11 then .buf 3 .int (outs ++ [k]) else .free), (100066, .free), (1500066, .free)]⟩
def S17 (l : List Ex) (ns : List Bytes) (x : Ex) (i k n : Int) (ops ops1 : List TOp) (outs : List Int) (at1 at2 : List (TOp × Int)) (L : Nat → Bool) : St := S17b l ns x i k n ops ops1 outs at1 at2 (L 0) (L 1) (L 2) (L 3) (L 4) (L 5) (L 6) (L 7) (L 8) (L 9) (L 10) (L 11) (L 12) (L 13) (L 14) (L 15)
theorem mem_bif {b : Bool} {l : List Nat} {i : Nat} (h : i ∈ (bif b then l else [])) : i ∈ l := by
  cases b
  · cases h
  · exact h
theorem ids_bif_eq (b : Bool) (x : AV) : (bif b then x else .any).ids = bif b then x.ids else [] := by cases b <;> rfl
def reg17 : Code → Code
  | .seq _ (.seq _ (.seq _ (.seq _ (.seq (.seq _ (.block _ (.loop (.seq _ (.seq _ (.seq (.block _ (.seq _ r)) _)))))) _)))) => r
  | c => c
def opsOf : Code → Array Oper
  | .region _ ops _ => ops
  | _ => #[]
noncomputable def ops17 : Array Oper := opsOf (reg17 (Tryz.f7.body.getD .skip))
section
variable (l : List Ex) (ns : List Bytes) (x : Ex) (i k n : Int) (ops ops1 : List TOp) (outs : List Int) (at1 at2 : List (TOp × Int)) (L : Nat → Bool)
theorem op17_0 : ∀ o, ops17[0]? = some o → OpT Tryz.prog o (S17b l ns x i k n ops ops1 outs at1 at2 false (L 1) (L 2) (L 3) (L 4) (L 5) (L 6) (L 7) (L 8) (L 9) (L 10) (L 11) (L 12) (L 13) (L 14) (L 15)) (S17b l ns x i k n ops ops1 outs at1 at2 true (L 1) (L 2) (L 3) (L 4) (L 5) (L 6) (L 7) (L 8) (L 9) (L 10) (L 11) (L 12) (L 13) (L 14) (L 15)) := by
  intro o ho
  have ho : some _ = some o := ho
  cases ho
  refine opT_eq hT2 rfl ?_
  conv => whnf
  exact rfl
theorem op17_1 : ∀ o, ops17[1]? = some o → OpT Tryz.prog o (S17b l ns x i k n ops ops1 outs at1 at2 (L 0) false (L 2) (L 3) (L 4) (L 5) (L 6) (L 7) (L 8) (L 9) (L 10) (L 11) (L 12) (L 13) (L 14) (L 15)) (S17b l ns x i k n ops ops1 outs at1 at2 (L 0) true (L 2) (L 3) (L 4) (L 5) (L 6) (L 7) (L 8) (L 9) (L 10) (L 11) (L 12) (L 13) (L 14) (L 15)) := by
  intro o ho
  have ho : some _ = some o := ho
  cases ho
  refine opT_eq hT2 rfl ?_
  conv => whnf
  exact rfl
theorem op17_2 : ∀ o, ops17[2]? = some o → OpT Tryz.prog o (S17b l ns x i k n ops ops1 outs at1 at2 (L 0) true false (L 3) (L 4) (L 5) (L 6) (L 7) (L 8) (L 9) (L 10) (L 11) (L 12) (L 13) (L 14) (L 15)) (S17b l ns x i k n ops ops1 outs at1 at2 (L 0) true true (L 3) (L 4) (L 5) (L 6) (L 7) (L 8) (L 9) (L 10) (L 11) (L 12) (L 13) (L 14) (L 15)) := by
  intro o ho
  have ho : some _ = some o := ho
  cases ho
  refine opT_eq hT2 rfl ?_
  conv => whnf
  exact rfl
theorem op17_3 : ∀ o, ops17[3]? = some o → OpT Tryz.prog o (S17b l ns x i k n ops ops1 outs at1 at2 (L 0) (L 1) true false (L 4) (L 5) (L 6) (L 7) (L 8) (L 9) (L 10) (L 11) (L 12) (L 13) (L 14) (L 15)) (S17b l ns x i k n ops ops1 outs at1 at2 (L 0) (L 1) true true (L 4) (L 5) (L 6) (L 7) (L 8) (L 9) (L 10) (L 11) (L 12) (L 13) (L 14) (L 15)) := by
  intro o ho
  have ho : some _ = some o := ho
  cases ho
  refine opT_eq hT2 rfl ?_
  conv => whnf
  exact rfl
theorem op17_4 : ∀ o, ops17[4]? = some o → OpT Tryz.prog o (S17b l ns x i k n ops ops1 outs at1 at2 (L 0) (L 1) (L 2) true false (L 5) (L 6) (L 7) (L 8) (L 9) (L 10) (L 11) (L 12) (L 13) (L 14) (L 15)) (S17b l ns x i k n ops ops1 outs at1 at2 (L 0) (L 1) (L 2) true true (L 5) (L 6) (L 7) (L 8) (L 9) (L 10) (L 11) (L 12) (L 13) (L 14) (L 15)) := by
  intro o ho
  have ho : some _ = some o := ho
  cases ho
  refine opT_eq hT2 rfl ?_
  conv => whnf
  exact rfl
theorem op17_5 : ∀ o, ops17[5]? = some o → OpT Tryz.prog o (S17b l ns x i k n ops ops1 outs at1 at2 (L 0) (L 1) (L 2) (L 3) true false (L 6) (L 7) (L 8) (L 9) (L 10) (L 11) (L 12) (L 13) (L 14) false) (S17b l ns x i k n ops ops1 outs at1 at2 (L 0) (L 1) (L 2) (L 3) true true (L 6) (L 7) (L 8) (L 9) (L 10) (L 11) (L 12) (L 13) (L 14) false) := by
  intro o ho
  have ho : some _ = some o := ho
  cases ho
  refine opT_eq hT2 rfl ?_
  conv => whnf
  exact rfl
theorem op17_6 : ∀ o, ops17[6]? = some o → OpT Tryz.prog o (S17b l ns x i k n ops ops1 outs at1 at2 (L 0) (L 1) (L 2) (L 3) (L 4) (L 5) false (L 7) (L 8) (L 9) (L 10) (L 11) (L 12) (L 13) (L 14) (L 15)) (S17b l ns x i k n ops ops1 outs at1 at2 (L 0) (L 1) (L 2) (L 3) (L 4) (L 5) true (L 7) (L 8) (L 9) (L 10) (L 11) (L 12) (L 13) (L 14) (L 15)) := by
  intro o ho
  have ho : some _ = some o := ho
  cases ho
  refine opT_eq hT2 rfl ?_
  conv => whnf
  exact rfl
theorem op17_7 : ∀ o, ops17[7]? = some o → OpT Tryz.prog o (S17b l ns x i k n ops ops1 outs at1 at2 (L 0) (L 1) (L 2) (L 3) (L 4) (L 5) (L 6) false (L 8) (L 9) (L 10) (L 11) (L 12) (L 13) (L 14) (L 15)) (S17b l ns x i k n ops ops1 outs at1 at2 (L 0) (L 1) (L 2) (L 3) (L 4) (L 5) (L 6) true (L 8) (L 9) (L 10) (L 11) (L 12) (L 13) (L 14) (L 15)) := by
  intro o ho
  have ho : some _ = some o := ho
  cases ho
  refine opT_eq hT2 rfl ?_
  conv => whnf
  exact rfl
theorem op17_8 : ∀ o, ops17[8]? = some o → OpT Tryz.prog o (S17b l ns x i k n ops ops1 outs at1 at2 (L 0) (L 1) (L 2) (L 3) (L 4) (L 5) (L 6) (L 7) false (L 9) (L 10) (L 11) (L 12) (L 13) (L 14) (L 15)) (S17b l ns x i k n ops ops1 outs at1 at2 (L 0) (L 1) (L 2) (L 3) (L 4) (L 5) (L 6) (L 7) true (L 9) (L 10) (L 11) (L 12) (L 13) (L 14) (L 15)) := by
  intro o ho
  have ho : some _ = some o := ho
  cases ho
  refine opT_eq hT2 rfl ?_
  conv => whnf
  exact rfl
theorem op17_9 (hfn : FB 30 [100048] (bH 48 100048 200048 300048 n ops outs at1) [.ptr 48 0, .agg (exC x), .sl .str ns] (.int .i64 k) (bH 48 100048 200048 300048 n ops1 outs at2)) : ∀ o, ops17[9]? = some o → OpT Tryz.prog o (S17b l ns x i k n ops ops1 outs at1 at2 (L 0) (L 1) (L 2) (L 3) (L 4) (L 5) true true true false (L 10) false (L 12) (L 13) (L 14) false) (S17b l ns x i k n ops ops1 outs at1 at2 (L 0) (L 1) (L 2) (L 3) (L 4) (L 5) true true true true (L 10) false (L 12) (L 13) (L 14) false) := by
  intro o ho
  have ho : some _ = some o := ho
  cases ho
  refine opT_callP rfl rfl rfl (g := 30) (I := [48, 100048, 200048, 300048]) (B := [100048]) (bs' := blks (bH 48 100048 200048 300048 n ops1 outs at2)) (r := .int .i64 k) rfl (by kernel_rfl) ?_ hfn rfl
  intro i hi
  simp only [List.mem_singleton] at hi
  subst hi
  simp only [S17b, idsL, AV.ids, ids_bif_eq, exC, List.mem_append, List.append_nil, List.nil_append, cond_true, cond_false, not_or]
  repeat' apply And.intro
  all_goals first | (intro h; have := mem_bif h; simp at this; done) | (intro h; simp at h; done)
theorem op17_10 : ∀ o, ops17[10]? = some o → OpT Tryz.prog o (S17b l ns x i k n ops ops1 outs at1 at2 (L 0) (L 1) (L 2) (L 3) (L 4) (L 5) (L 6) (L 7) (L 8) true false (L 11) (L 12) (L 13) (L 14) (L 15)) (S17b l ns x i k n ops ops1 outs at1 at2 (L 0) (L 1) (L 2) (L 3) (L 4) (L 5) (L 6) (L 7) (L 8) true true (L 11) (L 12) (L 13) (L 14) (L 15)) := by
  intro o ho
  have ho : some _ = some o := ho
  cases ho
  refine opT_eq hT2 rfl ?_
  conv => whnf
  exact rfl
theorem op17_11 (hb : (outs.length + 1) * 8 ≤ 140737488355328) : ∀ o, ops17[11]? = some o → OpT Tryz.prog o (S17b l ns x i k n ops ops1 outs at1 at2 (L 0) (L 1) (L 2) (L 3) (L 4) true (L 6) (L 7) (L 8) true true false (L 12) (L 13) (L 14) false) (S17b l ns x i k n ops ops1 outs at1 at2 (L 0) (L 1) (L 2) (L 3) (L 4) true (L 6) (L 7) (L 8) true true true (L 12) (L 13) (L 14) false) := by
  intro o ho
  have ho : some _ = some o := ho
  cases ho
  refine opT_eq hT2 rfl ?_
  conv => whnf
  refine ⟨hb, ?_⟩
  conv => whnf
  exact rfl
theorem op17_12 : ∀ o, ops17[12]? = some o → OpT Tryz.prog o (S17b l ns x i k n ops ops1 outs at1 at2 true (L 1) (L 2) (L 3) (L 4) (L 5) (L 6) (L 7) (L 8) (L 9) (L 10) (L 11) false (L 13) (L 14) (L 15)) (S17b l ns x i k n ops ops1 outs at1 at2 true (L 1) (L 2) (L 3) (L 4) (L 5) (L 6) (L 7) (L 8) (L 9) (L 10) (L 11) true (L 13) (L 14) (L 15)) := by
  intro o ho
  have ho : some _ = some o := ho
  cases ho
  refine opT_eq hT2 rfl ?_
  conv => whnf
  exact rfl
theorem op17_13 : ∀ o, ops17[13]? = some o → OpT Tryz.prog o (S17b l ns x i k n ops ops1 outs at1 at2 (L 0) (L 1) (L 2) (L 3) (L 4) (L 5) (L 6) (L 7) (L 8) (L 9) (L 10) (L 11) true false (L 14) (L 15)) (S17b l ns x i k n ops ops1 outs at1 at2 (L 0) (L 1) (L 2) (L 3) (L 4) (L 5) (L 6) (L 7) (L 8) (L 9) (L 10) (L 11) true true (L 14) (L 15)) := by
  intro o ho
  have ho : some _ = some o := ho
  cases ho
  refine opT_eq hT2 rfl ?_
  conv => whnf
  exact rfl
theorem op17_14 : ∀ o, ops17[14]? = some o → OpT Tryz.prog o (S17b l ns x i k n ops ops1 outs at1 at2 (L 0) (L 1) (L 2) (L 3) (L 4) (L 5) (L 6) (L 7) (L 8) (L 9) (L 10) (L 11) (L 12) true false (L 15)) (S17b l ns x i k n ops ops1 outs at1 at2 (L 0) (L 1) (L 2) (L 3) (L 4) (L 5) (L 6) (L 7) (L 8) (L 9) (L 10) (L 11) (L 12) true true (L 15)) := by
  intro o ho
  have ho : some _ = some o := ho
  cases ho
  refine opT_eq hT2 rfl ?_
  conv => whnf
  exact rfl
theorem op17_15 : ∀ o, ops17[15]? = some o → OpT Tryz.prog o (S17b l ns x i k n ops ops1 outs at1 at2 (L 0) (L 1) (L 2) (L 3) (L 4) (L 5) (L 6) (L 7) (L 8) (L 9) (L 10) true (L 12) (L 13) true false) (S17b l ns x i k n ops ops1 outs at1 at2 (L 0) (L 1) (L 2) (L 3) (L 4) (L 5) (L 6) (L 7) (L 8) (L 9) (L 10) true (L 12) (L 13) true true) := by
  intro o ho
  have ho : some _ = some o := ho
  cases ho
  refine opT_eq hT2 rfl ?_
  conv => whnf
  exact rfl
theorem step17 (hfn : FB 30 [100048] (bH 48 100048 200048 300048 n ops outs at1) [.ptr 48 0, .agg (exC x), .sl .str ns] (.int .i64 k) (bH 48 100048 200048 300048 n ops1 outs at2)) (hb : (outs.length + 1) * 8 ≤ 140737488355328)
    (j : Nat) (o : Oper) (hcl : ∀ j oj, ops17[j]? = some oj → L j = true → ∀ e ∈ oj.after, Region.binds .any e = true → L e.on = true) (ho : ops17[j]? = some o) (hL : L j = false)
    (hd : ∀ e ∈ o.after, Region.binds .any e = true → L e.on = true) : OpT Tryz.prog o (S17 l ns x i k n ops ops1 outs at1 at2 L) (S17 l ns x i k n ops ops1 outs at1 at2 (setF L j)) := by
  have dpq : ∀ {j : Nat}, ops17[j]? = some o → ∀ q, ((ops17[j]?.map fun o => o.after.toList.any fun e => Region.binds .any e && Nat.beq e.on q) = some true) → L q = true := fun {j} ho q hq => by
    rw [ho] at hq
    simp only [Option.map_some, Option.some.injEq, List.any_eq_true, Bool.and_eq_true] at hq
    obtain ⟨e, he, h1, h2⟩ := hq
    have := hd e (by simpa using he) h1
    rw [(beq_iff _ _).1 h2] at this; exact this
  have cl : ∀ a q, ((ops17[a]?.map fun o => o.after.toList.any fun e => Region.binds .any e && Nat.beq e.on q) = some true) → L a = true → L q = true := fun a q hq ha => by
    cases ho : ops17[a]? with
    | none => rw [ho] at hq; cases hq
    | some oa =>
      rw [ho] at hq
      simp only [Option.map_some, Option.some.injEq, List.any_eq_true, Bool.and_eq_true] at hq
      obtain ⟨e, he, h1, h2⟩ := hq
      have := hcl a oa ho ha e (by simpa using he) h1
      rw [(beq_iff _ _).1 h2] at this; exact this
  have c11_9 : L 11 = true → L 9 = true := cl 11 9 (by decide +kernel)
  have c15_5 : L 15 = true → L 5 = true := cl 15 5 (by decide +kernel)
  have c15_9 : L 15 = true → L 9 = true := cl 15 9 (by decide +kernel)
  have c15_11 : L 15 = true → L 11 = true := cl 15 11 (by decide +kernel)
  match j, ho, hL with
  | 0, ho, hL =>
    have hall := op17_0 l ns x i k n ops ops1 outs at1 at2 L o ho
    have ho' : some _ = some o := ho
    have dp : ∀ q, ((ops17[0]?.map fun o => o.after.toList.any fun e => Region.binds .any e && Nat.beq e.on q) = some true) → L q = true := dpq ho
    show OpT Tryz.prog o (S17b l ns x i k n ops ops1 outs at1 at2 (L 0) (L 1) (L 2) (L 3) (L 4) (L 5) (L 6) (L 7) (L 8) (L 9) (L 10) (L 11) (L 12) (L 13) (L 14) (L 15)) (S17b l ns x i k n ops ops1 outs at1 at2 true (L 1) (L 2) (L 3) (L 4) (L 5) (L 6) (L 7) (L 8) (L 9) (L 10) (L 11) (L 12) (L 13) (L 14) (L 15))
    rw [hL]
    exact hall
  | 1, ho, hL =>
    have hall := op17_1 l ns x i k n ops ops1 outs at1 at2 L o ho
    have ho' : some _ = some o := ho
    have dp : ∀ q, ((ops17[1]?.map fun o => o.after.toList.any fun e => Region.binds .any e && Nat.beq e.on q) = some true) → L q = true := dpq ho
    show OpT Tryz.prog o (S17b l ns x i k n ops ops1 outs at1 at2 (L 0) (L 1) (L 2) (L 3) (L 4) (L 5) (L 6) (L 7) (L 8) (L 9) (L 10) (L 11) (L 12) (L 13) (L 14) (L 15)) (S17b l ns x i k n ops ops1 outs at1 at2 (L 0) true (L 2) (L 3) (L 4) (L 5) (L 6) (L 7) (L 8) (L 9) (L 10) (L 11) (L 12) (L 13) (L 14) (L 15))
    rw [hL]
    exact hall
  | 2, ho, hL =>
    have hall := op17_2 l ns x i k n ops ops1 outs at1 at2 L o ho
    have ho' : some _ = some o := ho
    have dp : ∀ q, ((ops17[2]?.map fun o => o.after.toList.any fun e => Region.binds .any e && Nat.beq e.on q) = some true) → L q = true := dpq ho
    have e1 : L 1 = true := dp 1 (by decide +kernel)
    show OpT Tryz.prog o (S17b l ns x i k n ops ops1 outs at1 at2 (L 0) (L 1) (L 2) (L 3) (L 4) (L 5) (L 6) (L 7) (L 8) (L 9) (L 10) (L 11) (L 12) (L 13) (L 14) (L 15)) (S17b l ns x i k n ops ops1 outs at1 at2 (L 0) (L 1) true (L 3) (L 4) (L 5) (L 6) (L 7) (L 8) (L 9) (L 10) (L 11) (L 12) (L 13) (L 14) (L 15))
    rw [hL, e1]
    exact hall
  | 3, ho, hL =>
    have hall := op17_3 l ns x i k n ops ops1 outs at1 at2 L o ho
    have ho' : some _ = some o := ho
    have dp : ∀ q, ((ops17[3]?.map fun o => o.after.toList.any fun e => Region.binds .any e && Nat.beq e.on q) = some true) → L q = true := dpq ho
    have e2 : L 2 = true := dp 2 (by decide +kernel)
    show OpT Tryz.prog o (S17b l ns x i k n ops ops1 outs at1 at2 (L 0) (L 1) (L 2) (L 3) (L 4) (L 5) (L 6) (L 7) (L 8) (L 9) (L 10) (L 11) (L 12) (L 13) (L 14) (L 15)) (S17b l ns x i k n ops ops1 outs at1 at2 (L 0) (L 1) (L 2) true (L 4) (L 5) (L 6) (L 7) (L 8) (L 9) (L 10) (L 11) (L 12) (L 13) (L 14) (L 15))
    rw [hL, e2]
    exact hall
  | 4, ho, hL =>
    have hall := op17_4 l ns x i k n ops ops1 outs at1 at2 L o ho
    have ho' : some _ = some o := ho
    have dp : ∀ q, ((ops17[4]?.map fun o => o.after.toList.any fun e => Region.binds .any e && Nat.beq e.on q) = some true) → L q = true := dpq ho
    have e3 : L 3 = true := dp 3 (by decide +kernel)
    show OpT Tryz.prog o (S17b l ns x i k n ops ops1 outs at1 at2 (L 0) (L 1) (L 2) (L 3) (L 4) (L 5) (L 6) (L 7) (L 8) (L 9) (L 10) (L 11) (L 12) (L 13) (L 14) (L 15)) (S17b l ns x i k n ops ops1 outs at1 at2 (L 0) (L 1) (L 2) (L 3) true (L 5) (L 6) (L 7) (L 8) (L 9) (L 10) (L 11) (L 12) (L 13) (L 14) (L 15))
    rw [hL, e3]
    exact hall
  | 5, ho, hL =>
    have hall := op17_5 l ns x i k n ops ops1 outs at1 at2 L o ho
    have ho' : some _ = some o := ho
    have dp : ∀ q, ((ops17[5]?.map fun o => o.after.toList.any fun e => Region.binds .any e && Nat.beq e.on q) = some true) → L q = true := dpq ho
    have e4 : L 4 = true := dp 4 (by decide +kernel)
    have e15 : L 15 = false := by
      cases h : L 15 with
      | false => rfl
      | true => have := (c15_5 h); rw [hL] at this; cases this
    show OpT Tryz.prog o (S17b l ns x i k n ops ops1 outs at1 at2 (L 0) (L 1) (L 2) (L 3) (L 4) (L 5) (L 6) (L 7) (L 8) (L 9) (L 10) (L 11) (L 12) (L 13) (L 14) (L 15)) (S17b l ns x i k n ops ops1 outs at1 at2 (L 0) (L 1) (L 2) (L 3) (L 4) true (L 6) (L 7) (L 8) (L 9) (L 10) (L 11) (L 12) (L 13) (L 14) (L 15))
    rw [hL, e4, e15]
    exact hall
  | 6, ho, hL =>
    have hall := op17_6 l ns x i k n ops ops1 outs at1 at2 L o ho
    have ho' : some _ = some o := ho
    have dp : ∀ q, ((ops17[6]?.map fun o => o.after.toList.any fun e => Region.binds .any e && Nat.beq e.on q) = some true) → L q = true := dpq ho
    show OpT Tryz.prog o (S17b l ns x i k n ops ops1 outs at1 at2 (L 0) (L 1) (L 2) (L 3) (L 4) (L 5) (L 6) (L 7) (L 8) (L 9) (L 10) (L 11) (L 12) (L 13) (L 14) (L 15)) (S17b l ns x i k n ops ops1 outs at1 at2 (L 0) (L 1) (L 2) (L 3) (L 4) (L 5) true (L 7) (L 8) (L 9) (L 10) (L 11) (L 12) (L 13) (L 14) (L 15))
    rw [hL]
    exact hall
  | 7, ho, hL =>
    have hall := op17_7 l ns x i k n ops ops1 outs at1 at2 L o ho
    have ho' : some _ = some o := ho
    have dp : ∀ q, ((ops17[7]?.map fun o => o.after.toList.any fun e => Region.binds .any e && Nat.beq e.on q) = some true) → L q = true := dpq ho
    show OpT Tryz.prog o (S17b l ns x i k n ops ops1 outs at1 at2 (L 0) (L 1) (L 2) (L 3) (L 4) (L 5) (L 6) (L 7) (L 8) (L 9) (L 10) (L 11) (L 12) (L 13) (L 14) (L 15)) (S17b l ns x i k n ops ops1 outs at1 at2 (L 0) (L 1) (L 2) (L 3) (L 4) (L 5) (L 6) true (L 8) (L 9) (L 10) (L 11) (L 12) (L 13) (L 14) (L 15))
    rw [hL]
    exact hall
  | 8, ho, hL =>
    have hall := op17_8 l ns x i k n ops ops1 outs at1 at2 L o ho
    have ho' : some _ = some o := ho
    have dp : ∀ q, ((ops17[8]?.map fun o => o.after.toList.any fun e => Region.binds .any e && Nat.beq e.on q) = some true) → L q = true := dpq ho
    show OpT Tryz.prog o (S17b l ns x i k n ops ops1 outs at1 at2 (L 0) (L 1) (L 2) (L 3) (L 4) (L 5) (L 6) (L 7) (L 8) (L 9) (L 10) (L 11) (L 12) (L 13) (L 14) (L 15)) (S17b l ns x i k n ops ops1 outs at1 at2 (L 0) (L 1) (L 2) (L 3) (L 4) (L 5) (L 6) (L 7) true (L 9) (L 10) (L 11) (L 12) (L 13) (L 14) (L 15))
    rw [hL]
    exact hall
  | 9, ho, hL =>
    have hall := op17_9 l ns x i k n ops ops1 outs at1 at2 L hfn o ho
    have ho' : some _ = some o := ho
    have dp : ∀ q, ((ops17[9]?.map fun o => o.after.toList.any fun e => Region.binds .any e && Nat.beq e.on q) = some true) → L q = true := dpq ho
    have e6 : L 6 = true := dp 6 (by decide +kernel)
    have e7 : L 7 = true := dp 7 (by decide +kernel)
    have e8 : L 8 = true := dp 8 (by decide +kernel)
    have e11 : L 11 = false := by
      cases h : L 11 with
      | false => rfl
      | true => have := (c11_9 h); rw [hL] at this; cases this
    have e15 : L 15 = false := by
      cases h : L 15 with
      | false => rfl
      | true => have := (c15_9 h); rw [hL] at this; cases this
    show OpT Tryz.prog o (S17b l ns x i k n ops ops1 outs at1 at2 (L 0) (L 1) (L 2) (L 3) (L 4) (L 5) (L 6) (L 7) (L 8) (L 9) (L 10) (L 11) (L 12) (L 13) (L 14) (L 15)) (S17b l ns x i k n ops ops1 outs at1 at2 (L 0) (L 1) (L 2) (L 3) (L 4) (L 5) (L 6) (L 7) (L 8) true (L 10) (L 11) (L 12) (L 13) (L 14) (L 15))
    rw [hL, e6, e7, e8, e11, e15]
    exact hall
  | 10, ho, hL =>
    have hall := op17_10 l ns x i k n ops ops1 outs at1 at2 L o ho
    have ho' : some _ = some o := ho
    have dp : ∀ q, ((ops17[10]?.map fun o => o.after.toList.any fun e => Region.binds .any e && Nat.beq e.on q) = some true) → L q = true := dpq ho
    have e9 : L 9 = true := dp 9 (by decide +kernel)
    show OpT Tryz.prog o (S17b l ns x i k n ops ops1 outs at1 at2 (L 0) (L 1) (L 2) (L 3) (L 4) (L 5) (L 6) (L 7) (L 8) (L 9) (L 10) (L 11) (L 12) (L 13) (L 14) (L 15)) (S17b l ns x i k n ops ops1 outs at1 at2 (L 0) (L 1) (L 2) (L 3) (L 4) (L 5) (L 6) (L 7) (L 8) (L 9) true (L 11) (L 12) (L 13) (L 14) (L 15))
    rw [hL, e9]
    exact hall
  | 11, ho, hL =>
    have hall := op17_11 l ns x i k n ops ops1 outs at1 at2 L hb o ho
    have ho' : some _ = some o := ho
    have dp : ∀ q, ((ops17[11]?.map fun o => o.after.toList.any fun e => Region.binds .any e && Nat.beq e.on q) = some true) → L q = true := dpq ho
    have e5 : L 5 = true := dp 5 (by decide +kernel)
    have e10 : L 10 = true := dp 10 (by decide +kernel)
    have e9 : L 9 = true := dp 9 (by decide +kernel)
    have e15 : L 15 = false := by
      cases h : L 15 with
      | false => rfl
      | true => have := (c15_11 h); rw [hL] at this; cases this
    show OpT Tryz.prog o (S17b l ns x i k n ops ops1 outs at1 at2 (L 0) (L 1) (L 2) (L 3) (L 4) (L 5) (L 6) (L 7) (L 8) (L 9) (L 10) (L 11) (L 12) (L 13) (L 14) (L 15)) (S17b l ns x i k n ops ops1 outs at1 at2 (L 0) (L 1) (L 2) (L 3) (L 4) (L 5) (L 6) (L 7) (L 8) (L 9) (L 10) true (L 12) (L 13) (L 14) (L 15))
    rw [hL, e5, e10, e9, e15]
    exact hall
  | 12, ho, hL =>
    have hall := op17_12 l ns x i k n ops ops1 outs at1 at2 L o ho
    have ho' : some _ = some o := ho
    have dp : ∀ q, ((ops17[12]?.map fun o => o.after.toList.any fun e => Region.binds .any e && Nat.beq e.on q) = some true) → L q = true := dpq ho
    have e0 : L 0 = true := dp 0 (by decide +kernel)
    show OpT Tryz.prog o (S17b l ns x i k n ops ops1 outs at1 at2 (L 0) (L 1) (L 2) (L 3) (L 4) (L 5) (L 6) (L 7) (L 8) (L 9) (L 10) (L 11) (L 12) (L 13) (L 14) (L 15)) (S17b l ns x i k n ops ops1 outs at1 at2 (L 0) (L 1) (L 2) (L 3) (L 4) (L 5) (L 6) (L 7) (L 8) (L 9) (L 10) (L 11) true (L 13) (L 14) (L 15))
    rw [hL, e0]
    exact hall
  | 13, ho, hL =>
    have hall := op17_13 l ns x i k n ops ops1 outs at1 at2 L o ho
    have ho' : some _ = some o := ho
    have dp : ∀ q, ((ops17[13]?.map fun o => o.after.toList.any fun e => Region.binds .any e && Nat.beq e.on q) = some true) → L q = true := dpq ho
    have e12 : L 12 = true := dp 12 (by decide +kernel)
    show OpT Tryz.prog o (S17b l ns x i k n ops ops1 outs at1 at2 (L 0) (L 1) (L 2) (L 3) (L 4) (L 5) (L 6) (L 7) (L 8) (L 9) (L 10) (L 11) (L 12) (L 13) (L 14) (L 15)) (S17b l ns x i k n ops ops1 outs at1 at2 (L 0) (L 1) (L 2) (L 3) (L 4) (L 5) (L 6) (L 7) (L 8) (L 9) (L 10) (L 11) (L 12) true (L 14) (L 15))
    rw [hL, e12]
    exact hall
  | 14, ho, hL =>
    have hall := op17_14 l ns x i k n ops ops1 outs at1 at2 L o ho
    have ho' : some _ = some o := ho
    have dp : ∀ q, ((ops17[14]?.map fun o => o.after.toList.any fun e => Region.binds .any e && Nat.beq e.on q) = some true) → L q = true := dpq ho
    have e13 : L 13 = true := dp 13 (by decide +kernel)
    show OpT Tryz.prog o (S17b l ns x i k n ops ops1 outs at1 at2 (L 0) (L 1) (L 2) (L 3) (L 4) (L 5) (L 6) (L 7) (L 8) (L 9) (L 10) (L 11) (L 12) (L 13) (L 14) (L 15)) (S17b l ns x i k n ops ops1 outs at1 at2 (L 0) (L 1) (L 2) (L 3) (L 4) (L 5) (L 6) (L 7) (L 8) (L 9) (L 10) (L 11) (L 12) (L 13) true (L 15))
    rw [hL, e13]
    exact hall
  | 15, ho, hL =>
    have hall := op17_15 l ns x i k n ops ops1 outs at1 at2 L o ho
    have ho' : some _ = some o := ho
    have dp : ∀ q, ((ops17[15]?.map fun o => o.after.toList.any fun e => Region.binds .any e && Nat.beq e.on q) = some true) → L q = true := dpq ho
    have e14 : L 14 = true := dp 14 (by decide +kernel)
    have e11 : L 11 = true := dp 11 (by decide +kernel)
    show OpT Tryz.prog o (S17b l ns x i k n ops ops1 outs at1 at2 (L 0) (L 1) (L 2) (L 3) (L 4) (L 5) (L 6) (L 7) (L 8) (L 9) (L 10) (L 11) (L 12) (L 13) (L 14) (L 15)) (S17b l ns x i k n ops ops1 outs at1 at2 (L 0) (L 1) (L 2) (L 3) (L 4) (L 5) (L 6) (L 7) (L 8) (L 9) (L 10) (L 11) (L 12) (L 13) (L 14) true)
    rw [hL, e14, e11]
    exact hall
  | j + 16, ho, _ =>
    have hs : ops17.size = 16 := by kernel_rfl
    have := (Array.getElem?_eq_some_iff.1 ho).1
    omega
end
end Go.Proofs.YtmcdnbmamoggoaaGreat

/-
  The tape: Compile.
-/
namespace Go.Proofs.YtmcdnbmamoggoaaGreat
open Go Go.Sx
set_option maxRecDepth 100000
set_option maxHeartbeats 8000000
structure Tp where
  ins : Int
  ops : List TOp
  outs : List Int
def tp0 : Tp := ⟨0, [], []⟩
abbrev tpC (t : Tp) : List AV := [.int .i64 t.ins, .sl .op t.ops, .sl .int t.outs]
abbrev cpV (p : Tp × Int) : AV := .tup [.agg (tpC p.1), .int .i64 p.2]
def newE (ns : List Bytes) (e : Ex) : Bool := (nmE e).any (newN ns)
def cpE (l : List Ex) (ns : List Bytes) : Tp × Int :=
  if l.any badE = true ∨ ns.any badN = true then (tp0, 1) else if 8 < ns.length ∨ 200 < l.length then (tp0, 5) else if twB ns = true then (tp0, 8) else if l.any (newE ns) = true then (tp0, 7) else
  if 200 < (ndL ns.length ns l ([], [])).2.1.length ∨ 200 < (ndL ns.length ns l ([], [])).1.length then (tp0, 5) else (⟨ns.length, (ndL ns.length ns l ([], [])).2.1, (ndL ns.length ns l ([], [])).1⟩, 0)
theorem ndL_snoc (ins : Int) (ns : List Bytes) (x : Ex) : ∀ (l : List Ex) (st : BS), ndL ins ns (l ++ [x]) st = ((ndL ins ns l st).1 ++ [(ndE ins ns x (ndL ins ns l st).2).1], (ndE ins ns x (ndL ins ns l st).2).2)
  | [], st => by simp [ndL]
  | y :: l, st => by simp only [List.cons_append, ndL, ndL_snoc ins ns x l]
theorem ndL_outs (ins : Int) (ns : List Bytes) : ∀ (l : List Ex) (st : BS), (ndL ins ns l st).1.length = l.length
  | [], st => rfl
  | y :: l, st => by simp [ndL, ndL_outs ins ns l]
theorem sizL_le {l : List Ex} (h : ∀ x ∈ l, okT x = true) : sizL l ≤ 200 * l.length := by
  induction l with
  | nil => simp [sizL]
  | cons x l ih =>
    have h1 := ((okT_iff x).1 (h x List.mem_cons_self)).2.2
    have h2 := ih fun y hy => h y (List.mem_cons_of_mem _ hy)
    simp only [sizL, List.length_cons]; omega
noncomputable def body46 : Code := Tryz.f7.body.getD .skip
theorem f46 (l : List Ex) (ns : List Bytes) (hl : ∀ x ∈ l, Sm x) (hll : l.length < 9223372036854775808) (hns : ∀ x ∈ ns, x.length < 9223372036854775808) (hnl : ns.length < 9223372036854775808) :
    Fn 7 [] [.sl .ex l, .sl .str ns] (cpV (cpE l ns)) [] := by
  obtain ⟨A, hA⟩ : ∃ A, cpE l ns = A := ⟨_, rfl⟩
  rw [hA]
  unfold cpE at hA
  refine fnC_sound (code := body46) hT2 hmx Tryz.func7 rfl rfl (ex := []) ?_
  conv => whnf
  refine sem_cut hT2 hmx 4 (fun _ : PLift (l.any badE = false ∧ ns.any badN = false ∧ ¬ 8 < ns.length ∧ ¬ 200 < l.length ∧ twB ns = false ∧ l.any (newE ns) = false) => ⟨[.sl .ex l, .any, .any, .ptr 3 0, .ptr 4 0, .any, .any, .any, .ptr 48 0] ++ anys 69,
    [(3, .cells [.sl .str ns]), (4, .cells [.int .i64 0, .nilsl, .nilsl]), (7, .free), (48, .cells [.int .i64 ns.length, .own 100048, .own 200048, .mp 300048]), (100048, .buf 50 .op []), (200048, .buf 3 .int []), (300048, .map .op .int []), (10, .free), (66, .free), (100066, .free), (1500066, .free)]⟩) (fun _ => by kernel_rfl) ?_ (fun hx => ?_)
  rotate_left
  · obtain ⟨⟨h1, h2, h3, h4, h5, h6⟩⟩ := hx
    rw [if_neg (by rw [h1, h2]; simp), if_neg (by omega), if_neg (by rw [h5]; simp), if_neg (by rw [h6]; simp)] at hA
    have hok : ∀ x ∈ l, okT x = true := fun x hx => by
      have := (List.any_eq_false.1 h1) x hx
      simpa [badE] using this
    refine sem_end4 hT2 hmx [17, 19] ?_
    conv => whnf
    refine ⟨Nat, fun i => i ≤ l.length, fun i => [(51, .int .i64 i)], fun i => [(100048, .buf 50 .op (ndL ns.length ns (l.take i) ([], [])).2.1), (200048, .buf 3 .int (ndL ns.length ns (l.take i) ([], [])).1), (300048, .map .op .int (ndL ns.length ns (l.take i) ([], [])).2.2)], fun i => l.length - i, 0, by omega, ?_, fun i hi => ?_⟩
    · ((conv => whnf); refine And.intro ?_ ?_; repeat' first | refine leL_cons ?_ ?_ | exact leA_any | exact leA_refl rfl | exact leL_nil | refine leH_cons ?_ ?_ | exact leH_nil | exact leB_free | exact leB_dead | refine leB_cells ?_ | exact leB_map rfl | exact leB_buf rfl | exact leB_gst rfl | exact leA_nil rfl | refine leA_agg ?_ | refine leA_tup ?_ | fail)
    (refine ⟨by kernel_rfl, ?_⟩; (conv => whnf))
    have hi : i ≤ l.length := hi
    refine brI (fun h7 => ?_) (fun h7 => ?_)
    · conv => whnf
      have hi : i < l.length := by simp only [decide_eq_true_eq] at h7; omega
      refine ⟨⟨by omega, by omega⟩, fun x hx => ?_⟩
      have hx : l[i]? = some x := by simpa using hx
      have hm := List.mem_of_getElem? hx
      have htk : l.take (i + 1) = l.take i ++ [x] := by rw [List.take_add_one, hx]; rfl
      have hsn := ndL_snoc ns.length ns x (l.take i) ([], [])
      rw [← htk] at hsn
      have hlo := ndL_outs ns.length ns (l.take i) ([], [])
      have hls := ndL_len ns.length ns (l.take i) ([], [])
      have hsz := sizL_le (l := l.take i) fun y hy => hok y (List.mem_of_mem_take hy)
      have hsx := ((okT_iff x).1 (hok x hm)).2.2
      have h94 := f94 ns.length ns (ndL ns.length ns (l.take i) ([], [])).1 (by omega) (by omega) hnl (okT_VT (hok x hm)) (ndL ns.length ns (l.take i) ([], [])).2 (by
        rw [List.length_take] at hsz
        simp only [List.length_nil] at hls; omega)
      obtain ⟨R, hR⟩ : ∃ R, ndL ns.length ns (l.take i) ([], []) = R := ⟨_, rfl⟩
      rw [hR] at hsn hlo h94 ⊢
      obtain ⟨outs, ops, at1⟩ := R
      obtain ⟨Q, hQ⟩ : ∃ Q, ndE ns.length ns x (ops, at1) = Q := ⟨_, rfl⟩
      simp only at hsn h94 hlo
      rw [hQ] at hsn h94
      obtain ⟨k, ops1, at2⟩ := Q
      conv => whnf
      refine tri_swapN 200048 66 ?_
      refine tri_drawF hmx (S17 l ns x i k ns.length ops ops1 outs at1 at2) (by kernel_rfl) ?_ (by kernel_rfl) (step17 l ns x i k ns.length ops ops1 outs at1 at2 · (h94.sw [(48, 1000001), (100048, 1700002), (200048, 1000003), (300048, 1000004)] rfl) ?_) ?_
      · ((conv => whnf); refine And.intro ?_ ?_; repeat' first | refine leL_cons ?_ ?_ | exact leA_any | exact leA_refl rfl | exact leL_nil | refine leH_cons ?_ ?_ | exact leH_nil | exact leB_free | exact leB_dead | refine leB_cells ?_ | exact leB_map rfl | exact leB_buf rfl | exact leB_gst rfl | exact leA_nil rfl | refine leA_agg ?_ | refine leA_tup ?_ | fail)
      · rw [List.length_take] at hlo; omega
      · refine ⟨by kernel_rfl, ?_⟩
        conv => whnf
        refine ⟨i + 1, by omega, by show l.length - (i + 1) < l.length - i; omega, ?_⟩
        ((conv => whnf); refine And.intro ?_ ?_; repeat' first | refine leL_cons ?_ ?_ | exact leA_any | exact leA_refl rfl | exact leL_nil | refine leH_cons ?_ ?_ | exact leH_nil | exact leB_free | exact leB_dead | refine leB_cells ?_ | exact leB_map rfl | exact leB_buf rfl | exact leB_gst rfl | exact leA_nil rfl | refine leA_agg ?_ | refine leA_tup ?_ | fail)
        · exact leA_int (by rw [wI (by omega)]; omega)
        · exact leB_buf (by rw [hsn]; rfl)
        · exact leB_buf (by rw [hsn])
        · exact leB_map (by rw [hsn]; rfl)
    · have hi : i = l.length := by simp only [decide_eq_false_iff_not] at h7; omega
      subst hi
      rw [List.take_length]
      obtain ⟨R, hR⟩ : ∃ R, ndL ns.length ns l ([], []) = R := ⟨_, rfl⟩
      rw [hR] at hA ⊢
      obtain ⟨outs, ops, at1⟩ := R
      have h95 := (f95 ns.length ops outs at1).sw [(48, 1000001), (100048, 1000002), (200048, 1000003), (300048, 1000004)] rfl
      simp only at hA
      by_cases h8 : 200 < ops.length ∨ 200 < outs.length
      · rw [if_pos h8] at hA
        subst hA
        rw [show (decide (200 < ops.length) || decide (200 < outs.length)) = true by simpa using h8] at h95
        conv => whnf
        refine tri_callB hT2 1 ?_
        conv => whnf
        refine ⟨31, [48, 100048, 200048, 300048], [], blks (bH 48 100048 200048 300048 ns.length ops outs at1), .bool true, rfl, by kernel_rfl, h95, ?_⟩
        conv => whnf
        exact ⟨leA_tup (leL_cons (leA_agg (leL_cons (leA_refl rfl) (leL_cons (leA_nil rfl) (leL_cons (leA_nil rfl) leL_nil)))) (leL_cons (leA_refl rfl) leL_nil)), leH_nil⟩
      · rw [if_neg h8] at hA
        subst hA
        rw [show (decide (200 < ops.length) || decide (200 < outs.length)) = false by simpa using h8] at h95
        conv => whnf
        refine tri_callB hT2 1 ?_
        conv => whnf
        refine ⟨31, [48, 100048, 200048, 300048], [], blks (bH 48 100048 200048 300048 ns.length ops outs at1), .bool false, rfl, by kernel_rfl, h95, ?_⟩
        conv => whnf
        exact ⟨leA_refl rfl, leH_nil⟩
  conv => whnf
  refine cbI [] (l.any badE) (f60b l hl hll) (fun h1 => ?_) (fun h1 => ?_)
  · rw [if_pos (.inl h1)] at hA
    subst hA
    conv => whnf
    exact ⟨leA_tup (leL_cons (leA_agg (leL_cons (leA_refl rfl) (leL_cons (leA_nil rfl) (leL_cons (leA_nil rfl) leL_nil)))) (leL_cons (leA_refl rfl) leL_nil)), leH_nil⟩
  conv => whnf
  refine cbI [] (ns.any badN) (f32b ns hns hnl) (fun h2 => ?_) (fun h2 => ?_)
  · rw [if_pos (.inr h2)] at hA
    subst hA
    conv => whnf
    exact ⟨leA_tup (leL_cons (leA_agg (leL_cons (leA_refl rfl) (leL_cons (leA_nil rfl) (leL_cons (leA_nil rfl) leL_nil)))) (leL_cons (leA_refl rfl) leL_nil)), leH_nil⟩
  rw [if_neg (by rw [h1, h2]; simp)] at hA
  conv => whnf
  refine brI (fun h3 => ?_) (fun h3 => ?_)
  · have h3 : 8 < ns.length := by simp only [decide_eq_true_eq] at h3; omega
    rw [if_pos (.inl h3)] at hA
    subst hA
    conv => whnf
    exact ⟨leA_tup (leL_cons (leA_agg (leL_cons (leA_refl rfl) (leL_cons (leA_nil rfl) (leL_cons (leA_nil rfl) leL_nil)))) (leL_cons (leA_refl rfl) leL_nil)), leH_nil⟩
  have h3 : ¬ 8 < ns.length := by simp only [decide_eq_false_iff_not] at h3; omega
  conv => whnf
  refine brI (fun h4 => ?_) (fun h4 => ?_)
  · have h4 : 200 < l.length := by simp only [decide_eq_true_eq] at h4; omega
    rw [if_pos (.inr h4)] at hA
    subst hA
    conv => whnf
    exact ⟨leA_tup (leL_cons (leA_agg (leL_cons (leA_refl rfl) (leL_cons (leA_nil rfl) (leL_cons (leA_nil rfl) leL_nil)))) (leL_cons (leA_refl rfl) leL_nil)), leH_nil⟩
  have h4 : ¬ 200 < l.length := by simp only [decide_eq_false_iff_not] at h4; omega
  rw [if_neg (by omega)] at hA
  conv => whnf
  refine cbI [] (twB ns) (f90 ns hnl) (fun h5 => ?_) (fun h5 => ?_)
  · rw [if_pos h5] at hA
    subst hA
    conv => whnf
    exact ⟨leA_tup (leL_cons (leA_agg (leL_cons (leA_refl rfl) (leL_cons (leA_nil rfl) (leL_cons (leA_nil rfl) leL_nil)))) (leL_cons (leA_refl rfl) leL_nil)), leH_nil⟩
  rw [if_neg (by rw [h5]; simp)] at hA
  conv => whnf
  refine ⟨Nat, fun i => i ≤ l.length ∧ (l.drop i).any (newE ns) = l.any (newE ns), fun i => [(35, .int .i64 i)], fun _ => [], fun i => l.length - i, 0, ⟨by simp, rfl⟩, ?_, fun i hi => ?_⟩
  · ((conv => whnf); refine And.intro ?_ ?_; repeat' first | refine leL_cons ?_ ?_ | exact leA_any | exact leA_refl rfl | exact leL_nil | refine leH_cons ?_ ?_ | exact leH_nil | exact leB_free | exact leB_dead | refine leB_cells ?_ | exact leB_map rfl | exact leB_gst rfl | exact leA_nil rfl | refine leA_agg ?_ | refine leA_tup ?_ | fail)
  (refine ⟨by kernel_rfl, ?_⟩; (conv => whnf))
  obtain ⟨hi1, hi2⟩ := hi
  refine brI (fun h6 => ?_) (fun h6 => ?_)
  · conv => whnf
    have hi : i < l.length := by simp only [decide_eq_true_eq] at h6; omega
    refine ⟨⟨by omega, by omega⟩, fun x hx => ?_⟩
    have hx : l[i]? = some x := by simpa using hx
    have hm := List.mem_of_getElem? hx
    rw [drop_get hx] at hi2
    simp only [List.any_cons] at hi2
    conv => whnf
    refine ⟨[], _, f91 x (hl x hm), ?_⟩
    have hnl2 : (nmE x).length ≤ 1000 := by
      have g1 := compact_le (srtS (namV (visE x)))
      have g2 : (srtS (namV (visE x))).length = (namV (visE x)).length := List.length_mergeSort _
      have g3 := namV_len (visE x)
      have g4 := visE_len x
      have g5 := szN_le x
      unfold nmE; omega
    conv => whnf
    refine cbI [.cells [.sl .str ns]] (newE ns x) ((f32c ns hnl (nmE x) (by omega)).sw [(3, 1000003)] rfl) (fun h7 => ?_) (fun h7 => ?_)
    · conv => whnf
      have h8 : l.any (newE ns) = true := by rw [← hi2, h7]; rfl
      rw [if_pos h8] at hA
      subst hA
      exact ⟨leA_tup (leL_cons (leA_agg (leL_cons (leA_refl rfl) (leL_cons (leA_nil rfl) (leL_cons (leA_nil rfl) leL_nil)))) (leL_cons (leA_refl rfl) leL_nil)), leH_nil⟩
    · conv => whnf
      rw [h7] at hi2
      refine ⟨i + 1, ⟨by omega, by simpa using hi2⟩, by show l.length - (i + 1) < l.length - i; omega, ?_⟩
      ((conv => whnf); refine And.intro ?_ ?_; repeat' first | refine leL_cons ?_ ?_ | exact leA_any | exact leA_refl rfl | exact leL_nil | refine leH_cons ?_ ?_ | exact leH_nil | exact leB_free | exact leB_dead | refine leB_cells ?_ | exact leB_map rfl | exact leB_gst rfl | exact leA_nil rfl | refine leA_agg ?_ | refine leA_tup ?_ | fail)
      exact leA_int (by rw [wI (by omega)]; omega)
  have hi : ¬ i < l.length := by simp only [decide_eq_false_iff_not] at h6; omega
  have h6 : l.any (newE ns) = false := by rw [← hi2, List.drop_of_length_le (by omega)]; rfl
  rw [if_neg (by rw [h6]; simp)] at hA
  clear hi1 hi2 hi
  conv => whnf
  refine ⟨[], blks (bH 2000000 2000001 2000002 2000003 ns.length [] [] []), .ptr 2000000 0, f93 ns.length, ?_⟩
  conv => whnf
  refine ⟨⟨h1, h2, h3, h4, h5, h6⟩, ?_⟩
  ((conv => whnf); refine And.intro ?_ ?_; repeat' first | refine leL_cons ?_ ?_ | exact leA_any | exact leA_refl rfl | exact leL_nil | refine leH_cons ?_ ?_ | exact leH_nil | exact leB_free | exact leB_dead | refine leB_cells ?_ | exact leB_map rfl | exact leB_buf rfl | exact leB_gst rfl | exact leA_nil rfl | refine leA_agg ?_ | refine leA_tup ?_ | fail)
end Go.Proofs.YtmcdnbmamoggoaaGreat
