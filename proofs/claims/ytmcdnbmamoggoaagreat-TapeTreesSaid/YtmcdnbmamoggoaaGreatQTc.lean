/-
  The tape: valid operations.
-/
import Derived.Test.YtmcdnbmamoggoaaGreatQTa
import Derived.Test.YtmcdnbmamoggoaaGreatQUa
import Derived.Test.YtmcdnbmamoggoaaGreatQTb
set_option linter.unusedVariables false
set_option linter.unusedSimpArgs false
namespace Go.Proofs.YtmcdnbmamoggoaaGreat
open Go Go.Sx
set_option maxRecDepth 100000
set_option maxHeartbeats 8000000
def opn2 (k : Int) : Int := if k = 1 then 0 else if k = 3 ∨ k = 4 ∨ k = 5 ∨ k = 6 then 2 else if k = 7 ∨ k = 8 ∨ k = 9 ∨ k = 10 ∨ k = 11 ∨ k = 12 ∨ k = 13 then 1 else -1
theorem f129 (k : Int) : Fn 63 [] [.int .i64 k] (.int .i64 (opn2 k)) [] := by
  refine fnT hT2 hmx Tryz.func63 rfl rfl (ex := []) ?_
  conv => whnf
  repeat' first
    | (refine brI (fun h => ?_) (fun h => ?_) <;> (conv => whnf))
    | refine And.intro (leA_int ?_) leH_nil
    | fail
  all_goals (simp only [beq_iff_eq, beq_eq_false_iff_ne, ne_eq] at *; unfold opn2; repeat' split)
  all_goals first | rfl | omega
def inB (a n : Int) : Bool := decide (0 ≤ a) && decide (a < n)
/-- An operation is valid behind n values. -/
def tB (o : TOp) (n : Int) : Bool :=
  if o.k = 1 then (o.a == 0 && (o.b == 0 && (o.n == 0 && rOk o.c)))
  else if o.k = 3 ∨ o.k = 4 ∨ o.k = 5 ∨ o.k = 6 then (inB o.a n && (inB o.b n && (o.n == 0 && (o.c.n == 0 && o.c.d == 0))))
  else if o.k = 8 then (inB o.a n && (o.b == 0 && (decide (0 ≤ o.n) && decide (o.n ≤ 16) && (o.c.n == 0 && o.c.d == 0))))
  else if o.k = 7 ∨ o.k = 9 ∨ o.k = 10 ∨ o.k = 11 ∨ o.k = 12 ∨ o.k = 13 then (inB o.a n && (o.b == 0 && (o.n == 0 && (o.c.n == 0 && o.c.d == 0))))
  else false
theorem f132 (r : Rt) : Fn 81 [] [.agg [.int .i64 r.n, .int .i64 r.d]] (.bool (r.n == 0 && r.d == 0)) [] := by
  refine fnT hT2 hmx Tryz.func81 rfl rfl (ex := []) ?_
  conv => whnf
  repeat' first
    | (refine brI (fun h => ?_) (fun h => ?_) <;> (conv => whnf))
    | refine And.intro (leA_bool ?_) leH_nil
    | fail
  all_goals (simp only [beq_iff_eq, beq_eq_false_iff_ne, ne_eq] at *; simp [*])
theorem f81 (o : TOp) (n : Int) : Fn 41 [] [.agg (Elt.op.cells o), .int .i64 n] (.bool (tB o n)) [] := by
  obtain ⟨k, a, b, p, ⟨c, d⟩⟩ := o
  have h129 := f129 k
  by_cases h1 : k = 1
  · subst h1
    have h54 := f54 c d
    obtain ⟨v, hv⟩ : ∃ v, rOk ⟨c, d⟩ = v := ⟨_, rfl⟩
    rw [hv] at h54
    refine fnT hT2 hmx Tryz.func41 rfl rfl (ex := []) ?_
    conv => whnf
    refine ⟨[], .int .i64 0, h129, ?_⟩
    conv => whnf
    cases v with
    | false =>
      refine ⟨[], .bool false, h54, ?_⟩
      conv => whnf
      exact ⟨leA_bool (by simp [tB, hv]), leH_nil⟩
    | true =>
      refine ⟨[], .bool true, h54, ?_⟩
      conv => whnf
      exact ⟨leA_bool (by simp [tB, hv]), leH_nil⟩
  by_cases h2 : k = 3 ∨ k = 4 ∨ k = 5 ∨ k = 6
  · rw [show opn2 k = 2 by unfold opn2; rw [if_neg h1, if_pos h2]] at h129
    refine fnT hT2 hmx Tryz.func41 rfl rfl (ex := []) ?_
    conv => whnf
    refine ⟨[], .int .i64 2, h129, ?_⟩
    conv => whnf
    refine brI (fun h => absurd (show k = 8 by simpa using h) (by omega)) (fun _ => ?_)
    conv => whnf
    repeat' first
      | (refine brI (fun h => ?_) (fun h => ?_) <;> (conv => whnf))
      | refine And.intro (leA_bool ?_) leH_nil
      | fail
    all_goals (simp only [decide_eq_true_eq, decide_eq_false_iff_not, beq_eq_false_iff_ne, beq_iff_eq, ne_eq] at *; rw [Bool.eq_iff_iff]; simp [tB, inB, h1, h2]; try omega)
  by_cases h3 : k = 8
  · subst h3
    rw [show opn2 8 = 1 from rfl] at h129
    refine fnT hT2 hmx Tryz.func41 rfl rfl (ex := []) ?_
    conv => whnf
    refine ⟨[], .int .i64 1, h129, ?_⟩
    conv => whnf
    repeat' first
      | (refine brI (fun h => ?_) (fun h => ?_) <;> (conv => whnf))
      | refine And.intro (leA_bool ?_) leH_nil
      | fail
    all_goals (simp only [decide_eq_true_eq, decide_eq_false_iff_not, beq_eq_false_iff_ne, beq_iff_eq, ne_eq] at *; rw [Bool.eq_iff_iff]; simp [tB, inB]; try omega)
  by_cases h4 : k = 7 ∨ k = 9 ∨ k = 10 ∨ k = 11 ∨ k = 12 ∨ k = 13
  · rw [show opn2 k = 1 by unfold opn2; rw [if_neg h1, if_neg h2, if_pos (by omega)]] at h129
    refine fnT hT2 hmx Tryz.func41 rfl rfl (ex := []) ?_
    conv => whnf
    refine ⟨[], .int .i64 1, h129, ?_⟩
    conv => whnf
    refine brI (fun h => absurd (show k = 8 by simpa using h) h3) (fun _ => ?_)
    conv => whnf
    repeat' first
      | (refine brI (fun h => ?_) (fun h => ?_) <;> (conv => whnf))
      | refine And.intro (leA_bool ?_) leH_nil
      | fail
    all_goals (simp only [decide_eq_true_eq, decide_eq_false_iff_not, beq_eq_false_iff_ne, beq_iff_eq, ne_eq] at *; rw [Bool.eq_iff_iff]; simp [tB, inB, h1, h2, h3, h4]; try omega)
  · rw [show opn2 k = -1 by unfold opn2; rw [if_neg h1, if_neg h2, if_neg (by omega)]] at h129
    refine fnT hT2 hmx Tryz.func41 rfl rfl (ex := []) ?_
    conv => whnf
    refine ⟨[], .int .i64 (-1), h129, ?_⟩
    conv => whnf
    exact ⟨leA_bool (by simp [tB, h1, h2, h3, h4]), leH_nil⟩
end Go.Proofs.YtmcdnbmamoggoaaGreat

/-
  The tape: valid operations, as the reference has them.
-/
namespace Go.Proofs.YtmcdnbmamoggoaaGreat
open Go Go.Sx
set_option maxRecDepth 100000
set_option maxHeartbeats 8000000
noncomputable def body84 : Code := Tryz.f64.body.getD .skip
theorem f84 (o : TOp) (n : Int) : Fn 64 [] [.agg (Elt.op.cells o), .int .i64 n] (.bool (tB o n)) [] := by
  obtain ⟨k, a, b, p, ⟨c, d⟩⟩ := o
  have h132 := f132 ⟨c, d⟩
  obtain ⟨z, hz⟩ : ∃ z, (c == 0 && d == 0) = z := ⟨_, rfl⟩
  have h132 : Fn 81 [] [.agg [.int .i64 c, .int .i64 d]] (.bool z) [] := by rw [← hz]; exact h132
  have h131 := f131 c d
  obtain ⟨v, hv⟩ : ∃ v, rOk ⟨c, d⟩ = v := ⟨_, rfl⟩
  rw [hv] at h131
  refine fnC_sound (code := body84) hT2 hmx Tryz.func64 rfl rfl (ex := []) ?_
  conv => whnf
  refine sem_cut hT2 hmx 3 (fun _ : Unit => ⟨[.any, .int .i64 n, .ptr 2 0, .any, .any, .bool (inB a n), .bool (inB b n)] ++ anys 105, [(2, .cells [.int .i64 k, .int .i64 a, .int .i64 b, .int .i64 p, .int .i64 c, .int .i64 d])]⟩) (fun _ => by kernel_rfl) ?_ (fun _ => ?_)
  · conv => whnf
    refine brI (fun h1 => ?_) (fun h1 => ?_)
    · conv => whnf
      refine brI (fun h2 => ?_) (fun h2 => ?_)
      · conv => whnf
        refine ⟨(), ?_⟩
        ((conv => whnf); refine And.intro ?_ ?_; repeat' first | refine leL_cons ?_ ?_ | exact leA_any | exact leA_refl rfl | exact leL_nil | refine leH_cons ?_ ?_ | exact leH_nil | exact leB_free | exact leB_dead | refine leB_cells ?_ | exact leB_map rfl | exact leB_gst rfl | exact leA_nil rfl | refine leA_agg ?_ | refine leA_tup ?_ | fail)
        all_goals (refine leA_bool ?_; simp only [decide_eq_true_eq, decide_eq_false_iff_not] at *; rw [Bool.eq_iff_iff]; simp [inB]; try omega)
      · conv => whnf
        refine ⟨(), ?_⟩
        ((conv => whnf); refine And.intro ?_ ?_; repeat' first | refine leL_cons ?_ ?_ | exact leA_any | exact leA_refl rfl | exact leL_nil | refine leH_cons ?_ ?_ | exact leH_nil | exact leB_free | exact leB_dead | refine leB_cells ?_ | exact leB_map rfl | exact leB_gst rfl | exact leA_nil rfl | refine leA_agg ?_ | refine leA_tup ?_ | fail)
        all_goals (refine leA_bool ?_; simp only [decide_eq_true_eq, decide_eq_false_iff_not] at *; rw [Bool.eq_iff_iff]; simp [inB]; try omega)
    · conv => whnf
      refine brI (fun h2 => ?_) (fun h2 => ?_)
      · conv => whnf
        refine ⟨(), ?_⟩
        ((conv => whnf); refine And.intro ?_ ?_; repeat' first | refine leL_cons ?_ ?_ | exact leA_any | exact leA_refl rfl | exact leL_nil | refine leH_cons ?_ ?_ | exact leH_nil | exact leB_free | exact leB_dead | refine leB_cells ?_ | exact leB_map rfl | exact leB_gst rfl | exact leA_nil rfl | refine leA_agg ?_ | refine leA_tup ?_ | fail)
        all_goals (refine leA_bool ?_; simp only [decide_eq_true_eq, decide_eq_false_iff_not] at *; rw [Bool.eq_iff_iff]; simp [inB]; try omega)
      · conv => whnf
        refine ⟨(), ?_⟩
        ((conv => whnf); refine And.intro ?_ ?_; repeat' first | refine leL_cons ?_ ?_ | exact leA_any | exact leA_refl rfl | exact leL_nil | refine leH_cons ?_ ?_ | exact leH_nil | exact leB_free | exact leB_dead | refine leB_cells ?_ | exact leB_map rfl | exact leB_gst rfl | exact leA_nil rfl | refine leA_agg ?_ | refine leA_tup ?_ | fail)
        all_goals (refine leA_bool ?_; simp only [decide_eq_true_eq, decide_eq_false_iff_not] at *; rw [Bool.eq_iff_iff]; simp [inB]; try omega)
  obtain ⟨A, hA⟩ : ∃ A, inB a n = A := ⟨_, rfl⟩
  obtain ⟨B, hB⟩ : ∃ B, inB b n = B := ⟨_, rfl⟩
  rw [hA, hB]
  by_cases h1 : k = 1
  · subst h1
    refine sem_end hT2 hmx ?_
    conv => whnf
    repeat' first
      | (refine brI (fun h => ?_) (fun h => ?_) <;> (conv => whnf))
      | (refine ⟨[], _, h131, ?_⟩; (conv => whnf))
      | refine And.intro (leA_bool ?_) leH_nil
      | fail
    all_goals (simp only [beq_eq_false_iff_ne, beq_iff_eq, ne_eq] at *; simp [tB, *])
  by_cases h2 : k = 3 ∨ k = 4 ∨ k = 5 ∨ k = 6
  · rcases h2 with rfl | rfl | rfl | rfl
    all_goals
      refine sem_end hT2 hmx ?_
      conv => whnf
      repeat' first
        | (refine brI (fun h => ?_) (fun h => ?_) <;> (conv => whnf))
        | (refine ⟨[], _, h132, ?_⟩; (conv => whnf))
        | refine And.intro (leA_bool ?_) leH_nil
        | fail
      all_goals (simp only [beq_eq_false_iff_ne, beq_iff_eq, ne_eq] at *; simp [tB, *])
  by_cases h3 : k = 8
  · subst h3
    refine sem_end hT2 hmx ?_
    conv => whnf
    repeat' first
      | (refine brI (fun h => ?_) (fun h => ?_) <;> (conv => whnf))
      | (refine ⟨[], _, h132, ?_⟩; (conv => whnf))
      | refine And.intro (leA_bool ?_) leH_nil
      | fail
    all_goals (simp only [decide_eq_true_eq, decide_eq_false_iff_not, beq_eq_false_iff_ne, beq_iff_eq, ne_eq] at *; simp [tB, *])
  by_cases h4 : k = 7 ∨ k = 9 ∨ k = 10 ∨ k = 11 ∨ k = 12 ∨ k = 13
  · rcases h4 with rfl | rfl | rfl | rfl | rfl | rfl
    all_goals
      refine sem_end hT2 hmx ?_
      conv => whnf
      repeat' first
        | (refine brI (fun h => ?_) (fun h => ?_) <;> (conv => whnf))
        | (refine ⟨[], _, h132, ?_⟩; (conv => whnf))
        | refine And.intro (leA_bool ?_) leH_nil
        | fail
      all_goals (simp only [beq_eq_false_iff_ne, beq_iff_eq, ne_eq] at *; simp [tB, *])
  · refine sem_end hT2 hmx ?_
    conv => whnf
    refine brI (fun h => absurd (show k = 1 by simpa using h) h1) (fun _ => ?_)
    conv => whnf
    refine brI (fun h => absurd (show k = 3 by simpa using h) (by omega)) (fun _ => ?_)
    conv => whnf
    refine brI (fun h => absurd (show k = 4 by simpa using h) (by omega)) (fun _ => ?_)
    conv => whnf
    refine brI (fun h => absurd (show k = 5 by simpa using h) (by omega)) (fun _ => ?_)
    conv => whnf
    refine brI (fun h => absurd (show k = 6 by simpa using h) (by omega)) (fun _ => ?_)
    conv => whnf
    refine brI (fun h => absurd (show k = 7 by simpa using h) (by omega)) (fun _ => ?_)
    conv => whnf
    refine brI (fun h => absurd (show k = 9 by simpa using h) (by omega)) (fun _ => ?_)
    conv => whnf
    refine brI (fun h => absurd (show k = 10 by simpa using h) (by omega)) (fun _ => ?_)
    conv => whnf
    refine brI (fun h => absurd (show k = 11 by simpa using h) (by omega)) (fun _ => ?_)
    conv => whnf
    refine brI (fun h => absurd (show k = 12 by simpa using h) (by omega)) (fun _ => ?_)
    conv => whnf
    refine brI (fun h => absurd (show k = 13 by simpa using h) (by omega)) (fun _ => ?_)
    conv => whnf
    refine brI (fun h => absurd (show k = 8 by simpa using h) h3) (fun _ => ?_)
    conv => whnf
    exact ⟨leA_bool (by simp [tB, h1, h2, h3, h4]), leH_nil⟩
end Go.Proofs.YtmcdnbmamoggoaaGreat

/-
  The tape: Valid, Rational.
-/
namespace Go.Proofs.YtmcdnbmamoggoaaGreat
open Go Go.Sx
set_option maxRecDepth 100000
set_option maxHeartbeats 8000000
abbrev Ht (t : Tp) : Hp := [(1000003, .cells (tpC t))]
theorem leHt (t : Tp) {h h' : Hp} : leH h h' (Ht t) (Ht t) := leH_cons (leB_cells (leL_cons (leA_refl rfl) (leL_cons (leA_refl rfl) (leL_cons (leA_refl rfl) leL_nil)))) leH_nil
/-- Not the number of a value. -/
def badK (t : Tp) (k : Int) : Bool := decide (k < 0) || decide (t.ins + t.ops.length ≤ k)
theorem f83 (t : Tp) (k : Int) (ht : 0 ≤ t.ins ∧ t.ins ≤ 8 ∧ t.ops.length ≤ 200) : Fn 43 (Ht t) [.int .i64 k, .ptr 1000003 0] (.bool (badK t k)) (Ht t) := by
  refine fnT hT2 hmx Tryz.func43 rfl rfl (ex := []) ?_
  conv => whnf
  refine brI (fun h => ?_) (fun h => ?_)
  · conv => whnf
    refine ⟨leA_bool ?_, leHt t⟩
    simp only [decide_eq_true_eq] at h
    simp [badK, h]
  · conv => whnf
    refine ⟨leA_bool ?_, leHt t⟩
    simp only [decide_eq_false_iff_not] at h
    rw [wI (by omega)]
    simp [badK, h]
theorem f130t (t : Tp) (ht : 0 ≤ t.ins ∧ t.ins ≤ 8 ∧ t.ops.length ≤ 200) (l : List Int) (hlen : l.length < 9223372036854775808) : Fn 66 (Ht t) [.sl .int l, .fn 43 [.ptr 1000003 0]] (.int .i64 (ixP (badK t) l 0)) (Ht t) := by
  refine fnT hT2 hmx Tryz.func66 rfl rfl (ex := []) ?_
  conv => whnf
  refine ⟨Nat, fun i => i ≤ l.length ∧ ixP (badK t) (l.drop i) i = ixP (badK t) l 0, fun i => [(8, .int .i64 i)], fun _ => [], fun i => l.length - i, 0, ⟨by simp, rfl⟩, ?_, fun i hi => ?_⟩
  · ((conv => whnf); refine And.intro ?_ ?_; repeat' first | refine leL_cons ?_ ?_ | exact leA_any | exact leA_refl rfl | exact leL_nil | refine leH_cons ?_ ?_ | exact leH_nil | exact leB_free | exact leB_dead | refine leB_cells ?_ | exact leB_map rfl | exact leB_gst rfl | exact leA_nil rfl | refine leA_agg ?_ | refine leA_tup ?_ | fail)
  (refine ⟨by kernel_rfl, ?_⟩; (conv => whnf))
  obtain ⟨hi1, hi2⟩ := hi
  refine brI (fun h1 => ?_) (fun h1 => ?_)
  · conv => whnf
    have hi : i < l.length := by simp only [decide_eq_true_eq] at h1; omega
    refine ⟨⟨by omega, by omega⟩, fun x hx => ?_⟩
    have hx : l[i]? = some x := by simpa using hx
    have hm := List.mem_of_getElem? hx
    rw [drop_get hx] at hi2
    simp only [ixP] at hi2
    conv => whnf
    refine cbI [.cells (tpC t)] ((badK t) x) (f83 t x ht) (fun h2 => ?_) (fun h2 => ?_)
    · conv => whnf
      rw [if_pos h2] at hi2
      exact ⟨leA_int hi2, leHt t⟩
    · conv => whnf
      rw [if_neg (by rw [h2]; simp)] at hi2
      refine ⟨i + 1, ⟨by omega, hi2⟩, by show l.length - (i + 1) < l.length - i; omega, ?_⟩
      ((conv => whnf); refine And.intro ?_ ?_; repeat' first | refine leL_cons ?_ ?_ | exact leA_any | exact leA_refl rfl | exact leL_nil | refine leH_cons ?_ ?_ | exact leH_nil | exact leB_free | exact leB_dead | refine leB_cells ?_ | exact leB_map rfl | exact leB_gst rfl | exact leA_nil rfl | refine leA_agg ?_ | refine leA_tup ?_ | fail)
      exact leA_int (by rw [wI (by omega)]; omega)
  · conv => whnf
    have hi : ¬ i < l.length := by simp only [decide_eq_false_iff_not] at h1; omega
    rw [List.drop_of_length_le (by omega)] at hi2
    exact ⟨leA_int hi2, leHt t⟩
theorem f82t (t : Tp) (ht : 0 ≤ t.ins ∧ t.ins ≤ 8 ∧ t.ops.length ≤ 200) (l : List Int) (hlen : l.length < 9223372036854775808) : Fn 42 (Ht t) [.sl .int l, .fn 43 [.ptr 1000003 0]] (.bool (l.any (badK t))) (Ht t) := by
  refine fnT hT2 hmx Tryz.func42 rfl rfl (ex := []) ?_
  conv => whnf
  refine ⟨[.cells (tpC t)], _, f130t t ht l hlen, ?_⟩
  conv => whnf
  exact ⟨leA_bool (by rw [Bool.eq_iff_iff, decide_eq_true_eq]; exact ixP_iff (badK t) l 0), leHt t⟩
/-- A function. -/
def funK (o : TOp) : Bool := decide (o.k > 8)
theorem f86 (o : TOp) : Fn 45 [] [.agg (Elt.op.cells o)] (.bool (funK o)) [] := by
  refine fnT hT2 hmx Tryz.func45 rfl rfl (ex := []) ?_
  conv => whnf
  exact ⟨leA_bool rfl, leH_nil⟩
theorem f133t (l : List TOp) (hlen : l.length < 9223372036854775808) : Fn 67 [] [.sl .op l, .fn 45 []] (.int .i64 (ixP funK l 0)) [] := by
  refine fnT hT2 hmx Tryz.func67 rfl rfl (ex := []) ?_
  conv => whnf
  refine ⟨Nat, fun i => i ≤ l.length ∧ ixP funK (l.drop i) i = ixP funK l 0, fun i => [(8, .int .i64 i)], fun _ => [], fun i => l.length - i, 0, ⟨by simp, rfl⟩, ?_, fun i hi => ?_⟩
  · ((conv => whnf); refine And.intro ?_ ?_; repeat' first | refine leL_cons ?_ ?_ | exact leA_any | exact leA_refl rfl | exact leL_nil | refine leH_cons ?_ ?_ | exact leH_nil | exact leB_free | exact leB_dead | refine leB_cells ?_ | exact leB_map rfl | exact leB_gst rfl | exact leA_nil rfl | refine leA_agg ?_ | refine leA_tup ?_ | fail)
  (refine ⟨by kernel_rfl, ?_⟩; (conv => whnf))
  obtain ⟨hi1, hi2⟩ := hi
  refine brI (fun h1 => ?_) (fun h1 => ?_)
  · conv => whnf
    have hi : i < l.length := by simp only [decide_eq_true_eq] at h1; omega
    refine ⟨⟨by omega, by omega⟩, fun x hx => ?_⟩
    have hx : l[i]? = some x := by simpa using hx
    have hm := List.mem_of_getElem? hx
    rw [drop_get hx] at hi2
    simp only [ixP] at hi2
    conv => whnf
    refine cbI [] (funK x) (f86 x) (fun h2 => ?_) (fun h2 => ?_)
    · conv => whnf
      rw [if_pos h2] at hi2
      exact ⟨leA_int hi2, leH_nil⟩
    · conv => whnf
      rw [if_neg (by rw [h2]; simp)] at hi2
      refine ⟨i + 1, ⟨by omega, hi2⟩, by show l.length - (i + 1) < l.length - i; omega, ?_⟩
      ((conv => whnf); refine And.intro ?_ ?_; repeat' first | refine leL_cons ?_ ?_ | exact leA_any | exact leA_refl rfl | exact leL_nil | refine leH_cons ?_ ?_ | exact leH_nil | exact leB_free | exact leB_dead | refine leB_cells ?_ | exact leB_map rfl | exact leB_gst rfl | exact leA_nil rfl | refine leA_agg ?_ | refine leA_tup ?_ | fail)
      exact leA_int (by rw [wI (by omega)]; omega)
  · conv => whnf
    have hi : ¬ i < l.length := by simp only [decide_eq_false_iff_not] at h1; omega
    rw [List.drop_of_length_le (by omega)] at hi2
    exact ⟨leA_int hi2, leH_nil⟩
theorem f85t (l : List TOp) (hlen : l.length < 9223372036854775808) : Fn 44 [] [.sl .op l, .fn 45 []] (.bool (l.any funK)) [] := by
  refine fnT hT2 hmx Tryz.func44 rfl rfl (ex := []) ?_
  conv => whnf
  refine ⟨[], _, f133t l hlen, ?_⟩
  conv => whnf
  exact ⟨leA_bool (by rw [Bool.eq_iff_iff, decide_eq_true_eq]; exact ixP_iff funK l 0), leH_nil⟩
def opsB : List TOp → Int → Bool
  | [], _ => true
  | o :: l, n => tB o n && opsB l (n + 1)
/-- A tape is valid. -/
def tvB (t : Tp) : Bool := decide (0 ≤ t.ins ∧ t.ins ≤ 8 ∧ t.ops.length ≤ 200 ∧ t.outs.length ≤ 200) && (opsB t.ops t.ins && !t.outs.any (badK t))
theorem f41 (t : Tp) (h1 : t.ops.length < 9223372036854775808) (h2 : t.outs.length < 9223372036854775808) : Fn 17 [] [.agg (tpC t)] (.bool (tvB t)) [] := by
  obtain ⟨V, hV⟩ : ∃ V, tvB t = V := ⟨_, rfl⟩
  rw [hV]
  unfold tvB at hV
  refine fnT hT2 hmx Tryz.func17 rfl rfl (ex := []) ?_
  conv => whnf
  refine brI (fun h => ?_) (fun h => ?_)
  · conv => whnf
    exact ⟨leA_bool (by rw [← hV]; simp only [decide_eq_true_eq] at h; simp; omega), leH_nil⟩
  have c1 : ¬ t.ins < 0 := by simpa using h
  conv => whnf
  refine brI (fun h => ?_) (fun h => ?_)
  · conv => whnf
    exact ⟨leA_bool (by rw [← hV]; simp only [decide_eq_true_eq] at h; simp; omega), leH_nil⟩
  have c2 : ¬ t.ins > 8 := by simpa using h
  conv => whnf
  refine brI (fun h => ?_) (fun h => ?_)
  · conv => whnf
    exact ⟨leA_bool (by rw [← hV]; simp only [decide_eq_true_eq] at h; simp; omega), leH_nil⟩
  have c3 : ¬ (t.ops.length : Int) > 200 := by simpa using h
  conv => whnf
  refine brI (fun h => ?_) (fun h => ?_)
  · conv => whnf
    exact ⟨leA_bool (by rw [← hV]; simp only [decide_eq_true_eq] at h; simp; omega), leH_nil⟩
  have c4 : ¬ (t.outs.length : Int) > 200 := by simpa using h
  have ht : 0 ≤ t.ins ∧ t.ins ≤ 8 ∧ t.ops.length ≤ 200 := by omega
  rw [decide_eq_true (by omega), Bool.true_and] at hV
  conv => whnf
  refine ⟨Nat, fun i => i ≤ t.ops.length ∧ opsB (t.ops.drop i) (t.ins + i) = opsB t.ops t.ins, fun i => [(28, .int .i64 i)], fun _ => [], fun i => t.ops.length - i, 0, ⟨by simp, by simp⟩, ?_, fun i hi => ?_⟩
  · ((conv => whnf); refine And.intro ?_ ?_; repeat' first | refine leL_cons ?_ ?_ | exact leA_any | exact leA_refl rfl | exact leL_nil | refine leH_cons ?_ ?_ | exact leH_nil | exact leB_free | exact leB_dead | refine leB_cells ?_ | exact leB_map rfl | exact leB_gst rfl | exact leA_nil rfl | refine leA_agg ?_ | refine leA_tup ?_ | fail)
  (refine ⟨by kernel_rfl, ?_⟩; (conv => whnf))
  obtain ⟨hi1, hi2⟩ := hi
  refine brI (fun h => ?_) (fun h => ?_)
  · conv => whnf
    have hi : i < t.ops.length := by simp only [decide_eq_true_eq] at h; omega
    refine ⟨⟨by omega, by omega⟩, fun x hx => ?_⟩
    have hx : t.ops[i]? = some x := by simpa using hx
    rw [drop_get hx] at hi2
    simp only [opsB] at hi2
    conv => whnf
    have h81 : Fn 41 [] [.agg (Elt.op.cells x), .int .i64 (IntKind.i64.wrap (t.ins + (i : Int)))] (.bool (tB x (t.ins + i))) [] := by
      rw [wI (by omega)]; exact f81 x (t.ins + i)
    refine cbI [] (tB x (t.ins + i)) h81 (fun h5 => ?_) (fun h5 => ?_)
    · conv => whnf
      rw [h5] at hi2
      refine ⟨i + 1, ⟨by omega, by rw [← hi2, Bool.true_and]; congr 1; omega⟩, by show t.ops.length - (i + 1) < t.ops.length - i; omega, ?_⟩
      ((conv => whnf); refine And.intro ?_ ?_; repeat' first | refine leL_cons ?_ ?_ | exact leA_any | exact leA_refl rfl | exact leL_nil | refine leH_cons ?_ ?_ | exact leH_nil | exact leB_free | exact leB_dead | refine leB_cells ?_ | exact leB_map rfl | exact leB_gst rfl | exact leA_nil rfl | refine leA_agg ?_ | refine leA_tup ?_ | fail)
      exact leA_int (by rw [wI (by omega)]; omega)
    · conv => whnf
      rw [h5, Bool.false_and] at hi2
      exact ⟨leA_bool (by rw [← hV, ← hi2]; rfl), leH_nil⟩
  have hi : ¬ i < t.ops.length := by simp only [decide_eq_false_iff_not] at h; omega
  have hb : opsB t.ops t.ins = true := by rw [← hi2, List.drop_of_length_le (by omega)]; rfl
  rw [hb, Bool.true_and] at hV
  conv => whnf
  refine cbI [.cells (tpC t)] (t.outs.any (badK t)) ((f82t t ht t.outs h2).sw [(1, 1000003)] rfl) (fun h5 => ?_) (fun h5 => ?_)
  · conv => whnf
    exact ⟨leA_bool (by rw [← hV, h5]), leH_nil⟩
  · conv => whnf
    exact ⟨leA_bool (by rw [← hV, h5]), leH_nil⟩
theorem f42 (t : Tp) (h1 : t.ops.length < 9223372036854775808) (h2 : t.outs.length < 9223372036854775808) : Fn 38 [] [.agg (tpC t)] (.bool (tvB t)) [] := by
  obtain ⟨V, hV⟩ : ∃ V, tvB t = V := ⟨_, rfl⟩
  rw [hV]
  unfold tvB at hV
  refine fnT hT2 hmx Tryz.func38 rfl rfl (ex := []) ?_
  conv => whnf
  refine brI (fun h => ?_) (fun h => ?_)
  · conv => whnf
    exact ⟨leA_bool (by rw [← hV]; simp only [decide_eq_true_eq] at h; simp; omega), leH_nil⟩
  have c1 : ¬ t.ins < 0 := by simpa using h
  conv => whnf
  refine brI (fun h => ?_) (fun h => ?_)
  · conv => whnf
    exact ⟨leA_bool (by rw [← hV]; simp only [decide_eq_true_eq] at h; simp; omega), leH_nil⟩
  have c2 : ¬ t.ins > 8 := by simpa using h
  conv => whnf
  refine brI (fun h => ?_) (fun h => ?_)
  · conv => whnf
    exact ⟨leA_bool (by rw [← hV]; simp only [decide_eq_true_eq] at h; simp; omega), leH_nil⟩
  have c3 : ¬ (t.ops.length : Int) > 200 := by simpa using h
  conv => whnf
  refine brI (fun h => ?_) (fun h => ?_)
  · conv => whnf
    exact ⟨leA_bool (by rw [← hV]; simp only [decide_eq_true_eq] at h; simp; omega), leH_nil⟩
  have c4 : ¬ (t.outs.length : Int) > 200 := by simpa using h
  rw [decide_eq_true (by omega), Bool.true_and] at hV
  conv => whnf
  refine ⟨Nat, fun i => i ≤ t.ops.length ∧ opsB (t.ops.drop i) (t.ins + i) = opsB t.ops t.ins, fun i => [(3, .int .i64 i)], fun _ => [], fun i => t.ops.length - i, 0, ⟨by simp, by simp⟩, ?_, fun i hi => ?_⟩
  · ((conv => whnf); refine And.intro ?_ ?_; repeat' first | refine leL_cons ?_ ?_ | exact leA_any | exact leA_refl rfl | exact leL_nil | refine leH_cons ?_ ?_ | exact leH_nil | exact leB_free | exact leB_dead | refine leB_cells ?_ | exact leB_map rfl | exact leB_gst rfl | exact leA_nil rfl | refine leA_agg ?_ | refine leA_tup ?_ | fail)
  (refine ⟨by kernel_rfl, ?_⟩; (conv => whnf))
  obtain ⟨hi1, hi2⟩ := hi
  refine brI (fun h => ?_) (fun h => ?_)
  · conv => whnf
    have hi : i < t.ops.length := by simp only [decide_eq_true_eq] at h; omega
    refine ⟨⟨by omega, by omega⟩, fun x hx => ?_⟩
    have hx : t.ops[i]? = some x := by simpa using hx
    rw [drop_get hx] at hi2
    simp only [opsB] at hi2
    conv => whnf
    have h84 : Fn 64 [] [.agg (Elt.op.cells x), .int .i64 (IntKind.i64.wrap (t.ins + (i : Int)))] (.bool (tB x (t.ins + i))) [] := by
      rw [wI (by omega)]; exact f84 x (t.ins + i)
    refine cbI [] (tB x (t.ins + i)) h84 (fun h5 => ?_) (fun h5 => ?_)
    · conv => whnf
      (refine ⟨by kernel_rfl, by kernel_rfl, ?_⟩; (conv => whnf))
      rw [h5] at hi2
      refine ⟨i + 1, ⟨by omega, by rw [← hi2, Bool.true_and]; congr 1; omega⟩, by show t.ops.length - (i + 1) < t.ops.length - i; omega, ?_⟩
      ((conv => whnf); refine And.intro ?_ ?_; repeat' first | refine leL_cons ?_ ?_ | exact leA_any | exact leA_refl rfl | exact leL_nil | refine leH_cons ?_ ?_ | exact leH_nil | exact leB_free | exact leB_dead | refine leB_cells ?_ | exact leB_map rfl | exact leB_gst rfl | exact leA_nil rfl | refine leA_agg ?_ | refine leA_tup ?_ | fail)
      exact leA_int (by rw [wI (by omega)]; omega)
    · conv => whnf
      (refine ⟨by kernel_rfl, by kernel_rfl, ?_⟩; (conv => whnf))
      rw [h5, Bool.false_and] at hi2
      exact ⟨leA_bool (by rw [← hV, ← hi2]; rfl), leH_nil⟩
  have hi : ¬ i < t.ops.length := by simp only [decide_eq_false_iff_not] at h; omega
  have hb : opsB t.ops t.ins = true := by rw [← hi2, List.drop_of_length_le (by omega)]; rfl
  rw [hb, Bool.true_and] at hV
  clear hi1 hi2 h hi
  conv => whnf
  refine ⟨Nat, fun i => i ≤ t.outs.length ∧ (t.outs.drop i).any (badK t) = t.outs.any (badK t), fun i => [(4, .int .i64 i)], fun _ => [], fun i => t.outs.length - i, 0, ⟨by simp, by simp⟩, ?_, fun i hi => ?_⟩
  · ((conv => whnf); refine And.intro ?_ ?_; repeat' first | refine leL_cons ?_ ?_ | exact leA_any | exact leA_refl rfl | exact leL_nil | refine leH_cons ?_ ?_ | exact leH_nil | exact leB_free | exact leB_dead | refine leB_cells ?_ | exact leB_map rfl | exact leB_gst rfl | exact leA_nil rfl | refine leA_agg ?_ | refine leA_tup ?_ | fail)
  (refine ⟨by kernel_rfl, ?_⟩; (conv => whnf))
  obtain ⟨hi1, hi2⟩ := hi
  refine brI (fun h => ?_) (fun h => ?_)
  · conv => whnf
    have hi : i < t.outs.length := by simp only [decide_eq_true_eq] at h; omega
    refine ⟨⟨by omega, by omega⟩, fun (x : Int) hx => ?_⟩
    have hx : t.outs[i]? = some x := by simpa using hx
    rw [drop_get hx] at hi2
    simp only [List.any_cons] at hi2
    conv => whnf
    refine brI (fun h5 => ?_) (fun h5 => ?_)
    · conv => whnf
      (refine ⟨by kernel_rfl, by kernel_rfl, ?_⟩; (conv => whnf))
      have h6 : badK t x = true := by
        have h5 : decide (x < 0) = true := h5
        simp only [decide_eq_true_eq] at h5; simp [badK, h5]
      rw [h6, Bool.true_or] at hi2
      exact ⟨leA_bool (by rw [← hV, ← hi2]; rfl), leH_nil⟩
    · conv => whnf
      refine ⟨⟨by omega, by omega⟩, fun y hy => ?_⟩
      have hy : t.outs[i]? = some y := by simpa using hy
      rw [hx] at hy
      cases hy
      have h5 : ¬ x < 0 := by
        have h5 : decide (x < 0) = false := h5
        simpa using h5
      conv => whnf
      (refine ⟨by kernel_rfl, by kernel_rfl, ?_⟩; (conv => whnf))
      refine brI (fun h7 => ?_) (fun h7 => ?_)
      · conv => whnf
        have h7 : decide (x ≥ IntKind.i64.wrap (t.ins + (t.ops.length : Int))) = true := h7
        rw [wI (by omega)] at h7
        simp only [decide_eq_true_eq] at h7
        have h6 : badK t x = true := by
          rw [badK, decide_eq_true (p := t.ins + (t.ops.length : Int) ≤ x) (by omega), Bool.or_true]
        rw [h6, Bool.true_or] at hi2
        exact ⟨leA_bool (by rw [← hV, ← hi2]; rfl), leH_nil⟩
      · conv => whnf
        have h7 : decide (x ≥ IntKind.i64.wrap (t.ins + (t.ops.length : Int))) = false := h7
        rw [wI (by omega)] at h7
        simp only [decide_eq_false_iff_not] at h7
        have h6 : badK t x = false := by
          rw [badK, decide_eq_false (p := t.ins + (t.ops.length : Int) ≤ x) (by omega), decide_eq_false (p := x < 0) h5]; rfl
        rw [h6, Bool.false_or] at hi2
        refine ⟨i + 1, ⟨by omega, hi2⟩, by show t.outs.length - (i + 1) < t.outs.length - i; omega, ?_⟩
        ((conv => whnf); refine And.intro ?_ ?_; repeat' first | refine leL_cons ?_ ?_ | exact leA_any | exact leA_refl rfl | exact leL_nil | refine leH_cons ?_ ?_ | exact leH_nil | exact leB_free | exact leB_dead | refine leB_cells ?_ | exact leB_map rfl | exact leB_gst rfl | exact leA_nil rfl | refine leA_agg ?_ | refine leA_tup ?_ | fail)
        exact leA_int (by rw [wI (by omega)]; omega)
  · have hi : ¬ i < t.outs.length := by simp only [decide_eq_false_iff_not] at h; omega
    have hb : t.outs.any (badK t) = false := by rw [← hi2, List.drop_of_length_le (by omega)]; rfl
    conv => whnf
    exact ⟨leA_bool (by rw [← hV, hb]; rfl), leH_nil⟩
/-- A tape is valid and rational. -/
def trB (t : Tp) : Bool := tvB t && !t.ops.any funK
theorem f43 (t : Tp) (h1 : t.ops.length < 9223372036854775808) (h2 : t.outs.length < 9223372036854775808) : Fn 18 [] [.agg (tpC t)] (.bool (trB t)) [] := by
  refine fnT hT2 hmx Tryz.func18 rfl rfl (ex := []) ?_
  conv => whnf
  refine cbI [] (tvB t) (f41 t h1 h2) (fun h => ?_) (fun h => ?_)
  · conv => whnf
    refine cbI [] (t.ops.any funK) (f85t t.ops h1) (fun h5 => ?_) (fun h5 => ?_)
    · conv => whnf
      exact ⟨leA_bool (by simp [trB, h, h5]), leH_nil⟩
    · conv => whnf
      exact ⟨leA_bool (by simp [trB, h, h5]), leH_nil⟩
  · conv => whnf
    exact ⟨leA_bool (by simp [trB, h]), leH_nil⟩
def funR (o : TOp) : Bool := o.k == 9 || (o.k == 10 || (o.k == 11 || (o.k == 12 || o.k == 13)))
theorem tB_kind {o : TOp} {n : Int} (h : tB o n = true) : funK o = funR o := by
  have hk : o.k = 1 ∨ (o.k = 3 ∨ o.k = 4 ∨ o.k = 5 ∨ o.k = 6) ∨ o.k = 8 ∨ (o.k = 7 ∨ o.k = 9 ∨ o.k = 10 ∨ o.k = 11 ∨ o.k = 12 ∨ o.k = 13) := by
    unfold tB at h
    by_cases h1 : o.k = 1
    · exact .inl h1
    · by_cases h2 : o.k = 3 ∨ o.k = 4 ∨ o.k = 5 ∨ o.k = 6
      · exact .inr (.inl h2)
      · by_cases h3 : o.k = 8
        · exact .inr (.inr (.inl h3))
        · by_cases h4 : o.k = 7 ∨ o.k = 9 ∨ o.k = 10 ∨ o.k = 11 ∨ o.k = 12 ∨ o.k = 13
          · exact .inr (.inr (.inr h4))
          · rw [if_neg h1, if_neg h2, if_neg h3, if_neg h4] at h; cases h
  rw [Bool.eq_iff_iff]
  simp [funK, funR]
  omega
theorem ops_kind : ∀ {l : List TOp} {n : Int}, opsB l n = true → l.any funK = l.any funR
  | [], _, _ => rfl
  | o :: l, n, h => by
    simp only [opsB, Bool.and_eq_true] at h
    simp only [List.any_cons, tB_kind h.1, ops_kind h.2]
theorem trB_eq (t : Tp) : (if t.ops.any funR = true then false else tvB t) = trB t := by
  unfold trB
  cases h : tvB t with
  | false => simp
  | true =>
    have h2 := h
    unfold tvB at h2
    simp only [Bool.and_eq_true] at h2
    rw [ops_kind h2.2.1]
    cases t.ops.any funR <;> rfl
end Go.Proofs.YtmcdnbmamoggoaaGreat
