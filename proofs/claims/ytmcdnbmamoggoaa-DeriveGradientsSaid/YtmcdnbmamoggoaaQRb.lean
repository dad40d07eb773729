/-
  The reference: sums and differences of numbers.
-/
import Derived.Test.YtmcdnbmamoggoaaQCk
set_option linter.unusedVariables false
set_option linter.unusedSimpArgs false
namespace Go.Proofs.Ytmcdnbmamoggoaa
open Go Go.Sx
set_option maxRecDepth 100000
set_option maxHeartbeats 8000000
theorem f124_3 (n : Int) (l : List Ex) (hl : l.length < 9223372036854775808) (hlen : 2 ≤ l.length) : Fn 124 [] [.int .i64 3, .int .i64 n, .sl .ex l] (foldR 3 n l) [] := by
  refine fnK_sound hT hmx Try.func124 rfl rfl (ex := []) ?_
  conv => whnf
  refine ⟨Nat, fun i => i ≤ l.length ∧ (l.take i).all (fun x => x.k == 1) = true, fun i => [(8, .int .i64 i)], fun _ => [], fun i => l.length - i, 0, ⟨by simp, by simp⟩, ?_, fun i hi => ?_⟩
  · ((conv => whnf); refine And.intro ?_ ?_; repeat' first | exact leL_nil | exact leH_nil | exact leA_any | exact leA_refl rfl | exact leA_nil rfl | refine leA_agg ?_ | refine leA_tup ?_ | exact leB_free | exact leB_dead | refine leL_cons ?_ ?_ | refine leH_cons ?_ ?_ | refine leB_cells ?_ | fail)
  · (refine ⟨by kernel_rfl, ?_⟩; (conv => whnf))
    obtain ⟨hi1, hi2⟩ := hi
    refine brI (fun h3 => ?_) (fun h3 => ?_)
    · conv => whnf
      have h3 : i < l.length := by simp only [decide_eq_true_eq] at h3; omega
      refine ⟨⟨by omega, by omega⟩, fun x hx => ?_⟩
      have hx : l[i]? = some x := by simpa using hx
      conv => whnf
      refine brI (fun h4 => ?_) (fun h4 => ?_)
      · conv => whnf
        have hno : l.all (fun x => x.k == 1) = false := by
          rw [List.all_eq_false]; exact ⟨x, List.mem_of_getElem? hx, by simpa using h4⟩
        have hno2 : foldN 3 n l = none := by unfold foldN; rw [hno]; rfl
        simp only [foldR, hno2, zk, hno]
        (refine And.intro ?_ ?_; repeat' first | exact leL_nil | exact leH_nil | exact leA_any | exact leA_refl rfl | exact leA_nil rfl | refine leA_agg ?_ | refine leA_tup ?_ | exact leB_free | exact leB_dead | refine leL_cons ?_ ?_ | refine leH_cons ?_ ?_ | refine leB_cells ?_ | fail)
      · conv => whnf
        refine ⟨i + 1, ⟨by omega, by rw [List.take_add_one, hx]; simp only [Option.toList_some, List.all_append, hi2, List.all_cons, List.all_nil]; simpa using h4⟩, by show l.length - (i + 1) < l.length - i; omega, ?_⟩
        ((conv => whnf); refine And.intro ?_ ?_; repeat' first | exact leL_nil | exact leH_nil | exact leA_any | exact leA_refl rfl | exact leA_nil rfl | refine leA_agg ?_ | refine leA_tup ?_ | exact leB_free | exact leB_dead | refine leL_cons ?_ ?_ | refine leH_cons ?_ ?_ | refine leB_cells ?_ | fail)
        exact leA_int (by rw [wI (by omega)]; omega)
    · conv => whnf
      have h3 : ¬ i < l.length := by simp only [decide_eq_false_iff_not] at h3; omega
      rw [List.take_of_length_le (by omega)] at hi2
      refine ⟨⟨by omega, by omega⟩, fun a ha => ?_⟩
      have hq0 : q0 l = a.q := q0_get (by simpa using ha)
      conv => whnf
      refine ⟨⟨by omega, by omega⟩, fun b hb => ?_⟩
      have hq1 : q1 l = b.q := q1_get (by simpa using hb)
      conv => whnf
      refine ⟨[], _, f148 a.q b.q, ?_⟩
      conv => whnf
      (refine ⟨by kernel_rfl, by kernel_rfl, ?_⟩; (conv => whnf))
      conv => whnf
      have e : foldN 3 n l = okN (rAdd a.q b.q) := by unfold foldN; rw [hi2, hq0, hq1]; simp
      rw [foldR_eq (by omega) hi2 e, foldP_map]
      exact ⟨leA_foldR _ (rOp_err _ _ _ _), leH_nil⟩
theorem f124_4 (n : Int) (l : List Ex) (hl : l.length < 9223372036854775808) (hlen : 2 ≤ l.length) : Fn 124 [] [.int .i64 4, .int .i64 n, .sl .ex l] (foldR 4 n l) [] := by
  refine fnK_sound hT hmx Try.func124 rfl rfl (ex := []) ?_
  conv => whnf
  refine ⟨Nat, fun i => i ≤ l.length ∧ (l.take i).all (fun x => x.k == 1) = true, fun i => [(8, .int .i64 i)], fun _ => [], fun i => l.length - i, 0, ⟨by simp, by simp⟩, ?_, fun i hi => ?_⟩
  · ((conv => whnf); refine And.intro ?_ ?_; repeat' first | exact leL_nil | exact leH_nil | exact leA_any | exact leA_refl rfl | exact leA_nil rfl | refine leA_agg ?_ | refine leA_tup ?_ | exact leB_free | exact leB_dead | refine leL_cons ?_ ?_ | refine leH_cons ?_ ?_ | refine leB_cells ?_ | fail)
  · (refine ⟨by kernel_rfl, ?_⟩; (conv => whnf))
    obtain ⟨hi1, hi2⟩ := hi
    refine brI (fun h3 => ?_) (fun h3 => ?_)
    · conv => whnf
      have h3 : i < l.length := by simp only [decide_eq_true_eq] at h3; omega
      refine ⟨⟨by omega, by omega⟩, fun x hx => ?_⟩
      have hx : l[i]? = some x := by simpa using hx
      conv => whnf
      refine brI (fun h4 => ?_) (fun h4 => ?_)
      · conv => whnf
        have hno : l.all (fun x => x.k == 1) = false := by
          rw [List.all_eq_false]; exact ⟨x, List.mem_of_getElem? hx, by simpa using h4⟩
        have hno2 : foldN 4 n l = none := by unfold foldN; rw [hno]; rfl
        simp only [foldR, hno2, zk, hno]
        (refine And.intro ?_ ?_; repeat' first | exact leL_nil | exact leH_nil | exact leA_any | exact leA_refl rfl | exact leA_nil rfl | refine leA_agg ?_ | refine leA_tup ?_ | exact leB_free | exact leB_dead | refine leL_cons ?_ ?_ | refine leH_cons ?_ ?_ | refine leB_cells ?_ | fail)
      · conv => whnf
        refine ⟨i + 1, ⟨by omega, by rw [List.take_add_one, hx]; simp only [Option.toList_some, List.all_append, hi2, List.all_cons, List.all_nil]; simpa using h4⟩, by show l.length - (i + 1) < l.length - i; omega, ?_⟩
        ((conv => whnf); refine And.intro ?_ ?_; repeat' first | exact leL_nil | exact leH_nil | exact leA_any | exact leA_refl rfl | exact leA_nil rfl | refine leA_agg ?_ | refine leA_tup ?_ | exact leB_free | exact leB_dead | refine leL_cons ?_ ?_ | refine leH_cons ?_ ?_ | refine leB_cells ?_ | fail)
        exact leA_int (by rw [wI (by omega)]; omega)
    · conv => whnf
      have h3 : ¬ i < l.length := by simp only [decide_eq_false_iff_not] at h3; omega
      rw [List.take_of_length_le (by omega)] at hi2
      refine ⟨⟨by omega, by omega⟩, fun a ha => ?_⟩
      have hq0 : q0 l = a.q := q0_get (by simpa using ha)
      conv => whnf
      refine ⟨⟨by omega, by omega⟩, fun b hb => ?_⟩
      have hq1 : q1 l = b.q := q1_get (by simpa using hb)
      conv => whnf
      refine ⟨[], _, f149 a.q b.q, ?_⟩
      conv => whnf
      (refine ⟨by kernel_rfl, by kernel_rfl, ?_⟩; (conv => whnf))
      conv => whnf
      have e : foldN 4 n l = okN (rSub a.q b.q) := by unfold foldN; rw [hi2, hq0, hq1]; simp
      rw [foldR_eq (by omega) hi2 e, foldP_map]
      exact ⟨leA_foldR _ (rOp_err _ _ _ _), leH_nil⟩
theorem f124_7 (n : Int) (l : List Ex) (hl : l.length < 9223372036854775808) (hlen : 1 ≤ l.length) : Fn 124 [] [.int .i64 7, .int .i64 n, .sl .ex l] (foldR 7 n l) [] := by
  refine fnK_sound hT hmx Try.func124 rfl rfl (ex := []) ?_
  conv => whnf
  refine ⟨Nat, fun i => i ≤ l.length ∧ (l.take i).all (fun x => x.k == 1) = true, fun i => [(8, .int .i64 i)], fun _ => [], fun i => l.length - i, 0, ⟨by simp, by simp⟩, ?_, fun i hi => ?_⟩
  · ((conv => whnf); refine And.intro ?_ ?_; repeat' first | exact leL_nil | exact leH_nil | exact leA_any | exact leA_refl rfl | exact leA_nil rfl | refine leA_agg ?_ | refine leA_tup ?_ | exact leB_free | exact leB_dead | refine leL_cons ?_ ?_ | refine leH_cons ?_ ?_ | refine leB_cells ?_ | fail)
  · (refine ⟨by kernel_rfl, ?_⟩; (conv => whnf))
    obtain ⟨hi1, hi2⟩ := hi
    refine brI (fun h3 => ?_) (fun h3 => ?_)
    · conv => whnf
      have h3 : i < l.length := by simp only [decide_eq_true_eq] at h3; omega
      refine ⟨⟨by omega, by omega⟩, fun x hx => ?_⟩
      have hx : l[i]? = some x := by simpa using hx
      conv => whnf
      refine brI (fun h4 => ?_) (fun h4 => ?_)
      · conv => whnf
        have hno : l.all (fun x => x.k == 1) = false := by
          rw [List.all_eq_false]; exact ⟨x, List.mem_of_getElem? hx, by simpa using h4⟩
        have hno2 : foldN 7 n l = none := by unfold foldN; rw [hno]; rfl
        simp only [foldR, hno2, zk, hno]
        (refine And.intro ?_ ?_; repeat' first | exact leL_nil | exact leH_nil | exact leA_any | exact leA_refl rfl | exact leA_nil rfl | refine leA_agg ?_ | refine leA_tup ?_ | exact leB_free | exact leB_dead | refine leL_cons ?_ ?_ | refine leH_cons ?_ ?_ | refine leB_cells ?_ | fail)
      · conv => whnf
        refine ⟨i + 1, ⟨by omega, by rw [List.take_add_one, hx]; simp only [Option.toList_some, List.all_append, hi2, List.all_cons, List.all_nil]; simpa using h4⟩, by show l.length - (i + 1) < l.length - i; omega, ?_⟩
        ((conv => whnf); refine And.intro ?_ ?_; repeat' first | exact leL_nil | exact leH_nil | exact leA_any | exact leA_refl rfl | exact leA_nil rfl | refine leA_agg ?_ | refine leA_tup ?_ | exact leB_free | exact leB_dead | refine leL_cons ?_ ?_ | refine leH_cons ?_ ?_ | refine leB_cells ?_ | fail)
        exact leA_int (by rw [wI (by omega)]; omega)
    · conv => whnf
      have h3 : ¬ i < l.length := by simp only [decide_eq_false_iff_not] at h3; omega
      rw [List.take_of_length_le (by omega)] at hi2
      refine ⟨⟨by omega, by omega⟩, fun a ha => ?_⟩
      have hq0 : q0 l = a.q := q0_get (by simpa using ha)
      conv => whnf
      refine ⟨[], _, f149 ⟨0, 1⟩ a.q, ?_⟩
      conv => whnf
      have e : foldN 7 n l = okN (rSub ⟨0, 1⟩ a.q) := by unfold foldN; rw [hi2, hq0]; simp
      rw [foldR_eq (by omega) hi2 e, foldP_map]
      exact ⟨leA_foldR _ (rOp_err _ _ _ _), leH_nil⟩
end Go.Proofs.Ytmcdnbmamoggoaa

/-
  The reference: products and quotients of numbers.
-/
namespace Go.Proofs.Ytmcdnbmamoggoaa
open Go Go.Sx
set_option maxRecDepth 100000
set_option maxHeartbeats 8000000
theorem f124_5 (n : Int) (l : List Ex) (hl : l.length < 9223372036854775808) (hlen : 2 ≤ l.length) : Fn 124 [] [.int .i64 5, .int .i64 n, .sl .ex l] (foldR 5 n l) [] := by
  refine fnK_sound hT hmx Try.func124 rfl rfl (ex := []) ?_
  conv => whnf
  refine ⟨Nat, fun i => i ≤ l.length ∧ (l.take i).all (fun x => x.k == 1) = true, fun i => [(8, .int .i64 i)], fun _ => [], fun i => l.length - i, 0, ⟨by simp, by simp⟩, ?_, fun i hi => ?_⟩
  · ((conv => whnf); refine And.intro ?_ ?_; repeat' first | exact leL_nil | exact leH_nil | exact leA_any | exact leA_refl rfl | exact leA_nil rfl | refine leA_agg ?_ | refine leA_tup ?_ | exact leB_free | exact leB_dead | refine leL_cons ?_ ?_ | refine leH_cons ?_ ?_ | refine leB_cells ?_ | fail)
  · (refine ⟨by kernel_rfl, ?_⟩; (conv => whnf))
    obtain ⟨hi1, hi2⟩ := hi
    refine brI (fun h3 => ?_) (fun h3 => ?_)
    · conv => whnf
      have h3 : i < l.length := by simp only [decide_eq_true_eq] at h3; omega
      refine ⟨⟨by omega, by omega⟩, fun x hx => ?_⟩
      have hx : l[i]? = some x := by simpa using hx
      conv => whnf
      refine brI (fun h4 => ?_) (fun h4 => ?_)
      · conv => whnf
        have hno : l.all (fun x => x.k == 1) = false := by
          rw [List.all_eq_false]; exact ⟨x, List.mem_of_getElem? hx, by simpa using h4⟩
        have hno2 : foldN 5 n l = none := by unfold foldN; rw [hno]; rfl
        simp only [foldR, hno2, zk, hno]
        (refine And.intro ?_ ?_; repeat' first | exact leL_nil | exact leH_nil | exact leA_any | exact leA_refl rfl | exact leA_nil rfl | refine leA_agg ?_ | refine leA_tup ?_ | exact leB_free | exact leB_dead | refine leL_cons ?_ ?_ | refine leH_cons ?_ ?_ | refine leB_cells ?_ | fail)
      · conv => whnf
        refine ⟨i + 1, ⟨by omega, by rw [List.take_add_one, hx]; simp only [Option.toList_some, List.all_append, hi2, List.all_cons, List.all_nil]; simpa using h4⟩, by show l.length - (i + 1) < l.length - i; omega, ?_⟩
        ((conv => whnf); refine And.intro ?_ ?_; repeat' first | exact leL_nil | exact leH_nil | exact leA_any | exact leA_refl rfl | exact leA_nil rfl | refine leA_agg ?_ | refine leA_tup ?_ | exact leB_free | exact leB_dead | refine leL_cons ?_ ?_ | refine leH_cons ?_ ?_ | refine leB_cells ?_ | fail)
        exact leA_int (by rw [wI (by omega)]; omega)
    · conv => whnf
      have h3 : ¬ i < l.length := by simp only [decide_eq_false_iff_not] at h3; omega
      rw [List.take_of_length_le (by omega)] at hi2
      refine ⟨⟨by omega, by omega⟩, fun a ha => ?_⟩
      have hq0 : q0 l = a.q := q0_get (by simpa using ha)
      conv => whnf
      refine ⟨⟨by omega, by omega⟩, fun b hb => ?_⟩
      have hq1 : q1 l = b.q := q1_get (by simpa using hb)
      conv => whnf
      refine ⟨[], _, f150 a.q b.q, ?_⟩
      conv => whnf
      (refine ⟨by kernel_rfl, by kernel_rfl, ?_⟩; (conv => whnf))
      conv => whnf
      have e : foldN 5 n l = okN (rMul a.q b.q) := by unfold foldN; rw [hi2, hq0, hq1]; simp
      rw [foldR_eq (by omega) hi2 e, foldP_map]
      exact ⟨leA_foldR _ (rOp_err _ _ _ _), leH_nil⟩
theorem f124_6 (n : Int) (l : List Ex) (hl : l.length < 9223372036854775808) (hlen : 2 ≤ l.length) : Fn 124 [] [.int .i64 6, .int .i64 n, .sl .ex l] (foldR 6 n l) [] := by
  refine fnK_sound hT hmx Try.func124 rfl rfl (ex := []) ?_
  conv => whnf
  refine ⟨Nat, fun i => i ≤ l.length ∧ (l.take i).all (fun x => x.k == 1) = true, fun i => [(8, .int .i64 i)], fun _ => [], fun i => l.length - i, 0, ⟨by simp, by simp⟩, ?_, fun i hi => ?_⟩
  · ((conv => whnf); refine And.intro ?_ ?_; repeat' first | exact leL_nil | exact leH_nil | exact leA_any | exact leA_refl rfl | exact leA_nil rfl | refine leA_agg ?_ | refine leA_tup ?_ | exact leB_free | exact leB_dead | refine leL_cons ?_ ?_ | refine leH_cons ?_ ?_ | refine leB_cells ?_ | fail)
  · (refine ⟨by kernel_rfl, ?_⟩; (conv => whnf))
    obtain ⟨hi1, hi2⟩ := hi
    refine brI (fun h3 => ?_) (fun h3 => ?_)
    · conv => whnf
      have h3 : i < l.length := by simp only [decide_eq_true_eq] at h3; omega
      refine ⟨⟨by omega, by omega⟩, fun x hx => ?_⟩
      have hx : l[i]? = some x := by simpa using hx
      conv => whnf
      refine brI (fun h4 => ?_) (fun h4 => ?_)
      · conv => whnf
        have hno : l.all (fun x => x.k == 1) = false := by
          rw [List.all_eq_false]; exact ⟨x, List.mem_of_getElem? hx, by simpa using h4⟩
        have hno2 : foldN 6 n l = none := by unfold foldN; rw [hno]; rfl
        simp only [foldR, hno2, zk, hno]
        (refine And.intro ?_ ?_; repeat' first | exact leL_nil | exact leH_nil | exact leA_any | exact leA_refl rfl | exact leA_nil rfl | refine leA_agg ?_ | refine leA_tup ?_ | exact leB_free | exact leB_dead | refine leL_cons ?_ ?_ | refine leH_cons ?_ ?_ | refine leB_cells ?_ | fail)
      · conv => whnf
        refine ⟨i + 1, ⟨by omega, by rw [List.take_add_one, hx]; simp only [Option.toList_some, List.all_append, hi2, List.all_cons, List.all_nil]; simpa using h4⟩, by show l.length - (i + 1) < l.length - i; omega, ?_⟩
        ((conv => whnf); refine And.intro ?_ ?_; repeat' first | exact leL_nil | exact leH_nil | exact leA_any | exact leA_refl rfl | exact leA_nil rfl | refine leA_agg ?_ | refine leA_tup ?_ | exact leB_free | exact leB_dead | refine leL_cons ?_ ?_ | refine leH_cons ?_ ?_ | refine leB_cells ?_ | fail)
        exact leA_int (by rw [wI (by omega)]; omega)
    · conv => whnf
      have h3 : ¬ i < l.length := by simp only [decide_eq_false_iff_not] at h3; omega
      rw [List.take_of_length_le (by omega)] at hi2
      refine ⟨⟨by omega, by omega⟩, fun a ha => ?_⟩
      have hq0 : q0 l = a.q := q0_get (by simpa using ha)
      conv => whnf
      refine ⟨⟨by omega, by omega⟩, fun b hb => ?_⟩
      have hq1 : q1 l = b.q := q1_get (by simpa using hb)
      conv => whnf
      refine ⟨[], _, f151 a.q b.q, ?_⟩
      conv => whnf
      (refine ⟨by kernel_rfl, by kernel_rfl, ?_⟩; (conv => whnf))
      conv => whnf
      have e : foldN 6 n l = okN (rDiv a.q b.q) := by unfold foldN; rw [hi2, hq0, hq1]; simp
      rw [foldR_eq (by omega) hi2 e, foldP_map]
      exact ⟨leA_foldR _ (rOp_err _ _ _ _), leH_nil⟩
end Go.Proofs.Ytmcdnbmamoggoaa
