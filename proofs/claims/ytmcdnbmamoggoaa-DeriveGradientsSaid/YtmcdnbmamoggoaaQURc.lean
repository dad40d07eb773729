/-
  The reference: functions of numbers.
-/
import Derived.Test.YtmcdnbmamoggoaaQCk
set_option linter.unusedVariables false
set_option linter.unusedSimpArgs false
namespace Go.Proofs.Ytmcdnbmamoggoaa
open Go Go.Sx
set_option maxRecDepth 100000
set_option maxHeartbeats 8000000
theorem f124_9 (n : Int) (l : List Ex) (hl : l.length < 9223372036854775808) (hlen : 1 ≤ l.length) : Fn 124 [] [.int .i64 9, .int .i64 n, .sl .ex l] (foldR 9 n l) [] := by
  refine fnK_sound hT hmx Try.func124 rfl rfl (ex := []) ?_
  conv => whnf
  refine ⟨Nat, fun i => i ≤ l.length ∧ (l.take i).all (fun x => x.k == 1) = true, fun i => [(8, .int .i64 i)], fun _ => [], fun i => l.length - i, 0, ⟨by simp, by simp⟩, ?_, fun i hi => ?_⟩
  · ((conv => whnf); refine And.intro ?_ ?_; repeat' first | exact leL_nil | exact leH_nil | exact leA_any | exact leA_refl rfl | exact leA_nil rfl | refine leA_agg ?_ | refine leA_tup ?_ | exact leB_free | exact leB_dead | refine leL_cons ?_ ?_ | refine leH_cons ?_ ?_ | refine leB_cells ?_ | fail)
  · (refine ⟨by kernel_rfl, ?_⟩; (conv => whnf))
    obtain ⟨hi1, hi2⟩ := hi
    refine brI (fun h3 => ?_) (fun h3 => ?_)
    · conv => whnf
      have h3 : i < l.length := by simp only [decide_eq_true_eq] at h3; omega
      refine ⟨⟨by omega, by omega⟩, fun x hx => ?_⟩
      have hx : l[i]? = some x := by simpa using hx
      conv => whnf
      refine brI (fun h4 => ?_) (fun h4 => ?_)
      · conv => whnf
        have hno : l.all (fun x => x.k == 1) = false := by
          rw [List.all_eq_false]; exact ⟨x, List.mem_of_getElem? hx, by simpa using h4⟩
        have hno2 : foldN 9 n l = none := by unfold foldN; rw [hno]; rfl
        simp only [foldR, hno2, zk, hno]
        (refine And.intro ?_ ?_; repeat' first | exact leL_nil | exact leH_nil | exact leA_any | exact leA_refl rfl | exact leA_nil rfl | refine leA_agg ?_ | refine leA_tup ?_ | exact leB_free | exact leB_dead | refine leL_cons ?_ ?_ | refine leH_cons ?_ ?_ | refine leB_cells ?_ | fail)
      · conv => whnf
        refine ⟨i + 1, ⟨by omega, by rw [List.take_add_one, hx]; simp only [Option.toList_some, List.all_append, hi2, List.all_cons, List.all_nil]; simpa using h4⟩, by show l.length - (i + 1) < l.length - i; omega, ?_⟩
        ((conv => whnf); refine And.intro ?_ ?_; repeat' first | exact leL_nil | exact leH_nil | exact leA_any | exact leA_refl rfl | exact leA_nil rfl | refine leA_agg ?_ | refine leA_tup ?_ | exact leB_free | exact leB_dead | refine leL_cons ?_ ?_ | refine leH_cons ?_ ?_ | refine leB_cells ?_ | fail)
        exact leA_int (by rw [wI (by omega)]; omega)
    · conv => whnf
      have h3 : ¬ i < l.length := by simp only [decide_eq_false_iff_not] at h3; omega
      rw [List.take_of_length_le (by omega)] at hi2
      have e : foldN 9 n l = none := by simp [foldN]
      simp only [foldR, e, zk]
      rw [show (if l.all (fun x => x.k == 1) then (if 3 ≤ (9 : Int) ∧ (9 : Int) ≤ 8 then (1 : Int) else 0) else 0) = 0 by split <;> simp]
      (refine And.intro ?_ ?_; repeat' first | exact leL_nil | exact leH_nil | exact leA_any | exact leA_refl rfl | exact leA_nil rfl | refine leA_agg ?_ | refine leA_tup ?_ | exact leB_free | exact leB_dead | refine leL_cons ?_ ?_ | refine leH_cons ?_ ?_ | refine leB_cells ?_ | fail)
theorem f124_10 (n : Int) (l : List Ex) (hl : l.length < 9223372036854775808) (hlen : 1 ≤ l.length) : Fn 124 [] [.int .i64 10, .int .i64 n, .sl .ex l] (foldR 10 n l) [] := by
  refine fnK_sound hT hmx Try.func124 rfl rfl (ex := []) ?_
  conv => whnf
  refine ⟨Nat, fun i => i ≤ l.length ∧ (l.take i).all (fun x => x.k == 1) = true, fun i => [(8, .int .i64 i)], fun _ => [], fun i => l.length - i, 0, ⟨by simp, by simp⟩, ?_, fun i hi => ?_⟩
  · ((conv => whnf); refine And.intro ?_ ?_; repeat' first | exact leL_nil | exact leH_nil | exact leA_any | exact leA_refl rfl | exact leA_nil rfl | refine leA_agg ?_ | refine leA_tup ?_ | exact leB_free | exact leB_dead | refine leL_cons ?_ ?_ | refine leH_cons ?_ ?_ | refine leB_cells ?_ | fail)
  · (refine ⟨by kernel_rfl, ?_⟩; (conv => whnf))
    obtain ⟨hi1, hi2⟩ := hi
    refine brI (fun h3 => ?_) (fun h3 => ?_)
    · conv => whnf
      have h3 : i < l.length := by simp only [decide_eq_true_eq] at h3; omega
      refine ⟨⟨by omega, by omega⟩, fun x hx => ?_⟩
      have hx : l[i]? = some x := by simpa using hx
      conv => whnf
      refine brI (fun h4 => ?_) (fun h4 => ?_)
      · conv => whnf
        have hno : l.all (fun x => x.k == 1) = false := by
          rw [List.all_eq_false]; exact ⟨x, List.mem_of_getElem? hx, by simpa using h4⟩
        have hno2 : foldN 10 n l = none := by unfold foldN; rw [hno]; rfl
        simp only [foldR, hno2, zk, hno]
        (refine And.intro ?_ ?_; repeat' first | exact leL_nil | exact leH_nil | exact leA_any | exact leA_refl rfl | exact leA_nil rfl | refine leA_agg ?_ | refine leA_tup ?_ | exact leB_free | exact leB_dead | refine leL_cons ?_ ?_ | refine leH_cons ?_ ?_ | refine leB_cells ?_ | fail)
      · conv => whnf
        refine ⟨i + 1, ⟨by omega, by rw [List.take_add_one, hx]; simp only [Option.toList_some, List.all_append, hi2, List.all_cons, List.all_nil]; simpa using h4⟩, by show l.length - (i + 1) < l.length - i; omega, ?_⟩
        ((conv => whnf); refine And.intro ?_ ?_; repeat' first | exact leL_nil | exact leH_nil | exact leA_any | exact leA_refl rfl | exact leA_nil rfl | refine leA_agg ?_ | refine leA_tup ?_ | exact leB_free | exact leB_dead | refine leL_cons ?_ ?_ | refine leH_cons ?_ ?_ | refine leB_cells ?_ | fail)
        exact leA_int (by rw [wI (by omega)]; omega)
    · conv => whnf
      have h3 : ¬ i < l.length := by simp only [decide_eq_false_iff_not] at h3; omega
      rw [List.take_of_length_le (by omega)] at hi2
      have e : foldN 10 n l = none := by simp [foldN]
      simp only [foldR, e, zk]
      rw [show (if l.all (fun x => x.k == 1) then (if 3 ≤ (10 : Int) ∧ (10 : Int) ≤ 8 then (1 : Int) else 0) else 0) = 0 by split <;> simp]
      (refine And.intro ?_ ?_; repeat' first | exact leL_nil | exact leH_nil | exact leA_any | exact leA_refl rfl | exact leA_nil rfl | refine leA_agg ?_ | refine leA_tup ?_ | exact leB_free | exact leB_dead | refine leL_cons ?_ ?_ | refine leH_cons ?_ ?_ | refine leB_cells ?_ | fail)
theorem f124_11 (n : Int) (l : List Ex) (hl : l.length < 9223372036854775808) (hlen : 1 ≤ l.length) : Fn 124 [] [.int .i64 11, .int .i64 n, .sl .ex l] (foldR 11 n l) [] := by
  refine fnK_sound hT hmx Try.func124 rfl rfl (ex := []) ?_
  conv => whnf
  refine ⟨Nat, fun i => i ≤ l.length ∧ (l.take i).all (fun x => x.k == 1) = true, fun i => [(8, .int .i64 i)], fun _ => [], fun i => l.length - i, 0, ⟨by simp, by simp⟩, ?_, fun i hi => ?_⟩
  · ((conv => whnf); refine And.intro ?_ ?_; repeat' first | exact leL_nil | exact leH_nil | exact leA_any | exact leA_refl rfl | exact leA_nil rfl | refine leA_agg ?_ | refine leA_tup ?_ | exact leB_free | exact leB_dead | refine leL_cons ?_ ?_ | refine leH_cons ?_ ?_ | refine leB_cells ?_ | fail)
  · (refine ⟨by kernel_rfl, ?_⟩; (conv => whnf))
    obtain ⟨hi1, hi2⟩ := hi
    refine brI (fun h3 => ?_) (fun h3 => ?_)
    · conv => whnf
      have h3 : i < l.length := by simp only [decide_eq_true_eq] at h3; omega
      refine ⟨⟨by omega, by omega⟩, fun x hx => ?_⟩
      have hx : l[i]? = some x := by simpa using hx
      conv => whnf
      refine brI (fun h4 => ?_) (fun h4 => ?_)
      · conv => whnf
        have hno : l.all (fun x => x.k == 1) = false := by
          rw [List.all_eq_false]; exact ⟨x, List.mem_of_getElem? hx, by simpa using h4⟩
        have hno2 : foldN 11 n l = none := by unfold foldN; rw [hno]; rfl
        simp only [foldR, hno2, zk, hno]
        (refine And.intro ?_ ?_; repeat' first | exact leL_nil | exact leH_nil | exact leA_any | exact leA_refl rfl | exact leA_nil rfl | refine leA_agg ?_ | refine leA_tup ?_ | exact leB_free | exact leB_dead | refine leL_cons ?_ ?_ | refine leH_cons ?_ ?_ | refine leB_cells ?_ | fail)
      · conv => whnf
        refine ⟨i + 1, ⟨by omega, by rw [List.take_add_one, hx]; simp only [Option.toList_some, List.all_append, hi2, List.all_cons, List.all_nil]; simpa using h4⟩, by show l.length - (i + 1) < l.length - i; omega, ?_⟩
        ((conv => whnf); refine And.intro ?_ ?_; repeat' first | exact leL_nil | exact leH_nil | exact leA_any | exact leA_refl rfl | exact leA_nil rfl | refine leA_agg ?_ | refine leA_tup ?_ | exact leB_free | exact leB_dead | refine leL_cons ?_ ?_ | refine leH_cons ?_ ?_ | refine leB_cells ?_ | fail)
        exact leA_int (by rw [wI (by omega)]; omega)
    · conv => whnf
      have h3 : ¬ i < l.length := by simp only [decide_eq_false_iff_not] at h3; omega
      rw [List.take_of_length_le (by omega)] at hi2
      have e : foldN 11 n l = none := by simp [foldN]
      simp only [foldR, e, zk]
      rw [show (if l.all (fun x => x.k == 1) then (if 3 ≤ (11 : Int) ∧ (11 : Int) ≤ 8 then (1 : Int) else 0) else 0) = 0 by split <;> simp]
      (refine And.intro ?_ ?_; repeat' first | exact leL_nil | exact leH_nil | exact leA_any | exact leA_refl rfl | exact leA_nil rfl | refine leA_agg ?_ | refine leA_tup ?_ | exact leB_free | exact leB_dead | refine leL_cons ?_ ?_ | refine leH_cons ?_ ?_ | refine leB_cells ?_ | fail)
theorem f124_12 (n : Int) (l : List Ex) (hl : l.length < 9223372036854775808) (hlen : 1 ≤ l.length) : Fn 124 [] [.int .i64 12, .int .i64 n, .sl .ex l] (foldR 12 n l) [] := by
  refine fnK_sound hT hmx Try.func124 rfl rfl (ex := []) ?_
  conv => whnf
  refine ⟨Nat, fun i => i ≤ l.length ∧ (l.take i).all (fun x => x.k == 1) = true, fun i => [(8, .int .i64 i)], fun _ => [], fun i => l.length - i, 0, ⟨by simp, by simp⟩, ?_, fun i hi => ?_⟩
  · ((conv => whnf); refine And.intro ?_ ?_; repeat' first | exact leL_nil | exact leH_nil | exact leA_any | exact leA_refl rfl | exact leA_nil rfl | refine leA_agg ?_ | refine leA_tup ?_ | exact leB_free | exact leB_dead | refine leL_cons ?_ ?_ | refine leH_cons ?_ ?_ | refine leB_cells ?_ | fail)
  · (refine ⟨by kernel_rfl, ?_⟩; (conv => whnf))
    obtain ⟨hi1, hi2⟩ := hi
    refine brI (fun h3 => ?_) (fun h3 => ?_)
    · conv => whnf
      have h3 : i < l.length := by simp only [decide_eq_true_eq] at h3; omega
      refine ⟨⟨by omega, by omega⟩, fun x hx => ?_⟩
      have hx : l[i]? = some x := by simpa using hx
      conv => whnf
      refine brI (fun h4 => ?_) (fun h4 => ?_)
      · conv => whnf
        have hno : l.all (fun x => x.k == 1) = false := by
          rw [List.all_eq_false]; exact ⟨x, List.mem_of_getElem? hx, by simpa using h4⟩
        have hno2 : foldN 12 n l = none := by unfold foldN; rw [hno]; rfl
        simp only [foldR, hno2, zk, hno]
        (refine And.intro ?_ ?_; repeat' first | exact leL_nil | exact leH_nil | exact leA_any | exact leA_refl rfl | exact leA_nil rfl | refine leA_agg ?_ | refine leA_tup ?_ | exact leB_free | exact leB_dead | refine leL_cons ?_ ?_ | refine leH_cons ?_ ?_ | refine leB_cells ?_ | fail)
      · conv => whnf
        refine ⟨i + 1, ⟨by omega, by rw [List.take_add_one, hx]; simp only [Option.toList_some, List.all_append, hi2, List.all_cons, List.all_nil]; simpa using h4⟩, by show l.length - (i + 1) < l.length - i; omega, ?_⟩
        ((conv => whnf); refine And.intro ?_ ?_; repeat' first | exact leL_nil | exact leH_nil | exact leA_any | exact leA_refl rfl | exact leA_nil rfl | refine leA_agg ?_ | refine leA_tup ?_ | exact leB_free | exact leB_dead | refine leL_cons ?_ ?_ | refine leH_cons ?_ ?_ | refine leB_cells ?_ | fail)
        exact leA_int (by rw [wI (by omega)]; omega)
    · conv => whnf
      have h3 : ¬ i < l.length := by simp only [decide_eq_false_iff_not] at h3; omega
      rw [List.take_of_length_le (by omega)] at hi2
      have e : foldN 12 n l = none := by simp [foldN]
      simp only [foldR, e, zk]
      rw [show (if l.all (fun x => x.k == 1) then (if 3 ≤ (12 : Int) ∧ (12 : Int) ≤ 8 then (1 : Int) else 0) else 0) = 0 by split <;> simp]
      (refine And.intro ?_ ?_; repeat' first | exact leL_nil | exact leH_nil | exact leA_any | exact leA_refl rfl | exact leA_nil rfl | refine leA_agg ?_ | refine leA_tup ?_ | exact leB_free | exact leB_dead | refine leL_cons ?_ ?_ | refine leH_cons ?_ ?_ | refine leB_cells ?_ | fail)
theorem f124_13 (n : Int) (l : List Ex) (hl : l.length < 9223372036854775808) (hlen : 1 ≤ l.length) : Fn 124 [] [.int .i64 13, .int .i64 n, .sl .ex l] (foldR 13 n l) [] := by
  refine fnK_sound hT hmx Try.func124 rfl rfl (ex := []) ?_
  conv => whnf
  refine ⟨Nat, fun i => i ≤ l.length ∧ (l.take i).all (fun x => x.k == 1) = true, fun i => [(8, .int .i64 i)], fun _ => [], fun i => l.length - i, 0, ⟨by simp, by simp⟩, ?_, fun i hi => ?_⟩
  · ((conv => whnf); refine And.intro ?_ ?_; repeat' first | exact leL_nil | exact leH_nil | exact leA_any | exact leA_refl rfl | exact leA_nil rfl | refine leA_agg ?_ | refine leA_tup ?_ | exact leB_free | exact leB_dead | refine leL_cons ?_ ?_ | refine leH_cons ?_ ?_ | refine leB_cells ?_ | fail)
  · (refine ⟨by kernel_rfl, ?_⟩; (conv => whnf))
    obtain ⟨hi1, hi2⟩ := hi
    refine brI (fun h3 => ?_) (fun h3 => ?_)
    · conv => whnf
      have h3 : i < l.length := by simp only [decide_eq_true_eq] at h3; omega
      refine ⟨⟨by omega, by omega⟩, fun x hx => ?_⟩
      have hx : l[i]? = some x := by simpa using hx
      conv => whnf
      refine brI (fun h4 => ?_) (fun h4 => ?_)
      · conv => whnf
        have hno : l.all (fun x => x.k == 1) = false := by
          rw [List.all_eq_false]; exact ⟨x, List.mem_of_getElem? hx, by simpa using h4⟩
        have hno2 : foldN 13 n l = none := by unfold foldN; rw [hno]; rfl
        simp only [foldR, hno2, zk, hno]
        (refine And.intro ?_ ?_; repeat' first | exact leL_nil | exact leH_nil | exact leA_any | exact leA_refl rfl | exact leA_nil rfl | refine leA_agg ?_ | refine leA_tup ?_ | exact leB_free | exact leB_dead | refine leL_cons ?_ ?_ | refine leH_cons ?_ ?_ | refine leB_cells ?_ | fail)
      · conv => whnf
        refine ⟨i + 1, ⟨by omega, by rw [List.take_add_one, hx]; simp only [Option.toList_some, List.all_append, hi2, List.all_cons, List.all_nil]; simpa using h4⟩, by show l.length - (i + 1) < l.length - i; omega, ?_⟩
        ((conv => whnf); refine And.intro ?_ ?_; repeat' first | exact leL_nil | exact leH_nil | exact leA_any | exact leA_refl rfl | exact leA_nil rfl | refine leA_agg ?_ | refine leA_tup ?_ | exact leB_free | exact leB_dead | refine leL_cons ?_ ?_ | refine leH_cons ?_ ?_ | refine leB_cells ?_ | fail)
        exact leA_int (by rw [wI (by omega)]; omega)
    · conv => whnf
      have h3 : ¬ i < l.length := by simp only [decide_eq_false_iff_not] at h3; omega
      rw [List.take_of_length_le (by omega)] at hi2
      have e : foldN 13 n l = none := by simp [foldN]
      simp only [foldR, e, zk]
      rw [show (if l.all (fun x => x.k == 1) then (if 3 ≤ (13 : Int) ∧ (13 : Int) ≤ 8 then (1 : Int) else 0) else 0) = 0 by split <;> simp]
      (refine And.intro ?_ ?_; repeat' first | exact leL_nil | exact leH_nil | exact leA_any | exact leA_refl rfl | exact leA_nil rfl | refine leA_agg ?_ | refine leA_tup ?_ | exact leB_free | exact leB_dead | refine leL_cons ?_ ?_ | refine leH_cons ?_ ?_ | refine leB_cells ?_ | fail)
end Go.Proofs.Ytmcdnbmamoggoaa
