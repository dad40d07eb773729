/-
  The reference: powers of numbers.
-/
import Derived.Test.YtmcdnbmamoggoaaQCk
set_option linter.unusedVariables false
set_option linter.unusedSimpArgs false
namespace Go.Proofs.Ytmcdnbmamoggoaa
open Go Go.Sx
set_option maxRecDepth 100000
set_option maxHeartbeats 8000000
theorem f124_8 (n : Int) (l : List Ex) (hl : l.length < 9223372036854775808) (hlen : 1 ≤ l.length) (hn : n ≤ 1000) : Fn 124 [] [.int .i64 8, .int .i64 n, .sl .ex l] (foldR 8 n l) [] := by
  refine fnK_sound hT hmx Try.func124 rfl rfl (ex := []) ?_
  conv => whnf
  refine ⟨Nat, fun i => i ≤ l.length ∧ (l.take i).all (fun x => x.k == 1) = true, fun i => [(8, .int .i64 i)], fun _ => [], fun i => l.length - i, 0, ⟨by simp, by simp⟩, ?_, fun i hi => ?_⟩
  · ((conv => whnf); refine And.intro ?_ ?_; repeat' first | exact leL_nil | exact leH_nil | exact leA_any | exact leA_refl rfl | exact leA_nil rfl | refine leA_agg ?_ | refine leA_tup ?_ | exact leB_free | exact leB_dead | refine leL_cons ?_ ?_ | refine leH_cons ?_ ?_ | refine leB_cells ?_ | fail)
  · (refine ⟨by kernel_rfl, ?_⟩; (conv => whnf))
    obtain ⟨hi1, hi2⟩ := hi
    refine brI (fun h3 => ?_) (fun h3 => ?_)
    · conv => whnf
      have h3 : i < l.length := by simp only [decide_eq_true_eq] at h3; omega
      refine ⟨⟨by omega, by omega⟩, fun x hx => ?_⟩
      have hx : l[i]? = some x := by simpa using hx
      conv => whnf
      refine brI (fun h4 => ?_) (fun h4 => ?_)
      · conv => whnf
        have hno : l.all (fun x => x.k == 1) = false := by
          rw [List.all_eq_false]; exact ⟨x, List.mem_of_getElem? hx, by simpa using h4⟩
        have hno2 : foldN 8 n l = none := by unfold foldN; rw [hno]; rfl
        simp only [foldR, hno2, zk, hno]
        (refine And.intro ?_ ?_; repeat' first | exact leL_nil | exact leH_nil | exact leA_any | exact leA_refl rfl | exact leA_nil rfl | refine leA_agg ?_ | refine leA_tup ?_ | exact leB_free | exact leB_dead | refine leL_cons ?_ ?_ | refine leH_cons ?_ ?_ | refine leB_cells ?_ | fail)
      · conv => whnf
        refine ⟨i + 1, ⟨by omega, by rw [List.take_add_one, hx]; simp only [Option.toList_some, List.all_append, hi2, List.all_cons, List.all_nil]; simpa using h4⟩, by show l.length - (i + 1) < l.length - i; omega, ?_⟩
        ((conv => whnf); refine And.intro ?_ ?_; repeat' first | exact leL_nil | exact leH_nil | exact leA_any | exact leA_refl rfl | exact leA_nil rfl | refine leA_agg ?_ | refine leA_tup ?_ | exact leB_free | exact leB_dead | refine leL_cons ?_ ?_ | refine leH_cons ?_ ?_ | refine leB_cells ?_ | fail)
        exact leA_int (by rw [wI (by omega)]; omega)
    · conv => whnf
      have h3 : ¬ i < l.length := by simp only [decide_eq_false_iff_not] at h3; omega
      rw [List.take_of_length_le (by omega)] at hi2
      have e8 : foldN 8 n l = powN (q0 l) n.toNat ⟨1, 1⟩ := by unfold foldN; rw [hi2]; simp
      refine ⟨Nat × (Rt × Int), fun x => x.1 ≤ n.toNat ∧ foldN 8 n l = (if x.2.2 = 0 then powN (q0 l) (n.toNat - x.1) x.2.1 else none) ∧ (x.2.2 ≠ 0 → x.2.1 = ⟨0, 0⟩), fun x => [(11, .int .i64 x.1), (10, .int .i64 x.2.2)], fun x => [(9, rbl x.2.1)], fun x => n.toNat - x.1, (0, ⟨1, 1⟩, 0), ⟨by simp, by simp [e8], by simp⟩, ?_, fun x hx => ?_⟩
      · ((conv => whnf); refine And.intro ?_ ?_; repeat' first | exact leL_nil | exact leH_nil | exact leA_any | exact leA_refl rfl | exact leA_nil rfl | refine leA_agg ?_ | refine leA_tup ?_ | exact leB_free | exact leB_dead | refine leL_cons ?_ ?_ | refine leH_cons ?_ ?_ | refine leB_cells ?_ | fail)
      · (refine ⟨by kernel_rfl, ?_⟩; (conv => whnf))
        obtain ⟨j, r, e⟩ := x
        obtain ⟨hj1, hj2, hj3⟩ := hx
        simp only at hj1 hj2 hj3
        refine brI (fun h6 => ?_) (fun h6 => ?_)
        · conv => whnf
          have h6 : j < n.toNat := by simp only [decide_eq_true_eq] at h6; omega
          refine brI (fun h7 => ?_) (fun h7 => ?_)
          · conv => whnf
            have h7 : e = 0 := by simpa using h7
            refine ⟨⟨by omega, by omega⟩, fun a ha => ?_⟩
            have hq0 : q0 l = a.q := q0_get (by simpa using ha)
            conv => whnf
            refine ⟨[], _, f150 r a.q, ?_⟩
            conv => whnf
            (refine ⟨by kernel_rfl, by kernel_rfl, ?_⟩; (conv => whnf))
            conv => whnf
            rw [if_pos h7, show n.toNat - j = (n.toNat - (j + 1)) + 1 by omega] at hj2
            simp only [powN, hq0] at hj2
            refine ⟨(j + 1, rMul r a.q), ⟨by simp only; omega, ?_, fun h => rOp_err _ _ _ _ h⟩, by show n.toNat - (j + 1) < n.toNat - j; omega, ?_⟩
            · rw [hj2, hq0]
              simp only [okN]
              split
              · rename_i s hs
                split at hs
                · simp at hs; rw [if_pos ‹_›, hs]
                · simp at hs
              · rename_i hs
                split at hs
                · simp at hs
                · rw [if_neg ‹_›]
            · ((conv => whnf); refine And.intro ?_ ?_; repeat' first | exact leL_nil | exact leH_nil | exact leA_any | exact leA_refl rfl | exact leA_nil rfl | refine leA_agg ?_ | refine leA_tup ?_ | exact leB_free | exact leB_dead | refine leL_cons ?_ ?_ | refine leH_cons ?_ ?_ | refine leB_cells ?_ | fail)
              exact leA_int (by rw [wI (by simp only; omega)]; simp only; omega)
          · conv => whnf
            have h7 : e ≠ 0 := by simpa using h7
            rw [if_neg h7] at hj2
            have e9 : foldN 8 n l = okN (r, e) := by rw [hj2]; simp [okN, h7]
            rw [foldR_eq (by omega) hi2 e9, foldP_map]
            exact ⟨leA_foldR (r, e) hj3, leH_nil⟩
        · conv => whnf
          have h6 : ¬ j < n.toNat := by simp only [decide_eq_false_iff_not] at h6; omega
          have e9 : foldN 8 n l = okN (r, e) := by
            rw [hj2, show n.toNat - j = 0 by omega]
            simp [okN, powN]
          rw [foldR_eq (by omega) hi2 e9, foldP_map]
          exact ⟨leA_foldR (r, e) hj3, leH_nil⟩
end Go.Proofs.Ytmcdnbmamoggoaa
