/-
  Simple forms: derive.folded.
-/
import Derived.Test.YtmcdnbmamoggoaaQUb
set_option linter.unusedVariables false
set_option linter.unusedSimpArgs false
namespace Go.Proofs.Ytmcdnbmamoggoaa
open Go Go.Sx
set_option maxRecDepth 100000
set_option maxHeartbeats 8000000
abbrev exV (k : Int) (q : Rt) (s : Bytes) (n : Int) (l : List Ex) : AV := .agg [.int .i64 k, .int .i64 q.n, .int .i64 q.d, .str s, .int .i64 n, .sl .ex l]
theorem f145 (k n : Int) (q : Rt) (s : Bytes) (l : List Ex) (hn : n ≤ 1000) (h1 : l ≠ []) (h2 : (k = 3 ∨ k = 4 ∨ k = 5 ∨ k = 6) → 2 ≤ l.length) (hl : l.length < 9223372036854775808) :
    Fn 145 [] [exV k q s n l] (foldV (foldN k n l)) [] := by
  refine fnT hT hmx Try.func145 rfl rfl (ex := []) ?_
  conv => whnf
  refine ⟨Nat, fun i => i ≤ l.length ∧ (l.take i).all (fun x => x.k == 1) = true, fun i => [(12, .int .i64 i)], fun _ => [], fun i => l.length - i, 0, ⟨by simp, by simp⟩, ?_, fun i hi => ?_⟩
  · ((conv => whnf); refine And.intro ?_ ?_; repeat' first | exact leL_nil | exact leH_nil | exact leA_any | exact leA_refl rfl | exact leA_nil rfl | refine leA_agg ?_ | refine leA_tup ?_ | exact leB_free | exact leB_dead | refine leL_cons ?_ ?_ | refine leH_cons ?_ ?_ | refine leB_cells ?_ | fail)
  · (refine ⟨by kernel_rfl, ?_⟩; (conv => whnf))
    obtain ⟨hi1, hi2⟩ := hi
    refine brI (fun h3 => ?_) (fun h3 => ?_)
    · conv => whnf
      have h3 : i < l.length := by simp only [decide_eq_true_eq] at h3; omega
      refine ⟨⟨by omega, by omega⟩, fun x hx => ?_⟩
      have hx : l[i]? = some x := by simpa using hx
      conv => whnf
      refine brI (fun h4 => ?_) (fun h4 => ?_)
      · conv => whnf
        have hno : foldN k n l = none := by
          have : l.all (fun x => x.k == 1) = false := by
            rw [List.all_eq_false]; exact ⟨x, List.mem_of_getElem? hx, by simpa using h4⟩
          unfold foldN; rw [this]; rfl
        rw [hno]
        (refine And.intro ?_ ?_; repeat' first | exact leL_nil | exact leH_nil | exact leA_any | exact leA_refl rfl | exact leA_nil rfl | refine leA_agg ?_ | refine leA_tup ?_ | exact leB_free | exact leB_dead | refine leL_cons ?_ ?_ | refine leH_cons ?_ ?_ | refine leB_cells ?_ | fail)
      · conv => whnf
        refine ⟨i + 1, ⟨by omega, by rw [List.take_add_one, hx]; simp only [Option.toList_some, List.all_append, hi2, List.all_cons, List.all_nil]; simpa using h4⟩, by show l.length - (i + 1) < l.length - i; omega, ?_⟩
        ((conv => whnf); refine And.intro ?_ ?_; repeat' first | exact leL_nil | exact leH_nil | exact leA_any | exact leA_refl rfl | exact leA_nil rfl | refine leA_agg ?_ | refine leA_tup ?_ | exact leB_free | exact leB_dead | refine leL_cons ?_ ?_ | refine leH_cons ?_ ?_ | refine leB_cells ?_ | fail)
        exact leA_int (by rw [wI (by omega)]; omega)
    · conv => whnf
      have h3 : ¬ i < l.length := by simp only [decide_eq_false_iff_not] at h3; omega
      rw [List.take_of_length_le (by omega)] at hi2
      have hpos : 0 < l.length := List.length_pos_iff.2 h1
      have hQ0 : ∀ a, l[0]? = some a → q0 l = a.q := fun a ha => by cases l with
        | nil => simp at ha
        | cons x l => simp at ha; rw [← ha]; rfl
      have hQ1 : ∀ b, l[1]? = some b → q1 l = b.q := fun b hb => by
        rcases l with _ | ⟨x, _ | ⟨y, l⟩⟩
        · simp at hb
        · simp at hb
        · simp at hb; rw [← hb]; rfl
      refine ⟨⟨by omega, by omega⟩, fun a ha => ?_⟩
      have hq0 : q0 l = a.q := hQ0 a (by simpa using ha)
      conv => whnf
      unfold foldN
      rw [hi2, if_pos rfl, hq0]
      refine brI (fun h4 => ?_) (fun h4 => ?_)
      · conv => whnf
        have h4 : k = 3 := by simpa using h4
        rw [if_pos h4]
        refine ⟨⟨by omega, by have := h2 (by omega); omega⟩, fun b hb => ?_⟩
        have hq1 : q1 l = b.q := hQ1 b (by simpa using hb)
        conv => whnf
        refine ⟨[], _, f58 a.q b.q, ?_⟩
        conv => whnf
        (refine ⟨by kernel_rfl, by kernel_rfl, ?_⟩; (conv => whnf))
        conv => whnf
        rw [hq1, foldV_map]
        exact ⟨leA_fold _ (rOp_err _ _ _ _), leH_nil⟩
      · conv => whnf
        have h4 : k ≠ 3 := by simpa using h4
        rw [if_neg h4]
        refine brI (fun h4 => ?_) (fun h4 => ?_)
        · conv => whnf
          have h4 : k = 4 := by simpa using h4
          rw [if_pos h4]
          refine ⟨⟨by omega, by have := h2 (by omega); omega⟩, fun b hb => ?_⟩
          have hq1 : q1 l = b.q := hQ1 b (by simpa using hb)
          conv => whnf
          refine ⟨[], _, f108 a.q b.q, ?_⟩
          conv => whnf
          (refine ⟨by kernel_rfl, by kernel_rfl, ?_⟩; (conv => whnf))
          conv => whnf
          rw [hq1, foldV_map]
          exact ⟨leA_fold _ (rOp_err _ _ _ _), leH_nil⟩
        · conv => whnf
          have h4 : k ≠ 4 := by simpa using h4
          rw [if_neg h4]
          refine brI (fun h4 => ?_) (fun h4 => ?_)
          · conv => whnf
            have h4 : k = 5 := by simpa using h4
            rw [if_pos h4]
            refine ⟨⟨by omega, by have := h2 (by omega); omega⟩, fun b hb => ?_⟩
            have hq1 : q1 l = b.q := hQ1 b (by simpa using hb)
            conv => whnf
            refine ⟨[], _, f142 a.q b.q, ?_⟩
            conv => whnf
            (refine ⟨by kernel_rfl, by kernel_rfl, ?_⟩; (conv => whnf))
            conv => whnf
            rw [hq1, foldV_map]
            exact ⟨leA_fold _ (rOp_err _ _ _ _), leH_nil⟩
          · conv => whnf
            have h4 : k ≠ 5 := by simpa using h4
            rw [if_neg h4]
            refine brI (fun h4 => ?_) (fun h4 => ?_)
            · conv => whnf
              have h4 : k = 6 := by simpa using h4
              rw [if_pos h4]
              refine ⟨⟨by omega, by have := h2 (by omega); omega⟩, fun b hb => ?_⟩
              have hq1 : q1 l = b.q := hQ1 b (by simpa using hb)
              conv => whnf
              refine ⟨[], _, f57 a.q b.q, ?_⟩
              conv => whnf
              (refine ⟨by kernel_rfl, by kernel_rfl, ?_⟩; (conv => whnf))
              conv => whnf
              rw [hq1, foldV_map]
              exact ⟨leA_fold _ (rOp_err _ _ _ _), leH_nil⟩
            · conv => whnf
              have h4 : k ≠ 6 := by simpa using h4
              rw [if_neg h4]
              refine brI (fun h4 => ?_) (fun h4 => ?_)
              · conv => whnf
                have h4 : k = 7 := by simpa using h4
                rw [if_pos h4]
                refine ⟨[], _, f108 ⟨0, 1⟩ a.q, ?_⟩
                conv => whnf
                rw [foldV_map]
                exact ⟨leA_fold _ (rOp_err _ _ _ _), leH_nil⟩
              · conv => whnf
                have h4 : k ≠ 7 := by simpa using h4
                rw [if_neg h4]
                refine brI (fun h5 => ?_) (fun h5 => ?_)
                · conv => whnf
                  have h5 : k = 8 := by simpa using h5
                  rw [if_pos h5]
                  refine ⟨Nat × Rt, fun x => x.1 ≤ n.toNat ∧ powN a.q n.toNat ⟨1, 1⟩ = powN a.q (n.toNat - x.1) x.2, fun x => [(90, .int .i64 x.1), (8, .int .i64 0)], fun x => [(7, rbl x.2)], fun x => n.toNat - x.1, (0, ⟨1, 1⟩), ⟨by simp, rfl⟩, ?_, fun x hx => ?_⟩
                  · ((conv => whnf); refine And.intro ?_ ?_; repeat' first | exact leL_nil | exact leH_nil | exact leA_any | exact leA_refl rfl | exact leA_nil rfl | refine leA_agg ?_ | refine leA_tup ?_ | exact leB_free | exact leB_dead | refine leL_cons ?_ ?_ | refine leH_cons ?_ ?_ | refine leB_cells ?_ | fail)
                  · (refine ⟨by kernel_rfl, ?_⟩; (conv => whnf))
                    obtain ⟨j, r⟩ := x
                    obtain ⟨hj1, hj2⟩ := hx
                    refine brI (fun h6 => ?_) (fun h6 => ?_)
                    · conv => whnf
                      have h6 : j < n.toNat := by simp only [decide_eq_true_eq] at h6; omega
                      refine ⟨[], _, f142 r a.q, ?_⟩
                      conv => whnf
                      have hstep : powN a.q (n.toNat - j) r = match okN (rMul r a.q) with
                        | some s => powN a.q (n.toNat - (j + 1)) s
                        | none => none := by
                        rw [show n.toNat - j = (n.toNat - (j + 1)) + 1 by omega]; rfl
                      refine brI (fun h7 => ?_) (fun h7 => ?_)
                      · conv => whnf
                        have h7 : (rMul r a.q).2 ≠ 0 := by simpa using h7
                        have hno : okN (rMul r a.q) = none := by simp [okN, h7]
                        rw [hj2, show n.toNat - (j, r).1 = n.toNat - j from rfl, hstep, hno, foldV_map]
                        have hz : (rMul r a.q).1 = ⟨0, 0⟩ := rOp_err _ _ _ _ h7
                        (refine And.intro ?_ ?_; repeat' first | exact leL_nil | exact leH_nil | exact leA_any | exact leA_refl rfl | exact leA_nil rfl | refine leA_agg ?_ | refine leA_tup ?_ | exact leB_free | exact leB_dead | refine leL_cons ?_ ?_ | refine leH_cons ?_ ?_ | refine leB_cells ?_ | fail)
                        · exact leA_int (congrArg Rt.n hz)
                        · exact leA_int (congrArg Rt.d hz)
                        · exact leA_bool (by simpa using h7)
                      · conv => whnf
                        have h7 : (rMul r a.q).2 = 0 := by simpa using h7
                        refine ⟨(j + 1, (rMul r a.q).1), ⟨by simp only; omega, by rw [hj2]; show powN a.q (n.toNat - j) r = _; rw [hstep]; simp [okN, h7]⟩, by show n.toNat - (j + 1) < n.toNat - j; omega, ?_⟩
                        ((conv => whnf); refine And.intro ?_ ?_; repeat' first | exact leL_nil | exact leH_nil | exact leA_any | exact leA_refl rfl | exact leA_nil rfl | refine leA_agg ?_ | refine leA_tup ?_ | exact leB_free | exact leB_dead | refine leL_cons ?_ ?_ | refine leH_cons ?_ ?_ | refine leB_cells ?_ | fail)
                        · exact leA_int h7
                        · exact leA_int (by rw [wI (by simp only; omega)]; simp only; omega)
                    · conv => whnf
                      have h6 : ¬ j < n.toNat := by simp only [decide_eq_false_iff_not] at h6; omega
                      rw [hj2, show n.toNat - (j, r).1 = 0 by simp only; omega]
                      (refine And.intro ?_ ?_; repeat' first | exact leL_nil | exact leH_nil | exact leA_any | exact leA_refl rfl | exact leA_nil rfl | refine leA_agg ?_ | refine leA_tup ?_ | exact leB_free | exact leB_dead | refine leL_cons ?_ ?_ | refine leH_cons ?_ ?_ | refine leB_cells ?_ | fail)
                · conv => whnf
                  have h5 : k ≠ 8 := by simpa using h5
                  rw [if_neg h5]
                  (refine And.intro ?_ ?_; repeat' first | exact leL_nil | exact leH_nil | exact leA_any | exact leA_refl rfl | exact leA_nil rfl | refine leA_agg ?_ | refine leA_tup ?_ | exact leB_free | exact leB_dead | refine leL_cons ?_ ?_ | refine leH_cons ?_ ?_ | refine leB_cells ?_ | fail)
end Go.Proofs.Ytmcdnbmamoggoaa
