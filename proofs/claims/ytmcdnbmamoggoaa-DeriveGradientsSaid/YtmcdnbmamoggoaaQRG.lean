/-
  The reference: depth, size, Fits, Diff.
-/
import Derived.Test.YtmcdnbmamoggoaaQRE
import Derived.Test.YtmcdnbmamoggoaaQRf
import Derived.Test.YtmcdnbmamoggoaaQUG
import Derived.Test.YtmcdnbmamoggoaaQUI
set_option linter.unusedVariables false
set_option linter.unusedSimpArgs false
namespace Go.Proofs.Ytmcdnbmamoggoaa
open Go Go.Sx
set_option maxRecDepth 100000
set_option maxHeartbeats 8000000
theorem depL_take (l : List Ex) (i : Nat) (x : Ex) (hx : l[i]? = some x) : depL (l.take (i + 1)) = max (depL (l.take i)) (depE x) := by
  rw [List.take_add_one, hx]
  simp only [Option.toList_some]
  generalize l.take i = m
  induction m with
  | nil => simp [depL]
  | cons y m ih => simp only [List.cons_append, depL, ih]; omega
theorem depL_mem : ∀ (l : List Ex) (x : Ex), x ∈ l → depE x ≤ depL l
  | [], x, h => by simp at h
  | y :: l, x, h => by
    simp only [depL]
    rcases List.mem_cons.1 h with rfl | h
    · omega
    · have := depL_mem l x h; omega
theorem f122 : ∀ e : Ex, depE e ≤ 1000 → Sm e → Fn 122 [] [.agg (exC e)] (.int .i64 (depE e)) [] := by
  refine exInd fun k q s p l ih hd hs => ?_
  simp only [Sm] at hs
  simp only [depE] at hd ⊢
  refine fnK_sound hT hmx Try.func122 rfl rfl (ex := []) ?_
  conv => whnf
  refine ⟨Nat, fun i => i ≤ l.length, fun i => [(4, .int .i64 i), (3, .int .i64 (depL (l.take i)))], fun _ => [], fun i => l.length - i, 0, by simp, ?_, fun i hi => ?_⟩
  · ((conv => whnf); refine And.intro ?_ ?_; repeat' first | exact leL_nil | exact leH_nil | exact leA_any | exact leA_refl rfl | exact leA_nil rfl | refine leA_agg ?_ | refine leA_tup ?_ | exact leB_free | exact leB_dead | refine leL_cons ?_ ?_ | refine leH_cons ?_ ?_ | refine leB_cells ?_ | fail)
  · (refine ⟨by kernel_rfl, ?_⟩; (conv => whnf))
    refine brI (fun h3 => ?_) (fun h3 => ?_)
    · conv => whnf
      have h3 : decide ((i : Int) < (l.length : Int)) = true := h3
      have h3 : i < l.length := by simp only [decide_eq_true_eq] at h3; omega
      refine ⟨⟨by omega, by show (i : Int) < (l.length : Int); omega⟩, fun x hx => ?_⟩
      have hx : l[(i : Int).toNat]? = some x := hx
      have hx : l[i]? = some x := by simpa using hx
      have hmem : x ∈ l := List.mem_of_getElem? hx
      have hdx : depE x ≤ depL l := depL_mem l x hmem
      conv => whnf
      refine ⟨[], _, ih x hmem (by omega) (SmL_mem hs.2.2 x hmem), ?_⟩
      conv => whnf
      refine ⟨i + 1, by show i + 1 ≤ l.length; omega, by show l.length - (i + 1) < l.length - i; omega, ?_⟩
      ((conv => whnf); refine And.intro ?_ ?_; repeat' first | exact leL_nil | exact leH_nil | exact leA_any | exact leA_refl rfl | exact leA_nil rfl | refine leA_agg ?_ | refine leA_tup ?_ | exact leB_free | exact leB_dead | refine leL_cons ?_ ?_ | refine leH_cons ?_ ?_ | refine leB_cells ?_ | fail)
      · exact leA_int (by rw [depL_take l i x hx]; split <;> omega)
      · exact leA_int (by rw [wI (by omega)]; omega)
    · conv => whnf
      have h3 : decide ((i : Int) < (l.length : Int)) = false := h3
      have h3 : ¬ i < l.length := by simp only [decide_eq_false_iff_not] at h3; omega
      rw [List.take_of_length_le (by omega)]
      exact ⟨leA_int (by rw [wI (by omega)]; omega), leH_nil⟩
theorem szRL_app (l : List Ex) (i n : Nat) : szRL 200 l n = szRL 200 (l.drop i) (szRL 200 (l.take i) n) ∨ 200 < szRL 200 (l.take i) n := by
  induction l generalizing i n with
  | nil => simp [szRL]
  | cons x l ih =>
    cases i with
    | zero => exact .inl (by simp [szRL])
    | succ i =>
      simp only [List.take_succ_cons, List.drop_succ_cons, szRL]
      split
      · exact ih i _
      · exact .inr (by omega)
theorem f123 : ∀ e : Ex, depE e ≤ 1000 → Sm e → Fn 123 [] [.agg (exC e), .int .i64 200] (.int .i64 (szR 200 e)) [] := by
  refine exInd fun k q s p l ih hd hs => ?_
  simp only [Sm] at hs
  simp only [depE] at hd
  simp only [szR]
  refine fnK_sound hT hmx Try.func123 rfl rfl (ex := []) ?_
  conv => whnf
  refine ⟨Nat × Nat, fun x => x.1 ≤ l.length ∧ szRL 200 (l.drop x.1) x.2 = szRL 200 l 1 ∧ x.2 ≤ 1000000, fun x => [(6, .int .i64 x.1), (5, .int .i64 x.2)], fun _ => [], fun x => l.length - x.1, (0, 1), ⟨by simp, rfl, by simp⟩, ?_, fun x hx => ?_⟩
  · ((conv => whnf); refine And.intro ?_ ?_; repeat' first | exact leL_nil | exact leH_nil | exact leA_any | exact leA_refl rfl | exact leA_nil rfl | refine leA_agg ?_ | refine leA_tup ?_ | exact leB_free | exact leB_dead | refine leL_cons ?_ ?_ | refine leH_cons ?_ ?_ | refine leB_cells ?_ | fail)
  · (refine ⟨by kernel_rfl, ?_⟩; (conv => whnf))
    obtain ⟨i, n⟩ := x
    obtain ⟨hi1, hi2, hi3⟩ := hx
    simp only at hi1 hi2 hi3
    refine brI (fun h3 => ?_) (fun h3 => ?_)
    · conv => whnf
      have h3 : decide ((i : Int) < (l.length : Int)) = true := h3
      have h3 : i < l.length := by simp only [decide_eq_true_eq] at h3; omega
      refine brI (fun h4 => ?_) (fun h4 => ?_)
      · conv => whnf
        have h4 : n ≤ 200 := by simp only [decide_eq_true_eq] at h4; omega
        refine ⟨⟨by omega, by show (i : Int) < (l.length : Int); omega⟩, fun x hx => ?_⟩
        have hx : l[(i : Int).toNat]? = some x := hx
        have hx : l[i]? = some x := by simpa using hx
        have hmem : x ∈ l := List.mem_of_getElem? hx
        have hdx : depE x ≤ depL l := depL_mem l x hmem
        have hbx := szR_le x
        conv => whnf
        refine ⟨[], _, ih x hmem (by omega) (SmL_mem hs.2.2 x hmem), ?_⟩
        conv => whnf
        rw [drop_get hx] at hi2
        simp only [szRL] at hi2
        rw [if_pos h4] at hi2
        refine ⟨(i + 1, n + szR 200 x), ⟨by simp only; omega, hi2, by simp only; omega⟩, by show l.length - (i + 1) < l.length - i; omega, ?_⟩
        ((conv => whnf); refine And.intro ?_ ?_; repeat' first | exact leL_nil | exact leH_nil | exact leA_any | exact leA_refl rfl | exact leA_nil rfl | refine leA_agg ?_ | refine leA_tup ?_ | exact leB_free | exact leB_dead | refine leL_cons ?_ ?_ | refine leH_cons ?_ ?_ | refine leB_cells ?_ | fail)
        · exact leA_int (by rw [wI (by omega)]; simp only; omega)
        · exact leA_int (by rw [wI (by simp only; omega)]; simp only; omega)
      · conv => whnf
        have h4 : ¬ n ≤ 200 := by simp only [decide_eq_false_iff_not] at h4; omega
        have : szRL 200 (l.drop i) n = n := by
          cases l.drop i with
          | nil => rfl
          | cons y m => simp only [szRL]; rw [if_neg h4]
        rw [← hi2, this]
        exact ⟨leA_int rfl, leH_nil⟩
    · conv => whnf
      have h3 : decide ((i : Int) < (l.length : Int)) = false := h3
      have h3 : ¬ i < l.length := by simp only [decide_eq_false_iff_not] at h3; omega
      rw [List.drop_of_length_le (by omega)] at hi2
      exact ⟨leA_int (by rw [← hi2]; rfl), leH_nil⟩
theorem f67 {e : Ex} (hd : depE e ≤ 1000) (hs : Sm e) : Fn 67 [] [.agg (exC e)] (.bool (fitB e)) [] := by
  refine fnK_sound hT hmx Try.func67 rfl rfl (ex := []) ?_
  conv => whnf
  refine ⟨[], _, f122 e hd hs, ?_⟩
  conv => whnf
  refine brI (fun h1 => ?_) (fun h1 => ?_)
  · conv => whnf
    have h1 : depE e ≤ 20 := by simp only [decide_eq_true_eq] at h1; omega
    refine ⟨[], _, f123 e hd hs, ?_⟩
    conv => whnf
    exact ⟨leA_bool (by simp only [fitB, h1, decide_true, Bool.true_and]; rw [decide_eq_decide]; omega), leH_nil⟩
  · conv => whnf
    have h1 : ¬ depE e ≤ 20 := by simp only [decide_eq_false_iff_not] at h1; omega
    exact ⟨leA_bool (by simp [fitB, h1]), leH_nil⟩
theorem dfR_no {e : Ex} {nm : Bytes} (h : fitB (diffE nm (simE e)) = false) : dfR e nm = (zeroE, 5) := by simp [dfR, h]
theorem dfR_yes {e : Ex} {nm : Bytes} (h : fitB (diffE nm (simE e)) = true) : dfR e nm = (diffE nm (simE e), 0) := by simp [dfR, h]
theorem f20 {e : Ex} {nm : Bytes} (h : VT e) (hd : depE e ≤ 100) : Fn 20 [] [.agg (exC e), .str nm] (dfV (dfR e nm)) [] := by
  have h1 := dep_sim h
  have h2 := dep_diff nm (VT_sim h)
  refine fnK_sound hT hmx Try.func20 rfl rfl (ex := []) ?_
  conv => whnf
  refine ⟨[], _, f26 h, ?_⟩
  conv => whnf
  refine ⟨[], _, f66 nm (VT_sim h), ?_⟩
  conv => whnf
  refine cbI [] (fitB (diffE nm (simE e))) (f67 (by omega) (VT_Sm (VT_diff nm (VT_sim h)))) (fun h3 => ?_) (fun h3 => ?_)
  · conv => whnf
    exact ⟨leA_dfV (dfR_yes h3), leH_nil⟩
  · conv => whnf
    exact ⟨leA_zero (dfR_no h3), leH_nil⟩
end Go.Proofs.Ytmcdnbmamoggoaa
