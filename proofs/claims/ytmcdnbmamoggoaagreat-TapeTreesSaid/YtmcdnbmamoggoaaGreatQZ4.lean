/-
  Seat .Z: the reference's Names, known.
-/
import Derived.Test.YtmcdnbmamoggoaaGreatQZ2
import Derived.Test.YtmcdnbmamoggoaaGreatQZ1
import Derived.Test.YtmcdnbmamoggoaaGreatQZv
set_option linter.unusedVariables false
set_option linter.unusedSimpArgs false
namespace Go.Proofs.YtmcdnbmamoggoaaGreat
open Go Go.Sx
set_option maxRecDepth 100000
set_option maxHeartbeats 8000000
/-- The error of a list of names. -/
def nmR (ns : List Bytes) : Int := if ns.any badN = true then 1 else if duS ns 0 ns = true then 8 else 0
theorem any_drop {α : Type} {p : α → Bool} {l : List α} {i : Nat} {x : α} (h : l[i]? = some x) : (l.drop i).any p = (p x || (l.drop (i + 1)).any p) := by
  rw [drop_get h, List.any_cons]
theorem z33 (ns : List Bytes) (hns : ∀ x ∈ ns, x.length < 9223372036854775808) (hnl : ns.length < 9223372036854775808) : Fn 33 [] [.sl .str ns] (.int .i64 (nmR ns)) [] := by
  obtain ⟨A, hA⟩ : ∃ A, nmR ns = A := ⟨_, rfl⟩
  rw [hA]
  unfold nmR at hA
  refine fnT hT hmx Tryz.func33 rfl rfl (ex := []) ?_
  conv => whnf
  refine ⟨Nat, fun i => i ≤ ns.length ∧ (ns.drop i).any badN = ns.any badN, fun i => [(3, .int .i64 i)], fun _ => [], fun i => ns.length - i, 0, ⟨by simp, by simp⟩, ?_, fun i hi => ?_⟩
  · ((conv => whnf); refine And.intro ?_ ?_; repeat' first | refine leL_cons ?_ ?_ | exact leA_any | exact leA_refl rfl | exact leL_nil | refine leH_cons ?_ ?_ | exact leH_nil | exact leB_free | exact leB_dead | refine leB_cells ?_ | exact leB_map rfl | exact leB_gst rfl | exact leA_nil rfl | refine leA_agg ?_ | refine leA_tup ?_ | fail)
  (refine ⟨by kernel_rfl, ?_⟩; (conv => whnf))
  obtain ⟨hi1, hi2⟩ := hi
  refine brI (fun h1 => ?_) (fun h1 => ?_)
  · conv => whnf
    have hi : i < ns.length := by simp only [decide_eq_true_eq] at h1; omega
    refine ⟨⟨by omega, by omega⟩, fun n hx => ?_⟩
    have hx : ns[i]? = some n := by simpa using hx
    rw [any_drop hx] at hi2
    conv => whnf
    refine cbI [] (nameB n) (z60 n (hns n (List.mem_of_getElem? hx))) (fun h2 => ?_) (fun h2 => ?_)
    · conv => whnf
      refine ⟨i + 1, ⟨by omega, by simpa [badN, h2] using hi2⟩, by show ns.length - (i + 1) < ns.length - i; omega, ?_⟩
      ((conv => whnf); refine And.intro ?_ ?_; repeat' first | refine leL_cons ?_ ?_ | exact leA_any | exact leA_refl rfl | exact leL_nil | refine leH_cons ?_ ?_ | exact leH_nil | exact leB_free | exact leB_dead | refine leB_cells ?_ | exact leB_map rfl | exact leB_gst rfl | exact leA_nil rfl | refine leA_agg ?_ | refine leA_tup ?_ | fail)
      exact leA_int (by rw [wI (by omega)]; omega)
    · conv => whnf
      rw [if_pos (by rw [← hi2]; simp [badN, h2])] at hA
      exact ⟨leA_int hA, leH_nil⟩
  have hi : ¬ i < ns.length := by simp only [decide_eq_false_iff_not] at h1; omega
  rw [List.drop_of_length_le (by omega)] at hi2
  rw [if_neg (by rw [← hi2]; simp)] at hA
  conv => whnf
  refine ⟨Nat, fun i => i ≤ ns.length ∧ duS ns i (ns.drop i) = duS ns 0 ns, fun i => [(4, .int .i64 i)], fun _ => [], fun i => ns.length - i, 0, ⟨by simp, by simp⟩, ?_, fun i hi => ?_⟩
  · ((conv => whnf); refine And.intro ?_ ?_; repeat' first | refine leL_cons ?_ ?_ | exact leA_any | exact leA_refl rfl | exact leL_nil | refine leH_cons ?_ ?_ | exact leH_nil | exact leB_free | exact leB_dead | refine leB_cells ?_ | exact leB_map rfl | exact leB_gst rfl | exact leA_nil rfl | refine leA_agg ?_ | refine leA_tup ?_ | fail)
  (refine ⟨by kernel_rfl, ?_⟩; (conv => whnf))
  obtain ⟨hi1, hi2⟩ := hi
  refine brI (fun h1 => ?_) (fun h1 => ?_)
  · conv => whnf
    have hi : i < ns.length := by simp only [decide_eq_true_eq] at h1; omega
    refine ⟨⟨by omega, by omega⟩, fun n hx => ?_⟩
    have hx : ns[i]? = some n := by simpa using hx
    rw [drop_get hx] at hi2
    simp only [duS] at hi2
    conv => whnf
    refine ⟨[], _, z61 ns n hnl, ?_⟩
    conv => whnf
    refine brI (fun h2 => ?_) (fun h2 => ?_)
    · have h2 : ixP (eqS n) ns 0 ≠ i := by simpa using h2
      conv => whnf
      rw [if_pos (by rw [← hi2, decide_eq_true h2, Bool.true_or])] at hA
      exact ⟨leA_int hA, leH_nil⟩
    · have h2 : ¬ ixP (eqS n) ns 0 ≠ i := by simpa using h2
      rw [decide_eq_false h2, Bool.false_or] at hi2
      conv => whnf
      refine ⟨i + 1, ⟨by omega, hi2⟩, by show ns.length - (i + 1) < ns.length - i; omega, ?_⟩
      ((conv => whnf); refine And.intro ?_ ?_; repeat' first | refine leL_cons ?_ ?_ | exact leA_any | exact leA_refl rfl | exact leL_nil | refine leH_cons ?_ ?_ | exact leH_nil | exact leB_free | exact leB_dead | refine leB_cells ?_ | exact leB_map rfl | exact leB_gst rfl | exact leA_nil rfl | refine leA_agg ?_ | refine leA_tup ?_ | fail)
      exact leA_int (by rw [wI (by omega)]; omega)
  have hi : ¬ i < ns.length := by simp only [decide_eq_false_iff_not] at h1; omega
  rw [List.drop_of_length_le (by omega)] at hi2
  rw [if_neg (by rw [← hi2]; simp [duS])] at hA
  conv => whnf
  exact ⟨leA_int hA, leH_nil⟩
theorem z34 (ns : List Bytes) (hnl : ns.length < 9223372036854775808) : ∀ (e : Ex), Sm e → Fn 34 [] [.sl .str ns, .agg (exC e)] (.bool (knE ns e)) [] := by
  refine exInd fun k q s p l ih hs => ?_
  simp only [Sm] at hs
  obtain ⟨A, hA⟩ : ∃ A, knE ns (.mk k q s p l) = A := ⟨_, rfl⟩
  rw [hA]
  simp only [knE] at hA
  have hloop : (decide (k = 2) && decide (ixP (eqS s) ns 0 < 0)) = false → knL ns l = A := fun h => by rw [h] at hA; simpa using hA
  show Fn 34 [] [.sl .str ns, .agg [.int .i64 k, .int .i64 q.n, .int .i64 q.d, .str s, .int .i64 p, .sl .ex l]] (.bool A) []
  refine fnT hT hmx Tryz.func34 rfl rfl (ex := []) ?_
  conv => whnf
  refine brI (fun h => ?_) (fun h => ?_)
  · have h : k = 2 := by simpa using h
    conv => whnf
    refine ⟨[], _, z61 ns s hnl, ?_⟩
    conv => whnf
    refine brI (fun h1 => ?_) (fun h1 => ?_)
    · have h1 : ixP (eqS s) ns 0 < 0 := by simpa using h1
      rw [decide_eq_true h, decide_eq_true h1] at hA
      subst hA
      conv => whnf
      exact ⟨leA_refl rfl, leH_nil⟩
    have h1 : ¬ ixP (eqS s) ns 0 < 0 := by simpa using h1
    have hA := hloop (by rw [decide_eq_false h1, Bool.and_false])
    conv => whnf
    refine ⟨Nat, fun i => i ≤ l.length ∧ knL ns (l.drop i) = A, fun i => [(5, .int .i64 i)], fun _ => [], fun i => l.length - i, 0, ⟨by simp, hA⟩, ?_, fun i hi => ?_⟩
    · ((conv => whnf); refine And.intro ?_ ?_; repeat' first | refine leL_cons ?_ ?_ | exact leA_any | exact leA_refl rfl | exact leL_nil | refine leH_cons ?_ ?_ | exact leH_nil | exact leB_free | exact leB_dead | refine leB_cells ?_ | exact leB_map rfl | exact leB_gst rfl | exact leA_nil rfl | refine leA_agg ?_ | refine leA_tup ?_ | fail)
    (refine ⟨by kernel_rfl, ?_⟩; (conv => whnf))
    obtain ⟨hi1, hi2⟩ := hi
    refine brI (fun h1 => ?_) (fun h1 => ?_)
    · conv => whnf
      have hi : i < l.length := by simp only [decide_eq_true_eq] at h1; omega
      refine ⟨⟨by omega, by omega⟩, fun x hx => ?_⟩
      have hx : l[i]? = some x := by simpa using hx
      have hm := List.mem_of_getElem? hx
      rw [drop_get hx] at hi2
      simp only [knL] at hi2
      conv => whnf
      refine cbI [] (knE ns x) (ih x hm (SmL_mem hs.2.2 x hm)) (fun h2 => ?_) (fun h2 => ?_)
      · rw [h2, Bool.true_and] at hi2
        conv => whnf
        refine ⟨i + 1, ⟨by omega, hi2⟩, by show l.length - (i + 1) < l.length - i; omega, ?_⟩
        ((conv => whnf); refine And.intro ?_ ?_; repeat' first | refine leL_cons ?_ ?_ | exact leA_any | exact leA_refl rfl | exact leL_nil | refine leH_cons ?_ ?_ | exact leH_nil | exact leB_free | exact leB_dead | refine leB_cells ?_ | exact leB_map rfl | exact leB_gst rfl | exact leA_nil rfl | refine leA_agg ?_ | refine leA_tup ?_ | fail)
        exact leA_int (by rw [wI (by omega)]; omega)
      · rw [h2, Bool.false_and] at hi2
        conv => whnf
        exact ⟨leA_bool hi2, leH_nil⟩
    · conv => whnf
      have hi : ¬ i < l.length := by simp only [decide_eq_false_iff_not] at h1; omega
      rw [List.drop_of_length_le (by omega)] at hi2
      exact ⟨leA_bool hi2, leH_nil⟩
  · have h : ¬ k = 2 := by simpa using h
    have hA := hloop (by rw [decide_eq_false h, Bool.false_and])
    conv => whnf
    refine ⟨Nat, fun i => i ≤ l.length ∧ knL ns (l.drop i) = A, fun i => [(5, .int .i64 i)], fun _ => [], fun i => l.length - i, 0, ⟨by simp, hA⟩, ?_, fun i hi => ?_⟩
    · ((conv => whnf); refine And.intro ?_ ?_; repeat' first | refine leL_cons ?_ ?_ | exact leA_any | exact leA_refl rfl | exact leL_nil | refine leH_cons ?_ ?_ | exact leH_nil | exact leB_free | exact leB_dead | refine leB_cells ?_ | exact leB_map rfl | exact leB_gst rfl | exact leA_nil rfl | refine leA_agg ?_ | refine leA_tup ?_ | fail)
    (refine ⟨by kernel_rfl, ?_⟩; (conv => whnf))
    obtain ⟨hi1, hi2⟩ := hi
    refine brI (fun h1 => ?_) (fun h1 => ?_)
    · conv => whnf
      have hi : i < l.length := by simp only [decide_eq_true_eq] at h1; omega
      refine ⟨⟨by omega, by omega⟩, fun x hx => ?_⟩
      have hx : l[i]? = some x := by simpa using hx
      have hm := List.mem_of_getElem? hx
      rw [drop_get hx] at hi2
      simp only [knL] at hi2
      conv => whnf
      refine cbI [] (knE ns x) (ih x hm (SmL_mem hs.2.2 x hm)) (fun h2 => ?_) (fun h2 => ?_)
      · rw [h2, Bool.true_and] at hi2
        conv => whnf
        refine ⟨i + 1, ⟨by omega, hi2⟩, by show l.length - (i + 1) < l.length - i; omega, ?_⟩
        ((conv => whnf); refine And.intro ?_ ?_; repeat' first | refine leL_cons ?_ ?_ | exact leA_any | exact leA_refl rfl | exact leL_nil | refine leH_cons ?_ ?_ | exact leH_nil | exact leB_free | exact leB_dead | refine leB_cells ?_ | exact leB_map rfl | exact leB_gst rfl | exact leA_nil rfl | refine leA_agg ?_ | refine leA_tup ?_ | fail)
        exact leA_int (by rw [wI (by omega)]; omega)
      · rw [h2, Bool.false_and] at hi2
        conv => whnf
        exact ⟨leA_bool hi2, leH_nil⟩
    · conv => whnf
      have hi : ¬ i < l.length := by simp only [decide_eq_false_iff_not] at h1; omega
      rw [List.drop_of_length_le (by omega)] at hi2
      exact ⟨leA_bool hi2, leH_nil⟩
end Go.Proofs.YtmcdnbmamoggoaaGreat
