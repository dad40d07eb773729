/-
  The first place where a test holds; slices.Index, slices.Contains of strings.
-/
import Derived.Test.YtmcdnbmamoggoaaGreatQUb
set_option linter.unusedVariables false
set_option linter.unusedSimpArgs false
namespace Go.Proofs.YtmcdnbmamoggoaaGreat
open Go Go.Sx
set_option maxRecDepth 100000
set_option maxHeartbeats 8000000
theorem drop_get {α : Type} {l : List α} {i : Nat} {x : α} (h : l[i]? = some x) : l.drop i = x :: l.drop (i + 1) := by
  obtain ⟨hi, hx⟩ := List.getElem?_eq_some_iff.1 h
  rw [← hx]; exact List.drop_eq_getElem_cons hi
/-- The place of the first element that fulfils a test. -/
def ixP {α : Type} (p : α → Bool) : List α → Nat → Int
  | [], _ => -1
  | x :: l, i => if p x then i else ixP p l (i + 1)
theorem ixP_iff {α : Type} (p : α → Bool) : ∀ (l : List α) (i : Nat), 0 ≤ ixP p l i ↔ l.any p = true
  | [], i => by simp [ixP]
  | x :: l, i => by
    have ih := ixP_iff p l (i + 1)
    by_cases h : p x = true
    · simp [ixP, h]
    · simp only [ixP, if_neg h, ih, List.any_cons]; simp [h]
def eqS (s x : Bytes) : Bool := s == x
theorem f106 (l : List Bytes) (s : Bytes) (hlen : l.length < 9223372036854775808) : Fn 54 [] [.sl .str l, .str s] (.int .i64 (ixP (eqS s) l 0)) [] := by
  refine fnT hT hmx Tryz.func54 rfl rfl (ex := []) ?_
  conv => whnf
  refine ⟨Nat, fun i => i ≤ l.length ∧ ixP (eqS s) (l.drop i) i = ixP (eqS s) l 0, fun i => [(8, .int .i64 i)], fun _ => [], fun i => l.length - i, 0, ⟨by simp, rfl⟩, ?_, fun i hi => ?_⟩
  · ((conv => whnf); refine And.intro ?_ ?_; repeat' first | refine leL_cons ?_ ?_ | exact leA_any | exact leA_refl rfl | exact leL_nil | refine leH_cons ?_ ?_ | exact leH_nil | exact leB_free | exact leB_dead | refine leB_cells ?_ | exact leB_map rfl | exact leB_gst rfl | exact leA_nil rfl | refine leA_agg ?_ | refine leA_tup ?_ | fail)
  (refine ⟨by kernel_rfl, ?_⟩; (conv => whnf))
  obtain ⟨hi1, hi2⟩ := hi
  refine brI (fun h1 => ?_) (fun h1 => ?_)
  · conv => whnf
    have hi : i < l.length := by simp only [decide_eq_true_eq] at h1; omega
    refine ⟨⟨by omega, by omega⟩, fun x hx => ?_⟩
    have hx : l[i]? = some x := by simpa using hx
    rw [drop_get hx] at hi2
    simp only [ixP] at hi2
    conv => whnf
    refine brI (fun h2 => ?_) (fun h2 => ?_)
    · conv => whnf
      have h2 : eqS s x = true := h2
      rw [if_pos h2] at hi2
      exact ⟨leA_int hi2, leH_nil⟩
    · conv => whnf
      have h2 : eqS s x = false := h2
      rw [if_neg (by rw [h2]; simp)] at hi2
      refine ⟨i + 1, ⟨by omega, hi2⟩, by show l.length - (i + 1) < l.length - i; omega, ?_⟩
      ((conv => whnf); refine And.intro ?_ ?_; repeat' first | refine leL_cons ?_ ?_ | exact leA_any | exact leA_refl rfl | exact leL_nil | refine leH_cons ?_ ?_ | exact leH_nil | exact leB_free | exact leB_dead | refine leB_cells ?_ | exact leB_map rfl | exact leB_gst rfl | exact leA_nil rfl | refine leA_agg ?_ | refine leA_tup ?_ | fail)
      exact leA_int (by rw [wI (by omega)]; omega)
  · conv => whnf
    have hi : ¬ i < l.length := by simp only [decide_eq_false_iff_not] at h1; omega
    rw [List.drop_of_length_le (by omega)] at hi2
    exact ⟨leA_int hi2, leH_nil⟩
theorem f55 (l : List Bytes) (s : Bytes) (hlen : l.length < 9223372036854775808) : Fn 28 [] [.sl .str l, .str s] (.bool (l.any (eqS s))) [] := by
  refine fnT hT hmx Tryz.func28 rfl rfl (ex := []) ?_
  conv => whnf
  refine ⟨[], _, f106 l s hlen, ?_⟩
  conv => whnf
  exact ⟨leA_bool (by rw [Bool.eq_iff_iff, decide_eq_true_eq]; exact ixP_iff (eqS s) l 0), leH_nil⟩
end Go.Proofs.YtmcdnbmamoggoaaGreat
