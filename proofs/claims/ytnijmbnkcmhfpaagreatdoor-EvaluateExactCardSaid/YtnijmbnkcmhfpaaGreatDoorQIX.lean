/-
  The first place where a test holds; slices.Index, slices.Contains of strings.
-/
import Derived.Test.YtnijmbnkcmhfpaaGreatDoorQUb
set_option linter.unusedVariables false
set_option linter.unusedSimpArgs false
namespace Go.Proofs.YtnijmbnkcmhfpaaGreatDoor
open Go Go.Sx
set_option maxRecDepth 100000
set_option maxHeartbeats 8000000
theorem drop_get {α : Type} {l : List α} {i : Nat} {x : α} (h : l[i]? = some x) : l.drop i = x :: l.drop (i + 1) := by
  obtain ⟨hi, hx⟩ := List.getElem?_eq_some_iff.1 h
  rw [← hx]; exact List.drop_eq_getElem_cons hi
/-- The place of the first element that fulfils a test. -/
def ixP {α : Type} (p : α → Bool) : List α → Nat → Int
  | [], _ => -1
  | x :: l, i => if p x then i else ixP p l (i + 1)
theorem ixP_iff {α : Type} (p : α → Bool) : ∀ (l : List α) (i : Nat), 0 ≤ ixP p l i ↔ l.any p = true
  | [], i => by simp [ixP]
  | x :: l, i => by
    have ih := ixP_iff p l (i + 1)
    by_cases h : p x = true
    · simp [ixP, h]
    · simp only [ixP, if_neg h, ih, List.any_cons]; simp [h]
def eqS (s x : Bytes) : Bool := s == x
end Go.Proofs.YtnijmbnkcmhfpaaGreatDoor
