/-
  The names of a tree, plainly.
-/
import Derived.Test.YtnijmbnkcmhfpaaGreatDoorQWx
set_option linter.unusedVariables false
set_option linter.unusedSimpArgs false
namespace Go.Proofs.YtnijmbnkcmhfpaaGreatDoor
open Go Go.Sx
theorem mem_namV {l : List Ex} {s : Bytes} : s ∈ namV l ↔ ∃ y ∈ l, y.k = 2 ∧ y.s = s := by
  induction l with
  | nil => simp [namV]
  | cons y l ih =>
    simp only [namV]
    split
    · rename_i h
      simp only [List.mem_cons, ih]
      constructor
      · rintro (h1 | ⟨z, h1, h2⟩)
        · exact ⟨y, .inl rfl, h, h1.symm⟩
        · exact ⟨z, .inr h1, h2⟩
      · rintro ⟨z, rfl | h1, h2, h3⟩
        · exact .inl h3.symm
        · exact .inr ⟨z, h1, h2, h3⟩
    · rename_i h
      simp only [List.mem_cons, ih]
      constructor
      · rintro ⟨z, h1, h2⟩; exact ⟨z, .inr h1, h2⟩
      · rintro ⟨z, rfl | h1, h2, h3⟩
        · exact absurd h2 h
        · exact ⟨z, h1, h2, h3⟩
theorem mem_nmE {e : Ex} (h : okT e = true) {s : Bytes} : s ∈ nmE e ↔ ∃ y ∈ preE e, y.k = 2 ∧ y.s = s := by
  unfold nmE
  rw [mem_compact]
  unfold srtS
  rw [List.mem_mergeSort, mem_namV]
  simp [visE, h]
end Go.Proofs.YtnijmbnkcmhfpaaGreatDoor
