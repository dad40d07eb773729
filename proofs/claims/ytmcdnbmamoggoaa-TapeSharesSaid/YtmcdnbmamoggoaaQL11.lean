/-
  TapeShares: the tape of at most eight expressions has no operation twice, none for nothing, and at most one for each node: for every list.
-/
import Derived.Test.YtmcdnbmamoggoaaQOa
import Derived.Test.YtmcdnbmamoggoaaQTf
set_option linter.unusedVariables false
set_option linter.unusedSimpArgs false
namespace Go.Proofs.Ytmcdnbmamoggoaa
open Go Go.Sx Go.ChangeShapes Go.WideShapes Go.ChangeAt Go.RowKit
set_option maxRecDepth 100000 in
theorem tapeShares_lifted (os : Os) (started : os.Started) (H : Type) (enc : TypeId × Value → H) :
    ReturnsInHanded {} Try.checked os 9 .any (Rows.tapeSharesSpec.pre6 enc Try.prog Try.f9 Rows.tapeSharesRow.domain false) (Rows.tapeSharesSpec.post enc Try.prog Try.f9 false true false false) := by
  refine returnsInHanded_of_change (C := Try.checked) own started (by kernel_rfl) Try.func9
    (ChangeSpec.witness6 (enc := enc) (C := Try.checked) false ⟨#[], #[.slice none 0 0, .slice none 0 0], []⟩ 8 (by kernel_rfl) (by kernel_rfl) (by kernel_rfl) (by kernel_rfl)) ?_
  intro W base args ds gs before hval hW _ _
  exact givenL (F := 9) Try.params9 rfl rfl (fun H a b => ⟨rfl, rfl, rfl⟩) f9 H enc W base args ds gs before hval hW
theorem tapeShares_holds : Rows.TapeSharesSaid :=
  OpenClaim.holds_of_wide 9 Try.f9 rfl rfl rfl rfl rfl rfl rfl ⟨rfl, rfl, rfl, rfl, rfl⟩ rfl rfl rfl rfl rfl (by kernel_rfl) Try.func9 (by kernel_rfl)
    (of_decide_eq_true (by kernel_rfl)) (by unfold Func.isWrapper; first | (rw [if_pos (by decide +kernel)]; kernel_rfl) | (rw [if_neg (by decide +kernel)]; exact ⟨rfl, rfl⟩))
    (fun os started H enc _ => tapeShares_lifted os started H enc)
end Go.Proofs.Ytmcdnbmamoggoaa
