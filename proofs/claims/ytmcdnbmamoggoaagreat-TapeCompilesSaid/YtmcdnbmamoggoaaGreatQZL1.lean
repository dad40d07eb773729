/-
  TapeCompiles: tape.Compile answers the tape of the reference, or its error: for every list of at most eight expressions, or more than 200, and at most 100 names.
-/
import Derived.Test.YtmcdnbmamoggoaaGreatQOa
import Derived.Test.YtmcdnbmamoggoaaGreatQZp
set_option linter.unusedVariables false
set_option linter.unusedSimpArgs false
namespace Go.Proofs.YtmcdnbmamoggoaaGreat
open Go Go.Sx Go.ChangeShapes Go.WideShapes Go.ChangeAt Go.RowKit
set_option maxRecDepth 100000 in
theorem tapeCompiles_lifted (os : Os) (started : os.Started) (H : Type) (enc : TypeId × Value → H) :
    ReturnsInHanded {} Tryz.checked os 3 .any (Rows.tapeCompilesSpec.pre6 enc Tryz.prog Tryz.f3 Rows.tapeCompilesRow.domain false) (Rows.tapeCompilesSpec.post enc Tryz.prog Tryz.f3 false true false false) := by
  refine returnsInHanded_of_change (C := Tryz.checked) own started (by kernel_rfl) Tryz.func3
    (ChangeSpec.witness6 (enc := enc) (C := Tryz.checked) false ⟨#[], #[.slice none 0 0, .slice none 0 0], []⟩ 8 (by kernel_rfl) (by kernel_rfl) (by kernel_rfl) (by kernel_rfl)) ?_
  intro W base args ds gs before hval hW _ _
  exact givenL (F := 3) Tryz.params3 rfl rfl (fun H a b => ⟨rfl, rfl, rfl⟩) z3 H enc W base args ds gs before hval hW
theorem tapeCompiles_holds : Rows.TapeCompilesSaid :=
  OpenClaim.holds_of_wide 3 Tryz.f3 rfl rfl rfl rfl rfl rfl rfl ⟨rfl, rfl, rfl, rfl, rfl⟩ rfl rfl rfl rfl rfl (by kernel_rfl) Tryz.func3 (by kernel_rfl)
    (of_decide_eq_true (by kernel_rfl)) (by unfold Func.isWrapper; first | (rw [if_pos (by decide +kernel)]; kernel_rfl) | (rw [if_neg (by decide +kernel)]; exact ⟨rfl, rfl⟩))
    (fun os started H enc _ => tapeCompiles_lifted os started H enc)
end Go.Proofs.YtmcdnbmamoggoaaGreat
