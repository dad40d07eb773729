/-
  DeriveGradients: Gradient and Along return what the reference does, or the specified errors: for every tree, all names and every flow.
-/
import Derived.Test.YtmcdnbmamoggoaaQOa
import Derived.Test.YtmcdnbmamoggoaaQUg
set_option linter.unusedVariables false
set_option linter.unusedSimpArgs false
namespace Go.Proofs.Ytmcdnbmamoggoaa
open Go Go.Sx Go.ChangeShapes Go.WideShapes Go.ChangeAt Go.RowKit
set_option maxRecDepth 100000 in
theorem deriveGradients_lifted (os : Os) (started : os.Started) (H : Type) (enc : TypeId × Value → H) :
    ReturnsInHanded {} Try.checked os 7 .any (Rows.deriveGradientsSpec.pre6 enc Try.prog Try.f7 Rows.deriveGradientsRow.domain false) (Rows.deriveGradientsSpec.post enc Try.prog Try.f7 false true false false) := by
  refine returnsInHanded_of_change (C := Try.checked) own started (by kernel_rfl) Try.func7
    (ChangeSpec.witness6 (enc := enc) (C := Try.checked) false ⟨#[], #[.agg #[.int .i64 0, .int .i64 0, .int .i64 0, .string ⟨#[]⟩, .int .i64 0, .slice none 0 0], .slice none 0 0, .slice none 0 0], []⟩ 8 (by kernel_rfl) (by kernel_rfl) (by kernel_rfl) (by kernel_rfl)) ?_
  intro W base args ds gs before hval hW _ _
  exact givenG (F := 7) Try.params7 rfl rfl (fun H a b c => ⟨rfl, rfl, rfl⟩) f7 H enc W base args ds gs before hval hW
theorem deriveGradients_holds : Rows.DeriveGradientsSaid :=
  OpenClaim.holds_of_wide 7 Try.f7 rfl rfl rfl rfl rfl rfl rfl ⟨rfl, rfl, rfl, rfl, rfl⟩ rfl rfl rfl rfl rfl (by kernel_rfl) Try.func7 (by kernel_rfl)
    (of_decide_eq_true (by kernel_rfl)) (by unfold Func.isWrapper; first | (rw [if_pos (by decide +kernel)]; kernel_rfl) | (rw [if_neg (by decide +kernel)]; exact ⟨rfl, rfl⟩))
    (fun os started H enc _ => deriveGradients_lifted os started H enc)
end Go.Proofs.Ytmcdnbmamoggoaa
