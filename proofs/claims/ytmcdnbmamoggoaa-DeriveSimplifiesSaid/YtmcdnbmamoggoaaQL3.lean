/-
  DeriveSimplifies: Simplify returns the simple form of the reference, which does not change when it is simplified again, and derivatives are simple: for every tree and every name.
-/
import Derived.Test.YtmcdnbmamoggoaaQOa
import Derived.Test.YtmcdnbmamoggoaaQUW
set_option linter.unusedVariables false
set_option linter.unusedSimpArgs false
namespace Go.Proofs.Ytmcdnbmamoggoaa
open Go Go.Sx Go.ChangeShapes Go.WideShapes Go.ChangeAt Go.RowKit
set_option maxRecDepth 100000 in
theorem deriveSimplifies_lifted (os : Os) (started : os.Started) (H : Type) (enc : TypeId × Value → H) :
    ReturnsInHanded {} Try.checked os 5 .any (Rows.deriveSimplifiesSpec.pre6 enc Try.prog Try.f5 Rows.deriveSimplifiesRow.domain false) (Rows.deriveSimplifiesSpec.post enc Try.prog Try.f5 false true false false) := by
  refine returnsInHanded_of_change (C := Try.checked) own started (by kernel_rfl) Try.func5
    (ChangeSpec.witness6 (enc := enc) (C := Try.checked) false ⟨#[], #[.agg #[.int .i64 0, .int .i64 0, .int .i64 0, .string ⟨#[]⟩, .int .i64 0, .slice none 0 0], .string ⟨#[]⟩], []⟩ 8 (by kernel_rfl) (by kernel_rfl) (by kernel_rfl) (by kernel_rfl)) ?_
  intro W base args ds gs before hval hW _ _
  exact given2 (F := 5) Try.params5 rfl rfl (fun H a b => ⟨rfl, rfl, rfl⟩) f5 H enc W base args ds gs before hval hW
theorem deriveSimplifies_holds : Rows.DeriveSimplifiesSaid :=
  OpenClaim.holds_of_wide 5 Try.f5 rfl rfl rfl rfl rfl rfl rfl ⟨rfl, rfl, rfl, rfl, rfl⟩ rfl rfl rfl rfl rfl (by kernel_rfl) Try.func5 (by kernel_rfl)
    (of_decide_eq_true (by kernel_rfl)) (by unfold Func.isWrapper; first | (rw [if_pos (by decide +kernel)]; kernel_rfl) | (rw [if_neg (by decide +kernel)]; exact ⟨rfl, rfl⟩))
    (fun os started H enc _ => deriveSimplifies_lifted os started H enc)
end Go.Proofs.Ytmcdnbmamoggoaa
