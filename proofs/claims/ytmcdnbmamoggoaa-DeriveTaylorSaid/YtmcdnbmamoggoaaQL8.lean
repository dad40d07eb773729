/-
  DeriveTaylor: a polynomial of a degree of at most 4 is the sum of its derivatives, divided by factorials, one step ahead: for every tree and every number.
-/
import Derived.Test.YtmcdnbmamoggoaaQOa
import Derived.Test.YtmcdnbmamoggoaaQVw
set_option linter.unusedVariables false
set_option linter.unusedSimpArgs false
namespace Go.Proofs.Ytmcdnbmamoggoaa
open Go Go.Sx Go.ChangeShapes Go.WideShapes Go.ChangeAt Go.RowKit
set_option maxRecDepth 100000 in
theorem deriveTaylor_lifted (os : Os) (started : os.Started) (H : Type) (enc : TypeId × Value → H) :
    ReturnsInHanded {} Try.checked os 13 .any (Rows.deriveTaylorSpec.pre6 enc Try.prog Try.f13 Rows.deriveTaylorRow.domain false) (Rows.deriveTaylorSpec.post enc Try.prog Try.f13 false true false false) := by
  refine returnsInHanded_of_change (C := Try.checked) own started (by kernel_rfl) Try.func13
    (ChangeSpec.witness6 (enc := enc) (C := Try.checked) false ⟨#[], #[.agg #[.int .i64 0, .int .i64 0, .int .i64 0, .string ⟨#[]⟩, .int .i64 0, .slice none 0 0], .int .i16 0], []⟩ 8 (by kernel_rfl) (by kernel_rfl) (by kernel_rfl) (by kernel_rfl)) ?_
  intro W base args ds gs before hval hW _ _
  exact givenT (F := 13) Try.params13 rfl rfl (fun H a b => ⟨rfl, rfl, rfl⟩) f13 H enc W base args ds gs before hval hW
theorem deriveTaylor_holds : Rows.DeriveTaylorSaid :=
  OpenClaim.holds_of_wide 13 Try.f13 rfl rfl rfl rfl rfl rfl rfl ⟨rfl, rfl, rfl, rfl, rfl⟩ rfl rfl rfl rfl rfl (by kernel_rfl) Try.func13 (by kernel_rfl)
    (of_decide_eq_true (by kernel_rfl)) (by unfold Func.isWrapper; first | (rw [if_pos (by decide +kernel)]; kernel_rfl) | (rw [if_neg (by decide +kernel)]; exact ⟨rfl, rfl⟩))
    (fun os started H enc _ => deriveTaylor_lifted os started H enc)
end Go.Proofs.Ytmcdnbmamoggoaa
