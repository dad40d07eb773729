/-
  Simple forms: operations with two operands.
-/
import Derived.Test.YtmcdnbmamoggoaaQUB
set_option linter.unusedVariables false
set_option linter.unusedSimpArgs false
namespace Go.Proofs.Ytmcdnbmamoggoaa
open Go Go.Sx
set_option maxRecDepth 100000
set_option maxHeartbeats 8000000
theorem f115_7 (a : Ex) (ha : a.k = 7 → a.l ≠ []) : Fn 115 [] [.int .i64 7, .agg (exC a)] (.agg (exC (op1 7 0 a))) [] := by
  refine fnT hT hmx Try.func115 rfl rfl (ex := []) ?_
  conv => whnf
  rw [Ex.eta2]
  refine ⟨[], _, f117_7 0 a (by omega) ha, ?_⟩
  conv => whnf
  exact ⟨leA_ex rfl, leH_nil⟩
theorem negS_op (b : Ex) : negS b = op1 7 0 b := by
  unfold negS op1 sim1; simp
end Go.Proofs.Ytmcdnbmamoggoaa
