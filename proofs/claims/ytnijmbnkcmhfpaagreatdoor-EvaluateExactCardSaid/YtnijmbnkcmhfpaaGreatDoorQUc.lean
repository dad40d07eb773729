/-
  Simple forms: operations with two operands.
-/
import Derived.Test.YtnijmbnkcmhfpaaGreatDoorQUB
set_option linter.unusedVariables false
set_option linter.unusedSimpArgs false
namespace Go.Proofs.YtnijmbnkcmhfpaaGreatDoor
open Go Go.Sx
set_option maxRecDepth 100000
set_option maxHeartbeats 8000000
theorem negS_op (b : Ex) : negS b = op1 7 0 b := by
  unfold negS op1 sim1; simp
end Go.Proofs.YtnijmbnkcmhfpaaGreatDoor
