/-
  Environments of distinct names: plain functions.
-/
import Derived.Test.YtajnlbbgolmklaaGreatDoorQWx
import Derived.Test.YtajnlbbgolmklaaGreatDoorQUb
set_option linter.unusedVariables false
set_option linter.unusedSimpArgs false
namespace Go.Proofs.YtajnlbbgolmklaaGreatDoor
open Go Go.Sx
theorem zaw (a b:zd):zhl .str a b=decide (a=b):=by
 rw[Bool.eq_iff_iff,decide_eq_true_eq]
 exact beq_iff_eq (α:=List UInt8)
end Go.Proofs.YtajnlbbgolmklaaGreatDoor
