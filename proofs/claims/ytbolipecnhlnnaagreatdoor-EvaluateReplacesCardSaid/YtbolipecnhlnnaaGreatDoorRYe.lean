/-
  Seat .Z: the reference's names.
-/
import Derived.Test.YtbolipecnhlnnaaGreatDoorRUb
import Derived.Test.YtbolipecnhlnnaaGreatDoorRVa
import Derived.Test.YtbolipecnhlnnaaGreatDoorRUa
import Derived.Test.YtbolipecnhlnnaaGreatDoorRYa
import Derived.Test.YtbolipecnhlnnaaGreatDoorRZz
set_option linter.unusedVariables false
set_option linter.unusedSimpArgs false
namespace Go.Proofs.YtbolipecnhlnnaaGreatDoor
open Go Go.Sx
set_option maxRecDepth 100000
set_option maxHeartbeats 8000000
def ltB (c:Int):Bool:=decide (97<=c/\c<=122)||decide (65<=c/\c<=90)
theorem zam (a b:ze):zig .str a b=decide (a=b):=by
 rw[Bool.eq_iff_iff,decide_eq_true_eq];exact beq_iff_eq (α:=List UInt8)
end Go.Proofs.YtbolipecnhlnnaaGreatDoor
