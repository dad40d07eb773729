/-
  Simple forms: derive.folded.
-/
import Derived.Test.YtnijmbnkcmhfpaaGreatDoorQUb
set_option linter.unusedVariables false
set_option linter.unusedSimpArgs false
namespace Go.Proofs.YtnijmbnkcmhfpaaGreatDoor
open Go Go.Sx
set_option maxRecDepth 100000
set_option maxHeartbeats 8000000
abbrev exV (k : Int) (q : Rt) (s : Bytes) (n : Int) (l : List Ex) : AV := .agg [.int .i64 k, .int .i64 q.n, .int .i64 q.d, .str s, .int .i64 n, .sl .ex l]
end Go.Proofs.YtnijmbnkcmhfpaaGreatDoor
