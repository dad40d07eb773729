/-
  Trees as plain data: valid ones, their depth, their size.
-/
import Derived.Test.YtgehdbenidimlaaGreatDoorQUb
import Derived.Test.YtgehdbenidimlaaGreatDoorQSxY
set_option linter.unusedVariables false
set_option linter.unusedSimpArgs false
namespace Go.Proofs.YtgehdbenidimlaaGreatDoor
open Go Go.Sx
set_option maxRecDepth 100000
set_option maxHeartbeats 8000000
end Go.Proofs.YtgehdbenidimlaaGreatDoor
