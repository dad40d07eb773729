/- Seat .Z: the reference's names. -/
import Derived.Test.YthbgbmdmimejiaaGreatDoorJVa
import Derived.Test.YthbgbmdmimejiaaGreatDoorJYa
set_option linter.all false
namespace Go.Proofs.YthbgbmdmimejiaaGreatDoor
open Go Go.Sx
set_option maxRecDepth 100000
set_option maxHeartbeats 8000000
