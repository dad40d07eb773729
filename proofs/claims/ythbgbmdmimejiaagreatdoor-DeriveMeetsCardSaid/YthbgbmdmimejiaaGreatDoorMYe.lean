/- Seat .Z: the reference's names. -/
import Derived.Test.YthbgbmdmimejiaaGreatDoorMVa
import Derived.Test.YthbgbmdmimejiaaGreatDoorMYa
set_option linter.all false
namespace Go.Proofs.YthbgbmdmimejiaaGreatDoor
open Go Go.Sx
set_option maxRecDepth 100000
set_option maxHeartbeats 8000000
