/- Intervals of small numbers: interval.Valid, known, Neg, Add, Sub, Mul. -/
import Derived.Test.YthbgbmdmimejiaaGreatDoorMYa
import Derived.Test.YthbgbmdmimejiaaGreatDoorMVa
set_option linter.all false
namespace Go.Proofs.YthbgbmdmimejiaaGreatDoor
open Go Go.Sx
set_option maxRecDepth 100000
set_option maxHeartbeats 8000000
