/- Intervals of small numbers: interval.Valid, known, Neg, Add, Sub, Mul. -/
import Derived.Test.YthbgbmdmimejiaaGreatDoorJYa
import Derived.Test.YthbgbmdmimejiaaGreatDoorJVa
set_option linter.all false
namespace Go.Proofs.YthbgbmdmimejiaaGreatDoor
open Go Go.Sx
set_option maxRecDepth 100000
set_option maxHeartbeats 8000000
