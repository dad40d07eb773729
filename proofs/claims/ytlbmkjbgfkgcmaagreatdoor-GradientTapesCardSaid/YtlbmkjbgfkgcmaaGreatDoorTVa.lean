/- Trees as plain data: valid ones, their depth, their size. -/
import Derived.Test.YtlbmkjbgfkgcmaaGreatDoorTUa
import Derived.Shelf.Sort.Plain
import Derived.Shelf.Slices.In.SortNone
import Derived.Shelf.Slices.CompactS
set_option linter.all false
namespace Go.Proofs.YtlbmkjbgfkgcmaaGreatDoor
open Go Go.Sx
section
variable {w w':World} {M:Nat->Prop} {pt:Nat->Option Nat} {ow:Nat->Option Value} {S:Nat->Prop} {j:Nat} {xs:List zb7} {h:Value}
end
set_option maxRecDepth 100000
set_option maxHeartbeats 8000000
