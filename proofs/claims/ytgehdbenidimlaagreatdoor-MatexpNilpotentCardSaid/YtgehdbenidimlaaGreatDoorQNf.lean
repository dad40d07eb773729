/-
  Seat of round r6: the example of the chapter, computed.
-/
import Derived.Test.YtgehdbenidimlaaGreatDoorQNe
set_option linter.unusedVariables false
set_option linter.unusedSimpArgs false
namespace Go.Proofs.YtgehdbenidimlaaGreatDoor
open Go Go.Sx
set_option maxRecDepth 100000
set_option maxHeartbeats 8000000
def awA:Mx:= [[whI 0,whI 1],[whI 0,whI 0]]
def awH (y:Iv) (n:Int):Bool:= !y.all&&decide (qi y.lo (zd6 n)≤0)&&decide (qi (zd6 n) y.hi≤0)
def awE (X:Mx×Int):Bool:=match X with
 |([[_,y],_],0)=>awH y 3
 | _=>false
def awL (X:List Iv×Int):Bool:=match X with
 |([y,z],0)=>awH y 7&&awH z (-1)
 | _=>false
theorem qac:awE (zk1 awA (whI 3) 30)=true:=by decide+kernel
end Go.Proofs.YtgehdbenidimlaaGreatDoor

namespace Go.Proofs.YtgehdbenidimlaaGreatDoor
open Go Go.Sx
set_option maxRecDepth 100000
set_option maxHeartbeats 8000000
theorem qab:awL (zpz awA [whI 0,whI (-2)] [whI 1,whI 5] (whI 3) 30)=true:=by decide+kernel
end Go.Proofs.YtgehdbenidimlaaGreatDoor
