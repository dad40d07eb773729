/- The tape: the type table with the maps of operations. -/
import Derived.Test.YtlbmkjbgfkgcmaaGreatDoorTUa
import Derived.Test.YtlbmkjbgfkgcmaaGreatDoorTVa
set_option linter.all false
namespace Go.Proofs.YtlbmkjbgfkgcmaaGreatDoor
open Go Go.Sx
def Ty2:List (Nat×TI):=Ty++ [
]
def T2:Tab:= {ty:=Ty2,of:= [],nb:= []}
theorem eq72:zxy Tryz.prog 63 opZ:=zyz Z
theorem qa3:KeyOK Tryz.prog 63 .op :=zww Tryz.underlying63 eq72 (fun w b x=>Z)
theorem key3:KeyOK Tryz.prog 3 .int :=ztn Tryz.underlying3
theorem hT2:TabOK Tryz.prog T2:=zmp qa3 key3 Z Z
set_option maxRecDepth 100000
set_option maxHeartbeats 8000000
section
variable (ins:Int) (ns:List zb7) (outs:List Int) (h0:0<=ins) (h1:ins<=1000) (hn:ns.length<9223372036854775808)
include hn in
include h0 h1 in
include h0 h1 in
include h0 h1 in
include h0 h1 hn in
end
def opsOf:Code->Array Oper
 |.region _ ops _=>ops
 | _=> #[]
section
variable (l:List Ex) (ns:List zb7) (x:Ex) (i k n:Int) (ops ops1:List TOp) (outs:List Int) (at1 at2:List (TOp×Int)) (L:Nat->Bool)
end
structure Tp where
 ins:Int
 ops:List TOp
 outs:List Int
abbrev tpC(t:Tp):List AV:= [.int .i64 t.ins,.sl .op t.ops,.sl .int t.outs]
