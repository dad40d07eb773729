/-
  The natural extension contains exact values, and is isotone.
-/
import Derived.Test.YtlocddfailmnpaaGreatDoorQYl
import Derived.Test.YtlocddfailmnpaaGreatDoorQYy
import Derived.Test.YtlocddfailmnpaaGreatDoorQWx
import Derived.Test.YtlocddfailmnpaaGreatDoorQVa
import Derived.Test.YtlocddfailmnpaaGreatDoorQUb
import Derived.Test.YtlocddfailmnpaaGreatDoorQUa
import Derived.Test.YtlocddfailmnpaaGreatDoorQYa
import Derived.Test.YtlocddfailmnpaaGreatDoorQZz
set_option linter.unusedVariables false
set_option linter.unusedSimpArgs false
namespace Go.Proofs.YtlocddfailmnpaaGreatDoor
open Go Go.Sx
set_option maxHeartbeats 2000000
end Go.Proofs.YtlocddfailmnpaaGreatDoor

namespace Go.Proofs.YtlocddfailmnpaaGreatDoor
open Go Go.Sx
set_option maxHeartbeats 2000000
end Go.Proofs.YtlocddfailmnpaaGreatDoor

namespace Go.Proofs.YtlocddfailmnpaaGreatDoor
open Go Go.Sx
set_option maxRecDepth 100000
set_option maxHeartbeats 8000000
def ltB (c:Int):Bool:=decide (97≤c∧c≤122)||decide (65≤c∧c≤90)
end Go.Proofs.YtlocddfailmnpaaGreatDoor

namespace Go.Proofs.YtlocddfailmnpaaGreatDoor
open Go Go.Sx
end Go.Proofs.YtlocddfailmnpaaGreatDoor

namespace Go.Proofs.YtlocddfailmnpaaGreatDoor
open Go Go.Sx
set_option maxRecDepth 100000
set_option maxHeartbeats 8000000
end Go.Proofs.YtlocddfailmnpaaGreatDoor

namespace Go.Proofs.YtlocddfailmnpaaGreatDoor
open Go Go.Sx
set_option maxRecDepth 100000
set_option maxHeartbeats 8000000
end Go.Proofs.YtlocddfailmnpaaGreatDoor

namespace Go.Proofs.YtlocddfailmnpaaGreatDoor
open Go Go.Sx
set_option maxRecDepth 100000
set_option maxHeartbeats 8000000
end Go.Proofs.YtlocddfailmnpaaGreatDoor

namespace Go.Proofs.YtlocddfailmnpaaGreatDoor
open Go Go.Sx
set_option maxRecDepth 100000
set_option maxHeartbeats 8000000
def T8:Tab:= {T6 with nb:=(28,1)::T6.nb,gl:=T6.gl}
theorem hT8:TabOK Tryz.prog T8:=zgt (by kernel_rfl) (by kernel_rfl)
theorem fZ8{f:Nat}{fn:Func}{c:Code}(a:Tryz.prog.funcs[f]?=some fn)(b:fn.body=some c)(d:(fn.name == "runtime.NumGoroutine")=false){H H':Hp}{A:List AV}{r:AV}(h:fnC T8 [] c fn.ntmps H A H' fun σ=>xd T8 (CN Tryz.prog) c true σ (fun σ=>zgp T8 fn.results.toList [] r H' σ) (fun _ _=>False) (fun σ=>zgp T8 fn.results.toList [] r H' σ)):zd3 Tryz.prog f H A r H':=fnT hT8 hmx a b d h
theorem x13 (l:List Iv) (hl:l.length≤1000000) (h0:l≠ []):Fn 28 [] [.sl .iv l] (.own 2000000) [(2000000,.buf 35 .iv l)]:=by
 refine fnT hT8 hmx Tryz.func28 rfl rfl (ex:= [7]) ?_;conv=>whnf
 refine⟨fun h=>absurd h h0,fun _=>?_⟩
 conv=>whnf
 refine⟨by simp;omega,?_⟩;conv=>whnf
 exact⟨lr rfl,lh1 (bb0 (by simp)) lh0⟩
end Go.Proofs.YtlocddfailmnpaaGreatDoor

namespace Go.Proofs.YtlocddfailmnpaaGreatDoor
open Go Go.Sx
end Go.Proofs.YtlocddfailmnpaaGreatDoor

namespace Go.Proofs.YtlocddfailmnpaaGreatDoor
open Go Go.Sx
set_option maxRecDepth 100000
set_option maxHeartbeats 8000000
end Go.Proofs.YtlocddfailmnpaaGreatDoor

namespace Go.Proofs.YtlocddfailmnpaaGreatDoor
open Go Go.Sx
set_option maxRecDepth 100000
set_option maxHeartbeats 8000000
end Go.Proofs.YtlocddfailmnpaaGreatDoor

namespace Go.Proofs.YtlocddfailmnpaaGreatDoor
open Go Go.Sx
set_option maxRecDepth 100000
set_option maxHeartbeats 8000000
end Go.Proofs.YtlocddfailmnpaaGreatDoor

namespace Go.Proofs.YtlocddfailmnpaaGreatDoor
open Go Go.Sx
set_option maxRecDepth 100000
set_option maxHeartbeats 8000000
end Go.Proofs.YtlocddfailmnpaaGreatDoor

namespace Go.Proofs.YtlocddfailmnpaaGreatDoor
open Go Go.Sx
set_option maxRecDepth 100000
set_option maxHeartbeats 8000000
end Go.Proofs.YtlocddfailmnpaaGreatDoor

namespace Go.Proofs.YtlocddfailmnpaaGreatDoor
open Go Go.Sx
set_option maxRecDepth 100000
set_option maxHeartbeats 8000000
end Go.Proofs.YtlocddfailmnpaaGreatDoor

namespace Go.Proofs.YtlocddfailmnpaaGreatDoor
open Go Go.Sx
set_option maxRecDepth 100000
set_option maxHeartbeats 8000000
end Go.Proofs.YtlocddfailmnpaaGreatDoor
