/-
  Law 17, EvaluateIsotone (printed by genx2.py).
-/
import Derived.Test.YtajnlbbgolmklaaGreatDoorQXa
import Derived.Test.YtajnlbbgolmklaaGreatDoorQYc
set_option linter.unusedVariables false
set_option linter.unusedSimpArgs false
namespace Go.Proofs.YtajnlbbgolmklaaGreatDoor
open Go Go.Sx
set_option maxRecDepth 100000
set_option maxHeartbeats 8000000
theorem zpi {P:Program} {T:Tab} {res:List ResultVar} {ex:List Nat} {rv:AV} {H':Hp} {c:Code} {σ:St} (is:List Nat) (h:zdu is σ fun τ=>SemOK P T res ex rv H' c τ):SemOK P T res ex rv H' c σ:=
 ⟨fun c0 a w Q hr hq=>by
  obtain⟨τ,hr',hk⟩:=kb hr h
  exact hk.sem c0 a w Q hr' hq⟩
end Go.Proofs.YtajnlbbgolmklaaGreatDoor
