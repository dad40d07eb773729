/-
  Trees that are compared (same), and looked at (large).
-/
import Derived.Test.YtnijmbnkcmhfpaaGreatDoorQIX
import Derived.Test.YtnijmbnkcmhfpaaGreatDoorQVa
import Derived.Test.YtnijmbnkcmhfpaaGreatDoorQCk
set_option linter.unusedVariables false
set_option linter.unusedSimpArgs false
namespace Go.Proofs.YtnijmbnkcmhfpaaGreatDoor
open Go Go.Sx
set_option maxRecDepth 100000
set_option maxHeartbeats 8000000
theorem sameE_mk (k : Int) (q : Rt) (s : Bytes) (p : Int) (l : List Ex) (b : Ex) : sameE (.mk k q s p l) b = ((k == b.k) && ((q.n == b.q.n) && (q.d == b.q.d)) && (s == b.s) && (p == b.p) && decide (l.length ≤ 3) && sameL l b.l) := by rw [sameE]
/-- Large: the place of the first operand. -/
def lxL : List Ex → Nat → Nat → Int
  | [], _, _ => -1
  | x :: l, d, i => if larE x d then i else lxL l d (i + 1)
theorem lxL_iff : ∀ (l : List Ex) (d i : Nat), 0 ≤ lxL l d i ↔ larL l d = true
  | [], d, i => by simp [lxL, larL]
  | x :: l, d, i => by
    simp only [lxL, larL]
    cases h : larE x d with
    | true => simp
    | false => simpa using lxL_iff l d (i + 1)
abbrev Hl (d : Nat) : Hp := [(1000003, cb1 d)]
theorem leHl {h h' : Hp} (d : Nat) : leH h h' (Hl d) (Hl d) := leH_cons (leB_cells (leL_cons (leA_refl rfl) leL_nil)) leH_nil
end Go.Proofs.YtnijmbnkcmhfpaaGreatDoor
