/-
  Simple forms: derive.simple.
-/
import Derived.Test.YtnijmbnkcmhfpaaGreatDoorQUA
set_option linter.unusedVariables false
set_option linter.unusedSimpArgs false
namespace Go.Proofs.YtnijmbnkcmhfpaaGreatDoor
open Go Go.Sx
set_option maxRecDepth 100000
set_option maxHeartbeats 8000000
/-- The simple form of a change of sign. -/
def negS (b : Ex) : Ex := match foldN 7 0 [b] with
  | some r => ratE r
  | none => if b.k = 7 then (match b.l with | x :: _ => x | [] => opE 7 0 [b]) else opE 7 0 [b]
/-- The simple form of an operation with one operand, where it is none with numbers. -/
def sim1 (k n : Int) (a : Ex) : Ex :=
  if k = 7 then (if a.k = 7 then (match a.l with | x :: _ => x | [] => opE 7 n [a]) else opE 7 n [a])
  else if k = 8 then (if n = 0 then numE 1 else if n = 1 then a else opE 8 n [a])
  else if k = 9 ∨ k = 12 then (if isB a 0 then numE 1 else opE k n [a])
  else if k = 10 then (if isB a 1 then numE 0 else opE k n [a])
  else if k = 11 then (if isB a 0 then numE 0 else opE k n [a])
  else if k = 13 then (if isB a 1 then numE 1 else opE k n [a])
  else opE k n [a]
/-- The simple form of an operation with two operands, where it is none with numbers. -/
def sim2 (k : Int) (a b : Ex) : Ex :=
  if k = 3 then (if isB a 0 then b else if isB b 0 then a else opE 3 0 [a, b])
  else if k = 4 then (if isB b 0 then a else if isB a 0 then negS b else opE 4 0 [a, b])
  else if k = 5 then (if isB a 0 || isB b 0 then numE 0 else if isB a 1 then b else if isB b 1 then a else opE 5 0 [a, b])
  else (if isB a 0 && !isB b 0 then numE 0 else if isB b 1 then a else opE k 0 [a, b])
def op1 (k n : Int) (a : Ex) : Ex := match foldN k n [a] with
  | some r => ratE r
  | none => sim1 k n a
def op2 (k : Int) (a b : Ex) : Ex := match foldN k 0 [a, b] with
  | some r => ratE r
  | none => sim2 k a b
theorem leA_exE {h h' : Hp} {e : Ex} {k qn qd p : Int} {s : Bytes} {l : AV} (h1 : k = e.k) (h2 : qn = e.q.n) (h3 : qd = e.q.d) (h4 : s = e.s) (h5 : p = e.p) (h6 : leA h h' l (.sl .ex e.l)) :
    leA h h' (.agg [.int .i64 k, .int .i64 qn, .int .i64 qd, .str s, .int .i64 p, l]) (.agg (exC e)) := by
  subst h1; subst h2; subst h3; subst h4; subst h5
  exact leA_agg (leL_cons (leA_refl rfl) (leL_cons (leA_refl rfl) (leL_cons (leA_refl rfl) (leL_cons (leA_refl rfl) (leL_cons (leA_refl rfl) (leL_cons h6 leL_nil))))))
end Go.Proofs.YtnijmbnkcmhfpaaGreatDoor
