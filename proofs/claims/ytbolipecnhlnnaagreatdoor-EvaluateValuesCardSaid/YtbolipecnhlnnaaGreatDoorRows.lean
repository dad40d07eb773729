/-
  NARROWER THAN 'FOR EVERY INPUT', by the rows' own cells (each row's printed sentence says how): MatexpLinear: laid · MatexpDiagonal: laid · MatexpDeterminant: laid · MatexpRotation: laid · EvaluateValues: loops, laid · EvaluateReplaces: loops, laid.
  DERIVED. THE GIVEN ROWS OF THIS SEAT. 6 by the template 'for every input the law returns true; each argument reads behind the call as it read before'; 0 by the template 'total and deterministic' (their statements: YtbolipecnhlnnaaGreatDoorTotals.lean).
  GIVEN WITH THE SEED: the statements are not yours to turn. If you find one false, say at which input.
  Laid BY PROGRAM, IN A SANDBOX (cutbox-rows.mjs): the forced cells as the released guide's own fill.sh prints them over the translation 3683e07b449c311b… (all of the seat's roots in one cut). By AI agents, Wed Nov 11 2026. No macro, syntax, notation, axiom, sorry.
-/
import Derived.Test.YtbolipecnhlnnaaGreatDoorChecked
import GoSem.Claim
import GoSem.ClaimJoined
import GoSem.ClaimMapViews
import Derived.JoinedTies
import Derived.KernelRfl
namespace Go.Proofs.YtbolipecnhlnnaaGreatDoor
/- THE CELL 'sum', in the pinned program and in every row, IS THE sha256 OF THE DUMP (.gsa) THAT YtbolipecnhlnnaaGreatDoorProg.lean LOADS. Nothing in Lean hashes anything: it is a label: what it is worth is what the hold of that sum in a sandbox is worth. -/
noncomputable def Tryz.pinned : Pinned := { name := "ytbolipecnhlnnaagreatdoor", sum := "3683e07b449c311b9073e2e07b86743995e7bb3906d73b45be347809aaeb23a8", checked := Tryz.checked }
namespace Rows
def none {H : Type} : Left H := { results := [], args := [] }

/- WHAT THE LISTED PACKAGE-LEVEL VARIABLES READ AS WHEN THE CALL BEGINS. Each datum BY PROGRAM (the guide's laid-datum.mjs) off the statement by which the dump's own 'gosem.cut.vars' lays the variable. In a bare row this is a premise. The card (YtbolipecnhlnnaaGreatDoorCards.lean) ties it to the program's text. -/
def laid_math_bits_deBruijn32tab {H : Type} : DataW H := .agg [.lit (.int .u8 0), .lit (.int .u8 1), .lit (.int .u8 28), .lit (.int .u8 2), .lit (.int .u8 29), .lit (.int .u8 14), .lit (.int .u8 24), .lit (.int .u8 3), .lit (.int .u8 30), .lit (.int .u8 22), .lit (.int .u8 20), .lit (.int .u8 15), .lit (.int .u8 25), .lit (.int .u8 17), .lit (.int .u8 4), .lit (.int .u8 8), .lit (.int .u8 31), .lit (.int .u8 27), .lit (.int .u8 13), .lit (.int .u8 23), .lit (.int .u8 21), .lit (.int .u8 19), .lit (.int .u8 16), .lit (.int .u8 7), .lit (.int .u8 26), .lit (.int .u8 12), .lit (.int .u8 18), .lit (.int .u8 6), .lit (.int .u8 11), .lit (.int .u8 5), .lit (.int .u8 10), .lit (.int .u8 9)]

/-- 'flowpipelaw38.MatexpLinear': WHATEVER THE INPUT: true; the input reads as it did. -/
def matexpLinearSpec : ChangeSpec := { name := "matexpLinear", fn := fun _ => fun
  | [d1, d2, d3, d4, d5, d6] => { results := [.lit (.bool true)], args := [d1, d2, d3, d4, d5, d6] }
  | _ => none }
def matexpLinearRow : OpenClaim := { program := "ytbolipecnhlnnaagreatdoor", sum := "3683e07b449c311b9073e2e07b86743995e7bb3906d73b45be347809aaeb23a8", func := "flowpipe/flowpipelaw38.MatexpLinear", spec := "matexpLinear", unfollowed := true, recurses := true, named := ["math/bits.deBruijn32tab", "math/bits.overflowError"], apart := false, laid := [("math/bits.deBruijn32tab", laid_math_bits_deBruijn32tab)] }
def MatexpLinearSaid : Prop := matexpLinearRow.holds Tryz.pinned (OpenSpec.ofChange matexpLinearSpec)

/-- ITS FALSE NEIGHBOUR: 'it returns false'. Refute it at one input. -/
def matexpLinearWrong : ChangeSpec := { name := "matexpLinear", fn := fun _ => fun
  | [d1, d2, d3, d4, d5, d6] => { results := [.lit (.bool false)], args := [d1, d2, d3, d4, d5, d6] }
  | _ => none }
def MatexpLinearWrongFalsely : Prop := matexpLinearRow.holds Tryz.pinned (OpenSpec.ofChange matexpLinearWrong)

/-- 'flowpipelaw38.MatexpDiagonal': WHATEVER THE INPUT: true; the input reads as it did. -/
def matexpDiagonalSpec : ChangeSpec := { name := "matexpDiagonal", fn := fun _ => fun
  | [d1, d2, d3] => { results := [.lit (.bool true)], args := [d1, d2, d3] }
  | _ => none }
def matexpDiagonalRow : OpenClaim := { program := "ytbolipecnhlnnaagreatdoor", sum := "3683e07b449c311b9073e2e07b86743995e7bb3906d73b45be347809aaeb23a8", func := "flowpipe/flowpipelaw38.MatexpDiagonal", spec := "matexpDiagonal", unfollowed := true, recurses := true, named := ["math/bits.deBruijn32tab", "math/bits.overflowError"], apart := false, laid := [("math/bits.deBruijn32tab", laid_math_bits_deBruijn32tab)] }
def MatexpDiagonalSaid : Prop := matexpDiagonalRow.holds Tryz.pinned (OpenSpec.ofChange matexpDiagonalSpec)

/-- ITS FALSE NEIGHBOUR: 'it returns false'. Refute it at one input. -/
def matexpDiagonalWrong : ChangeSpec := { name := "matexpDiagonal", fn := fun _ => fun
  | [d1, d2, d3] => { results := [.lit (.bool false)], args := [d1, d2, d3] }
  | _ => none }
def MatexpDiagonalWrongFalsely : Prop := matexpDiagonalRow.holds Tryz.pinned (OpenSpec.ofChange matexpDiagonalWrong)

/-- 'flowpipelaw38.MatexpDeterminant': WHATEVER THE INPUT: true; the input reads as it did. -/
def matexpDeterminantSpec : ChangeSpec := { name := "matexpDeterminant", fn := fun _ => fun
  | [d1, d2, d3] => { results := [.lit (.bool true)], args := [d1, d2, d3] }
  | _ => none }
def matexpDeterminantRow : OpenClaim := { program := "ytbolipecnhlnnaagreatdoor", sum := "3683e07b449c311b9073e2e07b86743995e7bb3906d73b45be347809aaeb23a8", func := "flowpipe/flowpipelaw38.MatexpDeterminant", spec := "matexpDeterminant", unfollowed := true, recurses := true, named := ["math/bits.deBruijn32tab", "math/bits.overflowError"], apart := false, laid := [("math/bits.deBruijn32tab", laid_math_bits_deBruijn32tab)] }
def MatexpDeterminantSaid : Prop := matexpDeterminantRow.holds Tryz.pinned (OpenSpec.ofChange matexpDeterminantSpec)

/-- ITS FALSE NEIGHBOUR: 'it returns false'. Refute it at one input. -/
def matexpDeterminantWrong : ChangeSpec := { name := "matexpDeterminant", fn := fun _ => fun
  | [d1, d2, d3] => { results := [.lit (.bool false)], args := [d1, d2, d3] }
  | _ => none }
def MatexpDeterminantWrongFalsely : Prop := matexpDeterminantRow.holds Tryz.pinned (OpenSpec.ofChange matexpDeterminantWrong)

/-- 'flowpipelaw38.MatexpRotation': WHATEVER THE INPUT: true; the input reads as it did. -/
def matexpRotationSpec : ChangeSpec := { name := "matexpRotation", fn := fun _ => fun
  | [d1, d2, d3] => { results := [.lit (.bool true)], args := [d1, d2, d3] }
  | _ => none }
def matexpRotationRow : OpenClaim := { program := "ytbolipecnhlnnaagreatdoor", sum := "3683e07b449c311b9073e2e07b86743995e7bb3906d73b45be347809aaeb23a8", func := "flowpipe/flowpipelaw38.MatexpRotation", spec := "matexpRotation", unfollowed := true, recurses := true, named := ["math/bits.deBruijn32tab", "math/bits.overflowError"], apart := false, laid := [("math/bits.deBruijn32tab", laid_math_bits_deBruijn32tab)] }
def MatexpRotationSaid : Prop := matexpRotationRow.holds Tryz.pinned (OpenSpec.ofChange matexpRotationSpec)

/-- ITS FALSE NEIGHBOUR: 'it returns false'. Refute it at one input. -/
def matexpRotationWrong : ChangeSpec := { name := "matexpRotation", fn := fun _ => fun
  | [d1, d2, d3] => { results := [.lit (.bool false)], args := [d1, d2, d3] }
  | _ => none }
def MatexpRotationWrongFalsely : Prop := matexpRotationRow.holds Tryz.pinned (OpenSpec.ofChange matexpRotationWrong)

/-- 'flowpipelaw17.EvaluateValues': WHATEVER THE INPUT: true; the input reads as it did. -/
def evaluateValuesSpec : ChangeSpec := { name := "evaluateValues", fn := fun _ => fun
  | [d1, d2, d3, d4] => { results := [.lit (.bool true)], args := [d1, d2, d3, d4] }
  | _ => none }
def evaluateValuesRow : OpenClaim := { program := "ytbolipecnhlnnaagreatdoor", sum := "3683e07b449c311b9073e2e07b86743995e7bb3906d73b45be347809aaeb23a8", func := "flowpipe/flowpipelaw17.EvaluateValues", spec := "evaluateValues", inPlace := ["internal/bytealg.IndexByteString"], unfollowed := true, recurses := true, named := ["math/bits.deBruijn32tab", "math/bits.overflowError"], loops := true, apart := false, laid := [("math/bits.deBruijn32tab", laid_math_bits_deBruijn32tab)] }
def EvaluateValuesSaid : Prop := evaluateValuesRow.holds Tryz.pinned (OpenSpec.ofChange evaluateValuesSpec)

/-- ITS FALSE NEIGHBOUR: 'it returns false'. Refute it at one input. -/
def evaluateValuesWrong : ChangeSpec := { name := "evaluateValues", fn := fun _ => fun
  | [d1, d2, d3, d4] => { results := [.lit (.bool false)], args := [d1, d2, d3, d4] }
  | _ => none }
def EvaluateValuesWrongFalsely : Prop := evaluateValuesRow.holds Tryz.pinned (OpenSpec.ofChange evaluateValuesWrong)

/-- 'flowpipelaw17.EvaluateReplaces': WHATEVER THE INPUT: true; the input reads as it did. -/
def evaluateReplacesSpec : ChangeSpec := { name := "evaluateReplaces", fn := fun _ => fun
  | [d1, d2, d3, d4, d5, d6] => { results := [.lit (.bool true)], args := [d1, d2, d3, d4, d5, d6] }
  | _ => none }
def evaluateReplacesRow : OpenClaim := { program := "ytbolipecnhlnnaagreatdoor", sum := "3683e07b449c311b9073e2e07b86743995e7bb3906d73b45be347809aaeb23a8", func := "flowpipe/flowpipelaw17.EvaluateReplaces", spec := "evaluateReplaces", inPlace := ["internal/bytealg.IndexByteString"], unfollowed := true, recurses := true, named := ["math/bits.deBruijn32tab", "math/bits.overflowError"], loops := true, apart := false, laid := [("math/bits.deBruijn32tab", laid_math_bits_deBruijn32tab)] }
def EvaluateReplacesSaid : Prop := evaluateReplacesRow.holds Tryz.pinned (OpenSpec.ofChange evaluateReplacesSpec)

/-- ITS FALSE NEIGHBOUR: 'it returns false'. Refute it at one input. -/
def evaluateReplacesWrong : ChangeSpec := { name := "evaluateReplaces", fn := fun _ => fun
  | [d1, d2, d3, d4, d5, d6] => { results := [.lit (.bool false)], args := [d1, d2, d3, d4, d5, d6] }
  | _ => none }
def EvaluateReplacesWrongFalsely : Prop := evaluateReplacesRow.holds Tryz.pinned (OpenSpec.ofChange evaluateReplacesWrong)

/- THE SECOND FORM. 'bulk': how many values and letters a reading holds, each counted each time it is reached (what is shared counts as often as it is met; a slice's spare places count too). A statement '..UptoSaid' is the law's where the arguments, and the package variables that the reading takes, are together of bulk at most 1048576: NARROWER than '..Said'. Prove '..Said' where nothing that the law and all that it calls make is longer than what came in: it says more and counts as full. Else prove '..UptoSaid'. A law counts once. -/
mutual
def uptoBulk {H : Type} : DataW H → Nat
  | .lit (.string bytes) => bytes.length + 1
  | .lit _ => 1
  | .nil => 1
  | .ptr d => uptoBulk d + 1
  | .slice elems spare => uptoBulkAll elems + uptoBulkAll spare + 1
  | .agg parts => uptoBulkAll parts + 1
  | .iface _ d => uptoBulk d + 1
  | .map entries => uptoBulkEntries entries + 1
  | .held _ => 1
def uptoBulkAll {H : Type} : List (DataW H) → Nat
  | [] => 0
  | d :: r => uptoBulk d + uptoBulkAll r
def uptoBulkEntries {H : Type} : List (Lit × DataW H) → Nat
  | [] => 0
  | x :: r => uptoBulkEntry x + uptoBulkEntries r
def uptoBulkEntry {H : Type} : Lit × DataW H → Nat
  | (.string bytes, d) => bytes.length + uptoBulk d + 1
  | (_, d) => uptoBulk d + 1
 end
def uptoSmall : (H : Type) → List (DataW H) → Bool := fun _ ds => decide (uptoBulkAll ds ≤ 1048576)
def OpenSpec.upto (s : _root_.Go.ChangeSpec) : _root_.Go.OpenSpec := { _root_.Go.OpenSpec.ofChange s with cond := some uptoSmall }

/-- 'flowpipelaw38.MatexpLinear', WHERE WHAT IT READS IS OF BULK AT MOST 1048576: true; the input reads as it did. -/
def matexpLinearUptoRow : OpenClaim := { program := "ytbolipecnhlnnaagreatdoor", sum := "3683e07b449c311b9073e2e07b86743995e7bb3906d73b45be347809aaeb23a8", func := "flowpipe/flowpipelaw38.MatexpLinear", spec := "matexpLinear", unfollowed := true, recurses := true, named := ["math/bits.deBruijn32tab", "math/bits.overflowError"], apart := false, laid := [("math/bits.deBruijn32tab", laid_math_bits_deBruijn32tab)], narrowed := true }
def MatexpLinearUptoSaid : Prop := matexpLinearUptoRow.holds Tryz.pinned (OpenSpec.upto matexpLinearSpec)

/-- 'flowpipelaw38.MatexpDiagonal', WHERE WHAT IT READS IS OF BULK AT MOST 1048576: true; the input reads as it did. -/
def matexpDiagonalUptoRow : OpenClaim := { program := "ytbolipecnhlnnaagreatdoor", sum := "3683e07b449c311b9073e2e07b86743995e7bb3906d73b45be347809aaeb23a8", func := "flowpipe/flowpipelaw38.MatexpDiagonal", spec := "matexpDiagonal", unfollowed := true, recurses := true, named := ["math/bits.deBruijn32tab", "math/bits.overflowError"], apart := false, laid := [("math/bits.deBruijn32tab", laid_math_bits_deBruijn32tab)], narrowed := true }
def MatexpDiagonalUptoSaid : Prop := matexpDiagonalUptoRow.holds Tryz.pinned (OpenSpec.upto matexpDiagonalSpec)

/-- 'flowpipelaw38.MatexpDeterminant', WHERE WHAT IT READS IS OF BULK AT MOST 1048576: true; the input reads as it did. -/
def matexpDeterminantUptoRow : OpenClaim := { program := "ytbolipecnhlnnaagreatdoor", sum := "3683e07b449c311b9073e2e07b86743995e7bb3906d73b45be347809aaeb23a8", func := "flowpipe/flowpipelaw38.MatexpDeterminant", spec := "matexpDeterminant", unfollowed := true, recurses := true, named := ["math/bits.deBruijn32tab", "math/bits.overflowError"], apart := false, laid := [("math/bits.deBruijn32tab", laid_math_bits_deBruijn32tab)], narrowed := true }
def MatexpDeterminantUptoSaid : Prop := matexpDeterminantUptoRow.holds Tryz.pinned (OpenSpec.upto matexpDeterminantSpec)

/-- 'flowpipelaw38.MatexpRotation', WHERE WHAT IT READS IS OF BULK AT MOST 1048576: true; the input reads as it did. -/
def matexpRotationUptoRow : OpenClaim := { program := "ytbolipecnhlnnaagreatdoor", sum := "3683e07b449c311b9073e2e07b86743995e7bb3906d73b45be347809aaeb23a8", func := "flowpipe/flowpipelaw38.MatexpRotation", spec := "matexpRotation", unfollowed := true, recurses := true, named := ["math/bits.deBruijn32tab", "math/bits.overflowError"], apart := false, laid := [("math/bits.deBruijn32tab", laid_math_bits_deBruijn32tab)], narrowed := true }
def MatexpRotationUptoSaid : Prop := matexpRotationUptoRow.holds Tryz.pinned (OpenSpec.upto matexpRotationSpec)

/-- 'flowpipelaw17.EvaluateValues', WHERE WHAT IT READS IS OF BULK AT MOST 1048576: true; the input reads as it did. -/
def evaluateValuesUptoRow : OpenClaim := { program := "ytbolipecnhlnnaagreatdoor", sum := "3683e07b449c311b9073e2e07b86743995e7bb3906d73b45be347809aaeb23a8", func := "flowpipe/flowpipelaw17.EvaluateValues", spec := "evaluateValues", inPlace := ["internal/bytealg.IndexByteString"], unfollowed := true, recurses := true, named := ["math/bits.deBruijn32tab", "math/bits.overflowError"], loops := true, apart := false, laid := [("math/bits.deBruijn32tab", laid_math_bits_deBruijn32tab)], narrowed := true }
def EvaluateValuesUptoSaid : Prop := evaluateValuesUptoRow.holds Tryz.pinned (OpenSpec.upto evaluateValuesSpec)

/-- 'flowpipelaw17.EvaluateReplaces', WHERE WHAT IT READS IS OF BULK AT MOST 1048576: true; the input reads as it did. -/
def evaluateReplacesUptoRow : OpenClaim := { program := "ytbolipecnhlnnaagreatdoor", sum := "3683e07b449c311b9073e2e07b86743995e7bb3906d73b45be347809aaeb23a8", func := "flowpipe/flowpipelaw17.EvaluateReplaces", spec := "evaluateReplaces", inPlace := ["internal/bytealg.IndexByteString"], unfollowed := true, recurses := true, named := ["math/bits.deBruijn32tab", "math/bits.overflowError"], loops := true, apart := false, laid := [("math/bits.deBruijn32tab", laid_math_bits_deBruijn32tab)], narrowed := true }
def EvaluateReplacesUptoSaid : Prop := evaluateReplacesUptoRow.holds Tryz.pinned (OpenSpec.upto evaluateReplacesSpec)

end Rows
end Go.Proofs.YtbolipecnhlnnaaGreatDoor
