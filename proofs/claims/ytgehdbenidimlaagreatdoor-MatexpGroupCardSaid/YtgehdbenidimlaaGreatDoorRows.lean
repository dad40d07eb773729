/-
  NARROWER THAN 'FOR EVERY INPUT', by the rows' own cells (each row's printed sentence says how): MatexpErrors: laid · MatexpLinear: laid · MatexpNilpotent: laid · MatexpGroup: laid.
  DERIVED. THE GIVEN ROWS OF THIS SEAT. 4 by the template 'for every input the law returns true; each argument reads behind the call as it read before'; 0 by the template 'total and deterministic' (their statements: YtgehdbenidimlaaGreatDoorTotals.lean).
  GIVEN WITH THE SEED: the statements are not yours to turn. If you find one false, say at which input.
  Laid BY PROGRAM, IN A SANDBOX (cutbox-rows.mjs): the forced cells as the released guide's own fill.sh prints them over the translation 569476f4a54d7b9a… (all of the seat's roots in one cut). By AI agents, Wed Nov 11 2026. No macro, syntax, notation, axiom, sorry.
-/
import Derived.Test.YtgehdbenidimlaaGreatDoorChecked
import GoSem.Claim
import GoSem.ClaimJoined
import GoSem.ClaimMapViews
import Derived.JoinedTies
import Derived.KernelRfl
namespace Go.Proofs.YtgehdbenidimlaaGreatDoor
/- THE CELL 'sum', in the pinned program and in every row, IS THE sha256 OF THE DUMP (.gsa) THAT YtgehdbenidimlaaGreatDoorProg.lean LOADS. Nothing in Lean hashes anything: it is a label: what it is worth is what the hold of that sum in a sandbox is worth. -/
noncomputable def Tryz.pinned : Pinned := { name := "ytgehdbenidimlaagreatdoor", sum := "569476f4a54d7b9af5eec189f898fe0e63bcbf653b413e304e0e9817fbc09116", checked := Tryz.checked }
namespace Rows
def none {H : Type} : Left H := { results := [], args := [] }

/- WHAT THE LISTED PACKAGE-LEVEL VARIABLES READ AS WHEN THE CALL BEGINS. Each datum BY PROGRAM (the guide's laid-datum.mjs) off the statement by which the dump's own 'gosem.cut.vars' lays the variable. In a bare row this is a premise. The card (YtgehdbenidimlaaGreatDoorCards.lean) ties it to the program's text. -/
def laid_math_bits_deBruijn32tab {H : Type} : DataW H := .agg [.lit (.int .u8 0), .lit (.int .u8 1), .lit (.int .u8 28), .lit (.int .u8 2), .lit (.int .u8 29), .lit (.int .u8 14), .lit (.int .u8 24), .lit (.int .u8 3), .lit (.int .u8 30), .lit (.int .u8 22), .lit (.int .u8 20), .lit (.int .u8 15), .lit (.int .u8 25), .lit (.int .u8 17), .lit (.int .u8 4), .lit (.int .u8 8), .lit (.int .u8 31), .lit (.int .u8 27), .lit (.int .u8 13), .lit (.int .u8 23), .lit (.int .u8 21), .lit (.int .u8 19), .lit (.int .u8 16), .lit (.int .u8 7), .lit (.int .u8 26), .lit (.int .u8 12), .lit (.int .u8 18), .lit (.int .u8 6), .lit (.int .u8 11), .lit (.int .u8 5), .lit (.int .u8 10), .lit (.int .u8 9)]

/-- 'flowpipelaw38.MatexpErrors': WHATEVER THE INPUT: true; the input reads as it did. -/
def matexpErrorsSpec : ChangeSpec := { name := "matexpErrors", fn := fun _ => fun
  | [d1, d2, d3, d4, d5] => { results := [.lit (.bool true)], args := [d1, d2, d3, d4, d5] }
  | _ => none }
def matexpErrorsRow : OpenClaim := { program := "ytgehdbenidimlaagreatdoor", sum := "569476f4a54d7b9af5eec189f898fe0e63bcbf653b413e304e0e9817fbc09116", func := "flowpipe/flowpipelaw38.MatexpErrors", spec := "matexpErrors", unfollowed := true, recurses := true, named := ["math/bits.deBruijn32tab", "math/bits.overflowError"], apart := false, laid := [("math/bits.deBruijn32tab", laid_math_bits_deBruijn32tab)] }
def MatexpErrorsSaid : Prop := matexpErrorsRow.holds Tryz.pinned (OpenSpec.ofChange matexpErrorsSpec)

/-- ITS FALSE NEIGHBOUR: 'it returns false'. Refute it at one input. -/
def matexpErrorsWrong : ChangeSpec := { name := "matexpErrors", fn := fun _ => fun
  | [d1, d2, d3, d4, d5] => { results := [.lit (.bool false)], args := [d1, d2, d3, d4, d5] }
  | _ => none }
def MatexpErrorsWrongFalsely : Prop := matexpErrorsRow.holds Tryz.pinned (OpenSpec.ofChange matexpErrorsWrong)

/-- 'flowpipelaw38.MatexpLinear': WHATEVER THE INPUT: true; the input reads as it did. -/
def matexpLinearSpec : ChangeSpec := { name := "matexpLinear", fn := fun _ => fun
  | [d1, d2, d3, d4, d5, d6] => { results := [.lit (.bool true)], args := [d1, d2, d3, d4, d5, d6] }
  | _ => none }
def matexpLinearRow : OpenClaim := { program := "ytgehdbenidimlaagreatdoor", sum := "569476f4a54d7b9af5eec189f898fe0e63bcbf653b413e304e0e9817fbc09116", func := "flowpipe/flowpipelaw38.MatexpLinear", spec := "matexpLinear", unfollowed := true, recurses := true, named := ["math/bits.deBruijn32tab", "math/bits.overflowError"], apart := false, laid := [("math/bits.deBruijn32tab", laid_math_bits_deBruijn32tab)] }
def MatexpLinearSaid : Prop := matexpLinearRow.holds Tryz.pinned (OpenSpec.ofChange matexpLinearSpec)

/-- ITS FALSE NEIGHBOUR: 'it returns false'. Refute it at one input. -/
def matexpLinearWrong : ChangeSpec := { name := "matexpLinear", fn := fun _ => fun
  | [d1, d2, d3, d4, d5, d6] => { results := [.lit (.bool false)], args := [d1, d2, d3, d4, d5, d6] }
  | _ => none }
def MatexpLinearWrongFalsely : Prop := matexpLinearRow.holds Tryz.pinned (OpenSpec.ofChange matexpLinearWrong)

/-- 'flowpipelaw38.MatexpNilpotent': WHATEVER THE INPUT: true; the input reads as it did. -/
def matexpNilpotentSpec : ChangeSpec := { name := "matexpNilpotent", fn := fun _ => fun
  | [d1, d2, d3, d4, d5] => { results := [.lit (.bool true)], args := [d1, d2, d3, d4, d5] }
  | _ => none }
def matexpNilpotentRow : OpenClaim := { program := "ytgehdbenidimlaagreatdoor", sum := "569476f4a54d7b9af5eec189f898fe0e63bcbf653b413e304e0e9817fbc09116", func := "flowpipe/flowpipelaw38.MatexpNilpotent", spec := "matexpNilpotent", unfollowed := true, recurses := true, named := ["math/bits.deBruijn32tab", "math/bits.overflowError"], apart := false, laid := [("math/bits.deBruijn32tab", laid_math_bits_deBruijn32tab)] }
def MatexpNilpotentSaid : Prop := matexpNilpotentRow.holds Tryz.pinned (OpenSpec.ofChange matexpNilpotentSpec)

/-- ITS FALSE NEIGHBOUR: 'it returns false'. Refute it at one input. -/
def matexpNilpotentWrong : ChangeSpec := { name := "matexpNilpotent", fn := fun _ => fun
  | [d1, d2, d3, d4, d5] => { results := [.lit (.bool false)], args := [d1, d2, d3, d4, d5] }
  | _ => none }
def MatexpNilpotentWrongFalsely : Prop := matexpNilpotentRow.holds Tryz.pinned (OpenSpec.ofChange matexpNilpotentWrong)

/-- 'flowpipelaw38.MatexpGroup': WHATEVER THE INPUT: true; the input reads as it did. -/
def matexpGroupSpec : ChangeSpec := { name := "matexpGroup", fn := fun _ => fun
  | [d1, d2, d3, d4] => { results := [.lit (.bool true)], args := [d1, d2, d3, d4] }
  | _ => none }
def matexpGroupRow : OpenClaim := { program := "ytgehdbenidimlaagreatdoor", sum := "569476f4a54d7b9af5eec189f898fe0e63bcbf653b413e304e0e9817fbc09116", func := "flowpipe/flowpipelaw38.MatexpGroup", spec := "matexpGroup", unfollowed := true, recurses := true, named := ["math/bits.deBruijn32tab", "math/bits.overflowError"], apart := false, laid := [("math/bits.deBruijn32tab", laid_math_bits_deBruijn32tab)] }
def MatexpGroupSaid : Prop := matexpGroupRow.holds Tryz.pinned (OpenSpec.ofChange matexpGroupSpec)

/-- ITS FALSE NEIGHBOUR: 'it returns false'. Refute it at one input. -/
def matexpGroupWrong : ChangeSpec := { name := "matexpGroup", fn := fun _ => fun
  | [d1, d2, d3, d4] => { results := [.lit (.bool false)], args := [d1, d2, d3, d4] }
  | _ => none }
def MatexpGroupWrongFalsely : Prop := matexpGroupRow.holds Tryz.pinned (OpenSpec.ofChange matexpGroupWrong)

/- THE SECOND FORM. 'bulk': how many values and letters a reading holds, each counted each time it is reached (what is shared counts as often as it is met; a slice's spare places count too). A statement '..UptoSaid' is the law's where the arguments, and the package variables that the reading takes, are together of bulk at most 1048576: NARROWER than '..Said'. Prove '..Said' where nothing that the law and all that it calls make is longer than what came in: it says more and counts as full. Else prove '..UptoSaid'. A law counts once. -/
mutual
def uptoBulk {H : Type} : DataW H → Nat
  | .lit (.string bytes) => bytes.length + 1
  | .lit _ => 1
  | .nil => 1
  | .ptr d => uptoBulk d + 1
  | .slice elems spare => uptoBulkAll elems + uptoBulkAll spare + 1
  | .agg parts => uptoBulkAll parts + 1
  | .iface _ d => uptoBulk d + 1
  | .map entries => uptoBulkEntries entries + 1
  | .held _ => 1
def uptoBulkAll {H : Type} : List (DataW H) → Nat
  | [] => 0
  | d :: r => uptoBulk d + uptoBulkAll r
def uptoBulkEntries {H : Type} : List (Lit × DataW H) → Nat
  | [] => 0
  | x :: r => uptoBulkEntry x + uptoBulkEntries r
def uptoBulkEntry {H : Type} : Lit × DataW H → Nat
  | (.string bytes, d) => bytes.length + uptoBulk d + 1
  | (_, d) => uptoBulk d + 1
 end
def uptoSmall : (H : Type) → List (DataW H) → Bool := fun _ ds => decide (uptoBulkAll ds ≤ 1048576)
def OpenSpec.upto (s : _root_.Go.ChangeSpec) : _root_.Go.OpenSpec := { _root_.Go.OpenSpec.ofChange s with cond := some uptoSmall }

/-- 'flowpipelaw38.MatexpErrors', WHERE WHAT IT READS IS OF BULK AT MOST 1048576: true; the input reads as it did. -/
def matexpErrorsUptoRow : OpenClaim := { program := "ytgehdbenidimlaagreatdoor", sum := "569476f4a54d7b9af5eec189f898fe0e63bcbf653b413e304e0e9817fbc09116", func := "flowpipe/flowpipelaw38.MatexpErrors", spec := "matexpErrors", unfollowed := true, recurses := true, named := ["math/bits.deBruijn32tab", "math/bits.overflowError"], apart := false, laid := [("math/bits.deBruijn32tab", laid_math_bits_deBruijn32tab)], narrowed := true }
def MatexpErrorsUptoSaid : Prop := matexpErrorsUptoRow.holds Tryz.pinned (OpenSpec.upto matexpErrorsSpec)

/-- 'flowpipelaw38.MatexpLinear', WHERE WHAT IT READS IS OF BULK AT MOST 1048576: true; the input reads as it did. -/
def matexpLinearUptoRow : OpenClaim := { program := "ytgehdbenidimlaagreatdoor", sum := "569476f4a54d7b9af5eec189f898fe0e63bcbf653b413e304e0e9817fbc09116", func := "flowpipe/flowpipelaw38.MatexpLinear", spec := "matexpLinear", unfollowed := true, recurses := true, named := ["math/bits.deBruijn32tab", "math/bits.overflowError"], apart := false, laid := [("math/bits.deBruijn32tab", laid_math_bits_deBruijn32tab)], narrowed := true }
def MatexpLinearUptoSaid : Prop := matexpLinearUptoRow.holds Tryz.pinned (OpenSpec.upto matexpLinearSpec)

/-- 'flowpipelaw38.MatexpNilpotent', WHERE WHAT IT READS IS OF BULK AT MOST 1048576: true; the input reads as it did. -/
def matexpNilpotentUptoRow : OpenClaim := { program := "ytgehdbenidimlaagreatdoor", sum := "569476f4a54d7b9af5eec189f898fe0e63bcbf653b413e304e0e9817fbc09116", func := "flowpipe/flowpipelaw38.MatexpNilpotent", spec := "matexpNilpotent", unfollowed := true, recurses := true, named := ["math/bits.deBruijn32tab", "math/bits.overflowError"], apart := false, laid := [("math/bits.deBruijn32tab", laid_math_bits_deBruijn32tab)], narrowed := true }
def MatexpNilpotentUptoSaid : Prop := matexpNilpotentUptoRow.holds Tryz.pinned (OpenSpec.upto matexpNilpotentSpec)

/-- 'flowpipelaw38.MatexpGroup', WHERE WHAT IT READS IS OF BULK AT MOST 1048576: true; the input reads as it did. -/
def matexpGroupUptoRow : OpenClaim := { program := "ytgehdbenidimlaagreatdoor", sum := "569476f4a54d7b9af5eec189f898fe0e63bcbf653b413e304e0e9817fbc09116", func := "flowpipe/flowpipelaw38.MatexpGroup", spec := "matexpGroup", unfollowed := true, recurses := true, named := ["math/bits.deBruijn32tab", "math/bits.overflowError"], apart := false, laid := [("math/bits.deBruijn32tab", laid_math_bits_deBruijn32tab)], narrowed := true }
def MatexpGroupUptoSaid : Prop := matexpGroupUptoRow.holds Tryz.pinned (OpenSpec.upto matexpGroupSpec)

end Rows
end Go.Proofs.YtgehdbenidimlaaGreatDoor
