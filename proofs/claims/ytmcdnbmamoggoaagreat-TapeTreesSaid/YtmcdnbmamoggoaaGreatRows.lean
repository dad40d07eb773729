/-
  NARROWER THAN 'FOR EVERY INPUT', by the rows' own cells (each row's printed sentence says how): TapeCompiles: loops.
  DERIVED. THE GIVEN ROWS OF THIS SEAT. 2 by the template 'for every input the law returns true; each argument reads behind the call as it read before'; 0 by the template 'total and deterministic' (their statements: YtmcdnbmamoggoaaGreatTotals.lean).
  GIVEN WITH THE SEED: the statements are not yours to turn. If you find one false, say at which input.
  Laid BY PROGRAM, IN A SANDBOX (cutbox-rows.mjs): the forced cells as the released guide's own fill.sh prints them over the translation dfa6dea8a648b4ac… (all of the seat's roots in one cut). By AI agents, Wed Nov 11 2026. No macro, syntax, notation, axiom, sorry.
-/
import Derived.Test.YtmcdnbmamoggoaaGreatChecked
import GoSem.Claim
import GoSem.ClaimJoined
import GoSem.ClaimMapViews
import Derived.JoinedTies
import Derived.KernelRfl
namespace Go.Proofs.YtmcdnbmamoggoaaGreat
/- THE CELL 'sum', in the pinned program and in every row, IS THE sha256 OF THE DUMP (.gsa) THAT YtmcdnbmamoggoaaGreatProg.lean LOADS. Nothing in Lean hashes anything: it is a label: what it is worth is what the hold of that sum in a sandbox is worth. -/
noncomputable def Tryz.pinned : Pinned := { name := "ytmcdnbmamoggoaagreat", sum := "dfa6dea8a648b4ac21e183783c1f6be9ceca9334f0823e585947326c29a06e2f", checked := Tryz.checked }
namespace Rows
def none {H : Type} : Left H := { results := [], args := [] }

/-- 'flowpipelaw19.TapeCompiles': WHATEVER THE INPUT: true; the input reads as it did. -/
def tapeCompilesSpec : ChangeSpec := { name := "tapeCompiles", fn := fun _ => fun
  | [d1, d2] => { results := [.lit (.bool true)], args := [d1, d2] }
  | _ => none }
def tapeCompilesRow : OpenClaim := { program := "ytmcdnbmamoggoaagreat", sum := "dfa6dea8a648b4ac21e183783c1f6be9ceca9334f0823e585947326c29a06e2f", func := "flowpipe/flowpipelaw19.TapeCompiles", spec := "tapeCompiles", inPlace := ["internal/bytealg.IndexByteString"], unfollowed := true, recurses := true, loops := true, plainKeys := false, apart := false }
def TapeCompilesSaid : Prop := tapeCompilesRow.holds Tryz.pinned (OpenSpec.ofChange tapeCompilesSpec)

/-- ITS FALSE NEIGHBOUR: 'it returns false'. Refute it at one input. -/
def tapeCompilesWrong : ChangeSpec := { name := "tapeCompiles", fn := fun _ => fun
  | [d1, d2] => { results := [.lit (.bool false)], args := [d1, d2] }
  | _ => none }
def TapeCompilesWrongFalsely : Prop := tapeCompilesRow.holds Tryz.pinned (OpenSpec.ofChange tapeCompilesWrong)

/-- 'flowpipelaw19.TapeTrees': WHATEVER THE INPUT: true; the input reads as it did. -/
def tapeTreesSpec : ChangeSpec := { name := "tapeTrees", fn := fun _ => fun
  | [d1, d2, d3] => { results := [.lit (.bool true)], args := [d1, d2, d3] }
  | _ => none }
def tapeTreesRow : OpenClaim := { program := "ytmcdnbmamoggoaagreat", sum := "dfa6dea8a648b4ac21e183783c1f6be9ceca9334f0823e585947326c29a06e2f", func := "flowpipe/flowpipelaw19.TapeTrees", spec := "tapeTrees", inPlace := ["internal/bytealg.IndexByteString"], unfollowed := true, recurses := true, plainKeys := false, apart := false }
def TapeTreesSaid : Prop := tapeTreesRow.holds Tryz.pinned (OpenSpec.ofChange tapeTreesSpec)

/-- ITS FALSE NEIGHBOUR: 'it returns false'. Refute it at one input. -/
def tapeTreesWrong : ChangeSpec := { name := "tapeTrees", fn := fun _ => fun
  | [d1, d2, d3] => { results := [.lit (.bool false)], args := [d1, d2, d3] }
  | _ => none }
def TapeTreesWrongFalsely : Prop := tapeTreesRow.holds Tryz.pinned (OpenSpec.ofChange tapeTreesWrong)

/- THE SECOND FORM. 'bulk': how many values and letters a reading holds, each counted each time it is reached (what is shared counts as often as it is met; a slice's spare places count too). A statement '..UptoSaid' is the law's where the arguments, and the package variables that the reading takes, are together of bulk at most 1048576: NARROWER than '..Said'. Prove '..Said' where nothing that the law and all that it calls make is longer than what came in: it says more and counts as full. Else prove '..UptoSaid'. A law counts once. -/
mutual
def uptoBulk {H : Type} : DataW H → Nat
  | .lit (.string bytes) => bytes.length + 1
  | .lit _ => 1
  | .nil => 1
  | .ptr d => uptoBulk d + 1
  | .slice elems spare => uptoBulkAll elems + uptoBulkAll spare + 1
  | .agg parts => uptoBulkAll parts + 1
  | .iface _ d => uptoBulk d + 1
  | .map entries => uptoBulkEntries entries + 1
  | .held _ => 1
def uptoBulkAll {H : Type} : List (DataW H) → Nat
  | [] => 0
  | d :: r => uptoBulk d + uptoBulkAll r
def uptoBulkEntries {H : Type} : List (Lit × DataW H) → Nat
  | [] => 0
  | x :: r => uptoBulkEntry x + uptoBulkEntries r
def uptoBulkEntry {H : Type} : Lit × DataW H → Nat
  | (.string bytes, d) => bytes.length + uptoBulk d + 1
  | (_, d) => uptoBulk d + 1
 end
def uptoSmall : (H : Type) → List (DataW H) → Bool := fun _ ds => decide (uptoBulkAll ds ≤ 1048576)
def OpenSpec.upto (s : _root_.Go.ChangeSpec) : _root_.Go.OpenSpec := { _root_.Go.OpenSpec.ofChange s with cond := some uptoSmall }

/-- 'flowpipelaw19.TapeCompiles', WHERE WHAT IT READS IS OF BULK AT MOST 1048576: true; the input reads as it did. -/
def tapeCompilesUptoRow : OpenClaim := { program := "ytmcdnbmamoggoaagreat", sum := "dfa6dea8a648b4ac21e183783c1f6be9ceca9334f0823e585947326c29a06e2f", func := "flowpipe/flowpipelaw19.TapeCompiles", spec := "tapeCompiles", inPlace := ["internal/bytealg.IndexByteString"], unfollowed := true, recurses := true, loops := true, plainKeys := false, apart := false, narrowed := true }
def TapeCompilesUptoSaid : Prop := tapeCompilesUptoRow.holds Tryz.pinned (OpenSpec.upto tapeCompilesSpec)

/-- 'flowpipelaw19.TapeTrees', WHERE WHAT IT READS IS OF BULK AT MOST 1048576: true; the input reads as it did. -/
def tapeTreesUptoRow : OpenClaim := { program := "ytmcdnbmamoggoaagreat", sum := "dfa6dea8a648b4ac21e183783c1f6be9ceca9334f0823e585947326c29a06e2f", func := "flowpipe/flowpipelaw19.TapeTrees", spec := "tapeTrees", inPlace := ["internal/bytealg.IndexByteString"], unfollowed := true, recurses := true, plainKeys := false, apart := false, narrowed := true }
def TapeTreesUptoSaid : Prop := tapeTreesUptoRow.holds Tryz.pinned (OpenSpec.upto tapeTreesSpec)

end Rows
end Go.Proofs.YtmcdnbmamoggoaaGreat
