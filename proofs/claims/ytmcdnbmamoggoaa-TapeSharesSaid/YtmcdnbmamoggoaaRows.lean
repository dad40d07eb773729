/-
  NARROWER THAN 'FOR EVERY INPUT', by the rows' own cells (each row's printed sentence says how): DeriveDiffs: loops · DerivePolynomials: loops · DeriveSimplifies: loops · DeriveLinear: loops · DeriveGradients: loops · TapeShares: loops · TapeBack: loops · DeriveKeeps: loops · DeriveDual: loops · DeriveTaylor: loops.
  DERIVED. THE GIVEN ROWS OF THIS SEAT. 11 by the template 'for every input the law returns true; each argument reads behind the call as it read before'; 0 by the template 'total and deterministic' (their statements: YtmcdnbmamoggoaaTotals.lean).
  GIVEN WITH THE SEED: the statements are not yours to turn. If you find one false, say at which input.
  Laid BY PROGRAM, IN A SANDBOX (cutbox-rows.mjs): the forced cells as the released guide's own fill.sh prints them over the translation 10bd37f7ad9f4083… (all of the seat's roots in one cut). By AI agents, Wed Nov 11 2026. No macro, syntax, notation, axiom, sorry.
-/
import Derived.Test.YtmcdnbmamoggoaaChecked
import GoSem.Claim
import GoSem.ClaimJoined
import GoSem.ClaimMapViews
import Derived.JoinedTies
import Derived.KernelRfl
namespace Go.Proofs.Ytmcdnbmamoggoaa
/- THE CELL 'sum', in the pinned program and in every row, IS THE sha256 OF THE DUMP (.gsa) THAT YtmcdnbmamoggoaaProg.lean LOADS. Nothing in Lean hashes anything: it is a label: what it is worth is what the hold of that sum in a sandbox is worth. -/
noncomputable def Try.pinned : Pinned := { name := "ytmcdnbmamoggoaa", sum := "10bd37f7ad9f40835dccd245ba95afa2a1824479fcb667325e9ab19c9f93f499", checked := Try.checked }
namespace Rows
def none {H : Type} : Left H := { results := [], args := [] }

/-- 'flowpipelaw18.DeriveDiffs': WHATEVER THE INPUT: true; the input reads as it did. -/
def deriveDiffsSpec : ChangeSpec := { name := "deriveDiffs", fn := fun _ => fun
  | [d1, d2] => { results := [.lit (.bool true)], args := [d1, d2] }
  | _ => none }
def deriveDiffsRow : OpenClaim := { program := "ytmcdnbmamoggoaa", sum := "10bd37f7ad9f40835dccd245ba95afa2a1824479fcb667325e9ab19c9f93f499", func := "flowpipe/flowpipelaw18.DeriveDiffs", spec := "deriveDiffs", inPlace := ["internal/bytealg.IndexByteString"], unfollowed := true, recurses := true, loops := true, plainKeys := false, apart := false }
def DeriveDiffsSaid : Prop := deriveDiffsRow.holds Try.pinned (OpenSpec.ofChange deriveDiffsSpec)

/-- ITS FALSE NEIGHBOUR: 'it returns false'. Refute it at one input. -/
def deriveDiffsWrong : ChangeSpec := { name := "deriveDiffs", fn := fun _ => fun
  | [d1, d2] => { results := [.lit (.bool false)], args := [d1, d2] }
  | _ => none }
def DeriveDiffsWrongFalsely : Prop := deriveDiffsRow.holds Try.pinned (OpenSpec.ofChange deriveDiffsWrong)

/-- 'flowpipelaw18.DerivePolynomials': WHATEVER THE INPUT: true; the input reads as it did. -/
def derivePolynomialsSpec : ChangeSpec := { name := "derivePolynomials", fn := fun _ => fun
  | [d1, d2] => { results := [.lit (.bool true)], args := [d1, d2] }
  | _ => none }
def derivePolynomialsRow : OpenClaim := { program := "ytmcdnbmamoggoaa", sum := "10bd37f7ad9f40835dccd245ba95afa2a1824479fcb667325e9ab19c9f93f499", func := "flowpipe/flowpipelaw18.DerivePolynomials", spec := "derivePolynomials", inPlace := ["internal/bytealg.IndexByteString"], unfollowed := true, recurses := true, loops := true, plainKeys := false, apart := false }
def DerivePolynomialsSaid : Prop := derivePolynomialsRow.holds Try.pinned (OpenSpec.ofChange derivePolynomialsSpec)

/-- ITS FALSE NEIGHBOUR: 'it returns false'. Refute it at one input. -/
def derivePolynomialsWrong : ChangeSpec := { name := "derivePolynomials", fn := fun _ => fun
  | [d1, d2] => { results := [.lit (.bool false)], args := [d1, d2] }
  | _ => none }
def DerivePolynomialsWrongFalsely : Prop := derivePolynomialsRow.holds Try.pinned (OpenSpec.ofChange derivePolynomialsWrong)

/-- 'flowpipelaw18.DeriveSimplifies': WHATEVER THE INPUT: true; the input reads as it did. -/
def deriveSimplifiesSpec : ChangeSpec := { name := "deriveSimplifies", fn := fun _ => fun
  | [d1, d2] => { results := [.lit (.bool true)], args := [d1, d2] }
  | _ => none }
def deriveSimplifiesRow : OpenClaim := { program := "ytmcdnbmamoggoaa", sum := "10bd37f7ad9f40835dccd245ba95afa2a1824479fcb667325e9ab19c9f93f499", func := "flowpipe/flowpipelaw18.DeriveSimplifies", spec := "deriveSimplifies", inPlace := ["internal/bytealg.IndexByteString"], unfollowed := true, recurses := true, loops := true, plainKeys := false, apart := false }
def DeriveSimplifiesSaid : Prop := deriveSimplifiesRow.holds Try.pinned (OpenSpec.ofChange deriveSimplifiesSpec)

/-- ITS FALSE NEIGHBOUR: 'it returns false'. Refute it at one input. -/
def deriveSimplifiesWrong : ChangeSpec := { name := "deriveSimplifies", fn := fun _ => fun
  | [d1, d2] => { results := [.lit (.bool false)], args := [d1, d2] }
  | _ => none }
def DeriveSimplifiesWrongFalsely : Prop := deriveSimplifiesRow.holds Try.pinned (OpenSpec.ofChange deriveSimplifiesWrong)

/-- 'flowpipelaw18.DeriveLinear': WHATEVER THE INPUT: true; the input reads as it did. -/
def deriveLinearSpec : ChangeSpec := { name := "deriveLinear", fn := fun _ => fun
  | [d1, d2, d3] => { results := [.lit (.bool true)], args := [d1, d2, d3] }
  | _ => none }
def deriveLinearRow : OpenClaim := { program := "ytmcdnbmamoggoaa", sum := "10bd37f7ad9f40835dccd245ba95afa2a1824479fcb667325e9ab19c9f93f499", func := "flowpipe/flowpipelaw18.DeriveLinear", spec := "deriveLinear", inPlace := ["internal/bytealg.IndexByteString"], unfollowed := true, recurses := true, loops := true, plainKeys := false, apart := false }
def DeriveLinearSaid : Prop := deriveLinearRow.holds Try.pinned (OpenSpec.ofChange deriveLinearSpec)

/-- ITS FALSE NEIGHBOUR: 'it returns false'. Refute it at one input. -/
def deriveLinearWrong : ChangeSpec := { name := "deriveLinear", fn := fun _ => fun
  | [d1, d2, d3] => { results := [.lit (.bool false)], args := [d1, d2, d3] }
  | _ => none }
def DeriveLinearWrongFalsely : Prop := deriveLinearRow.holds Try.pinned (OpenSpec.ofChange deriveLinearWrong)

/-- 'flowpipelaw18.DeriveGradients': WHATEVER THE INPUT: true; the input reads as it did. -/
def deriveGradientsSpec : ChangeSpec := { name := "deriveGradients", fn := fun _ => fun
  | [d1, d2, d3] => { results := [.lit (.bool true)], args := [d1, d2, d3] }
  | _ => none }
def deriveGradientsRow : OpenClaim := { program := "ytmcdnbmamoggoaa", sum := "10bd37f7ad9f40835dccd245ba95afa2a1824479fcb667325e9ab19c9f93f499", func := "flowpipe/flowpipelaw18.DeriveGradients", spec := "deriveGradients", inPlace := ["internal/bytealg.IndexByteString"], unfollowed := true, recurses := true, loops := true, plainKeys := false, apart := false }
def DeriveGradientsSaid : Prop := deriveGradientsRow.holds Try.pinned (OpenSpec.ofChange deriveGradientsSpec)

/-- ITS FALSE NEIGHBOUR: 'it returns false'. Refute it at one input. -/
def deriveGradientsWrong : ChangeSpec := { name := "deriveGradients", fn := fun _ => fun
  | [d1, d2, d3] => { results := [.lit (.bool false)], args := [d1, d2, d3] }
  | _ => none }
def DeriveGradientsWrongFalsely : Prop := deriveGradientsRow.holds Try.pinned (OpenSpec.ofChange deriveGradientsWrong)

/-- 'flowpipelaw19.TapeValid': WHATEVER THE INPUT: true; the input reads as it did. -/
def tapeValidSpec : ChangeSpec := { name := "tapeValid", fn := fun _ => fun
  | [d] => { results := [.lit (.bool true)], args := [d] }
  | _ => none }
def tapeValidRow : OpenClaim := { program := "ytmcdnbmamoggoaa", sum := "10bd37f7ad9f40835dccd245ba95afa2a1824479fcb667325e9ab19c9f93f499", func := "flowpipe/flowpipelaw19.TapeValid", spec := "tapeValid", inPlace := ["internal/bytealg.IndexByteString"], unfollowed := true, recurses := true, plainKeys := false, apart := false }
def TapeValidSaid : Prop := tapeValidRow.holds Try.pinned (OpenSpec.ofChange tapeValidSpec)

/-- ITS FALSE NEIGHBOUR: 'it returns false'. Refute it at one input. -/
def tapeValidWrong : ChangeSpec := { name := "tapeValid", fn := fun _ => fun
  | [d] => { results := [.lit (.bool false)], args := [d] }
  | _ => none }
def TapeValidWrongFalsely : Prop := tapeValidRow.holds Try.pinned (OpenSpec.ofChange tapeValidWrong)

/-- 'flowpipelaw19.TapeShares': WHATEVER THE INPUT: true; the input reads as it did. -/
def tapeSharesSpec : ChangeSpec := { name := "tapeShares", fn := fun _ => fun
  | [d1, d2] => { results := [.lit (.bool true)], args := [d1, d2] }
  | _ => none }
def tapeSharesRow : OpenClaim := { program := "ytmcdnbmamoggoaa", sum := "10bd37f7ad9f40835dccd245ba95afa2a1824479fcb667325e9ab19c9f93f499", func := "flowpipe/flowpipelaw19.TapeShares", spec := "tapeShares", inPlace := ["internal/bytealg.IndexByteString"], unfollowed := true, recurses := true, loops := true, plainKeys := false, apart := false }
def TapeSharesSaid : Prop := tapeSharesRow.holds Try.pinned (OpenSpec.ofChange tapeSharesSpec)

/-- ITS FALSE NEIGHBOUR: 'it returns false'. Refute it at one input. -/
def tapeSharesWrong : ChangeSpec := { name := "tapeShares", fn := fun _ => fun
  | [d1, d2] => { results := [.lit (.bool false)], args := [d1, d2] }
  | _ => none }
def TapeSharesWrongFalsely : Prop := tapeSharesRow.holds Try.pinned (OpenSpec.ofChange tapeSharesWrong)

/-- 'flowpipelaw19.TapeBack': WHATEVER THE INPUT: true; the input reads as it did. -/
def tapeBackSpec : ChangeSpec := { name := "tapeBack", fn := fun _ => fun
  | [d1, d2] => { results := [.lit (.bool true)], args := [d1, d2] }
  | _ => none }
def tapeBackRow : OpenClaim := { program := "ytmcdnbmamoggoaa", sum := "10bd37f7ad9f40835dccd245ba95afa2a1824479fcb667325e9ab19c9f93f499", func := "flowpipe/flowpipelaw19.TapeBack", spec := "tapeBack", inPlace := ["internal/bytealg.IndexByteString"], unfollowed := true, recurses := true, loops := true, plainKeys := false, apart := false }
def TapeBackSaid : Prop := tapeBackRow.holds Try.pinned (OpenSpec.ofChange tapeBackSpec)

/-- ITS FALSE NEIGHBOUR: 'it returns false'. Refute it at one input. -/
def tapeBackWrong : ChangeSpec := { name := "tapeBack", fn := fun _ => fun
  | [d1, d2] => { results := [.lit (.bool false)], args := [d1, d2] }
  | _ => none }
def TapeBackWrongFalsely : Prop := tapeBackRow.holds Try.pinned (OpenSpec.ofChange tapeBackWrong)

/-- 'flowpipelaw18.DeriveKeeps': WHATEVER THE INPUT: true; the input reads as it did. -/
def deriveKeepsSpec : ChangeSpec := { name := "deriveKeeps", fn := fun _ => fun
  | [d1, d2, d3] => { results := [.lit (.bool true)], args := [d1, d2, d3] }
  | _ => none }
def deriveKeepsRow : OpenClaim := { program := "ytmcdnbmamoggoaa", sum := "10bd37f7ad9f40835dccd245ba95afa2a1824479fcb667325e9ab19c9f93f499", func := "flowpipe/flowpipelaw18.DeriveKeeps", spec := "deriveKeeps", inPlace := ["internal/bytealg.IndexByteString"], unfollowed := true, recurses := true, loops := true, plainKeys := false, apart := false }
def DeriveKeepsSaid : Prop := deriveKeepsRow.holds Try.pinned (OpenSpec.ofChange deriveKeepsSpec)

/-- ITS FALSE NEIGHBOUR: 'it returns false'. Refute it at one input. -/
def deriveKeepsWrong : ChangeSpec := { name := "deriveKeeps", fn := fun _ => fun
  | [d1, d2, d3] => { results := [.lit (.bool false)], args := [d1, d2, d3] }
  | _ => none }
def DeriveKeepsWrongFalsely : Prop := deriveKeepsRow.holds Try.pinned (OpenSpec.ofChange deriveKeepsWrong)

/-- 'flowpipelaw18.DeriveDual': WHATEVER THE INPUT: true; the input reads as it did. -/
def deriveDualSpec : ChangeSpec := { name := "deriveDual", fn := fun _ => fun
  | [d1, d2, d3, d4] => { results := [.lit (.bool true)], args := [d1, d2, d3, d4] }
  | _ => none }
def deriveDualRow : OpenClaim := { program := "ytmcdnbmamoggoaa", sum := "10bd37f7ad9f40835dccd245ba95afa2a1824479fcb667325e9ab19c9f93f499", func := "flowpipe/flowpipelaw18.DeriveDual", spec := "deriveDual", inPlace := ["internal/bytealg.IndexByteString"], unfollowed := true, recurses := true, loops := true, plainKeys := false, apart := false }
def DeriveDualSaid : Prop := deriveDualRow.holds Try.pinned (OpenSpec.ofChange deriveDualSpec)

/-- ITS FALSE NEIGHBOUR: 'it returns false'. Refute it at one input. -/
def deriveDualWrong : ChangeSpec := { name := "deriveDual", fn := fun _ => fun
  | [d1, d2, d3, d4] => { results := [.lit (.bool false)], args := [d1, d2, d3, d4] }
  | _ => none }
def DeriveDualWrongFalsely : Prop := deriveDualRow.holds Try.pinned (OpenSpec.ofChange deriveDualWrong)

/-- 'flowpipelaw18.DeriveTaylor': WHATEVER THE INPUT: true; the input reads as it did. -/
def deriveTaylorSpec : ChangeSpec := { name := "deriveTaylor", fn := fun _ => fun
  | [d1, d2] => { results := [.lit (.bool true)], args := [d1, d2] }
  | _ => none }
def deriveTaylorRow : OpenClaim := { program := "ytmcdnbmamoggoaa", sum := "10bd37f7ad9f40835dccd245ba95afa2a1824479fcb667325e9ab19c9f93f499", func := "flowpipe/flowpipelaw18.DeriveTaylor", spec := "deriveTaylor", inPlace := ["internal/bytealg.IndexByteString"], unfollowed := true, recurses := true, loops := true, plainKeys := false, apart := false }
def DeriveTaylorSaid : Prop := deriveTaylorRow.holds Try.pinned (OpenSpec.ofChange deriveTaylorSpec)

/-- ITS FALSE NEIGHBOUR: 'it returns false'. Refute it at one input. -/
def deriveTaylorWrong : ChangeSpec := { name := "deriveTaylor", fn := fun _ => fun
  | [d1, d2] => { results := [.lit (.bool false)], args := [d1, d2] }
  | _ => none }
def DeriveTaylorWrongFalsely : Prop := deriveTaylorRow.holds Try.pinned (OpenSpec.ofChange deriveTaylorWrong)

/- THE SECOND FORM. 'bulk': how many values and letters a reading holds, each counted each time it is reached (what is shared counts as often as it is met; a slice's spare places count too). A statement '..UptoSaid' is the law's where the arguments, and the package variables that the reading takes, are together of bulk at most 1048576: NARROWER than '..Said'. Prove '..Said' where nothing that the law and all that it calls make is longer than what came in: it says more and counts as full. Else prove '..UptoSaid'. A law counts once. -/
mutual
def uptoBulk {H : Type} : DataW H → Nat
  | .lit (.string bytes) => bytes.length + 1
  | .lit _ => 1
  | .nil => 1
  | .ptr d => uptoBulk d + 1
  | .slice elems spare => uptoBulkAll elems + uptoBulkAll spare + 1
  | .agg parts => uptoBulkAll parts + 1
  | .iface _ d => uptoBulk d + 1
  | .map entries => uptoBulkEntries entries + 1
  | .held _ => 1
def uptoBulkAll {H : Type} : List (DataW H) → Nat
  | [] => 0
  | d :: r => uptoBulk d + uptoBulkAll r
def uptoBulkEntries {H : Type} : List (Lit × DataW H) → Nat
  | [] => 0
  | x :: r => uptoBulkEntry x + uptoBulkEntries r
def uptoBulkEntry {H : Type} : Lit × DataW H → Nat
  | (.string bytes, d) => bytes.length + uptoBulk d + 1
  | (_, d) => uptoBulk d + 1
 end
def uptoSmall : (H : Type) → List (DataW H) → Bool := fun _ ds => decide (uptoBulkAll ds ≤ 1048576)
def OpenSpec.upto (s : _root_.Go.ChangeSpec) : _root_.Go.OpenSpec := { _root_.Go.OpenSpec.ofChange s with cond := some uptoSmall }

/-- 'flowpipelaw18.DeriveDiffs', WHERE WHAT IT READS IS OF BULK AT MOST 1048576: true; the input reads as it did. -/
def deriveDiffsUptoRow : OpenClaim := { program := "ytmcdnbmamoggoaa", sum := "10bd37f7ad9f40835dccd245ba95afa2a1824479fcb667325e9ab19c9f93f499", func := "flowpipe/flowpipelaw18.DeriveDiffs", spec := "deriveDiffs", inPlace := ["internal/bytealg.IndexByteString"], unfollowed := true, recurses := true, loops := true, plainKeys := false, apart := false, narrowed := true }
def DeriveDiffsUptoSaid : Prop := deriveDiffsUptoRow.holds Try.pinned (OpenSpec.upto deriveDiffsSpec)

/-- 'flowpipelaw18.DerivePolynomials', WHERE WHAT IT READS IS OF BULK AT MOST 1048576: true; the input reads as it did. -/
def derivePolynomialsUptoRow : OpenClaim := { program := "ytmcdnbmamoggoaa", sum := "10bd37f7ad9f40835dccd245ba95afa2a1824479fcb667325e9ab19c9f93f499", func := "flowpipe/flowpipelaw18.DerivePolynomials", spec := "derivePolynomials", inPlace := ["internal/bytealg.IndexByteString"], unfollowed := true, recurses := true, loops := true, plainKeys := false, apart := false, narrowed := true }
def DerivePolynomialsUptoSaid : Prop := derivePolynomialsUptoRow.holds Try.pinned (OpenSpec.upto derivePolynomialsSpec)

/-- 'flowpipelaw18.DeriveSimplifies', WHERE WHAT IT READS IS OF BULK AT MOST 1048576: true; the input reads as it did. -/
def deriveSimplifiesUptoRow : OpenClaim := { program := "ytmcdnbmamoggoaa", sum := "10bd37f7ad9f40835dccd245ba95afa2a1824479fcb667325e9ab19c9f93f499", func := "flowpipe/flowpipelaw18.DeriveSimplifies", spec := "deriveSimplifies", inPlace := ["internal/bytealg.IndexByteString"], unfollowed := true, recurses := true, loops := true, plainKeys := false, apart := false, narrowed := true }
def DeriveSimplifiesUptoSaid : Prop := deriveSimplifiesUptoRow.holds Try.pinned (OpenSpec.upto deriveSimplifiesSpec)

/-- 'flowpipelaw18.DeriveLinear', WHERE WHAT IT READS IS OF BULK AT MOST 1048576: true; the input reads as it did. -/
def deriveLinearUptoRow : OpenClaim := { program := "ytmcdnbmamoggoaa", sum := "10bd37f7ad9f40835dccd245ba95afa2a1824479fcb667325e9ab19c9f93f499", func := "flowpipe/flowpipelaw18.DeriveLinear", spec := "deriveLinear", inPlace := ["internal/bytealg.IndexByteString"], unfollowed := true, recurses := true, loops := true, plainKeys := false, apart := false, narrowed := true }
def DeriveLinearUptoSaid : Prop := deriveLinearUptoRow.holds Try.pinned (OpenSpec.upto deriveLinearSpec)

/-- 'flowpipelaw18.DeriveGradients', WHERE WHAT IT READS IS OF BULK AT MOST 1048576: true; the input reads as it did. -/
def deriveGradientsUptoRow : OpenClaim := { program := "ytmcdnbmamoggoaa", sum := "10bd37f7ad9f40835dccd245ba95afa2a1824479fcb667325e9ab19c9f93f499", func := "flowpipe/flowpipelaw18.DeriveGradients", spec := "deriveGradients", inPlace := ["internal/bytealg.IndexByteString"], unfollowed := true, recurses := true, loops := true, plainKeys := false, apart := false, narrowed := true }
def DeriveGradientsUptoSaid : Prop := deriveGradientsUptoRow.holds Try.pinned (OpenSpec.upto deriveGradientsSpec)

/-- 'flowpipelaw19.TapeValid', WHERE WHAT IT READS IS OF BULK AT MOST 1048576: true; the input reads as it did. -/
def tapeValidUptoRow : OpenClaim := { program := "ytmcdnbmamoggoaa", sum := "10bd37f7ad9f40835dccd245ba95afa2a1824479fcb667325e9ab19c9f93f499", func := "flowpipe/flowpipelaw19.TapeValid", spec := "tapeValid", inPlace := ["internal/bytealg.IndexByteString"], unfollowed := true, recurses := true, plainKeys := false, apart := false, narrowed := true }
def TapeValidUptoSaid : Prop := tapeValidUptoRow.holds Try.pinned (OpenSpec.upto tapeValidSpec)

/-- 'flowpipelaw19.TapeShares', WHERE WHAT IT READS IS OF BULK AT MOST 1048576: true; the input reads as it did. -/
def tapeSharesUptoRow : OpenClaim := { program := "ytmcdnbmamoggoaa", sum := "10bd37f7ad9f40835dccd245ba95afa2a1824479fcb667325e9ab19c9f93f499", func := "flowpipe/flowpipelaw19.TapeShares", spec := "tapeShares", inPlace := ["internal/bytealg.IndexByteString"], unfollowed := true, recurses := true, loops := true, plainKeys := false, apart := false, narrowed := true }
def TapeSharesUptoSaid : Prop := tapeSharesUptoRow.holds Try.pinned (OpenSpec.upto tapeSharesSpec)

/-- 'flowpipelaw19.TapeBack', WHERE WHAT IT READS IS OF BULK AT MOST 1048576: true; the input reads as it did. -/
def tapeBackUptoRow : OpenClaim := { program := "ytmcdnbmamoggoaa", sum := "10bd37f7ad9f40835dccd245ba95afa2a1824479fcb667325e9ab19c9f93f499", func := "flowpipe/flowpipelaw19.TapeBack", spec := "tapeBack", inPlace := ["internal/bytealg.IndexByteString"], unfollowed := true, recurses := true, loops := true, plainKeys := false, apart := false, narrowed := true }
def TapeBackUptoSaid : Prop := tapeBackUptoRow.holds Try.pinned (OpenSpec.upto tapeBackSpec)

/-- 'flowpipelaw18.DeriveKeeps', WHERE WHAT IT READS IS OF BULK AT MOST 1048576: true; the input reads as it did. -/
def deriveKeepsUptoRow : OpenClaim := { program := "ytmcdnbmamoggoaa", sum := "10bd37f7ad9f40835dccd245ba95afa2a1824479fcb667325e9ab19c9f93f499", func := "flowpipe/flowpipelaw18.DeriveKeeps", spec := "deriveKeeps", inPlace := ["internal/bytealg.IndexByteString"], unfollowed := true, recurses := true, loops := true, plainKeys := false, apart := false, narrowed := true }
def DeriveKeepsUptoSaid : Prop := deriveKeepsUptoRow.holds Try.pinned (OpenSpec.upto deriveKeepsSpec)

/-- 'flowpipelaw18.DeriveDual', WHERE WHAT IT READS IS OF BULK AT MOST 1048576: true; the input reads as it did. -/
def deriveDualUptoRow : OpenClaim := { program := "ytmcdnbmamoggoaa", sum := "10bd37f7ad9f40835dccd245ba95afa2a1824479fcb667325e9ab19c9f93f499", func := "flowpipe/flowpipelaw18.DeriveDual", spec := "deriveDual", inPlace := ["internal/bytealg.IndexByteString"], unfollowed := true, recurses := true, loops := true, plainKeys := false, apart := false, narrowed := true }
def DeriveDualUptoSaid : Prop := deriveDualUptoRow.holds Try.pinned (OpenSpec.upto deriveDualSpec)

/-- 'flowpipelaw18.DeriveTaylor', WHERE WHAT IT READS IS OF BULK AT MOST 1048576: true; the input reads as it did. -/
def deriveTaylorUptoRow : OpenClaim := { program := "ytmcdnbmamoggoaa", sum := "10bd37f7ad9f40835dccd245ba95afa2a1824479fcb667325e9ab19c9f93f499", func := "flowpipe/flowpipelaw18.DeriveTaylor", spec := "deriveTaylor", inPlace := ["internal/bytealg.IndexByteString"], unfollowed := true, recurses := true, loops := true, plainKeys := false, apart := false, narrowed := true }
def DeriveTaylorUptoSaid : Prop := deriveTaylorUptoRow.holds Try.pinned (OpenSpec.upto deriveTaylorSpec)

end Rows
end Go.Proofs.Ytmcdnbmamoggoaa
