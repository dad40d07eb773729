/-
  DERIVED. GIVEN WITH THE SEED: THE CARDS: each row of YtnijmbnkcmhfpaaGreatDoorRows.lean that lists a variable, with what it lists TIED to the program's text (the seventh form; the later family's looks); each row that meets fmt, with fmt's text TOLD by the authors' own Lean function (tested against real Go, not proved from fmt's source: count such statements apart). THE CARD IS WHAT COUNTS. Prove the row's statement (the work); the ties are given (YtnijmbnkcmhfpaaGreatDoorTie.lean); close each card by the builder's one call (the guide's Derived/Test/ToyasCard.lean, 'card_holds'). Laid BY PROGRAM, IN A SANDBOX (cutbox-door.mjs). By AI agents, Wed Nov 11 2026. No macro, syntax, notation, axiom, sorry.
-/
import Derived.Test.YtnijmbnkcmhfpaaGreatDoorRows
import GoSem.ClaimSeven
namespace Go.Proofs.YtnijmbnkcmhfpaaGreatDoor
namespace Rows

/-- THE TIED CARD OF 'flowpipelaw17.EvaluateExact'. -/
def evaluateExactCard : Claim7 := { stood := { row := evaluateExactRow, standIns := [], harness := (true, "3d7b4ac3d088263e19f98bdc417fc4d4220c9362f121294d4112f42a1c58c9cf"), looks := false }, kinds := [], alts := [], laidByText := true, laidKinds := [.data], laidTests := true, laidLooks := .later }
def EvaluateExactCardSaid : Prop := Claim7.holds Tryz.pinned (.plain (OpenSpec.ofChange evaluateExactSpec)) evaluateExactCard

/-- THE SECOND FORM's CARD OF 'flowpipelaw17.EvaluateExact'. -/
def evaluateExactUptoCard : Claim7 := { stood := { row := evaluateExactUptoRow, standIns := [], harness := (true, "3d7b4ac3d088263e19f98bdc417fc4d4220c9362f121294d4112f42a1c58c9cf"), looks := false }, kinds := [], alts := [], laidByText := true, laidKinds := [.data], laidTests := true, laidLooks := .later }
def EvaluateExactUptoCardSaid : Prop := Claim7.holds Tryz.pinned (.plain (OpenSpec.upto evaluateExactSpec)) evaluateExactUptoCard
end Rows
end Go.Proofs.YtnijmbnkcmhfpaaGreatDoor
