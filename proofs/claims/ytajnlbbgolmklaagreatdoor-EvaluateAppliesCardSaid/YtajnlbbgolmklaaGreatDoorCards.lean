/-
  DERIVED. GIVEN WITH THE SEED: THE CARDS: each row of YtajnlbbgolmklaaGreatDoorRows.lean that lists a variable, with what it lists TIED to the program's text (the seventh form; the later family's looks); each row that meets fmt, with fmt's text TOLD by the authors' own Lean function (tested against real Go, not proved from fmt's source: count such statements apart). THE CARD IS WHAT COUNTS. Prove the row's statement (the work); the ties are given (YtajnlbbgolmklaaGreatDoorTie.lean); close each card by the builder's one call (the guide's Derived/Test/ToyasCard.lean, 'card_holds'). Laid BY PROGRAM, IN A SANDBOX (cutbox-door.mjs). By AI agents, Wed Nov 11 2026. No macro, syntax, notation, axiom, sorry.
-/
import Derived.Test.YtajnlbbgolmklaaGreatDoorRows
import GoSem.ClaimSeven
namespace Go.Proofs.YtajnlbbgolmklaaGreatDoor
namespace Rows

/-- THE TIED CARD OF 'flowpipelaw17.EvaluateIsotone'. -/
def evaluateIsotoneCard : Claim7 := { stood := { row := evaluateIsotoneRow, standIns := [], harness := (true, "f41f16e941b21bd711315f856d8655c5cdffadee56a2488c41dc42a806515bbe"), looks := false }, kinds := [], alts := [], laidByText := true, laidKinds := [.data], laidTests := true, laidLooks := .later }
def EvaluateIsotoneCardSaid : Prop := Claim7.holds Tryz.pinned (.plain (OpenSpec.ofChange evaluateIsotoneSpec)) evaluateIsotoneCard

/-- THE TIED CARD OF 'flowpipelaw17.EvaluateValues'. -/
def evaluateValuesCard : Claim7 := { stood := { row := evaluateValuesRow, standIns := [], harness := (true, "f41f16e941b21bd711315f856d8655c5cdffadee56a2488c41dc42a806515bbe"), looks := false }, kinds := [], alts := [], laidByText := true, laidKinds := [.data], laidTests := true, laidLooks := .later }
def EvaluateValuesCardSaid : Prop := Claim7.holds Tryz.pinned (.plain (OpenSpec.ofChange evaluateValuesSpec)) evaluateValuesCard

/-- THE TIED CARD OF 'flowpipelaw17.EvaluateApplies'. -/
def evaluateAppliesCard : Claim7 := { stood := { row := evaluateAppliesRow, standIns := [], harness := (true, "f41f16e941b21bd711315f856d8655c5cdffadee56a2488c41dc42a806515bbe"), looks := false }, kinds := [], alts := [], laidByText := true, laidKinds := [.data], laidTests := true, laidLooks := .later }
def EvaluateAppliesCardSaid : Prop := Claim7.holds Tryz.pinned (.plain (OpenSpec.ofChange evaluateAppliesSpec)) evaluateAppliesCard

/-- THE TIED CARD OF 'flowpipelaw17.EvaluatePoison'. -/
def evaluatePoisonCard : Claim7 := { stood := { row := evaluatePoisonRow, standIns := [], harness := (true, "f41f16e941b21bd711315f856d8655c5cdffadee56a2488c41dc42a806515bbe"), looks := false }, kinds := [], alts := [], laidByText := true, laidKinds := [.data], laidTests := true, laidLooks := .later }
def EvaluatePoisonCardSaid : Prop := Claim7.holds Tryz.pinned (.plain (OpenSpec.ofChange evaluatePoisonSpec)) evaluatePoisonCard

/-- THE TIED CARD OF 'flowpipelaw17.EvaluateReplaces'. -/
def evaluateReplacesCard : Claim7 := { stood := { row := evaluateReplacesRow, standIns := [], harness := (true, "f41f16e941b21bd711315f856d8655c5cdffadee56a2488c41dc42a806515bbe"), looks := false }, kinds := [], alts := [], laidByText := true, laidKinds := [.data], laidTests := true, laidLooks := .later }
def EvaluateReplacesCardSaid : Prop := Claim7.holds Tryz.pinned (.plain (OpenSpec.ofChange evaluateReplacesSpec)) evaluateReplacesCard

/-- THE TIED CARD OF 'flowpipelaw17.EvaluateContains'. -/
def evaluateContainsCard : Claim7 := { stood := { row := evaluateContainsRow, standIns := [], harness := (true, "f41f16e941b21bd711315f856d8655c5cdffadee56a2488c41dc42a806515bbe"), looks := false }, kinds := [], alts := [], laidByText := true, laidKinds := [.data], laidTests := true, laidLooks := .later }
def EvaluateContainsCardSaid : Prop := Claim7.holds Tryz.pinned (.plain (OpenSpec.ofChange evaluateContainsSpec)) evaluateContainsCard

/-- THE SECOND FORM's CARD OF 'flowpipelaw17.EvaluateIsotone'. -/
def evaluateIsotoneUptoCard : Claim7 := { stood := { row := evaluateIsotoneUptoRow, standIns := [], harness := (true, "f41f16e941b21bd711315f856d8655c5cdffadee56a2488c41dc42a806515bbe"), looks := false }, kinds := [], alts := [], laidByText := true, laidKinds := [.data], laidTests := true, laidLooks := .later }
def EvaluateIsotoneUptoCardSaid : Prop := Claim7.holds Tryz.pinned (.plain (OpenSpec.upto evaluateIsotoneSpec)) evaluateIsotoneUptoCard

/-- THE SECOND FORM's CARD OF 'flowpipelaw17.EvaluateValues'. -/
def evaluateValuesUptoCard : Claim7 := { stood := { row := evaluateValuesUptoRow, standIns := [], harness := (true, "f41f16e941b21bd711315f856d8655c5cdffadee56a2488c41dc42a806515bbe"), looks := false }, kinds := [], alts := [], laidByText := true, laidKinds := [.data], laidTests := true, laidLooks := .later }
def EvaluateValuesUptoCardSaid : Prop := Claim7.holds Tryz.pinned (.plain (OpenSpec.upto evaluateValuesSpec)) evaluateValuesUptoCard

/-- THE SECOND FORM's CARD OF 'flowpipelaw17.EvaluateApplies'. -/
def evaluateAppliesUptoCard : Claim7 := { stood := { row := evaluateAppliesUptoRow, standIns := [], harness := (true, "f41f16e941b21bd711315f856d8655c5cdffadee56a2488c41dc42a806515bbe"), looks := false }, kinds := [], alts := [], laidByText := true, laidKinds := [.data], laidTests := true, laidLooks := .later }
def EvaluateAppliesUptoCardSaid : Prop := Claim7.holds Tryz.pinned (.plain (OpenSpec.upto evaluateAppliesSpec)) evaluateAppliesUptoCard

/-- THE SECOND FORM's CARD OF 'flowpipelaw17.EvaluatePoison'. -/
def evaluatePoisonUptoCard : Claim7 := { stood := { row := evaluatePoisonUptoRow, standIns := [], harness := (true, "f41f16e941b21bd711315f856d8655c5cdffadee56a2488c41dc42a806515bbe"), looks := false }, kinds := [], alts := [], laidByText := true, laidKinds := [.data], laidTests := true, laidLooks := .later }
def EvaluatePoisonUptoCardSaid : Prop := Claim7.holds Tryz.pinned (.plain (OpenSpec.upto evaluatePoisonSpec)) evaluatePoisonUptoCard

/-- THE SECOND FORM's CARD OF 'flowpipelaw17.EvaluateReplaces'. -/
def evaluateReplacesUptoCard : Claim7 := { stood := { row := evaluateReplacesUptoRow, standIns := [], harness := (true, "f41f16e941b21bd711315f856d8655c5cdffadee56a2488c41dc42a806515bbe"), looks := false }, kinds := [], alts := [], laidByText := true, laidKinds := [.data], laidTests := true, laidLooks := .later }
def EvaluateReplacesUptoCardSaid : Prop := Claim7.holds Tryz.pinned (.plain (OpenSpec.upto evaluateReplacesSpec)) evaluateReplacesUptoCard

/-- THE SECOND FORM's CARD OF 'flowpipelaw17.EvaluateContains'. -/
def evaluateContainsUptoCard : Claim7 := { stood := { row := evaluateContainsUptoRow, standIns := [], harness := (true, "f41f16e941b21bd711315f856d8655c5cdffadee56a2488c41dc42a806515bbe"), looks := false }, kinds := [], alts := [], laidByText := true, laidKinds := [.data], laidTests := true, laidLooks := .later }
def EvaluateContainsUptoCardSaid : Prop := Claim7.holds Tryz.pinned (.plain (OpenSpec.upto evaluateContainsSpec)) evaluateContainsUptoCard
end Rows
end Go.Proofs.YtajnlbbgolmklaaGreatDoor
