/-
  DERIVED. GIVEN WITH THE SEED: THE CARDS: each row of YtbolipecnhlnnaaGreatDoorRows.lean that lists a variable, with what it lists TIED to the program's text (the seventh form; the later family's looks); each row that meets fmt, with fmt's text TOLD by the authors' own Lean function (tested against real Go, not proved from fmt's source: count such statements apart). THE CARD IS WHAT COUNTS. Prove the row's statement (the work); the ties are given (YtbolipecnhlnnaaGreatDoorTie.lean); close each card by the builder's one call (the guide's Derived/Test/ToyasCard.lean, 'card_holds'). Laid BY PROGRAM, IN A SANDBOX (cutbox-door.mjs). By AI agents, Wed Nov 11 2026. No macro, syntax, notation, axiom, sorry.
-/
import Derived.Test.YtbolipecnhlnnaaGreatDoorRows
import GoSem.ClaimSeven
namespace Go.Proofs.YtbolipecnhlnnaaGreatDoor
namespace Rows

/-- THE TIED CARD OF 'flowpipelaw38.MatexpLinear'. -/
def matexpLinearCard : Claim7 := { stood := { row := matexpLinearRow, standIns := [], harness := (true, "2e12ae2225b5c936e05f960a3a049d80d85318eada6c0109824e57adf2ac36f5"), looks := false }, kinds := [], alts := [], laidByText := true, laidKinds := [.data], laidTests := true, laidLooks := .later }
def MatexpLinearCardSaid : Prop := Claim7.holds Tryz.pinned (.plain (OpenSpec.ofChange matexpLinearSpec)) matexpLinearCard

/-- THE TIED CARD OF 'flowpipelaw38.MatexpDiagonal'. -/
def matexpDiagonalCard : Claim7 := { stood := { row := matexpDiagonalRow, standIns := [], harness := (true, "2e12ae2225b5c936e05f960a3a049d80d85318eada6c0109824e57adf2ac36f5"), looks := false }, kinds := [], alts := [], laidByText := true, laidKinds := [.data], laidTests := true, laidLooks := .later }
def MatexpDiagonalCardSaid : Prop := Claim7.holds Tryz.pinned (.plain (OpenSpec.ofChange matexpDiagonalSpec)) matexpDiagonalCard

/-- THE TIED CARD OF 'flowpipelaw38.MatexpDeterminant'. -/
def matexpDeterminantCard : Claim7 := { stood := { row := matexpDeterminantRow, standIns := [], harness := (true, "2e12ae2225b5c936e05f960a3a049d80d85318eada6c0109824e57adf2ac36f5"), looks := false }, kinds := [], alts := [], laidByText := true, laidKinds := [.data], laidTests := true, laidLooks := .later }
def MatexpDeterminantCardSaid : Prop := Claim7.holds Tryz.pinned (.plain (OpenSpec.ofChange matexpDeterminantSpec)) matexpDeterminantCard

/-- THE TIED CARD OF 'flowpipelaw38.MatexpRotation'. -/
def matexpRotationCard : Claim7 := { stood := { row := matexpRotationRow, standIns := [], harness := (true, "2e12ae2225b5c936e05f960a3a049d80d85318eada6c0109824e57adf2ac36f5"), looks := false }, kinds := [], alts := [], laidByText := true, laidKinds := [.data], laidTests := true, laidLooks := .later }
def MatexpRotationCardSaid : Prop := Claim7.holds Tryz.pinned (.plain (OpenSpec.ofChange matexpRotationSpec)) matexpRotationCard

/-- THE TIED CARD OF 'flowpipelaw17.EvaluateValues'. -/
def evaluateValuesCard : Claim7 := { stood := { row := evaluateValuesRow, standIns := [], harness := (true, "2e12ae2225b5c936e05f960a3a049d80d85318eada6c0109824e57adf2ac36f5"), looks := false }, kinds := [], alts := [], laidByText := true, laidKinds := [.data], laidTests := true, laidLooks := .later }
def EvaluateValuesCardSaid : Prop := Claim7.holds Tryz.pinned (.plain (OpenSpec.ofChange evaluateValuesSpec)) evaluateValuesCard

/-- THE TIED CARD OF 'flowpipelaw17.EvaluateReplaces'. -/
def evaluateReplacesCard : Claim7 := { stood := { row := evaluateReplacesRow, standIns := [], harness := (true, "2e12ae2225b5c936e05f960a3a049d80d85318eada6c0109824e57adf2ac36f5"), looks := false }, kinds := [], alts := [], laidByText := true, laidKinds := [.data], laidTests := true, laidLooks := .later }
def EvaluateReplacesCardSaid : Prop := Claim7.holds Tryz.pinned (.plain (OpenSpec.ofChange evaluateReplacesSpec)) evaluateReplacesCard

/-- THE SECOND FORM's CARD OF 'flowpipelaw38.MatexpLinear'. -/
def matexpLinearUptoCard : Claim7 := { stood := { row := matexpLinearUptoRow, standIns := [], harness := (true, "2e12ae2225b5c936e05f960a3a049d80d85318eada6c0109824e57adf2ac36f5"), looks := false }, kinds := [], alts := [], laidByText := true, laidKinds := [.data], laidTests := true, laidLooks := .later }
def MatexpLinearUptoCardSaid : Prop := Claim7.holds Tryz.pinned (.plain (OpenSpec.upto matexpLinearSpec)) matexpLinearUptoCard

/-- THE SECOND FORM's CARD OF 'flowpipelaw38.MatexpDiagonal'. -/
def matexpDiagonalUptoCard : Claim7 := { stood := { row := matexpDiagonalUptoRow, standIns := [], harness := (true, "2e12ae2225b5c936e05f960a3a049d80d85318eada6c0109824e57adf2ac36f5"), looks := false }, kinds := [], alts := [], laidByText := true, laidKinds := [.data], laidTests := true, laidLooks := .later }
def MatexpDiagonalUptoCardSaid : Prop := Claim7.holds Tryz.pinned (.plain (OpenSpec.upto matexpDiagonalSpec)) matexpDiagonalUptoCard

/-- THE SECOND FORM's CARD OF 'flowpipelaw38.MatexpDeterminant'. -/
def matexpDeterminantUptoCard : Claim7 := { stood := { row := matexpDeterminantUptoRow, standIns := [], harness := (true, "2e12ae2225b5c936e05f960a3a049d80d85318eada6c0109824e57adf2ac36f5"), looks := false }, kinds := [], alts := [], laidByText := true, laidKinds := [.data], laidTests := true, laidLooks := .later }
def MatexpDeterminantUptoCardSaid : Prop := Claim7.holds Tryz.pinned (.plain (OpenSpec.upto matexpDeterminantSpec)) matexpDeterminantUptoCard

/-- THE SECOND FORM's CARD OF 'flowpipelaw38.MatexpRotation'. -/
def matexpRotationUptoCard : Claim7 := { stood := { row := matexpRotationUptoRow, standIns := [], harness := (true, "2e12ae2225b5c936e05f960a3a049d80d85318eada6c0109824e57adf2ac36f5"), looks := false }, kinds := [], alts := [], laidByText := true, laidKinds := [.data], laidTests := true, laidLooks := .later }
def MatexpRotationUptoCardSaid : Prop := Claim7.holds Tryz.pinned (.plain (OpenSpec.upto matexpRotationSpec)) matexpRotationUptoCard

/-- THE SECOND FORM's CARD OF 'flowpipelaw17.EvaluateValues'. -/
def evaluateValuesUptoCard : Claim7 := { stood := { row := evaluateValuesUptoRow, standIns := [], harness := (true, "2e12ae2225b5c936e05f960a3a049d80d85318eada6c0109824e57adf2ac36f5"), looks := false }, kinds := [], alts := [], laidByText := true, laidKinds := [.data], laidTests := true, laidLooks := .later }
def EvaluateValuesUptoCardSaid : Prop := Claim7.holds Tryz.pinned (.plain (OpenSpec.upto evaluateValuesSpec)) evaluateValuesUptoCard

/-- THE SECOND FORM's CARD OF 'flowpipelaw17.EvaluateReplaces'. -/
def evaluateReplacesUptoCard : Claim7 := { stood := { row := evaluateReplacesUptoRow, standIns := [], harness := (true, "2e12ae2225b5c936e05f960a3a049d80d85318eada6c0109824e57adf2ac36f5"), looks := false }, kinds := [], alts := [], laidByText := true, laidKinds := [.data], laidTests := true, laidLooks := .later }
def EvaluateReplacesUptoCardSaid : Prop := Claim7.holds Tryz.pinned (.plain (OpenSpec.upto evaluateReplacesSpec)) evaluateReplacesUptoCard
end Rows
end Go.Proofs.YtbolipecnhlnnaaGreatDoor
