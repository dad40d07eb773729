/-
  DERIVED. GIVEN WITH THE SEED: THE CARDS: each row of YtgehdbenidimlaaGreatDoorRows.lean that lists a variable, with what it lists TIED to the program's text (the seventh form; the later family's looks); each row that meets fmt, with fmt's text TOLD by the authors' own Lean function (tested against real Go, not proved from fmt's source: count such statements apart). THE CARD IS WHAT COUNTS. Prove the row's statement (the work); the ties are given (YtgehdbenidimlaaGreatDoorTie.lean); close each card by the builder's one call (the guide's Derived/Test/ToyasCard.lean, 'card_holds'). Laid BY PROGRAM, IN A SANDBOX (cutbox-door.mjs). By AI agents, Wed Nov 11 2026. No macro, syntax, notation, axiom, sorry.
-/
import Derived.Test.YtgehdbenidimlaaGreatDoorRows
import GoSem.ClaimSeven
namespace Go.Proofs.YtgehdbenidimlaaGreatDoor
namespace Rows

/-- THE TIED CARD OF 'flowpipelaw38.MatexpErrors'. -/
def matexpErrorsCard : Claim7 := { stood := { row := matexpErrorsRow, standIns := [], harness := (true, "8554de65377608c3483e834f34c3c92cc403bb69dd3e94823ee3e306b641b93e"), looks := false }, kinds := [], alts := [], laidByText := true, laidKinds := [.data], laidTests := true, laidLooks := .later }
def MatexpErrorsCardSaid : Prop := Claim7.holds Tryz.pinned (.plain (OpenSpec.ofChange matexpErrorsSpec)) matexpErrorsCard

/-- THE TIED CARD OF 'flowpipelaw38.MatexpLinear'. -/
def matexpLinearCard : Claim7 := { stood := { row := matexpLinearRow, standIns := [], harness := (true, "8554de65377608c3483e834f34c3c92cc403bb69dd3e94823ee3e306b641b93e"), looks := false }, kinds := [], alts := [], laidByText := true, laidKinds := [.data], laidTests := true, laidLooks := .later }
def MatexpLinearCardSaid : Prop := Claim7.holds Tryz.pinned (.plain (OpenSpec.ofChange matexpLinearSpec)) matexpLinearCard

/-- THE TIED CARD OF 'flowpipelaw38.MatexpNilpotent'. -/
def matexpNilpotentCard : Claim7 := { stood := { row := matexpNilpotentRow, standIns := [], harness := (true, "8554de65377608c3483e834f34c3c92cc403bb69dd3e94823ee3e306b641b93e"), looks := false }, kinds := [], alts := [], laidByText := true, laidKinds := [.data], laidTests := true, laidLooks := .later }
def MatexpNilpotentCardSaid : Prop := Claim7.holds Tryz.pinned (.plain (OpenSpec.ofChange matexpNilpotentSpec)) matexpNilpotentCard

/-- THE TIED CARD OF 'flowpipelaw38.MatexpGroup'. -/
def matexpGroupCard : Claim7 := { stood := { row := matexpGroupRow, standIns := [], harness := (true, "8554de65377608c3483e834f34c3c92cc403bb69dd3e94823ee3e306b641b93e"), looks := false }, kinds := [], alts := [], laidByText := true, laidKinds := [.data], laidTests := true, laidLooks := .later }
def MatexpGroupCardSaid : Prop := Claim7.holds Tryz.pinned (.plain (OpenSpec.ofChange matexpGroupSpec)) matexpGroupCard

/-- THE SECOND FORM's CARD OF 'flowpipelaw38.MatexpErrors'. -/
def matexpErrorsUptoCard : Claim7 := { stood := { row := matexpErrorsUptoRow, standIns := [], harness := (true, "8554de65377608c3483e834f34c3c92cc403bb69dd3e94823ee3e306b641b93e"), looks := false }, kinds := [], alts := [], laidByText := true, laidKinds := [.data], laidTests := true, laidLooks := .later }
def MatexpErrorsUptoCardSaid : Prop := Claim7.holds Tryz.pinned (.plain (OpenSpec.upto matexpErrorsSpec)) matexpErrorsUptoCard

/-- THE SECOND FORM's CARD OF 'flowpipelaw38.MatexpLinear'. -/
def matexpLinearUptoCard : Claim7 := { stood := { row := matexpLinearUptoRow, standIns := [], harness := (true, "8554de65377608c3483e834f34c3c92cc403bb69dd3e94823ee3e306b641b93e"), looks := false }, kinds := [], alts := [], laidByText := true, laidKinds := [.data], laidTests := true, laidLooks := .later }
def MatexpLinearUptoCardSaid : Prop := Claim7.holds Tryz.pinned (.plain (OpenSpec.upto matexpLinearSpec)) matexpLinearUptoCard

/-- THE SECOND FORM's CARD OF 'flowpipelaw38.MatexpNilpotent'. -/
def matexpNilpotentUptoCard : Claim7 := { stood := { row := matexpNilpotentUptoRow, standIns := [], harness := (true, "8554de65377608c3483e834f34c3c92cc403bb69dd3e94823ee3e306b641b93e"), looks := false }, kinds := [], alts := [], laidByText := true, laidKinds := [.data], laidTests := true, laidLooks := .later }
def MatexpNilpotentUptoCardSaid : Prop := Claim7.holds Tryz.pinned (.plain (OpenSpec.upto matexpNilpotentSpec)) matexpNilpotentUptoCard

/-- THE SECOND FORM's CARD OF 'flowpipelaw38.MatexpGroup'. -/
def matexpGroupUptoCard : Claim7 := { stood := { row := matexpGroupUptoRow, standIns := [], harness := (true, "8554de65377608c3483e834f34c3c92cc403bb69dd3e94823ee3e306b641b93e"), looks := false }, kinds := [], alts := [], laidByText := true, laidKinds := [.data], laidTests := true, laidLooks := .later }
def MatexpGroupUptoCardSaid : Prop := Claim7.holds Tryz.pinned (.plain (OpenSpec.upto matexpGroupSpec)) matexpGroupUptoCard
end Rows
end Go.Proofs.YtgehdbenidimlaaGreatDoor
