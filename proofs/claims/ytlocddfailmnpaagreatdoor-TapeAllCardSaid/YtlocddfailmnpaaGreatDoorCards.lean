/-
  DERIVED. GIVEN WITH THE SEED: THE CARDS: each row of YtlocddfailmnpaaGreatDoorRows.lean that lists a variable, with what it lists TIED to the program's text (the seventh form; the later family's looks); each row that meets fmt, with fmt's text TOLD by the authors' own Lean function (tested against real Go, not proved from fmt's source: count such statements apart). THE CARD IS WHAT COUNTS. Prove the row's statement (the work); the ties are given (YtlocddfailmnpaaGreatDoorTie.lean); close each card by the builder's one call (the guide's Derived/Test/ToyasCard.lean, 'card_holds'). Laid BY PROGRAM, IN A SANDBOX (cutbox-door.mjs). By AI agents, Wed Nov 11 2026. No macro, syntax, notation, axiom, sorry.
-/
import Derived.Test.YtlocddfailmnpaaGreatDoorRows
import GoSem.ClaimSeven
namespace Go.Proofs.YtlocddfailmnpaaGreatDoor
namespace Rows

/-- THE TIED CARD OF 'flowpipelaw19.TapeAll'. -/
def tapeAllCard : Claim7 := { stood := { row := tapeAllRow, standIns := [], harness := (true, "e367a5b6f7356a4f119db509770c80542f12b505c997f68941ff7968cd32990e"), looks := false }, kinds := [], alts := [], laidByText := true, laidKinds := [.data], laidTests := true, laidLooks := .later }
def TapeAllCardSaid : Prop := Claim7.holds Tryz.pinned (.plain (OpenSpec.ofChange tapeAllSpec)) tapeAllCard

/-- THE TIED CARD OF 'flowpipelaw19.TapeRuns'. -/
def tapeRunsCard : Claim7 := { stood := { row := tapeRunsRow, standIns := [], harness := (true, "e367a5b6f7356a4f119db509770c80542f12b505c997f68941ff7968cd32990e"), looks := false }, kinds := [], alts := [], laidByText := true, laidKinds := [.data], laidTests := true, laidLooks := .later }
def TapeRunsCardSaid : Prop := Claim7.holds Tryz.pinned (.plain (OpenSpec.ofChange tapeRunsSpec)) tapeRunsCard

/-- THE TIED CARD OF 'flowpipelaw19.TapeJoined'. -/
def tapeJoinedCard : Claim7 := { stood := { row := tapeJoinedRow, standIns := [], harness := (true, "e367a5b6f7356a4f119db509770c80542f12b505c997f68941ff7968cd32990e"), looks := false }, kinds := [], alts := [], laidByText := true, laidKinds := [.data], laidTests := true, laidLooks := .later }
def TapeJoinedCardSaid : Prop := Claim7.holds Tryz.pinned (.plain (OpenSpec.ofChange tapeJoinedSpec)) tapeJoinedCard

/-- THE SECOND FORM's CARD OF 'flowpipelaw19.TapeAll'. -/
def tapeAllUptoCard : Claim7 := { stood := { row := tapeAllUptoRow, standIns := [], harness := (true, "e367a5b6f7356a4f119db509770c80542f12b505c997f68941ff7968cd32990e"), looks := false }, kinds := [], alts := [], laidByText := true, laidKinds := [.data], laidTests := true, laidLooks := .later }
def TapeAllUptoCardSaid : Prop := Claim7.holds Tryz.pinned (.plain (OpenSpec.upto tapeAllSpec)) tapeAllUptoCard

/-- THE SECOND FORM's CARD OF 'flowpipelaw19.TapeRuns'. -/
def tapeRunsUptoCard : Claim7 := { stood := { row := tapeRunsUptoRow, standIns := [], harness := (true, "e367a5b6f7356a4f119db509770c80542f12b505c997f68941ff7968cd32990e"), looks := false }, kinds := [], alts := [], laidByText := true, laidKinds := [.data], laidTests := true, laidLooks := .later }
def TapeRunsUptoCardSaid : Prop := Claim7.holds Tryz.pinned (.plain (OpenSpec.upto tapeRunsSpec)) tapeRunsUptoCard

/-- THE SECOND FORM's CARD OF 'flowpipelaw19.TapeJoined'. -/
def tapeJoinedUptoCard : Claim7 := { stood := { row := tapeJoinedUptoRow, standIns := [], harness := (true, "e367a5b6f7356a4f119db509770c80542f12b505c997f68941ff7968cd32990e"), looks := false }, kinds := [], alts := [], laidByText := true, laidKinds := [.data], laidTests := true, laidLooks := .later }
def TapeJoinedUptoCardSaid : Prop := Claim7.holds Tryz.pinned (.plain (OpenSpec.upto tapeJoinedSpec)) tapeJoinedUptoCard
end Rows
end Go.Proofs.YtlocddfailmnpaaGreatDoor
