/-
  DERIVED. GIVEN WITH THE SEED: THE CARDS: each row of YthbgbmdmimejiaaGreatDoorRows.lean that lists a variable, with what it lists TIED to the program's text (the seventh form; the later family's looks); each row that meets fmt, with fmt's text TOLD by the authors' own Lean function (tested against real Go, not proved from fmt's source: count such statements apart). THE CARD IS WHAT COUNTS. Prove the row's statement (the work); the ties are given (YthbgbmdmimejiaaGreatDoorTie.lean); close each card by the builder's one call (the guide's Derived/Test/ToyasCard.lean, 'card_holds'). Laid BY PROGRAM, IN A SANDBOX (cutbox-door.mjs). By AI agents, Wed Nov 11 2026. No macro, syntax, notation, axiom, sorry.
-/
import Derived.Test.YthbgbmdmimejiaaGreatDoorRows
import GoSem.ClaimSeven
namespace Go.Proofs.YthbgbmdmimejiaaGreatDoor
namespace Rows

/-- THE TIED CARD OF 'flowpipelaw18.DeriveMeets'. -/
def deriveMeetsCard : Claim7 := { stood := { row := deriveMeetsRow, standIns := [], harness := (true, "8cd91e89b9e1f7288c917f756cc0e99093c0a9c67054e087874b6c1f0ade528d"), looks := false }, kinds := [], alts := [], laidByText := true, laidKinds := [.data], laidTests := true, laidLooks := .later }
def DeriveMeetsCardSaid : Prop := Claim7.holds Tryz.pinned (.plain (OpenSpec.ofChange deriveMeetsSpec)) deriveMeetsCard

/-- THE TIED CARD OF 'flowpipelaw19.TapeJoined'. -/
def tapeJoinedCard : Claim7 := { stood := { row := tapeJoinedRow, standIns := [], harness := (true, "8cd91e89b9e1f7288c917f756cc0e99093c0a9c67054e087874b6c1f0ade528d"), looks := false }, kinds := [], alts := [], laidByText := true, laidKinds := [.data], laidTests := true, laidLooks := .later }
def TapeJoinedCardSaid : Prop := Claim7.holds Tryz.pinned (.plain (OpenSpec.ofChange tapeJoinedSpec)) tapeJoinedCard

/-- THE SECOND FORM's CARD OF 'flowpipelaw18.DeriveMeets'. -/
def deriveMeetsUptoCard : Claim7 := { stood := { row := deriveMeetsUptoRow, standIns := [], harness := (true, "8cd91e89b9e1f7288c917f756cc0e99093c0a9c67054e087874b6c1f0ade528d"), looks := false }, kinds := [], alts := [], laidByText := true, laidKinds := [.data], laidTests := true, laidLooks := .later }
def DeriveMeetsUptoCardSaid : Prop := Claim7.holds Tryz.pinned (.plain (OpenSpec.upto deriveMeetsSpec)) deriveMeetsUptoCard

/-- THE SECOND FORM's CARD OF 'flowpipelaw19.TapeJoined'. -/
def tapeJoinedUptoCard : Claim7 := { stood := { row := tapeJoinedUptoRow, standIns := [], harness := (true, "8cd91e89b9e1f7288c917f756cc0e99093c0a9c67054e087874b6c1f0ade528d"), looks := false }, kinds := [], alts := [], laidByText := true, laidKinds := [.data], laidTests := true, laidLooks := .later }
def TapeJoinedUptoCardSaid : Prop := Claim7.holds Tryz.pinned (.plain (OpenSpec.upto tapeJoinedSpec)) tapeJoinedUptoCard
end Rows
end Go.Proofs.YthbgbmdmimejiaaGreatDoor
