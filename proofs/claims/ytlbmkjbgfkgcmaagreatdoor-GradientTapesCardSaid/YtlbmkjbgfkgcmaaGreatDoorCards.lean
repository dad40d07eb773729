/-
  DERIVED. GIVEN WITH THE SEED: THE CARDS: each row of YtlbmkjbgfkgcmaaGreatDoorRows.lean that lists a variable, with what it lists TIED to the program's text (the seventh form; the later family's looks); each row that meets fmt, with fmt's text TOLD by the authors' own Lean function (tested against real Go, not proved from fmt's source: count such statements apart). THE CARD IS WHAT COUNTS. Prove the row's statement (the work); the ties are given (YtlbmkjbgfkgcmaaGreatDoorTie.lean); close each card by the builder's one call (the guide's Derived/Test/ToyasCard.lean, 'card_holds'). Laid BY PROGRAM, IN A SANDBOX (cutbox-door.mjs). By AI agents, Wed Nov 11 2026. No macro, syntax, notation, axiom, sorry.
-/
import Derived.Test.YtlbmkjbgfkgcmaaGreatDoorRows
import GoSem.ClaimSeven
namespace Go.Proofs.YtlbmkjbgfkgcmaaGreatDoor
namespace Rows

/-- THE TIED CARD OF 'flowpipelaw20.GradientTapes'. -/
def gradientTapesCard : Claim7 := { stood := { row := gradientTapesRow, standIns := [], harness := (true, "9344ebfd9e2b0322ce090b07a780a2559096772c8537f2630dca2ae199bb9eb5"), looks := false }, kinds := [], alts := [], laidByText := true, laidKinds := [.data], laidTests := true, laidLooks := .later }
def GradientTapesCardSaid : Prop := Claim7.holds Tryz.pinned (.plain (OpenSpec.ofChange gradientTapesSpec)) gradientTapesCard

/-- THE TIED CARD OF 'flowpipelaw20.GradientSmaller'. -/
def gradientSmallerCard : Claim7 := { stood := { row := gradientSmallerRow, standIns := [], harness := (true, "9344ebfd9e2b0322ce090b07a780a2559096772c8537f2630dca2ae199bb9eb5"), looks := false }, kinds := [], alts := [], laidByText := true, laidKinds := [.data], laidTests := true, laidLooks := .later }
def GradientSmallerCardSaid : Prop := Claim7.holds Tryz.pinned (.plain (OpenSpec.ofChange gradientSmallerSpec)) gradientSmallerCard

/-- THE SECOND FORM's CARD OF 'flowpipelaw20.GradientTapes'. -/
def gradientTapesUptoCard : Claim7 := { stood := { row := gradientTapesUptoRow, standIns := [], harness := (true, "9344ebfd9e2b0322ce090b07a780a2559096772c8537f2630dca2ae199bb9eb5"), looks := false }, kinds := [], alts := [], laidByText := true, laidKinds := [.data], laidTests := true, laidLooks := .later }
def GradientTapesUptoCardSaid : Prop := Claim7.holds Tryz.pinned (.plain (OpenSpec.upto gradientTapesSpec)) gradientTapesUptoCard

/-- THE SECOND FORM's CARD OF 'flowpipelaw20.GradientSmaller'. -/
def gradientSmallerUptoCard : Claim7 := { stood := { row := gradientSmallerUptoRow, standIns := [], harness := (true, "9344ebfd9e2b0322ce090b07a780a2559096772c8537f2630dca2ae199bb9eb5"), looks := false }, kinds := [], alts := [], laidByText := true, laidKinds := [.data], laidTests := true, laidLooks := .later }
def GradientSmallerUptoCardSaid : Prop := Claim7.holds Tryz.pinned (.plain (OpenSpec.upto gradientSmallerSpec)) gradientSmallerUptoCard
end Rows
end Go.Proofs.YtlbmkjbgfkgcmaaGreatDoor
