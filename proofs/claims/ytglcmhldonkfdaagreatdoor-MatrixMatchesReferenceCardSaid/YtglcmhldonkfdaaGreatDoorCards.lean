/-
  DERIVED. GIVEN WITH THE SEED: THE CARDS: each row of YtglcmhldonkfdaaGreatDoorRows.lean that lists a variable, with what it lists TIED to the program's text (the seventh form; the later family's looks); each row that meets fmt, with fmt's text TOLD by the authors' own Lean function (tested against real Go, not proved from fmt's source: count such statements apart). THE CARD IS WHAT COUNTS. Prove the row's statement (the work); the ties are given (YtglcmhldonkfdaaGreatDoorTie.lean); close each card by the builder's one call (the guide's Derived/Test/ToyasCard.lean, 'card_holds'). Laid BY PROGRAM, IN A SANDBOX (cutbox-door.mjs). By AI agents, Wed Nov 11 2026. No macro, syntax, notation, axiom, sorry.
-/
import Derived.Test.YtglcmhldonkfdaaGreatDoorRows
import GoSem.ClaimSeven
namespace Go.Proofs.YtglcmhldonkfdaaGreatDoor
namespace Rows

/-- THE TIED CARD OF 'armillarylaw04.MatrixMatchesReference'. -/
def matrixMatchesReferenceCard : Claim7 := { stood := { row := matrixMatchesReferenceRow, standIns := [], harness := (true, "c629cd7b3270d985e3254f822a336490f83dad88c094ea59b542f7d2e6d1fa04"), looks := false }, kinds := [], alts := [], laidByText := true, laidKinds := [.funcs, .funcs], laidTests := true, laidLooks := .later }
def MatrixMatchesReferenceCardSaid : Prop := Claim7.holds Tryz.pinned (.plain (OpenSpec.ofChange matrixMatchesReferenceSpec)) matrixMatchesReferenceCard

/-- THE SECOND FORM's CARD OF 'armillarylaw04.MatrixMatchesReference'. -/
def matrixMatchesReferenceUptoCard : Claim7 := { stood := { row := matrixMatchesReferenceUptoRow, standIns := [], harness := (true, "c629cd7b3270d985e3254f822a336490f83dad88c094ea59b542f7d2e6d1fa04"), looks := false }, kinds := [], alts := [], laidByText := true, laidKinds := [.funcs, .funcs], laidTests := true, laidLooks := .later }
def MatrixMatchesReferenceUptoCardSaid : Prop := Claim7.holds Tryz.pinned (.plain (OpenSpec.upto matrixMatchesReferenceSpec)) matrixMatchesReferenceUptoCard
end Rows
end Go.Proofs.YtglcmhldonkfdaaGreatDoor
