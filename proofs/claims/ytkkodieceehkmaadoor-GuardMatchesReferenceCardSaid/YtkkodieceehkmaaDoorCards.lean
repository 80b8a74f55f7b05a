/-
  DERIVED. GIVEN WITH THE SEED: THE CARDS: each row of YtkkodieceehkmaaDoorRows.lean that lists a variable, with what it lists TIED to the program's text (the seventh form; the later family's looks); each row that meets fmt, with fmt's text TOLD by the authors' own Lean function (tested against real Go, not proved from fmt's source: count such statements apart). THE CARD IS WHAT COUNTS. Prove the row's statement (the work); the ties are given (YtkkodieceehkmaaDoorTie.lean); close each card by the builder's one call (the guide's Derived/Test/ToyasCard.lean, 'card_holds'). Laid BY PROGRAM, IN A SANDBOX (cutbox-door.mjs). By AI agents, Wed Nov 11 2026. No macro, syntax, notation, axiom, sorry.
-/
import Derived.Test.YtkkodieceehkmaaDoorRows
import GoSem.ClaimSeven
namespace Go.Proofs.YtkkodieceehkmaaDoor
namespace Rows

/-- THE TIED CARD OF 'armillarylaw15.GuardMatchesReference'. -/
def guardMatchesReferenceCard : Claim7 := { stood := { row := guardMatchesReferenceRow, standIns := [], harness := (true, "cc31d6fc2efee4bd73f50eee813e8436d00bb4c2a1c8f32a3dd37293ceb400f7"), looks := false }, kinds := [], alts := [], laidByText := true, laidKinds := [.funcs, .funcs], laidTests := true, laidLooks := .later }
def GuardMatchesReferenceCardSaid : Prop := Claim7.holds Tryd.pinned (.plain (OpenSpec.ofChange guardMatchesReferenceSpec)) guardMatchesReferenceCard

/-- THE TIED CARD OF 'armillarylaw15.GuardDirections'. -/
def guardDirectionsCard : Claim7 := { stood := { row := guardDirectionsRow, standIns := [], harness := (true, "cc31d6fc2efee4bd73f50eee813e8436d00bb4c2a1c8f32a3dd37293ceb400f7"), looks := false }, kinds := [], alts := [], laidByText := true, laidKinds := [.funcs, .funcs], laidTests := true, laidLooks := .later }
def GuardDirectionsCardSaid : Prop := Claim7.holds Tryd.pinned (.plain (OpenSpec.ofChange guardDirectionsSpec)) guardDirectionsCard

/-- THE TIED CARD OF 'armillarylaw15.GuardRefinement'. -/
def guardRefinementCard : Claim7 := { stood := { row := guardRefinementRow, standIns := [], harness := (true, "cc31d6fc2efee4bd73f50eee813e8436d00bb4c2a1c8f32a3dd37293ceb400f7"), looks := false }, kinds := [], alts := [], laidByText := true, laidKinds := [.funcs, .funcs], laidTests := true, laidLooks := .later }
def GuardRefinementCardSaid : Prop := Claim7.holds Tryd.pinned (.plain (OpenSpec.ofChange guardRefinementSpec)) guardRefinementCard

/-- THE TIED CARD OF 'armillarylaw15.GuardSoundForLines'. -/
def guardSoundForLinesCard : Claim7 := { stood := { row := guardSoundForLinesRow, standIns := [], harness := (true, "cc31d6fc2efee4bd73f50eee813e8436d00bb4c2a1c8f32a3dd37293ceb400f7"), looks := false }, kinds := [], alts := [], laidByText := true, laidKinds := [.funcs, .funcs], laidTests := true, laidLooks := .later }
def GuardSoundForLinesCardSaid : Prop := Claim7.holds Tryd.pinned (.plain (OpenSpec.ofChange guardSoundForLinesSpec)) guardSoundForLinesCard

/-- THE TIED CARD OF 'armillarylaw15.GuardSideIsotone'. -/
def guardSideIsotoneCard : Claim7 := { stood := { row := guardSideIsotoneRow, standIns := [], harness := (true, "cc31d6fc2efee4bd73f50eee813e8436d00bb4c2a1c8f32a3dd37293ceb400f7"), looks := false }, kinds := [], alts := [], laidByText := true, laidKinds := [.funcs, .funcs], laidTests := true, laidLooks := .later }
def GuardSideIsotoneCardSaid : Prop := Claim7.holds Tryd.pinned (.plain (OpenSpec.ofChange guardSideIsotoneSpec)) guardSideIsotoneCard

/-- THE SECOND FORM's CARD OF 'armillarylaw15.GuardMatchesReference'. -/
def guardMatchesReferenceUptoCard : Claim7 := { stood := { row := guardMatchesReferenceUptoRow, standIns := [], harness := (true, "cc31d6fc2efee4bd73f50eee813e8436d00bb4c2a1c8f32a3dd37293ceb400f7"), looks := false }, kinds := [], alts := [], laidByText := true, laidKinds := [.funcs, .funcs], laidTests := true, laidLooks := .later }
def GuardMatchesReferenceUptoCardSaid : Prop := Claim7.holds Tryd.pinned (.plain (OpenSpec.upto guardMatchesReferenceSpec)) guardMatchesReferenceUptoCard

/-- THE SECOND FORM's CARD OF 'armillarylaw15.GuardDirections'. -/
def guardDirectionsUptoCard : Claim7 := { stood := { row := guardDirectionsUptoRow, standIns := [], harness := (true, "cc31d6fc2efee4bd73f50eee813e8436d00bb4c2a1c8f32a3dd37293ceb400f7"), looks := false }, kinds := [], alts := [], laidByText := true, laidKinds := [.funcs, .funcs], laidTests := true, laidLooks := .later }
def GuardDirectionsUptoCardSaid : Prop := Claim7.holds Tryd.pinned (.plain (OpenSpec.upto guardDirectionsSpec)) guardDirectionsUptoCard

/-- THE SECOND FORM's CARD OF 'armillarylaw15.GuardRefinement'. -/
def guardRefinementUptoCard : Claim7 := { stood := { row := guardRefinementUptoRow, standIns := [], harness := (true, "cc31d6fc2efee4bd73f50eee813e8436d00bb4c2a1c8f32a3dd37293ceb400f7"), looks := false }, kinds := [], alts := [], laidByText := true, laidKinds := [.funcs, .funcs], laidTests := true, laidLooks := .later }
def GuardRefinementUptoCardSaid : Prop := Claim7.holds Tryd.pinned (.plain (OpenSpec.upto guardRefinementSpec)) guardRefinementUptoCard

/-- THE SECOND FORM's CARD OF 'armillarylaw15.GuardSoundForLines'. -/
def guardSoundForLinesUptoCard : Claim7 := { stood := { row := guardSoundForLinesUptoRow, standIns := [], harness := (true, "cc31d6fc2efee4bd73f50eee813e8436d00bb4c2a1c8f32a3dd37293ceb400f7"), looks := false }, kinds := [], alts := [], laidByText := true, laidKinds := [.funcs, .funcs], laidTests := true, laidLooks := .later }
def GuardSoundForLinesUptoCardSaid : Prop := Claim7.holds Tryd.pinned (.plain (OpenSpec.upto guardSoundForLinesSpec)) guardSoundForLinesUptoCard

/-- THE SECOND FORM's CARD OF 'armillarylaw15.GuardSideIsotone'. -/
def guardSideIsotoneUptoCard : Claim7 := { stood := { row := guardSideIsotoneUptoRow, standIns := [], harness := (true, "cc31d6fc2efee4bd73f50eee813e8436d00bb4c2a1c8f32a3dd37293ceb400f7"), looks := false }, kinds := [], alts := [], laidByText := true, laidKinds := [.funcs, .funcs], laidTests := true, laidLooks := .later }
def GuardSideIsotoneUptoCardSaid : Prop := Claim7.holds Tryd.pinned (.plain (OpenSpec.upto guardSideIsotoneSpec)) guardSideIsotoneUptoCard
end Rows
end Go.Proofs.YtkkodieceehkmaaDoor
