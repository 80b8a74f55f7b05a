/-
  DERIVED. GIVEN WITH THE SEED: THE CARDS: each row of YtpmgpcklieincaaGreatDoorRows.lean that lists a variable, with what it lists TIED to the program's text (the seventh form; the later family's looks); each row that meets fmt, with fmt's text TOLD by the authors' own Lean function (tested against real Go, not proved from fmt's source: count such statements apart). THE CARD IS WHAT COUNTS. Prove the row's statement (the work); the ties are given (YtpmgpcklieincaaGreatDoorTie.lean); close each card by the builder's one call (the guide's Derived/Test/ToyasCard.lean, 'card_holds'). Laid BY PROGRAM, IN A SANDBOX (cutbox-door.mjs). By AI agents, Wed Nov 11 2026. No macro, syntax, notation, axiom, sorry.
-/
import Derived.Test.YtpmgpcklieincaaGreatDoorRows
import GoSem.ClaimSeven
namespace Go.Proofs.YtpmgpcklieincaaGreatDoor
namespace Rows

/-- THE TIED CARD OF 'armillarytop.TopFlowEnclosesDrift'. -/
def topFlowEnclosesDriftCard : Claim7 := { stood := { row := topFlowEnclosesDriftRow, standIns := [], harness := (true, "8b90149ca90a3f2a630488c3fe19f9e50dfd6fb4e92407a69642db45fe7cf3e9"), looks := true }, kinds := [], alts := [], laidByText := true, laidKinds := [.funcs, .funcs, .funcs], laidTests := true, laidLooks := .later }
def TopFlowEnclosesDriftCardSaid : Prop := Claim7.holds Tryz.pinned (.plain (OpenSpec.ofChange topFlowEnclosesDriftSpec)) topFlowEnclosesDriftCard

/-- THE TIED CARD OF 'armillarytop.TopFlowTimeShift'. -/
def topFlowTimeShiftCard : Claim7 := { stood := { row := topFlowTimeShiftRow, standIns := [], harness := (true, "8b90149ca90a3f2a630488c3fe19f9e50dfd6fb4e92407a69642db45fe7cf3e9"), looks := true }, kinds := [], alts := [], laidByText := true, laidKinds := [.funcs, .funcs, .funcs], laidTests := true, laidLooks := .later }
def TopFlowTimeShiftCardSaid : Prop := Claim7.holds Tryz.pinned (.plain (OpenSpec.ofChange topFlowTimeShiftSpec)) topFlowTimeShiftCard

/-- THE TIED CARD OF 'armillarytop.TopFlowsIntersect'. -/
def topFlowsIntersectCard : Claim7 := { stood := { row := topFlowsIntersectRow, standIns := [], harness := (true, "8b90149ca90a3f2a630488c3fe19f9e50dfd6fb4e92407a69642db45fe7cf3e9"), looks := true }, kinds := [], alts := [], laidByText := true, laidKinds := [.funcs, .funcs, .funcs], laidTests := true, laidLooks := .later }
def TopFlowsIntersectCardSaid : Prop := Claim7.holds Tryz.pinned (.plain (OpenSpec.ofChange topFlowsIntersectSpec)) topFlowsIntersectCard

/-- THE TIED CARD OF 'armillarytop.TopFlowFromPoint'. -/
def topFlowFromPointCard : Claim7 := { stood := { row := topFlowFromPointRow, standIns := [], harness := (true, "8b90149ca90a3f2a630488c3fe19f9e50dfd6fb4e92407a69642db45fe7cf3e9"), looks := true }, kinds := [], alts := [], laidByText := true, laidKinds := [.funcs, .funcs, .funcs], laidTests := true, laidLooks := .later }
def TopFlowFromPointCardSaid : Prop := Claim7.holds Tryz.pinned (.plain (OpenSpec.ofChange topFlowFromPointSpec)) topFlowFromPointCard

/-- THE TIED CARD OF 'armillarytop.TopClearedPairsStayApart'. -/
def topClearedPairsStayApartCard : Claim7 := { stood := { row := topClearedPairsStayApartRow, standIns := [], harness := (true, "8b90149ca90a3f2a630488c3fe19f9e50dfd6fb4e92407a69642db45fe7cf3e9"), looks := true }, kinds := [], alts := [], laidByText := true, laidKinds := [.funcs, .funcs, .funcs], laidTests := true, laidLooks := .later }
def TopClearedPairsStayApartCardSaid : Prop := Claim7.holds Tryz.pinned (.plain (OpenSpec.ofChange topClearedPairsStayApartSpec)) topClearedPairsStayApartCard

/-- THE TIED CARD OF 'armillarytop.TopConflictsAreReal'. -/
def topConflictsAreRealCard : Claim7 := { stood := { row := topConflictsAreRealRow, standIns := [], harness := (true, "8b90149ca90a3f2a630488c3fe19f9e50dfd6fb4e92407a69642db45fe7cf3e9"), looks := true }, kinds := [], alts := [], laidByText := true, laidKinds := [.funcs, .funcs, .funcs], laidTests := true, laidLooks := .later }
def TopConflictsAreRealCardSaid : Prop := Claim7.holds Tryz.pinned (.plain (OpenSpec.ofChange topConflictsAreRealSpec)) topConflictsAreRealCard

/-- THE SECOND FORM's CARD OF 'armillarytop.TopFlowEnclosesDrift'. -/
def topFlowEnclosesDriftUptoCard : Claim7 := { stood := { row := topFlowEnclosesDriftUptoRow, standIns := [], harness := (true, "8b90149ca90a3f2a630488c3fe19f9e50dfd6fb4e92407a69642db45fe7cf3e9"), looks := true }, kinds := [], alts := [], laidByText := true, laidKinds := [.funcs, .funcs, .funcs], laidTests := true, laidLooks := .later }
def TopFlowEnclosesDriftUptoCardSaid : Prop := Claim7.holds Tryz.pinned (.plain (OpenSpec.upto topFlowEnclosesDriftSpec)) topFlowEnclosesDriftUptoCard

/-- THE SECOND FORM's CARD OF 'armillarytop.TopFlowTimeShift'. -/
def topFlowTimeShiftUptoCard : Claim7 := { stood := { row := topFlowTimeShiftUptoRow, standIns := [], harness := (true, "8b90149ca90a3f2a630488c3fe19f9e50dfd6fb4e92407a69642db45fe7cf3e9"), looks := true }, kinds := [], alts := [], laidByText := true, laidKinds := [.funcs, .funcs, .funcs], laidTests := true, laidLooks := .later }
def TopFlowTimeShiftUptoCardSaid : Prop := Claim7.holds Tryz.pinned (.plain (OpenSpec.upto topFlowTimeShiftSpec)) topFlowTimeShiftUptoCard

/-- THE SECOND FORM's CARD OF 'armillarytop.TopFlowsIntersect'. -/
def topFlowsIntersectUptoCard : Claim7 := { stood := { row := topFlowsIntersectUptoRow, standIns := [], harness := (true, "8b90149ca90a3f2a630488c3fe19f9e50dfd6fb4e92407a69642db45fe7cf3e9"), looks := true }, kinds := [], alts := [], laidByText := true, laidKinds := [.funcs, .funcs, .funcs], laidTests := true, laidLooks := .later }
def TopFlowsIntersectUptoCardSaid : Prop := Claim7.holds Tryz.pinned (.plain (OpenSpec.upto topFlowsIntersectSpec)) topFlowsIntersectUptoCard

/-- THE SECOND FORM's CARD OF 'armillarytop.TopFlowFromPoint'. -/
def topFlowFromPointUptoCard : Claim7 := { stood := { row := topFlowFromPointUptoRow, standIns := [], harness := (true, "8b90149ca90a3f2a630488c3fe19f9e50dfd6fb4e92407a69642db45fe7cf3e9"), looks := true }, kinds := [], alts := [], laidByText := true, laidKinds := [.funcs, .funcs, .funcs], laidTests := true, laidLooks := .later }
def TopFlowFromPointUptoCardSaid : Prop := Claim7.holds Tryz.pinned (.plain (OpenSpec.upto topFlowFromPointSpec)) topFlowFromPointUptoCard

/-- THE SECOND FORM's CARD OF 'armillarytop.TopClearedPairsStayApart'. -/
def topClearedPairsStayApartUptoCard : Claim7 := { stood := { row := topClearedPairsStayApartUptoRow, standIns := [], harness := (true, "8b90149ca90a3f2a630488c3fe19f9e50dfd6fb4e92407a69642db45fe7cf3e9"), looks := true }, kinds := [], alts := [], laidByText := true, laidKinds := [.funcs, .funcs, .funcs], laidTests := true, laidLooks := .later }
def TopClearedPairsStayApartUptoCardSaid : Prop := Claim7.holds Tryz.pinned (.plain (OpenSpec.upto topClearedPairsStayApartSpec)) topClearedPairsStayApartUptoCard

/-- THE SECOND FORM's CARD OF 'armillarytop.TopConflictsAreReal'. -/
def topConflictsAreRealUptoCard : Claim7 := { stood := { row := topConflictsAreRealUptoRow, standIns := [], harness := (true, "8b90149ca90a3f2a630488c3fe19f9e50dfd6fb4e92407a69642db45fe7cf3e9"), looks := true }, kinds := [], alts := [], laidByText := true, laidKinds := [.funcs, .funcs, .funcs], laidTests := true, laidLooks := .later }
def TopConflictsAreRealUptoCardSaid : Prop := Claim7.holds Tryz.pinned (.plain (OpenSpec.upto topConflictsAreRealSpec)) topConflictsAreRealUptoCard
end Rows
end Go.Proofs.YtpmgpcklieincaaGreatDoor
