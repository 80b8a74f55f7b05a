/-
  DERIVED. GIVEN WITH THE SEED: THE CARDS: each row of YtglcmhldonkfdaaDoorRows.lean that lists a variable, with what it lists TIED to the program's text (the seventh form; the later family's looks); each row that meets fmt, with fmt's text TOLD by the authors' own Lean function (tested against real Go, not proved from fmt's source: count such statements apart). THE CARD IS WHAT COUNTS. Prove the row's statement (the work); the ties are given (YtglcmhldonkfdaaDoorTie.lean); close each card by the builder's one call (the guide's Derived/Test/ToyasCard.lean, 'card_holds'). Laid BY PROGRAM, IN A SANDBOX (cutbox-door.mjs). By AI agents, Wed Nov 11 2026. No macro, syntax, notation, axiom, sorry.
-/
import Derived.Test.YtglcmhldonkfdaaDoorRows
import GoSem.ClaimSeven
namespace Go.Proofs.YtglcmhldonkfdaaDoor
namespace Rows

/-- THE TIED CARD OF 'armillarylaw04.MatrixApplyInclusion'. -/
def matrixApplyInclusionCard : Claim7 := { stood := { row := matrixApplyInclusionRow, standIns := [], harness := (true, "95637fcafaba1b6a38907c87fa67a7425f2f3202b7572380052f27bce0addaa5"), looks := false }, kinds := [], alts := [], laidByText := true, laidKinds := [.funcs, .funcs], laidTests := true, laidLooks := .later }
def MatrixApplyInclusionCardSaid : Prop := Claim7.holds Tryd.pinned (.plain (OpenSpec.ofChange matrixApplyInclusionSpec)) matrixApplyInclusionCard

/-- THE TIED CARD OF 'armillarylaw04.MatrixMulInclusion'. -/
def matrixMulInclusionCard : Claim7 := { stood := { row := matrixMulInclusionRow, standIns := [], harness := (true, "95637fcafaba1b6a38907c87fa67a7425f2f3202b7572380052f27bce0addaa5"), looks := false }, kinds := [], alts := [], laidByText := true, laidKinds := [.funcs, .funcs], laidTests := true, laidLooks := .later }
def MatrixMulInclusionCardSaid : Prop := Claim7.holds Tryd.pinned (.plain (OpenSpec.ofChange matrixMulInclusionSpec)) matrixMulInclusionCard

/-- THE TIED CARD OF 'armillarylaw04.MatrixIsotonicity'. -/
def matrixIsotonicityCard : Claim7 := { stood := { row := matrixIsotonicityRow, standIns := [], harness := (true, "95637fcafaba1b6a38907c87fa67a7425f2f3202b7572380052f27bce0addaa5"), looks := false }, kinds := [], alts := [], laidByText := true, laidKinds := [.funcs, .funcs], laidTests := true, laidLooks := .later }
def MatrixIsotonicityCardSaid : Prop := Claim7.holds Tryd.pinned (.plain (OpenSpec.ofChange matrixIsotonicitySpec)) matrixIsotonicityCard

/-- THE TIED CARD OF 'armillarylaw04.MatrixTransposition'. -/
def matrixTranspositionCard : Claim7 := { stood := { row := matrixTranspositionRow, standIns := [], harness := (true, "95637fcafaba1b6a38907c87fa67a7425f2f3202b7572380052f27bce0addaa5"), looks := false }, kinds := [], alts := [], laidByText := true, laidKinds := [.funcs, .funcs], laidTests := true, laidLooks := .later }
def MatrixTranspositionCardSaid : Prop := Claim7.holds Tryd.pinned (.plain (OpenSpec.ofChange matrixTranspositionSpec)) matrixTranspositionCard

/-- THE TIED CARD OF 'armillarylaw04.MatrixOrthogonality'. -/
def matrixOrthogonalityCard : Claim7 := { stood := { row := matrixOrthogonalityRow, standIns := [], harness := (true, "95637fcafaba1b6a38907c87fa67a7425f2f3202b7572380052f27bce0addaa5"), looks := false }, kinds := [], alts := [], laidByText := true, laidKinds := [.funcs, .funcs], laidTests := true, laidLooks := .later }
def MatrixOrthogonalityCardSaid : Prop := Claim7.holds Tryd.pinned (.plain (OpenSpec.ofChange matrixOrthogonalitySpec)) matrixOrthogonalityCard

/-- THE TIED CARD OF 'armillarylaw04.MatrixOrthogonalizeIdempotent'. -/
def matrixOrthogonalizeIdempotentCard : Claim7 := { stood := { row := matrixOrthogonalizeIdempotentRow, standIns := [], harness := (true, "95637fcafaba1b6a38907c87fa67a7425f2f3202b7572380052f27bce0addaa5"), looks := false }, kinds := [], alts := [], laidByText := true, laidKinds := [.funcs, .funcs], laidTests := true, laidLooks := .later }
def MatrixOrthogonalizeIdempotentCardSaid : Prop := Claim7.holds Tryd.pinned (.plain (OpenSpec.ofChange matrixOrthogonalizeIdempotentSpec)) matrixOrthogonalizeIdempotentCard

/-- THE TIED CARD OF 'armillarylaw04.MatrixInverseInclusion'. -/
def matrixInverseInclusionCard : Claim7 := { stood := { row := matrixInverseInclusionRow, standIns := [], harness := (true, "95637fcafaba1b6a38907c87fa67a7425f2f3202b7572380052f27bce0addaa5"), looks := false }, kinds := [], alts := [], laidByText := true, laidKinds := [.funcs, .funcs], laidTests := true, laidLooks := .later }
def MatrixInverseInclusionCardSaid : Prop := Claim7.holds Tryd.pinned (.plain (OpenSpec.ofChange matrixInverseInclusionSpec)) matrixInverseInclusionCard

/-- THE TIED CARD OF 'armillarylaw04.MatrixInverseSingular'. -/
def matrixInverseSingularCard : Claim7 := { stood := { row := matrixInverseSingularRow, standIns := [], harness := (true, "95637fcafaba1b6a38907c87fa67a7425f2f3202b7572380052f27bce0addaa5"), looks := false }, kinds := [], alts := [], laidByText := true, laidKinds := [.funcs, .funcs], laidTests := true, laidLooks := .later }
def MatrixInverseSingularCardSaid : Prop := Claim7.holds Tryd.pinned (.plain (OpenSpec.ofChange matrixInverseSingularSpec)) matrixInverseSingularCard

/-- THE SECOND FORM's CARD OF 'armillarylaw04.MatrixApplyInclusion'. -/
def matrixApplyInclusionUptoCard : Claim7 := { stood := { row := matrixApplyInclusionUptoRow, standIns := [], harness := (true, "95637fcafaba1b6a38907c87fa67a7425f2f3202b7572380052f27bce0addaa5"), looks := false }, kinds := [], alts := [], laidByText := true, laidKinds := [.funcs, .funcs], laidTests := true, laidLooks := .later }
def MatrixApplyInclusionUptoCardSaid : Prop := Claim7.holds Tryd.pinned (.plain (OpenSpec.upto matrixApplyInclusionSpec)) matrixApplyInclusionUptoCard

/-- THE SECOND FORM's CARD OF 'armillarylaw04.MatrixMulInclusion'. -/
def matrixMulInclusionUptoCard : Claim7 := { stood := { row := matrixMulInclusionUptoRow, standIns := [], harness := (true, "95637fcafaba1b6a38907c87fa67a7425f2f3202b7572380052f27bce0addaa5"), looks := false }, kinds := [], alts := [], laidByText := true, laidKinds := [.funcs, .funcs], laidTests := true, laidLooks := .later }
def MatrixMulInclusionUptoCardSaid : Prop := Claim7.holds Tryd.pinned (.plain (OpenSpec.upto matrixMulInclusionSpec)) matrixMulInclusionUptoCard

/-- THE SECOND FORM's CARD OF 'armillarylaw04.MatrixIsotonicity'. -/
def matrixIsotonicityUptoCard : Claim7 := { stood := { row := matrixIsotonicityUptoRow, standIns := [], harness := (true, "95637fcafaba1b6a38907c87fa67a7425f2f3202b7572380052f27bce0addaa5"), looks := false }, kinds := [], alts := [], laidByText := true, laidKinds := [.funcs, .funcs], laidTests := true, laidLooks := .later }
def MatrixIsotonicityUptoCardSaid : Prop := Claim7.holds Tryd.pinned (.plain (OpenSpec.upto matrixIsotonicitySpec)) matrixIsotonicityUptoCard

/-- THE SECOND FORM's CARD OF 'armillarylaw04.MatrixTransposition'. -/
def matrixTranspositionUptoCard : Claim7 := { stood := { row := matrixTranspositionUptoRow, standIns := [], harness := (true, "95637fcafaba1b6a38907c87fa67a7425f2f3202b7572380052f27bce0addaa5"), looks := false }, kinds := [], alts := [], laidByText := true, laidKinds := [.funcs, .funcs], laidTests := true, laidLooks := .later }
def MatrixTranspositionUptoCardSaid : Prop := Claim7.holds Tryd.pinned (.plain (OpenSpec.upto matrixTranspositionSpec)) matrixTranspositionUptoCard

/-- THE SECOND FORM's CARD OF 'armillarylaw04.MatrixOrthogonality'. -/
def matrixOrthogonalityUptoCard : Claim7 := { stood := { row := matrixOrthogonalityUptoRow, standIns := [], harness := (true, "95637fcafaba1b6a38907c87fa67a7425f2f3202b7572380052f27bce0addaa5"), looks := false }, kinds := [], alts := [], laidByText := true, laidKinds := [.funcs, .funcs], laidTests := true, laidLooks := .later }
def MatrixOrthogonalityUptoCardSaid : Prop := Claim7.holds Tryd.pinned (.plain (OpenSpec.upto matrixOrthogonalitySpec)) matrixOrthogonalityUptoCard

/-- THE SECOND FORM's CARD OF 'armillarylaw04.MatrixOrthogonalizeIdempotent'. -/
def matrixOrthogonalizeIdempotentUptoCard : Claim7 := { stood := { row := matrixOrthogonalizeIdempotentUptoRow, standIns := [], harness := (true, "95637fcafaba1b6a38907c87fa67a7425f2f3202b7572380052f27bce0addaa5"), looks := false }, kinds := [], alts := [], laidByText := true, laidKinds := [.funcs, .funcs], laidTests := true, laidLooks := .later }
def MatrixOrthogonalizeIdempotentUptoCardSaid : Prop := Claim7.holds Tryd.pinned (.plain (OpenSpec.upto matrixOrthogonalizeIdempotentSpec)) matrixOrthogonalizeIdempotentUptoCard

/-- THE SECOND FORM's CARD OF 'armillarylaw04.MatrixInverseInclusion'. -/
def matrixInverseInclusionUptoCard : Claim7 := { stood := { row := matrixInverseInclusionUptoRow, standIns := [], harness := (true, "95637fcafaba1b6a38907c87fa67a7425f2f3202b7572380052f27bce0addaa5"), looks := false }, kinds := [], alts := [], laidByText := true, laidKinds := [.funcs, .funcs], laidTests := true, laidLooks := .later }
def MatrixInverseInclusionUptoCardSaid : Prop := Claim7.holds Tryd.pinned (.plain (OpenSpec.upto matrixInverseInclusionSpec)) matrixInverseInclusionUptoCard

/-- THE SECOND FORM's CARD OF 'armillarylaw04.MatrixInverseSingular'. -/
def matrixInverseSingularUptoCard : Claim7 := { stood := { row := matrixInverseSingularUptoRow, standIns := [], harness := (true, "95637fcafaba1b6a38907c87fa67a7425f2f3202b7572380052f27bce0addaa5"), looks := false }, kinds := [], alts := [], laidByText := true, laidKinds := [.funcs, .funcs], laidTests := true, laidLooks := .later }
def MatrixInverseSingularUptoCardSaid : Prop := Claim7.holds Tryd.pinned (.plain (OpenSpec.upto matrixInverseSingularSpec)) matrixInverseSingularUptoCard
end Rows
end Go.Proofs.YtglcmhldonkfdaaDoor
