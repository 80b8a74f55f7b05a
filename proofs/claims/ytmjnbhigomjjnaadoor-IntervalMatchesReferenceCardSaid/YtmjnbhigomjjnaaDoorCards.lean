/-
  DERIVED. GIVEN WITH THE SEED: THE CARDS: each row of YtmjnbhigomjjnaaDoorRows.lean that lists a variable, with what it lists TIED to the program's text (the seventh form; the later family's looks); each row that meets fmt, with fmt's text TOLD by the authors' own Lean function (tested against real Go, not proved from fmt's source: count such statements apart). THE CARD IS WHAT COUNTS. Prove the row's statement (the work); the ties are given (YtmjnbhigomjjnaaDoorTie.lean); close each card by the builder's one call (the guide's Derived/Test/ToyasCard.lean, 'card_holds'). Laid BY PROGRAM, IN A SANDBOX (cutbox-door.mjs). By AI agents, Wed Nov 11 2026. No macro, syntax, notation, axiom, sorry.
-/
import Derived.Test.YtmjnbhigomjjnaaDoorRows
import GoSem.ClaimSeven
namespace Go.Proofs.YtmjnbhigomjjnaaDoor
namespace Rows

/-- THE TIED CARD OF 'armillarylaw02.IntervalInclusion'. -/
def intervalInclusionCard : Claim7 := { stood := { row := intervalInclusionRow, standIns := [], harness := (true, "a02ccfd57a26923746b637a9062c67ca770692943b3665acd6f4c73499b3b86f"), looks := false }, kinds := [], alts := [], laidByText := true, laidKinds := [.funcs, .funcs], laidTests := true, laidLooks := .later }
def IntervalInclusionCardSaid : Prop := Claim7.holds Tryd.pinned (.plain (OpenSpec.ofChange intervalInclusionSpec)) intervalInclusionCard

/-- THE TIED CARD OF 'armillarylaw02.IntervalTightness'. -/
def intervalTightnessCard : Claim7 := { stood := { row := intervalTightnessRow, standIns := [], harness := (true, "a02ccfd57a26923746b637a9062c67ca770692943b3665acd6f4c73499b3b86f"), looks := false }, kinds := [], alts := [], laidByText := true, laidKinds := [.funcs, .funcs], laidTests := true, laidLooks := .later }
def IntervalTightnessCardSaid : Prop := Claim7.holds Tryd.pinned (.plain (OpenSpec.ofChange intervalTightnessSpec)) intervalTightnessCard

/-- THE TIED CARD OF 'armillarylaw02.IntervalIsotonic'. -/
def intervalIsotonicCard : Claim7 := { stood := { row := intervalIsotonicRow, standIns := [], harness := (true, "a02ccfd57a26923746b637a9062c67ca770692943b3665acd6f4c73499b3b86f"), looks := false }, kinds := [], alts := [], laidByText := true, laidKinds := [.funcs, .funcs], laidTests := true, laidLooks := .later }
def IntervalIsotonicCardSaid : Prop := Claim7.holds Tryd.pinned (.plain (OpenSpec.ofChange intervalIsotonicSpec)) intervalIsotonicCard

/-- THE TIED CARD OF 'armillarylaw02.IntervalSubdistributive'. -/
def intervalSubdistributiveCard : Claim7 := { stood := { row := intervalSubdistributiveRow, standIns := [], harness := (true, "a02ccfd57a26923746b637a9062c67ca770692943b3665acd6f4c73499b3b86f"), looks := false }, kinds := [], alts := [], laidByText := true, laidKinds := [.funcs, .funcs], laidTests := true, laidLooks := .later }
def IntervalSubdistributiveCardSaid : Prop := Claim7.holds Tryd.pinned (.plain (OpenSpec.ofChange intervalSubdistributiveSpec)) intervalSubdistributiveCard

/-- THE TIED CARD OF 'armillarylaw02.IntervalLattice'. -/
def intervalLatticeCard : Claim7 := { stood := { row := intervalLatticeRow, standIns := [], harness := (true, "a02ccfd57a26923746b637a9062c67ca770692943b3665acd6f4c73499b3b86f"), looks := false }, kinds := [], alts := [], laidByText := true, laidKinds := [.funcs, .funcs], laidTests := true, laidLooks := .later }
def IntervalLatticeCardSaid : Prop := Claim7.holds Tryd.pinned (.plain (OpenSpec.ofChange intervalLatticeSpec)) intervalLatticeCard

/-- THE TIED CARD OF 'armillarylaw02.IntervalMeasures'. -/
def intervalMeasuresCard : Claim7 := { stood := { row := intervalMeasuresRow, standIns := [], harness := (true, "a02ccfd57a26923746b637a9062c67ca770692943b3665acd6f4c73499b3b86f"), looks := false }, kinds := [], alts := [], laidByText := true, laidKinds := [.funcs, .funcs], laidTests := true, laidLooks := .later }
def IntervalMeasuresCardSaid : Prop := Claim7.holds Tryd.pinned (.plain (OpenSpec.ofChange intervalMeasuresSpec)) intervalMeasuresCard

/-- THE TIED CARD OF 'armillarylaw02.IntervalMatchesReference'. -/
def intervalMatchesReferenceCard : Claim7 := { stood := { row := intervalMatchesReferenceRow, standIns := [], harness := (true, "a02ccfd57a26923746b637a9062c67ca770692943b3665acd6f4c73499b3b86f"), looks := false }, kinds := [], alts := [], laidByText := true, laidKinds := [.funcs, .funcs], laidTests := true, laidLooks := .later }
def IntervalMatchesReferenceCardSaid : Prop := Claim7.holds Tryd.pinned (.plain (OpenSpec.ofChange intervalMatchesReferenceSpec)) intervalMatchesReferenceCard

/-- THE TIED CARD OF 'armillarylaw02.IntervalAlgebra'. -/
def intervalAlgebraCard : Claim7 := { stood := { row := intervalAlgebraRow, standIns := [], harness := (true, "a02ccfd57a26923746b637a9062c67ca770692943b3665acd6f4c73499b3b86f"), looks := false }, kinds := [], alts := [], laidByText := true, laidKinds := [.funcs, .funcs], laidTests := true, laidLooks := .later }
def IntervalAlgebraCardSaid : Prop := Claim7.holds Tryd.pinned (.plain (OpenSpec.ofChange intervalAlgebraSpec)) intervalAlgebraCard

/-- THE SECOND FORM's CARD OF 'armillarylaw02.IntervalInclusion'. -/
def intervalInclusionUptoCard : Claim7 := { stood := { row := intervalInclusionUptoRow, standIns := [], harness := (true, "a02ccfd57a26923746b637a9062c67ca770692943b3665acd6f4c73499b3b86f"), looks := false }, kinds := [], alts := [], laidByText := true, laidKinds := [.funcs, .funcs], laidTests := true, laidLooks := .later }
def IntervalInclusionUptoCardSaid : Prop := Claim7.holds Tryd.pinned (.plain (OpenSpec.upto intervalInclusionSpec)) intervalInclusionUptoCard

/-- THE SECOND FORM's CARD OF 'armillarylaw02.IntervalTightness'. -/
def intervalTightnessUptoCard : Claim7 := { stood := { row := intervalTightnessUptoRow, standIns := [], harness := (true, "a02ccfd57a26923746b637a9062c67ca770692943b3665acd6f4c73499b3b86f"), looks := false }, kinds := [], alts := [], laidByText := true, laidKinds := [.funcs, .funcs], laidTests := true, laidLooks := .later }
def IntervalTightnessUptoCardSaid : Prop := Claim7.holds Tryd.pinned (.plain (OpenSpec.upto intervalTightnessSpec)) intervalTightnessUptoCard

/-- THE SECOND FORM's CARD OF 'armillarylaw02.IntervalIsotonic'. -/
def intervalIsotonicUptoCard : Claim7 := { stood := { row := intervalIsotonicUptoRow, standIns := [], harness := (true, "a02ccfd57a26923746b637a9062c67ca770692943b3665acd6f4c73499b3b86f"), looks := false }, kinds := [], alts := [], laidByText := true, laidKinds := [.funcs, .funcs], laidTests := true, laidLooks := .later }
def IntervalIsotonicUptoCardSaid : Prop := Claim7.holds Tryd.pinned (.plain (OpenSpec.upto intervalIsotonicSpec)) intervalIsotonicUptoCard

/-- THE SECOND FORM's CARD OF 'armillarylaw02.IntervalSubdistributive'. -/
def intervalSubdistributiveUptoCard : Claim7 := { stood := { row := intervalSubdistributiveUptoRow, standIns := [], harness := (true, "a02ccfd57a26923746b637a9062c67ca770692943b3665acd6f4c73499b3b86f"), looks := false }, kinds := [], alts := [], laidByText := true, laidKinds := [.funcs, .funcs], laidTests := true, laidLooks := .later }
def IntervalSubdistributiveUptoCardSaid : Prop := Claim7.holds Tryd.pinned (.plain (OpenSpec.upto intervalSubdistributiveSpec)) intervalSubdistributiveUptoCard

/-- THE SECOND FORM's CARD OF 'armillarylaw02.IntervalLattice'. -/
def intervalLatticeUptoCard : Claim7 := { stood := { row := intervalLatticeUptoRow, standIns := [], harness := (true, "a02ccfd57a26923746b637a9062c67ca770692943b3665acd6f4c73499b3b86f"), looks := false }, kinds := [], alts := [], laidByText := true, laidKinds := [.funcs, .funcs], laidTests := true, laidLooks := .later }
def IntervalLatticeUptoCardSaid : Prop := Claim7.holds Tryd.pinned (.plain (OpenSpec.upto intervalLatticeSpec)) intervalLatticeUptoCard

/-- THE SECOND FORM's CARD OF 'armillarylaw02.IntervalMeasures'. -/
def intervalMeasuresUptoCard : Claim7 := { stood := { row := intervalMeasuresUptoRow, standIns := [], harness := (true, "a02ccfd57a26923746b637a9062c67ca770692943b3665acd6f4c73499b3b86f"), looks := false }, kinds := [], alts := [], laidByText := true, laidKinds := [.funcs, .funcs], laidTests := true, laidLooks := .later }
def IntervalMeasuresUptoCardSaid : Prop := Claim7.holds Tryd.pinned (.plain (OpenSpec.upto intervalMeasuresSpec)) intervalMeasuresUptoCard

/-- THE SECOND FORM's CARD OF 'armillarylaw02.IntervalMatchesReference'. -/
def intervalMatchesReferenceUptoCard : Claim7 := { stood := { row := intervalMatchesReferenceUptoRow, standIns := [], harness := (true, "a02ccfd57a26923746b637a9062c67ca770692943b3665acd6f4c73499b3b86f"), looks := false }, kinds := [], alts := [], laidByText := true, laidKinds := [.funcs, .funcs], laidTests := true, laidLooks := .later }
def IntervalMatchesReferenceUptoCardSaid : Prop := Claim7.holds Tryd.pinned (.plain (OpenSpec.upto intervalMatchesReferenceSpec)) intervalMatchesReferenceUptoCard

/-- THE SECOND FORM's CARD OF 'armillarylaw02.IntervalAlgebra'. -/
def intervalAlgebraUptoCard : Claim7 := { stood := { row := intervalAlgebraUptoRow, standIns := [], harness := (true, "a02ccfd57a26923746b637a9062c67ca770692943b3665acd6f4c73499b3b86f"), looks := false }, kinds := [], alts := [], laidByText := true, laidKinds := [.funcs, .funcs], laidTests := true, laidLooks := .later }
def IntervalAlgebraUptoCardSaid : Prop := Claim7.holds Tryd.pinned (.plain (OpenSpec.upto intervalAlgebraSpec)) intervalAlgebraUptoCard
end Rows
end Go.Proofs.YtmjnbhigomjjnaaDoor
