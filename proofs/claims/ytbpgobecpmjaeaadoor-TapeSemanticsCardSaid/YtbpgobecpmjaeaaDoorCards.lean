/-
  DERIVED. GIVEN WITH THE SEED: THE CARDS: each row of YtbpgobecpmjaeaaDoorRows.lean that lists a variable, with what it lists TIED to the program's text (the seventh form; the later family's looks); each row that meets fmt, with fmt's text TOLD by the authors' own Lean function (tested against real Go, not proved from fmt's source: count such statements apart). THE CARD IS WHAT COUNTS. Prove the row's statement (the work); the ties are given (YtbpgobecpmjaeaaDoorTie.lean); close each card by the builder's one call (the guide's Derived/Test/ToyasCard.lean, 'card_holds'). Laid BY PROGRAM, IN A SANDBOX (cutbox-door.mjs). By AI agents, Wed Nov 11 2026. No macro, syntax, notation, axiom, sorry.
-/
import Derived.Test.YtbpgobecpmjaeaaDoorRows
import GoSem.ClaimSeven
namespace Go.Proofs.YtbpgobecpmjaeaaDoor
namespace Rows

/-- THE TIED CARD OF 'armillarylaw08.TapeSemantics'. -/
def tapeSemanticsCard : Claim7 := { stood := { row := tapeSemanticsRow, standIns := [], harness := (true, "57046ef348960e8a29bbbb325f6145577e9bd51ab9f64e3bf21235dfb0557440"), looks := false }, kinds := [], alts := [], laidByText := true, laidKinds := [.funcs, .funcs, .funcs], laidTests := true, laidLooks := .later }
def TapeSemanticsCardSaid : Prop := Claim7.holds Tryd.pinned (.plain (OpenSpec.ofChange tapeSemanticsSpec)) tapeSemanticsCard

/-- THE SECOND FORM's CARD OF 'armillarylaw08.TapeSemantics'. -/
def tapeSemanticsUptoCard : Claim7 := { stood := { row := tapeSemanticsUptoRow, standIns := [], harness := (true, "57046ef348960e8a29bbbb325f6145577e9bd51ab9f64e3bf21235dfb0557440"), looks := false }, kinds := [], alts := [], laidByText := true, laidKinds := [.funcs, .funcs, .funcs], laidTests := true, laidLooks := .later }
def TapeSemanticsUptoCardSaid : Prop := Claim7.holds Tryd.pinned (.plain (OpenSpec.upto tapeSemanticsSpec)) tapeSemanticsUptoCard
end Rows
end Go.Proofs.YtbpgobecpmjaeaaDoor
