/-
  DERIVED. GIVEN WITH THE SEED: THE PROGRAM's TIES (one call each: nine closed facts by the kernel) AND EACH ROW's TIE, after the 31st guide's Derived/Test/Toyas{Tie, Card}.lean. No idea stands in it: it is a product of the set-up. Laid BY PROGRAM, IN A SANDBOX (cutbox-door.mjs). By AI agents, Wed Nov 11 2026. No macro, syntax, notation, axiom, sorry.
-/
import Derived.Test.YtmjnbhigomjjnaaDoorRows
import Derived.LaidByTextLater
import Derived.SevenTiedAt
import Derived.LaidSub
import Derived.LaidOnce
namespace Go.Proofs.YtmjnbhigomjjnaaDoor
open Go
set_option maxRecDepth 100000
theorem seatTie1 : Tryd.prog.laidByTextLater [("armillary/interval.products", Rows.laid_armillary_interval_products), ("armillary/interval.quotients", Rows.laid_armillary_interval_quotients)] [.funcs, .funcs] true :=
  Program.laidByTextLater_by_one 40 8 2 (by kernel_rfl) (by kernel_rfl) (by kernel_rfl) (by kernel_rfl) (by kernel_rfl) (by kernel_rfl) (fun _ _ => by kernel_rfl)
theorem noOwnUnsafe : Tryd.pinned.checked.prog.headLifts.contains "ownunsafe" = false := by kernel_rfl
theorem tie : Tryd.prog.laidByTextLater [("armillary/interval.products", Rows.laid_armillary_interval_products), ("armillary/interval.quotients", Rows.laid_armillary_interval_quotients)] [.funcs, .funcs] true :=
  Program.laidByTextLater.sub seatTie1 ["armillary/interval.products", "armillary/interval.quotients"] (by kernel_rfl) (by kernel_rfl)
theorem intervalInclusion_row_tie : Rows.intervalInclusionRow.laidByTextAt .later Tryd.pinned [.funcs, .funcs] true :=
  OpenClaim.laidByTextAt_later rfl rfl tie noOwnUnsafe
theorem intervalTightness_row_tie : Rows.intervalTightnessRow.laidByTextAt .later Tryd.pinned [.funcs, .funcs] true :=
  OpenClaim.laidByTextAt_later rfl rfl tie noOwnUnsafe
theorem intervalIsotonic_row_tie : Rows.intervalIsotonicRow.laidByTextAt .later Tryd.pinned [.funcs, .funcs] true :=
  OpenClaim.laidByTextAt_later rfl rfl tie noOwnUnsafe
theorem intervalSubdistributive_row_tie : Rows.intervalSubdistributiveRow.laidByTextAt .later Tryd.pinned [.funcs, .funcs] true :=
  OpenClaim.laidByTextAt_later rfl rfl tie noOwnUnsafe
theorem intervalLattice_row_tie : Rows.intervalLatticeRow.laidByTextAt .later Tryd.pinned [.funcs, .funcs] true :=
  OpenClaim.laidByTextAt_later rfl rfl tie noOwnUnsafe
theorem intervalMeasures_row_tie : Rows.intervalMeasuresRow.laidByTextAt .later Tryd.pinned [.funcs, .funcs] true :=
  OpenClaim.laidByTextAt_later rfl rfl tie noOwnUnsafe
theorem intervalMatchesReference_row_tie : Rows.intervalMatchesReferenceRow.laidByTextAt .later Tryd.pinned [.funcs, .funcs] true :=
  OpenClaim.laidByTextAt_later rfl rfl tie noOwnUnsafe
theorem intervalAlgebra_row_tie : Rows.intervalAlgebraRow.laidByTextAt .later Tryd.pinned [.funcs, .funcs] true :=
  OpenClaim.laidByTextAt_later rfl rfl tie noOwnUnsafe
theorem intervalInclusionUpto_row_tie : Rows.intervalInclusionUptoRow.laidByTextAt .later Tryd.pinned [.funcs, .funcs] true :=
  OpenClaim.laidByTextAt_later rfl rfl tie noOwnUnsafe
theorem intervalTightnessUpto_row_tie : Rows.intervalTightnessUptoRow.laidByTextAt .later Tryd.pinned [.funcs, .funcs] true :=
  OpenClaim.laidByTextAt_later rfl rfl tie noOwnUnsafe
theorem intervalIsotonicUpto_row_tie : Rows.intervalIsotonicUptoRow.laidByTextAt .later Tryd.pinned [.funcs, .funcs] true :=
  OpenClaim.laidByTextAt_later rfl rfl tie noOwnUnsafe
theorem intervalSubdistributiveUpto_row_tie : Rows.intervalSubdistributiveUptoRow.laidByTextAt .later Tryd.pinned [.funcs, .funcs] true :=
  OpenClaim.laidByTextAt_later rfl rfl tie noOwnUnsafe
theorem intervalLatticeUpto_row_tie : Rows.intervalLatticeUptoRow.laidByTextAt .later Tryd.pinned [.funcs, .funcs] true :=
  OpenClaim.laidByTextAt_later rfl rfl tie noOwnUnsafe
theorem intervalMeasuresUpto_row_tie : Rows.intervalMeasuresUptoRow.laidByTextAt .later Tryd.pinned [.funcs, .funcs] true :=
  OpenClaim.laidByTextAt_later rfl rfl tie noOwnUnsafe
theorem intervalMatchesReferenceUpto_row_tie : Rows.intervalMatchesReferenceUptoRow.laidByTextAt .later Tryd.pinned [.funcs, .funcs] true :=
  OpenClaim.laidByTextAt_later rfl rfl tie noOwnUnsafe
theorem intervalAlgebraUpto_row_tie : Rows.intervalAlgebraUptoRow.laidByTextAt .later Tryd.pinned [.funcs, .funcs] true :=
  OpenClaim.laidByTextAt_later rfl rfl tie noOwnUnsafe
end Go.Proofs.YtmjnbhigomjjnaaDoor
