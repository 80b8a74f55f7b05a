/-
  DERIVED. GIVEN WITH THE SEED: THE PROGRAM's TIES (one call each: nine closed facts by the kernel) AND EACH ROW's TIE, after the 31st guide's Derived/Test/Toyas{Tie, Card}.lean. No idea stands in it: it is a product of the set-up. Laid BY PROGRAM, IN A SANDBOX (cutbox-door.mjs). By AI agents, Wed Nov 11 2026. No macro, syntax, notation, axiom, sorry.
-/
import Derived.Test.YtpmgpcklieincaaGreatDoorRows
import Derived.LaidByTextLater
import Derived.SevenTiedAt
import Derived.LaidSub
import Derived.LaidOnce
namespace Go.Proofs.YtpmgpcklieincaaGreatDoor
open Go
set_option maxRecDepth 100000
theorem seatTie1 : Tryz.prog.laidByTextLater [("armillary/interval.products", Rows.laid_armillary_interval_products), ("armillary/interval.quotients", Rows.laid_armillary_interval_quotients), ("armillary/tape.ops", Rows.laid_armillary_tape_ops)] [.funcs, .funcs, .funcs] true :=
  Program.laidByTextLater_by_one 52 8 2 (by kernel_rfl) (by kernel_rfl) (by kernel_rfl) (by kernel_rfl) (by kernel_rfl) (by kernel_rfl) (fun _ _ => by kernel_rfl)
theorem noOwnUnsafe : Tryz.pinned.checked.prog.headLifts.contains "ownunsafe" = false := by kernel_rfl
theorem tie : Tryz.prog.laidByTextLater [("armillary/interval.products", Rows.laid_armillary_interval_products), ("armillary/interval.quotients", Rows.laid_armillary_interval_quotients), ("armillary/tape.ops", Rows.laid_armillary_tape_ops)] [.funcs, .funcs, .funcs] true :=
  Program.laidByTextLater.sub seatTie1 ["armillary/interval.products", "armillary/interval.quotients", "armillary/tape.ops"] (by kernel_rfl) (by kernel_rfl)
theorem topFlowEnclosesDrift_row_tie : Rows.topFlowEnclosesDriftRow.laidByTextAt .later Tryz.pinned [.funcs, .funcs, .funcs] true :=
  OpenClaim.laidByTextAt_later rfl rfl tie noOwnUnsafe
theorem topFlowTimeShift_row_tie : Rows.topFlowTimeShiftRow.laidByTextAt .later Tryz.pinned [.funcs, .funcs, .funcs] true :=
  OpenClaim.laidByTextAt_later rfl rfl tie noOwnUnsafe
theorem topFlowsIntersect_row_tie : Rows.topFlowsIntersectRow.laidByTextAt .later Tryz.pinned [.funcs, .funcs, .funcs] true :=
  OpenClaim.laidByTextAt_later rfl rfl tie noOwnUnsafe
theorem topFlowFromPoint_row_tie : Rows.topFlowFromPointRow.laidByTextAt .later Tryz.pinned [.funcs, .funcs, .funcs] true :=
  OpenClaim.laidByTextAt_later rfl rfl tie noOwnUnsafe
theorem topClearedPairsStayApart_row_tie : Rows.topClearedPairsStayApartRow.laidByTextAt .later Tryz.pinned [.funcs, .funcs, .funcs] true :=
  OpenClaim.laidByTextAt_later rfl rfl tie noOwnUnsafe
theorem topConflictsAreReal_row_tie : Rows.topConflictsAreRealRow.laidByTextAt .later Tryz.pinned [.funcs, .funcs, .funcs] true :=
  OpenClaim.laidByTextAt_later rfl rfl tie noOwnUnsafe
theorem topFlowEnclosesDriftUpto_row_tie : Rows.topFlowEnclosesDriftUptoRow.laidByTextAt .later Tryz.pinned [.funcs, .funcs, .funcs] true :=
  OpenClaim.laidByTextAt_later rfl rfl tie noOwnUnsafe
theorem topFlowTimeShiftUpto_row_tie : Rows.topFlowTimeShiftUptoRow.laidByTextAt .later Tryz.pinned [.funcs, .funcs, .funcs] true :=
  OpenClaim.laidByTextAt_later rfl rfl tie noOwnUnsafe
theorem topFlowsIntersectUpto_row_tie : Rows.topFlowsIntersectUptoRow.laidByTextAt .later Tryz.pinned [.funcs, .funcs, .funcs] true :=
  OpenClaim.laidByTextAt_later rfl rfl tie noOwnUnsafe
theorem topFlowFromPointUpto_row_tie : Rows.topFlowFromPointUptoRow.laidByTextAt .later Tryz.pinned [.funcs, .funcs, .funcs] true :=
  OpenClaim.laidByTextAt_later rfl rfl tie noOwnUnsafe
theorem topClearedPairsStayApartUpto_row_tie : Rows.topClearedPairsStayApartUptoRow.laidByTextAt .later Tryz.pinned [.funcs, .funcs, .funcs] true :=
  OpenClaim.laidByTextAt_later rfl rfl tie noOwnUnsafe
theorem topConflictsAreRealUpto_row_tie : Rows.topConflictsAreRealUptoRow.laidByTextAt .later Tryz.pinned [.funcs, .funcs, .funcs] true :=
  OpenClaim.laidByTextAt_later rfl rfl tie noOwnUnsafe
end Go.Proofs.YtpmgpcklieincaaGreatDoor
