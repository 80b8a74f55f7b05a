/- Functions that the law GuardSoundForLines alone reaches. Printed by a program of this session. -/
import Derived.Test.YtkkodieceehkmaaDoorFn2
set_option linter.unusedVariables false
set_option maxRecDepth 100000
namespace Go.Proofs.YtkkodieceehkmaaDoor
open Go Go.RowKit Go.Sx Go.Proofs
set_option maxHeartbeats 4000000 in
theorem armillarylaw15_crosses.calls (a0 : Int) (a1 : Int) (a2 : Int) (r : Bool) (w : World) (G : armillarylaw15_crosses a0 a1 a2 = some r) :
  Calls Tryd.prog 24 #[vI a0, vI a1, vI a2] w fun e w' => e = .returned (.bool r) ∧ Below w.heap.size w w' := by
 refine k_enter (args := [vI a0, vI a1, vI a2]) 29 Tryd.func24 rfl (by kernel_rfl) (by kernel_rfl) fun a H => ?_
 unfold armillarylaw15_crosses at G
 refine k_seq ?_
 refine k_rg mixed H (.v 6 (.bool false) <| .nil) fun u1 a w' H => ?_
 replace H := H.toM [(0, sI a0), (1, sI a1), (2, sI a2)]
 refine k_seq ?_
 replace G := bnd G; obtain ⟨z3, hz3, G⟩ := G
 replace hz3 := Option.some.inj hz3
 refine k_rg mixed H (.v 7 (vI a2) <|
   .v 8 (.bool (decide (a2 ≥ 0))) <|
   .v 9 (.bool (decide (a2 ≥ 0))) <|
   .cons [10] (ok_valg (fun u2 => vI a0) (fun u2 => ((decide (a2 ≥ 0)) == true)) [true] 10) <|
   .cons [11] (ok_valg (fun u2 => .bool (decide (a0 < 0))) (fun u2 => ((decide (a2 ≥ 0)) == true)) [false, true] 11) <|
   .cons [12] (ok_and 9 11 (fun u2 => true) (fun u2 => true) (fun u2 => decide (a2 ≥ 0)) (fun u2 => decide (a0 < 0)) 12) <|
   .v 13 (.bool ((decide (a2 ≥ 0)) && (decide (a0 < 0)))) <|
   .cons [14] (ok_valg (fun u2 => vI a1) (fun u2 => (((decide (a2 ≥ 0)) && (decide (a0 < 0))) == true)) [true] 14) <|
   .cons [15] (ok_valg (fun u2 => .bool (decide (a1 ≥ 0))) (fun u2 => (((decide (a2 ≥ 0)) && (decide (a0 < 0))) == true)) [false, true] 15) <|
   .cons [16] (ok_and 13 15 (fun u2 => true) (fun u2 => true) (fun u2 => ((decide (a2 ≥ 0)) && (decide (a0 < 0)))) (fun u2 => decide (a1 ≥ 0)) 16) <|
   .v 17 (.bool (((decide (a2 ≥ 0)) && (decide (a0 < 0))) && (decide (a1 ≥ 0)))) <|
   .cons [18] (ok_valg (fun u2 => vI a2) (fun u2 => ((((decide (a2 ≥ 0)) && (decide (a0 < 0))) && (decide (a1 ≥ 0))) == false)) [true] 18) <|
   .cons [19] (ok_valg (fun u2 => .bool (decide (a2 ≤ 0))) (fun u2 => ((((decide (a2 ≥ 0)) && (decide (a0 < 0))) && (decide (a1 ≥ 0))) == false)) [false, true] 19) <|
   .cons [20] (ok_valg (fun u2 => .bool (decide (a2 ≤ 0))) (fun u2 => ((((decide (a2 ≥ 0)) && (decide (a0 < 0))) && (decide (a1 ≥ 0))) == false)) [false] 20) <|
   .cons [21] (ok_valg (fun u2 => vI a0) (fun u2 => (((((decide (a2 ≥ 0)) && (decide (a0 < 0))) && (decide (a1 ≥ 0))) == false) && ((decide (a2 ≤ 0)) == true))) [true] 21) <|
   .cons [22] (ok_valg (fun u2 => .bool (decide (a0 > 0))) (fun u2 => (((((decide (a2 ≥ 0)) && (decide (a0 < 0))) && (decide (a1 ≥ 0))) == false) && ((decide (a2 ≤ 0)) == true))) [false, true] 22) <|
   .cons [23] (ok_and 20 22 (fun u2 => ((((decide (a2 ≥ 0)) && (decide (a0 < 0))) && (decide (a1 ≥ 0))) == false)) (fun u2 => ((((decide (a2 ≥ 0)) && (decide (a0 < 0))) && (decide (a1 ≥ 0))) == false)) (fun u2 => decide (a2 ≤ 0)) (fun u2 => decide (a0 > 0)) 23) <|
   .cons [24] (ok_valg (fun u2 => .bool ((decide (a2 ≤ 0)) && (decide (a0 > 0)))) (fun u2 => ((((decide (a2 ≥ 0)) && (decide (a0 < 0))) && (decide (a1 ≥ 0))) == false)) [false] 24) <|
   .cons [25] (ok_valg (fun u2 => vI a1) (fun u2 => (((((decide (a2 ≥ 0)) && (decide (a0 < 0))) && (decide (a1 ≥ 0))) == false) && (((decide (a2 ≤ 0)) && (decide (a0 > 0))) == true))) [true] 25) <|
   .cons [26] (ok_valg (fun u2 => .bool (decide (a1 ≤ 0))) (fun u2 => (((((decide (a2 ≥ 0)) && (decide (a0 < 0))) && (decide (a1 ≥ 0))) == false) && (((decide (a2 ≤ 0)) && (decide (a0 > 0))) == true))) [false, true] 26) <|
   .cons [27] (ok_and 24 26 (fun u2 => ((((decide (a2 ≥ 0)) && (decide (a0 < 0))) && (decide (a1 ≥ 0))) == false)) (fun u2 => ((((decide (a2 ≥ 0)) && (decide (a0 < 0))) && (decide (a1 ≥ 0))) == false)) (fun u2 => ((decide (a2 ≤ 0)) && (decide (a0 > 0)))) (fun u2 => decide (a1 ≤ 0)) 27) <|
   .cons [28] (ok_or 17 27 (fun u2 => true) (fun u2 => true) (fun u2 => (((decide (a2 ≥ 0)) && (decide (a0 < 0))) && (decide (a1 ≥ 0)))) (fun u2 => (((decide (a2 ≤ 0)) && (decide (a0 > 0))) && (decide (a1 ≤ 0)))) 28) <|
   .cons [6] (ok_as (u' := fun u2 => [(6, sB z3)]) (ok_val (fun u2 => .bool ((((decide (a2 ≥ 0)) && (decide (a0 < 0))) && (decide (a1 ≥ 0))) || (((decide (a2 ≤ 0)) && (decide (a0 > 0))) && (decide (a1 ≤ 0))))) 6) (fun _ => by rw [← hz3])) <| .nil) fun u2 a w' H => ?_
 replace H := H.toM [(6, sB z3)]
 refine k_ret ?_
 obtain rfl := Option.some.inj G
 exact k_done0 H _ (by kernel_rfl) (by kernel_rfl)

end Go.Proofs.YtkkodieceehkmaaDoor
