/- Functions that the law GuardSideIsotone alone reaches. Printed by a program of this session. -/
import Derived.Test.YtkkodieceehkmaaDoorFn2
set_option linter.unusedVariables false
set_option maxRecDepth 100000
namespace Go.Proofs.YtkkodieceehkmaaDoor
open Go Go.RowKit Go.Sx Go.Proofs
set_option maxHeartbeats 4000000 in
theorem interval_Subset.calls (a0 : TInterval) (a1 : TInterval) (r : Bool) (w : World) (G : interval_Subset a0 a1 = some r) :
  Calls Tryd.prog 25 #[.agg #[vI a0.Lo, vI a0.Hi], .agg #[vI a1.Lo, vI a1.Hi]] w fun e w' => e = .returned (.bool r) ∧ Below w.heap.size w w' := by
 refine k_enter (args := [.agg #[vI a0.Lo, vI a0.Hi], .agg #[vI a1.Lo, vI a1.Hi]]) 17 Tryd.func25 rfl (by kernel_rfl) (by kernel_rfl) fun a H => ?_
 unfold interval_Subset at G
 refine k_seq ?_
 refine k_rg mixed H (.cons [2, 17] (ok_new (fun b => vP b 0) (fun u1 => [vI a0.Lo, vI a0.Hi]) 38 2 17) <|
   .cons [3, 18] (ok_new (fun b => vP b 0) (fun u1 => [vI a1.Lo, vI a1.Hi]) 38 3 18) <|
   .v 4 (.bool false) <| .nil) fun u1 a w' H => ?_
 replace H := H.toM [(2, (sP ((u1 0).n 0) 0)), (3, (sP ((u1 1).n 0) 0)), (17, .blk ((u1 0).n 0) [vI a0.Lo, vI a0.Hi] 38), (18, .blk ((u1 1).n 0) [vI a1.Lo, vI a1.Hi] 38)]
 refine k_seq ?_
 refine k_rg mixed H (.v 5 (vP ((u1 1).n 0) 0) <|
   .cons [6] (ok_ld (fun u2 => vI a1.Lo) 6 18 0 1 (fun u2 => ((u1 1).n 0)) (fun u2 => [vI a1.Lo, vI a1.Hi]) 38) <|
   .v 7 (vP ((u1 0).n 0) 0) <|
   .cons [8] (ok_ld (fun u2 => vI a0.Lo) 8 17 0 1 (fun u2 => ((u1 0).n 0)) (fun u2 => [vI a0.Lo, vI a0.Hi]) 38) <|
   .v 9 (.bool (decide (a1.Lo ≤ a0.Lo))) <|
   .v 10 (.bool (decide (a1.Lo ≤ a0.Lo))) <|
   .cons [11] (ok_valg (fun u2 => vP ((u1 0).n 0) 1) (fun u2 => ((decide (a1.Lo ≤ a0.Lo)) == true)) [true] 11) <|
   .cons [12] (ok_ldg (fun u2 => vI a0.Hi) (fun u2 => ((decide (a1.Lo ≤ a0.Lo)) == true)) [false] 12 17 1 1 (fun u2 => ((u1 0).n 0)) (fun u2 => [vI a0.Lo, vI a0.Hi]) 38) <|
   .cons [13] (ok_valg (fun u2 => vP ((u1 1).n 0) 1) (fun u2 => ((decide (a1.Lo ≤ a0.Lo)) == true)) [true] 13) <|
   .cons [14] (ok_ldg (fun u2 => vI a1.Hi) (fun u2 => ((decide (a1.Lo ≤ a0.Lo)) == true)) [false] 14 18 1 1 (fun u2 => ((u1 1).n 0)) (fun u2 => [vI a1.Lo, vI a1.Hi]) 38) <|
   .cons [15] (ok_valg (fun u2 => .bool (decide (a0.Hi ≤ a1.Hi))) (fun u2 => ((decide (a1.Lo ≤ a0.Lo)) == true)) [false, false] 15) <|
   .cons [16] (ok_and 10 15 (fun u2 => true) (fun u2 => true) (fun u2 => decide (a1.Lo ≤ a0.Lo)) (fun u2 => decide (a0.Hi ≤ a1.Hi)) 16) <|
   .v 4 (.bool ((decide (a1.Lo ≤ a0.Lo)) && (decide (a0.Hi ≤ a1.Hi)))) <| .nil) fun u2 a w' H => ?_
 replace H := H.toM [(4, (sB ((decide (a1.Lo ≤ a0.Lo)) && (decide (a0.Hi ≤ a1.Hi)))))]
 refine k_ret ?_
 obtain rfl := Option.some.inj G
 exact k_done0 H _ (by kernel_rfl) (by kernel_rfl)

end Go.Proofs.YtkkodieceehkmaaDoor
