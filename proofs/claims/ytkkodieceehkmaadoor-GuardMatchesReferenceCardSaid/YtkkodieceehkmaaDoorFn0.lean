/- Each function of the program answers as the plain Lean function of its name (part 0). Printed by a program of this session. -/
import Derived.Test.YtkkodieceehkmaaDoorEn
set_option linter.unusedVariables false
set_option maxRecDepth 100000
namespace Go.Proofs.YtkkodieceehkmaaDoor
open Go Go.RowKit Go.Sx Go.Proofs
set_option maxHeartbeats 4000000 in
theorem interval_Entire.calls (r : TInterval) (w : World) (G : interval_Entire = some r) :
  Calls Tryd.prog 61 #[] w fun e w' => e = .returned (.agg #[vI r.Lo, vI r.Hi]) ∧ Below w.heap.size w w' := by
 refine k_enter (args := []) 2 Tryd.func61 rfl (by kernel_rfl) (by kernel_rfl) fun a H => ?_
 unfold interval_Entire at G
 refine k_seq ?_
 refine k_rg mixed H (.cons [0, 2] (ok_new (fun b => vP b 0) (fun u1 => [vI 0, vI 0]) 38 0 2) <| .nil) fun u1 a w' H => ?_
 replace H := H.toM [(0, (sP ((u1 0).n 0) 0)), (2, .blk ((u1 0).n 0) [vI 0, vI 0] 38)]
 refine k_seq ?_
 refine k_rg mixed H (.v 1 (.agg #[vI (-2147483648), vI 2147483648]) <|
   .cons [2] (ok_as (u' := fun u2 => [(2, .blk ((u1 0).n 0) [vI (-2147483648), vI 2147483648] 38)]) (ok_store 2 0 (fun u2 => ((u1 0).n 0)) (fun u2 => [vI 0, vI 0]) (fun u2 => [vI (-2147483648), vI 2147483648]) 38) (fun _ => by kernel_rfl)) <| .nil) fun u2 a w' H => ?_
 replace H := H.toM [(0, (sP ((u1 0).n 0) 0)), (2, .blk ((u1 0).n 0) [vI (-2147483648), vI 2147483648] 38)]
 refine k_ret ?_
 obtain rfl := Option.some.inj G
 exact k_done1 H _ 2 ((u1 0).n 0) [vI (-2147483648), vI 2147483648] 38 0 2 (by kernel_rfl) (by kernel_rfl) (by kernel_rfl) (by kernel_rfl)

set_option maxHeartbeats 4000000 in
theorem interval_IsEntire.calls (a0 : TInterval) (r : Bool) (w : World) (G : interval_IsEntire a0 = some r) :
  Calls Tryd.prog 86 #[.agg #[vI a0.Lo, vI a0.Hi]] w fun e w' => e = .returned (.bool r) ∧ Below w.heap.size w w' := by
 refine k_enter (args := [.agg #[vI a0.Lo, vI a0.Hi]]) 6 Tryd.func86 rfl (by kernel_rfl) (by kernel_rfl) fun a H => ?_
 unfold interval_IsEntire at G
 refine k_seq ?_
 refine k_rg mixed H (.cons [1, 6] (ok_new (fun b => vP b 0) (fun u1 => [vI a0.Lo, vI a0.Hi]) 38 1 6) <|
   .v 2 (.bool false) <| .nil) fun u1 a w' H => ?_
 replace H := H.toM [(1, (sP ((u1 0).n 0) 0)), (6, .blk ((u1 0).n 0) [vI a0.Lo, vI a0.Hi] 38)]
 refine k_seq ?_
 replace G := bnd G; obtain ⟨t3, ht3, G⟩ := G
 refine k_rg mixed H (.cons [3] (ok_ld (fun u2 => .agg #[vI a0.Lo, vI a0.Hi]) 3 6 0 2 (fun u2 => ((u1 0).n 0)) (fun u2 => [vI a0.Lo, vI a0.Hi]) 38) <|
   .cons [4] (ok_callv 61 (fun u2 => #[]) (.agg #[vI t3.Lo, vI t3.Hi]) 4 [] (fun _ w _ => interval_Entire.calls  t3 w ht3)) <|
   .cons [5] (ok_val (fun u2 => .bool ((a0.Lo == t3.Lo) && ((a0.Hi == t3.Hi) && true))) 5 (hv := fun _ _ => run_of (by kernel_rfl) (run_eql_agg (t := 38) (x := (.tmp 3)) (y := (.tmp 4)) (xs := #[vI a0.Lo, vI a0.Hi]) (ys := #[vI t3.Lo, vI t3.Hi]) (b := ((a0.Lo == t3.Lo) && ((a0.Hi == t3.Hi) && true))) (by kernel_rfl) (by kernel_rfl)))) <|
   .v 2 (.bool ((a0.Lo == t3.Lo) && ((a0.Hi == t3.Hi) && true))) <| .nil) fun u2 a w' H => ?_
 replace H := H.toM [(2, (sB ((a0.Lo == t3.Lo) && ((a0.Hi == t3.Hi) && true))))]
 refine k_ret ?_
 obtain rfl := Option.some.inj G
 exact k_done0 H _ (by kernel_rfl) (by kernel_rfl)

set_option maxHeartbeats 4000000 in
theorem fixed_Valid.calls (a0 : Int) (r : Bool) (w : World) (G : fixed_Valid a0 = some r) :
  Calls Tryd.prog 98 #[vI a0] w fun e w' => e = .returned (.bool r) ∧ Below w.heap.size w w' := by
 refine k_enter (args := [vI a0]) 9 Tryd.func98 rfl (by kernel_rfl) (by kernel_rfl) fun a H => ?_
 unfold fixed_Valid at G
 refine k_seq ?_
 refine k_rg mixed H (.v 2 (.bool false) <| .nil) fun u1 a w' H => ?_
 replace H := H.toM [(0, sI a0)]
 refine k_seq ?_
 refine k_rg mixed H (.v 3 (vI a0) <|
   .v 4 (.bool (decide ((-2147483648) < a0))) <|
   .v 5 (.bool (decide ((-2147483648) < a0))) <|
   .cons [6] (ok_valg (fun u2 => vI a0) (fun u2 => ((decide ((-2147483648) < a0)) == true)) [true] 6) <|
   .cons [7] (ok_valg (fun u2 => .bool (decide (a0 < 2147483648))) (fun u2 => ((decide ((-2147483648) < a0)) == true)) [false, true] 7) <|
   .cons [8] (ok_and 5 7 (fun u2 => true) (fun u2 => true) (fun u2 => decide ((-2147483648) < a0)) (fun u2 => decide (a0 < 2147483648)) 8) <|
   .v 2 (.bool ((decide ((-2147483648) < a0)) && (decide (a0 < 2147483648)))) <| .nil) fun u2 a w' H => ?_
 replace H := H.toM [(2, (sB ((decide ((-2147483648) < a0)) && (decide (a0 < 2147483648)))))]
 refine k_ret ?_
 obtain rfl := Option.some.inj G
 exact k_done0 H _ (by kernel_rfl) (by kernel_rfl)

set_option maxHeartbeats 4000000 in
theorem interval_Valid.calls (a0 : TInterval) (r : Bool) (w : World) (G : interval_Valid a0 = some r) :
  Calls Tryd.prog 79 #[.agg #[vI a0.Lo, vI a0.Hi]] w fun e w' => e = .returned (.bool r) ∧ Below w.heap.size w w' := by
 refine k_enter (args := [.agg #[vI a0.Lo, vI a0.Hi]]) 22 Tryd.func79 rfl (by kernel_rfl) (by kernel_rfl) fun a H => ?_
 unfold interval_Valid at G
 refine k_seq ?_
 refine k_rg mixed H (.cons [1, 22] (ok_new (fun b => vP b 0) (fun u1 => [vI a0.Lo, vI a0.Hi]) 38 1 22) <|
   .v 2 (.bool false) <| .nil) fun u1 a w' H => ?_
 replace H := H.toM [(1, (sP ((u1 0).n 0) 0)), (22, .blk ((u1 0).n 0) [vI a0.Lo, vI a0.Hi] 38)]
 refine k_seq ?_
 replace G := bnd G; obtain ⟨t3, ht3, G⟩ := G
 replace G := bnd G; obtain ⟨t4, ht4, G⟩ := G
 replace G := bnd G; obtain ⟨t5, ht5, G⟩ := G
 refine k_rg mixed H (.cons [3] (ok_ld (fun u2 => .agg #[vI a0.Lo, vI a0.Hi]) 3 22 0 2 (fun u2 => ((u1 0).n 0)) (fun u2 => [vI a0.Lo, vI a0.Hi]) 38) <|
   .cons [4] (ok_callv 86 (fun u2 => #[.agg #[vI a0.Lo, vI a0.Hi]]) (.bool t3) 4 [] (fun _ w _ => interval_IsEntire.calls a0 t3 w ht3)) <|
   .v 5 (.bool t3) <|
   .cons [6] (ok_valg (fun u2 => vP ((u1 0).n 0) 0) (fun u2 => (t3 == false)) [true] 6) <|
   .cons [7] (ok_ldg (fun u2 => vI a0.Lo) (fun u2 => (t3 == false)) [false] 7 22 0 1 (fun u2 => ((u1 0).n 0)) (fun u2 => [vI a0.Lo, vI a0.Hi]) 38) <|
   .cons [8] (ok_call 98 (fun u2 => #[vI a0.Lo]) (.bool t4) (fun u2 => (t3 == false)) [true, false] 8 [] (fun _ w hg _ => fixed_Valid.calls a0.Lo t4 w (ifp ht4 hg))) <|
   .cons [9] (ok_valg (fun u2 => .bool t4) (fun u2 => (t3 == false)) [false] 9) <|
   .cons [10] (ok_valg (fun u2 => vP ((u1 0).n 0) 1) (fun u2 => ((t3 == false) && (t4 == true))) [true] 10) <|
   .cons [11] (ok_ldg (fun u2 => vI a0.Hi) (fun u2 => ((t3 == false) && (t4 == true))) [false] 11 22 1 1 (fun u2 => ((u1 0).n 0)) (fun u2 => [vI a0.Lo, vI a0.Hi]) 38) <|
   .cons [12] (ok_call 98 (fun u2 => #[vI a0.Hi]) (.bool t5) (fun u2 => ((t3 == false) && (t4 == true))) [true, false] 12 [] (fun _ w hg _ => fixed_Valid.calls a0.Hi t5 w (ifp ht5 hg))) <|
   .cons [13] (ok_and 9 12 (fun u2 => (t3 == false)) (fun u2 => (t3 == false)) (fun u2 => t4) (fun u2 => t5) 13) <|
   .cons [14] (ok_valg (fun u2 => .bool (t4 && t5)) (fun u2 => (t3 == false)) [false] 14) <|
   .cons [15] (ok_valg (fun u2 => vP ((u1 0).n 0) 0) (fun u2 => ((t3 == false) && ((t4 && t5) == true))) [true] 15) <|
   .cons [16] (ok_ldg (fun u2 => vI a0.Lo) (fun u2 => ((t3 == false) && ((t4 && t5) == true))) [false] 16 22 0 1 (fun u2 => ((u1 0).n 0)) (fun u2 => [vI a0.Lo, vI a0.Hi]) 38) <|
   .cons [17] (ok_valg (fun u2 => vP ((u1 0).n 0) 1) (fun u2 => ((t3 == false) && ((t4 && t5) == true))) [true] 17) <|
   .cons [18] (ok_ldg (fun u2 => vI a0.Hi) (fun u2 => ((t3 == false) && ((t4 && t5) == true))) [false] 18 22 1 1 (fun u2 => ((u1 0).n 0)) (fun u2 => [vI a0.Lo, vI a0.Hi]) 38) <|
   .cons [19] (ok_valg (fun u2 => .bool (decide (a0.Lo ≤ a0.Hi))) (fun u2 => ((t3 == false) && ((t4 && t5) == true))) [false, false] 19) <|
   .cons [20] (ok_and 14 19 (fun u2 => (t3 == false)) (fun u2 => (t3 == false)) (fun u2 => (t4 && t5)) (fun u2 => decide (a0.Lo ≤ a0.Hi)) 20) <|
   .cons [21] (ok_or 5 20 (fun u2 => true) (fun u2 => true) (fun u2 => t3) (fun u2 => ((t4 && t5) && (decide (a0.Lo ≤ a0.Hi)))) 21) <|
   .v 2 (.bool (t3 || ((t4 && t5) && (decide (a0.Lo ≤ a0.Hi))))) <| .nil) fun u2 a w' H => ?_
 replace H := H.toM [(2, (sB (t3 || ((t4 && t5) && (decide (a0.Lo ≤ a0.Hi))))))]
 refine k_ret ?_
 obtain rfl := Option.some.inj G
 exact k_done0 H _ (by kernel_rfl) (by kernel_rfl)

set_option maxHeartbeats 4000000 in
theorem ode_arity.calls (a0 : Int) (r : Int) (w : World) (G : ode_arity a0 = some r) :
  Calls Tryd.prog 80 #[vI a0] w fun e w' => e = .returned (vI r) ∧ Below w.heap.size w w' := by
 refine k_enter (args := [vI a0]) 24 Tryd.func80 rfl (by kernel_rfl) (by kernel_rfl) fun a H => ?_
 unfold ode_arity at G
 refine k_seq ?_
 refine k_rg mixed H (.v 2 (vI 0) <| .nil) fun u1 a w' H => ?_
 replace H := H.toM [(0, sI a0)]
 refine k_seq ?_
 refine k_block ?_
 refine k_seq ?_
 refine k_rg mixed H (.v 4 (vI a0) <|
   .v 5 (.bool (decide (a0 ≥ 1))) <|
   .v 6 (.bool (decide (a0 ≥ 1))) <|
   .cons [7] (ok_valg (fun u2 => vI a0) (fun u2 => ((decide (a0 ≥ 1)) == true)) [true] 7) <|
   .cons [8] (ok_valg (fun u2 => .bool (decide (a0 ≤ 3))) (fun u2 => ((decide (a0 ≥ 1)) == true)) [false, true] 8) <|
   .cons [9] (ok_and 6 8 (fun u2 => true) (fun u2 => true) (fun u2 => decide (a0 ≥ 1)) (fun u2 => decide (a0 ≤ 3)) 9) <|
   .v 3 (.bool ((decide (a0 ≥ 1)) && (decide (a0 ≤ 3)))) <| .nil) fun u2 a w' H => ?_
 replace H := H.toM [(0, sI a0), (3, (sB ((decide (a0 ≥ 1)) && (decide (a0 ≤ 3)))))]
 refine k_cond H (by kernel_rfl) (t := ((decide (a0 ≥ 1)) && (decide (a0 ≤ 3)))) (by kernel_rfl) (fun c11 => ?_) (fun c11 => ?_)
 ·rw [if_pos c11] at G
  refine k_seq ?_
  refine k_rg mixed H (.v 2 (vI 0) <| .nil) fun u3 a w' H => ?_
  replace H := H.toM [(2, sI 0)]
  refine k_ret ?_
  obtain rfl := Option.some.inj G
  exact k_done0 H _ (by kernel_rfl) (by kernel_rfl)
 ·rw [if_neg (nt c11)] at G
  refine k_seq ?_
  refine k_rg mixed H (.v 11 (vI a0) <|
   .v 12 (.bool (decide (a0 ≥ 4))) <|
   .v 13 (.bool (decide (a0 ≥ 4))) <|
   .cons [14] (ok_valg (fun u4 => vI a0) (fun u4 => ((decide (a0 ≥ 4)) == true)) [true] 14) <|
   .cons [15] (ok_valg (fun u4 => .bool (decide (a0 ≤ 6))) (fun u4 => ((decide (a0 ≥ 4)) == true)) [false, true] 15) <|
   .cons [16] (ok_and 13 15 (fun u4 => true) (fun u4 => true) (fun u4 => decide (a0 ≥ 4)) (fun u4 => decide (a0 ≤ 6)) 16) <|
   .v 10 (.bool ((decide (a0 ≥ 4)) && (decide (a0 ≤ 6)))) <| .nil) fun u4 a w' H => ?_
  replace H := H.toM [(0, sI a0), (10, (sB ((decide (a0 ≥ 4)) && (decide (a0 ≤ 6)))))]
  refine k_cond H (by kernel_rfl) (t := ((decide (a0 ≥ 4)) && (decide (a0 ≤ 6)))) (by kernel_rfl) (fun c10 => ?_) (fun c10 => ?_)
  ·rw [if_pos c10] at G
   refine k_seq ?_
   refine k_rg mixed H (.v 2 (vI 1) <| .nil) fun u5 a w' H => ?_
   replace H := H.toM [(2, sI 1)]
   refine k_ret ?_
   obtain rfl := Option.some.inj G
   exact k_done0 H _ (by kernel_rfl) (by kernel_rfl)
  ·rw [if_neg (nt c10)] at G
   refine k_seq ?_
   refine k_rg mixed H (.v 18 (vI a0) <|
   .v 19 (.bool (decide (a0 ≥ 7))) <|
   .v 20 (.bool (decide (a0 ≥ 7))) <|
   .cons [21] (ok_valg (fun u6 => vI a0) (fun u6 => ((decide (a0 ≥ 7)) == true)) [true] 21) <|
   .cons [22] (ok_valg (fun u6 => .bool (decide (a0 ≤ 10))) (fun u6 => ((decide (a0 ≥ 7)) == true)) [false, true] 22) <|
   .cons [23] (ok_and 20 22 (fun u6 => true) (fun u6 => true) (fun u6 => decide (a0 ≥ 7)) (fun u6 => decide (a0 ≤ 10)) 23) <|
   .v 17 (.bool ((decide (a0 ≥ 7)) && (decide (a0 ≤ 10)))) <| .nil) fun u6 a w' H => ?_
   replace H := H.toM [(17, (sB ((decide (a0 ≥ 7)) && (decide (a0 ≤ 10)))))]
   refine k_cond H (by kernel_rfl) (t := ((decide (a0 ≥ 7)) && (decide (a0 ≤ 10)))) (by kernel_rfl) (fun c9 => ?_) (fun c9 => ?_)
   ·rw [if_pos c9] at G
    refine k_seq ?_
    refine k_rg mixed H (.v 2 (vI 2) <| .nil) fun u7 a w' H => ?_
    replace H := H.toM [(2, sI 2)]
    refine k_ret ?_
    obtain rfl := Option.some.inj G
    exact k_done0 H _ (by kernel_rfl) (by kernel_rfl)
   ·rw [if_neg (nt c9)] at G
    refine k_skip ?_
    refine k_seq ?_
    refine k_rg mixed H (.v 2 (vI (-1)) <| .nil) fun u8 a w' H => ?_
    replace H := H.toM [(2, (sI (-1)))]
    refine k_ret ?_
    obtain rfl := Option.some.inj G
    exact k_done0 H _ (by kernel_rfl) (by kernel_rfl)

set_option maxHeartbeats 4000000 in
theorem ode_validNode.calls (a0 : TNode) (a1 : Int) (r : Bool) (w : World) (G : ode_validNode a0 a1 = some r) :
  Calls Tryd.prog 53 #[.agg #[vI a0.Op, vI a0.N, vI a0.C.Lo, vI a0.C.Hi], vI a1] w fun e w' => e = .returned (.bool r) ∧ Below w.heap.size w w' := by
 refine k_enter (args := [.agg #[vI a0.Op, vI a0.N, vI a0.C.Lo, vI a0.C.Hi], vI a1]) 49 Tryd.func53 rfl (by kernel_rfl) (by kernel_rfl) fun a H => ?_
 unfold ode_validNode at G
 refine k_seq ?_
 refine k_rg mixed H (.cons [2, 49] (ok_new (fun b => vP b 0) (fun u1 => [vI a0.Op, vI a0.N, vI a0.C.Lo, vI a0.C.Hi]) 53 2 49) <|
   .v 4 (.bool false) <| .nil) fun u1 a w' H => ?_
 replace H := H.toM [(1, sI a1), (2, (sP ((u1 0).n 0) 0)), (49, .blk ((u1 0).n 0) [vI a0.Op, vI a0.N, vI a0.C.Lo, vI a0.C.Hi] 53)]
 refine k_seq ?_
 refine k_seq ?_
 refine k_rg mixed H (.v 5 (vP ((u1 0).n 0) 0) <|
   .cons [6] (ok_ld (fun u2 => vI a0.Op) 6 49 0 1 (fun u2 => ((u1 0).n 0)) (fun u2 => [vI a0.Op, vI a0.N, vI a0.C.Lo, vI a0.C.Hi]) 53) <| .nil) fun u2 a w' H => ?_
 replace H := H.toM [(1, sI a1), (2, (sP ((u1 0).n 0) 0)), (6, sI a0.Op), (49, .blk ((u1 0).n 0) [vI a0.Op, vI a0.N, vI a0.C.Lo, vI a0.C.Hi] 53)]
 refine k_block ?_
 refine k_seq ?_
 refine k_rg mixed H (.v 8 (.bool (a0.Op == 1)) <|
   .v 7 (.bool (a0.Op == 1)) <| .nil) fun u3 a w' H => ?_
 replace H := H.toM [(1, sI a1), (2, (sP ((u1 0).n 0) 0)), (6, sI a0.Op), (7, (sB (a0.Op == 1))), (49, .blk ((u1 0).n 0) [vI a0.Op, vI a0.N, vI a0.C.Lo, vI a0.C.Hi] 53)]
 refine k_cond H (by kernel_rfl) (t := (a0.Op == 1)) (by kernel_rfl) (fun c12 => ?_) (fun c12 => ?_)
 ·rw [if_pos c12] at G
  refine k_seq ?_
  replace G := bnd G; obtain ⟨t5, ht5, G⟩ := G
  refine k_rg mixed H (.v 9 (vP ((u1 0).n 0) 1) <|
   .cons [10] (ok_ld (fun u4 => vI a0.N) 10 49 1 1 (fun u4 => ((u1 0).n 0)) (fun u4 => [vI a0.Op, vI a0.N, vI a0.C.Lo, vI a0.C.Hi]) 53) <|
   .v 11 (.bool (a0.N == 0)) <|
   .v 12 (.bool (a0.N == 0)) <|
   .cons [13] (ok_valg (fun u4 => vP ((u1 0).n 0) 2) (fun u4 => ((a0.N == 0) == true)) [true] 13) <|
   .cons [14] (ok_ldg (fun u4 => .agg #[vI a0.C.Lo, vI a0.C.Hi]) (fun u4 => ((a0.N == 0) == true)) [false] 14 49 2 2 (fun u4 => ((u1 0).n 0)) (fun u4 => [vI a0.Op, vI a0.N, vI a0.C.Lo, vI a0.C.Hi]) 53) <|
   .cons [15] (ok_call 79 (fun u4 => #[.agg #[vI a0.C.Lo, vI a0.C.Hi]]) (.bool t5) (fun u4 => ((a0.N == 0) == true)) [true, false] 15 [] (fun _ w hg _ => interval_Valid.calls (⟨a0.C.Lo, a0.C.Hi⟩ : TInterval) t5 w (ifp ht5 hg))) <|
   .cons [16] (ok_and 12 15 (fun u4 => true) (fun u4 => true) (fun u4 => (a0.N == 0)) (fun u4 => t5) 16) <|
   .v 4 (.bool ((a0.N == 0) && t5)) <| .nil) fun u4 a w' H => ?_
  replace H := H.toM [(4, (sB ((a0.N == 0) && t5)))]
  refine k_ret ?_
  obtain rfl := Option.some.inj G
  exact k_done0 H _ (by kernel_rfl) (by kernel_rfl)
 ·rw [if_neg (nt c12)] at G
  refine k_seq ?_
  refine k_rg mixed H (.v 18 (.bool (a0.Op == 2)) <|
   .v 17 (.bool (a0.Op == 2)) <| .nil) fun u6 a w' H => ?_
  replace H := H.toM [(1, sI a1), (2, (sP ((u1 0).n 0) 0)), (17, (sB (a0.Op == 2))), (49, .blk ((u1 0).n 0) [vI a0.Op, vI a0.N, vI a0.C.Lo, vI a0.C.Hi] 53)]
  refine k_cond H (by kernel_rfl) (t := (a0.Op == 2)) (by kernel_rfl) (fun c11 => ?_) (fun c11 => ?_)
  ·rw [if_pos c11] at G
   refine k_seq ?_
   replace G := bnd G; obtain ⟨z8, hz8, G⟩ := G
   replace hz8 := Option.some.inj hz8
   refine k_rg mixed H (.v 19 (vP ((u1 0).n 0) 1) <|
   .cons [20] (ok_ld (fun u7 => vI a0.N) 20 49 1 1 (fun u7 => ((u1 0).n 0)) (fun u7 => [vI a0.Op, vI a0.N, vI a0.C.Lo, vI a0.C.Hi]) 53) <|
   .v 21 (.bool (decide (a0.N ≥ 0))) <|
   .v 22 (.bool (decide (a0.N ≥ 0))) <|
   .cons [23] (ok_valg (fun u7 => vP ((u1 0).n 0) 1) (fun u7 => ((decide (a0.N ≥ 0)) == true)) [true] 23) <|
   .cons [24] (ok_ldg (fun u7 => vI a0.N) (fun u7 => ((decide (a0.N ≥ 0)) == true)) [false] 24 49 1 1 (fun u7 => ((u1 0).n 0)) (fun u7 => [vI a0.Op, vI a0.N, vI a0.C.Lo, vI a0.C.Hi]) 53) <|
   .cons [25] (ok_valg (fun u7 => vI a1) (fun u7 => ((decide (a0.N ≥ 0)) == true)) [true] 25) <|
   .cons [26] (ok_valg (fun u7 => .bool (decide (a0.N < a1))) (fun u7 => ((decide (a0.N ≥ 0)) == true)) [false, false] 26) <|
   .cons [27] (ok_and 22 26 (fun u7 => true) (fun u7 => true) (fun u7 => decide (a0.N ≥ 0)) (fun u7 => decide (a0.N < a1)) 27) <|
   .v 28 (.bool ((decide (a0.N ≥ 0)) && (decide (a0.N < a1)))) <|
   .cons [29] (ok_valg (fun u7 => vP ((u1 0).n 0) 2) (fun u7 => (((decide (a0.N ≥ 0)) && (decide (a0.N < a1))) == true)) [true] 29) <|
   .cons [30] (ok_ldg (fun u7 => .agg #[vI a0.C.Lo, vI a0.C.Hi]) (fun u7 => (((decide (a0.N ≥ 0)) && (decide (a0.N < a1))) == true)) [false] 30 49 2 2 (fun u7 => ((u1 0).n 0)) (fun u7 => [vI a0.Op, vI a0.N, vI a0.C.Lo, vI a0.C.Hi]) 53) <|
   .cons [31] (ok_valg (fun u7 => .agg #[vI 0, vI 0]) (fun u7 => (((decide (a0.N ≥ 0)) && (decide (a0.N < a1))) == true)) [] 31) <|
   .cons [32] (ok_valg (fun u7 => .bool ((a0.C.Lo == 0) && ((a0.C.Hi == 0) && true))) (fun u7 => (((decide (a0.N ≥ 0)) && (decide (a0.N < a1))) == true)) [false, false] 32 (hv := fun _ _ => run_of (by kernel_rfl) (run_eql_agg (t := 38) (x := (.tmp 30)) (y := (.tmp 31)) (xs := #[vI a0.C.Lo, vI a0.C.Hi]) (ys := #[vI 0, vI 0]) (b := ((a0.C.Lo == 0) && ((a0.C.Hi == 0) && true))) (by kernel_rfl) (by kernel_rfl)))) <|
   .cons [33] (ok_and 28 32 (fun u7 => true) (fun u7 => true) (fun u7 => ((decide (a0.N ≥ 0)) && (decide (a0.N < a1)))) (fun u7 => ((a0.C.Lo == 0) && ((a0.C.Hi == 0) && true))) 33) <|
   .cons [4] (ok_as (u' := fun u7 => [(4, sB z8)]) (ok_val (fun u7 => .bool (((decide (a0.N ≥ 0)) && (decide (a0.N < a1))) && ((a0.C.Lo == 0) && ((a0.C.Hi == 0) && true)))) 4) (fun _ => by rw [← hz8])) <| .nil) fun u7 a w' H => ?_
   replace H := H.toM [(4, sB z8)]
   refine k_ret ?_
   obtain rfl := Option.some.inj G
   exact k_done0 H _ (by kernel_rfl) (by kernel_rfl)
  ·rw [if_neg (nt c11)] at G
   refine k_skip ?_
   refine k_seq ?_
   replace G := bnd G; obtain ⟨t10, ht10, G⟩ := G
   refine k_rg mixed H (.v 34 (vP ((u1 0).n 0) 0) <|
   .cons [35] (ok_ld (fun u9 => vI a0.Op) 35 49 0 1 (fun u9 => ((u1 0).n 0)) (fun u9 => [vI a0.Op, vI a0.N, vI a0.C.Lo, vI a0.C.Hi]) 53) <|
   .cons [36] (ok_callv 80 (fun u9 => #[vI a0.Op]) (vI t10) 36 [] (fun _ w _ => ode_arity.calls a0.Op t10 w ht10)) <|
   .v 37 (.bool (decide (t10 ≥ 0))) <|
   .v 38 (.bool (decide (t10 ≥ 0))) <|
   .cons [39] (ok_valg (fun u9 => vP ((u1 0).n 0) 1) (fun u9 => ((decide (t10 ≥ 0)) == true)) [true] 39) <|
   .cons [40] (ok_ldg (fun u9 => vI a0.N) (fun u9 => ((decide (t10 ≥ 0)) == true)) [false] 40 49 1 1 (fun u9 => ((u1 0).n 0)) (fun u9 => [vI a0.Op, vI a0.N, vI a0.C.Lo, vI a0.C.Hi]) 53) <|
   .cons [41] (ok_valg (fun u9 => .bool (a0.N == 0)) (fun u9 => ((decide (t10 ≥ 0)) == true)) [false, true] 41) <|
   .cons [42] (ok_and 38 41 (fun u9 => true) (fun u9 => true) (fun u9 => decide (t10 ≥ 0)) (fun u9 => (a0.N == 0)) 42) <|
   .v 43 (.bool ((decide (t10 ≥ 0)) && (a0.N == 0))) <|
   .cons [44] (ok_valg (fun u9 => vP ((u1 0).n 0) 2) (fun u9 => (((decide (t10 ≥ 0)) && (a0.N == 0)) == true)) [true] 44) <|
   .cons [45] (ok_ldg (fun u9 => .agg #[vI a0.C.Lo, vI a0.C.Hi]) (fun u9 => (((decide (t10 ≥ 0)) && (a0.N == 0)) == true)) [false] 45 49 2 2 (fun u9 => ((u1 0).n 0)) (fun u9 => [vI a0.Op, vI a0.N, vI a0.C.Lo, vI a0.C.Hi]) 53) <|
   .cons [46] (ok_valg (fun u9 => .agg #[vI 0, vI 0]) (fun u9 => (((decide (t10 ≥ 0)) && (a0.N == 0)) == true)) [] 46) <|
   .cons [47] (ok_valg (fun u9 => .bool ((a0.C.Lo == 0) && ((a0.C.Hi == 0) && true))) (fun u9 => (((decide (t10 ≥ 0)) && (a0.N == 0)) == true)) [false, false] 47 (hv := fun _ _ => run_of (by kernel_rfl) (run_eql_agg (t := 38) (x := (.tmp 45)) (y := (.tmp 46)) (xs := #[vI a0.C.Lo, vI a0.C.Hi]) (ys := #[vI 0, vI 0]) (b := ((a0.C.Lo == 0) && ((a0.C.Hi == 0) && true))) (by kernel_rfl) (by kernel_rfl)))) <|
   .cons [48] (ok_and 43 47 (fun u9 => true) (fun u9 => true) (fun u9 => ((decide (t10 ≥ 0)) && (a0.N == 0))) (fun u9 => ((a0.C.Lo == 0) && ((a0.C.Hi == 0) && true))) 48) <|
   .v 4 (.bool (((decide (t10 ≥ 0)) && (a0.N == 0)) && ((a0.C.Lo == 0) && ((a0.C.Hi == 0) && true)))) <| .nil) fun u9 a w' H => ?_
   replace H := H.toM [(4, (sB (((decide (t10 ≥ 0)) && (a0.N == 0)) && ((a0.C.Lo == 0) && ((a0.C.Hi == 0) && true)))))]
   refine k_ret ?_
   obtain rfl := Option.some.inj G
   exact k_done0 H _ (by kernel_rfl) (by kernel_rfl)

set_option maxHeartbeats 4000000 in
theorem ode_exprLen.calls (k0 : Nat) (a0 : List TNode) (p_a0 : Option Addr) (c_a0 : Nat) (r : Int) (w : World) (R_p_a0 : RowC w 4 p_a0 a0.length c_a0 (a0.flatMap en_TNode)) (G : ode_exprLen k0 a0 = some r) :
  Calls Tryd.prog 54 #[.slice p_a0 a0.length c_a0] w fun e w' => e = .returned (vI r) ∧ Below w.heap.size w w' := by
 obtain ⟨fr, hfr⟩ : ∃ fr : Nat → Prop, ∀ j, fr j := ⟨fun _ => True, fun _ => trivial⟩
 have hB : ∀ j, w.heap.size ≤ j → fr j := fun j _ => hfr j
 have hin_p_a0 : ∀ j, fpRow p_a0 a0.length j → fr j := fun j _ => hfr j
 refine k_enterF (args := [.slice p_a0 a0.length c_a0]) 27 [(27, rdl fr 4 p_a0 c_a0 a0 en_TNode)] (by
  intro x hx
  simp only [List.mem_cons, List.not_mem_nil, or_false] at hx
  rcases hx with rfl
  exact rdF_fact R_p_a0 hin_p_a0 (by decide) _) Tryd.func54 rfl (by kernel_rfl) (by kernel_rfl) fun a H => ?_
 unfold ode_exprLen at G
 refine k_seq ?_
 refine k_rg mixed H (.v 2 (vI 0) <| .nil) fun u1 a w' H => ?_
 replace H := H.toM [(0, sS p_a0 a0.length c_a0), (27, rdl fr 4 p_a0 c_a0 a0 en_TNode)]
 refine k_seq ?_
 refine k_rg mixed H (.v 3 (vI 1) <| .nil) fun u2 a w' H => ?_
 replace H := H.toM [(0, sS p_a0 a0.length c_a0), (3, sI 1), (27, rdl fr 4 p_a0 c_a0 a0 en_TNode)]
 refine k_seq ?_
 replace G := bnd G; obtain ⟨j3, hj3, Gj3⟩ := G
 refine k_join (fun a w' => ∃ j3v, j3 = Sum.inr j3v ∧ Rep w.heap.size w 27 (ofL [(0, sS p_a0 a0.length c_a0), (27, rdl fr 4 p_a0 c_a0 a0 en_TNode)]) a w') ?_ ?_
 ·clear H; rintro a w' ⟨j3v, rfl, H⟩; have G := Gj3; clear Gj3; dsimp only at G
  refine k_seq ?_
  refine k_rg mixed H (.v 24 (.slice p_a0 a0.length c_a0) <|
   .v 25 (vI (a0.length : Int)) <|
   .v 26 (vI (w_i64 ((a0.length : Int) + 1))) <|
   .v 2 (vI (w_i64 ((a0.length : Int) + 1))) <| .nil) fun u4 a w' H => ?_
  replace H := H.toM [(2, (sI (w_i64 ((a0.length : Int) + 1))))]
  refine k_ret ?_
  obtain rfl := Option.some.inj G
  exact k_done0 H _ (by kernel_rfl) (by kernel_rfl)
 ·have G := hj3; clear hj3
  refine k_seq ?_
  refine k_rg mixed H (.v 6 (.slice p_a0 a0.length c_a0) <|
   .v 7 (vI (a0.length : Int)) <|
   .v 8 (vI 0) <| .nil) fun u5 a w' H => ?_
  replace H := H.toM [(0, sS p_a0 a0.length c_a0), (3, sI 1), (6, sS p_a0 a0.length c_a0), (7, (sI (a0.length : Int))), (8, sI 0), (27, rdl fr 4 p_a0 c_a0 a0 en_TNode)]
  refine k_block ?_
  refine k_loopJ (fun m a w' => ∃ x6 : Int, ∃ x7 : Int, ode_exprLen.l8 k0 a0 m x6 x7 = some j3 ∧ Rep w.heap.size w 27 (ofL [(0, sS p_a0 a0.length c_a0), (3, sI x6), (6, sS p_a0 a0.length c_a0), (7, (sI (a0.length : Int))), (8, sI x7), (27, rdl fr 4 p_a0 c_a0 a0 en_TNode)]) a w') k0 ⟨_, _, G, H.toL _ (by kernel_rfl)⟩ ?_
  clear G H
  rintro (_ | k) a w' ⟨x6, x7, G, H⟩
  ·exact absurd G (by unfold ode_exprLen.l8; exact fun h => by cases h)
  ·unfold ode_exprLen.l8 at G
   refine k_seq ?_
   refine k_rg mixed H (.v 9 (.bool (decide (x7 < (a0.length : Int)))) <| .nil) fun u9 a w' H => ?_
   replace H := H.toM [(0, sS p_a0 a0.length c_a0), (3, sI x6), (6, sS p_a0 a0.length c_a0), (7, (sI (a0.length : Int))), (8, sI x7), (9, (sB (decide (x7 < (a0.length : Int))))), (27, rdl fr 4 p_a0 c_a0 a0 en_TNode)]
   refine k_seq ?_
   refine k_cond H (by kernel_rfl) (t := decide (x7 < (a0.length : Int))) (by kernel_rfl) (fun c19 => ?_) (fun c19 => ?_)
   ·rw [if_pos c19] at G
    refine k_skip ?_
    refine k_seq ?_
    refine k_block ?_
    refine k_seq ?_
    replace G := gd G; obtain ⟨b11, G⟩ := G
    replace G := bnd G; obtain ⟨t12, ht12, G⟩ := G
    refine k_rg mixed H (.v 10 (vI x7) <|
   .cons [11] (ok_valL [27] (fun u10 => [rdl fr 4 p_a0 c_a0 a0 en_TNode]) (fun u10 => .pointer (some ⟨hdB p_a0, hdO p_a0 + x7.toNat * 4, none⟩)) (fun u10 => true) [true, true] 11 (fun u10 w hg hF => run_of (by kernel_rfl) (run_ix (t := 22) (p := p_a0) (n := a0.length) (cap := c_a0) (k := .i64) (i := x7) (sz := 4) (by kernel_rfl) (by kernel_rfl) (rdF_of hF.1).2 b11))) <|
   .cons [12] (ok_valL [27] (fun u10 => [rdl fr 4 p_a0 c_a0 a0 en_TNode]) (fun u10 => .agg #[vI t12.Op, vI t12.N, vI t12.C.Lo, vI t12.C.Hi]) (fun u10 => true) [true] 12 (fun u10 w hg hF => ld_of (vs := [vI t12.Op, vI t12.N, vI t12.C.Lo, vI t12.C.Hi]) (b := hdB p_a0) (off := hdO p_a0 + x7.toNat * 4 + 0) (m := 4) (by kernel_rfl) (el_cells (rdF_of hF.1).2 en_TNode_len ht12 0 4 rfl))) <|
   .cons [5, 28] (ok_new (fun b => vP b 0) (fun u10 => [vI 0, vI 0, vI 0, vI 0]) 53 5 28) <|
   .v 4 (vI x7) <|
   .cons [28] (ok_as (u' := fun u10 => [(28, .blk ((u10 3).n 0) [vI t12.Op, vI t12.N, vI t12.C.Lo, vI t12.C.Hi] 53)]) (ok_store 28 0 (fun u10 => ((u10 3).n 0)) (fun u10 => [vI 0, vI 0, vI 0, vI 0]) (fun u10 => [vI t12.Op, vI t12.N, vI t12.C.Lo, vI t12.C.Hi]) 53) (fun _ => by kernel_rfl)) <| .nil) fun u10 a w' H => ?_
    replace H := H.toM [(0, sS p_a0 a0.length c_a0), (3, sI x6), (4, sI x7), (5, (sP ((u10 3).n 0) 0)), (6, sS p_a0 a0.length c_a0), (7, (sI (a0.length : Int))), (8, sI x7), (28, .blk ((u10 3).n 0) [vI t12.Op, vI t12.N, vI t12.C.Lo, vI t12.C.Hi] 53), (27, rdl fr 4 p_a0 c_a0 a0 en_TNode)]
    refine k_seq ?_
    replace G := bnd G; obtain ⟨t14, ht14, G⟩ := G
    refine k_rg mixed H (.v 13 (vI x6) <|
   .v 14 (vP ((u10 3).n 0) 0) <|
   .cons [15] (ok_ld (fun u13 => vI t12.Op) 15 28 0 1 (fun u13 => ((u10 3).n 0)) (fun u13 => [vI t12.Op, vI t12.N, vI t12.C.Lo, vI t12.C.Hi]) 53) <|
   .cons [16] (ok_callv 80 (fun u13 => #[vI t12.Op]) (vI t14) 16 [] (fun _ w _ => ode_arity.calls t12.Op t14 w ht14)) <|
   .v 17 (vI (w_i64 (t14 - 1))) <|
   .v 18 (vI (w_i64 (x6 + (w_i64 (t14 - 1))))) <|
   .v 3 (vI (w_i64 (x6 + (w_i64 (t14 - 1))))) <| .nil) fun u13 a w' H => ?_
    replace H := H.toM [(0, sS p_a0 a0.length c_a0), (3, (sI (w_i64 (x6 + (w_i64 (t14 - 1)))))), (4, sI x7), (6, sS p_a0 a0.length c_a0), (7, (sI (a0.length : Int))), (8, sI x7), (27, rdl fr 4 p_a0 c_a0 a0 en_TNode)]
    refine k_seq ?_
    refine k_rg mixed H (.v 19 (vI (w_i64 (x6 + (w_i64 (t14 - 1))))) <|
   .v 20 (.bool ((w_i64 (x6 + (w_i64 (t14 - 1)))) == 0)) <| .nil) fun u15 a w' H => ?_
    replace H := H.toM [(0, sS p_a0 a0.length c_a0), (3, (sI (w_i64 (x6 + (w_i64 (t14 - 1)))))), (4, sI x7), (6, sS p_a0 a0.length c_a0), (7, (sI (a0.length : Int))), (8, sI x7), (20, (sB ((w_i64 (x6 + (w_i64 (t14 - 1)))) == 0))), (27, rdl fr 4 p_a0 c_a0 a0 en_TNode)]
    refine k_cond H (by kernel_rfl) (t := ((w_i64 (x6 + (w_i64 (t14 - 1)))) == 0)) (by kernel_rfl) (fun c18 => ?_) (fun c18 => ?_)
    ·rw [if_pos c18] at G
     refine k_seq ?_
     refine k_rg mixed H (.v 21 (vI x7) <|
   .v 22 (vI (w_i64 (x7 + 1))) <|
   .v 2 (vI (w_i64 (x7 + 1))) <| .nil) fun u16 a w' H => ?_
     replace H := H.toM [(2, (sI (w_i64 (x7 + 1))))]
     refine k_ret ?_
     obtain rfl := Option.some.inj G
     replace G := Gj3
     obtain rfl := Option.some.inj G
     exact k_done0 H _ (by kernel_rfl) (by kernel_rfl)
    ·rw [if_neg (nt c18)] at G
     refine k_skip ?_
     refine k_rg mixed H (.v 23 (vI (w_i64 (x7 + 1))) <|
   .v 8 (vI (w_i64 (x7 + 1))) <| .nil) fun u17 a w' H => ?_
     replace H := H.toM [(0, sS p_a0 a0.length c_a0), (3, (sI (w_i64 (x6 + (w_i64 (t14 - 1)))))), (6, sS p_a0 a0.length c_a0), (7, (sI (a0.length : Int))), (8, (sI (w_i64 (x7 + 1)))), (27, rdl fr 4 p_a0 c_a0 a0 en_TNode)]
     exact ⟨k, Nat.lt_succ_self k, _, _, G, H.toL _ (by kernel_rfl)⟩
   ·rw [if_neg (nt c19)] at G
    refine k_exit rfl ?_
    obtain rfl := Option.some.inj G
    exact ⟨_, rfl, H.toL _ (by kernel_rfl)⟩

set_option maxHeartbeats 4000000 in
theorem ode_ValidExpr_1.calls (a0 : TNode) (q1_0 : Int) (b_q1_0 : Nat) (r : Bool) (w : World) (X_b_q1_0 : w.heap[b_q1_0]? = some (.cells [vI q1_0].toArray 3 (0, 0))) (G : ode_ValidExpr_1 a0 q1_0 = some r) :
  Calls Tryd.prog 52 #[.agg #[vI a0.Op, vI a0.N, vI a0.C.Lo, vI a0.C.Hi], vP b_q1_0 0] w fun e w' => e = .returned (.bool r) ∧ Below w.heap.size w w' := by
 refine k_enterF (args := [.agg #[vI a0.Op, vI a0.N, vI a0.C.Lo, vI a0.C.Hi], vP b_q1_0 0]) 8 [(8, bxK b_q1_0 [vI q1_0] 3)] (by
  intro x hx
  simp only [List.mem_cons, List.not_mem_nil, or_false] at hx
  rcases hx with rfl
  exact bx_fact X_b_q1_0 8) Tryd.func52 rfl (by kernel_rfl) (by kernel_rfl) fun a H => ?_
 unfold ode_ValidExpr_1 at G
 refine k_seq ?_
 refine k_rg mixed H (.cons [2, 9] (ok_new (fun b => vP b 0) (fun u1 => [vI a0.Op, vI a0.N, vI a0.C.Lo, vI a0.C.Hi]) 53 2 9) <|
   .v 3 (.bool false) <| .nil) fun u1 a w' H => ?_
 replace H := H.toM [(1, sP b_q1_0 0), (2, (sP ((u1 0).n 0) 0)), (9, .blk ((u1 0).n 0) [vI a0.Op, vI a0.N, vI a0.C.Lo, vI a0.C.Hi] 53), (8, bxK b_q1_0 [vI q1_0] 3)]
 refine k_seq ?_
 replace G := bnd G; obtain ⟨t3, ht3, G⟩ := G
 refine k_rg mixed H (.cons [4] (ok_ld (fun u2 => .agg #[vI a0.Op, vI a0.N, vI a0.C.Lo, vI a0.C.Hi]) 4 9 0 4 (fun u2 => ((u1 0).n 0)) (fun u2 => [vI a0.Op, vI a0.N, vI a0.C.Lo, vI a0.C.Hi]) 53) <|
   .cons [5] (ok_ldK (fun u2 => vI q1_0) 5 8 (bxK b_q1_0 [vI q1_0] 3) b_q1_0 0 1 [vI q1_0] (fun w h => bx_of h)) <|
   .cons [6] (ok_callv 53 (fun u2 => #[.agg #[vI a0.Op, vI a0.N, vI a0.C.Lo, vI a0.C.Hi], vI q1_0]) (.bool t3) 6 [] (fun _ w _ => ode_validNode.calls (⟨a0.Op, a0.N, (⟨a0.C.Lo, a0.C.Hi⟩ : TInterval)⟩ : TNode) q1_0 t3 w ht3)) <|
   .v 7 (.bool (!t3)) <|
   .v 3 (.bool (!t3)) <| .nil) fun u2 a w' H => ?_
 replace H := H.toM [(3, (sB (!t3))), (8, bxK b_q1_0 [vI q1_0] 3)]
 refine k_ret ?_
 obtain rfl := Option.some.inj G
 exact k_done0 H _ (by kernel_rfl) (by kernel_rfl)

set_option maxHeartbeats 4000000 in
theorem api_Node_78_s52.calls (k0 : Nat) (a0 : List TNode) (q1_0 : Int) (p_a0 : Option Addr) (c_a0 : Nat) (b_q1_0 : Nat) (r : Int) (w : World) (R_p_a0 : RowC w 4 p_a0 a0.length c_a0 (a0.flatMap en_TNode)) (X_b_q1_0 : w.heap[b_q1_0]? = some (.cells [vI q1_0].toArray 3 (0, 0))) (G : api_Node_78_s52 k0 a0 q1_0 = some r) :
  Calls Tryd.prog 78 #[.slice p_a0 a0.length c_a0, .func (.func 52) #[] #[vP b_q1_0 0]] w fun e w' => e = .returned (vI r) ∧ Below w.heap.size w w' := by
 obtain ⟨fr, hfr⟩ : ∃ fr : Nat → Prop, ∀ j, fr j := ⟨fun _ => True, fun _ => trivial⟩
 have hB : ∀ j, w.heap.size ≤ j → fr j := fun j _ => hfr j
 have hin_p_a0 : ∀ j, fpRow p_a0 a0.length j → fr j := fun j _ => hfr j
 refine k_enterF (args := [.slice p_a0 a0.length c_a0, .func (.func 52) #[] #[vP b_q1_0 0]]) 19 [(20, rdl fr 4 p_a0 c_a0 a0 en_TNode), (19, bxK b_q1_0 [vI q1_0] 3)] (by
  intro x hx
  simp only [List.mem_cons, List.not_mem_nil, or_false] at hx
  rcases hx with rfl | rfl
  ·exact rdF_fact R_p_a0 hin_p_a0 (by decide) _
  ·exact bx_fact X_b_q1_0 19) Tryd.func78 rfl (by kernel_rfl) (by kernel_rfl) fun a H => ?_
 unfold api_Node_78_s52 at G
 refine k_seq ?_
 refine k_rg mixed H (.v 4 (vI 0) <| .nil) fun u1 a w' H => ?_
 replace H := H.toM [(0, sS p_a0 a0.length c_a0), (1, .slot true (.func (.func 52) #[] #[vP b_q1_0 0])), (20, rdl fr 4 p_a0 c_a0 a0 en_TNode), (19, bxK b_q1_0 [vI q1_0] 3)]
 refine k_seq ?_
 replace G := bnd G; obtain ⟨j2, hj2, Gj2⟩ := G
 refine k_join (fun a w' => ∃ j2v, j2 = Sum.inr j2v ∧ Rep w.heap.size w 19 (ofL [(19, bxK b_q1_0 [vI q1_0] 3)]) a w') ?_ ?_
 ·clear H; rintro a w' ⟨j2v, rfl, H⟩; have G := Gj2; clear Gj2; dsimp only at G
  refine k_seq ?_
  refine k_rg mixed H (.v 4 (vI (-1)) <| .nil) fun u3 a w' H => ?_
  replace H := H.toM [(4, (sI (-1))), (19, bxK b_q1_0 [vI q1_0] 3)]
  refine k_ret ?_
  obtain rfl := Option.some.inj G
  exact k_done0 H _ (by kernel_rfl) (by kernel_rfl)
 ·have G := hj2; clear hj2
  refine k_seq ?_
  refine k_rg mixed H (.v 6 (.slice p_a0 a0.length c_a0) <|
   .v 7 (vI (a0.length : Int)) <|
   .v 8 (vI 0) <| .nil) fun u4 a w' H => ?_
  replace H := H.toM [(0, sS p_a0 a0.length c_a0), (1, .slot true (.func (.func 52) #[] #[vP b_q1_0 0])), (7, (sI (a0.length : Int))), (8, sI 0), (20, rdl fr 4 p_a0 c_a0 a0 en_TNode), (19, bxK b_q1_0 [vI q1_0] 3)]
  refine k_block ?_
  refine k_loopJ (fun m a w' => ∃ x5 : Int, api_Node_78_s52.l6 k0 a0 q1_0 m x5 = some j2 ∧ Rep w.heap.size w 19 (ofL [(0, sS p_a0 a0.length c_a0), (1, .slot true (.func (.func 52) #[] #[vP b_q1_0 0])), (7, (sI (a0.length : Int))), (8, sI x5), (20, rdl fr 4 p_a0 c_a0 a0 en_TNode), (19, bxK b_q1_0 [vI q1_0] 3)]) a w') k0 ⟨_, G, H.toL _ (by kernel_rfl)⟩ ?_
  clear G H
  rintro (_ | k) a w' ⟨x5, G, H⟩
  ·exact absurd G (by unfold api_Node_78_s52.l6; exact fun h => by cases h)
  ·unfold api_Node_78_s52.l6 at G
   refine k_seq ?_
   refine k_rg mixed H (.v 9 (.bool (decide (x5 < (a0.length : Int)))) <| .nil) fun u7 a w' H => ?_
   replace H := H.toM [(0, sS p_a0 a0.length c_a0), (1, .slot true (.func (.func 52) #[] #[vP b_q1_0 0])), (7, (sI (a0.length : Int))), (8, sI x5), (9, (sB (decide (x5 < (a0.length : Int))))), (20, rdl fr 4 p_a0 c_a0 a0 en_TNode), (19, bxK b_q1_0 [vI q1_0] 3)]
   refine k_seq ?_
   refine k_cond H (by kernel_rfl) (t := decide (x5 < (a0.length : Int))) (by kernel_rfl) (fun c16 => ?_) (fun c16 => ?_)
   ·rw [if_pos c16] at G
    refine k_skip ?_
    refine k_seq ?_
    refine k_block ?_
    refine k_seq ?_
    refine k_rg mixed H (.v 10 (vI x5) <|
   .v 5 (vI x5) <| .nil) fun u8 a w' H => ?_
    replace H := H.toM [(0, sS p_a0 a0.length c_a0), (1, .slot true (.func (.func 52) #[] #[vP b_q1_0 0])), (5, sI x5), (7, (sI (a0.length : Int))), (8, sI x5), (20, rdl fr 4 p_a0 c_a0 a0 en_TNode), (19, bxK b_q1_0 [vI q1_0] 3)]
    refine k_seq ?_
    replace G := gd G; obtain ⟨b10, G⟩ := G
    replace G := bnd G; obtain ⟨t11, ht11, G⟩ := G
    replace G := bnd G; obtain ⟨t12, ht12, G⟩ := G
    refine k_rg mixed H (.v 11 (.func (.func 52) #[] #[vP b_q1_0 0]) <|
   .v 12 (.slice p_a0 a0.length c_a0) <|
   .v 13 (vI x5) <|
   .cons [14] (ok_valL [20] (fun u9 => [rdl fr 4 p_a0 c_a0 a0 en_TNode]) (fun u9 => .pointer (some ⟨hdB p_a0, hdO p_a0 + x5.toNat * 4, none⟩)) (fun u9 => true) [true, true] 14 (fun u9 w hg hF => run_of (by kernel_rfl) (run_ix (t := 22) (p := p_a0) (n := a0.length) (cap := c_a0) (k := .i64) (i := x5) (sz := 4) (by kernel_rfl) (by kernel_rfl) (rdF_of hF.1).2 b10))) <|
   .cons [15] (ok_valL [20] (fun u9 => [rdl fr 4 p_a0 c_a0 a0 en_TNode]) (fun u9 => .agg #[vI t11.Op, vI t11.N, vI t11.C.Lo, vI t11.C.Hi]) (fun u9 => true) [true] 15 (fun u9 w hg hF => ld_of (vs := [vI t11.Op, vI t11.N, vI t11.C.Lo, vI t11.C.Hi]) (b := hdB p_a0) (off := hdO p_a0 + x5.toNat * 4 + 0) (m := 4) (by kernel_rfl) (el_cells (rdF_of hF.1).2 en_TNode_len ht11 0 4 rfl))) <|
   .cons [16] (ok_callL [19] (fun u9 => [bxK b_q1_0 [vI q1_0] 3]) 52 (fun u9 => #[.agg #[vI t11.Op, vI t11.N, vI t11.C.Lo, vI t11.C.Hi], vP b_q1_0 0]) (.bool t12) 16 (fun u9 w hF => ode_ValidExpr_1.calls t11 q1_0 b_q1_0 t12 w (hF.1 w (agree.refl _ _)) ht12)) <| .nil) fun u9 a w' H => ?_
    replace H := H.toM [(0, sS p_a0 a0.length c_a0), (1, .slot true (.func (.func 52) #[] #[vP b_q1_0 0])), (5, sI x5), (7, (sI (a0.length : Int))), (8, sI x5), (16, sB t12), (20, rdl fr 4 p_a0 c_a0 a0 en_TNode), (19, bxK b_q1_0 [vI q1_0] 3)]
    refine k_cond H (by kernel_rfl) (t := t12) (by kernel_rfl) (fun c15 => ?_) (fun c15 => ?_)
    ·rw [if_pos c15] at G
     refine k_seq ?_
     refine k_rg mixed H (.v 17 (vI x5) <|
   .v 4 (vI x5) <| .nil) fun u13 a w' H => ?_
     replace H := H.toM [(4, sI x5), (19, bxK b_q1_0 [vI q1_0] 3)]
     refine k_ret ?_
     obtain rfl := Option.some.inj G
     replace G := Gj2
     obtain rfl := Option.some.inj G
     exact k_done0 H _ (by kernel_rfl) (by kernel_rfl)
    ·rw [if_neg (nt c15)] at G
     refine k_skip ?_
     refine k_rg mixed H (.v 18 (vI (w_i64 (x5 + 1))) <|
   .v 8 (vI (w_i64 (x5 + 1))) <| .nil) fun u14 a w' H => ?_
     replace H := H.toM [(0, sS p_a0 a0.length c_a0), (1, .slot true (.func (.func 52) #[] #[vP b_q1_0 0])), (7, (sI (a0.length : Int))), (8, (sI (w_i64 (x5 + 1)))), (20, rdl fr 4 p_a0 c_a0 a0 en_TNode), (19, bxK b_q1_0 [vI q1_0] 3)]
     exact ⟨k, Nat.lt_succ_self k, _, G, H.toL _ (by kernel_rfl)⟩
   ·rw [if_neg (nt c16)] at G
    refine k_exit rfl ?_
    obtain rfl := Option.some.inj G
    exact ⟨_, rfl, H.toL _ (by kernel_rfl)⟩

set_option maxHeartbeats 4000000 in
theorem api_Node_51_s52.calls (k0 : Nat) (a0 : List TNode) (q1_0 : Int) (p_a0 : Option Addr) (c_a0 : Nat) (b_q1_0 : Nat) (r : Bool) (w : World) (R_p_a0 : RowC w 4 p_a0 a0.length c_a0 (a0.flatMap en_TNode)) (X_b_q1_0 : w.heap[b_q1_0]? = some (.cells [vI q1_0].toArray 3 (0, 0))) (G : api_Node_51_s52 k0 a0 q1_0 = some r) :
  Calls Tryd.prog 51 #[.slice p_a0 a0.length c_a0, .func (.func 52) #[] #[vP b_q1_0 0]] w fun e w' => e = .returned (.bool r) ∧ Below w.heap.size w w' := by
 obtain ⟨fr, hfr⟩ : ∃ fr : Nat → Prop, ∀ j, fr j := ⟨fun _ => True, fun _ => trivial⟩
 have hB : ∀ j, w.heap.size ≤ j → fr j := fun j _ => hfr j
 have hin_p_a0 : ∀ j, fpRow p_a0 a0.length j → fr j := fun j _ => hfr j
 refine k_enterF (args := [.slice p_a0 a0.length c_a0, .func (.func 52) #[] #[vP b_q1_0 0]]) 9 [(10, rdl fr 4 p_a0 c_a0 a0 en_TNode), (9, bxK b_q1_0 [vI q1_0] 3)] (by
  intro x hx
  simp only [List.mem_cons, List.not_mem_nil, or_false] at hx
  rcases hx with rfl | rfl
  ·exact rdF_fact R_p_a0 hin_p_a0 (by decide) _
  ·exact bx_fact X_b_q1_0 9) Tryd.func51 rfl (by kernel_rfl) (by kernel_rfl) fun a H => ?_
 unfold api_Node_51_s52 at G
 refine k_seq ?_
 refine k_rg mixed H (.v 4 (.bool false) <| .nil) fun u1 a w' H => ?_
 replace H := H.toM [(0, sS p_a0 a0.length c_a0), (1, .slot true (.func (.func 52) #[] #[vP b_q1_0 0])), (10, rdl fr 4 p_a0 c_a0 a0 en_TNode), (9, bxK b_q1_0 [vI q1_0] 3)]
 refine k_seq ?_
 replace G := bnd G; obtain ⟨t3, ht3, G⟩ := G
 refine k_rg mixed H (.v 5 (.slice p_a0 a0.length c_a0) <|
   .v 6 (.func (.func 52) #[] #[vP b_q1_0 0]) <|
   .cons [7] (ok_callL [10, 9] (fun u2 => [rdl fr 4 p_a0 c_a0 a0 en_TNode, bxK b_q1_0 [vI q1_0] 3]) 78 (fun u2 => #[.slice p_a0 a0.length c_a0, .func (.func 52) #[] #[vP b_q1_0 0]]) (vI t3) 7 (fun u2 w hF => api_Node_78_s52.calls k0 a0 q1_0 p_a0 c_a0 b_q1_0 t3 w (rdF_of hF.1) (hF.2.1 w (agree.refl _ _)) ht3)) <|
   .v 8 (.bool (decide (t3 ≥ 0))) <|
   .v 4 (.bool (decide (t3 ≥ 0))) <| .nil) fun u2 a w' H => ?_
 replace H := H.toM [(4, (sB (decide (t3 ≥ 0)))), (9, bxK b_q1_0 [vI q1_0] 3)]
 refine k_ret ?_
 obtain rfl := Option.some.inj G
 exact k_done0 H _ (by kernel_rfl) (by kernel_rfl)

set_option maxHeartbeats 4000000 in
theorem ode_ValidExpr.calls (k0 : Nat) (a0 : List TNode) (a1 : Int) (p_a0 : Option Addr) (c_a0 : Nat) (r : Bool) (w : World) (R_p_a0 : RowC w 4 p_a0 a0.length c_a0 (a0.flatMap en_TNode)) (G : ode_ValidExpr k0 a0 a1 = some r) :
  Calls Tryd.prog 31 #[.slice p_a0 a0.length c_a0, vI a1] w fun e w' => e = .returned (.bool r) ∧ Below w.heap.size w w' := by
 obtain ⟨fr, hfr⟩ : ∃ fr : Nat → Prop, ∀ j, fr j := ⟨fun _ => True, fun _ => trivial⟩
 have hB : ∀ j, w.heap.size ≤ j → fr j := fun j _ => hfr j
 have hin_p_a0 : ∀ j, fpRow p_a0 a0.length j → fr j := fun j _ => hfr j
 refine k_enterF (args := [.slice p_a0 a0.length c_a0, vI a1]) 26 [(26, rdl fr 4 p_a0 c_a0 a0 en_TNode)] (by
  intro x hx
  simp only [List.mem_cons, List.not_mem_nil, or_false] at hx
  rcases hx with rfl
  exact rdF_fact R_p_a0 hin_p_a0 (by decide) _) Tryd.func31 rfl (by kernel_rfl) (by kernel_rfl) fun a H => ?_
 unfold ode_ValidExpr at G
 refine k_seq ?_
 refine k_rg mixed H (.cons [3, 27] (ok_new (fun b => vP b 0) (fun u1 => [vI a1]) 3 3 27) <|
   .v 4 (.bool false) <| .nil) fun u1 a w' H => ?_
 replace H := H.toM [(0, sS p_a0 a0.length c_a0), (3, (sP ((u1 0).n 0) 0)), (27, .blk ((u1 0).n 0) [vI a1] 3), (26, rdl fr 4 p_a0 c_a0 a0 en_TNode)]
 refine k_seq ?_
 replace G := bnd G; obtain ⟨t3, ht3, G⟩ := G
 replace G := bnd G; obtain ⟨t4, ht4, G⟩ := G
 replace G := bnd G; obtain ⟨z5, hz5, G⟩ := G
 replace hz5 := Option.some.inj hz5
 refine k_rg mixed H (.v 5 (.slice p_a0 a0.length c_a0) <|
   .v 6 (vI (a0.length : Int)) <|
   .v 7 (.bool (decide ((a0.length : Int) > 0))) <|
   .v 8 (.bool (decide ((a0.length : Int) > 0))) <|
   .cons [9] (ok_valg (fun u2 => .slice p_a0 a0.length c_a0) (fun u2 => ((decide ((a0.length : Int) > 0)) == true)) [true] 9) <|
   .cons [10] (ok_valg (fun u2 => vI (a0.length : Int)) (fun u2 => ((decide ((a0.length : Int) > 0)) == true)) [false] 10) <|
   .cons [11] (ok_valg (fun u2 => .bool (decide ((a0.length : Int) ≤ 200))) (fun u2 => ((decide ((a0.length : Int) > 0)) == true)) [false, true] 11) <|
   .cons [12] (ok_and 8 11 (fun u2 => true) (fun u2 => true) (fun u2 => decide ((a0.length : Int) > 0)) (fun u2 => decide ((a0.length : Int) ≤ 200)) 12) <|
   .v 13 (.bool ((decide ((a0.length : Int) > 0)) && (decide ((a0.length : Int) ≤ 200)))) <|
   .cons [14] (ok_valg (fun u2 => .slice p_a0 a0.length c_a0) (fun u2 => (((decide ((a0.length : Int) > 0)) && (decide ((a0.length : Int) ≤ 200))) == true)) [true] 14) <|
   .cons [15] (ok_valg (fun u2 => .func (.func 52) #[] #[vP ((u1 0).n 0) 0]) (fun u2 => (((decide ((a0.length : Int) > 0)) && (decide ((a0.length : Int) ≤ 200))) == true)) [true] 15) <|
   .cons [16] (ok_callLg [26, 27] (fun u2 => [rdl fr 4 p_a0 c_a0 a0 en_TNode, .blk ((u1 0).n 0) [vI a1] 3]) 51 (fun u2 => #[.slice p_a0 a0.length c_a0, .func (.func 52) #[] #[vP ((u1 0).n 0) 0]]) (.bool t3) (fun u2 => (((decide ((a0.length : Int) > 0)) && (decide ((a0.length : Int) ≤ 200))) == true)) [true, false, false] 16 (fun u2 w hg hF => api_Node_51_s52.calls k0 a0 a1 p_a0 c_a0 ((u1 0).n 0) t3 w (rdF_of hF.1) hF.2.1 (ifp ht3 hg))) <|
   .cons [17] (ok_valg (fun u2 => .bool (!t3)) (fun u2 => (((decide ((a0.length : Int) > 0)) && (decide ((a0.length : Int) ≤ 200))) == true)) [false] 17) <|
   .cons [18] (ok_and 13 17 (fun u2 => true) (fun u2 => true) (fun u2 => ((decide ((a0.length : Int) > 0)) && (decide ((a0.length : Int) ≤ 200)))) (fun u2 => (!t3)) 18) <|
   .v 19 (.bool (((decide ((a0.length : Int) > 0)) && (decide ((a0.length : Int) ≤ 200))) && (!t3))) <|
   .cons [20] (ok_valg (fun u2 => .slice p_a0 a0.length c_a0) (fun u2 => ((((decide ((a0.length : Int) > 0)) && (decide ((a0.length : Int) ≤ 200))) && (!t3)) == true)) [true] 20) <|
   .cons [21] (ok_callLg [26] (fun u2 => [rdl fr 4 p_a0 c_a0 a0 en_TNode]) 54 (fun u2 => #[.slice p_a0 a0.length c_a0]) (vI t4) (fun u2 => ((((decide ((a0.length : Int) > 0)) && (decide ((a0.length : Int) ≤ 200))) && (!t3)) == true)) [true, false] 21 (fun u2 w hg hF => ode_exprLen.calls k0 a0 p_a0 c_a0 t4 w (rdF_of hF.1) (ifp ht4 hg))) <|
   .cons [22] (ok_valg (fun u2 => .slice p_a0 a0.length c_a0) (fun u2 => ((((decide ((a0.length : Int) > 0)) && (decide ((a0.length : Int) ≤ 200))) && (!t3)) == true)) [true] 22) <|
   .cons [23] (ok_valg (fun u2 => vI (a0.length : Int)) (fun u2 => ((((decide ((a0.length : Int) > 0)) && (decide ((a0.length : Int) ≤ 200))) && (!t3)) == true)) [false] 23) <|
   .cons [24] (ok_valg (fun u2 => .bool (t4 == (a0.length : Int))) (fun u2 => ((((decide ((a0.length : Int) > 0)) && (decide ((a0.length : Int) ≤ 200))) && (!t3)) == true)) [false, false] 24) <|
   .cons [25] (ok_and 19 24 (fun u2 => true) (fun u2 => true) (fun u2 => (((decide ((a0.length : Int) > 0)) && (decide ((a0.length : Int) ≤ 200))) && (!t3))) (fun u2 => (t4 == (a0.length : Int))) 25) <|
   .cons [4] (ok_as (u' := fun u2 => [(4, sB z5)]) (ok_val (fun u2 => .bool ((((decide ((a0.length : Int) > 0)) && (decide ((a0.length : Int) ≤ 200))) && (!t3)) && (t4 == (a0.length : Int)))) 4) (fun _ => by rw [← hz5])) <| .nil) fun u2 a w' H => ?_
 replace H := H.toM [(4, sB z5)]
 refine k_ret ?_
 obtain rfl := Option.some.inj G
 exact k_done0 H _ (by kernel_rfl) (by kernel_rfl)

set_option maxHeartbeats 4000000 in
theorem guard_Valid.calls (k0 : Nat) (a0 : TGuard) (a1 : Int) (p_a0_F : Option Addr) (c_a0_F : Nat) (r : Bool) (w : World) (R_p_a0_F : RowC w 4 p_a0_F a0.F.length c_a0_F (a0.F.flatMap en_TNode)) (G : guard_Valid k0 a0 a1 = some r) :
  Calls Tryd.prog 10 #[.agg #[.slice p_a0_F a0.F.length c_a0_F, vI a0.Dir], vI a1] w fun e w' => e = .returned (.bool r) ∧ Below w.heap.size w w' := by
 obtain ⟨fr, hfr⟩ : ∃ fr : Nat → Prop, ∀ j, fr j := ⟨fun _ => True, fun _ => trivial⟩
 have hB : ∀ j, w.heap.size ≤ j → fr j := fun j _ => hfr j
 have hin_p_a0_F : ∀ j, fpRow p_a0_F a0.F.length j → fr j := fun j _ => hfr j
 refine k_enterF (args := [.agg #[.slice p_a0_F a0.F.length c_a0_F, vI a0.Dir], vI a1]) 27 [(27, rdl fr 4 p_a0_F c_a0_F a0.F en_TNode)] (by
  intro x hx
  simp only [List.mem_cons, List.not_mem_nil, or_false] at hx
  rcases hx with rfl
  exact rdF_fact R_p_a0_F hin_p_a0_F (by decide) _) Tryd.func10 rfl (by kernel_rfl) (by kernel_rfl) fun a H => ?_
 unfold guard_Valid at G
 refine k_seq ?_
 refine k_rg mixed H (.cons [2, 28] (ok_new (fun b => vP b 0) (fun u1 => [.slice p_a0_F a0.F.length c_a0_F, vI a0.Dir]) 31 2 28) <|
   .v 4 (.bool false) <| .nil) fun u1 a w' H => ?_
 replace H := H.toM [(1, sI a1), (2, (sP ((u1 0).n 0) 0)), (28, .blk ((u1 0).n 0) [.slice p_a0_F a0.F.length c_a0_F, vI a0.Dir] 31), (27, rdl fr 4 p_a0_F c_a0_F a0.F en_TNode)]
 refine k_seq ?_
 replace G := bnd G; obtain ⟨z3, hz3, G⟩ := G
 replace hz3 := Option.some.inj hz3
 replace G := bnd G; obtain ⟨t4, ht4, G⟩ := G
 refine k_rg mixed H (.v 5 (vI a1) <|
   .v 6 (.bool (decide (a1 ≥ 1))) <|
   .v 7 (.bool (decide (a1 ≥ 1))) <|
   .cons [8] (ok_valg (fun u2 => vI a1) (fun u2 => ((decide (a1 ≥ 1)) == true)) [true] 8) <|
   .cons [9] (ok_valg (fun u2 => .bool (decide (a1 ≤ 6))) (fun u2 => ((decide (a1 ≥ 1)) == true)) [false, true] 9) <|
   .cons [10] (ok_and 7 9 (fun u2 => true) (fun u2 => true) (fun u2 => decide (a1 ≥ 1)) (fun u2 => decide (a1 ≤ 6)) 10) <|
   .v 11 (.bool ((decide (a1 ≥ 1)) && (decide (a1 ≤ 6)))) <|
   .cons [12] (ok_valg (fun u2 => vP ((u1 0).n 0) 1) (fun u2 => (((decide (a1 ≥ 1)) && (decide (a1 ≤ 6))) == true)) [true] 12) <|
   .cons [13] (ok_ldg (fun u2 => vI a0.Dir) (fun u2 => (((decide (a1 ≥ 1)) && (decide (a1 ≤ 6))) == true)) [false] 13 28 1 1 (fun u2 => ((u1 0).n 0)) (fun u2 => [.slice p_a0_F a0.F.length c_a0_F, vI a0.Dir]) 31) <|
   .cons [14] (ok_valg (fun u2 => .bool (decide (a0.Dir ≥ (-1)))) (fun u2 => (((decide (a1 ≥ 1)) && (decide (a1 ≤ 6))) == true)) [false, true] 14) <|
   .cons [15] (ok_and 11 14 (fun u2 => true) (fun u2 => true) (fun u2 => ((decide (a1 ≥ 1)) && (decide (a1 ≤ 6)))) (fun u2 => decide (a0.Dir ≥ (-1))) 15) <|
   .v 16 (.bool (((decide (a1 ≥ 1)) && (decide (a1 ≤ 6))) && (decide (a0.Dir ≥ (-1))))) <|
   .cons [17] (ok_valg (fun u2 => vP ((u1 0).n 0) 1) (fun u2 => ((((decide (a1 ≥ 1)) && (decide (a1 ≤ 6))) && (decide (a0.Dir ≥ (-1)))) == true)) [true] 17) <|
   .cons [18] (ok_ldg (fun u2 => vI a0.Dir) (fun u2 => ((((decide (a1 ≥ 1)) && (decide (a1 ≤ 6))) && (decide (a0.Dir ≥ (-1)))) == true)) [false] 18 28 1 1 (fun u2 => ((u1 0).n 0)) (fun u2 => [.slice p_a0_F a0.F.length c_a0_F, vI a0.Dir]) 31) <|
   .cons [19] (ok_valg (fun u2 => .bool (decide (a0.Dir ≤ 1))) (fun u2 => ((((decide (a1 ≥ 1)) && (decide (a1 ≤ 6))) && (decide (a0.Dir ≥ (-1)))) == true)) [false, true] 19) <|
   .cons [20] (ok_and 16 19 (fun u2 => true) (fun u2 => true) (fun u2 => (((decide (a1 ≥ 1)) && (decide (a1 ≤ 6))) && (decide (a0.Dir ≥ (-1))))) (fun u2 => decide (a0.Dir ≤ 1)) 20) <|
   .cons [21] (ok_as (u' := fun u2 => [(21, sB z3)]) (ok_val (fun u2 => .bool ((((decide (a1 ≥ 1)) && (decide (a1 ≤ 6))) && (decide (a0.Dir ≥ (-1)))) && (decide (a0.Dir ≤ 1)))) 21) (fun _ => by rw [← hz3])) <|
   .cons [22] (ok_valg (fun u2 => vP ((u1 0).n 0) 0) (fun u2 => (z3 == true)) [true] 22) <|
   .cons [23] (ok_ldg (fun u2 => .slice p_a0_F a0.F.length c_a0_F) (fun u2 => (z3 == true)) [false] 23 28 0 1 (fun u2 => ((u1 0).n 0)) (fun u2 => [.slice p_a0_F a0.F.length c_a0_F, vI a0.Dir]) 31) <|
   .cons [24] (ok_valg (fun u2 => vI a1) (fun u2 => (z3 == true)) [true] 24) <|
   .cons [25] (ok_callLg [27] (fun u2 => [rdl fr 4 p_a0_F c_a0_F a0.F en_TNode]) 31 (fun u2 => #[.slice p_a0_F a0.F.length c_a0_F, vI a1]) (.bool t4) (fun u2 => (z3 == true)) [true, false, false] 25 (fun u2 w hg hF => ode_ValidExpr.calls k0 a0.F a1 p_a0_F c_a0_F t4 w (rdF_of hF.1) (ifp ht4 hg))) <|
   .cons [26] (ok_and 21 25 (fun u2 => true) (fun u2 => true) (fun u2 => z3) (fun u2 => t4) 26) <|
   .v 4 (.bool (z3 && t4)) <| .nil) fun u2 a w' H => ?_
 replace H := H.toM [(4, (sB (z3 && t4)))]
 refine k_ret ?_
 obtain rfl := Option.some.inj G
 exact k_done0 H _ (by kernel_rfl) (by kernel_rfl)

set_option maxHeartbeats 4000000 in
theorem interval_New.calls (a0 : Int) (a1 : Int) (r : TInterval) (w : World) (G : interval_New a0 a1 = some r) :
  Calls Tryd.prog 89 #[vI a0, vI a1] w fun e w' => e = .returned (.agg #[vI r.Lo, vI r.Hi]) ∧ Below w.heap.size w w' := by
 refine k_enter (args := [vI a0, vI a1]) 23 Tryd.func89 rfl (by kernel_rfl) (by kernel_rfl) fun a H => ?_
 unfold interval_New at G
 refine k_seq ?_
 refine k_rg mixed H (.cons [4, 23] (ok_new (fun b => vP b 0) (fun u1 => [vI 0, vI 0]) 38 4 23) <| .nil) fun u1 a w' H => ?_
 replace H := H.toM [(0, sI a0), (1, sI a1), (4, (sP ((u1 0).n 0) 0)), (23, .blk ((u1 0).n 0) [vI 0, vI 0] 38)]
 refine k_seq ?_
 refine k_seq ?_
 replace G := bnd G; obtain ⟨z3, hz3, G⟩ := G
 replace hz3 := Option.some.inj hz3
 refine k_rg mixed H (.v 5 (vI a0) <|
   .v 6 (.bool (decide (a0 ≤ (-2147483648)))) <|
   .v 7 (.bool (decide (a0 ≤ (-2147483648)))) <|
   .cons [8] (ok_valg (fun u2 => vI a1) (fun u2 => ((decide (a0 ≤ (-2147483648))) == false)) [true] 8) <|
   .cons [9] (ok_valg (fun u2 => .bool (decide (a1 ≥ 2147483648))) (fun u2 => ((decide (a0 ≤ (-2147483648))) == false)) [false, true] 9) <|
   .cons [10] (ok_or 7 9 (fun u2 => true) (fun u2 => true) (fun u2 => decide (a0 ≤ (-2147483648))) (fun u2 => decide (a1 ≥ 2147483648)) 10) <|
   .v 11 (.bool ((decide (a0 ≤ (-2147483648))) || (decide (a1 ≥ 2147483648)))) <|
   .cons [12] (ok_valg (fun u2 => vI a0) (fun u2 => (((decide (a0 ≤ (-2147483648))) || (decide (a1 ≥ 2147483648))) == false)) [true] 12) <|
   .cons [13] (ok_valg (fun u2 => .bool (decide (a0 ≥ 2147483648))) (fun u2 => (((decide (a0 ≤ (-2147483648))) || (decide (a1 ≥ 2147483648))) == false)) [false, true] 13) <|
   .cons [14] (ok_or 11 13 (fun u2 => true) (fun u2 => true) (fun u2 => ((decide (a0 ≤ (-2147483648))) || (decide (a1 ≥ 2147483648)))) (fun u2 => decide (a0 ≥ 2147483648)) 14) <|
   .cons [15] (ok_as (u' := fun u2 => [(15, sB z3)]) (ok_val (fun u2 => .bool (((decide (a0 ≤ (-2147483648))) || (decide (a1 ≥ 2147483648))) || (decide (a0 ≥ 2147483648)))) 15) (fun _ => by rw [← hz3])) <|
   .cons [16] (ok_valg (fun u2 => vI a1) (fun u2 => (z3 == false)) [true] 16) <|
   .cons [17] (ok_valg (fun u2 => .bool (decide (a1 ≤ (-2147483648)))) (fun u2 => (z3 == false)) [false, true] 17) <|
   .cons [18] (ok_or 15 17 (fun u2 => true) (fun u2 => true) (fun u2 => z3) (fun u2 => decide (a1 ≤ (-2147483648))) 18) <| .nil) fun u2 a w' H => ?_
 replace H := H.toM [(0, sI a0), (1, sI a1), (4, (sP ((u1 0).n 0) 0)), (18, (sB (z3 || (decide (a1 ≤ (-2147483648)))))), (23, .blk ((u1 0).n 0) [vI 0, vI 0] 38)]
 refine k_cond H (by kernel_rfl) (t := (z3 || (decide (a1 ≤ (-2147483648))))) (by kernel_rfl) (fun c7 => ?_) (fun c7 => ?_)
 ·rw [if_pos c7] at G
  refine k_seq ?_
  replace G := bnd G; obtain ⟨t5, ht5, G⟩ := G
  refine k_rg mixed H (.cons [19] (ok_callv 61 (fun u4 => #[]) (.agg #[vI t5.Lo, vI t5.Hi]) 19 [] (fun _ w _ => interval_Entire.calls  t5 w ht5)) <|
   .cons [23] (ok_as (u' := fun u4 => [(23, .blk ((u1 0).n 0) [vI t5.Lo, vI t5.Hi] 38)]) (ok_store 23 0 (fun u4 => ((u1 0).n 0)) (fun u4 => [vI 0, vI 0]) (fun u4 => [vI t5.Lo, vI t5.Hi]) 38) (fun _ => by kernel_rfl)) <| .nil) fun u4 a w' H => ?_
  replace H := H.toM [(4, (sP ((u1 0).n 0) 0)), (23, .blk ((u1 0).n 0) [vI t5.Lo, vI t5.Hi] 38)]
  refine k_ret ?_
  obtain rfl := Option.some.inj G
  exact k_done1 H _ 23 ((u1 0).n 0) [vI t5.Lo, vI t5.Hi] 38 0 2 (by kernel_rfl) (by kernel_rfl) (by kernel_rfl) (by kernel_rfl)
 ·rw [if_neg (nt c7)] at G
  refine k_skip ?_
  refine k_seq ?_
  refine k_rg mixed H (.v 20 (vI a0) <|
   .v 21 (vI a1) <|
   .v 22 (.agg #[vI a0, vI a1]) <|
   .cons [23] (ok_as (u' := fun u6 => [(23, .blk ((u1 0).n 0) [vI a0, vI a1] 38)]) (ok_store 23 0 (fun u6 => ((u1 0).n 0)) (fun u6 => [vI 0, vI 0]) (fun u6 => [vI a0, vI a1]) 38) (fun _ => by kernel_rfl)) <| .nil) fun u6 a w' H => ?_
  replace H := H.toM [(4, (sP ((u1 0).n 0) 0)), (23, .blk ((u1 0).n 0) [vI a0, vI a1] 38)]
  refine k_ret ?_
  obtain rfl := Option.some.inj G
  exact k_done1 H _ 23 ((u1 0).n 0) [vI a0, vI a1] 38 0 2 (by kernel_rfl) (by kernel_rfl) (by kernel_rfl) (by kernel_rfl)

set_option maxHeartbeats 4000000 in
theorem interval_Add.calls (a0 : TInterval) (a1 : TInterval) (r : TInterval) (w : World) (G : interval_Add a0 a1 = some r) :
  Calls Tryd.prog 82 #[.agg #[vI a0.Lo, vI a0.Hi], .agg #[vI a1.Lo, vI a1.Hi]] w fun e w' => e = .returned (.agg #[vI r.Lo, vI r.Hi]) ∧ Below w.heap.size w w' := by
 refine k_enter (args := [.agg #[vI a0.Lo, vI a0.Hi], .agg #[vI a1.Lo, vI a1.Hi]]) 23 Tryd.func82 rfl (by kernel_rfl) (by kernel_rfl) fun a H => ?_
 unfold interval_Add at G
 refine k_seq ?_
 refine k_rg mixed H (.cons [2, 23] (ok_new (fun b => vP b 0) (fun u1 => [vI a0.Lo, vI a0.Hi]) 38 2 23) <|
   .cons [3, 24] (ok_new (fun b => vP b 0) (fun u1 => [vI a1.Lo, vI a1.Hi]) 38 3 24) <|
   .cons [4, 25] (ok_new (fun b => vP b 0) (fun u1 => [vI 0, vI 0]) 38 4 25) <| .nil) fun u1 a w' H => ?_
 replace H := H.toM [(2, (sP ((u1 0).n 0) 0)), (3, (sP ((u1 1).n 0) 0)), (4, (sP ((u1 2).n 0) 0)), (23, .blk ((u1 0).n 0) [vI a0.Lo, vI a0.Hi] 38), (24, .blk ((u1 1).n 0) [vI a1.Lo, vI a1.Hi] 38), (25, .blk ((u1 2).n 0) [vI 0, vI 0] 38)]
 refine k_seq ?_
 refine k_seq ?_
 replace G := bnd G; obtain ⟨t3, ht3, G⟩ := G
 replace G := bnd G; obtain ⟨t4, ht4, G⟩ := G
 refine k_rg mixed H (.cons [5] (ok_ld (fun u2 => .agg #[vI a0.Lo, vI a0.Hi]) 5 23 0 2 (fun u2 => ((u1 0).n 0)) (fun u2 => [vI a0.Lo, vI a0.Hi]) 38) <|
   .cons [6] (ok_callv 86 (fun u2 => #[.agg #[vI a0.Lo, vI a0.Hi]]) (.bool t3) 6 [] (fun _ w _ => interval_IsEntire.calls a0 t3 w ht3)) <|
   .v 7 (.bool t3) <|
   .cons [8] (ok_ldg (fun u2 => .agg #[vI a1.Lo, vI a1.Hi]) (fun u2 => (t3 == false)) [true] 8 24 0 2 (fun u2 => ((u1 1).n 0)) (fun u2 => [vI a1.Lo, vI a1.Hi]) 38) <|
   .cons [9] (ok_call 86 (fun u2 => #[.agg #[vI a1.Lo, vI a1.Hi]]) (.bool t4) (fun u2 => (t3 == false)) [true, false] 9 [] (fun _ w hg _ => interval_IsEntire.calls a1 t4 w (ifp ht4 hg))) <|
   .cons [10] (ok_or 7 9 (fun u2 => true) (fun u2 => true) (fun u2 => t3) (fun u2 => t4) 10) <| .nil) fun u2 a w' H => ?_
 replace H := H.toM [(2, (sP ((u1 0).n 0) 0)), (3, (sP ((u1 1).n 0) 0)), (4, (sP ((u1 2).n 0) 0)), (10, (sB (t3 || t4))), (23, .blk ((u1 0).n 0) [vI a0.Lo, vI a0.Hi] 38), (24, .blk ((u1 1).n 0) [vI a1.Lo, vI a1.Hi] 38), (25, .blk ((u1 2).n 0) [vI 0, vI 0] 38)]
 refine k_cond H (by kernel_rfl) (t := (t3 || t4)) (by kernel_rfl) (fun c9 => ?_) (fun c9 => ?_)
 ·rw [if_pos c9] at G
  refine k_seq ?_
  replace G := bnd G; obtain ⟨t6, ht6, G⟩ := G
  refine k_rg mixed H (.cons [11] (ok_callv 61 (fun u5 => #[]) (.agg #[vI t6.Lo, vI t6.Hi]) 11 [] (fun _ w _ => interval_Entire.calls  t6 w ht6)) <|
   .cons [25] (ok_as (u' := fun u5 => [(25, .blk ((u1 2).n 0) [vI t6.Lo, vI t6.Hi] 38)]) (ok_store 25 0 (fun u5 => ((u1 2).n 0)) (fun u5 => [vI 0, vI 0]) (fun u5 => [vI t6.Lo, vI t6.Hi]) 38) (fun _ => by kernel_rfl)) <| .nil) fun u5 a w' H => ?_
  replace H := H.toM [(4, (sP ((u1 2).n 0) 0)), (25, .blk ((u1 2).n 0) [vI t6.Lo, vI t6.Hi] 38)]
  refine k_ret ?_
  obtain rfl := Option.some.inj G
  exact k_done1 H _ 25 ((u1 2).n 0) [vI t6.Lo, vI t6.Hi] 38 0 2 (by kernel_rfl) (by kernel_rfl) (by kernel_rfl) (by kernel_rfl)
 ·rw [if_neg (nt c9)] at G
  refine k_skip ?_
  refine k_seq ?_
  replace G := bnd G; obtain ⟨t8, ht8, G⟩ := G
  refine k_rg mixed H (.v 12 (vP ((u1 0).n 0) 0) <|
   .cons [13] (ok_ld (fun u7 => vI a0.Lo) 13 23 0 1 (fun u7 => ((u1 0).n 0)) (fun u7 => [vI a0.Lo, vI a0.Hi]) 38) <|
   .v 14 (vP ((u1 1).n 0) 0) <|
   .cons [15] (ok_ld (fun u7 => vI a1.Lo) 15 24 0 1 (fun u7 => ((u1 1).n 0)) (fun u7 => [vI a1.Lo, vI a1.Hi]) 38) <|
   .v 16 (vI (w_i64 (a0.Lo + a1.Lo))) <|
   .v 17 (vP ((u1 0).n 0) 1) <|
   .cons [18] (ok_ld (fun u7 => vI a0.Hi) 18 23 1 1 (fun u7 => ((u1 0).n 0)) (fun u7 => [vI a0.Lo, vI a0.Hi]) 38) <|
   .v 19 (vP ((u1 1).n 0) 1) <|
   .cons [20] (ok_ld (fun u7 => vI a1.Hi) 20 24 1 1 (fun u7 => ((u1 1).n 0)) (fun u7 => [vI a1.Lo, vI a1.Hi]) 38) <|
   .v 21 (vI (w_i64 (a0.Hi + a1.Hi))) <|
   .cons [22] (ok_callv 89 (fun u7 => #[vI (w_i64 (a0.Lo + a1.Lo)), vI (w_i64 (a0.Hi + a1.Hi))]) (.agg #[vI t8.Lo, vI t8.Hi]) 22 [] (fun _ w _ => interval_New.calls (w_i64 (a0.Lo + a1.Lo)) (w_i64 (a0.Hi + a1.Hi)) t8 w ht8)) <|
   .cons [25] (ok_as (u' := fun u7 => [(25, .blk ((u1 2).n 0) [vI t8.Lo, vI t8.Hi] 38)]) (ok_store 25 0 (fun u7 => ((u1 2).n 0)) (fun u7 => [vI 0, vI 0]) (fun u7 => [vI t8.Lo, vI t8.Hi]) 38) (fun _ => by kernel_rfl)) <| .nil) fun u7 a w' H => ?_
  replace H := H.toM [(4, (sP ((u1 2).n 0) 0)), (25, .blk ((u1 2).n 0) [vI t8.Lo, vI t8.Hi] 38)]
  refine k_ret ?_
  obtain rfl := Option.some.inj G
  exact k_done1 H _ 25 ((u1 2).n 0) [vI t8.Lo, vI t8.Hi] 38 0 2 (by kernel_rfl) (by kernel_rfl) (by kernel_rfl) (by kernel_rfl)

set_option maxHeartbeats 4000000 in
theorem interval_Neg.calls (a0 : TInterval) (r : TInterval) (w : World) (G : interval_Neg a0 = some r) :
  Calls Tryd.prog 59 #[.agg #[vI a0.Lo, vI a0.Hi]] w fun e w' => e = .returned (.agg #[vI r.Lo, vI r.Hi]) ∧ Below w.heap.size w w' := by
 refine k_enter (args := [.agg #[vI a0.Lo, vI a0.Hi]]) 10 Tryd.func59 rfl (by kernel_rfl) (by kernel_rfl) fun a H => ?_
 unfold interval_Neg at G
 refine k_seq ?_
 refine k_rg mixed H (.cons [1, 10] (ok_new (fun b => vP b 0) (fun u1 => [vI a0.Lo, vI a0.Hi]) 38 1 10) <|
   .cons [2, 11] (ok_new (fun b => vP b 0) (fun u1 => [vI 0, vI 0]) 38 2 11) <| .nil) fun u1 a w' H => ?_
 replace H := H.toM [(1, (sP ((u1 0).n 0) 0)), (2, (sP ((u1 1).n 0) 0)), (10, .blk ((u1 0).n 0) [vI a0.Lo, vI a0.Hi] 38), (11, .blk ((u1 1).n 0) [vI 0, vI 0] 38)]
 refine k_seq ?_
 refine k_rg mixed H (.v 3 (vP ((u1 0).n 0) 1) <|
   .cons [4] (ok_ld (fun u2 => vI a0.Hi) 4 10 1 1 (fun u2 => ((u1 0).n 0)) (fun u2 => [vI a0.Lo, vI a0.Hi]) 38) <|
   .v 5 (vI (w_i64 (0 - a0.Hi))) <|
   .v 6 (vP ((u1 0).n 0) 0) <|
   .cons [7] (ok_ld (fun u2 => vI a0.Lo) 7 10 0 1 (fun u2 => ((u1 0).n 0)) (fun u2 => [vI a0.Lo, vI a0.Hi]) 38) <|
   .v 8 (vI (w_i64 (0 - a0.Lo))) <|
   .v 9 (.agg #[vI (w_i64 (0 - a0.Hi)), vI (w_i64 (0 - a0.Lo))]) <|
   .cons [11] (ok_as (u' := fun u2 => [(11, .blk ((u1 1).n 0) [vI (w_i64 (0 - a0.Hi)), vI (w_i64 (0 - a0.Lo))] 38)]) (ok_store 11 0 (fun u2 => ((u1 1).n 0)) (fun u2 => [vI 0, vI 0]) (fun u2 => [vI (w_i64 (0 - a0.Hi)), vI (w_i64 (0 - a0.Lo))]) 38) (fun _ => by kernel_rfl)) <| .nil) fun u2 a w' H => ?_
 replace H := H.toM [(2, (sP ((u1 1).n 0) 0)), (11, .blk ((u1 1).n 0) [vI (w_i64 (0 - a0.Hi)), vI (w_i64 (0 - a0.Lo))] 38)]
 refine k_ret ?_
 obtain rfl := Option.some.inj G
 exact k_done1 H _ 11 ((u1 1).n 0) [vI (w_i64 (0 - a0.Hi)), vI (w_i64 (0 - a0.Lo))] 38 0 2 (by kernel_rfl) (by kernel_rfl) (by kernel_rfl) (by kernel_rfl)

set_option maxHeartbeats 4000000 in
theorem interval_Sub.calls (a0 : TInterval) (a1 : TInterval) (r : TInterval) (w : World) (G : interval_Sub a0 a1 = some r) :
  Calls Tryd.prog 83 #[.agg #[vI a0.Lo, vI a0.Hi], .agg #[vI a1.Lo, vI a1.Hi]] w fun e w' => e = .returned (.agg #[vI r.Lo, vI r.Hi]) ∧ Below w.heap.size w w' := by
 refine k_enter (args := [.agg #[vI a0.Lo, vI a0.Hi], .agg #[vI a1.Lo, vI a1.Hi]]) 9 Tryd.func83 rfl (by kernel_rfl) (by kernel_rfl) fun a H => ?_
 unfold interval_Sub at G
 refine k_seq ?_
 refine k_rg mixed H (.cons [2, 9] (ok_new (fun b => vP b 0) (fun u1 => [vI a0.Lo, vI a0.Hi]) 38 2 9) <|
   .cons [3, 10] (ok_new (fun b => vP b 0) (fun u1 => [vI a1.Lo, vI a1.Hi]) 38 3 10) <|
   .cons [4, 11] (ok_new (fun b => vP b 0) (fun u1 => [vI 0, vI 0]) 38 4 11) <| .nil) fun u1 a w' H => ?_
 replace H := H.toM [(2, (sP ((u1 0).n 0) 0)), (3, (sP ((u1 1).n 0) 0)), (4, (sP ((u1 2).n 0) 0)), (9, .blk ((u1 0).n 0) [vI a0.Lo, vI a0.Hi] 38), (10, .blk ((u1 1).n 0) [vI a1.Lo, vI a1.Hi] 38), (11, .blk ((u1 2).n 0) [vI 0, vI 0] 38)]
 refine k_seq ?_
 replace G := bnd G; obtain ⟨t3, ht3, G⟩ := G
 replace G := bnd G; obtain ⟨t4, ht4, G⟩ := G
 refine k_rg mixed H (.cons [5] (ok_ld (fun u2 => .agg #[vI a0.Lo, vI a0.Hi]) 5 9 0 2 (fun u2 => ((u1 0).n 0)) (fun u2 => [vI a0.Lo, vI a0.Hi]) 38) <|
   .cons [6] (ok_ld (fun u2 => .agg #[vI a1.Lo, vI a1.Hi]) 6 10 0 2 (fun u2 => ((u1 1).n 0)) (fun u2 => [vI a1.Lo, vI a1.Hi]) 38) <|
   .cons [7] (ok_callv 59 (fun u2 => #[.agg #[vI a1.Lo, vI a1.Hi]]) (.agg #[vI t3.Lo, vI t3.Hi]) 7 [] (fun _ w _ => interval_Neg.calls a1 t3 w ht3)) <|
   .cons [8] (ok_callv 82 (fun u2 => #[.agg #[vI a0.Lo, vI a0.Hi], .agg #[vI t3.Lo, vI t3.Hi]]) (.agg #[vI t4.Lo, vI t4.Hi]) 8 [] (fun _ w _ => interval_Add.calls a0 t3 t4 w ht4)) <|
   .cons [11] (ok_as (u' := fun u2 => [(11, .blk ((u1 2).n 0) [vI t4.Lo, vI t4.Hi] 38)]) (ok_store 11 0 (fun u2 => ((u1 2).n 0)) (fun u2 => [vI 0, vI 0]) (fun u2 => [vI t4.Lo, vI t4.Hi]) 38) (fun _ => by kernel_rfl)) <| .nil) fun u2 a w' H => ?_
 replace H := H.toM [(4, (sP ((u1 2).n 0) 0)), (11, .blk ((u1 2).n 0) [vI t4.Lo, vI t4.Hi] 38)]
 refine k_ret ?_
 obtain rfl := Option.some.inj G
 exact k_done1 H _ 11 ((u1 2).n 0) [vI t4.Lo, vI t4.Hi] 38 0 2 (by kernel_rfl) (by kernel_rfl) (by kernel_rfl) (by kernel_rfl)

set_option maxHeartbeats 4000000 in
theorem fixed_divide_1.calls (a0 : Int) (r : Int) (w : World) (G : fixed_divide_1 a0 = some r) :
  Calls Tryd.prog 105 #[vI a0] w fun e w' => e = .returned (vI r) ∧ Below w.heap.size w w' := by
 refine k_enter (args := [vI a0]) 5 Tryd.func105 rfl (by kernel_rfl) (by kernel_rfl) fun a H => ?_
 unfold fixed_divide_1 at G
 refine k_seq ?_
 refine k_rg mixed H (.v 2 (vI 0) <| .nil) fun u1 a w' H => ?_
 replace H := H.toM [(0, sI a0)]
 refine k_seq ?_
 refine k_rg mixed H (.v 3 (vI a0) <|
   .v 4 (vI (mn a0 1)) <|
   .v 2 (vI (mn a0 1)) <| .nil) fun u2 a w' H => ?_
 replace H := H.toM [(2, (sI (mn a0 1)))]
 refine k_ret ?_
 obtain rfl := Option.some.inj G
 exact k_done0 H _ (by kernel_rfl) (by kernel_rfl)

set_option maxHeartbeats 4000000 in
theorem fixed_floorCeil_int64_s105.calls (a0 : Int) (a1 : Int) (r : Int × Int) (w : World) (G : fixed_floorCeil_int64_s105 a0 a1 = some r) :
  Calls Tryd.prog 104 #[vI a0, vI a1, .func (.func 105) #[] #[]] w fun e w' => e = .returned (.tuple #[vI r.1, vI r.2]) ∧ Below w.heap.size w w' := by
 refine k_enter (args := [vI a0, vI a1, .func (.func 105) #[] #[]]) 29 Tryd.func104 rfl (by kernel_rfl) (by kernel_rfl) fun a H => ?_
 unfold fixed_floorCeil_int64_s105 at G
 refine k_seq ?_
 refine k_rg mixed H (.v 6 (vI 0) <|
   .v 7 (vI 0) <| .nil) fun u1 a w' H => ?_
 replace H := H.toM [(0, sI a0), (1, sI a1), (2, .slot true (.func (.func 105) #[] #[]))]
 refine k_seq ?_
 replace G := gd G; obtain ⟨n3, G⟩ := G
 replace G := gd G; obtain ⟨n4, G⟩ := G
 refine k_rg mixed H (.v 10 (vI a0) <|
   .v 11 (vI a1) <|
   .cons [12] (ok_val (fun u2 => vI (w_i64 (Int.tdiv a0 a1))) 12 (hv := fun _ _ => run_of (by kernel_rfl) (run_quo (k := .i64) (x := a0) (y := a1) n3))) <|
   .v 13 (vI a0) <|
   .v 14 (vI a1) <|
   .cons [15] (ok_val (fun u2 => vI (Int.tmod a0 a1)) 15 (hv := fun _ _ => run_of (by kernel_rfl) (run_rem (k := .i64) (x := a0) (y := a1) n4))) <|
   .v 8 (vI (w_i64 (Int.tdiv a0 a1))) <|
   .v 9 (vI (Int.tmod a0 a1)) <| .nil) fun u2 a w' H => ?_
 replace H := H.toM [(1, sI a1), (2, .slot true (.func (.func 105) #[] #[])), (8, (sI (w_i64 (Int.tdiv a0 a1)))), (9, (sI (Int.tmod a0 a1)))]
 refine k_seq ?_
 replace G := bnd G; obtain ⟨j7, hj7, G⟩ := G
 refine k_join (fun a w' => Rep w.heap.size w 29 (ofL [(2, .slot true (.func (.func 105) #[] #[])), (8, sI j7.1), (9, sI j7.2)]) a w') ?_ ?_
 ·clear H; intro a w' H
  refine k_seq ?_
  replace G := bnd G; obtain ⟨t9, ht9, G⟩ := G
  refine k_rg mixed H (.v 23 (vI j7.1) <|
   .v 24 (vI j7.1) <|
   .v 25 (.func (.func 105) #[] #[]) <|
   .v 26 (vI j7.2) <|
   .cons [27] (ok_callv 105 (fun u8 => #[vI j7.2]) (vI t9) 27 [] (fun _ w _ => fixed_divide_1.calls j7.2 t9 w ht9)) <|
   .v 28 (vI (w_i64 (j7.1 + t9))) <|
   .v 6 (vI j7.1) <|
   .v 7 (vI (w_i64 (j7.1 + t9))) <| .nil) fun u8 a w' H => ?_
  replace H := H.toM [(6, sI j7.1), (7, (sI (w_i64 (j7.1 + t9))))]
  refine k_ret ?_
  obtain rfl := Option.some.inj G
  exact k_done0 H _ (by kernel_rfl) (by kernel_rfl)
 ·clear G; replace G := hj7; clear hj7
  refine k_seq ?_
  refine k_rg mixed H (.v 16 (vI (Int.tmod a0 a1)) <|
   .v 17 (.bool (decide ((Int.tmod a0 a1) < 0))) <| .nil) fun u10 a w' H => ?_
  replace H := H.toM [(1, sI a1), (2, .slot true (.func (.func 105) #[] #[])), (8, (sI (w_i64 (Int.tdiv a0 a1)))), (9, (sI (Int.tmod a0 a1))), (17, (sB (decide ((Int.tmod a0 a1) < 0))))]
  refine k_cond H (by kernel_rfl) (t := decide ((Int.tmod a0 a1) < 0)) (by kernel_rfl) (fun c12 => ?_) (fun c12 => ?_)
  ·rw [if_pos c12] at G
   refine k_rg mixed H (.v 18 (vI (w_i64 (Int.tdiv a0 a1))) <|
   .v 19 (vI (w_i64 ((w_i64 (Int.tdiv a0 a1)) - 1))) <|
   .v 20 (vI (Int.tmod a0 a1)) <|
   .v 21 (vI a1) <|
   .v 22 (vI (w_i64 ((Int.tmod a0 a1) + a1))) <|
   .v 8 (vI (w_i64 ((w_i64 (Int.tdiv a0 a1)) - 1))) <|
   .v 9 (vI (w_i64 ((Int.tmod a0 a1) + a1))) <| .nil) fun u11 a w' H => ?_
   replace H := H.toM [(2, .slot true (.func (.func 105) #[] #[])), (8, (sI (w_i64 ((w_i64 (Int.tdiv a0 a1)) - 1)))), (9, (sI (w_i64 ((Int.tmod a0 a1) + a1))))]
   obtain rfl := Option.some.inj G
   exact H.toL _ (by kernel_rfl)
  ·rw [if_neg (nt c12)] at G
   refine k_skip ?_
   obtain rfl := Option.some.inj G
   exact H.toL _ (by kernel_rfl)

set_option maxHeartbeats 4000000 in
theorem fixed_divide.calls (a0 : Int) (a1 : Int) (r : Int × Int) (w : World) (G : fixed_divide a0 a1 = some r) :
  Calls Tryd.prog 102 #[vI a0, vI a1] w fun e w' => e = .returned (.tuple #[vI r.1, vI r.2]) ∧ Below w.heap.size w w' := by
 refine k_enter (args := [vI a0, vI a1]) 17 Tryd.func102 rfl (by kernel_rfl) (by kernel_rfl) fun a H => ?_
 unfold fixed_divide at G
 refine k_seq ?_
 refine k_rg mixed H (.v 4 (vI 0) <|
   .v 5 (vI 0) <| .nil) fun u1 a w' H => ?_
 replace H := H.toM [(0, sI a0), (1, sI a1)]
 refine k_seq ?_
 replace G := bnd G; obtain ⟨j4, hj4, G⟩ := G
 refine k_join (fun a w' => Rep w.heap.size w 17 (ofL [(0, sI j4.1), (1, sI j4.2)]) a w') ?_ ?_
 ·clear H; intro a w' H
  refine k_seq ?_
  replace G := bnd G; obtain ⟨t6, ht6, G⟩ := G
  refine k_rg mixed H (.v 12 (vI j4.1) <|
   .v 13 (vI j4.2) <|
   .cons [14] (ok_callv 104 (fun u5 => #[vI j4.1, vI j4.2, .func (.func 105) #[] #[]]) (.tuple #[vI t6.1, vI t6.2]) 14 [] (fun _ w _ => fixed_floorCeil_int64_s105.calls j4.1 j4.2 t6 w ht6)) <|
   .v 15 (vI t6.1) <|
   .v 16 (vI t6.2) <|
   .v 4 (vI t6.1) <|
   .v 5 (vI t6.2) <| .nil) fun u5 a w' H => ?_
  replace H := H.toM [(4, sI t6.1), (5, sI t6.2)]
  refine k_ret ?_
  obtain rfl := Option.some.inj G
  exact k_done0 H _ (by kernel_rfl) (by kernel_rfl)
 ·clear G; replace G := hj4; clear hj4
  refine k_seq ?_
  refine k_rg mixed H (.v 6 (vI a1) <|
   .v 7 (.bool (decide (a1 < 0))) <| .nil) fun u7 a w' H => ?_
  replace H := H.toM [(0, sI a0), (1, sI a1), (7, (sB (decide (a1 < 0))))]
  refine k_cond H (by kernel_rfl) (t := decide (a1 < 0)) (by kernel_rfl) (fun c9 => ?_) (fun c9 => ?_)
  ·rw [if_pos c9] at G
   refine k_rg mixed H (.v 8 (vI a0) <|
   .v 9 (vI (w_i64 (0 - a0))) <|
   .v 10 (vI a1) <|
   .v 11 (vI (w_i64 (0 - a1))) <|
   .v 0 (vI (w_i64 (0 - a0))) <|
   .v 1 (vI (w_i64 (0 - a1))) <| .nil) fun u8 a w' H => ?_
   replace H := H.toM [(0, (sI (w_i64 (0 - a0)))), (1, (sI (w_i64 (0 - a1))))]
   obtain rfl := Option.some.inj G
   exact H.toL _ (by kernel_rfl)
  ·rw [if_neg (nt c9)] at G
   refine k_skip ?_
   obtain rfl := Option.some.inj G
   exact H.toL _ (by kernel_rfl)

set_option maxHeartbeats 4000000 in
theorem fixed_Mul.calls (a0 : Int) (a1 : Int) (r : Int × Int) (w : World) (G : fixed_Mul a0 a1 = some r) :
  Calls Tryd.prog 88 #[vI a0, vI a1] w fun e w' => e = .returned (.tuple #[vI r.1, vI r.2]) ∧ Below w.heap.size w w' := by
 refine k_enter (args := [vI a0, vI a1]) 12 Tryd.func88 rfl (by kernel_rfl) (by kernel_rfl) fun a H => ?_
 unfold fixed_Mul at G
 refine k_seq ?_
 refine k_rg mixed H (.v 4 (vI 0) <|
   .v 5 (vI 0) <| .nil) fun u1 a w' H => ?_
 replace H := H.toM [(0, sI a0), (1, sI a1)]
 refine k_seq ?_
 replace G := bnd G; obtain ⟨t3, ht3, G⟩ := G
 refine k_rg mixed H (.v 6 (vI a0) <|
   .v 7 (vI a1) <|
   .v 8 (vI (w_i64 (a0 * a1))) <|
   .cons [9] (ok_callv 102 (fun u2 => #[vI (w_i64 (a0 * a1)), vI 65536]) (.tuple #[vI t3.1, vI t3.2]) 9 [] (fun _ w _ => fixed_divide.calls (w_i64 (a0 * a1)) 65536 t3 w ht3)) <|
   .v 10 (vI t3.1) <|
   .v 11 (vI t3.2) <|
   .v 4 (vI t3.1) <|
   .v 5 (vI t3.2) <| .nil) fun u2 a w' H => ?_
 replace H := H.toM [(4, sI t3.1), (5, sI t3.2)]
 refine k_ret ?_
 obtain rfl := Option.some.inj G
 exact k_done0 H _ (by kernel_rfl) (by kernel_rfl)

set_option maxHeartbeats 4000000 in
theorem interval_side.calls (a0 : TInterval) (r : Int) (w : World) (G : interval_side a0 = some r) :
  Calls Tryd.prog 99 #[.agg #[vI a0.Lo, vI a0.Hi]] w fun e w' => e = .returned (vI r) ∧ Below w.heap.size w w' := by
 refine k_enter (args := [.agg #[vI a0.Lo, vI a0.Hi]]) 11 Tryd.func99 rfl (by kernel_rfl) (by kernel_rfl) fun a H => ?_
 unfold interval_side at G
 refine k_seq ?_
 refine k_rg mixed H (.cons [1, 11] (ok_new (fun b => vP b 0) (fun u1 => [vI a0.Lo, vI a0.Hi]) 38 1 11) <|
   .v 2 (vI 0) <| .nil) fun u1 a w' H => ?_
 replace H := H.toM [(1, (sP ((u1 0).n 0) 0)), (11, .blk ((u1 0).n 0) [vI a0.Lo, vI a0.Hi] 38)]
 refine k_seq ?_
 refine k_block ?_
 refine k_seq ?_
 refine k_rg mixed H (.v 4 (vP ((u1 0).n 0) 1) <|
   .cons [5] (ok_ld (fun u2 => vI a0.Hi) 5 11 1 1 (fun u2 => ((u1 0).n 0)) (fun u2 => [vI a0.Lo, vI a0.Hi]) 38) <|
   .v 6 (.bool (decide (a0.Hi ≤ 0))) <|
   .v 3 (.bool (decide (a0.Hi ≤ 0))) <| .nil) fun u2 a w' H => ?_
 replace H := H.toM [(1, (sP ((u1 0).n 0) 0)), (3, (sB (decide (a0.Hi ≤ 0)))), (11, .blk ((u1 0).n 0) [vI a0.Lo, vI a0.Hi] 38)]
 refine k_cond H (by kernel_rfl) (t := decide (a0.Hi ≤ 0)) (by kernel_rfl) (fun c8 => ?_) (fun c8 => ?_)
 ·rw [if_pos c8] at G
  refine k_seq ?_
  refine k_rg mixed H (.v 2 (vI 0) <| .nil) fun u3 a w' H => ?_
  replace H := H.toM [(2, sI 0)]
  refine k_ret ?_
  obtain rfl := Option.some.inj G
  exact k_done0 H _ (by kernel_rfl) (by kernel_rfl)
 ·rw [if_neg (nt c8)] at G
  refine k_seq ?_
  refine k_rg mixed H (.v 8 (vP ((u1 0).n 0) 0) <|
   .cons [9] (ok_ld (fun u4 => vI a0.Lo) 9 11 0 1 (fun u4 => ((u1 0).n 0)) (fun u4 => [vI a0.Lo, vI a0.Hi]) 38) <|
   .v 10 (.bool (decide (a0.Lo ≥ 0))) <|
   .v 7 (.bool (decide (a0.Lo ≥ 0))) <| .nil) fun u4 a w' H => ?_
  replace H := H.toM [(7, (sB (decide (a0.Lo ≥ 0))))]
  refine k_cond H (by kernel_rfl) (t := decide (a0.Lo ≥ 0)) (by kernel_rfl) (fun c7 => ?_) (fun c7 => ?_)
  ·rw [if_pos c7] at G
   refine k_seq ?_
   refine k_rg mixed H (.v 2 (vI 2) <| .nil) fun u5 a w' H => ?_
   replace H := H.toM [(2, sI 2)]
   refine k_ret ?_
   obtain rfl := Option.some.inj G
   exact k_done0 H _ (by kernel_rfl) (by kernel_rfl)
  ·rw [if_neg (nt c7)] at G
   refine k_skip ?_
   refine k_seq ?_
   refine k_rg mixed H (.v 2 (vI 1) <| .nil) fun u6 a w' H => ?_
   replace H := H.toM [(2, sI 1)]
   refine k_ret ?_
   obtain rfl := Option.some.inj G
   exact k_done0 H _ (by kernel_rfl) (by kernel_rfl)

set_option maxHeartbeats 4000000 in
theorem interval_hh.calls (a0 : TInterval) (a1 : TInterval) (r : Int × Int) (w : World) (G : interval_hh a0 a1 = some r) :
  Calls Tryd.prog 123 #[.agg #[vI a0.Lo, vI a0.Hi], .agg #[vI a1.Lo, vI a1.Hi]] w fun e w' => e = .returned (.tuple #[vI r.1, vI r.2]) ∧ Below w.heap.size w w' := by
 refine k_enter (args := [.agg #[vI a0.Lo, vI a0.Hi], .agg #[vI a1.Lo, vI a1.Hi]]) 10 Tryd.func123 rfl (by kernel_rfl) (by kernel_rfl) fun a H => ?_
 unfold interval_hh at G
 refine k_seq ?_
 refine k_rg mixed H (.cons [2, 10] (ok_new (fun b => vP b 0) (fun u1 => [vI a0.Lo, vI a0.Hi]) 38 2 10) <|
   .cons [3, 11] (ok_new (fun b => vP b 0) (fun u1 => [vI a1.Lo, vI a1.Hi]) 38 3 11) <|
   .v 4 (vI 0) <|
   .v 5 (vI 0) <| .nil) fun u1 a w' H => ?_
 replace H := H.toM [(2, (sP ((u1 0).n 0) 0)), (3, (sP ((u1 1).n 0) 0)), (10, .blk ((u1 0).n 0) [vI a0.Lo, vI a0.Hi] 38), (11, .blk ((u1 1).n 0) [vI a1.Lo, vI a1.Hi] 38)]
 refine k_seq ?_
 refine k_rg mixed H (.v 6 (vP ((u1 0).n 0) 1) <|
   .cons [7] (ok_ld (fun u2 => vI a0.Hi) 7 10 1 1 (fun u2 => ((u1 0).n 0)) (fun u2 => [vI a0.Lo, vI a0.Hi]) 38) <|
   .v 8 (vP ((u1 1).n 0) 1) <|
   .cons [9] (ok_ld (fun u2 => vI a1.Hi) 9 11 1 1 (fun u2 => ((u1 1).n 0)) (fun u2 => [vI a1.Lo, vI a1.Hi]) 38) <|
   .v 4 (vI a0.Hi) <|
   .v 5 (vI a1.Hi) <| .nil) fun u2 a w' H => ?_
 replace H := H.toM [(4, sI a0.Hi), (5, sI a1.Hi)]
 refine k_ret ?_
 obtain rfl := Option.some.inj G
 exact k_done0 H _ (by kernel_rfl) (by kernel_rfl)

set_option maxHeartbeats 4000000 in
theorem interval_ll.calls (a0 : TInterval) (a1 : TInterval) (r : Int × Int) (w : World) (G : interval_ll a0 a1 = some r) :
  Calls Tryd.prog 124 #[.agg #[vI a0.Lo, vI a0.Hi], .agg #[vI a1.Lo, vI a1.Hi]] w fun e w' => e = .returned (.tuple #[vI r.1, vI r.2]) ∧ Below w.heap.size w w' := by
 refine k_enter (args := [.agg #[vI a0.Lo, vI a0.Hi], .agg #[vI a1.Lo, vI a1.Hi]]) 10 Tryd.func124 rfl (by kernel_rfl) (by kernel_rfl) fun a H => ?_
 unfold interval_ll at G
 refine k_seq ?_
 refine k_rg mixed H (.cons [2, 10] (ok_new (fun b => vP b 0) (fun u1 => [vI a0.Lo, vI a0.Hi]) 38 2 10) <|
   .cons [3, 11] (ok_new (fun b => vP b 0) (fun u1 => [vI a1.Lo, vI a1.Hi]) 38 3 11) <|
   .v 4 (vI 0) <|
   .v 5 (vI 0) <| .nil) fun u1 a w' H => ?_
 replace H := H.toM [(2, (sP ((u1 0).n 0) 0)), (3, (sP ((u1 1).n 0) 0)), (10, .blk ((u1 0).n 0) [vI a0.Lo, vI a0.Hi] 38), (11, .blk ((u1 1).n 0) [vI a1.Lo, vI a1.Hi] 38)]
 refine k_seq ?_
 refine k_rg mixed H (.v 6 (vP ((u1 0).n 0) 0) <|
   .cons [7] (ok_ld (fun u2 => vI a0.Lo) 7 10 0 1 (fun u2 => ((u1 0).n 0)) (fun u2 => [vI a0.Lo, vI a0.Hi]) 38) <|
   .v 8 (vP ((u1 1).n 0) 0) <|
   .cons [9] (ok_ld (fun u2 => vI a1.Lo) 9 11 0 1 (fun u2 => ((u1 1).n 0)) (fun u2 => [vI a1.Lo, vI a1.Hi]) 38) <|
   .v 4 (vI a0.Lo) <|
   .v 5 (vI a1.Lo) <| .nil) fun u2 a w' H => ?_
 replace H := H.toM [(4, sI a0.Lo), (5, sI a1.Lo)]
 refine k_ret ?_
 obtain rfl := Option.some.inj G
 exact k_done0 H _ (by kernel_rfl) (by kernel_rfl)

set_option maxHeartbeats 4000000 in
theorem interval_lh.calls (a0 : TInterval) (a1 : TInterval) (r : Int × Int) (w : World) (G : interval_lh a0 a1 = some r) :
  Calls Tryd.prog 125 #[.agg #[vI a0.Lo, vI a0.Hi], .agg #[vI a1.Lo, vI a1.Hi]] w fun e w' => e = .returned (.tuple #[vI r.1, vI r.2]) ∧ Below w.heap.size w w' := by
 refine k_enter (args := [.agg #[vI a0.Lo, vI a0.Hi], .agg #[vI a1.Lo, vI a1.Hi]]) 10 Tryd.func125 rfl (by kernel_rfl) (by kernel_rfl) fun a H => ?_
 unfold interval_lh at G
 refine k_seq ?_
 refine k_rg mixed H (.cons [2, 10] (ok_new (fun b => vP b 0) (fun u1 => [vI a0.Lo, vI a0.Hi]) 38 2 10) <|
   .cons [3, 11] (ok_new (fun b => vP b 0) (fun u1 => [vI a1.Lo, vI a1.Hi]) 38 3 11) <|
   .v 4 (vI 0) <|
   .v 5 (vI 0) <| .nil) fun u1 a w' H => ?_
 replace H := H.toM [(2, (sP ((u1 0).n 0) 0)), (3, (sP ((u1 1).n 0) 0)), (10, .blk ((u1 0).n 0) [vI a0.Lo, vI a0.Hi] 38), (11, .blk ((u1 1).n 0) [vI a1.Lo, vI a1.Hi] 38)]
 refine k_seq ?_
 refine k_rg mixed H (.v 6 (vP ((u1 0).n 0) 0) <|
   .cons [7] (ok_ld (fun u2 => vI a0.Lo) 7 10 0 1 (fun u2 => ((u1 0).n 0)) (fun u2 => [vI a0.Lo, vI a0.Hi]) 38) <|
   .v 8 (vP ((u1 1).n 0) 1) <|
   .cons [9] (ok_ld (fun u2 => vI a1.Hi) 9 11 1 1 (fun u2 => ((u1 1).n 0)) (fun u2 => [vI a1.Lo, vI a1.Hi]) 38) <|
   .v 4 (vI a0.Lo) <|
   .v 5 (vI a1.Hi) <| .nil) fun u2 a w' H => ?_
 replace H := H.toM [(4, sI a0.Lo), (5, sI a1.Hi)]
 refine k_ret ?_
 obtain rfl := Option.some.inj G
 exact k_done0 H _ (by kernel_rfl) (by kernel_rfl)

set_option maxHeartbeats 4000000 in
theorem interval_hl.calls (a0 : TInterval) (a1 : TInterval) (r : Int × Int) (w : World) (G : interval_hl a0 a1 = some r) :
  Calls Tryd.prog 126 #[.agg #[vI a0.Lo, vI a0.Hi], .agg #[vI a1.Lo, vI a1.Hi]] w fun e w' => e = .returned (.tuple #[vI r.1, vI r.2]) ∧ Below w.heap.size w w' := by
 refine k_enter (args := [.agg #[vI a0.Lo, vI a0.Hi], .agg #[vI a1.Lo, vI a1.Hi]]) 10 Tryd.func126 rfl (by kernel_rfl) (by kernel_rfl) fun a H => ?_
 unfold interval_hl at G
 refine k_seq ?_
 refine k_rg mixed H (.cons [2, 10] (ok_new (fun b => vP b 0) (fun u1 => [vI a0.Lo, vI a0.Hi]) 38 2 10) <|
   .cons [3, 11] (ok_new (fun b => vP b 0) (fun u1 => [vI a1.Lo, vI a1.Hi]) 38 3 11) <|
   .v 4 (vI 0) <|
   .v 5 (vI 0) <| .nil) fun u1 a w' H => ?_
 replace H := H.toM [(2, (sP ((u1 0).n 0) 0)), (3, (sP ((u1 1).n 0) 0)), (10, .blk ((u1 0).n 0) [vI a0.Lo, vI a0.Hi] 38), (11, .blk ((u1 1).n 0) [vI a1.Lo, vI a1.Hi] 38)]
 refine k_seq ?_
 refine k_rg mixed H (.v 6 (vP ((u1 0).n 0) 1) <|
   .cons [7] (ok_ld (fun u2 => vI a0.Hi) 7 10 1 1 (fun u2 => ((u1 0).n 0)) (fun u2 => [vI a0.Lo, vI a0.Hi]) 38) <|
   .v 8 (vP ((u1 1).n 0) 0) <|
   .cons [9] (ok_ld (fun u2 => vI a1.Lo) 9 11 0 1 (fun u2 => ((u1 1).n 0)) (fun u2 => [vI a1.Lo, vI a1.Hi]) 38) <|
   .v 4 (vI a0.Hi) <|
   .v 5 (vI a1.Lo) <| .nil) fun u2 a w' H => ?_
 replace H := H.toM [(4, sI a0.Hi), (5, sI a1.Lo)]
 refine k_ret ?_
 obtain rfl := Option.some.inj G
 exact k_done0 H _ (by kernel_rfl) (by kernel_rfl)

set_option maxHeartbeats 4000000 in
theorem interval_Mul.calls (a0 : TInterval) (a1 : TInterval) (r : TInterval) (w : World) (hg : Glob w) (G : interval_Mul a0 a1 = some r) :
  Calls Tryd.prog 84 #[.agg #[vI a0.Lo, vI a0.Hi], .agg #[vI a1.Lo, vI a1.Hi]] w fun e w' => e = .returned (.agg #[vI r.Lo, vI r.Hi]) ∧ Below w.heap.size w w' := by
 refine k_enterG (args := [.agg #[vI a0.Lo, vI a0.Hi], .agg #[vI a1.Lo, vI a1.Hi]]) 106 999999 globFp Glob (glob_local hg) (glob_in hg) Tryd.func84 rfl (by kernel_rfl) (by kernel_rfl) fun a H => ?_
 unfold interval_Mul at G
 refine k_seq ?_
 refine k_rg mixed H (.cons [2, 106] (ok_new (fun b => vP b 0) (fun u1 => [vI a0.Lo, vI a0.Hi]) 38 2 106) <|
   .cons [3, 107] (ok_new (fun b => vP b 0) (fun u1 => [vI a1.Lo, vI a1.Hi]) 38 3 107) <|
   .cons [4, 108] (ok_new (fun b => vP b 0) (fun u1 => [vI 0, vI 0]) 38 4 108) <| .nil) fun u1 a w' H => ?_
 replace H := H.toM [(2, (sP ((u1 0).n 0) 0)), (3, (sP ((u1 1).n 0) 0)), (4, (sP ((u1 2).n 0) 0)), (106, .blk ((u1 0).n 0) [vI a0.Lo, vI a0.Hi] 38), (107, .blk ((u1 1).n 0) [vI a1.Lo, vI a1.Hi] 38), (108, .blk ((u1 2).n 0) [vI 0, vI 0] 38), (999999, gk)]
 refine k_seq ?_
 refine k_seq ?_
 replace G := bnd G; obtain ⟨t3, ht3, G⟩ := G
 replace G := bnd G; obtain ⟨t4, ht4, G⟩ := G
 refine k_rg mixed H (.cons [20] (ok_ld (fun u2 => .agg #[vI a0.Lo, vI a0.Hi]) 20 106 0 2 (fun u2 => ((u1 0).n 0)) (fun u2 => [vI a0.Lo, vI a0.Hi]) 38) <|
   .cons [21] (ok_callv 86 (fun u2 => #[.agg #[vI a0.Lo, vI a0.Hi]]) (.bool t3) 21 [] (fun _ w _ => interval_IsEntire.calls a0 t3 w ht3)) <|
   .v 22 (.bool t3) <|
   .cons [23] (ok_ldg (fun u2 => .agg #[vI a1.Lo, vI a1.Hi]) (fun u2 => (t3 == false)) [true] 23 107 0 2 (fun u2 => ((u1 1).n 0)) (fun u2 => [vI a1.Lo, vI a1.Hi]) 38) <|
   .cons [24] (ok_call 86 (fun u2 => #[.agg #[vI a1.Lo, vI a1.Hi]]) (.bool t4) (fun u2 => (t3 == false)) [true, false] 24 [] (fun _ w hg _ => interval_IsEntire.calls a1 t4 w (ifp ht4 hg))) <|
   .cons [25] (ok_or 22 24 (fun u2 => true) (fun u2 => true) (fun u2 => t3) (fun u2 => t4) 25) <| .nil) fun u2 a w' H => ?_
 replace H := H.toM [(2, (sP ((u1 0).n 0) 0)), (3, (sP ((u1 1).n 0) 0)), (4, (sP ((u1 2).n 0) 0)), (25, (sB (t3 || t4))), (106, .blk ((u1 0).n 0) [vI a0.Lo, vI a0.Hi] 38), (107, .blk ((u1 1).n 0) [vI a1.Lo, vI a1.Hi] 38), (108, .blk ((u1 2).n 0) [vI 0, vI 0] 38), (999999, gk)]
 refine k_cond H (by kernel_rfl) (t := (t3 || t4)) (by kernel_rfl) (fun c107 => ?_) (fun c107 => ?_)
 ·rw [if_pos c107] at G
  refine k_seq ?_
  replace G := bnd G; obtain ⟨t6, ht6, G⟩ := G
  refine k_rg mixed H (.cons [26] (ok_callv 61 (fun u5 => #[]) (.agg #[vI t6.Lo, vI t6.Hi]) 26 [] (fun _ w _ => interval_Entire.calls  t6 w ht6)) <|
   .cons [108] (ok_as (u' := fun u5 => [(108, .blk ((u1 2).n 0) [vI t6.Lo, vI t6.Hi] 38)]) (ok_store 108 0 (fun u5 => ((u1 2).n 0)) (fun u5 => [vI 0, vI 0]) (fun u5 => [vI t6.Lo, vI t6.Hi]) 38) (fun _ => by kernel_rfl)) <| .nil) fun u5 a w' H => ?_
  replace H := H.toM [(4, (sP ((u1 2).n 0) 0)), (108, .blk ((u1 2).n 0) [vI t6.Lo, vI t6.Hi] 38), (999999, gk)]
  refine k_ret ?_
  obtain rfl := Option.some.inj G
  exact k_done1 H _ 108 ((u1 2).n 0) [vI t6.Lo, vI t6.Hi] 38 0 2 (by kernel_rfl) (by kernel_rfl) (by kernel_rfl) (by kernel_rfl)
 ·rw [if_neg (nt c107)] at G
  refine k_skip ?_
  refine k_seq ?_
  replace G := bnd G; obtain ⟨t8, ht8, G⟩ := G
  replace G := bnd G; obtain ⟨t9, ht9, G⟩ := G
  refine k_rg mixed H (.cons [27] (ok_ld (fun u7 => .agg #[vI a0.Lo, vI a0.Hi]) 27 106 0 2 (fun u7 => ((u1 0).n 0)) (fun u7 => [vI a0.Lo, vI a0.Hi]) 38) <|
   .cons [28] (ok_callv 99 (fun u7 => #[.agg #[vI a0.Lo, vI a0.Hi]]) (vI t8) 28 [] (fun _ w _ => interval_side.calls a0 t8 w ht8)) <|
   .cons [29] (ok_ld (fun u7 => .agg #[vI a1.Lo, vI a1.Hi]) 29 107 0 2 (fun u7 => ((u1 1).n 0)) (fun u7 => [vI a1.Lo, vI a1.Hi]) 38) <|
   .cons [30] (ok_callv 99 (fun u7 => #[.agg #[vI a1.Lo, vI a1.Hi]]) (vI t9) 30 [] (fun _ w _ => interval_side.calls a1 t9 w ht9)) <|
   .v 5 (vI t8) <|
   .v 6 (vI t9) <| .nil) fun u7 a w' H => ?_
  replace H := H.toM [(2, (sP ((u1 0).n 0) 0)), (3, (sP ((u1 1).n 0) 0)), (4, (sP ((u1 2).n 0) 0)), (5, sI t8), (6, sI t9), (106, .blk ((u1 0).n 0) [vI a0.Lo, vI a0.Hi] 38), (107, .blk ((u1 1).n 0) [vI a1.Lo, vI a1.Hi] 38), (108, .blk ((u1 2).n 0) [vI 0, vI 0] 38), (999999, gk)]
  refine k_seq ?_
  refine k_seq ?_
  refine k_rg mixed H (.v 31 (vI t8) <|
   .v 32 (.bool (t8 == 1)) <|
   .v 33 (.bool (t8 == 1)) <|
   .cons [34] (ok_valg (fun u10 => vI t9) (fun u10 => ((t8 == 1) == true)) [true] 34) <|
   .cons [35] (ok_valg (fun u10 => .bool (t9 == 1)) (fun u10 => ((t8 == 1) == true)) [false, true] 35) <|
   .cons [36] (ok_and 33 35 (fun u10 => true) (fun u10 => true) (fun u10 => (t8 == 1)) (fun u10 => (t9 == 1)) 36) <| .nil) fun u10 a w' H => ?_
  replace H := H.toM [(2, (sP ((u1 0).n 0) 0)), (3, (sP ((u1 1).n 0) 0)), (4, (sP ((u1 2).n 0) 0)), (5, sI t8), (6, sI t9), (36, (sB ((t8 == 1) && (t9 == 1)))), (106, .blk ((u1 0).n 0) [vI a0.Lo, vI a0.Hi] 38), (107, .blk ((u1 1).n 0) [vI a1.Lo, vI a1.Hi] 38), (108, .blk ((u1 2).n 0) [vI 0, vI 0] 38), (999999, gk)]
  refine k_cond H (by kernel_rfl) (t := ((t8 == 1) && (t9 == 1))) (by kernel_rfl) (fun c106 => ?_) (fun c106 => ?_)
  ·rw [if_pos c106] at G
   refine k_seq ?_
   replace G := bnd G; obtain ⟨t12, ht12, G⟩ := G
   refine k_rg mixed H (.v 38 (vP ((u1 0).n 0) 0) <|
   .cons [39] (ok_ld (fun u11 => vI a0.Lo) 39 106 0 1 (fun u11 => ((u1 0).n 0)) (fun u11 => [vI a0.Lo, vI a0.Hi]) 38) <|
   .v 40 (vP ((u1 1).n 0) 1) <|
   .cons [41] (ok_ld (fun u11 => vI a1.Hi) 41 107 1 1 (fun u11 => ((u1 1).n 0)) (fun u11 => [vI a1.Lo, vI a1.Hi]) 38) <|
   .cons [42] (ok_callv 88 (fun u11 => #[vI a0.Lo, vI a1.Hi]) (.tuple #[vI t12.1, vI t12.2]) 42 [] (fun _ w _ => fixed_Mul.calls a0.Lo a1.Hi t12 w ht12)) <|
   .v 37 (.tuple #[vI t12.1, vI t12.2]) <|
   .v 43 (vI t12.1) <|
   .v 44 (vI t12.2) <|
   .v 7 (vI t12.1) <|
   .v 8 (vI t12.2) <| .nil) fun u11 a w' H => ?_
   replace H := H.toM [(2, (sP ((u1 0).n 0) 0)), (3, (sP ((u1 1).n 0) 0)), (4, (sP ((u1 2).n 0) 0)), (7, sI t12.1), (106, .blk ((u1 0).n 0) [vI a0.Lo, vI a0.Hi] 38), (107, .blk ((u1 1).n 0) [vI a1.Lo, vI a1.Hi] 38), (108, .blk ((u1 2).n 0) [vI 0, vI 0] 38), (999999, gk)]
   refine k_seq ?_
   replace G := bnd G; obtain ⟨t14, ht14, G⟩ := G
   refine k_rg mixed H (.v 46 (vP ((u1 0).n 0) 1) <|
   .cons [47] (ok_ld (fun u13 => vI a0.Hi) 47 106 1 1 (fun u13 => ((u1 0).n 0)) (fun u13 => [vI a0.Lo, vI a0.Hi]) 38) <|
   .v 48 (vP ((u1 1).n 0) 0) <|
   .cons [49] (ok_ld (fun u13 => vI a1.Lo) 49 107 0 1 (fun u13 => ((u1 1).n 0)) (fun u13 => [vI a1.Lo, vI a1.Hi]) 38) <|
   .cons [50] (ok_callv 88 (fun u13 => #[vI a0.Hi, vI a1.Lo]) (.tuple #[vI t14.1, vI t14.2]) 50 [] (fun _ w _ => fixed_Mul.calls a0.Hi a1.Lo t14 w ht14)) <|
   .v 45 (.tuple #[vI t14.1, vI t14.2]) <|
   .v 51 (vI t14.1) <|
   .v 52 (vI t14.2) <|
   .v 9 (vI t14.1) <|
   .v 10 (vI t14.2) <| .nil) fun u13 a w' H => ?_
   replace H := H.toM [(2, (sP ((u1 0).n 0) 0)), (3, (sP ((u1 1).n 0) 0)), (4, (sP ((u1 2).n 0) 0)), (7, sI t12.1), (9, sI t14.1), (106, .blk ((u1 0).n 0) [vI a0.Lo, vI a0.Hi] 38), (107, .blk ((u1 1).n 0) [vI a1.Lo, vI a1.Hi] 38), (108, .blk ((u1 2).n 0) [vI 0, vI 0] 38), (999999, gk)]
   refine k_seq ?_
   replace G := bnd G; obtain ⟨t16, ht16, G⟩ := G
   refine k_rg mixed H (.v 54 (vP ((u1 0).n 0) 0) <|
   .cons [55] (ok_ld (fun u15 => vI a0.Lo) 55 106 0 1 (fun u15 => ((u1 0).n 0)) (fun u15 => [vI a0.Lo, vI a0.Hi]) 38) <|
   .v 56 (vP ((u1 1).n 0) 0) <|
   .cons [57] (ok_ld (fun u15 => vI a1.Lo) 57 107 0 1 (fun u15 => ((u1 1).n 0)) (fun u15 => [vI a1.Lo, vI a1.Hi]) 38) <|
   .cons [58] (ok_callv 88 (fun u15 => #[vI a0.Lo, vI a1.Lo]) (.tuple #[vI t16.1, vI t16.2]) 58 [] (fun _ w _ => fixed_Mul.calls a0.Lo a1.Lo t16 w ht16)) <|
   .v 53 (.tuple #[vI t16.1, vI t16.2]) <|
   .v 59 (vI t16.1) <|
   .v 60 (vI t16.2) <|
   .v 11 (vI t16.1) <|
   .v 12 (vI t16.2) <| .nil) fun u15 a w' H => ?_
   replace H := H.toM [(2, (sP ((u1 0).n 0) 0)), (3, (sP ((u1 1).n 0) 0)), (4, (sP ((u1 2).n 0) 0)), (7, sI t12.1), (9, sI t14.1), (12, sI t16.2), (106, .blk ((u1 0).n 0) [vI a0.Lo, vI a0.Hi] 38), (107, .blk ((u1 1).n 0) [vI a1.Lo, vI a1.Hi] 38), (108, .blk ((u1 2).n 0) [vI 0, vI 0] 38), (999999, gk)]
   refine k_seq ?_
   replace G := bnd G; obtain ⟨t18, ht18, G⟩ := G
   refine k_rg mixed H (.v 62 (vP ((u1 0).n 0) 1) <|
   .cons [63] (ok_ld (fun u17 => vI a0.Hi) 63 106 1 1 (fun u17 => ((u1 0).n 0)) (fun u17 => [vI a0.Lo, vI a0.Hi]) 38) <|
   .v 64 (vP ((u1 1).n 0) 1) <|
   .cons [65] (ok_ld (fun u17 => vI a1.Hi) 65 107 1 1 (fun u17 => ((u1 1).n 0)) (fun u17 => [vI a1.Lo, vI a1.Hi]) 38) <|
   .cons [66] (ok_callv 88 (fun u17 => #[vI a0.Hi, vI a1.Hi]) (.tuple #[vI t18.1, vI t18.2]) 66 [] (fun _ w _ => fixed_Mul.calls a0.Hi a1.Hi t18 w ht18)) <|
   .v 61 (.tuple #[vI t18.1, vI t18.2]) <|
   .v 67 (vI t18.1) <|
   .v 68 (vI t18.2) <|
   .v 13 (vI t18.1) <|
   .v 14 (vI t18.2) <| .nil) fun u17 a w' H => ?_
   replace H := H.toM [(4, (sP ((u1 2).n 0) 0)), (7, sI t12.1), (9, sI t14.1), (12, sI t16.2), (14, sI t18.2), (108, .blk ((u1 2).n 0) [vI 0, vI 0] 38), (999999, gk)]
   refine k_seq ?_
   replace G := bnd G; obtain ⟨t20, ht20, G⟩ := G
   refine k_rg mixed H (.v 69 (vI t12.1) <|
   .v 70 (vI t14.1) <|
   .v 71 (vI (mn t12.1 t14.1)) <|
   .v 72 (vI t16.2) <|
   .v 73 (vI t18.2) <|
   .v 74 (vI (mx t16.2 t18.2)) <|
   .cons [75] (ok_callv 89 (fun u19 => #[vI (mn t12.1 t14.1), vI (mx t16.2 t18.2)]) (.agg #[vI t20.Lo, vI t20.Hi]) 75 [] (fun _ w _ => interval_New.calls (mn t12.1 t14.1) (mx t16.2 t18.2) t20 w ht20)) <|
   .cons [108] (ok_as (u' := fun u19 => [(108, .blk ((u1 2).n 0) [vI t20.Lo, vI t20.Hi] 38)]) (ok_store 108 0 (fun u19 => ((u1 2).n 0)) (fun u19 => [vI 0, vI 0]) (fun u19 => [vI t20.Lo, vI t20.Hi]) 38) (fun _ => by kernel_rfl)) <| .nil) fun u19 a w' H => ?_
   replace H := H.toM [(4, (sP ((u1 2).n 0) 0)), (108, .blk ((u1 2).n 0) [vI t20.Lo, vI t20.Hi] 38), (999999, gk)]
   refine k_ret ?_
   obtain rfl := Option.some.inj G
   exact k_done1 H _ 108 ((u1 2).n 0) [vI t20.Lo, vI t20.Hi] 38 0 2 (by kernel_rfl) (by kernel_rfl) (by kernel_rfl) (by kernel_rfl)
  ·rw [if_neg (nt c106)] at G
   refine k_skip ?_
   refine k_seq ?_
   by_cases c103 : t8 = 0
   ·rw [if_pos c103] at G; subst c103
    by_cases c48 : t9 = 0
    ·rw [if_pos c48] at G; subst c48
     refine k_rg mixed H (.v 76 (vI 0) <|
   .v 77 (vI 0) <|
   .v 78 (vP 0 0) <|
   .v 79 (vP 0 0) <|
   .cons [80] (ok_ldK (fun u21 => .agg #[.func (.func 123) #[] #[], .func (.func 124) #[] #[]]) 80 999999 gk 0 0 2 gTab0 (fun w h => (glob_of h).tab0)) <|
   .cons [15, 109] (ok_new (fun b => vP b 0) (fun u21 => [.nilFunc, .nilFunc]) 118 15 109) <|
   .cons [109] (ok_as (u' := fun u21 => [(109, .blk ((u21 5).n 0) [.func (.func 123) #[] #[], .func (.func 124) #[] #[]] 118)]) (ok_store 109 0 (fun u21 => ((u21 5).n 0)) (fun u21 => [.nilFunc, .nilFunc]) (fun u21 => [.func (.func 123) #[] #[], .func (.func 124) #[] #[]]) 118) (fun _ => by kernel_rfl)) <| .nil) fun u21 a w' H => ?_
     replace H := H.toM [(2, (sP ((u1 0).n 0) 0)), (3, (sP ((u1 1).n 0) 0)), (4, (sP ((u1 2).n 0) 0)), (15, (sP ((u21 5).n 0) 0)), (106, .blk ((u1 0).n 0) [vI a0.Lo, vI a0.Hi] 38), (107, .blk ((u1 1).n 0) [vI a1.Lo, vI a1.Hi] 38), (108, .blk ((u1 2).n 0) [vI 0, vI 0] 38), (109, .blk ((u21 5).n 0) [.func (.func 123) #[] #[], .func (.func 124) #[] #[]] 118), (999999, gk)]
     refine k_seq ?_
     replace G := bnd G; obtain ⟨t23, ht23, G⟩ := G
     replace G := bnd G; obtain ⟨t24, ht24, G⟩ := G
     refine k_rg mixed H (.v 82 (vP ((u21 5).n 0) 0) <|
   .cons [83] (ok_ld (fun u22 => .func (.func 123) #[] #[]) 83 109 0 1 (fun u22 => ((u21 5).n 0)) (fun u22 => [.func (.func 123) #[] #[], .func (.func 124) #[] #[]]) 118) <|
   .cons [84] (ok_ld (fun u22 => .agg #[vI a0.Lo, vI a0.Hi]) 84 106 0 2 (fun u22 => ((u1 0).n 0)) (fun u22 => [vI a0.Lo, vI a0.Hi]) 38) <|
   .cons [85] (ok_ld (fun u22 => .agg #[vI a1.Lo, vI a1.Hi]) 85 107 0 2 (fun u22 => ((u1 1).n 0)) (fun u22 => [vI a1.Lo, vI a1.Hi]) 38) <|
   .cons [86] (ok_callv 123 (fun u22 => #[.agg #[vI a0.Lo, vI a0.Hi], .agg #[vI a1.Lo, vI a1.Hi]]) (.tuple #[vI t23.1, vI t23.2]) 86 [] (fun _ w _ => interval_hh.calls a0 a1 t23 w ht23)) <|
   .v 87 (vI t23.1) <|
   .v 88 (vI t23.2) <|
   .cons [89] (ok_callv 88 (fun u22 => #[vI t23.1, vI t23.2]) (.tuple #[vI t24.1, vI t24.2]) 89 [] (fun _ w _ => fixed_Mul.calls t23.1 t23.2 t24 w ht24)) <|
   .v 81 (.tuple #[vI t24.1, vI t24.2]) <|
   .v 90 (vI t24.1) <|
   .v 91 (vI t24.2) <|
   .v 16 (vI t24.1) <|
   .v 17 (vI t24.2) <| .nil) fun u22 a w' H => ?_
     replace H := H.toM [(2, (sP ((u1 0).n 0) 0)), (3, (sP ((u1 1).n 0) 0)), (4, (sP ((u1 2).n 0) 0)), (15, (sP ((u21 5).n 0) 0)), (16, sI t24.1), (106, .blk ((u1 0).n 0) [vI a0.Lo, vI a0.Hi] 38), (107, .blk ((u1 1).n 0) [vI a1.Lo, vI a1.Hi] 38), (108, .blk ((u1 2).n 0) [vI 0, vI 0] 38), (109, .blk ((u21 5).n 0) [.func (.func 123) #[] #[], .func (.func 124) #[] #[]] 118), (999999, gk)]
     refine k_seq ?_
     replace G := bnd G; obtain ⟨t26, ht26, G⟩ := G
     replace G := bnd G; obtain ⟨t27, ht27, G⟩ := G
     refine k_rg mixed H (.v 93 (vP ((u21 5).n 0) 1) <|
   .cons [94] (ok_ld (fun u25 => .func (.func 124) #[] #[]) 94 109 1 1 (fun u25 => ((u21 5).n 0)) (fun u25 => [.func (.func 123) #[] #[], .func (.func 124) #[] #[]]) 118) <|
   .cons [95] (ok_ld (fun u25 => .agg #[vI a0.Lo, vI a0.Hi]) 95 106 0 2 (fun u25 => ((u1 0).n 0)) (fun u25 => [vI a0.Lo, vI a0.Hi]) 38) <|
   .cons [96] (ok_ld (fun u25 => .agg #[vI a1.Lo, vI a1.Hi]) 96 107 0 2 (fun u25 => ((u1 1).n 0)) (fun u25 => [vI a1.Lo, vI a1.Hi]) 38) <|
   .cons [97] (ok_callv 124 (fun u25 => #[.agg #[vI a0.Lo, vI a0.Hi], .agg #[vI a1.Lo, vI a1.Hi]]) (.tuple #[vI t26.1, vI t26.2]) 97 [] (fun _ w _ => interval_ll.calls a0 a1 t26 w ht26)) <|
   .v 98 (vI t26.1) <|
   .v 99 (vI t26.2) <|
   .cons [100] (ok_callv 88 (fun u25 => #[vI t26.1, vI t26.2]) (.tuple #[vI t27.1, vI t27.2]) 100 [] (fun _ w _ => fixed_Mul.calls t26.1 t26.2 t27 w ht27)) <|
   .v 92 (.tuple #[vI t27.1, vI t27.2]) <|
   .v 101 (vI t27.1) <|
   .v 102 (vI t27.2) <|
   .v 18 (vI t27.1) <|
   .v 19 (vI t27.2) <| .nil) fun u25 a w' H => ?_
     replace H := H.toM [(4, (sP ((u1 2).n 0) 0)), (16, sI t24.1), (19, sI t27.2), (108, .blk ((u1 2).n 0) [vI 0, vI 0] 38), (999999, gk)]
     refine k_seq ?_
     replace G := bnd G; obtain ⟨t29, ht29, G⟩ := G
     refine k_rg mixed H (.v 103 (vI t24.1) <|
   .v 104 (vI t27.2) <|
   .cons [105] (ok_callv 89 (fun u28 => #[vI t24.1, vI t27.2]) (.agg #[vI t29.Lo, vI t29.Hi]) 105 [] (fun _ w _ => interval_New.calls t24.1 t27.2 t29 w ht29)) <|
   .cons [108] (ok_as (u' := fun u28 => [(108, .blk ((u1 2).n 0) [vI t29.Lo, vI t29.Hi] 38)]) (ok_store 108 0 (fun u28 => ((u1 2).n 0)) (fun u28 => [vI 0, vI 0]) (fun u28 => [vI t29.Lo, vI t29.Hi]) 38) (fun _ => by kernel_rfl)) <| .nil) fun u28 a w' H => ?_
     replace H := H.toM [(4, (sP ((u1 2).n 0) 0)), (108, .blk ((u1 2).n 0) [vI t29.Lo, vI t29.Hi] 38), (999999, gk)]
     refine k_ret ?_
     obtain rfl := Option.some.inj G
     exact k_done1 H _ 108 ((u1 2).n 0) [vI t29.Lo, vI t29.Hi] 38 0 2 (by kernel_rfl) (by kernel_rfl) (by kernel_rfl) (by kernel_rfl)
    rw [if_neg c48] at G
    by_cases c49 : t9 = 1
    ·rw [if_pos c49] at G; subst c49
     refine k_rg mixed H (.v 76 (vI 0) <|
   .v 77 (vI 1) <|
   .v 78 (vP 0 0) <|
   .v 79 (vP 0 2) <|
   .cons [80] (ok_ldK (fun u30 => .agg #[.func (.func 125) #[] #[], .func (.func 124) #[] #[]]) 80 999999 gk 0 2 2 gTab0 (fun w h => (glob_of h).tab0)) <|
   .cons [15, 110] (ok_new (fun b => vP b 0) (fun u30 => [.nilFunc, .nilFunc]) 118 15 110) <|
   .cons [110] (ok_as (u' := fun u30 => [(110, .blk ((u30 5).n 0) [.func (.func 125) #[] #[], .func (.func 124) #[] #[]] 118)]) (ok_store 110 0 (fun u30 => ((u30 5).n 0)) (fun u30 => [.nilFunc, .nilFunc]) (fun u30 => [.func (.func 125) #[] #[], .func (.func 124) #[] #[]]) 118) (fun _ => by kernel_rfl)) <| .nil) fun u30 a w' H => ?_
     replace H := H.toM [(2, (sP ((u1 0).n 0) 0)), (3, (sP ((u1 1).n 0) 0)), (4, (sP ((u1 2).n 0) 0)), (15, (sP ((u30 5).n 0) 0)), (106, .blk ((u1 0).n 0) [vI a0.Lo, vI a0.Hi] 38), (107, .blk ((u1 1).n 0) [vI a1.Lo, vI a1.Hi] 38), (108, .blk ((u1 2).n 0) [vI 0, vI 0] 38), (110, .blk ((u30 5).n 0) [.func (.func 125) #[] #[], .func (.func 124) #[] #[]] 118), (999999, gk)]
     refine k_seq ?_
     replace G := bnd G; obtain ⟨t32, ht32, G⟩ := G
     replace G := bnd G; obtain ⟨t33, ht33, G⟩ := G
     refine k_rg mixed H (.v 82 (vP ((u30 5).n 0) 0) <|
   .cons [83] (ok_ld (fun u31 => .func (.func 125) #[] #[]) 83 110 0 1 (fun u31 => ((u30 5).n 0)) (fun u31 => [.func (.func 125) #[] #[], .func (.func 124) #[] #[]]) 118) <|
   .cons [84] (ok_ld (fun u31 => .agg #[vI a0.Lo, vI a0.Hi]) 84 106 0 2 (fun u31 => ((u1 0).n 0)) (fun u31 => [vI a0.Lo, vI a0.Hi]) 38) <|
   .cons [85] (ok_ld (fun u31 => .agg #[vI a1.Lo, vI a1.Hi]) 85 107 0 2 (fun u31 => ((u1 1).n 0)) (fun u31 => [vI a1.Lo, vI a1.Hi]) 38) <|
   .cons [86] (ok_callv 125 (fun u31 => #[.agg #[vI a0.Lo, vI a0.Hi], .agg #[vI a1.Lo, vI a1.Hi]]) (.tuple #[vI t32.1, vI t32.2]) 86 [] (fun _ w _ => interval_lh.calls a0 a1 t32 w ht32)) <|
   .v 87 (vI t32.1) <|
   .v 88 (vI t32.2) <|
   .cons [89] (ok_callv 88 (fun u31 => #[vI t32.1, vI t32.2]) (.tuple #[vI t33.1, vI t33.2]) 89 [] (fun _ w _ => fixed_Mul.calls t32.1 t32.2 t33 w ht33)) <|
   .v 81 (.tuple #[vI t33.1, vI t33.2]) <|
   .v 90 (vI t33.1) <|
   .v 91 (vI t33.2) <|
   .v 16 (vI t33.1) <|
   .v 17 (vI t33.2) <| .nil) fun u31 a w' H => ?_
     replace H := H.toM [(2, (sP ((u1 0).n 0) 0)), (3, (sP ((u1 1).n 0) 0)), (4, (sP ((u1 2).n 0) 0)), (15, (sP ((u30 5).n 0) 0)), (16, sI t33.1), (106, .blk ((u1 0).n 0) [vI a0.Lo, vI a0.Hi] 38), (107, .blk ((u1 1).n 0) [vI a1.Lo, vI a1.Hi] 38), (108, .blk ((u1 2).n 0) [vI 0, vI 0] 38), (110, .blk ((u30 5).n 0) [.func (.func 125) #[] #[], .func (.func 124) #[] #[]] 118), (999999, gk)]
     refine k_seq ?_
     replace G := bnd G; obtain ⟨t35, ht35, G⟩ := G
     replace G := bnd G; obtain ⟨t36, ht36, G⟩ := G
     refine k_rg mixed H (.v 93 (vP ((u30 5).n 0) 1) <|
   .cons [94] (ok_ld (fun u34 => .func (.func 124) #[] #[]) 94 110 1 1 (fun u34 => ((u30 5).n 0)) (fun u34 => [.func (.func 125) #[] #[], .func (.func 124) #[] #[]]) 118) <|
   .cons [95] (ok_ld (fun u34 => .agg #[vI a0.Lo, vI a0.Hi]) 95 106 0 2 (fun u34 => ((u1 0).n 0)) (fun u34 => [vI a0.Lo, vI a0.Hi]) 38) <|
   .cons [96] (ok_ld (fun u34 => .agg #[vI a1.Lo, vI a1.Hi]) 96 107 0 2 (fun u34 => ((u1 1).n 0)) (fun u34 => [vI a1.Lo, vI a1.Hi]) 38) <|
   .cons [97] (ok_callv 124 (fun u34 => #[.agg #[vI a0.Lo, vI a0.Hi], .agg #[vI a1.Lo, vI a1.Hi]]) (.tuple #[vI t35.1, vI t35.2]) 97 [] (fun _ w _ => interval_ll.calls a0 a1 t35 w ht35)) <|
   .v 98 (vI t35.1) <|
   .v 99 (vI t35.2) <|
   .cons [100] (ok_callv 88 (fun u34 => #[vI t35.1, vI t35.2]) (.tuple #[vI t36.1, vI t36.2]) 100 [] (fun _ w _ => fixed_Mul.calls t35.1 t35.2 t36 w ht36)) <|
   .v 92 (.tuple #[vI t36.1, vI t36.2]) <|
   .v 101 (vI t36.1) <|
   .v 102 (vI t36.2) <|
   .v 18 (vI t36.1) <|
   .v 19 (vI t36.2) <| .nil) fun u34 a w' H => ?_
     replace H := H.toM [(4, (sP ((u1 2).n 0) 0)), (16, sI t33.1), (19, sI t36.2), (108, .blk ((u1 2).n 0) [vI 0, vI 0] 38), (999999, gk)]
     refine k_seq ?_
     replace G := bnd G; obtain ⟨t38, ht38, G⟩ := G
     refine k_rg mixed H (.v 103 (vI t33.1) <|
   .v 104 (vI t36.2) <|
   .cons [105] (ok_callv 89 (fun u37 => #[vI t33.1, vI t36.2]) (.agg #[vI t38.Lo, vI t38.Hi]) 105 [] (fun _ w _ => interval_New.calls t33.1 t36.2 t38 w ht38)) <|
   .cons [108] (ok_as (u' := fun u37 => [(108, .blk ((u1 2).n 0) [vI t38.Lo, vI t38.Hi] 38)]) (ok_store 108 0 (fun u37 => ((u1 2).n 0)) (fun u37 => [vI 0, vI 0]) (fun u37 => [vI t38.Lo, vI t38.Hi]) 38) (fun _ => by kernel_rfl)) <| .nil) fun u37 a w' H => ?_
     replace H := H.toM [(4, (sP ((u1 2).n 0) 0)), (108, .blk ((u1 2).n 0) [vI t38.Lo, vI t38.Hi] 38), (999999, gk)]
     refine k_ret ?_
     obtain rfl := Option.some.inj G
     exact k_done1 H _ 108 ((u1 2).n 0) [vI t38.Lo, vI t38.Hi] 38 0 2 (by kernel_rfl) (by kernel_rfl) (by kernel_rfl) (by kernel_rfl)
    rw [if_neg c49] at G
    by_cases c50 : t9 = 2
    ·rw [if_pos c50] at G; subst c50
     refine k_rg mixed H (.v 76 (vI 0) <|
   .v 77 (vI 2) <|
   .v 78 (vP 0 0) <|
   .v 79 (vP 0 4) <|
   .cons [80] (ok_ldK (fun u39 => .agg #[.func (.func 125) #[] #[], .func (.func 126) #[] #[]]) 80 999999 gk 0 4 2 gTab0 (fun w h => (glob_of h).tab0)) <|
   .cons [15, 111] (ok_new (fun b => vP b 0) (fun u39 => [.nilFunc, .nilFunc]) 118 15 111) <|
   .cons [111] (ok_as (u' := fun u39 => [(111, .blk ((u39 5).n 0) [.func (.func 125) #[] #[], .func (.func 126) #[] #[]] 118)]) (ok_store 111 0 (fun u39 => ((u39 5).n 0)) (fun u39 => [.nilFunc, .nilFunc]) (fun u39 => [.func (.func 125) #[] #[], .func (.func 126) #[] #[]]) 118) (fun _ => by kernel_rfl)) <| .nil) fun u39 a w' H => ?_
     replace H := H.toM [(2, (sP ((u1 0).n 0) 0)), (3, (sP ((u1 1).n 0) 0)), (4, (sP ((u1 2).n 0) 0)), (15, (sP ((u39 5).n 0) 0)), (106, .blk ((u1 0).n 0) [vI a0.Lo, vI a0.Hi] 38), (107, .blk ((u1 1).n 0) [vI a1.Lo, vI a1.Hi] 38), (108, .blk ((u1 2).n 0) [vI 0, vI 0] 38), (111, .blk ((u39 5).n 0) [.func (.func 125) #[] #[], .func (.func 126) #[] #[]] 118), (999999, gk)]
     refine k_seq ?_
     replace G := bnd G; obtain ⟨t41, ht41, G⟩ := G
     replace G := bnd G; obtain ⟨t42, ht42, G⟩ := G
     refine k_rg mixed H (.v 82 (vP ((u39 5).n 0) 0) <|
   .cons [83] (ok_ld (fun u40 => .func (.func 125) #[] #[]) 83 111 0 1 (fun u40 => ((u39 5).n 0)) (fun u40 => [.func (.func 125) #[] #[], .func (.func 126) #[] #[]]) 118) <|
   .cons [84] (ok_ld (fun u40 => .agg #[vI a0.Lo, vI a0.Hi]) 84 106 0 2 (fun u40 => ((u1 0).n 0)) (fun u40 => [vI a0.Lo, vI a0.Hi]) 38) <|
   .cons [85] (ok_ld (fun u40 => .agg #[vI a1.Lo, vI a1.Hi]) 85 107 0 2 (fun u40 => ((u1 1).n 0)) (fun u40 => [vI a1.Lo, vI a1.Hi]) 38) <|
   .cons [86] (ok_callv 125 (fun u40 => #[.agg #[vI a0.Lo, vI a0.Hi], .agg #[vI a1.Lo, vI a1.Hi]]) (.tuple #[vI t41.1, vI t41.2]) 86 [] (fun _ w _ => interval_lh.calls a0 a1 t41 w ht41)) <|
   .v 87 (vI t41.1) <|
   .v 88 (vI t41.2) <|
   .cons [89] (ok_callv 88 (fun u40 => #[vI t41.1, vI t41.2]) (.tuple #[vI t42.1, vI t42.2]) 89 [] (fun _ w _ => fixed_Mul.calls t41.1 t41.2 t42 w ht42)) <|
   .v 81 (.tuple #[vI t42.1, vI t42.2]) <|
   .v 90 (vI t42.1) <|
   .v 91 (vI t42.2) <|
   .v 16 (vI t42.1) <|
   .v 17 (vI t42.2) <| .nil) fun u40 a w' H => ?_
     replace H := H.toM [(2, (sP ((u1 0).n 0) 0)), (3, (sP ((u1 1).n 0) 0)), (4, (sP ((u1 2).n 0) 0)), (15, (sP ((u39 5).n 0) 0)), (16, sI t42.1), (106, .blk ((u1 0).n 0) [vI a0.Lo, vI a0.Hi] 38), (107, .blk ((u1 1).n 0) [vI a1.Lo, vI a1.Hi] 38), (108, .blk ((u1 2).n 0) [vI 0, vI 0] 38), (111, .blk ((u39 5).n 0) [.func (.func 125) #[] #[], .func (.func 126) #[] #[]] 118), (999999, gk)]
     refine k_seq ?_
     replace G := bnd G; obtain ⟨t44, ht44, G⟩ := G
     replace G := bnd G; obtain ⟨t45, ht45, G⟩ := G
     refine k_rg mixed H (.v 93 (vP ((u39 5).n 0) 1) <|
   .cons [94] (ok_ld (fun u43 => .func (.func 126) #[] #[]) 94 111 1 1 (fun u43 => ((u39 5).n 0)) (fun u43 => [.func (.func 125) #[] #[], .func (.func 126) #[] #[]]) 118) <|
   .cons [95] (ok_ld (fun u43 => .agg #[vI a0.Lo, vI a0.Hi]) 95 106 0 2 (fun u43 => ((u1 0).n 0)) (fun u43 => [vI a0.Lo, vI a0.Hi]) 38) <|
   .cons [96] (ok_ld (fun u43 => .agg #[vI a1.Lo, vI a1.Hi]) 96 107 0 2 (fun u43 => ((u1 1).n 0)) (fun u43 => [vI a1.Lo, vI a1.Hi]) 38) <|
   .cons [97] (ok_callv 126 (fun u43 => #[.agg #[vI a0.Lo, vI a0.Hi], .agg #[vI a1.Lo, vI a1.Hi]]) (.tuple #[vI t44.1, vI t44.2]) 97 [] (fun _ w _ => interval_hl.calls a0 a1 t44 w ht44)) <|
   .v 98 (vI t44.1) <|
   .v 99 (vI t44.2) <|
   .cons [100] (ok_callv 88 (fun u43 => #[vI t44.1, vI t44.2]) (.tuple #[vI t45.1, vI t45.2]) 100 [] (fun _ w _ => fixed_Mul.calls t44.1 t44.2 t45 w ht45)) <|
   .v 92 (.tuple #[vI t45.1, vI t45.2]) <|
   .v 101 (vI t45.1) <|
   .v 102 (vI t45.2) <|
   .v 18 (vI t45.1) <|
   .v 19 (vI t45.2) <| .nil) fun u43 a w' H => ?_
     replace H := H.toM [(4, (sP ((u1 2).n 0) 0)), (16, sI t42.1), (19, sI t45.2), (108, .blk ((u1 2).n 0) [vI 0, vI 0] 38), (999999, gk)]
     refine k_seq ?_
     replace G := bnd G; obtain ⟨t47, ht47, G⟩ := G
     refine k_rg mixed H (.v 103 (vI t42.1) <|
   .v 104 (vI t45.2) <|
   .cons [105] (ok_callv 89 (fun u46 => #[vI t42.1, vI t45.2]) (.agg #[vI t47.Lo, vI t47.Hi]) 105 [] (fun _ w _ => interval_New.calls t42.1 t45.2 t47 w ht47)) <|
   .cons [108] (ok_as (u' := fun u46 => [(108, .blk ((u1 2).n 0) [vI t47.Lo, vI t47.Hi] 38)]) (ok_store 108 0 (fun u46 => ((u1 2).n 0)) (fun u46 => [vI 0, vI 0]) (fun u46 => [vI t47.Lo, vI t47.Hi]) 38) (fun _ => by kernel_rfl)) <| .nil) fun u46 a w' H => ?_
     replace H := H.toM [(4, (sP ((u1 2).n 0) 0)), (108, .blk ((u1 2).n 0) [vI t47.Lo, vI t47.Hi] 38), (999999, gk)]
     refine k_ret ?_
     obtain rfl := Option.some.inj G
     exact k_done1 H _ 108 ((u1 2).n 0) [vI t47.Lo, vI t47.Hi] 38 0 2 (by kernel_rfl) (by kernel_rfl) (by kernel_rfl) (by kernel_rfl)
    rw [if_neg c50] at G
    cases G
   rw [if_neg c103] at G
   by_cases c104 : t8 = 1
   ·rw [if_pos c104] at G; subst c104
    by_cases c70 : t9 = 0
    ·rw [if_pos c70] at G; subst c70
     refine k_rg mixed H (.v 76 (vI 1) <|
   .v 77 (vI 0) <|
   .v 78 (vP 0 6) <|
   .v 79 (vP 0 6) <|
   .cons [80] (ok_ldK (fun u51 => .agg #[.func (.func 126) #[] #[], .func (.func 124) #[] #[]]) 80 999999 gk 0 6 2 gTab0 (fun w h => (glob_of h).tab0)) <|
   .cons [15, 112] (ok_new (fun b => vP b 0) (fun u51 => [.nilFunc, .nilFunc]) 118 15 112) <|
   .cons [112] (ok_as (u' := fun u51 => [(112, .blk ((u51 5).n 0) [.func (.func 126) #[] #[], .func (.func 124) #[] #[]] 118)]) (ok_store 112 0 (fun u51 => ((u51 5).n 0)) (fun u51 => [.nilFunc, .nilFunc]) (fun u51 => [.func (.func 126) #[] #[], .func (.func 124) #[] #[]]) 118) (fun _ => by kernel_rfl)) <| .nil) fun u51 a w' H => ?_
     replace H := H.toM [(2, (sP ((u1 0).n 0) 0)), (3, (sP ((u1 1).n 0) 0)), (4, (sP ((u1 2).n 0) 0)), (15, (sP ((u51 5).n 0) 0)), (106, .blk ((u1 0).n 0) [vI a0.Lo, vI a0.Hi] 38), (107, .blk ((u1 1).n 0) [vI a1.Lo, vI a1.Hi] 38), (108, .blk ((u1 2).n 0) [vI 0, vI 0] 38), (112, .blk ((u51 5).n 0) [.func (.func 126) #[] #[], .func (.func 124) #[] #[]] 118), (999999, gk)]
     refine k_seq ?_
     replace G := bnd G; obtain ⟨t53, ht53, G⟩ := G
     replace G := bnd G; obtain ⟨t54, ht54, G⟩ := G
     refine k_rg mixed H (.v 82 (vP ((u51 5).n 0) 0) <|
   .cons [83] (ok_ld (fun u52 => .func (.func 126) #[] #[]) 83 112 0 1 (fun u52 => ((u51 5).n 0)) (fun u52 => [.func (.func 126) #[] #[], .func (.func 124) #[] #[]]) 118) <|
   .cons [84] (ok_ld (fun u52 => .agg #[vI a0.Lo, vI a0.Hi]) 84 106 0 2 (fun u52 => ((u1 0).n 0)) (fun u52 => [vI a0.Lo, vI a0.Hi]) 38) <|
   .cons [85] (ok_ld (fun u52 => .agg #[vI a1.Lo, vI a1.Hi]) 85 107 0 2 (fun u52 => ((u1 1).n 0)) (fun u52 => [vI a1.Lo, vI a1.Hi]) 38) <|
   .cons [86] (ok_callv 126 (fun u52 => #[.agg #[vI a0.Lo, vI a0.Hi], .agg #[vI a1.Lo, vI a1.Hi]]) (.tuple #[vI t53.1, vI t53.2]) 86 [] (fun _ w _ => interval_hl.calls a0 a1 t53 w ht53)) <|
   .v 87 (vI t53.1) <|
   .v 88 (vI t53.2) <|
   .cons [89] (ok_callv 88 (fun u52 => #[vI t53.1, vI t53.2]) (.tuple #[vI t54.1, vI t54.2]) 89 [] (fun _ w _ => fixed_Mul.calls t53.1 t53.2 t54 w ht54)) <|
   .v 81 (.tuple #[vI t54.1, vI t54.2]) <|
   .v 90 (vI t54.1) <|
   .v 91 (vI t54.2) <|
   .v 16 (vI t54.1) <|
   .v 17 (vI t54.2) <| .nil) fun u52 a w' H => ?_
     replace H := H.toM [(2, (sP ((u1 0).n 0) 0)), (3, (sP ((u1 1).n 0) 0)), (4, (sP ((u1 2).n 0) 0)), (15, (sP ((u51 5).n 0) 0)), (16, sI t54.1), (106, .blk ((u1 0).n 0) [vI a0.Lo, vI a0.Hi] 38), (107, .blk ((u1 1).n 0) [vI a1.Lo, vI a1.Hi] 38), (108, .blk ((u1 2).n 0) [vI 0, vI 0] 38), (112, .blk ((u51 5).n 0) [.func (.func 126) #[] #[], .func (.func 124) #[] #[]] 118), (999999, gk)]
     refine k_seq ?_
     replace G := bnd G; obtain ⟨t56, ht56, G⟩ := G
     replace G := bnd G; obtain ⟨t57, ht57, G⟩ := G
     refine k_rg mixed H (.v 93 (vP ((u51 5).n 0) 1) <|
   .cons [94] (ok_ld (fun u55 => .func (.func 124) #[] #[]) 94 112 1 1 (fun u55 => ((u51 5).n 0)) (fun u55 => [.func (.func 126) #[] #[], .func (.func 124) #[] #[]]) 118) <|
   .cons [95] (ok_ld (fun u55 => .agg #[vI a0.Lo, vI a0.Hi]) 95 106 0 2 (fun u55 => ((u1 0).n 0)) (fun u55 => [vI a0.Lo, vI a0.Hi]) 38) <|
   .cons [96] (ok_ld (fun u55 => .agg #[vI a1.Lo, vI a1.Hi]) 96 107 0 2 (fun u55 => ((u1 1).n 0)) (fun u55 => [vI a1.Lo, vI a1.Hi]) 38) <|
   .cons [97] (ok_callv 124 (fun u55 => #[.agg #[vI a0.Lo, vI a0.Hi], .agg #[vI a1.Lo, vI a1.Hi]]) (.tuple #[vI t56.1, vI t56.2]) 97 [] (fun _ w _ => interval_ll.calls a0 a1 t56 w ht56)) <|
   .v 98 (vI t56.1) <|
   .v 99 (vI t56.2) <|
   .cons [100] (ok_callv 88 (fun u55 => #[vI t56.1, vI t56.2]) (.tuple #[vI t57.1, vI t57.2]) 100 [] (fun _ w _ => fixed_Mul.calls t56.1 t56.2 t57 w ht57)) <|
   .v 92 (.tuple #[vI t57.1, vI t57.2]) <|
   .v 101 (vI t57.1) <|
   .v 102 (vI t57.2) <|
   .v 18 (vI t57.1) <|
   .v 19 (vI t57.2) <| .nil) fun u55 a w' H => ?_
     replace H := H.toM [(4, (sP ((u1 2).n 0) 0)), (16, sI t54.1), (19, sI t57.2), (108, .blk ((u1 2).n 0) [vI 0, vI 0] 38), (999999, gk)]
     refine k_seq ?_
     replace G := bnd G; obtain ⟨t59, ht59, G⟩ := G
     refine k_rg mixed H (.v 103 (vI t54.1) <|
   .v 104 (vI t57.2) <|
   .cons [105] (ok_callv 89 (fun u58 => #[vI t54.1, vI t57.2]) (.agg #[vI t59.Lo, vI t59.Hi]) 105 [] (fun _ w _ => interval_New.calls t54.1 t57.2 t59 w ht59)) <|
   .cons [108] (ok_as (u' := fun u58 => [(108, .blk ((u1 2).n 0) [vI t59.Lo, vI t59.Hi] 38)]) (ok_store 108 0 (fun u58 => ((u1 2).n 0)) (fun u58 => [vI 0, vI 0]) (fun u58 => [vI t59.Lo, vI t59.Hi]) 38) (fun _ => by kernel_rfl)) <| .nil) fun u58 a w' H => ?_
     replace H := H.toM [(4, (sP ((u1 2).n 0) 0)), (108, .blk ((u1 2).n 0) [vI t59.Lo, vI t59.Hi] 38), (999999, gk)]
     refine k_ret ?_
     obtain rfl := Option.some.inj G
     exact k_done1 H _ 108 ((u1 2).n 0) [vI t59.Lo, vI t59.Hi] 38 0 2 (by kernel_rfl) (by kernel_rfl) (by kernel_rfl) (by kernel_rfl)
    rw [if_neg c70] at G
    by_cases c71 : t9 = 1
    ·rw [if_pos c71] at G; subst c71
     refine k_rg mixed H (.v 76 (vI 1) <|
   .v 77 (vI 1) <|
   .v 78 (vP 0 6) <|
   .v 79 (vP 0 8) <|
   .cons [80] (ok_ldK (fun u60 => .agg #[.nilFunc, .nilFunc]) 80 999999 gk 0 8 2 gTab0 (fun w h => (glob_of h).tab0)) <|
   .cons [15, 113] (ok_new (fun b => vP b 0) (fun u60 => [.nilFunc, .nilFunc]) 118 15 113) <|
   .cons [113] (ok_as (u' := fun u60 => [(113, .blk ((u60 5).n 0) [.nilFunc, .nilFunc] 118)]) (ok_store 113 0 (fun u60 => ((u60 5).n 0)) (fun u60 => [.nilFunc, .nilFunc]) (fun u60 => [.nilFunc, .nilFunc]) 118) (fun _ => by kernel_rfl)) <| .nil) fun u60 a w' H => ?_
     replace H := H.toM [(2, (sP ((u1 0).n 0) 0)), (3, (sP ((u1 1).n 0) 0)), (4, (sP ((u1 2).n 0) 0)), (15, (sP ((u60 5).n 0) 0)), (106, .blk ((u1 0).n 0) [vI a0.Lo, vI a0.Hi] 38), (107, .blk ((u1 1).n 0) [vI a1.Lo, vI a1.Hi] 38), (108, .blk ((u1 2).n 0) [vI 0, vI 0] 38), (113, .blk ((u60 5).n 0) [.nilFunc, .nilFunc] 118), (999999, gk)]
     refine k_seq ?_
     cases G
    rw [if_neg c71] at G
    by_cases c72 : t9 = 2
    ·rw [if_pos c72] at G; subst c72
     refine k_rg mixed H (.v 76 (vI 1) <|
   .v 77 (vI 2) <|
   .v 78 (vP 0 6) <|
   .v 79 (vP 0 10) <|
   .cons [80] (ok_ldK (fun u61 => .agg #[.func (.func 125) #[] #[], .func (.func 123) #[] #[]]) 80 999999 gk 0 10 2 gTab0 (fun w h => (glob_of h).tab0)) <|
   .cons [15, 114] (ok_new (fun b => vP b 0) (fun u61 => [.nilFunc, .nilFunc]) 118 15 114) <|
   .cons [114] (ok_as (u' := fun u61 => [(114, .blk ((u61 5).n 0) [.func (.func 125) #[] #[], .func (.func 123) #[] #[]] 118)]) (ok_store 114 0 (fun u61 => ((u61 5).n 0)) (fun u61 => [.nilFunc, .nilFunc]) (fun u61 => [.func (.func 125) #[] #[], .func (.func 123) #[] #[]]) 118) (fun _ => by kernel_rfl)) <| .nil) fun u61 a w' H => ?_
     replace H := H.toM [(2, (sP ((u1 0).n 0) 0)), (3, (sP ((u1 1).n 0) 0)), (4, (sP ((u1 2).n 0) 0)), (15, (sP ((u61 5).n 0) 0)), (106, .blk ((u1 0).n 0) [vI a0.Lo, vI a0.Hi] 38), (107, .blk ((u1 1).n 0) [vI a1.Lo, vI a1.Hi] 38), (108, .blk ((u1 2).n 0) [vI 0, vI 0] 38), (114, .blk ((u61 5).n 0) [.func (.func 125) #[] #[], .func (.func 123) #[] #[]] 118), (999999, gk)]
     refine k_seq ?_
     replace G := bnd G; obtain ⟨t63, ht63, G⟩ := G
     replace G := bnd G; obtain ⟨t64, ht64, G⟩ := G
     refine k_rg mixed H (.v 82 (vP ((u61 5).n 0) 0) <|
   .cons [83] (ok_ld (fun u62 => .func (.func 125) #[] #[]) 83 114 0 1 (fun u62 => ((u61 5).n 0)) (fun u62 => [.func (.func 125) #[] #[], .func (.func 123) #[] #[]]) 118) <|
   .cons [84] (ok_ld (fun u62 => .agg #[vI a0.Lo, vI a0.Hi]) 84 106 0 2 (fun u62 => ((u1 0).n 0)) (fun u62 => [vI a0.Lo, vI a0.Hi]) 38) <|
   .cons [85] (ok_ld (fun u62 => .agg #[vI a1.Lo, vI a1.Hi]) 85 107 0 2 (fun u62 => ((u1 1).n 0)) (fun u62 => [vI a1.Lo, vI a1.Hi]) 38) <|
   .cons [86] (ok_callv 125 (fun u62 => #[.agg #[vI a0.Lo, vI a0.Hi], .agg #[vI a1.Lo, vI a1.Hi]]) (.tuple #[vI t63.1, vI t63.2]) 86 [] (fun _ w _ => interval_lh.calls a0 a1 t63 w ht63)) <|
   .v 87 (vI t63.1) <|
   .v 88 (vI t63.2) <|
   .cons [89] (ok_callv 88 (fun u62 => #[vI t63.1, vI t63.2]) (.tuple #[vI t64.1, vI t64.2]) 89 [] (fun _ w _ => fixed_Mul.calls t63.1 t63.2 t64 w ht64)) <|
   .v 81 (.tuple #[vI t64.1, vI t64.2]) <|
   .v 90 (vI t64.1) <|
   .v 91 (vI t64.2) <|
   .v 16 (vI t64.1) <|
   .v 17 (vI t64.2) <| .nil) fun u62 a w' H => ?_
     replace H := H.toM [(2, (sP ((u1 0).n 0) 0)), (3, (sP ((u1 1).n 0) 0)), (4, (sP ((u1 2).n 0) 0)), (15, (sP ((u61 5).n 0) 0)), (16, sI t64.1), (106, .blk ((u1 0).n 0) [vI a0.Lo, vI a0.Hi] 38), (107, .blk ((u1 1).n 0) [vI a1.Lo, vI a1.Hi] 38), (108, .blk ((u1 2).n 0) [vI 0, vI 0] 38), (114, .blk ((u61 5).n 0) [.func (.func 125) #[] #[], .func (.func 123) #[] #[]] 118), (999999, gk)]
     refine k_seq ?_
     replace G := bnd G; obtain ⟨t66, ht66, G⟩ := G
     replace G := bnd G; obtain ⟨t67, ht67, G⟩ := G
     refine k_rg mixed H (.v 93 (vP ((u61 5).n 0) 1) <|
   .cons [94] (ok_ld (fun u65 => .func (.func 123) #[] #[]) 94 114 1 1 (fun u65 => ((u61 5).n 0)) (fun u65 => [.func (.func 125) #[] #[], .func (.func 123) #[] #[]]) 118) <|
   .cons [95] (ok_ld (fun u65 => .agg #[vI a0.Lo, vI a0.Hi]) 95 106 0 2 (fun u65 => ((u1 0).n 0)) (fun u65 => [vI a0.Lo, vI a0.Hi]) 38) <|
   .cons [96] (ok_ld (fun u65 => .agg #[vI a1.Lo, vI a1.Hi]) 96 107 0 2 (fun u65 => ((u1 1).n 0)) (fun u65 => [vI a1.Lo, vI a1.Hi]) 38) <|
   .cons [97] (ok_callv 123 (fun u65 => #[.agg #[vI a0.Lo, vI a0.Hi], .agg #[vI a1.Lo, vI a1.Hi]]) (.tuple #[vI t66.1, vI t66.2]) 97 [] (fun _ w _ => interval_hh.calls a0 a1 t66 w ht66)) <|
   .v 98 (vI t66.1) <|
   .v 99 (vI t66.2) <|
   .cons [100] (ok_callv 88 (fun u65 => #[vI t66.1, vI t66.2]) (.tuple #[vI t67.1, vI t67.2]) 100 [] (fun _ w _ => fixed_Mul.calls t66.1 t66.2 t67 w ht67)) <|
   .v 92 (.tuple #[vI t67.1, vI t67.2]) <|
   .v 101 (vI t67.1) <|
   .v 102 (vI t67.2) <|
   .v 18 (vI t67.1) <|
   .v 19 (vI t67.2) <| .nil) fun u65 a w' H => ?_
     replace H := H.toM [(4, (sP ((u1 2).n 0) 0)), (16, sI t64.1), (19, sI t67.2), (108, .blk ((u1 2).n 0) [vI 0, vI 0] 38), (999999, gk)]
     refine k_seq ?_
     replace G := bnd G; obtain ⟨t69, ht69, G⟩ := G
     refine k_rg mixed H (.v 103 (vI t64.1) <|
   .v 104 (vI t67.2) <|
   .cons [105] (ok_callv 89 (fun u68 => #[vI t64.1, vI t67.2]) (.agg #[vI t69.Lo, vI t69.Hi]) 105 [] (fun _ w _ => interval_New.calls t64.1 t67.2 t69 w ht69)) <|
   .cons [108] (ok_as (u' := fun u68 => [(108, .blk ((u1 2).n 0) [vI t69.Lo, vI t69.Hi] 38)]) (ok_store 108 0 (fun u68 => ((u1 2).n 0)) (fun u68 => [vI 0, vI 0]) (fun u68 => [vI t69.Lo, vI t69.Hi]) 38) (fun _ => by kernel_rfl)) <| .nil) fun u68 a w' H => ?_
     replace H := H.toM [(4, (sP ((u1 2).n 0) 0)), (108, .blk ((u1 2).n 0) [vI t69.Lo, vI t69.Hi] 38), (999999, gk)]
     refine k_ret ?_
     obtain rfl := Option.some.inj G
     exact k_done1 H _ 108 ((u1 2).n 0) [vI t69.Lo, vI t69.Hi] 38 0 2 (by kernel_rfl) (by kernel_rfl) (by kernel_rfl) (by kernel_rfl)
    rw [if_neg c72] at G
    cases G
   rw [if_neg c104] at G
   by_cases c105 : t8 = 2
   ·rw [if_pos c105] at G; subst c105
    by_cases c100 : t9 = 0
    ·rw [if_pos c100] at G; subst c100
     refine k_rg mixed H (.v 76 (vI 2) <|
   .v 77 (vI 0) <|
   .v 78 (vP 0 12) <|
   .v 79 (vP 0 12) <|
   .cons [80] (ok_ldK (fun u73 => .agg #[.func (.func 126) #[] #[], .func (.func 125) #[] #[]]) 80 999999 gk 0 12 2 gTab0 (fun w h => (glob_of h).tab0)) <|
   .cons [15, 115] (ok_new (fun b => vP b 0) (fun u73 => [.nilFunc, .nilFunc]) 118 15 115) <|
   .cons [115] (ok_as (u' := fun u73 => [(115, .blk ((u73 5).n 0) [.func (.func 126) #[] #[], .func (.func 125) #[] #[]] 118)]) (ok_store 115 0 (fun u73 => ((u73 5).n 0)) (fun u73 => [.nilFunc, .nilFunc]) (fun u73 => [.func (.func 126) #[] #[], .func (.func 125) #[] #[]]) 118) (fun _ => by kernel_rfl)) <| .nil) fun u73 a w' H => ?_
     replace H := H.toM [(2, (sP ((u1 0).n 0) 0)), (3, (sP ((u1 1).n 0) 0)), (4, (sP ((u1 2).n 0) 0)), (15, (sP ((u73 5).n 0) 0)), (106, .blk ((u1 0).n 0) [vI a0.Lo, vI a0.Hi] 38), (107, .blk ((u1 1).n 0) [vI a1.Lo, vI a1.Hi] 38), (108, .blk ((u1 2).n 0) [vI 0, vI 0] 38), (115, .blk ((u73 5).n 0) [.func (.func 126) #[] #[], .func (.func 125) #[] #[]] 118), (999999, gk)]
     refine k_seq ?_
     replace G := bnd G; obtain ⟨t75, ht75, G⟩ := G
     replace G := bnd G; obtain ⟨t76, ht76, G⟩ := G
     refine k_rg mixed H (.v 82 (vP ((u73 5).n 0) 0) <|
   .cons [83] (ok_ld (fun u74 => .func (.func 126) #[] #[]) 83 115 0 1 (fun u74 => ((u73 5).n 0)) (fun u74 => [.func (.func 126) #[] #[], .func (.func 125) #[] #[]]) 118) <|
   .cons [84] (ok_ld (fun u74 => .agg #[vI a0.Lo, vI a0.Hi]) 84 106 0 2 (fun u74 => ((u1 0).n 0)) (fun u74 => [vI a0.Lo, vI a0.Hi]) 38) <|
   .cons [85] (ok_ld (fun u74 => .agg #[vI a1.Lo, vI a1.Hi]) 85 107 0 2 (fun u74 => ((u1 1).n 0)) (fun u74 => [vI a1.Lo, vI a1.Hi]) 38) <|
   .cons [86] (ok_callv 126 (fun u74 => #[.agg #[vI a0.Lo, vI a0.Hi], .agg #[vI a1.Lo, vI a1.Hi]]) (.tuple #[vI t75.1, vI t75.2]) 86 [] (fun _ w _ => interval_hl.calls a0 a1 t75 w ht75)) <|
   .v 87 (vI t75.1) <|
   .v 88 (vI t75.2) <|
   .cons [89] (ok_callv 88 (fun u74 => #[vI t75.1, vI t75.2]) (.tuple #[vI t76.1, vI t76.2]) 89 [] (fun _ w _ => fixed_Mul.calls t75.1 t75.2 t76 w ht76)) <|
   .v 81 (.tuple #[vI t76.1, vI t76.2]) <|
   .v 90 (vI t76.1) <|
   .v 91 (vI t76.2) <|
   .v 16 (vI t76.1) <|
   .v 17 (vI t76.2) <| .nil) fun u74 a w' H => ?_
     replace H := H.toM [(2, (sP ((u1 0).n 0) 0)), (3, (sP ((u1 1).n 0) 0)), (4, (sP ((u1 2).n 0) 0)), (15, (sP ((u73 5).n 0) 0)), (16, sI t76.1), (106, .blk ((u1 0).n 0) [vI a0.Lo, vI a0.Hi] 38), (107, .blk ((u1 1).n 0) [vI a1.Lo, vI a1.Hi] 38), (108, .blk ((u1 2).n 0) [vI 0, vI 0] 38), (115, .blk ((u73 5).n 0) [.func (.func 126) #[] #[], .func (.func 125) #[] #[]] 118), (999999, gk)]
     refine k_seq ?_
     replace G := bnd G; obtain ⟨t78, ht78, G⟩ := G
     replace G := bnd G; obtain ⟨t79, ht79, G⟩ := G
     refine k_rg mixed H (.v 93 (vP ((u73 5).n 0) 1) <|
   .cons [94] (ok_ld (fun u77 => .func (.func 125) #[] #[]) 94 115 1 1 (fun u77 => ((u73 5).n 0)) (fun u77 => [.func (.func 126) #[] #[], .func (.func 125) #[] #[]]) 118) <|
   .cons [95] (ok_ld (fun u77 => .agg #[vI a0.Lo, vI a0.Hi]) 95 106 0 2 (fun u77 => ((u1 0).n 0)) (fun u77 => [vI a0.Lo, vI a0.Hi]) 38) <|
   .cons [96] (ok_ld (fun u77 => .agg #[vI a1.Lo, vI a1.Hi]) 96 107 0 2 (fun u77 => ((u1 1).n 0)) (fun u77 => [vI a1.Lo, vI a1.Hi]) 38) <|
   .cons [97] (ok_callv 125 (fun u77 => #[.agg #[vI a0.Lo, vI a0.Hi], .agg #[vI a1.Lo, vI a1.Hi]]) (.tuple #[vI t78.1, vI t78.2]) 97 [] (fun _ w _ => interval_lh.calls a0 a1 t78 w ht78)) <|
   .v 98 (vI t78.1) <|
   .v 99 (vI t78.2) <|
   .cons [100] (ok_callv 88 (fun u77 => #[vI t78.1, vI t78.2]) (.tuple #[vI t79.1, vI t79.2]) 100 [] (fun _ w _ => fixed_Mul.calls t78.1 t78.2 t79 w ht79)) <|
   .v 92 (.tuple #[vI t79.1, vI t79.2]) <|
   .v 101 (vI t79.1) <|
   .v 102 (vI t79.2) <|
   .v 18 (vI t79.1) <|
   .v 19 (vI t79.2) <| .nil) fun u77 a w' H => ?_
     replace H := H.toM [(4, (sP ((u1 2).n 0) 0)), (16, sI t76.1), (19, sI t79.2), (108, .blk ((u1 2).n 0) [vI 0, vI 0] 38), (999999, gk)]
     refine k_seq ?_
     replace G := bnd G; obtain ⟨t81, ht81, G⟩ := G
     refine k_rg mixed H (.v 103 (vI t76.1) <|
   .v 104 (vI t79.2) <|
   .cons [105] (ok_callv 89 (fun u80 => #[vI t76.1, vI t79.2]) (.agg #[vI t81.Lo, vI t81.Hi]) 105 [] (fun _ w _ => interval_New.calls t76.1 t79.2 t81 w ht81)) <|
   .cons [108] (ok_as (u' := fun u80 => [(108, .blk ((u1 2).n 0) [vI t81.Lo, vI t81.Hi] 38)]) (ok_store 108 0 (fun u80 => ((u1 2).n 0)) (fun u80 => [vI 0, vI 0]) (fun u80 => [vI t81.Lo, vI t81.Hi]) 38) (fun _ => by kernel_rfl)) <| .nil) fun u80 a w' H => ?_
     replace H := H.toM [(4, (sP ((u1 2).n 0) 0)), (108, .blk ((u1 2).n 0) [vI t81.Lo, vI t81.Hi] 38), (999999, gk)]
     refine k_ret ?_
     obtain rfl := Option.some.inj G
     exact k_done1 H _ 108 ((u1 2).n 0) [vI t81.Lo, vI t81.Hi] 38 0 2 (by kernel_rfl) (by kernel_rfl) (by kernel_rfl) (by kernel_rfl)
    rw [if_neg c100] at G
    by_cases c101 : t9 = 1
    ·rw [if_pos c101] at G; subst c101
     refine k_rg mixed H (.v 76 (vI 2) <|
   .v 77 (vI 1) <|
   .v 78 (vP 0 12) <|
   .v 79 (vP 0 14) <|
   .cons [80] (ok_ldK (fun u82 => .agg #[.func (.func 126) #[] #[], .func (.func 123) #[] #[]]) 80 999999 gk 0 14 2 gTab0 (fun w h => (glob_of h).tab0)) <|
   .cons [15, 116] (ok_new (fun b => vP b 0) (fun u82 => [.nilFunc, .nilFunc]) 118 15 116) <|
   .cons [116] (ok_as (u' := fun u82 => [(116, .blk ((u82 5).n 0) [.func (.func 126) #[] #[], .func (.func 123) #[] #[]] 118)]) (ok_store 116 0 (fun u82 => ((u82 5).n 0)) (fun u82 => [.nilFunc, .nilFunc]) (fun u82 => [.func (.func 126) #[] #[], .func (.func 123) #[] #[]]) 118) (fun _ => by kernel_rfl)) <| .nil) fun u82 a w' H => ?_
     replace H := H.toM [(2, (sP ((u1 0).n 0) 0)), (3, (sP ((u1 1).n 0) 0)), (4, (sP ((u1 2).n 0) 0)), (15, (sP ((u82 5).n 0) 0)), (106, .blk ((u1 0).n 0) [vI a0.Lo, vI a0.Hi] 38), (107, .blk ((u1 1).n 0) [vI a1.Lo, vI a1.Hi] 38), (108, .blk ((u1 2).n 0) [vI 0, vI 0] 38), (116, .blk ((u82 5).n 0) [.func (.func 126) #[] #[], .func (.func 123) #[] #[]] 118), (999999, gk)]
     refine k_seq ?_
     replace G := bnd G; obtain ⟨t84, ht84, G⟩ := G
     replace G := bnd G; obtain ⟨t85, ht85, G⟩ := G
     refine k_rg mixed H (.v 82 (vP ((u82 5).n 0) 0) <|
   .cons [83] (ok_ld (fun u83 => .func (.func 126) #[] #[]) 83 116 0 1 (fun u83 => ((u82 5).n 0)) (fun u83 => [.func (.func 126) #[] #[], .func (.func 123) #[] #[]]) 118) <|
   .cons [84] (ok_ld (fun u83 => .agg #[vI a0.Lo, vI a0.Hi]) 84 106 0 2 (fun u83 => ((u1 0).n 0)) (fun u83 => [vI a0.Lo, vI a0.Hi]) 38) <|
   .cons [85] (ok_ld (fun u83 => .agg #[vI a1.Lo, vI a1.Hi]) 85 107 0 2 (fun u83 => ((u1 1).n 0)) (fun u83 => [vI a1.Lo, vI a1.Hi]) 38) <|
   .cons [86] (ok_callv 126 (fun u83 => #[.agg #[vI a0.Lo, vI a0.Hi], .agg #[vI a1.Lo, vI a1.Hi]]) (.tuple #[vI t84.1, vI t84.2]) 86 [] (fun _ w _ => interval_hl.calls a0 a1 t84 w ht84)) <|
   .v 87 (vI t84.1) <|
   .v 88 (vI t84.2) <|
   .cons [89] (ok_callv 88 (fun u83 => #[vI t84.1, vI t84.2]) (.tuple #[vI t85.1, vI t85.2]) 89 [] (fun _ w _ => fixed_Mul.calls t84.1 t84.2 t85 w ht85)) <|
   .v 81 (.tuple #[vI t85.1, vI t85.2]) <|
   .v 90 (vI t85.1) <|
   .v 91 (vI t85.2) <|
   .v 16 (vI t85.1) <|
   .v 17 (vI t85.2) <| .nil) fun u83 a w' H => ?_
     replace H := H.toM [(2, (sP ((u1 0).n 0) 0)), (3, (sP ((u1 1).n 0) 0)), (4, (sP ((u1 2).n 0) 0)), (15, (sP ((u82 5).n 0) 0)), (16, sI t85.1), (106, .blk ((u1 0).n 0) [vI a0.Lo, vI a0.Hi] 38), (107, .blk ((u1 1).n 0) [vI a1.Lo, vI a1.Hi] 38), (108, .blk ((u1 2).n 0) [vI 0, vI 0] 38), (116, .blk ((u82 5).n 0) [.func (.func 126) #[] #[], .func (.func 123) #[] #[]] 118), (999999, gk)]
     refine k_seq ?_
     replace G := bnd G; obtain ⟨t87, ht87, G⟩ := G
     replace G := bnd G; obtain ⟨t88, ht88, G⟩ := G
     refine k_rg mixed H (.v 93 (vP ((u82 5).n 0) 1) <|
   .cons [94] (ok_ld (fun u86 => .func (.func 123) #[] #[]) 94 116 1 1 (fun u86 => ((u82 5).n 0)) (fun u86 => [.func (.func 126) #[] #[], .func (.func 123) #[] #[]]) 118) <|
   .cons [95] (ok_ld (fun u86 => .agg #[vI a0.Lo, vI a0.Hi]) 95 106 0 2 (fun u86 => ((u1 0).n 0)) (fun u86 => [vI a0.Lo, vI a0.Hi]) 38) <|
   .cons [96] (ok_ld (fun u86 => .agg #[vI a1.Lo, vI a1.Hi]) 96 107 0 2 (fun u86 => ((u1 1).n 0)) (fun u86 => [vI a1.Lo, vI a1.Hi]) 38) <|
   .cons [97] (ok_callv 123 (fun u86 => #[.agg #[vI a0.Lo, vI a0.Hi], .agg #[vI a1.Lo, vI a1.Hi]]) (.tuple #[vI t87.1, vI t87.2]) 97 [] (fun _ w _ => interval_hh.calls a0 a1 t87 w ht87)) <|
   .v 98 (vI t87.1) <|
   .v 99 (vI t87.2) <|
   .cons [100] (ok_callv 88 (fun u86 => #[vI t87.1, vI t87.2]) (.tuple #[vI t88.1, vI t88.2]) 100 [] (fun _ w _ => fixed_Mul.calls t87.1 t87.2 t88 w ht88)) <|
   .v 92 (.tuple #[vI t88.1, vI t88.2]) <|
   .v 101 (vI t88.1) <|
   .v 102 (vI t88.2) <|
   .v 18 (vI t88.1) <|
   .v 19 (vI t88.2) <| .nil) fun u86 a w' H => ?_
     replace H := H.toM [(4, (sP ((u1 2).n 0) 0)), (16, sI t85.1), (19, sI t88.2), (108, .blk ((u1 2).n 0) [vI 0, vI 0] 38), (999999, gk)]
     refine k_seq ?_
     replace G := bnd G; obtain ⟨t90, ht90, G⟩ := G
     refine k_rg mixed H (.v 103 (vI t85.1) <|
   .v 104 (vI t88.2) <|
   .cons [105] (ok_callv 89 (fun u89 => #[vI t85.1, vI t88.2]) (.agg #[vI t90.Lo, vI t90.Hi]) 105 [] (fun _ w _ => interval_New.calls t85.1 t88.2 t90 w ht90)) <|
   .cons [108] (ok_as (u' := fun u89 => [(108, .blk ((u1 2).n 0) [vI t90.Lo, vI t90.Hi] 38)]) (ok_store 108 0 (fun u89 => ((u1 2).n 0)) (fun u89 => [vI 0, vI 0]) (fun u89 => [vI t90.Lo, vI t90.Hi]) 38) (fun _ => by kernel_rfl)) <| .nil) fun u89 a w' H => ?_
     replace H := H.toM [(4, (sP ((u1 2).n 0) 0)), (108, .blk ((u1 2).n 0) [vI t90.Lo, vI t90.Hi] 38), (999999, gk)]
     refine k_ret ?_
     obtain rfl := Option.some.inj G
     exact k_done1 H _ 108 ((u1 2).n 0) [vI t90.Lo, vI t90.Hi] 38 0 2 (by kernel_rfl) (by kernel_rfl) (by kernel_rfl) (by kernel_rfl)
    rw [if_neg c101] at G
    by_cases c102 : t9 = 2
    ·rw [if_pos c102] at G; subst c102
     refine k_rg mixed H (.v 76 (vI 2) <|
   .v 77 (vI 2) <|
   .v 78 (vP 0 12) <|
   .v 79 (vP 0 16) <|
   .cons [80] (ok_ldK (fun u91 => .agg #[.func (.func 124) #[] #[], .func (.func 123) #[] #[]]) 80 999999 gk 0 16 2 gTab0 (fun w h => (glob_of h).tab0)) <|
   .cons [15, 117] (ok_new (fun b => vP b 0) (fun u91 => [.nilFunc, .nilFunc]) 118 15 117) <|
   .cons [117] (ok_as (u' := fun u91 => [(117, .blk ((u91 5).n 0) [.func (.func 124) #[] #[], .func (.func 123) #[] #[]] 118)]) (ok_store 117 0 (fun u91 => ((u91 5).n 0)) (fun u91 => [.nilFunc, .nilFunc]) (fun u91 => [.func (.func 124) #[] #[], .func (.func 123) #[] #[]]) 118) (fun _ => by kernel_rfl)) <| .nil) fun u91 a w' H => ?_
     replace H := H.toM [(2, (sP ((u1 0).n 0) 0)), (3, (sP ((u1 1).n 0) 0)), (4, (sP ((u1 2).n 0) 0)), (15, (sP ((u91 5).n 0) 0)), (106, .blk ((u1 0).n 0) [vI a0.Lo, vI a0.Hi] 38), (107, .blk ((u1 1).n 0) [vI a1.Lo, vI a1.Hi] 38), (108, .blk ((u1 2).n 0) [vI 0, vI 0] 38), (117, .blk ((u91 5).n 0) [.func (.func 124) #[] #[], .func (.func 123) #[] #[]] 118), (999999, gk)]
     refine k_seq ?_
     replace G := bnd G; obtain ⟨t93, ht93, G⟩ := G
     replace G := bnd G; obtain ⟨t94, ht94, G⟩ := G
     refine k_rg mixed H (.v 82 (vP ((u91 5).n 0) 0) <|
   .cons [83] (ok_ld (fun u92 => .func (.func 124) #[] #[]) 83 117 0 1 (fun u92 => ((u91 5).n 0)) (fun u92 => [.func (.func 124) #[] #[], .func (.func 123) #[] #[]]) 118) <|
   .cons [84] (ok_ld (fun u92 => .agg #[vI a0.Lo, vI a0.Hi]) 84 106 0 2 (fun u92 => ((u1 0).n 0)) (fun u92 => [vI a0.Lo, vI a0.Hi]) 38) <|
   .cons [85] (ok_ld (fun u92 => .agg #[vI a1.Lo, vI a1.Hi]) 85 107 0 2 (fun u92 => ((u1 1).n 0)) (fun u92 => [vI a1.Lo, vI a1.Hi]) 38) <|
   .cons [86] (ok_callv 124 (fun u92 => #[.agg #[vI a0.Lo, vI a0.Hi], .agg #[vI a1.Lo, vI a1.Hi]]) (.tuple #[vI t93.1, vI t93.2]) 86 [] (fun _ w _ => interval_ll.calls a0 a1 t93 w ht93)) <|
   .v 87 (vI t93.1) <|
   .v 88 (vI t93.2) <|
   .cons [89] (ok_callv 88 (fun u92 => #[vI t93.1, vI t93.2]) (.tuple #[vI t94.1, vI t94.2]) 89 [] (fun _ w _ => fixed_Mul.calls t93.1 t93.2 t94 w ht94)) <|
   .v 81 (.tuple #[vI t94.1, vI t94.2]) <|
   .v 90 (vI t94.1) <|
   .v 91 (vI t94.2) <|
   .v 16 (vI t94.1) <|
   .v 17 (vI t94.2) <| .nil) fun u92 a w' H => ?_
     replace H := H.toM [(2, (sP ((u1 0).n 0) 0)), (3, (sP ((u1 1).n 0) 0)), (4, (sP ((u1 2).n 0) 0)), (15, (sP ((u91 5).n 0) 0)), (16, sI t94.1), (106, .blk ((u1 0).n 0) [vI a0.Lo, vI a0.Hi] 38), (107, .blk ((u1 1).n 0) [vI a1.Lo, vI a1.Hi] 38), (108, .blk ((u1 2).n 0) [vI 0, vI 0] 38), (117, .blk ((u91 5).n 0) [.func (.func 124) #[] #[], .func (.func 123) #[] #[]] 118), (999999, gk)]
     refine k_seq ?_
     replace G := bnd G; obtain ⟨t96, ht96, G⟩ := G
     replace G := bnd G; obtain ⟨t97, ht97, G⟩ := G
     refine k_rg mixed H (.v 93 (vP ((u91 5).n 0) 1) <|
   .cons [94] (ok_ld (fun u95 => .func (.func 123) #[] #[]) 94 117 1 1 (fun u95 => ((u91 5).n 0)) (fun u95 => [.func (.func 124) #[] #[], .func (.func 123) #[] #[]]) 118) <|
   .cons [95] (ok_ld (fun u95 => .agg #[vI a0.Lo, vI a0.Hi]) 95 106 0 2 (fun u95 => ((u1 0).n 0)) (fun u95 => [vI a0.Lo, vI a0.Hi]) 38) <|
   .cons [96] (ok_ld (fun u95 => .agg #[vI a1.Lo, vI a1.Hi]) 96 107 0 2 (fun u95 => ((u1 1).n 0)) (fun u95 => [vI a1.Lo, vI a1.Hi]) 38) <|
   .cons [97] (ok_callv 123 (fun u95 => #[.agg #[vI a0.Lo, vI a0.Hi], .agg #[vI a1.Lo, vI a1.Hi]]) (.tuple #[vI t96.1, vI t96.2]) 97 [] (fun _ w _ => interval_hh.calls a0 a1 t96 w ht96)) <|
   .v 98 (vI t96.1) <|
   .v 99 (vI t96.2) <|
   .cons [100] (ok_callv 88 (fun u95 => #[vI t96.1, vI t96.2]) (.tuple #[vI t97.1, vI t97.2]) 100 [] (fun _ w _ => fixed_Mul.calls t96.1 t96.2 t97 w ht97)) <|
   .v 92 (.tuple #[vI t97.1, vI t97.2]) <|
   .v 101 (vI t97.1) <|
   .v 102 (vI t97.2) <|
   .v 18 (vI t97.1) <|
   .v 19 (vI t97.2) <| .nil) fun u95 a w' H => ?_
     replace H := H.toM [(4, (sP ((u1 2).n 0) 0)), (16, sI t94.1), (19, sI t97.2), (108, .blk ((u1 2).n 0) [vI 0, vI 0] 38), (999999, gk)]
     refine k_seq ?_
     replace G := bnd G; obtain ⟨t99, ht99, G⟩ := G
     refine k_rg mixed H (.v 103 (vI t94.1) <|
   .v 104 (vI t97.2) <|
   .cons [105] (ok_callv 89 (fun u98 => #[vI t94.1, vI t97.2]) (.agg #[vI t99.Lo, vI t99.Hi]) 105 [] (fun _ w _ => interval_New.calls t94.1 t97.2 t99 w ht99)) <|
   .cons [108] (ok_as (u' := fun u98 => [(108, .blk ((u1 2).n 0) [vI t99.Lo, vI t99.Hi] 38)]) (ok_store 108 0 (fun u98 => ((u1 2).n 0)) (fun u98 => [vI 0, vI 0]) (fun u98 => [vI t99.Lo, vI t99.Hi]) 38) (fun _ => by kernel_rfl)) <| .nil) fun u98 a w' H => ?_
     replace H := H.toM [(4, (sP ((u1 2).n 0) 0)), (108, .blk ((u1 2).n 0) [vI t99.Lo, vI t99.Hi] 38), (999999, gk)]
     refine k_ret ?_
     obtain rfl := Option.some.inj G
     exact k_done1 H _ 108 ((u1 2).n 0) [vI t99.Lo, vI t99.Hi] 38 0 2 (by kernel_rfl) (by kernel_rfl) (by kernel_rfl) (by kernel_rfl)
    rw [if_neg c102] at G
    cases G
   rw [if_neg c105] at G
   cases G

set_option maxHeartbeats 4000000 in
theorem interval_pick_int.calls (a0 : Bool) (a1 : Int) (a2 : Int) (r : Int) (w : World) (G : interval_pick_int a0 a1 a2 = some r) :
  Calls Tryd.prog 72 #[.bool a0, vI a1, vI a2] w fun e w' => e = .returned (vI r) ∧ Below w.heap.size w w' := by
 refine k_enter (args := [.bool a0, vI a1, vI a2]) 10 Tryd.func72 rfl (by kernel_rfl) (by kernel_rfl) fun a H => ?_
 unfold interval_pick_int at G
 refine k_seq ?_
 refine k_rg mixed H (.v 6 (vI 0) <| .nil) fun u1 a w' H => ?_
 replace H := H.toM [(0, sB a0), (1, sI a1), (2, sI a2)]
 refine k_seq ?_
 refine k_seq ?_
 refine k_rg mixed H (.v 7 (.bool a0) <| .nil) fun u2 a w' H => ?_
 replace H := H.toM [(1, sI a1), (2, sI a2), (7, sB a0)]
 refine k_cond H (by kernel_rfl) (t := a0) (by kernel_rfl) (fun c5 => ?_) (fun c5 => ?_)
 ·rw [if_pos c5] at G
  refine k_seq ?_
  refine k_rg mixed H (.v 8 (vI a1) <|
   .v 6 (vI a1) <| .nil) fun u3 a w' H => ?_
  replace H := H.toM [(6, sI a1)]
  refine k_ret ?_
  obtain rfl := Option.some.inj G
  exact k_done0 H _ (by kernel_rfl) (by kernel_rfl)
 ·rw [if_neg (nt c5)] at G
  refine k_skip ?_
  refine k_seq ?_
  refine k_rg mixed H (.v 9 (vI a2) <|
   .v 6 (vI a2) <| .nil) fun u4 a w' H => ?_
  replace H := H.toM [(6, sI a2)]
  refine k_ret ?_
  obtain rfl := Option.some.inj G
  exact k_done0 H _ (by kernel_rfl) (by kernel_rfl)

set_option maxHeartbeats 4000000 in
theorem interval_Contains.calls (a0 : TInterval) (a1 : Int) (r : Bool) (w : World) (G : interval_Contains a0 a1 = some r) :
  Calls Tryd.prog 100 #[.agg #[vI a0.Lo, vI a0.Hi], vI a1] w fun e w' => e = .returned (.bool r) ∧ Below w.heap.size w w' := by
 refine k_enter (args := [.agg #[vI a0.Lo, vI a0.Hi], vI a1]) 19 Tryd.func100 rfl (by kernel_rfl) (by kernel_rfl) fun a H => ?_
 unfold interval_Contains at G
 refine k_seq ?_
 refine k_rg mixed H (.cons [2, 19] (ok_new (fun b => vP b 0) (fun u1 => [vI a0.Lo, vI a0.Hi]) 38 2 19) <|
   .v 4 (.bool false) <| .nil) fun u1 a w' H => ?_
 replace H := H.toM [(1, sI a1), (2, (sP ((u1 0).n 0) 0)), (19, .blk ((u1 0).n 0) [vI a0.Lo, vI a0.Hi] 38)]
 refine k_seq ?_
 replace G := bnd G; obtain ⟨t3, ht3, G⟩ := G
 refine k_rg mixed H (.cons [5] (ok_ld (fun u2 => .agg #[vI a0.Lo, vI a0.Hi]) 5 19 0 2 (fun u2 => ((u1 0).n 0)) (fun u2 => [vI a0.Lo, vI a0.Hi]) 38) <|
   .cons [6] (ok_callv 86 (fun u2 => #[.agg #[vI a0.Lo, vI a0.Hi]]) (.bool t3) 6 [] (fun _ w _ => interval_IsEntire.calls a0 t3 w ht3)) <|
   .v 7 (.bool t3) <|
   .cons [8] (ok_valg (fun u2 => vP ((u1 0).n 0) 0) (fun u2 => (t3 == false)) [true] 8) <|
   .cons [9] (ok_ldg (fun u2 => vI a0.Lo) (fun u2 => (t3 == false)) [false] 9 19 0 1 (fun u2 => ((u1 0).n 0)) (fun u2 => [vI a0.Lo, vI a0.Hi]) 38) <|
   .cons [10] (ok_valg (fun u2 => vI a1) (fun u2 => (t3 == false)) [true] 10) <|
   .cons [11] (ok_valg (fun u2 => .bool (decide (a0.Lo ≤ a1))) (fun u2 => (t3 == false)) [false, false] 11) <|
   .cons [12] (ok_valg (fun u2 => .bool (decide (a0.Lo ≤ a1))) (fun u2 => (t3 == false)) [false] 12) <|
   .cons [13] (ok_valg (fun u2 => vI a1) (fun u2 => ((t3 == false) && ((decide (a0.Lo ≤ a1)) == true))) [true] 13) <|
   .cons [14] (ok_valg (fun u2 => vP ((u1 0).n 0) 1) (fun u2 => ((t3 == false) && ((decide (a0.Lo ≤ a1)) == true))) [true] 14) <|
   .cons [15] (ok_ldg (fun u2 => vI a0.Hi) (fun u2 => ((t3 == false) && ((decide (a0.Lo ≤ a1)) == true))) [false] 15 19 1 1 (fun u2 => ((u1 0).n 0)) (fun u2 => [vI a0.Lo, vI a0.Hi]) 38) <|
   .cons [16] (ok_valg (fun u2 => .bool (decide (a1 ≤ a0.Hi))) (fun u2 => ((t3 == false) && ((decide (a0.Lo ≤ a1)) == true))) [false, false] 16) <|
   .cons [17] (ok_and 12 16 (fun u2 => (t3 == false)) (fun u2 => (t3 == false)) (fun u2 => decide (a0.Lo ≤ a1)) (fun u2 => decide (a1 ≤ a0.Hi)) 17) <|
   .cons [18] (ok_or 7 17 (fun u2 => true) (fun u2 => true) (fun u2 => t3) (fun u2 => ((decide (a0.Lo ≤ a1)) && (decide (a1 ≤ a0.Hi)))) 18) <|
   .v 4 (.bool (t3 || ((decide (a0.Lo ≤ a1)) && (decide (a1 ≤ a0.Hi))))) <| .nil) fun u2 a w' H => ?_
 replace H := H.toM [(4, (sB (t3 || ((decide (a0.Lo ≤ a1)) && (decide (a1 ≤ a0.Hi))))))]
 refine k_ret ?_
 obtain rfl := Option.some.inj G
 exact k_done0 H _ (by kernel_rfl) (by kernel_rfl)

set_option maxHeartbeats 4000000 in
theorem fixed_Div.calls (a0 : Int) (a1 : Int) (r : Int × Int × Int) (w : World) (G : fixed_Div a0 a1 = some r) :
  Calls Tryd.prog 101 #[vI a0, vI a1] w fun e w' => e = .returned (.tuple #[vI r.1, vI r.2.1, vI r.2.2]) ∧ Below w.heap.size w w' := by
 refine k_enter (args := [vI a0, vI a1]) 20 Tryd.func101 rfl (by kernel_rfl) (by kernel_rfl) fun a H => ?_
 unfold fixed_Div at G
 refine k_seq ?_
 refine k_rg mixed H (.v 4 (vI 0) <|
   .v 5 (vI 0) <|
   .v 6 (vI 0) <| .nil) fun u1 a w' H => ?_
 replace H := H.toM [(0, sI a0), (1, sI a1)]
 refine k_seq ?_
 refine k_seq ?_
 refine k_rg mixed H (.v 9 (vI a1) <|
   .v 10 (.bool (a1 == 0)) <| .nil) fun u2 a w' H => ?_
 replace H := H.toM [(0, sI a0), (1, sI a1), (10, (sB (a1 == 0)))]
 refine k_cond H (by kernel_rfl) (t := (a1 == 0)) (by kernel_rfl) (fun c7 => ?_) (fun c7 => ?_)
 ·rw [if_pos c7] at G
  refine k_seq ?_
  refine k_rg mixed H (.v 4 (vI 0) <|
   .v 5 (vI 0) <|
   .v 6 (vI 3) <| .nil) fun u3 a w' H => ?_
  replace H := H.toM [(4, sI 0), (5, sI 0), (6, sI 3)]
  refine k_ret ?_
  obtain rfl := Option.some.inj G
  exact k_done0 H _ (by kernel_rfl) (by kernel_rfl)
 ·rw [if_neg (nt c7)] at G
  refine k_skip ?_
  refine k_seq ?_
  replace G := bnd G; obtain ⟨t5, ht5, G⟩ := G
  refine k_rg mixed H (.v 12 (vI a0) <|
   .v 13 (vI (w_i64 (a0 * 65536))) <|
   .v 14 (vI a1) <|
   .cons [15] (ok_callv 102 (fun u4 => #[vI (w_i64 (a0 * 65536)), vI a1]) (.tuple #[vI t5.1, vI t5.2]) 15 [] (fun _ w _ => fixed_divide.calls (w_i64 (a0 * 65536)) a1 t5 w ht5)) <|
   .v 11 (.tuple #[vI t5.1, vI t5.2]) <|
   .v 16 (vI t5.1) <|
   .v 17 (vI t5.2) <|
   .v 7 (vI t5.1) <|
   .v 8 (vI t5.2) <| .nil) fun u4 a w' H => ?_
  replace H := H.toM [(7, sI t5.1), (8, sI t5.2)]
  refine k_seq ?_
  refine k_rg mixed H (.v 18 (vI t5.1) <|
   .v 19 (vI t5.2) <|
   .v 4 (vI t5.1) <|
   .v 5 (vI t5.2) <|
   .v 6 (vI 0) <| .nil) fun u6 a w' H => ?_
  replace H := H.toM [(4, sI t5.1), (5, sI t5.2), (6, sI 0)]
  refine k_ret ?_
  obtain rfl := Option.some.inj G
  exact k_done0 H _ (by kernel_rfl) (by kernel_rfl)

set_option maxHeartbeats 4000000 in
theorem interval_Div.calls (a0 : TInterval) (a1 : TInterval) (r : TInterval) (w : World) (hg : Glob w) (G : interval_Div a0 a1 = some r) :
  Calls Tryd.prog 85 #[.agg #[vI a0.Lo, vI a0.Hi], .agg #[vI a1.Lo, vI a1.Hi]] w fun e w' => e = .returned (.agg #[vI r.Lo, vI r.Hi]) ∧ Below w.heap.size w w' := by
 refine k_enterG (args := [.agg #[vI a0.Lo, vI a0.Hi], .agg #[vI a1.Lo, vI a1.Hi]]) 59 999999 globFp Glob (glob_local hg) (glob_in hg) Tryd.func85 rfl (by kernel_rfl) (by kernel_rfl) fun a H => ?_
 unfold interval_Div at G
 refine k_seq ?_
 refine k_rg mixed H (.cons [2, 59] (ok_new (fun b => vP b 0) (fun u1 => [vI a0.Lo, vI a0.Hi]) 38 2 59) <|
   .cons [3, 60] (ok_new (fun b => vP b 0) (fun u1 => [vI a1.Lo, vI a1.Hi]) 38 3 60) <|
   .cons [4, 61] (ok_new (fun b => vP b 0) (fun u1 => [vI 0, vI 0]) 38 4 61) <| .nil) fun u1 a w' H => ?_
 replace H := H.toM [(2, (sP ((u1 0).n 0) 0)), (3, (sP ((u1 1).n 0) 0)), (4, (sP ((u1 2).n 0) 0)), (59, .blk ((u1 0).n 0) [vI a0.Lo, vI a0.Hi] 38), (60, .blk ((u1 1).n 0) [vI a1.Lo, vI a1.Hi] 38), (61, .blk ((u1 2).n 0) [vI 0, vI 0] 38), (999999, gk)]
 refine k_seq ?_
 refine k_seq ?_
 replace G := bnd G; obtain ⟨t3, ht3, G⟩ := G
 replace G := bnd G; obtain ⟨t4, ht4, G⟩ := G
 replace G := bnd G; obtain ⟨t5, ht5, G⟩ := G
 refine k_rg mixed H (.cons [12] (ok_ld (fun u2 => .agg #[vI a0.Lo, vI a0.Hi]) 12 59 0 2 (fun u2 => ((u1 0).n 0)) (fun u2 => [vI a0.Lo, vI a0.Hi]) 38) <|
   .cons [13] (ok_callv 86 (fun u2 => #[.agg #[vI a0.Lo, vI a0.Hi]]) (.bool t3) 13 [] (fun _ w _ => interval_IsEntire.calls a0 t3 w ht3)) <|
   .v 14 (.bool t3) <|
   .cons [15] (ok_ldg (fun u2 => .agg #[vI a1.Lo, vI a1.Hi]) (fun u2 => (t3 == false)) [true] 15 60 0 2 (fun u2 => ((u1 1).n 0)) (fun u2 => [vI a1.Lo, vI a1.Hi]) 38) <|
   .cons [16] (ok_call 86 (fun u2 => #[.agg #[vI a1.Lo, vI a1.Hi]]) (.bool t4) (fun u2 => (t3 == false)) [true, false] 16 [] (fun _ w hg _ => interval_IsEntire.calls a1 t4 w (ifp ht4 hg))) <|
   .cons [17] (ok_or 14 16 (fun u2 => true) (fun u2 => true) (fun u2 => t3) (fun u2 => t4) 17) <|
   .v 18 (.bool (t3 || t4)) <|
   .cons [19] (ok_ldg (fun u2 => .agg #[vI a1.Lo, vI a1.Hi]) (fun u2 => ((t3 || t4) == false)) [true] 19 60 0 2 (fun u2 => ((u1 1).n 0)) (fun u2 => [vI a1.Lo, vI a1.Hi]) 38) <|
   .cons [20] (ok_call 100 (fun u2 => #[.agg #[vI a1.Lo, vI a1.Hi], vI 0]) (.bool t5) (fun u2 => ((t3 || t4) == false)) [true, false, true] 20 [] (fun _ w hg _ => interval_Contains.calls a1 0 t5 w (ifp ht5 hg))) <|
   .cons [21] (ok_or 18 20 (fun u2 => true) (fun u2 => true) (fun u2 => (t3 || t4)) (fun u2 => t5) 21) <| .nil) fun u2 a w' H => ?_
 replace H := H.toM [(2, (sP ((u1 0).n 0) 0)), (3, (sP ((u1 1).n 0) 0)), (4, (sP ((u1 2).n 0) 0)), (21, (sB ((t3 || t4) || t5))), (59, .blk ((u1 0).n 0) [vI a0.Lo, vI a0.Hi] 38), (60, .blk ((u1 1).n 0) [vI a1.Lo, vI a1.Hi] 38), (61, .blk ((u1 2).n 0) [vI 0, vI 0] 38), (999999, gk)]
 refine k_cond H (by kernel_rfl) (t := ((t3 || t4) || t5)) (by kernel_rfl) (fun c24 => ?_) (fun c24 => ?_)
 ·rw [if_pos c24] at G
  refine k_seq ?_
  replace G := bnd G; obtain ⟨t7, ht7, G⟩ := G
  refine k_rg mixed H (.cons [22] (ok_callv 61 (fun u6 => #[]) (.agg #[vI t7.Lo, vI t7.Hi]) 22 [] (fun _ w _ => interval_Entire.calls  t7 w ht7)) <|
   .cons [61] (ok_as (u' := fun u6 => [(61, .blk ((u1 2).n 0) [vI t7.Lo, vI t7.Hi] 38)]) (ok_store 61 0 (fun u6 => ((u1 2).n 0)) (fun u6 => [vI 0, vI 0]) (fun u6 => [vI t7.Lo, vI t7.Hi]) 38) (fun _ => by kernel_rfl)) <| .nil) fun u6 a w' H => ?_
  replace H := H.toM [(4, (sP ((u1 2).n 0) 0)), (61, .blk ((u1 2).n 0) [vI t7.Lo, vI t7.Hi] 38), (999999, gk)]
  refine k_ret ?_
  obtain rfl := Option.some.inj G
  exact k_done1 H _ 61 ((u1 2).n 0) [vI t7.Lo, vI t7.Hi] 38 0 2 (by kernel_rfl) (by kernel_rfl) (by kernel_rfl) (by kernel_rfl)
 ·rw [if_neg (nt c24)] at G
  refine k_skip ?_
  refine k_seq ?_
  replace G := bnd G; obtain ⟨t9, ht9, G⟩ := G
  by_cases c21 : t9 = 0
  ·rw [if_pos c21] at G; subst c21
   replace G := bnd G; obtain ⟨t10, ht10, G⟩ := G
   by_cases c19 : t10 = 0
   ·rw [if_pos c19] at G; subst c19
    refine k_rg mixed H (.cons [23] (ok_ld (fun u8 => .agg #[vI a0.Lo, vI a0.Hi]) 23 59 0 2 (fun u8 => ((u1 0).n 0)) (fun u8 => [vI a0.Lo, vI a0.Hi]) 38) <|
   .cons [24] (ok_callv 99 (fun u8 => #[.agg #[vI a0.Lo, vI a0.Hi]]) (vI 0) 24 [] (fun _ w _ => interval_side.calls a0 0 w ht9)) <|
   .v 25 (vP ((u1 1).n 0) 0) <|
   .cons [26] (ok_ld (fun u8 => vI a1.Lo) 26 60 0 1 (fun u8 => ((u1 1).n 0)) (fun u8 => [vI a1.Lo, vI a1.Hi]) 38) <|
   .v 27 (.bool (decide (a1.Lo > 0))) <|
   .cons [28] (ok_callv 72 (fun u8 => #[.bool (decide (a1.Lo > 0)), vI 1, vI 0]) (vI 0) 28 [] (fun _ w _ => interval_pick_int.calls (decide (a1.Lo > 0)) 1 0 0 w ht10)) <|
   .v 29 (vP 1 0) <|
   .v 30 (vP 1 0) <|
   .cons [31] (ok_ldK (fun u8 => .agg #[.func (.func 126) #[] #[], .func (.func 125) #[] #[]]) 31 999999 gk 1 0 2 gTab1 (fun w h => (glob_of h).tab1)) <|
   .cons [5, 62] (ok_new (fun b => vP b 0) (fun u8 => [.nilFunc, .nilFunc]) 118 5 62) <|
   .cons [62] (ok_as (u' := fun u8 => [(62, .blk ((u8 9).n 0) [.func (.func 126) #[] #[], .func (.func 125) #[] #[]] 118)]) (ok_store 62 0 (fun u8 => ((u8 9).n 0)) (fun u8 => [.nilFunc, .nilFunc]) (fun u8 => [.func (.func 126) #[] #[], .func (.func 125) #[] #[]]) 118) (fun _ => by kernel_rfl)) <| .nil) fun u8 a w' H => ?_
    replace H := H.toM [(2, (sP ((u1 0).n 0) 0)), (3, (sP ((u1 1).n 0) 0)), (4, (sP ((u1 2).n 0) 0)), (5, (sP ((u8 9).n 0) 0)), (59, .blk ((u1 0).n 0) [vI a0.Lo, vI a0.Hi] 38), (60, .blk ((u1 1).n 0) [vI a1.Lo, vI a1.Hi] 38), (61, .blk ((u1 2).n 0) [vI 0, vI 0] 38), (62, .blk ((u8 9).n 0) [.func (.func 126) #[] #[], .func (.func 125) #[] #[]] 118), (999999, gk)]
    refine k_seq ?_
    replace G := bnd G; obtain ⟨t12, ht12, G⟩ := G
    replace G := bnd G; obtain ⟨t13, ht13, G⟩ := G
    refine k_rg mixed H (.v 33 (vP ((u8 9).n 0) 0) <|
   .cons [34] (ok_ld (fun u11 => .func (.func 126) #[] #[]) 34 62 0 1 (fun u11 => ((u8 9).n 0)) (fun u11 => [.func (.func 126) #[] #[], .func (.func 125) #[] #[]]) 118) <|
   .cons [35] (ok_ld (fun u11 => .agg #[vI a0.Lo, vI a0.Hi]) 35 59 0 2 (fun u11 => ((u1 0).n 0)) (fun u11 => [vI a0.Lo, vI a0.Hi]) 38) <|
   .cons [36] (ok_ld (fun u11 => .agg #[vI a1.Lo, vI a1.Hi]) 36 60 0 2 (fun u11 => ((u1 1).n 0)) (fun u11 => [vI a1.Lo, vI a1.Hi]) 38) <|
   .cons [37] (ok_callv 126 (fun u11 => #[.agg #[vI a0.Lo, vI a0.Hi], .agg #[vI a1.Lo, vI a1.Hi]]) (.tuple #[vI t12.1, vI t12.2]) 37 [] (fun _ w _ => interval_hl.calls a0 a1 t12 w ht12)) <|
   .v 38 (vI t12.1) <|
   .v 39 (vI t12.2) <|
   .cons [40] (ok_callv 101 (fun u11 => #[vI t12.1, vI t12.2]) (.tuple #[vI t13.1, vI t13.2.1, vI t13.2.2]) 40 [] (fun _ w _ => fixed_Div.calls t12.1 t12.2 t13 w ht13)) <|
   .v 32 (.tuple #[vI t13.1, vI t13.2.1, vI t13.2.2]) <|
   .v 41 (vI t13.1) <|
   .v 42 (vI t13.2.1) <|
   .v 43 (vI t13.2.2) <|
   .v 6 (vI t13.1) <|
   .v 7 (vI t13.2.1) <|
   .v 8 (vI t13.2.2) <| .nil) fun u11 a w' H => ?_
    replace H := H.toM [(2, (sP ((u1 0).n 0) 0)), (3, (sP ((u1 1).n 0) 0)), (4, (sP ((u1 2).n 0) 0)), (5, (sP ((u8 9).n 0) 0)), (6, sI t13.1), (59, .blk ((u1 0).n 0) [vI a0.Lo, vI a0.Hi] 38), (60, .blk ((u1 1).n 0) [vI a1.Lo, vI a1.Hi] 38), (61, .blk ((u1 2).n 0) [vI 0, vI 0] 38), (62, .blk ((u8 9).n 0) [.func (.func 126) #[] #[], .func (.func 125) #[] #[]] 118), (999999, gk)]
    refine k_seq ?_
    replace G := bnd G; obtain ⟨t15, ht15, G⟩ := G
    replace G := bnd G; obtain ⟨t16, ht16, G⟩ := G
    refine k_rg mixed H (.v 45 (vP ((u8 9).n 0) 1) <|
   .cons [46] (ok_ld (fun u14 => .func (.func 125) #[] #[]) 46 62 1 1 (fun u14 => ((u8 9).n 0)) (fun u14 => [.func (.func 126) #[] #[], .func (.func 125) #[] #[]]) 118) <|
   .cons [47] (ok_ld (fun u14 => .agg #[vI a0.Lo, vI a0.Hi]) 47 59 0 2 (fun u14 => ((u1 0).n 0)) (fun u14 => [vI a0.Lo, vI a0.Hi]) 38) <|
   .cons [48] (ok_ld (fun u14 => .agg #[vI a1.Lo, vI a1.Hi]) 48 60 0 2 (fun u14 => ((u1 1).n 0)) (fun u14 => [vI a1.Lo, vI a1.Hi]) 38) <|
   .cons [49] (ok_callv 125 (fun u14 => #[.agg #[vI a0.Lo, vI a0.Hi], .agg #[vI a1.Lo, vI a1.Hi]]) (.tuple #[vI t15.1, vI t15.2]) 49 [] (fun _ w _ => interval_lh.calls a0 a1 t15 w ht15)) <|
   .v 50 (vI t15.1) <|
   .v 51 (vI t15.2) <|
   .cons [52] (ok_callv 101 (fun u14 => #[vI t15.1, vI t15.2]) (.tuple #[vI t16.1, vI t16.2.1, vI t16.2.2]) 52 [] (fun _ w _ => fixed_Div.calls t15.1 t15.2 t16 w ht16)) <|
   .v 44 (.tuple #[vI t16.1, vI t16.2.1, vI t16.2.2]) <|
   .v 53 (vI t16.1) <|
   .v 54 (vI t16.2.1) <|
   .v 55 (vI t16.2.2) <|
   .v 9 (vI t16.1) <|
   .v 10 (vI t16.2.1) <|
   .v 11 (vI t16.2.2) <| .nil) fun u14 a w' H => ?_
    replace H := H.toM [(4, (sP ((u1 2).n 0) 0)), (6, sI t13.1), (10, sI t16.2.1), (61, .blk ((u1 2).n 0) [vI 0, vI 0] 38), (999999, gk)]
    refine k_seq ?_
    replace G := bnd G; obtain ⟨t18, ht18, G⟩ := G
    refine k_rg mixed H (.v 56 (vI t13.1) <|
   .v 57 (vI t16.2.1) <|
   .cons [58] (ok_callv 89 (fun u17 => #[vI t13.1, vI t16.2.1]) (.agg #[vI t18.Lo, vI t18.Hi]) 58 [] (fun _ w _ => interval_New.calls t13.1 t16.2.1 t18 w ht18)) <|
   .cons [61] (ok_as (u' := fun u17 => [(61, .blk ((u1 2).n 0) [vI t18.Lo, vI t18.Hi] 38)]) (ok_store 61 0 (fun u17 => ((u1 2).n 0)) (fun u17 => [vI 0, vI 0]) (fun u17 => [vI t18.Lo, vI t18.Hi]) 38) (fun _ => by kernel_rfl)) <| .nil) fun u17 a w' H => ?_
    replace H := H.toM [(4, (sP ((u1 2).n 0) 0)), (61, .blk ((u1 2).n 0) [vI t18.Lo, vI t18.Hi] 38), (999999, gk)]
    refine k_ret ?_
    obtain rfl := Option.some.inj G
    exact k_done1 H _ 61 ((u1 2).n 0) [vI t18.Lo, vI t18.Hi] 38 0 2 (by kernel_rfl) (by kernel_rfl) (by kernel_rfl) (by kernel_rfl)
   rw [if_neg c19] at G
   by_cases c20 : t10 = 1
   ·rw [if_pos c20] at G; subst c20
    refine k_rg mixed H (.cons [23] (ok_ld (fun u8 => .agg #[vI a0.Lo, vI a0.Hi]) 23 59 0 2 (fun u8 => ((u1 0).n 0)) (fun u8 => [vI a0.Lo, vI a0.Hi]) 38) <|
   .cons [24] (ok_callv 99 (fun u8 => #[.agg #[vI a0.Lo, vI a0.Hi]]) (vI 0) 24 [] (fun _ w _ => interval_side.calls a0 0 w ht9)) <|
   .v 25 (vP ((u1 1).n 0) 0) <|
   .cons [26] (ok_ld (fun u8 => vI a1.Lo) 26 60 0 1 (fun u8 => ((u1 1).n 0)) (fun u8 => [vI a1.Lo, vI a1.Hi]) 38) <|
   .v 27 (.bool (decide (a1.Lo > 0))) <|
   .cons [28] (ok_callv 72 (fun u8 => #[.bool (decide (a1.Lo > 0)), vI 1, vI 0]) (vI 1) 28 [] (fun _ w _ => interval_pick_int.calls (decide (a1.Lo > 0)) 1 0 1 w ht10)) <|
   .v 29 (vP 1 0) <|
   .v 30 (vP 1 2) <|
   .cons [31] (ok_ldK (fun u8 => .agg #[.func (.func 124) #[] #[], .func (.func 123) #[] #[]]) 31 999999 gk 1 2 2 gTab1 (fun w h => (glob_of h).tab1)) <|
   .cons [5, 62] (ok_new (fun b => vP b 0) (fun u8 => [.nilFunc, .nilFunc]) 118 5 62) <|
   .cons [62] (ok_as (u' := fun u8 => [(62, .blk ((u8 9).n 0) [.func (.func 124) #[] #[], .func (.func 123) #[] #[]] 118)]) (ok_store 62 0 (fun u8 => ((u8 9).n 0)) (fun u8 => [.nilFunc, .nilFunc]) (fun u8 => [.func (.func 124) #[] #[], .func (.func 123) #[] #[]]) 118) (fun _ => by kernel_rfl)) <| .nil) fun u8 a w' H => ?_
    replace H := H.toM [(2, (sP ((u1 0).n 0) 0)), (3, (sP ((u1 1).n 0) 0)), (4, (sP ((u1 2).n 0) 0)), (5, (sP ((u8 9).n 0) 0)), (59, .blk ((u1 0).n 0) [vI a0.Lo, vI a0.Hi] 38), (60, .blk ((u1 1).n 0) [vI a1.Lo, vI a1.Hi] 38), (61, .blk ((u1 2).n 0) [vI 0, vI 0] 38), (62, .blk ((u8 9).n 0) [.func (.func 124) #[] #[], .func (.func 123) #[] #[]] 118), (999999, gk)]
    refine k_seq ?_
    replace G := bnd G; obtain ⟨t12, ht12, G⟩ := G
    replace G := bnd G; obtain ⟨t13, ht13, G⟩ := G
    refine k_rg mixed H (.v 33 (vP ((u8 9).n 0) 0) <|
   .cons [34] (ok_ld (fun u11 => .func (.func 124) #[] #[]) 34 62 0 1 (fun u11 => ((u8 9).n 0)) (fun u11 => [.func (.func 124) #[] #[], .func (.func 123) #[] #[]]) 118) <|
   .cons [35] (ok_ld (fun u11 => .agg #[vI a0.Lo, vI a0.Hi]) 35 59 0 2 (fun u11 => ((u1 0).n 0)) (fun u11 => [vI a0.Lo, vI a0.Hi]) 38) <|
   .cons [36] (ok_ld (fun u11 => .agg #[vI a1.Lo, vI a1.Hi]) 36 60 0 2 (fun u11 => ((u1 1).n 0)) (fun u11 => [vI a1.Lo, vI a1.Hi]) 38) <|
   .cons [37] (ok_callv 124 (fun u11 => #[.agg #[vI a0.Lo, vI a0.Hi], .agg #[vI a1.Lo, vI a1.Hi]]) (.tuple #[vI t12.1, vI t12.2]) 37 [] (fun _ w _ => interval_ll.calls a0 a1 t12 w ht12)) <|
   .v 38 (vI t12.1) <|
   .v 39 (vI t12.2) <|
   .cons [40] (ok_callv 101 (fun u11 => #[vI t12.1, vI t12.2]) (.tuple #[vI t13.1, vI t13.2.1, vI t13.2.2]) 40 [] (fun _ w _ => fixed_Div.calls t12.1 t12.2 t13 w ht13)) <|
   .v 32 (.tuple #[vI t13.1, vI t13.2.1, vI t13.2.2]) <|
   .v 41 (vI t13.1) <|
   .v 42 (vI t13.2.1) <|
   .v 43 (vI t13.2.2) <|
   .v 6 (vI t13.1) <|
   .v 7 (vI t13.2.1) <|
   .v 8 (vI t13.2.2) <| .nil) fun u11 a w' H => ?_
    replace H := H.toM [(2, (sP ((u1 0).n 0) 0)), (3, (sP ((u1 1).n 0) 0)), (4, (sP ((u1 2).n 0) 0)), (5, (sP ((u8 9).n 0) 0)), (6, sI t13.1), (59, .blk ((u1 0).n 0) [vI a0.Lo, vI a0.Hi] 38), (60, .blk ((u1 1).n 0) [vI a1.Lo, vI a1.Hi] 38), (61, .blk ((u1 2).n 0) [vI 0, vI 0] 38), (62, .blk ((u8 9).n 0) [.func (.func 124) #[] #[], .func (.func 123) #[] #[]] 118), (999999, gk)]
    refine k_seq ?_
    replace G := bnd G; obtain ⟨t15, ht15, G⟩ := G
    replace G := bnd G; obtain ⟨t16, ht16, G⟩ := G
    refine k_rg mixed H (.v 45 (vP ((u8 9).n 0) 1) <|
   .cons [46] (ok_ld (fun u14 => .func (.func 123) #[] #[]) 46 62 1 1 (fun u14 => ((u8 9).n 0)) (fun u14 => [.func (.func 124) #[] #[], .func (.func 123) #[] #[]]) 118) <|
   .cons [47] (ok_ld (fun u14 => .agg #[vI a0.Lo, vI a0.Hi]) 47 59 0 2 (fun u14 => ((u1 0).n 0)) (fun u14 => [vI a0.Lo, vI a0.Hi]) 38) <|
   .cons [48] (ok_ld (fun u14 => .agg #[vI a1.Lo, vI a1.Hi]) 48 60 0 2 (fun u14 => ((u1 1).n 0)) (fun u14 => [vI a1.Lo, vI a1.Hi]) 38) <|
   .cons [49] (ok_callv 123 (fun u14 => #[.agg #[vI a0.Lo, vI a0.Hi], .agg #[vI a1.Lo, vI a1.Hi]]) (.tuple #[vI t15.1, vI t15.2]) 49 [] (fun _ w _ => interval_hh.calls a0 a1 t15 w ht15)) <|
   .v 50 (vI t15.1) <|
   .v 51 (vI t15.2) <|
   .cons [52] (ok_callv 101 (fun u14 => #[vI t15.1, vI t15.2]) (.tuple #[vI t16.1, vI t16.2.1, vI t16.2.2]) 52 [] (fun _ w _ => fixed_Div.calls t15.1 t15.2 t16 w ht16)) <|
   .v 44 (.tuple #[vI t16.1, vI t16.2.1, vI t16.2.2]) <|
   .v 53 (vI t16.1) <|
   .v 54 (vI t16.2.1) <|
   .v 55 (vI t16.2.2) <|
   .v 9 (vI t16.1) <|
   .v 10 (vI t16.2.1) <|
   .v 11 (vI t16.2.2) <| .nil) fun u14 a w' H => ?_
    replace H := H.toM [(4, (sP ((u1 2).n 0) 0)), (6, sI t13.1), (10, sI t16.2.1), (61, .blk ((u1 2).n 0) [vI 0, vI 0] 38), (999999, gk)]
    refine k_seq ?_
    replace G := bnd G; obtain ⟨t18, ht18, G⟩ := G
    refine k_rg mixed H (.v 56 (vI t13.1) <|
   .v 57 (vI t16.2.1) <|
   .cons [58] (ok_callv 89 (fun u17 => #[vI t13.1, vI t16.2.1]) (.agg #[vI t18.Lo, vI t18.Hi]) 58 [] (fun _ w _ => interval_New.calls t13.1 t16.2.1 t18 w ht18)) <|
   .cons [61] (ok_as (u' := fun u17 => [(61, .blk ((u1 2).n 0) [vI t18.Lo, vI t18.Hi] 38)]) (ok_store 61 0 (fun u17 => ((u1 2).n 0)) (fun u17 => [vI 0, vI 0]) (fun u17 => [vI t18.Lo, vI t18.Hi]) 38) (fun _ => by kernel_rfl)) <| .nil) fun u17 a w' H => ?_
    replace H := H.toM [(4, (sP ((u1 2).n 0) 0)), (61, .blk ((u1 2).n 0) [vI t18.Lo, vI t18.Hi] 38), (999999, gk)]
    refine k_ret ?_
    obtain rfl := Option.some.inj G
    exact k_done1 H _ 61 ((u1 2).n 0) [vI t18.Lo, vI t18.Hi] 38 0 2 (by kernel_rfl) (by kernel_rfl) (by kernel_rfl) (by kernel_rfl)
   rw [if_neg c20] at G
   cases G
  rw [if_neg c21] at G
  by_cases c22 : t9 = 1
  ·rw [if_pos c22] at G; subst c22
   replace G := bnd G; obtain ⟨t10, ht10, G⟩ := G
   by_cases c19 : t10 = 0
   ·rw [if_pos c19] at G; subst c19
    refine k_rg mixed H (.cons [23] (ok_ld (fun u8 => .agg #[vI a0.Lo, vI a0.Hi]) 23 59 0 2 (fun u8 => ((u1 0).n 0)) (fun u8 => [vI a0.Lo, vI a0.Hi]) 38) <|
   .cons [24] (ok_callv 99 (fun u8 => #[.agg #[vI a0.Lo, vI a0.Hi]]) (vI 1) 24 [] (fun _ w _ => interval_side.calls a0 1 w ht9)) <|
   .v 25 (vP ((u1 1).n 0) 0) <|
   .cons [26] (ok_ld (fun u8 => vI a1.Lo) 26 60 0 1 (fun u8 => ((u1 1).n 0)) (fun u8 => [vI a1.Lo, vI a1.Hi]) 38) <|
   .v 27 (.bool (decide (a1.Lo > 0))) <|
   .cons [28] (ok_callv 72 (fun u8 => #[.bool (decide (a1.Lo > 0)), vI 1, vI 0]) (vI 0) 28 [] (fun _ w _ => interval_pick_int.calls (decide (a1.Lo > 0)) 1 0 0 w ht10)) <|
   .v 29 (vP 1 4) <|
   .v 30 (vP 1 4) <|
   .cons [31] (ok_ldK (fun u8 => .agg #[.func (.func 123) #[] #[], .func (.func 125) #[] #[]]) 31 999999 gk 1 4 2 gTab1 (fun w h => (glob_of h).tab1)) <|
   .cons [5, 62] (ok_new (fun b => vP b 0) (fun u8 => [.nilFunc, .nilFunc]) 118 5 62) <|
   .cons [62] (ok_as (u' := fun u8 => [(62, .blk ((u8 9).n 0) [.func (.func 123) #[] #[], .func (.func 125) #[] #[]] 118)]) (ok_store 62 0 (fun u8 => ((u8 9).n 0)) (fun u8 => [.nilFunc, .nilFunc]) (fun u8 => [.func (.func 123) #[] #[], .func (.func 125) #[] #[]]) 118) (fun _ => by kernel_rfl)) <| .nil) fun u8 a w' H => ?_
    replace H := H.toM [(2, (sP ((u1 0).n 0) 0)), (3, (sP ((u1 1).n 0) 0)), (4, (sP ((u1 2).n 0) 0)), (5, (sP ((u8 9).n 0) 0)), (59, .blk ((u1 0).n 0) [vI a0.Lo, vI a0.Hi] 38), (60, .blk ((u1 1).n 0) [vI a1.Lo, vI a1.Hi] 38), (61, .blk ((u1 2).n 0) [vI 0, vI 0] 38), (62, .blk ((u8 9).n 0) [.func (.func 123) #[] #[], .func (.func 125) #[] #[]] 118), (999999, gk)]
    refine k_seq ?_
    replace G := bnd G; obtain ⟨t12, ht12, G⟩ := G
    replace G := bnd G; obtain ⟨t13, ht13, G⟩ := G
    refine k_rg mixed H (.v 33 (vP ((u8 9).n 0) 0) <|
   .cons [34] (ok_ld (fun u11 => .func (.func 123) #[] #[]) 34 62 0 1 (fun u11 => ((u8 9).n 0)) (fun u11 => [.func (.func 123) #[] #[], .func (.func 125) #[] #[]]) 118) <|
   .cons [35] (ok_ld (fun u11 => .agg #[vI a0.Lo, vI a0.Hi]) 35 59 0 2 (fun u11 => ((u1 0).n 0)) (fun u11 => [vI a0.Lo, vI a0.Hi]) 38) <|
   .cons [36] (ok_ld (fun u11 => .agg #[vI a1.Lo, vI a1.Hi]) 36 60 0 2 (fun u11 => ((u1 1).n 0)) (fun u11 => [vI a1.Lo, vI a1.Hi]) 38) <|
   .cons [37] (ok_callv 123 (fun u11 => #[.agg #[vI a0.Lo, vI a0.Hi], .agg #[vI a1.Lo, vI a1.Hi]]) (.tuple #[vI t12.1, vI t12.2]) 37 [] (fun _ w _ => interval_hh.calls a0 a1 t12 w ht12)) <|
   .v 38 (vI t12.1) <|
   .v 39 (vI t12.2) <|
   .cons [40] (ok_callv 101 (fun u11 => #[vI t12.1, vI t12.2]) (.tuple #[vI t13.1, vI t13.2.1, vI t13.2.2]) 40 [] (fun _ w _ => fixed_Div.calls t12.1 t12.2 t13 w ht13)) <|
   .v 32 (.tuple #[vI t13.1, vI t13.2.1, vI t13.2.2]) <|
   .v 41 (vI t13.1) <|
   .v 42 (vI t13.2.1) <|
   .v 43 (vI t13.2.2) <|
   .v 6 (vI t13.1) <|
   .v 7 (vI t13.2.1) <|
   .v 8 (vI t13.2.2) <| .nil) fun u11 a w' H => ?_
    replace H := H.toM [(2, (sP ((u1 0).n 0) 0)), (3, (sP ((u1 1).n 0) 0)), (4, (sP ((u1 2).n 0) 0)), (5, (sP ((u8 9).n 0) 0)), (6, sI t13.1), (59, .blk ((u1 0).n 0) [vI a0.Lo, vI a0.Hi] 38), (60, .blk ((u1 1).n 0) [vI a1.Lo, vI a1.Hi] 38), (61, .blk ((u1 2).n 0) [vI 0, vI 0] 38), (62, .blk ((u8 9).n 0) [.func (.func 123) #[] #[], .func (.func 125) #[] #[]] 118), (999999, gk)]
    refine k_seq ?_
    replace G := bnd G; obtain ⟨t15, ht15, G⟩ := G
    replace G := bnd G; obtain ⟨t16, ht16, G⟩ := G
    refine k_rg mixed H (.v 45 (vP ((u8 9).n 0) 1) <|
   .cons [46] (ok_ld (fun u14 => .func (.func 125) #[] #[]) 46 62 1 1 (fun u14 => ((u8 9).n 0)) (fun u14 => [.func (.func 123) #[] #[], .func (.func 125) #[] #[]]) 118) <|
   .cons [47] (ok_ld (fun u14 => .agg #[vI a0.Lo, vI a0.Hi]) 47 59 0 2 (fun u14 => ((u1 0).n 0)) (fun u14 => [vI a0.Lo, vI a0.Hi]) 38) <|
   .cons [48] (ok_ld (fun u14 => .agg #[vI a1.Lo, vI a1.Hi]) 48 60 0 2 (fun u14 => ((u1 1).n 0)) (fun u14 => [vI a1.Lo, vI a1.Hi]) 38) <|
   .cons [49] (ok_callv 125 (fun u14 => #[.agg #[vI a0.Lo, vI a0.Hi], .agg #[vI a1.Lo, vI a1.Hi]]) (.tuple #[vI t15.1, vI t15.2]) 49 [] (fun _ w _ => interval_lh.calls a0 a1 t15 w ht15)) <|
   .v 50 (vI t15.1) <|
   .v 51 (vI t15.2) <|
   .cons [52] (ok_callv 101 (fun u14 => #[vI t15.1, vI t15.2]) (.tuple #[vI t16.1, vI t16.2.1, vI t16.2.2]) 52 [] (fun _ w _ => fixed_Div.calls t15.1 t15.2 t16 w ht16)) <|
   .v 44 (.tuple #[vI t16.1, vI t16.2.1, vI t16.2.2]) <|
   .v 53 (vI t16.1) <|
   .v 54 (vI t16.2.1) <|
   .v 55 (vI t16.2.2) <|
   .v 9 (vI t16.1) <|
   .v 10 (vI t16.2.1) <|
   .v 11 (vI t16.2.2) <| .nil) fun u14 a w' H => ?_
    replace H := H.toM [(4, (sP ((u1 2).n 0) 0)), (6, sI t13.1), (10, sI t16.2.1), (61, .blk ((u1 2).n 0) [vI 0, vI 0] 38), (999999, gk)]
    refine k_seq ?_
    replace G := bnd G; obtain ⟨t18, ht18, G⟩ := G
    refine k_rg mixed H (.v 56 (vI t13.1) <|
   .v 57 (vI t16.2.1) <|
   .cons [58] (ok_callv 89 (fun u17 => #[vI t13.1, vI t16.2.1]) (.agg #[vI t18.Lo, vI t18.Hi]) 58 [] (fun _ w _ => interval_New.calls t13.1 t16.2.1 t18 w ht18)) <|
   .cons [61] (ok_as (u' := fun u17 => [(61, .blk ((u1 2).n 0) [vI t18.Lo, vI t18.Hi] 38)]) (ok_store 61 0 (fun u17 => ((u1 2).n 0)) (fun u17 => [vI 0, vI 0]) (fun u17 => [vI t18.Lo, vI t18.Hi]) 38) (fun _ => by kernel_rfl)) <| .nil) fun u17 a w' H => ?_
    replace H := H.toM [(4, (sP ((u1 2).n 0) 0)), (61, .blk ((u1 2).n 0) [vI t18.Lo, vI t18.Hi] 38), (999999, gk)]
    refine k_ret ?_
    obtain rfl := Option.some.inj G
    exact k_done1 H _ 61 ((u1 2).n 0) [vI t18.Lo, vI t18.Hi] 38 0 2 (by kernel_rfl) (by kernel_rfl) (by kernel_rfl) (by kernel_rfl)
   rw [if_neg c19] at G
   by_cases c20 : t10 = 1
   ·rw [if_pos c20] at G; subst c20
    refine k_rg mixed H (.cons [23] (ok_ld (fun u8 => .agg #[vI a0.Lo, vI a0.Hi]) 23 59 0 2 (fun u8 => ((u1 0).n 0)) (fun u8 => [vI a0.Lo, vI a0.Hi]) 38) <|
   .cons [24] (ok_callv 99 (fun u8 => #[.agg #[vI a0.Lo, vI a0.Hi]]) (vI 1) 24 [] (fun _ w _ => interval_side.calls a0 1 w ht9)) <|
   .v 25 (vP ((u1 1).n 0) 0) <|
   .cons [26] (ok_ld (fun u8 => vI a1.Lo) 26 60 0 1 (fun u8 => ((u1 1).n 0)) (fun u8 => [vI a1.Lo, vI a1.Hi]) 38) <|
   .v 27 (.bool (decide (a1.Lo > 0))) <|
   .cons [28] (ok_callv 72 (fun u8 => #[.bool (decide (a1.Lo > 0)), vI 1, vI 0]) (vI 1) 28 [] (fun _ w _ => interval_pick_int.calls (decide (a1.Lo > 0)) 1 0 1 w ht10)) <|
   .v 29 (vP 1 4) <|
   .v 30 (vP 1 6) <|
   .cons [31] (ok_ldK (fun u8 => .agg #[.func (.func 124) #[] #[], .func (.func 126) #[] #[]]) 31 999999 gk 1 6 2 gTab1 (fun w h => (glob_of h).tab1)) <|
   .cons [5, 62] (ok_new (fun b => vP b 0) (fun u8 => [.nilFunc, .nilFunc]) 118 5 62) <|
   .cons [62] (ok_as (u' := fun u8 => [(62, .blk ((u8 9).n 0) [.func (.func 124) #[] #[], .func (.func 126) #[] #[]] 118)]) (ok_store 62 0 (fun u8 => ((u8 9).n 0)) (fun u8 => [.nilFunc, .nilFunc]) (fun u8 => [.func (.func 124) #[] #[], .func (.func 126) #[] #[]]) 118) (fun _ => by kernel_rfl)) <| .nil) fun u8 a w' H => ?_
    replace H := H.toM [(2, (sP ((u1 0).n 0) 0)), (3, (sP ((u1 1).n 0) 0)), (4, (sP ((u1 2).n 0) 0)), (5, (sP ((u8 9).n 0) 0)), (59, .blk ((u1 0).n 0) [vI a0.Lo, vI a0.Hi] 38), (60, .blk ((u1 1).n 0) [vI a1.Lo, vI a1.Hi] 38), (61, .blk ((u1 2).n 0) [vI 0, vI 0] 38), (62, .blk ((u8 9).n 0) [.func (.func 124) #[] #[], .func (.func 126) #[] #[]] 118), (999999, gk)]
    refine k_seq ?_
    replace G := bnd G; obtain ⟨t12, ht12, G⟩ := G
    replace G := bnd G; obtain ⟨t13, ht13, G⟩ := G
    refine k_rg mixed H (.v 33 (vP ((u8 9).n 0) 0) <|
   .cons [34] (ok_ld (fun u11 => .func (.func 124) #[] #[]) 34 62 0 1 (fun u11 => ((u8 9).n 0)) (fun u11 => [.func (.func 124) #[] #[], .func (.func 126) #[] #[]]) 118) <|
   .cons [35] (ok_ld (fun u11 => .agg #[vI a0.Lo, vI a0.Hi]) 35 59 0 2 (fun u11 => ((u1 0).n 0)) (fun u11 => [vI a0.Lo, vI a0.Hi]) 38) <|
   .cons [36] (ok_ld (fun u11 => .agg #[vI a1.Lo, vI a1.Hi]) 36 60 0 2 (fun u11 => ((u1 1).n 0)) (fun u11 => [vI a1.Lo, vI a1.Hi]) 38) <|
   .cons [37] (ok_callv 124 (fun u11 => #[.agg #[vI a0.Lo, vI a0.Hi], .agg #[vI a1.Lo, vI a1.Hi]]) (.tuple #[vI t12.1, vI t12.2]) 37 [] (fun _ w _ => interval_ll.calls a0 a1 t12 w ht12)) <|
   .v 38 (vI t12.1) <|
   .v 39 (vI t12.2) <|
   .cons [40] (ok_callv 101 (fun u11 => #[vI t12.1, vI t12.2]) (.tuple #[vI t13.1, vI t13.2.1, vI t13.2.2]) 40 [] (fun _ w _ => fixed_Div.calls t12.1 t12.2 t13 w ht13)) <|
   .v 32 (.tuple #[vI t13.1, vI t13.2.1, vI t13.2.2]) <|
   .v 41 (vI t13.1) <|
   .v 42 (vI t13.2.1) <|
   .v 43 (vI t13.2.2) <|
   .v 6 (vI t13.1) <|
   .v 7 (vI t13.2.1) <|
   .v 8 (vI t13.2.2) <| .nil) fun u11 a w' H => ?_
    replace H := H.toM [(2, (sP ((u1 0).n 0) 0)), (3, (sP ((u1 1).n 0) 0)), (4, (sP ((u1 2).n 0) 0)), (5, (sP ((u8 9).n 0) 0)), (6, sI t13.1), (59, .blk ((u1 0).n 0) [vI a0.Lo, vI a0.Hi] 38), (60, .blk ((u1 1).n 0) [vI a1.Lo, vI a1.Hi] 38), (61, .blk ((u1 2).n 0) [vI 0, vI 0] 38), (62, .blk ((u8 9).n 0) [.func (.func 124) #[] #[], .func (.func 126) #[] #[]] 118), (999999, gk)]
    refine k_seq ?_
    replace G := bnd G; obtain ⟨t15, ht15, G⟩ := G
    replace G := bnd G; obtain ⟨t16, ht16, G⟩ := G
    refine k_rg mixed H (.v 45 (vP ((u8 9).n 0) 1) <|
   .cons [46] (ok_ld (fun u14 => .func (.func 126) #[] #[]) 46 62 1 1 (fun u14 => ((u8 9).n 0)) (fun u14 => [.func (.func 124) #[] #[], .func (.func 126) #[] #[]]) 118) <|
   .cons [47] (ok_ld (fun u14 => .agg #[vI a0.Lo, vI a0.Hi]) 47 59 0 2 (fun u14 => ((u1 0).n 0)) (fun u14 => [vI a0.Lo, vI a0.Hi]) 38) <|
   .cons [48] (ok_ld (fun u14 => .agg #[vI a1.Lo, vI a1.Hi]) 48 60 0 2 (fun u14 => ((u1 1).n 0)) (fun u14 => [vI a1.Lo, vI a1.Hi]) 38) <|
   .cons [49] (ok_callv 126 (fun u14 => #[.agg #[vI a0.Lo, vI a0.Hi], .agg #[vI a1.Lo, vI a1.Hi]]) (.tuple #[vI t15.1, vI t15.2]) 49 [] (fun _ w _ => interval_hl.calls a0 a1 t15 w ht15)) <|
   .v 50 (vI t15.1) <|
   .v 51 (vI t15.2) <|
   .cons [52] (ok_callv 101 (fun u14 => #[vI t15.1, vI t15.2]) (.tuple #[vI t16.1, vI t16.2.1, vI t16.2.2]) 52 [] (fun _ w _ => fixed_Div.calls t15.1 t15.2 t16 w ht16)) <|
   .v 44 (.tuple #[vI t16.1, vI t16.2.1, vI t16.2.2]) <|
   .v 53 (vI t16.1) <|
   .v 54 (vI t16.2.1) <|
   .v 55 (vI t16.2.2) <|
   .v 9 (vI t16.1) <|
   .v 10 (vI t16.2.1) <|
   .v 11 (vI t16.2.2) <| .nil) fun u14 a w' H => ?_
    replace H := H.toM [(4, (sP ((u1 2).n 0) 0)), (6, sI t13.1), (10, sI t16.2.1), (61, .blk ((u1 2).n 0) [vI 0, vI 0] 38), (999999, gk)]
    refine k_seq ?_
    replace G := bnd G; obtain ⟨t18, ht18, G⟩ := G
    refine k_rg mixed H (.v 56 (vI t13.1) <|
   .v 57 (vI t16.2.1) <|
   .cons [58] (ok_callv 89 (fun u17 => #[vI t13.1, vI t16.2.1]) (.agg #[vI t18.Lo, vI t18.Hi]) 58 [] (fun _ w _ => interval_New.calls t13.1 t16.2.1 t18 w ht18)) <|
   .cons [61] (ok_as (u' := fun u17 => [(61, .blk ((u1 2).n 0) [vI t18.Lo, vI t18.Hi] 38)]) (ok_store 61 0 (fun u17 => ((u1 2).n 0)) (fun u17 => [vI 0, vI 0]) (fun u17 => [vI t18.Lo, vI t18.Hi]) 38) (fun _ => by kernel_rfl)) <| .nil) fun u17 a w' H => ?_
    replace H := H.toM [(4, (sP ((u1 2).n 0) 0)), (61, .blk ((u1 2).n 0) [vI t18.Lo, vI t18.Hi] 38), (999999, gk)]
    refine k_ret ?_
    obtain rfl := Option.some.inj G
    exact k_done1 H _ 61 ((u1 2).n 0) [vI t18.Lo, vI t18.Hi] 38 0 2 (by kernel_rfl) (by kernel_rfl) (by kernel_rfl) (by kernel_rfl)
   rw [if_neg c20] at G
   cases G
  rw [if_neg c22] at G
  by_cases c23 : t9 = 2
  ·rw [if_pos c23] at G; subst c23
   replace G := bnd G; obtain ⟨t10, ht10, G⟩ := G
   by_cases c19 : t10 = 0
   ·rw [if_pos c19] at G; subst c19
    refine k_rg mixed H (.cons [23] (ok_ld (fun u8 => .agg #[vI a0.Lo, vI a0.Hi]) 23 59 0 2 (fun u8 => ((u1 0).n 0)) (fun u8 => [vI a0.Lo, vI a0.Hi]) 38) <|
   .cons [24] (ok_callv 99 (fun u8 => #[.agg #[vI a0.Lo, vI a0.Hi]]) (vI 2) 24 [] (fun _ w _ => interval_side.calls a0 2 w ht9)) <|
   .v 25 (vP ((u1 1).n 0) 0) <|
   .cons [26] (ok_ld (fun u8 => vI a1.Lo) 26 60 0 1 (fun u8 => ((u1 1).n 0)) (fun u8 => [vI a1.Lo, vI a1.Hi]) 38) <|
   .v 27 (.bool (decide (a1.Lo > 0))) <|
   .cons [28] (ok_callv 72 (fun u8 => #[.bool (decide (a1.Lo > 0)), vI 1, vI 0]) (vI 0) 28 [] (fun _ w _ => interval_pick_int.calls (decide (a1.Lo > 0)) 1 0 0 w ht10)) <|
   .v 29 (vP 1 8) <|
   .v 30 (vP 1 8) <|
   .cons [31] (ok_ldK (fun u8 => .agg #[.func (.func 123) #[] #[], .func (.func 124) #[] #[]]) 31 999999 gk 1 8 2 gTab1 (fun w h => (glob_of h).tab1)) <|
   .cons [5, 62] (ok_new (fun b => vP b 0) (fun u8 => [.nilFunc, .nilFunc]) 118 5 62) <|
   .cons [62] (ok_as (u' := fun u8 => [(62, .blk ((u8 9).n 0) [.func (.func 123) #[] #[], .func (.func 124) #[] #[]] 118)]) (ok_store 62 0 (fun u8 => ((u8 9).n 0)) (fun u8 => [.nilFunc, .nilFunc]) (fun u8 => [.func (.func 123) #[] #[], .func (.func 124) #[] #[]]) 118) (fun _ => by kernel_rfl)) <| .nil) fun u8 a w' H => ?_
    replace H := H.toM [(2, (sP ((u1 0).n 0) 0)), (3, (sP ((u1 1).n 0) 0)), (4, (sP ((u1 2).n 0) 0)), (5, (sP ((u8 9).n 0) 0)), (59, .blk ((u1 0).n 0) [vI a0.Lo, vI a0.Hi] 38), (60, .blk ((u1 1).n 0) [vI a1.Lo, vI a1.Hi] 38), (61, .blk ((u1 2).n 0) [vI 0, vI 0] 38), (62, .blk ((u8 9).n 0) [.func (.func 123) #[] #[], .func (.func 124) #[] #[]] 118), (999999, gk)]
    refine k_seq ?_
    replace G := bnd G; obtain ⟨t12, ht12, G⟩ := G
    replace G := bnd G; obtain ⟨t13, ht13, G⟩ := G
    refine k_rg mixed H (.v 33 (vP ((u8 9).n 0) 0) <|
   .cons [34] (ok_ld (fun u11 => .func (.func 123) #[] #[]) 34 62 0 1 (fun u11 => ((u8 9).n 0)) (fun u11 => [.func (.func 123) #[] #[], .func (.func 124) #[] #[]]) 118) <|
   .cons [35] (ok_ld (fun u11 => .agg #[vI a0.Lo, vI a0.Hi]) 35 59 0 2 (fun u11 => ((u1 0).n 0)) (fun u11 => [vI a0.Lo, vI a0.Hi]) 38) <|
   .cons [36] (ok_ld (fun u11 => .agg #[vI a1.Lo, vI a1.Hi]) 36 60 0 2 (fun u11 => ((u1 1).n 0)) (fun u11 => [vI a1.Lo, vI a1.Hi]) 38) <|
   .cons [37] (ok_callv 123 (fun u11 => #[.agg #[vI a0.Lo, vI a0.Hi], .agg #[vI a1.Lo, vI a1.Hi]]) (.tuple #[vI t12.1, vI t12.2]) 37 [] (fun _ w _ => interval_hh.calls a0 a1 t12 w ht12)) <|
   .v 38 (vI t12.1) <|
   .v 39 (vI t12.2) <|
   .cons [40] (ok_callv 101 (fun u11 => #[vI t12.1, vI t12.2]) (.tuple #[vI t13.1, vI t13.2.1, vI t13.2.2]) 40 [] (fun _ w _ => fixed_Div.calls t12.1 t12.2 t13 w ht13)) <|
   .v 32 (.tuple #[vI t13.1, vI t13.2.1, vI t13.2.2]) <|
   .v 41 (vI t13.1) <|
   .v 42 (vI t13.2.1) <|
   .v 43 (vI t13.2.2) <|
   .v 6 (vI t13.1) <|
   .v 7 (vI t13.2.1) <|
   .v 8 (vI t13.2.2) <| .nil) fun u11 a w' H => ?_
    replace H := H.toM [(2, (sP ((u1 0).n 0) 0)), (3, (sP ((u1 1).n 0) 0)), (4, (sP ((u1 2).n 0) 0)), (5, (sP ((u8 9).n 0) 0)), (6, sI t13.1), (59, .blk ((u1 0).n 0) [vI a0.Lo, vI a0.Hi] 38), (60, .blk ((u1 1).n 0) [vI a1.Lo, vI a1.Hi] 38), (61, .blk ((u1 2).n 0) [vI 0, vI 0] 38), (62, .blk ((u8 9).n 0) [.func (.func 123) #[] #[], .func (.func 124) #[] #[]] 118), (999999, gk)]
    refine k_seq ?_
    replace G := bnd G; obtain ⟨t15, ht15, G⟩ := G
    replace G := bnd G; obtain ⟨t16, ht16, G⟩ := G
    refine k_rg mixed H (.v 45 (vP ((u8 9).n 0) 1) <|
   .cons [46] (ok_ld (fun u14 => .func (.func 124) #[] #[]) 46 62 1 1 (fun u14 => ((u8 9).n 0)) (fun u14 => [.func (.func 123) #[] #[], .func (.func 124) #[] #[]]) 118) <|
   .cons [47] (ok_ld (fun u14 => .agg #[vI a0.Lo, vI a0.Hi]) 47 59 0 2 (fun u14 => ((u1 0).n 0)) (fun u14 => [vI a0.Lo, vI a0.Hi]) 38) <|
   .cons [48] (ok_ld (fun u14 => .agg #[vI a1.Lo, vI a1.Hi]) 48 60 0 2 (fun u14 => ((u1 1).n 0)) (fun u14 => [vI a1.Lo, vI a1.Hi]) 38) <|
   .cons [49] (ok_callv 124 (fun u14 => #[.agg #[vI a0.Lo, vI a0.Hi], .agg #[vI a1.Lo, vI a1.Hi]]) (.tuple #[vI t15.1, vI t15.2]) 49 [] (fun _ w _ => interval_ll.calls a0 a1 t15 w ht15)) <|
   .v 50 (vI t15.1) <|
   .v 51 (vI t15.2) <|
   .cons [52] (ok_callv 101 (fun u14 => #[vI t15.1, vI t15.2]) (.tuple #[vI t16.1, vI t16.2.1, vI t16.2.2]) 52 [] (fun _ w _ => fixed_Div.calls t15.1 t15.2 t16 w ht16)) <|
   .v 44 (.tuple #[vI t16.1, vI t16.2.1, vI t16.2.2]) <|
   .v 53 (vI t16.1) <|
   .v 54 (vI t16.2.1) <|
   .v 55 (vI t16.2.2) <|
   .v 9 (vI t16.1) <|
   .v 10 (vI t16.2.1) <|
   .v 11 (vI t16.2.2) <| .nil) fun u14 a w' H => ?_
    replace H := H.toM [(4, (sP ((u1 2).n 0) 0)), (6, sI t13.1), (10, sI t16.2.1), (61, .blk ((u1 2).n 0) [vI 0, vI 0] 38), (999999, gk)]
    refine k_seq ?_
    replace G := bnd G; obtain ⟨t18, ht18, G⟩ := G
    refine k_rg mixed H (.v 56 (vI t13.1) <|
   .v 57 (vI t16.2.1) <|
   .cons [58] (ok_callv 89 (fun u17 => #[vI t13.1, vI t16.2.1]) (.agg #[vI t18.Lo, vI t18.Hi]) 58 [] (fun _ w _ => interval_New.calls t13.1 t16.2.1 t18 w ht18)) <|
   .cons [61] (ok_as (u' := fun u17 => [(61, .blk ((u1 2).n 0) [vI t18.Lo, vI t18.Hi] 38)]) (ok_store 61 0 (fun u17 => ((u1 2).n 0)) (fun u17 => [vI 0, vI 0]) (fun u17 => [vI t18.Lo, vI t18.Hi]) 38) (fun _ => by kernel_rfl)) <| .nil) fun u17 a w' H => ?_
    replace H := H.toM [(4, (sP ((u1 2).n 0) 0)), (61, .blk ((u1 2).n 0) [vI t18.Lo, vI t18.Hi] 38), (999999, gk)]
    refine k_ret ?_
    obtain rfl := Option.some.inj G
    exact k_done1 H _ 61 ((u1 2).n 0) [vI t18.Lo, vI t18.Hi] 38 0 2 (by kernel_rfl) (by kernel_rfl) (by kernel_rfl) (by kernel_rfl)
   rw [if_neg c19] at G
   by_cases c20 : t10 = 1
   ·rw [if_pos c20] at G; subst c20
    refine k_rg mixed H (.cons [23] (ok_ld (fun u8 => .agg #[vI a0.Lo, vI a0.Hi]) 23 59 0 2 (fun u8 => ((u1 0).n 0)) (fun u8 => [vI a0.Lo, vI a0.Hi]) 38) <|
   .cons [24] (ok_callv 99 (fun u8 => #[.agg #[vI a0.Lo, vI a0.Hi]]) (vI 2) 24 [] (fun _ w _ => interval_side.calls a0 2 w ht9)) <|
   .v 25 (vP ((u1 1).n 0) 0) <|
   .cons [26] (ok_ld (fun u8 => vI a1.Lo) 26 60 0 1 (fun u8 => ((u1 1).n 0)) (fun u8 => [vI a1.Lo, vI a1.Hi]) 38) <|
   .v 27 (.bool (decide (a1.Lo > 0))) <|
   .cons [28] (ok_callv 72 (fun u8 => #[.bool (decide (a1.Lo > 0)), vI 1, vI 0]) (vI 1) 28 [] (fun _ w _ => interval_pick_int.calls (decide (a1.Lo > 0)) 1 0 1 w ht10)) <|
   .v 29 (vP 1 8) <|
   .v 30 (vP 1 10) <|
   .cons [31] (ok_ldK (fun u8 => .agg #[.func (.func 125) #[] #[], .func (.func 126) #[] #[]]) 31 999999 gk 1 10 2 gTab1 (fun w h => (glob_of h).tab1)) <|
   .cons [5, 62] (ok_new (fun b => vP b 0) (fun u8 => [.nilFunc, .nilFunc]) 118 5 62) <|
   .cons [62] (ok_as (u' := fun u8 => [(62, .blk ((u8 9).n 0) [.func (.func 125) #[] #[], .func (.func 126) #[] #[]] 118)]) (ok_store 62 0 (fun u8 => ((u8 9).n 0)) (fun u8 => [.nilFunc, .nilFunc]) (fun u8 => [.func (.func 125) #[] #[], .func (.func 126) #[] #[]]) 118) (fun _ => by kernel_rfl)) <| .nil) fun u8 a w' H => ?_
    replace H := H.toM [(2, (sP ((u1 0).n 0) 0)), (3, (sP ((u1 1).n 0) 0)), (4, (sP ((u1 2).n 0) 0)), (5, (sP ((u8 9).n 0) 0)), (59, .blk ((u1 0).n 0) [vI a0.Lo, vI a0.Hi] 38), (60, .blk ((u1 1).n 0) [vI a1.Lo, vI a1.Hi] 38), (61, .blk ((u1 2).n 0) [vI 0, vI 0] 38), (62, .blk ((u8 9).n 0) [.func (.func 125) #[] #[], .func (.func 126) #[] #[]] 118), (999999, gk)]
    refine k_seq ?_
    replace G := bnd G; obtain ⟨t12, ht12, G⟩ := G
    replace G := bnd G; obtain ⟨t13, ht13, G⟩ := G
    refine k_rg mixed H (.v 33 (vP ((u8 9).n 0) 0) <|
   .cons [34] (ok_ld (fun u11 => .func (.func 125) #[] #[]) 34 62 0 1 (fun u11 => ((u8 9).n 0)) (fun u11 => [.func (.func 125) #[] #[], .func (.func 126) #[] #[]]) 118) <|
   .cons [35] (ok_ld (fun u11 => .agg #[vI a0.Lo, vI a0.Hi]) 35 59 0 2 (fun u11 => ((u1 0).n 0)) (fun u11 => [vI a0.Lo, vI a0.Hi]) 38) <|
   .cons [36] (ok_ld (fun u11 => .agg #[vI a1.Lo, vI a1.Hi]) 36 60 0 2 (fun u11 => ((u1 1).n 0)) (fun u11 => [vI a1.Lo, vI a1.Hi]) 38) <|
   .cons [37] (ok_callv 125 (fun u11 => #[.agg #[vI a0.Lo, vI a0.Hi], .agg #[vI a1.Lo, vI a1.Hi]]) (.tuple #[vI t12.1, vI t12.2]) 37 [] (fun _ w _ => interval_lh.calls a0 a1 t12 w ht12)) <|
   .v 38 (vI t12.1) <|
   .v 39 (vI t12.2) <|
   .cons [40] (ok_callv 101 (fun u11 => #[vI t12.1, vI t12.2]) (.tuple #[vI t13.1, vI t13.2.1, vI t13.2.2]) 40 [] (fun _ w _ => fixed_Div.calls t12.1 t12.2 t13 w ht13)) <|
   .v 32 (.tuple #[vI t13.1, vI t13.2.1, vI t13.2.2]) <|
   .v 41 (vI t13.1) <|
   .v 42 (vI t13.2.1) <|
   .v 43 (vI t13.2.2) <|
   .v 6 (vI t13.1) <|
   .v 7 (vI t13.2.1) <|
   .v 8 (vI t13.2.2) <| .nil) fun u11 a w' H => ?_
    replace H := H.toM [(2, (sP ((u1 0).n 0) 0)), (3, (sP ((u1 1).n 0) 0)), (4, (sP ((u1 2).n 0) 0)), (5, (sP ((u8 9).n 0) 0)), (6, sI t13.1), (59, .blk ((u1 0).n 0) [vI a0.Lo, vI a0.Hi] 38), (60, .blk ((u1 1).n 0) [vI a1.Lo, vI a1.Hi] 38), (61, .blk ((u1 2).n 0) [vI 0, vI 0] 38), (62, .blk ((u8 9).n 0) [.func (.func 125) #[] #[], .func (.func 126) #[] #[]] 118), (999999, gk)]
    refine k_seq ?_
    replace G := bnd G; obtain ⟨t15, ht15, G⟩ := G
    replace G := bnd G; obtain ⟨t16, ht16, G⟩ := G
    refine k_rg mixed H (.v 45 (vP ((u8 9).n 0) 1) <|
   .cons [46] (ok_ld (fun u14 => .func (.func 126) #[] #[]) 46 62 1 1 (fun u14 => ((u8 9).n 0)) (fun u14 => [.func (.func 125) #[] #[], .func (.func 126) #[] #[]]) 118) <|
   .cons [47] (ok_ld (fun u14 => .agg #[vI a0.Lo, vI a0.Hi]) 47 59 0 2 (fun u14 => ((u1 0).n 0)) (fun u14 => [vI a0.Lo, vI a0.Hi]) 38) <|
   .cons [48] (ok_ld (fun u14 => .agg #[vI a1.Lo, vI a1.Hi]) 48 60 0 2 (fun u14 => ((u1 1).n 0)) (fun u14 => [vI a1.Lo, vI a1.Hi]) 38) <|
   .cons [49] (ok_callv 126 (fun u14 => #[.agg #[vI a0.Lo, vI a0.Hi], .agg #[vI a1.Lo, vI a1.Hi]]) (.tuple #[vI t15.1, vI t15.2]) 49 [] (fun _ w _ => interval_hl.calls a0 a1 t15 w ht15)) <|
   .v 50 (vI t15.1) <|
   .v 51 (vI t15.2) <|
   .cons [52] (ok_callv 101 (fun u14 => #[vI t15.1, vI t15.2]) (.tuple #[vI t16.1, vI t16.2.1, vI t16.2.2]) 52 [] (fun _ w _ => fixed_Div.calls t15.1 t15.2 t16 w ht16)) <|
   .v 44 (.tuple #[vI t16.1, vI t16.2.1, vI t16.2.2]) <|
   .v 53 (vI t16.1) <|
   .v 54 (vI t16.2.1) <|
   .v 55 (vI t16.2.2) <|
   .v 9 (vI t16.1) <|
   .v 10 (vI t16.2.1) <|
   .v 11 (vI t16.2.2) <| .nil) fun u14 a w' H => ?_
    replace H := H.toM [(4, (sP ((u1 2).n 0) 0)), (6, sI t13.1), (10, sI t16.2.1), (61, .blk ((u1 2).n 0) [vI 0, vI 0] 38), (999999, gk)]
    refine k_seq ?_
    replace G := bnd G; obtain ⟨t18, ht18, G⟩ := G
    refine k_rg mixed H (.v 56 (vI t13.1) <|
   .v 57 (vI t16.2.1) <|
   .cons [58] (ok_callv 89 (fun u17 => #[vI t13.1, vI t16.2.1]) (.agg #[vI t18.Lo, vI t18.Hi]) 58 [] (fun _ w _ => interval_New.calls t13.1 t16.2.1 t18 w ht18)) <|
   .cons [61] (ok_as (u' := fun u17 => [(61, .blk ((u1 2).n 0) [vI t18.Lo, vI t18.Hi] 38)]) (ok_store 61 0 (fun u17 => ((u1 2).n 0)) (fun u17 => [vI 0, vI 0]) (fun u17 => [vI t18.Lo, vI t18.Hi]) 38) (fun _ => by kernel_rfl)) <| .nil) fun u17 a w' H => ?_
    replace H := H.toM [(4, (sP ((u1 2).n 0) 0)), (61, .blk ((u1 2).n 0) [vI t18.Lo, vI t18.Hi] 38), (999999, gk)]
    refine k_ret ?_
    obtain rfl := Option.some.inj G
    exact k_done1 H _ 61 ((u1 2).n 0) [vI t18.Lo, vI t18.Hi] 38 0 2 (by kernel_rfl) (by kernel_rfl) (by kernel_rfl) (by kernel_rfl)
   rw [if_neg c20] at G
   cases G
  rw [if_neg c23] at G
  cases G

theorem ode_binaryOps.calls (w : World) : Calls Tryd.prog 57 #[] w fun e w' => ∃ l, e = .returned (.map (some l)) ∧ Below w.heap.size w w' ∧ w.heap.size ≤ l ∧ w'.heap[l]? = some (.map #[⟨vI 7, .func (.func 82) #[] #[], 0⟩, ⟨vI 8, .func (.func 83) #[] #[], 1⟩, ⟨vI 9, .func (.func 84) #[] #[], 2⟩, ⟨vI 10, .func (.func 85) #[] #[], 3⟩] 4) := by
 refine k_enter (args := []) 3 Tryd.func57 rfl (by kernel_rfl) (by kernel_rfl) fun a H => ?_
 refine k_seq ?_
 refine k_rg mixed H (.cons [0] (ok_val (fun u => .map none) 0) .nil) fun u1 a w' H => ?_
 refine k_seq ?_
 refine k_rg mixed H (.cons [1, 3] (ok_mkmap 1 3) <|
   .cons [3] (ok_insert 3 (fun u => (u 0).n 0) (.map #[] 0) (.map #[⟨vI 7, .func (.func 82) #[] #[], 0⟩] 1) (fun u w h => run_of (by kernel_rfl) (run_insert (t := 87) (k := 3) (e := 79) (n := 7) (kd := .i64) (v := .func (.func 82) #[] #[]) rfl h (by kernel_rfl) (by kernel_rfl) (by kernel_rfl)))) <|
   .cons [3] (ok_insert 3 (fun u => (u 0).n 0) (.map #[⟨vI 7, .func (.func 82) #[] #[], 0⟩] 1) (.map #[⟨vI 7, .func (.func 82) #[] #[], 0⟩, ⟨vI 8, .func (.func 83) #[] #[], 1⟩] 2) (fun u w h => run_of (by kernel_rfl) (run_insert (t := 87) (k := 3) (e := 79) (n := 8) (kd := .i64) (v := .func (.func 83) #[] #[]) rfl h (by kernel_rfl) (by kernel_rfl) (by kernel_rfl)))) <|
   .cons [3] (ok_insert 3 (fun u => (u 0).n 0) (.map #[⟨vI 7, .func (.func 82) #[] #[], 0⟩, ⟨vI 8, .func (.func 83) #[] #[], 1⟩] 2) (.map #[⟨vI 7, .func (.func 82) #[] #[], 0⟩, ⟨vI 8, .func (.func 83) #[] #[], 1⟩, ⟨vI 9, .func (.func 84) #[] #[], 2⟩] 3) (fun u w h => run_of (by kernel_rfl) (run_insert (t := 87) (k := 3) (e := 79) (n := 9) (kd := .i64) (v := .func (.func 84) #[] #[]) rfl h (by kernel_rfl) (by kernel_rfl) (by kernel_rfl)))) <|
   .cons [3] (ok_insert 3 (fun u => (u 0).n 0) (.map #[⟨vI 7, .func (.func 82) #[] #[], 0⟩, ⟨vI 8, .func (.func 83) #[] #[], 1⟩, ⟨vI 9, .func (.func 84) #[] #[], 2⟩] 3) (.map #[⟨vI 7, .func (.func 82) #[] #[], 0⟩, ⟨vI 8, .func (.func 83) #[] #[], 1⟩, ⟨vI 9, .func (.func 84) #[] #[], 2⟩, ⟨vI 10, .func (.func 85) #[] #[], 3⟩] 4) (fun u w h => run_of (by kernel_rfl) (run_insert (t := 87) (k := 3) (e := 79) (n := 10) (kd := .i64) (v := .func (.func 85) #[] #[]) rfl h (by kernel_rfl) (by kernel_rfl) (by kernel_rfl)))) <|
   .cons [2] (ok_val (fun u => .map (some ((u 0).n 0))) 2) <|
   .cons [0] (ok_val (fun u => .map (some ((u 0).n 0))) 0) <| .nil) fun u2 a w' H => ?_
 refine k_ret ?_
 exact k_doneOb H 3 ((u2 0).n 0) (.map #[⟨vI 7, .func (.func 82) #[] #[], 0⟩, ⟨vI 8, .func (.func 83) #[] #[], 1⟩, ⟨vI 9, .func (.func 84) #[] #[], 2⟩, ⟨vI 10, .func (.func 85) #[] #[], 3⟩] 4) (by kernel_rfl) (by kernel_rfl) (by kernel_rfl)

set_option maxHeartbeats 4000000 in
theorem interval_Mag.calls (a0 : TInterval) (r : Int) (w : World) (G : interval_Mag a0 = some r) :
  Calls Tryd.prog 87 #[.agg #[vI a0.Lo, vI a0.Hi]] w fun e w' => e = .returned (vI r) ∧ Below w.heap.size w w' := by
 refine k_enter (args := [.agg #[vI a0.Lo, vI a0.Hi]]) 9 Tryd.func87 rfl (by kernel_rfl) (by kernel_rfl) fun a H => ?_
 unfold interval_Mag at G
 refine k_seq ?_
 refine k_rg mixed H (.cons [1, 9] (ok_new (fun b => vP b 0) (fun u1 => [vI a0.Lo, vI a0.Hi]) 38 1 9) <|
   .v 2 (vI 0) <| .nil) fun u1 a w' H => ?_
 replace H := H.toM [(1, (sP ((u1 0).n 0) 0)), (9, .blk ((u1 0).n 0) [vI a0.Lo, vI a0.Hi] 38)]
 refine k_seq ?_
 refine k_rg mixed H (.v 3 (vP ((u1 0).n 0) 1) <|
   .cons [4] (ok_ld (fun u2 => vI a0.Hi) 4 9 1 1 (fun u2 => ((u1 0).n 0)) (fun u2 => [vI a0.Lo, vI a0.Hi]) 38) <|
   .v 5 (vP ((u1 0).n 0) 0) <|
   .cons [6] (ok_ld (fun u2 => vI a0.Lo) 6 9 0 1 (fun u2 => ((u1 0).n 0)) (fun u2 => [vI a0.Lo, vI a0.Hi]) 38) <|
   .v 7 (vI (w_i64 (0 - a0.Lo))) <|
   .v 8 (vI (mx a0.Hi (w_i64 (0 - a0.Lo)))) <|
   .v 2 (vI (mx a0.Hi (w_i64 (0 - a0.Lo)))) <| .nil) fun u2 a w' H => ?_
 replace H := H.toM [(2, (sI (mx a0.Hi (w_i64 (0 - a0.Lo)))))]
 refine k_ret ?_
 obtain rfl := Option.some.inj G
 exact k_done0 H _ (by kernel_rfl) (by kernel_rfl)

set_option maxHeartbeats 4000000 in
theorem interval_Square.calls (a0 : TInterval) (r : TInterval) (w : World) (G : interval_Square a0 = some r) :
  Calls Tryd.prog 60 #[.agg #[vI a0.Lo, vI a0.Hi]] w fun e w' => e = .returned (.agg #[vI r.Lo, vI r.Hi]) ∧ Below w.heap.size w w' := by
 refine k_enter (args := [.agg #[vI a0.Lo, vI a0.Hi]]) 35 Tryd.func60 rfl (by kernel_rfl) (by kernel_rfl) fun a H => ?_
 unfold interval_Square at G
 refine k_seq ?_
 refine k_rg mixed H (.cons [1, 35] (ok_new (fun b => vP b 0) (fun u1 => [vI a0.Lo, vI a0.Hi]) 38 1 35) <|
   .cons [2, 36] (ok_new (fun b => vP b 0) (fun u1 => [vI 0, vI 0]) 38 2 36) <| .nil) fun u1 a w' H => ?_
 replace H := H.toM [(1, (sP ((u1 0).n 0) 0)), (2, (sP ((u1 1).n 0) 0)), (35, .blk ((u1 0).n 0) [vI a0.Lo, vI a0.Hi] 38), (36, .blk ((u1 1).n 0) [vI 0, vI 0] 38)]
 refine k_seq ?_
 refine k_seq ?_
 replace G := bnd G; obtain ⟨t3, ht3, G⟩ := G
 refine k_rg mixed H (.cons [9] (ok_ld (fun u2 => .agg #[vI a0.Lo, vI a0.Hi]) 9 35 0 2 (fun u2 => ((u1 0).n 0)) (fun u2 => [vI a0.Lo, vI a0.Hi]) 38) <|
   .cons [10] (ok_callv 86 (fun u2 => #[.agg #[vI a0.Lo, vI a0.Hi]]) (.bool t3) 10 [] (fun _ w _ => interval_IsEntire.calls a0 t3 w ht3)) <| .nil) fun u2 a w' H => ?_
 replace H := H.toM [(1, (sP ((u1 0).n 0) 0)), (2, (sP ((u1 1).n 0) 0)), (10, sB t3), (35, .blk ((u1 0).n 0) [vI a0.Lo, vI a0.Hi] 38), (36, .blk ((u1 1).n 0) [vI 0, vI 0] 38)]
 refine k_cond H (by kernel_rfl) (t := t3) (by kernel_rfl) (fun c13 => ?_) (fun c13 => ?_)
 ·rw [if_pos c13] at G
  refine k_seq ?_
  refine k_rg mixed H (.cons [11] (ok_ld (fun u4 => .agg #[vI a0.Lo, vI a0.Hi]) 11 35 0 2 (fun u4 => ((u1 0).n 0)) (fun u4 => [vI a0.Lo, vI a0.Hi]) 38) <|
   .cons [36] (ok_as (u' := fun u4 => [(36, .blk ((u1 1).n 0) [vI a0.Lo, vI a0.Hi] 38)]) (ok_store 36 0 (fun u4 => ((u1 1).n 0)) (fun u4 => [vI 0, vI 0]) (fun u4 => [vI a0.Lo, vI a0.Hi]) 38) (fun _ => by kernel_rfl)) <| .nil) fun u4 a w' H => ?_
  replace H := H.toM [(2, (sP ((u1 1).n 0) 0)), (36, .blk ((u1 1).n 0) [vI a0.Lo, vI a0.Hi] 38)]
  refine k_ret ?_
  obtain rfl := Option.some.inj G
  exact k_done1 H _ 36 ((u1 1).n 0) [vI a0.Lo, vI a0.Hi] 38 0 2 (by kernel_rfl) (by kernel_rfl) (by kernel_rfl) (by kernel_rfl)
 ·rw [if_neg (nt c13)] at G
  refine k_skip ?_
  refine k_seq ?_
  replace G := bnd G; obtain ⟨t6, ht6, G⟩ := G
  refine k_rg mixed H (.v 12 (vP ((u1 0).n 0) 0) <|
   .cons [13] (ok_ld (fun u5 => vI a0.Lo) 13 35 0 1 (fun u5 => ((u1 0).n 0)) (fun u5 => [vI a0.Lo, vI a0.Hi]) 38) <|
   .v 14 (vP ((u1 0).n 0) 1) <|
   .cons [15] (ok_ld (fun u5 => vI a0.Hi) 15 35 1 1 (fun u5 => ((u1 0).n 0)) (fun u5 => [vI a0.Lo, vI a0.Hi]) 38) <|
   .v 16 (vI (w_i64 (0 - a0.Hi))) <|
   .v 17 (vI (mx (mx a0.Lo (w_i64 (0 - a0.Hi))) 0)) <|
   .cons [18] (ok_ld (fun u5 => .agg #[vI a0.Lo, vI a0.Hi]) 18 35 0 2 (fun u5 => ((u1 0).n 0)) (fun u5 => [vI a0.Lo, vI a0.Hi]) 38) <|
   .cons [19] (ok_callv 87 (fun u5 => #[.agg #[vI a0.Lo, vI a0.Hi]]) (vI t6) 19 [] (fun _ w _ => interval_Mag.calls a0 t6 w ht6)) <|
   .v 3 (vI (mx (mx a0.Lo (w_i64 (0 - a0.Hi))) 0)) <|
   .v 4 (vI t6) <| .nil) fun u5 a w' H => ?_
  replace H := H.toM [(2, (sP ((u1 1).n 0) 0)), (3, (sI (mx (mx a0.Lo (w_i64 (0 - a0.Hi))) 0))), (4, sI t6), (36, .blk ((u1 1).n 0) [vI 0, vI 0] 38)]
  refine k_seq ?_
  replace G := bnd G; obtain ⟨t8, ht8, G⟩ := G
  refine k_rg mixed H (.v 21 (vI (mx (mx a0.Lo (w_i64 (0 - a0.Hi))) 0)) <|
   .v 22 (vI (mx (mx a0.Lo (w_i64 (0 - a0.Hi))) 0)) <|
   .cons [23] (ok_callv 88 (fun u7 => #[vI (mx (mx a0.Lo (w_i64 (0 - a0.Hi))) 0), vI (mx (mx a0.Lo (w_i64 (0 - a0.Hi))) 0)]) (.tuple #[vI t8.1, vI t8.2]) 23 [] (fun _ w _ => fixed_Mul.calls (mx (mx a0.Lo (w_i64 (0 - a0.Hi))) 0) (mx (mx a0.Lo (w_i64 (0 - a0.Hi))) 0) t8 w ht8)) <|
   .v 20 (.tuple #[vI t8.1, vI t8.2]) <|
   .v 24 (vI t8.1) <|
   .v 25 (vI t8.2) <|
   .v 5 (vI t8.1) <|
   .v 6 (vI t8.2) <| .nil) fun u7 a w' H => ?_
  replace H := H.toM [(2, (sP ((u1 1).n 0) 0)), (4, sI t6), (5, sI t8.1), (36, .blk ((u1 1).n 0) [vI 0, vI 0] 38)]
  refine k_seq ?_
  replace G := bnd G; obtain ⟨t10, ht10, G⟩ := G
  refine k_rg mixed H (.v 27 (vI t6) <|
   .v 28 (vI t6) <|
   .cons [29] (ok_callv 88 (fun u9 => #[vI t6, vI t6]) (.tuple #[vI t10.1, vI t10.2]) 29 [] (fun _ w _ => fixed_Mul.calls t6 t6 t10 w ht10)) <|
   .v 26 (.tuple #[vI t10.1, vI t10.2]) <|
   .v 30 (vI t10.1) <|
   .v 31 (vI t10.2) <|
   .v 7 (vI t10.1) <|
   .v 8 (vI t10.2) <| .nil) fun u9 a w' H => ?_
  replace H := H.toM [(2, (sP ((u1 1).n 0) 0)), (5, sI t8.1), (8, sI t10.2), (36, .blk ((u1 1).n 0) [vI 0, vI 0] 38)]
  refine k_seq ?_
  replace G := bnd G; obtain ⟨t12, ht12, G⟩ := G
  refine k_rg mixed H (.v 32 (vI t8.1) <|
   .v 33 (vI t10.2) <|
   .cons [34] (ok_callv 89 (fun u11 => #[vI t8.1, vI t10.2]) (.agg #[vI t12.Lo, vI t12.Hi]) 34 [] (fun _ w _ => interval_New.calls t8.1 t10.2 t12 w ht12)) <|
   .cons [36] (ok_as (u' := fun u11 => [(36, .blk ((u1 1).n 0) [vI t12.Lo, vI t12.Hi] 38)]) (ok_store 36 0 (fun u11 => ((u1 1).n 0)) (fun u11 => [vI 0, vI 0]) (fun u11 => [vI t12.Lo, vI t12.Hi]) 38) (fun _ => by kernel_rfl)) <| .nil) fun u11 a w' H => ?_
  replace H := H.toM [(2, (sP ((u1 1).n 0) 0)), (36, .blk ((u1 1).n 0) [vI t12.Lo, vI t12.Hi] 38)]
  refine k_ret ?_
  obtain rfl := Option.some.inj G
  exact k_done1 H _ 36 ((u1 1).n 0) [vI t12.Lo, vI t12.Hi] 38 0 2 (by kernel_rfl) (by kernel_rfl) (by kernel_rfl) (by kernel_rfl)

set_option maxHeartbeats 4000000 in
theorem bits_Len64.calls (a0 : Int) (r : Int) (w : World) (G : bits_Len64 a0 = some r) :
  Calls Tryd.prog 103 #[.int .u64 a0] w fun e w' => e = .returned (vI r) ∧ Below w.heap.size w w' := by
 refine k_enter (args := [.int .u64 a0]) 25 Tryd.func103 rfl (by kernel_rfl) (by kernel_rfl) fun a H => ?_
 unfold bits_Len64 at G
 refine k_seq ?_
 refine k_rg mixed H (.v 2 (vI 0) <| .nil) fun u1 a w' H => ?_
 replace H := H.toM [(0, .slot true (.int .u64 a0)), (2, sI 0)]
 refine k_seq ?_
 replace G := bnd G; obtain ⟨j4, hj4, G⟩ := G
 refine k_join (fun a w' => Rep w.heap.size w 25 (ofL [(0, .slot true (.int .u64 j4.1)), (2, sI j4.2)]) a w') ?_ ?_
 ·clear H; intro a w' H
  refine k_seq ?_
  replace G := bnd G; obtain ⟨j7, hj7, G⟩ := G
  refine k_join (fun a w' => Rep w.heap.size w 25 (ofL [(0, .slot true (.int .u64 j7.1)), (2, sI j7.2)]) a w') ?_ ?_
  ·clear H; intro a w' H
   refine k_seq ?_
   replace G := bnd G; obtain ⟨j10, hj10, G⟩ := G
   refine k_join (fun a w' => Rep w.heap.size w 25 (ofL [(0, .slot true (.int .u64 j10.1)), (2, sI j10.2)]) a w') ?_ ?_
   ·clear H; intro a w' H
    refine k_seq ?_
    replace G := bnd G; obtain ⟨t12, ht12, G⟩ := G
    refine k_rg mixed H (.v 19 (vI j10.2) <|
   .v 20 (.int .u64 j10.1) <|
   .v 21 (.int .u8 (w_u8 j10.1)) <|
   .cons [22] (ok_val (fun u11 => .int .u8 t12) 22 (hv := fun _ _ => run_of (by kernel_rfl) (run_index_str (t := 9) (s := (⟨#[0, 1, 2, 2, 3, 3, 3, 3, 4, 4, 4, 4, 4, 4, 4, 4, 5, 5, 5, 5, 5, 5, 5, 5, 5, 5, 5, 5, 5, 5, 5, 5, 6, 6, 6, 6, 6, 6, 6, 6, 6, 6, 6, 6, 6, 6, 6, 6, 6, 6, 6, 6, 6, 6, 6, 6, 6, 6, 6, 6, 6, 6, 6, 6, 7, 7, 7, 7, 7, 7, 7, 7, 7, 7, 7, 7, 7, 7, 7, 7, 7, 7, 7, 7, 7, 7, 7, 7, 7, 7, 7, 7, 7, 7, 7, 7, 7, 7, 7, 7, 7, 7, 7, 7, 7, 7, 7, 7, 7, 7, 7, 7, 7, 7, 7, 7, 7, 7, 7, 7, 7, 7, 7, 7, 7, 7, 7, 7, 8, 8, 8, 8, 8, 8, 8, 8, 8, 8, 8, 8, 8, 8, 8, 8, 8, 8, 8, 8, 8, 8, 8, 8, 8, 8, 8, 8, 8, 8, 8, 8, 8, 8, 8, 8, 8, 8, 8, 8, 8, 8, 8, 8, 8, 8, 8, 8, 8, 8, 8, 8, 8, 8, 8, 8, 8, 8, 8, 8, 8, 8, 8, 8, 8, 8, 8, 8, 8, 8, 8, 8, 8, 8, 8, 8, 8, 8, 8, 8, 8, 8, 8, 8, 8, 8, 8, 8, 8, 8, 8, 8, 8, 8, 8, 8, 8, 8, 8, 8, 8, 8, 8, 8, 8, 8, 8, 8, 8, 8, 8, 8, 8, 8, 8, 8, 8, 8, 8, 8, 8, 8, 8, 8, 8, 8, 8, 8]⟩ : ByteArray)) (k := .u8) (i := w_u8 j10.1) (by kernel_rfl) ht12))) <|
   .v 23 (vI (w_i64 t12)) <|
   .v 24 (vI (w_i64 (j10.2 + (w_i64 t12)))) <|
   .v 2 (vI (w_i64 (j10.2 + (w_i64 t12)))) <| .nil) fun u11 a w' H => ?_
    replace H := H.toM [(2, (sI (w_i64 (j10.2 + (w_i64 t12)))))]
    refine k_ret ?_
    obtain rfl := Option.some.inj G
    exact k_done0 H _ (by kernel_rfl) (by kernel_rfl)
   ·clear G; replace G := hj10; clear hj10
    refine k_seq ?_
    refine k_rg mixed H (.v 13 (.int .u64 j7.1) <|
   .v 14 (.bool (decide (j7.1 ≥ 256))) <| .nil) fun u13 a w' H => ?_
    replace H := H.toM [(0, .slot true (.int .u64 j7.1)), (2, sI j7.2), (14, (sB (decide (j7.1 ≥ 256))))]
    refine k_cond H (by kernel_rfl) (t := decide (j7.1 ≥ 256)) (by kernel_rfl) (fun c16 => ?_) (fun c16 => ?_)
    ·rw [if_pos c16] at G
     refine k_seq ?_
     refine k_rg mixed H (.v 15 (.int .u64 j7.1) <|
   .v 16 (.int .u64 (Int.fdiv j7.1 256)) <|
   .v 0 (.int .u64 (Int.fdiv j7.1 256)) <| .nil) fun u14 a w' H => ?_
     replace H := H.toM [(0, .slot true (.int .u64 (Int.fdiv j7.1 256))), (2, sI j7.2)]
     refine k_rg mixed H (.v 17 (vI j7.2) <|
   .v 18 (vI (w_i64 (j7.2 + 8))) <|
   .v 2 (vI (w_i64 (j7.2 + 8))) <| .nil) fun u15 a w' H => ?_
     replace H := H.toM [(0, .slot true (.int .u64 (Int.fdiv j7.1 256))), (2, (sI (w_i64 (j7.2 + 8))))]
     obtain rfl := Option.some.inj G
     exact H.toL _ (by kernel_rfl)
    ·rw [if_neg (nt c16)] at G
     refine k_skip ?_
     obtain rfl := Option.some.inj G
     exact H.toL _ (by kernel_rfl)
  ·clear G; replace G := hj7; clear hj7
   refine k_seq ?_
   refine k_rg mixed H (.v 7 (.int .u64 j4.1) <|
   .v 8 (.bool (decide (j4.1 ≥ 65536))) <| .nil) fun u17 a w' H => ?_
   replace H := H.toM [(0, .slot true (.int .u64 j4.1)), (2, sI j4.2), (8, (sB (decide (j4.1 ≥ 65536))))]
   refine k_cond H (by kernel_rfl) (t := decide (j4.1 ≥ 65536)) (by kernel_rfl) (fun c20 => ?_) (fun c20 => ?_)
   ·rw [if_pos c20] at G
    refine k_seq ?_
    refine k_rg mixed H (.v 9 (.int .u64 j4.1) <|
   .v 10 (.int .u64 (Int.fdiv j4.1 65536)) <|
   .v 0 (.int .u64 (Int.fdiv j4.1 65536)) <| .nil) fun u18 a w' H => ?_
    replace H := H.toM [(0, .slot true (.int .u64 (Int.fdiv j4.1 65536))), (2, sI j4.2)]
    refine k_rg mixed H (.v 11 (vI j4.2) <|
   .v 12 (vI (w_i64 (j4.2 + 16))) <|
   .v 2 (vI (w_i64 (j4.2 + 16))) <| .nil) fun u19 a w' H => ?_
    replace H := H.toM [(0, .slot true (.int .u64 (Int.fdiv j4.1 65536))), (2, (sI (w_i64 (j4.2 + 16))))]
    obtain rfl := Option.some.inj G
    exact H.toL _ (by kernel_rfl)
   ·rw [if_neg (nt c20)] at G
    refine k_skip ?_
    obtain rfl := Option.some.inj G
    exact H.toL _ (by kernel_rfl)
 ·clear G; replace G := hj4; clear hj4
  refine k_seq ?_
  refine k_rg mixed H (.v 3 (.int .u64 a0) <|
   .v 4 (.bool (decide (a0 ≥ 4294967296))) <| .nil) fun u21 a w' H => ?_
  replace H := H.toM [(0, .slot true (.int .u64 a0)), (2, sI 0), (4, (sB (decide (a0 ≥ 4294967296))))]
  refine k_cond H (by kernel_rfl) (t := decide (a0 ≥ 4294967296)) (by kernel_rfl) (fun c24 => ?_) (fun c24 => ?_)
  ·rw [if_pos c24] at G
   refine k_seq ?_
   refine k_rg mixed H (.v 5 (.int .u64 a0) <|
   .v 6 (.int .u64 (Int.fdiv a0 4294967296)) <|
   .v 0 (.int .u64 (Int.fdiv a0 4294967296)) <| .nil) fun u22 a w' H => ?_
   replace H := H.toM [(0, .slot true (.int .u64 (Int.fdiv a0 4294967296)))]
   refine k_rg mixed H (.v 2 (vI 32) <| .nil) fun u23 a w' H => ?_
   replace H := H.toM [(0, .slot true (.int .u64 (Int.fdiv a0 4294967296))), (2, sI 32)]
   obtain rfl := Option.some.inj G
   exact H.toL _ (by kernel_rfl)
  ·rw [if_neg (nt c24)] at G
   refine k_skip ?_
   obtain rfl := Option.some.inj G
   exact H.toL _ (by kernel_rfl)

set_option maxHeartbeats 4000000 in
theorem fixed_Sqrt.calls (k0 : Nat) (a0 : Int) (r : Int × Int × Int) (w : World) (G : fixed_Sqrt k0 a0 = some r) :
  Calls Tryd.prog 90 #[vI a0] w fun e w' => e = .returned (.tuple #[vI r.1, vI r.2.1, vI r.2.2]) ∧ Below w.heap.size w w' := by
 refine k_enter (args := [vI a0]) 40 Tryd.func90 rfl (by kernel_rfl) (by kernel_rfl) fun a H => ?_
 unfold fixed_Sqrt at G
 refine k_seq ?_
 refine k_rg mixed H (.v 2 (vI 0) <|
   .v 3 (vI 0) <|
   .v 4 (vI 0) <| .nil) fun u1 a w' H => ?_
 replace H := H.toM [(0, sI a0)]
 refine k_scope ?_
 refine k_seq ?_
 refine k_seq ?_
 refine k_rg mixed H (.v 8 (vI a0) <|
   .v 9 (.bool (decide (a0 < 0))) <| .nil) fun u2 a w' H => ?_
 replace H := H.toM [(0, sI a0), (9, (sB (decide (a0 < 0))))]
 refine k_cond H (by kernel_rfl) (t := decide (a0 < 0)) (by kernel_rfl) (fun c25 => ?_) (fun c25 => ?_)
 ·rw [if_pos c25] at G
  refine k_seq ?_
  refine k_rg mixed H (.v 2 (vI 0) <|
   .v 3 (vI 0) <|
   .v 4 (vI 4) <| .nil) fun u3 a w' H => ?_
  replace H := H.toM [(2, sI 0), (3, sI 0), (4, sI 4)]
  refine k_ret ?_
  obtain rfl := Option.some.inj G
  exact k_done0 H _ (by kernel_rfl) (by kernel_rfl)
 ·rw [if_neg (nt c25)] at G
  refine k_skip ?_
  refine k_seq ?_
  refine k_rg mixed H (.v 10 (vI a0) <|
   .v 11 (vI (w_i64 (a0 * 65536))) <|
   .v 5 (vI (w_i64 (a0 * 65536))) <| .nil) fun u4 a w' H => ?_
  replace H := H.toM [(5, (sI (w_i64 (a0 * 65536))))]
  refine k_seq ?_
  refine k_seq ?_
  refine k_rg mixed H (.v 12 (vI (w_i64 (a0 * 65536))) <|
   .v 13 (.bool ((w_i64 (a0 * 65536)) == 0)) <| .nil) fun u5 a w' H => ?_
  replace H := H.toM [(5, (sI (w_i64 (a0 * 65536)))), (13, (sB ((w_i64 (a0 * 65536)) == 0)))]
  refine k_cond H (by kernel_rfl) (t := ((w_i64 (a0 * 65536)) == 0)) (by kernel_rfl) (fun c24 => ?_) (fun c24 => ?_)
  ·rw [if_pos c24] at G
   refine k_seq ?_
   refine k_rg mixed H (.v 2 (vI 0) <|
   .v 3 (vI 0) <|
   .v 4 (vI 0) <| .nil) fun u6 a w' H => ?_
   replace H := H.toM [(2, sI 0), (3, sI 0), (4, sI 0)]
   refine k_ret ?_
   obtain rfl := Option.some.inj G
   exact k_done0 H _ (by kernel_rfl) (by kernel_rfl)
  ·rw [if_neg (nt c24)] at G
   refine k_skip ?_
   refine k_seq ?_
   replace G := bnd G; obtain ⟨t8, ht8, G⟩ := G
   replace G := gd G; obtain ⟨n9, G⟩ := G
   refine k_rg mixed H (.v 14 (vI (w_i64 (a0 * 65536))) <|
   .v 15 (.int .u64 (w_u64 (w_i64 (a0 * 65536)))) <|
   .cons [16] (ok_callv 103 (fun u7 => #[.int .u64 (w_u64 (w_i64 (a0 * 65536)))]) (vI t8) 16 [] (fun _ w _ => bits_Len64.calls (w_u64 (w_i64 (a0 * 65536))) t8 w ht8)) <|
   .v 17 (vI (w_i64 (t8 + 1))) <|
   .v 18 (vI (w_i64 (Int.tdiv (w_i64 (t8 + 1)) 2))) <|
   .cons [19] (ok_val (fun u7 => vI (w_i64 (1 * 2 ^ (min (w_i64 (Int.tdiv (w_i64 (t8 + 1)) 2)).toNat 64)))) 19 (hv := fun _ _ => run_of (by kernel_rfl) (run_shl (k := .i64) (yk := .i64) (x := 1) (y := w_i64 (Int.tdiv (w_i64 (t8 + 1)) 2)) n9))) <|
   .v 6 (vI (w_i64 (1 * 2 ^ (min (w_i64 (Int.tdiv (w_i64 (t8 + 1)) 2)).toNat 64)))) <| .nil) fun u7 a w' H => ?_
   replace H := H.toM [(5, (sI (w_i64 (a0 * 65536)))), (6, (sI (w_i64 (1 * 2 ^ (min (w_i64 (Int.tdiv (w_i64 (t8 + 1)) 2)).toNat 64)))))]
   refine k_seq ?_
   refine k_label ?_
   refine k_seq ?_
   replace G := bnd G; obtain ⟨j11, hj11, G⟩ := G
   refine k_join (fun a w' => Rep w.heap.size w 40 (ofL [(5, (sI (w_i64 (a0 * 65536)))), (6, sI j11)]) a w') ?_ ?_
   ·clear H; intro a w' H
    refine k_seq ?_
    refine k_seq ?_
    refine k_rg mixed H (.v 30 (vI j11) <|
   .v 31 (vI j11) <|
   .v 32 (vI (w_i64 (j11 * j11))) <|
   .v 33 (vI (w_i64 (a0 * 65536))) <|
   .v 34 (.bool (decide ((w_i64 (j11 * j11)) < (w_i64 (a0 * 65536))))) <| .nil) fun u12 a w' H => ?_
    replace H := H.toM [(6, sI j11), (34, (sB (decide ((w_i64 (j11 * j11)) < (w_i64 (a0 * 65536))))))]
    refine k_cond H (by kernel_rfl) (t := decide ((w_i64 (j11 * j11)) < (w_i64 (a0 * 65536)))) (by kernel_rfl) (fun c15 => ?_) (fun c15 => ?_)
    ·rw [if_pos c15] at G
     refine k_seq ?_
     refine k_rg mixed H (.v 35 (vI j11) <|
   .v 36 (vI j11) <|
   .v 37 (vI (w_i64 (j11 + 1))) <|
   .v 2 (vI j11) <|
   .v 3 (vI (w_i64 (j11 + 1))) <|
   .v 4 (vI 0) <| .nil) fun u13 a w' H => ?_
     replace H := H.toM [(2, sI j11), (3, (sI (w_i64 (j11 + 1)))), (4, sI 0)]
     refine k_ret ?_
     obtain rfl := Option.some.inj G
     exact k_done0 H _ (by kernel_rfl) (by kernel_rfl)
    ·rw [if_neg (nt c15)] at G
     refine k_skip ?_
     refine k_seq ?_
     refine k_rg mixed H (.v 38 (vI j11) <|
   .v 39 (vI j11) <|
   .v 2 (vI j11) <|
   .v 3 (vI j11) <|
   .v 4 (vI 0) <| .nil) fun u14 a w' H => ?_
     replace H := H.toM [(2, sI j11), (3, sI j11), (4, sI 0)]
     refine k_ret ?_
     obtain rfl := Option.some.inj G
     exact k_done0 H _ (by kernel_rfl) (by kernel_rfl)
   ·clear G; replace G := hj11; clear hj11
    refine k_block ?_
    refine k_loopJ (fun m a w' => ∃ x16 : Int, fixed_Sqrt.l17 k0 a0 t8 m x16 = some j11 ∧ Rep w.heap.size w 40 (ofL [(5, (sI (w_i64 (a0 * 65536)))), (6, sI x16)]) a w') k0 ⟨_, G, H.toL _ (by kernel_rfl)⟩ ?_
    clear G H
    rintro (_ | k) a w' ⟨x16, G, H⟩
    ·exact absurd G (by unfold fixed_Sqrt.l17; exact fun h => by cases h)
    ·unfold fixed_Sqrt.l17 at G
     refine k_block ?_
     refine k_seq ?_
     replace G := gd G; obtain ⟨n19, G⟩ := G
     refine k_rg mixed H (.v 20 (vI x16) <|
   .v 21 (vI (w_i64 (a0 * 65536))) <|
   .v 22 (vI x16) <|
   .cons [23] (ok_val (fun u18 => vI (w_i64 (Int.tdiv (w_i64 (a0 * 65536)) x16))) 23 (hv := fun _ _ => run_of (by kernel_rfl) (run_quo (k := .i64) (x := w_i64 (a0 * 65536)) (y := x16) n19))) <|
   .v 24 (vI (w_i64 (x16 + (w_i64 (Int.tdiv (w_i64 (a0 * 65536)) x16))))) <|
   .v 25 (vI (w_i64 (Int.tdiv (w_i64 (x16 + (w_i64 (Int.tdiv (w_i64 (a0 * 65536)) x16)))) 2))) <|
   .v 7 (vI (w_i64 (Int.tdiv (w_i64 (x16 + (w_i64 (Int.tdiv (w_i64 (a0 * 65536)) x16)))) 2))) <| .nil) fun u18 a w' H => ?_
     replace H := H.toM [(5, (sI (w_i64 (a0 * 65536)))), (6, sI x16), (7, (sI (w_i64 (Int.tdiv (w_i64 (x16 + (w_i64 (Int.tdiv (w_i64 (a0 * 65536)) x16)))) 2))))]
     refine k_seq ?_
     refine k_seq ?_
     replace G := bnd G; obtain ⟨z21, hz21, G⟩ := G
     replace hz21 := Option.some.inj hz21
     refine k_rg mixed H (.v 26 (vI (w_i64 (Int.tdiv (w_i64 (x16 + (w_i64 (Int.tdiv (w_i64 (a0 * 65536)) x16)))) 2))) <|
   .v 27 (vI x16) <|
   .cons [28] (ok_as (u' := fun u20 => [(28, sB z21)]) (ok_val (fun u20 => .bool (decide ((w_i64 (Int.tdiv (w_i64 (x16 + (w_i64 (Int.tdiv (w_i64 (a0 * 65536)) x16)))) 2)) ≥ x16))) 28) (fun _ => by rw [← hz21])) <| .nil) fun u20 a w' H => ?_
     replace H := H.toM [(5, (sI (w_i64 (a0 * 65536)))), (6, sI x16), (7, (sI (w_i64 (Int.tdiv (w_i64 (x16 + (w_i64 (Int.tdiv (w_i64 (a0 * 65536)) x16)))) 2)))), (28, sB z21)]
     refine k_cond H (by kernel_rfl) (t := z21) (by kernel_rfl) (fun c23 => ?_) (fun c23 => ?_)
     ·rw [if_pos c23] at G
      refine k_exit rfl ?_
      obtain rfl := Option.some.inj G
      exact H.toL _ (by kernel_rfl)
     ·rw [if_neg (nt c23)] at G
      refine k_skip ?_
      refine k_rg mixed H (.v 29 (vI (w_i64 (Int.tdiv (w_i64 (x16 + (w_i64 (Int.tdiv (w_i64 (a0 * 65536)) x16)))) 2))) <|
   .v 6 (vI (w_i64 (Int.tdiv (w_i64 (x16 + (w_i64 (Int.tdiv (w_i64 (a0 * 65536)) x16)))) 2))) <| .nil) fun u22 a w' H => ?_
      replace H := H.toM [(5, (sI (w_i64 (a0 * 65536)))), (6, (sI (w_i64 (Int.tdiv (w_i64 (x16 + (w_i64 (Int.tdiv (w_i64 (a0 * 65536)) x16)))) 2))))]
      exact ⟨k, Nat.lt_succ_self k, _, G, H.toL _ (by kernel_rfl)⟩

set_option maxHeartbeats 4000000 in
theorem interval_Sqrt.calls (k0 : Nat) (a0 : TInterval) (r : TInterval × Bool) (w : World) (G : interval_Sqrt k0 a0 = some r) :
  Calls Tryd.prog 62 #[.agg #[vI a0.Lo, vI a0.Hi]] w fun e w' => e = .returned (.tuple #[.agg #[vI r.1.Lo, vI r.1.Hi], .bool r.2]) ∧ Below w.heap.size w w' := by
 refine k_enter (args := [.agg #[vI a0.Lo, vI a0.Hi]]) 37 Tryd.func62 rfl (by kernel_rfl) (by kernel_rfl) fun a H => ?_
 unfold interval_Sqrt at G
 refine k_seq ?_
 refine k_rg mixed H (.cons [1, 37] (ok_new (fun b => vP b 0) (fun u1 => [vI a0.Lo, vI a0.Hi]) 38 1 37) <|
   .cons [2, 38] (ok_new (fun b => vP b 0) (fun u1 => [vI 0, vI 0]) 38 2 38) <|
   .v 3 (.bool false) <| .nil) fun u1 a w' H => ?_
 replace H := H.toM [(1, (sP ((u1 0).n 0) 0)), (2, (sP ((u1 1).n 0) 0)), (37, .blk ((u1 0).n 0) [vI a0.Lo, vI a0.Hi] 38), (38, .blk ((u1 1).n 0) [vI 0, vI 0] 38)]
 refine k_seq ?_
 refine k_block ?_
 refine k_seq ?_
 replace G := bnd G; obtain ⟨t3, ht3, G⟩ := G
 refine k_rg mixed H (.cons [11] (ok_ld (fun u2 => .agg #[vI a0.Lo, vI a0.Hi]) 11 37 0 2 (fun u2 => ((u1 0).n 0)) (fun u2 => [vI a0.Lo, vI a0.Hi]) 38) <|
   .cons [12] (ok_callv 86 (fun u2 => #[.agg #[vI a0.Lo, vI a0.Hi]]) (.bool t3) 12 [] (fun _ w _ => interval_IsEntire.calls a0 t3 w ht3)) <|
   .v 10 (.bool t3) <| .nil) fun u2 a w' H => ?_
 replace H := H.toM [(1, (sP ((u1 0).n 0) 0)), (2, (sP ((u1 1).n 0) 0)), (10, sB t3), (37, .blk ((u1 0).n 0) [vI a0.Lo, vI a0.Hi] 38), (38, .blk ((u1 1).n 0) [vI 0, vI 0] 38)]
 refine k_cond H (by kernel_rfl) (t := t3) (by kernel_rfl) (fun c14 => ?_) (fun c14 => ?_)
 ·rw [if_pos c14] at G
  refine k_seq ?_
  refine k_rg mixed H (.cons [13] (ok_ld (fun u4 => .agg #[vI a0.Lo, vI a0.Hi]) 13 37 0 2 (fun u4 => ((u1 0).n 0)) (fun u4 => [vI a0.Lo, vI a0.Hi]) 38) <|
   .cons [38] (ok_as (u' := fun u4 => [(38, .blk ((u1 1).n 0) [vI a0.Lo, vI a0.Hi] 38)]) (ok_store 38 0 (fun u4 => ((u1 1).n 0)) (fun u4 => [vI 0, vI 0]) (fun u4 => [vI a0.Lo, vI a0.Hi]) 38) (fun _ => by kernel_rfl)) <|
   .v 3 (.bool true) <| .nil) fun u4 a w' H => ?_
  replace H := H.toM [(2, (sP ((u1 1).n 0) 0)), (3, sB true), (38, .blk ((u1 1).n 0) [vI a0.Lo, vI a0.Hi] 38)]
  refine k_ret ?_
  obtain rfl := Option.some.inj G
  exact k_done1 H _ 38 ((u1 1).n 0) [vI a0.Lo, vI a0.Hi] 38 0 2 (by kernel_rfl) (by kernel_rfl) (by kernel_rfl) (by kernel_rfl)
 ·rw [if_neg (nt c14)] at G
  refine k_seq ?_
  refine k_rg mixed H (.v 15 (vP ((u1 0).n 0) 1) <|
   .cons [16] (ok_ld (fun u5 => vI a0.Hi) 16 37 1 1 (fun u5 => ((u1 0).n 0)) (fun u5 => [vI a0.Lo, vI a0.Hi]) 38) <|
   .v 17 (.bool (decide (a0.Hi < 0))) <|
   .v 14 (.bool (decide (a0.Hi < 0))) <| .nil) fun u5 a w' H => ?_
  replace H := H.toM [(1, (sP ((u1 0).n 0) 0)), (2, (sP ((u1 1).n 0) 0)), (14, (sB (decide (a0.Hi < 0)))), (37, .blk ((u1 0).n 0) [vI a0.Lo, vI a0.Hi] 38), (38, .blk ((u1 1).n 0) [vI 0, vI 0] 38)]
  refine k_cond H (by kernel_rfl) (t := decide (a0.Hi < 0)) (by kernel_rfl) (fun c13 => ?_) (fun c13 => ?_)
  ·rw [if_pos c13] at G
   refine k_seq ?_
   refine k_rg mixed H (.v 18 (.agg #[vI 0, vI 0]) <|
   .cons [38] (ok_as (u' := fun u6 => [(38, .blk ((u1 1).n 0) [vI 0, vI 0] 38)]) (ok_store 38 0 (fun u6 => ((u1 1).n 0)) (fun u6 => [vI 0, vI 0]) (fun u6 => [vI 0, vI 0]) 38) (fun _ => by kernel_rfl)) <|
   .v 3 (.bool false) <| .nil) fun u6 a w' H => ?_
   replace H := H.toM [(2, (sP ((u1 1).n 0) 0)), (3, sB false), (38, .blk ((u1 1).n 0) [vI 0, vI 0] 38)]
   refine k_ret ?_
   obtain rfl := Option.some.inj G
   exact k_done1 H _ 38 ((u1 1).n 0) [vI 0, vI 0] 38 0 2 (by kernel_rfl) (by kernel_rfl) (by kernel_rfl) (by kernel_rfl)
  ·rw [if_neg (nt c13)] at G
   refine k_skip ?_
   refine k_seq ?_
   replace G := bnd G; obtain ⟨t8, ht8, G⟩ := G
   refine k_rg mixed H (.v 20 (vP ((u1 0).n 0) 0) <|
   .cons [21] (ok_ld (fun u7 => vI a0.Lo) 21 37 0 1 (fun u7 => ((u1 0).n 0)) (fun u7 => [vI a0.Lo, vI a0.Hi]) 38) <|
   .v 22 (vI (mx a0.Lo 0)) <|
   .cons [23] (ok_callv 90 (fun u7 => #[vI (mx a0.Lo 0)]) (.tuple #[vI t8.1, vI t8.2.1, vI t8.2.2]) 23 [] (fun _ w _ => fixed_Sqrt.calls k0 (mx a0.Lo 0) t8 w ht8)) <|
   .v 19 (.tuple #[vI t8.1, vI t8.2.1, vI t8.2.2]) <|
   .v 24 (vI t8.1) <|
   .v 25 (vI t8.2.1) <|
   .v 26 (vI t8.2.2) <|
   .v 4 (vI t8.1) <|
   .v 5 (vI t8.2.1) <|
   .v 6 (vI t8.2.2) <| .nil) fun u7 a w' H => ?_
   replace H := H.toM [(1, (sP ((u1 0).n 0) 0)), (2, (sP ((u1 1).n 0) 0)), (4, sI t8.1), (37, .blk ((u1 0).n 0) [vI a0.Lo, vI a0.Hi] 38), (38, .blk ((u1 1).n 0) [vI 0, vI 0] 38)]
   refine k_seq ?_
   replace G := bnd G; obtain ⟨t10, ht10, G⟩ := G
   refine k_rg mixed H (.v 28 (vP ((u1 0).n 0) 1) <|
   .cons [29] (ok_ld (fun u9 => vI a0.Hi) 29 37 1 1 (fun u9 => ((u1 0).n 0)) (fun u9 => [vI a0.Lo, vI a0.Hi]) 38) <|
   .cons [30] (ok_callv 90 (fun u9 => #[vI a0.Hi]) (.tuple #[vI t10.1, vI t10.2.1, vI t10.2.2]) 30 [] (fun _ w _ => fixed_Sqrt.calls k0 a0.Hi t10 w ht10)) <|
   .v 27 (.tuple #[vI t10.1, vI t10.2.1, vI t10.2.2]) <|
   .v 31 (vI t10.1) <|
   .v 32 (vI t10.2.1) <|
   .v 33 (vI t10.2.2) <|
   .v 7 (vI t10.1) <|
   .v 8 (vI t10.2.1) <|
   .v 9 (vI t10.2.2) <| .nil) fun u9 a w' H => ?_
   replace H := H.toM [(2, (sP ((u1 1).n 0) 0)), (4, sI t8.1), (8, sI t10.2.1), (38, .blk ((u1 1).n 0) [vI 0, vI 0] 38)]
   refine k_seq ?_
   replace G := bnd G; obtain ⟨t12, ht12, G⟩ := G
   refine k_rg mixed H (.v 34 (vI t8.1) <|
   .v 35 (vI t10.2.1) <|
   .cons [36] (ok_callv 89 (fun u11 => #[vI t8.1, vI t10.2.1]) (.agg #[vI t12.Lo, vI t12.Hi]) 36 [] (fun _ w _ => interval_New.calls t8.1 t10.2.1 t12 w ht12)) <|
   .cons [38] (ok_as (u' := fun u11 => [(38, .blk ((u1 1).n 0) [vI t12.Lo, vI t12.Hi] 38)]) (ok_store 38 0 (fun u11 => ((u1 1).n 0)) (fun u11 => [vI 0, vI 0]) (fun u11 => [vI t12.Lo, vI t12.Hi]) 38) (fun _ => by kernel_rfl)) <|
   .v 3 (.bool true) <| .nil) fun u11 a w' H => ?_
   replace H := H.toM [(2, (sP ((u1 1).n 0) 0)), (3, sB true), (38, .blk ((u1 1).n 0) [vI t12.Lo, vI t12.Hi] 38)]
   refine k_ret ?_
   obtain rfl := Option.some.inj G
   exact k_done1 H _ 38 ((u1 1).n 0) [vI t12.Lo, vI t12.Hi] 38 0 2 (by kernel_rfl) (by kernel_rfl) (by kernel_rfl) (by kernel_rfl)

end Go.Proofs.YtkkodieceehkmaaDoor
