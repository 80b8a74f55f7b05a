/- Each function of the program answers as the plain Lean function of its name (part 0). Printed by a program of this session. -/
import Derived.Test.YtglcmhldonkfdaaDoorEn
set_option linter.unusedVariables false
set_option linter.unusedSimpArgs false
set_option maxRecDepth 100000
namespace Go.Proofs.YtglcmhldonkfdaaDoor
open Go Go.RowKit Go.Sx Go.Proofs
set_option maxHeartbeats 4000000 in
theorem interval_Entire.calls (r : TInterval) (w : World) (G : interval_Entire = some r) :
  Calls Tryd.prog 99 #[] w fun e w' => e = .returned (.agg #[vI r.Lo, vI r.Hi]) ∧ Below w.heap.size w w' := by
 refine k_enter (args := []) 2 Tryd.func99 rfl (by kernel_rfl) (by kernel_rfl) fun a H => ?_
 unfold interval_Entire at G
 refine k_seq ?_
 refine k_rg mixed H (.cons [0, 2] (ok_new (fun b => vP b 0) (fun u1 => [vI 0, vI 0]) 37 0 2) <| .nil) fun u1 a w' H => ?_
 replace H := H.kp [0, 2]
 refine k_seq ?_
 refine k_rg mixed H (.v 1 (.agg #[vI (-2147483648), vI 2147483648]) <|
   .cons [2] (ok_as (u' := fun u2 => [(2, .blk ((u1 0).n 0) [vI (-2147483648), vI 2147483648] 37)]) (ok_store 2 0 (fun u2 => ((u1 0).n 0)) (fun u2 => [vI 0, vI 0]) (fun u2 => [vI (-2147483648), vI 2147483648]) 37) (fun _ => by kernel_rfl)) <| .nil) fun u2 a w' H => ?_
 replace H := H.kp [0, 2]
 refine k_ret ?_
 obtain rfl := Option.some.inj G
 exact k_done1 H _ 2 ((u1 0).n 0) [vI (-2147483648), vI 2147483648] 37 0 2 (by kernel_rfl) (by kernel_rfl) (by kernel_rfl) (by kernel_rfl)
set_option maxHeartbeats 4000000 in
theorem interval_IsEntire.calls (a0 : TInterval) (r : Bool) (w : World) (G : interval_IsEntire a0 = some r) :
  Calls Tryd.prog 76 #[.agg #[vI a0.Lo, vI a0.Hi]] w fun e w' => e = .returned (.bool r) ∧ Below w.heap.size w w' := by
 refine k_enter (args := [.agg #[vI a0.Lo, vI a0.Hi]]) 6 Tryd.func76 rfl (by kernel_rfl) (by kernel_rfl) fun a H => ?_
 unfold interval_IsEntire at G
 refine k_seq ?_
 refine k_rg mixed H (.cons [1, 6] (ok_new (fun b => vP b 0) (fun u1 => [vI a0.Lo, vI a0.Hi]) 37 1 6) <|
   .v 2 (.bool false) <| .nil) fun u1 a w' H => ?_
 replace H := H.kp [1, 6]
 refine k_seq ?_
 replace G := bnd G; obtain ⟨t3, ht3, G⟩ := G
 refine k_rg mixed H (.cons [3] (ok_ld (fun u2 => .agg #[vI a0.Lo, vI a0.Hi]) 3 6 0 2 (fun u2 => ((u1 0).n 0)) (fun u2 => [vI a0.Lo, vI a0.Hi]) 37) <|
   .cons [4] (ok_callv 99 (fun u2 => #[]) (.agg #[vI t3.Lo, vI t3.Hi]) 4 [] (fun u2 w _ => interval_Entire.calls   t3 w  ht3)) <|
   .cons [5] (ok_val (fun u2 => .bool ((a0.Lo == t3.Lo) && ((a0.Hi == t3.Hi) && true))) 5 (hv := fun _ _ => run_of (by kernel_rfl) (run_eql_agg (t := 37) (x := (.tmp 3)) (y := (.tmp 4)) (xs := #[vI a0.Lo, vI a0.Hi]) (ys := #[vI t3.Lo, vI t3.Hi]) (b := ((a0.Lo == t3.Lo) && ((a0.Hi == t3.Hi) && true))) (by kernel_rfl) (by kernel_rfl)))) <|
   .v 2 (.bool ((a0.Lo == t3.Lo) && ((a0.Hi == t3.Hi) && true))) <| .nil) fun u2 a w' H => ?_
 replace H := H.kp [2]
 refine k_ret ?_
 obtain rfl := Option.some.inj G
 exact k_done0 H _ (by kernel_rfl) (by kernel_rfl)
set_option maxHeartbeats 4000000 in
theorem interval_New.calls (a0 : Int) (a1 : Int) (r : TInterval) (w : World) (G : interval_New a0 a1 = some r) :
  Calls Tryd.prog 91 #[vI a0, vI a1] w fun e w' => e = .returned (.agg #[vI r.Lo, vI r.Hi]) ∧ Below w.heap.size w w' := by
 refine k_enter (args := [vI a0, vI a1]) 23 Tryd.func91 rfl (by kernel_rfl) (by kernel_rfl) fun a H => ?_
 unfold interval_New at G
 refine k_seq ?_
 refine k_rg mixed H (.cons [4, 23] (ok_new (fun b => vP b 0) (fun u1 => [vI 0, vI 0]) 37 4 23) <| .nil) fun u1 a w' H => ?_
 replace H := H.kp [0, 1, 4, 23]
 refine k_seq ?_
 refine k_seq ?_
 replace G := bnd G; obtain ⟨z3, hz3, G⟩ := G
 replace hz3 := Option.some.inj hz3
 refine k_rg mixed H (.v 5 (vI a0) <|
   .v 6 (.bool (decide (a0 ≤ (-2147483648)))) <|
   .v 7 (.bool (decide (a0 ≤ (-2147483648)))) <|
   .cons [8] (ok_valg (fun u2 => vI a1) (fun u2 => ((decide (a0 ≤ (-2147483648))) == false)) [true] 8) <|
   .cons [9] (ok_valg (fun u2 => .bool (decide (a1 ≥ 2147483648))) (fun u2 => ((decide (a0 ≤ (-2147483648))) == false)) [false, true] 9) <|
   .cons [10] (ok_or 7 9 (fun u2 => true) (fun u2 => true) (fun u2 => decide (a0 ≤ (-2147483648))) (fun u2 => decide (a1 ≥ 2147483648)) 10) <|
   .v 11 (.bool ((decide (a0 ≤ (-2147483648))) || (decide (a1 ≥ 2147483648)))) <|
   .cons [12] (ok_valg (fun u2 => vI a0) (fun u2 => (((decide (a0 ≤ (-2147483648))) || (decide (a1 ≥ 2147483648))) == false)) [true] 12) <|
   .cons [13] (ok_valg (fun u2 => .bool (decide (a0 ≥ 2147483648))) (fun u2 => (((decide (a0 ≤ (-2147483648))) || (decide (a1 ≥ 2147483648))) == false)) [false, true] 13) <|
   .cons [14] (ok_or 11 13 (fun u2 => true) (fun u2 => true) (fun u2 => ((decide (a0 ≤ (-2147483648))) || (decide (a1 ≥ 2147483648)))) (fun u2 => decide (a0 ≥ 2147483648)) 14) <|
   .cons [15] (ok_as (u' := fun u2 => [(15, sB z3)]) (ok_val (fun u2 => .bool (((decide (a0 ≤ (-2147483648))) || (decide (a1 ≥ 2147483648))) || (decide (a0 ≥ 2147483648)))) 15) (fun _ => by rw [← hz3])) <|
   .cons [16] (ok_valg (fun u2 => vI a1) (fun u2 => (z3 == false)) [true] 16) <|
   .cons [17] (ok_valg (fun u2 => .bool (decide (a1 ≤ (-2147483648)))) (fun u2 => (z3 == false)) [false, true] 17) <|
   .cons [18] (ok_or 15 17 (fun u2 => true) (fun u2 => true) (fun u2 => z3) (fun u2 => decide (a1 ≤ (-2147483648))) 18) <| .nil) fun u2 a w' H => ?_
 replace H := H.kp [0, 1, 4, 18, 23]
 refine k_cond H (by kernel_rfl) (t := (z3 || (decide (a1 ≤ (-2147483648))))) (by kernel_rfl) (fun c7 => ?_) (fun c7 => ?_)
 ·rw [if_pos c7] at G
  refine k_seq ?_
  replace G := bnd G; obtain ⟨t5, ht5, G⟩ := G
  refine k_rg mixed H (.cons [19] (ok_callv 99 (fun u4 => #[]) (.agg #[vI t5.Lo, vI t5.Hi]) 19 [] (fun u4 w _ => interval_Entire.calls   t5 w  ht5)) <|
   .cons [23] (ok_as (u' := fun u4 => [(23, .blk ((u1 0).n 0) [vI t5.Lo, vI t5.Hi] 37)]) (ok_store 23 0 (fun u4 => ((u1 0).n 0)) (fun u4 => [vI 0, vI 0]) (fun u4 => [vI t5.Lo, vI t5.Hi]) 37) (fun _ => by kernel_rfl)) <| .nil) fun u4 a w' H => ?_
  replace H := H.kp [4, 23]
  refine k_ret ?_
  obtain rfl := Option.some.inj G
  exact k_done1 H _ 23 ((u1 0).n 0) [vI t5.Lo, vI t5.Hi] 37 0 2 (by kernel_rfl) (by kernel_rfl) (by kernel_rfl) (by kernel_rfl)
 ·rw [if_neg (nt c7)] at G
  refine k_skip ?_
  refine k_seq ?_
  refine k_rg mixed H (.v 20 (vI a0) <|
   .v 21 (vI a1) <|
   .v 22 (.agg #[vI a0, vI a1]) <|
   .cons [23] (ok_as (u' := fun u6 => [(23, .blk ((u1 0).n 0) [vI a0, vI a1] 37)]) (ok_store 23 0 (fun u6 => ((u1 0).n 0)) (fun u6 => [vI 0, vI 0]) (fun u6 => [vI a0, vI a1]) 37) (fun _ => by kernel_rfl)) <| .nil) fun u6 a w' H => ?_
  replace H := H.kp [4, 23]
  refine k_ret ?_
  obtain rfl := Option.some.inj G
  exact k_done1 H _ 23 ((u1 0).n 0) [vI a0, vI a1] 37 0 2 (by kernel_rfl) (by kernel_rfl) (by kernel_rfl) (by kernel_rfl)
set_option maxHeartbeats 4000000 in
theorem interval_side.calls (a0 : TInterval) (r : Int) (w : World) (G : interval_side a0 = some r) :
  Calls Tryd.prog 100 #[.agg #[vI a0.Lo, vI a0.Hi]] w fun e w' => e = .returned (vI r) ∧ Below w.heap.size w w' := by
 refine k_enter (args := [.agg #[vI a0.Lo, vI a0.Hi]]) 11 Tryd.func100 rfl (by kernel_rfl) (by kernel_rfl) fun a H => ?_
 unfold interval_side at G
 refine k_seq ?_
 refine k_rg mixed H (.cons [1, 11] (ok_new (fun b => vP b 0) (fun u1 => [vI a0.Lo, vI a0.Hi]) 37 1 11) <|
   .v 2 (vI 0) <| .nil) fun u1 a w' H => ?_
 replace H := H.kp [1, 11]
 refine k_seq ?_
 refine k_block ?_
 refine k_seq ?_
 refine k_rg mixed H (.v 4 (vP ((u1 0).n 0) 1) <|
   .cons [5] (ok_ld (fun u2 => vI a0.Hi) 5 11 1 1 (fun u2 => ((u1 0).n 0)) (fun u2 => [vI a0.Lo, vI a0.Hi]) 37) <|
   .v 6 (.bool (decide (a0.Hi ≤ 0))) <|
   .v 3 (.bool (decide (a0.Hi ≤ 0))) <| .nil) fun u2 a w' H => ?_
 replace H := H.kp [1, 3, 11]
 refine k_cond H (by kernel_rfl) (t := decide (a0.Hi ≤ 0)) (by kernel_rfl) (fun c8 => ?_) (fun c8 => ?_)
 ·rw [if_pos c8] at G
  refine k_seq ?_
  refine k_rg mixed H (.v 2 (vI 0) <| .nil) fun u3 a w' H => ?_
  replace H := H.kp [2]
  refine k_ret ?_
  obtain rfl := Option.some.inj G
  exact k_done0 H _ (by kernel_rfl) (by kernel_rfl)
 ·rw [if_neg (nt c8)] at G
  refine k_seq ?_
  refine k_rg mixed H (.v 8 (vP ((u1 0).n 0) 0) <|
   .cons [9] (ok_ld (fun u4 => vI a0.Lo) 9 11 0 1 (fun u4 => ((u1 0).n 0)) (fun u4 => [vI a0.Lo, vI a0.Hi]) 37) <|
   .v 10 (.bool (decide (a0.Lo ≥ 0))) <|
   .v 7 (.bool (decide (a0.Lo ≥ 0))) <| .nil) fun u4 a w' H => ?_
  replace H := H.kp [7]
  refine k_cond H (by kernel_rfl) (t := decide (a0.Lo ≥ 0)) (by kernel_rfl) (fun c7 => ?_) (fun c7 => ?_)
  ·rw [if_pos c7] at G
   refine k_seq ?_
   refine k_rg mixed H (.v 2 (vI 2) <| .nil) fun u5 a w' H => ?_
   replace H := H.kp [2]
   refine k_ret ?_
   obtain rfl := Option.some.inj G
   exact k_done0 H _ (by kernel_rfl) (by kernel_rfl)
  ·rw [if_neg (nt c7)] at G
   refine k_skip ?_
   refine k_seq ?_
   refine k_rg mixed H (.v 2 (vI 1) <| .nil) fun u6 a w' H => ?_
   replace H := H.kp [2]
   refine k_ret ?_
   obtain rfl := Option.some.inj G
   exact k_done0 H _ (by kernel_rfl) (by kernel_rfl)
set_option maxHeartbeats 4000000 in
theorem fixed_divide_1.calls (a0 : Int) (r : Int) (w : World) (G : fixed_divide_1 a0 = some r) :
  Calls Tryd.prog 112 #[vI a0] w fun e w' => e = .returned (vI r) ∧ Below w.heap.size w w' := by
 refine k_enter (args := [vI a0]) 5 Tryd.func112 rfl (by kernel_rfl) (by kernel_rfl) fun a H => ?_
 unfold fixed_divide_1 at G
 refine k_seq ?_
 refine k_rg mixed H (.v 2 (vI 0) <| .nil) fun u1 a w' H => ?_
 replace H := H.kp [0]
 refine k_seq ?_
 refine k_rg mixed H (.v 3 (vI a0) <|
   .v 4 (vI (mn a0 1)) <|
   .v 2 (vI (mn a0 1)) <| .nil) fun u2 a w' H => ?_
 replace H := H.kp [2]
 refine k_ret ?_
 obtain rfl := Option.some.inj G
 exact k_done0 H _ (by kernel_rfl) (by kernel_rfl)
set_option maxHeartbeats 4000000 in
theorem fixed_floorCeil_int64_s112.calls (a0 : Int) (a1 : Int) (r : Int × Int) (w : World) (G : fixed_floorCeil_int64_s112 a0 a1 = some r) :
  Calls Tryd.prog 111 #[vI a0, vI a1, .func (.func 112) #[] #[]] w fun e w' => e = .returned (.tuple #[vI r.1, vI r.2]) ∧ Below w.heap.size w w' := by
 refine k_enter (args := [vI a0, vI a1, .func (.func 112) #[] #[]]) 29 Tryd.func111 rfl (by kernel_rfl) (by kernel_rfl) fun a H => ?_
 unfold fixed_floorCeil_int64_s112 at G
 refine k_seq ?_
 refine k_rg mixed H (.v 6 (vI 0) <|
   .v 7 (vI 0) <| .nil) fun u1 a w' H => ?_
 replace H := H.kp [0, 1, 2]
 refine k_seq ?_
 replace G := gd G; obtain ⟨n3, G⟩ := G
 replace G := gd G; obtain ⟨n4, G⟩ := G
 refine k_rg mixed H (.v 10 (vI a0) <|
   .v 11 (vI a1) <|
   .cons [12] (ok_val (fun u2 => vI (w_i64 (Int.tdiv a0 a1))) 12 (hv := fun _ _ => run_of (by kernel_rfl) (run_quo (k := .i64) (x := a0) (y := a1) n3))) <|
   .v 13 (vI a0) <|
   .v 14 (vI a1) <|
   .cons [15] (ok_val (fun u2 => vI (Int.tmod a0 a1)) 15 (hv := fun _ _ => run_of (by kernel_rfl) (run_rem (k := .i64) (x := a0) (y := a1) n4))) <|
   .v 8 (vI (w_i64 (Int.tdiv a0 a1))) <|
   .v 9 (vI (Int.tmod a0 a1)) <| .nil) fun u2 a w' H => ?_
 replace H := H.kp [1, 2, 8, 9]
 refine k_seq ?_
 replace G := bnd G; obtain ⟨j7, hj7, G⟩ := G
 refine k_join (fun a w' => Rep w.heap.size w 29 (ofL [(2, .slot true (.func (.func 112) #[] #[])), (8, sI j7.1), (9, sI j7.2)]) a w') ?_ ?_
 ·clear H; intro a w' H
  refine k_seq ?_
  replace G := bnd G; obtain ⟨t9, ht9, G⟩ := G
  refine k_rg mixed H (.v 23 (vI j7.1) <|
   .v 24 (vI j7.1) <|
   .v 25 (.func (.func 112) #[] #[]) <|
   .v 26 (vI j7.2) <|
   .cons [27] (ok_callv 112 (fun u8 => #[vI j7.2]) (vI t9) 27 [] (fun u8 w _ => fixed_divide_1.calls j7.2  t9 w  ht9)) <|
   .v 28 (vI (w_i64 (j7.1 + t9))) <|
   .v 6 (vI j7.1) <|
   .v 7 (vI (w_i64 (j7.1 + t9))) <| .nil) fun u8 a w' H => ?_
  replace H := H.kp [6, 7]
  refine k_ret ?_
  obtain rfl := Option.some.inj G
  exact k_done0 H _ (by kernel_rfl) (by kernel_rfl)
 ·clear G; replace G := hj7; clear hj7
  refine k_seq ?_
  refine k_rg mixed H (.v 16 (vI (Int.tmod a0 a1)) <|
   .v 17 (.bool (decide ((Int.tmod a0 a1) < 0))) <| .nil) fun u10 a w' H => ?_
  replace H := H.kp [1, 2, 8, 9, 17]
  refine k_cond H (by kernel_rfl) (t := decide ((Int.tmod a0 a1) < 0)) (by kernel_rfl) (fun c12 => ?_) (fun c12 => ?_)
  ·rw [if_pos c12] at G
   refine k_rg mixed H (.v 18 (vI (w_i64 (Int.tdiv a0 a1))) <|
   .v 19 (vI (w_i64 ((w_i64 (Int.tdiv a0 a1)) - 1))) <|
   .v 20 (vI (Int.tmod a0 a1)) <|
   .v 21 (vI a1) <|
   .v 22 (vI (w_i64 ((Int.tmod a0 a1) + a1))) <|
   .v 8 (vI (w_i64 ((w_i64 (Int.tdiv a0 a1)) - 1))) <|
   .v 9 (vI (w_i64 ((Int.tmod a0 a1) + a1))) <| .nil) fun u11 a w' H => ?_
   replace H := H.kp [2, 8, 9]
   obtain rfl := Option.some.inj G
   exact H.toL _ (by kernel_rfl)
  ·rw [if_neg (nt c12)] at G
   refine k_skip ?_
   obtain rfl := Option.some.inj G
   exact H.toL _ (by kernel_rfl)
set_option maxHeartbeats 4000000 in
theorem fixed_divide.calls (a0 : Int) (a1 : Int) (r : Int × Int) (w : World) (G : fixed_divide a0 a1 = some r) :
  Calls Tryd.prog 109 #[vI a0, vI a1] w fun e w' => e = .returned (.tuple #[vI r.1, vI r.2]) ∧ Below w.heap.size w w' := by
 refine k_enter (args := [vI a0, vI a1]) 17 Tryd.func109 rfl (by kernel_rfl) (by kernel_rfl) fun a H => ?_
 unfold fixed_divide at G
 refine k_seq ?_
 refine k_rg mixed H (.v 4 (vI 0) <|
   .v 5 (vI 0) <| .nil) fun u1 a w' H => ?_
 replace H := H.kp [0, 1]
 refine k_seq ?_
 replace G := bnd G; obtain ⟨j4, hj4, G⟩ := G
 refine k_join (fun a w' => Rep w.heap.size w 17 (ofL [(0, sI j4.1), (1, sI j4.2)]) a w') ?_ ?_
 ·clear H; intro a w' H
  refine k_seq ?_
  replace G := bnd G; obtain ⟨t6, ht6, G⟩ := G
  refine k_rg mixed H (.v 12 (vI j4.1) <|
   .v 13 (vI j4.2) <|
   .cons [14] (ok_callv 111 (fun u5 => #[vI j4.1, vI j4.2, .func (.func 112) #[] #[]]) (.tuple #[vI t6.1, vI t6.2]) 14 [] (fun u5 w _ => fixed_floorCeil_int64_s112.calls j4.1 j4.2  t6 w  ht6)) <|
   .v 15 (vI t6.1) <|
   .v 16 (vI t6.2) <|
   .v 4 (vI t6.1) <|
   .v 5 (vI t6.2) <| .nil) fun u5 a w' H => ?_
  replace H := H.kp [4, 5]
  refine k_ret ?_
  obtain rfl := Option.some.inj G
  exact k_done0 H _ (by kernel_rfl) (by kernel_rfl)
 ·clear G; replace G := hj4; clear hj4
  refine k_seq ?_
  refine k_rg mixed H (.v 6 (vI a1) <|
   .v 7 (.bool (decide (a1 < 0))) <| .nil) fun u7 a w' H => ?_
  replace H := H.kp [0, 1, 7]
  refine k_cond H (by kernel_rfl) (t := decide (a1 < 0)) (by kernel_rfl) (fun c9 => ?_) (fun c9 => ?_)
  ·rw [if_pos c9] at G
   refine k_rg mixed H (.v 8 (vI a0) <|
   .v 9 (vI (w_i64 (0 - a0))) <|
   .v 10 (vI a1) <|
   .v 11 (vI (w_i64 (0 - a1))) <|
   .v 0 (vI (w_i64 (0 - a0))) <|
   .v 1 (vI (w_i64 (0 - a1))) <| .nil) fun u8 a w' H => ?_
   replace H := H.kp [0, 1]
   obtain rfl := Option.some.inj G
   exact H.toL _ (by kernel_rfl)
  ·rw [if_neg (nt c9)] at G
   refine k_skip ?_
   obtain rfl := Option.some.inj G
   exact H.toL _ (by kernel_rfl)
set_option maxHeartbeats 4000000 in
theorem fixed_Mul.calls (a0 : Int) (a1 : Int) (r : Int × Int) (w : World) (G : fixed_Mul a0 a1 = some r) :
  Calls Tryd.prog 104 #[vI a0, vI a1] w fun e w' => e = .returned (.tuple #[vI r.1, vI r.2]) ∧ Below w.heap.size w w' := by
 refine k_enter (args := [vI a0, vI a1]) 12 Tryd.func104 rfl (by kernel_rfl) (by kernel_rfl) fun a H => ?_
 unfold fixed_Mul at G
 refine k_seq ?_
 refine k_rg mixed H (.v 4 (vI 0) <|
   .v 5 (vI 0) <| .nil) fun u1 a w' H => ?_
 replace H := H.kp [0, 1]
 refine k_seq ?_
 replace G := bnd G; obtain ⟨t3, ht3, G⟩ := G
 refine k_rg mixed H (.v 6 (vI a0) <|
   .v 7 (vI a1) <|
   .v 8 (vI (w_i64 (a0 * a1))) <|
   .cons [9] (ok_callv 109 (fun u2 => #[vI (w_i64 (a0 * a1)), vI 65536]) (.tuple #[vI t3.1, vI t3.2]) 9 [] (fun u2 w _ => fixed_divide.calls (w_i64 (a0 * a1)) 65536  t3 w  ht3)) <|
   .v 10 (vI t3.1) <|
   .v 11 (vI t3.2) <|
   .v 4 (vI t3.1) <|
   .v 5 (vI t3.2) <| .nil) fun u2 a w' H => ?_
 replace H := H.kp [4, 5]
 refine k_ret ?_
 obtain rfl := Option.some.inj G
 exact k_done0 H _ (by kernel_rfl) (by kernel_rfl)
set_option maxHeartbeats 4000000 in
theorem interval_hl.calls (a0 : TInterval) (a1 : TInterval) (r : Int × Int) (w : World) (G : interval_hl a0 a1 = some r) :
  Calls Tryd.prog 130 #[.agg #[vI a0.Lo, vI a0.Hi], .agg #[vI a1.Lo, vI a1.Hi]] w fun e w' => e = .returned (.tuple #[vI r.1, vI r.2]) ∧ Below w.heap.size w w' := by
 refine k_enter (args := [.agg #[vI a0.Lo, vI a0.Hi], .agg #[vI a1.Lo, vI a1.Hi]]) 10 Tryd.func130 rfl (by kernel_rfl) (by kernel_rfl) fun a H => ?_
 unfold interval_hl at G
 refine k_seq ?_
 refine k_rg mixed H (.cons [2, 10] (ok_new (fun b => vP b 0) (fun u1 => [vI a0.Lo, vI a0.Hi]) 37 2 10) <|
   .cons [3, 11] (ok_new (fun b => vP b 0) (fun u1 => [vI a1.Lo, vI a1.Hi]) 37 3 11) <|
   .v 4 (vI 0) <|
   .v 5 (vI 0) <| .nil) fun u1 a w' H => ?_
 replace H := H.kp [2, 3, 10, 11]
 refine k_seq ?_
 refine k_rg mixed H (.v 6 (vP ((u1 0).n 0) 1) <|
   .cons [7] (ok_ld (fun u2 => vI a0.Hi) 7 10 1 1 (fun u2 => ((u1 0).n 0)) (fun u2 => [vI a0.Lo, vI a0.Hi]) 37) <|
   .v 8 (vP ((u1 1).n 0) 0) <|
   .cons [9] (ok_ld (fun u2 => vI a1.Lo) 9 11 0 1 (fun u2 => ((u1 1).n 0)) (fun u2 => [vI a1.Lo, vI a1.Hi]) 37) <|
   .v 4 (vI a0.Hi) <|
   .v 5 (vI a1.Lo) <| .nil) fun u2 a w' H => ?_
 replace H := H.kp [4, 5]
 refine k_ret ?_
 obtain rfl := Option.some.inj G
 exact k_done0 H _ (by kernel_rfl) (by kernel_rfl)
set_option maxHeartbeats 4000000 in
theorem interval_lh.calls (a0 : TInterval) (a1 : TInterval) (r : Int × Int) (w : World) (G : interval_lh a0 a1 = some r) :
  Calls Tryd.prog 131 #[.agg #[vI a0.Lo, vI a0.Hi], .agg #[vI a1.Lo, vI a1.Hi]] w fun e w' => e = .returned (.tuple #[vI r.1, vI r.2]) ∧ Below w.heap.size w w' := by
 refine k_enter (args := [.agg #[vI a0.Lo, vI a0.Hi], .agg #[vI a1.Lo, vI a1.Hi]]) 10 Tryd.func131 rfl (by kernel_rfl) (by kernel_rfl) fun a H => ?_
 unfold interval_lh at G
 refine k_seq ?_
 refine k_rg mixed H (.cons [2, 10] (ok_new (fun b => vP b 0) (fun u1 => [vI a0.Lo, vI a0.Hi]) 37 2 10) <|
   .cons [3, 11] (ok_new (fun b => vP b 0) (fun u1 => [vI a1.Lo, vI a1.Hi]) 37 3 11) <|
   .v 4 (vI 0) <|
   .v 5 (vI 0) <| .nil) fun u1 a w' H => ?_
 replace H := H.kp [2, 3, 10, 11]
 refine k_seq ?_
 refine k_rg mixed H (.v 6 (vP ((u1 0).n 0) 0) <|
   .cons [7] (ok_ld (fun u2 => vI a0.Lo) 7 10 0 1 (fun u2 => ((u1 0).n 0)) (fun u2 => [vI a0.Lo, vI a0.Hi]) 37) <|
   .v 8 (vP ((u1 1).n 0) 1) <|
   .cons [9] (ok_ld (fun u2 => vI a1.Hi) 9 11 1 1 (fun u2 => ((u1 1).n 0)) (fun u2 => [vI a1.Lo, vI a1.Hi]) 37) <|
   .v 4 (vI a0.Lo) <|
   .v 5 (vI a1.Hi) <| .nil) fun u2 a w' H => ?_
 replace H := H.kp [4, 5]
 refine k_ret ?_
 obtain rfl := Option.some.inj G
 exact k_done0 H _ (by kernel_rfl) (by kernel_rfl)
set_option maxHeartbeats 4000000 in
theorem interval_ll.calls (a0 : TInterval) (a1 : TInterval) (r : Int × Int) (w : World) (G : interval_ll a0 a1 = some r) :
  Calls Tryd.prog 132 #[.agg #[vI a0.Lo, vI a0.Hi], .agg #[vI a1.Lo, vI a1.Hi]] w fun e w' => e = .returned (.tuple #[vI r.1, vI r.2]) ∧ Below w.heap.size w w' := by
 refine k_enter (args := [.agg #[vI a0.Lo, vI a0.Hi], .agg #[vI a1.Lo, vI a1.Hi]]) 10 Tryd.func132 rfl (by kernel_rfl) (by kernel_rfl) fun a H => ?_
 unfold interval_ll at G
 refine k_seq ?_
 refine k_rg mixed H (.cons [2, 10] (ok_new (fun b => vP b 0) (fun u1 => [vI a0.Lo, vI a0.Hi]) 37 2 10) <|
   .cons [3, 11] (ok_new (fun b => vP b 0) (fun u1 => [vI a1.Lo, vI a1.Hi]) 37 3 11) <|
   .v 4 (vI 0) <|
   .v 5 (vI 0) <| .nil) fun u1 a w' H => ?_
 replace H := H.kp [2, 3, 10, 11]
 refine k_seq ?_
 refine k_rg mixed H (.v 6 (vP ((u1 0).n 0) 0) <|
   .cons [7] (ok_ld (fun u2 => vI a0.Lo) 7 10 0 1 (fun u2 => ((u1 0).n 0)) (fun u2 => [vI a0.Lo, vI a0.Hi]) 37) <|
   .v 8 (vP ((u1 1).n 0) 0) <|
   .cons [9] (ok_ld (fun u2 => vI a1.Lo) 9 11 0 1 (fun u2 => ((u1 1).n 0)) (fun u2 => [vI a1.Lo, vI a1.Hi]) 37) <|
   .v 4 (vI a0.Lo) <|
   .v 5 (vI a1.Lo) <| .nil) fun u2 a w' H => ?_
 replace H := H.kp [4, 5]
 refine k_ret ?_
 obtain rfl := Option.some.inj G
 exact k_done0 H _ (by kernel_rfl) (by kernel_rfl)
set_option maxHeartbeats 4000000 in
theorem interval_hh.calls (a0 : TInterval) (a1 : TInterval) (r : Int × Int) (w : World) (G : interval_hh a0 a1 = some r) :
  Calls Tryd.prog 133 #[.agg #[vI a0.Lo, vI a0.Hi], .agg #[vI a1.Lo, vI a1.Hi]] w fun e w' => e = .returned (.tuple #[vI r.1, vI r.2]) ∧ Below w.heap.size w w' := by
 refine k_enter (args := [.agg #[vI a0.Lo, vI a0.Hi], .agg #[vI a1.Lo, vI a1.Hi]]) 10 Tryd.func133 rfl (by kernel_rfl) (by kernel_rfl) fun a H => ?_
 unfold interval_hh at G
 refine k_seq ?_
 refine k_rg mixed H (.cons [2, 10] (ok_new (fun b => vP b 0) (fun u1 => [vI a0.Lo, vI a0.Hi]) 37 2 10) <|
   .cons [3, 11] (ok_new (fun b => vP b 0) (fun u1 => [vI a1.Lo, vI a1.Hi]) 37 3 11) <|
   .v 4 (vI 0) <|
   .v 5 (vI 0) <| .nil) fun u1 a w' H => ?_
 replace H := H.kp [2, 3, 10, 11]
 refine k_seq ?_
 refine k_rg mixed H (.v 6 (vP ((u1 0).n 0) 1) <|
   .cons [7] (ok_ld (fun u2 => vI a0.Hi) 7 10 1 1 (fun u2 => ((u1 0).n 0)) (fun u2 => [vI a0.Lo, vI a0.Hi]) 37) <|
   .v 8 (vP ((u1 1).n 0) 1) <|
   .cons [9] (ok_ld (fun u2 => vI a1.Hi) 9 11 1 1 (fun u2 => ((u1 1).n 0)) (fun u2 => [vI a1.Lo, vI a1.Hi]) 37) <|
   .v 4 (vI a0.Hi) <|
   .v 5 (vI a1.Hi) <| .nil) fun u2 a w' H => ?_
 replace H := H.kp [4, 5]
 refine k_ret ?_
 obtain rfl := Option.some.inj G
 exact k_done0 H _ (by kernel_rfl) (by kernel_rfl)
set_option maxHeartbeats 4000000 in
theorem interval_Mul.calls (a0 : TInterval) (a1 : TInterval) (r : TInterval) (w : World) (hg : Glob w) (G : interval_Mul a0 a1 = some r) :
  Calls Tryd.prog 74 #[.agg #[vI a0.Lo, vI a0.Hi], .agg #[vI a1.Lo, vI a1.Hi]] w fun e w' => e = .returned (.agg #[vI r.Lo, vI r.Hi]) ∧ Below w.heap.size w w' := by
 refine k_enterG (args := [.agg #[vI a0.Lo, vI a0.Hi], .agg #[vI a1.Lo, vI a1.Hi]]) 106 999999 globFp Glob (glob_local hg) (glob_in hg) Tryd.func74 rfl (by kernel_rfl) (by kernel_rfl) fun a H => ?_
 unfold interval_Mul at G
 refine k_seq ?_
 refine k_rg mixed H (.cons [2, 106] (ok_new (fun b => vP b 0) (fun u1 => [vI a0.Lo, vI a0.Hi]) 37 2 106) <|
   .cons [3, 107] (ok_new (fun b => vP b 0) (fun u1 => [vI a1.Lo, vI a1.Hi]) 37 3 107) <|
   .cons [4, 108] (ok_new (fun b => vP b 0) (fun u1 => [vI 0, vI 0]) 37 4 108) <| .nil) fun u1 a w' H => ?_
 replace H := H.kp [2, 3, 4, 106, 107, 108, 999999]
 refine k_seq ?_
 refine k_seq ?_
 replace G := bnd G; obtain ⟨t3, ht3, G⟩ := G
 replace G := bnd G; obtain ⟨t4, ht4, G⟩ := G
 refine k_rg mixed H (.cons [20] (ok_ld (fun u2 => .agg #[vI a0.Lo, vI a0.Hi]) 20 106 0 2 (fun u2 => ((u1 0).n 0)) (fun u2 => [vI a0.Lo, vI a0.Hi]) 37) <|
   .cons [21] (ok_callv 76 (fun u2 => #[.agg #[vI a0.Lo, vI a0.Hi]]) (.bool t3) 21 [] (fun u2 w _ => interval_IsEntire.calls a0  t3 w  ht3)) <|
   .v 22 (.bool t3) <|
   .cons [23] (ok_ldg (fun u2 => .agg #[vI a1.Lo, vI a1.Hi]) (fun u2 => (t3 == false)) [true] 23 107 0 2 (fun u2 => ((u1 1).n 0)) (fun u2 => [vI a1.Lo, vI a1.Hi]) 37) <|
   .cons [24] (ok_call 76 (fun u2 => #[.agg #[vI a1.Lo, vI a1.Hi]]) (.bool t4) (fun u2 => (t3 == false)) [true, false] 24 [] (fun u2 w hg _ => interval_IsEntire.calls a1  t4 w  (ifp ht4 hg))) <|
   .cons [25] (ok_or 22 24 (fun u2 => true) (fun u2 => true) (fun u2 => t3) (fun u2 => t4) 25) <| .nil) fun u2 a w' H => ?_
 replace H := H.kp [2, 3, 4, 25, 106, 107, 108, 999999]
 refine k_cond H (by kernel_rfl) (t := (t3 || t4)) (by kernel_rfl) (fun c107 => ?_) (fun c107 => ?_)
 ·rw [if_pos c107] at G
  refine k_seq ?_
  replace G := bnd G; obtain ⟨t6, ht6, G⟩ := G
  refine k_rg mixed H (.cons [26] (ok_callv 99 (fun u5 => #[]) (.agg #[vI t6.Lo, vI t6.Hi]) 26 [] (fun u5 w _ => interval_Entire.calls   t6 w  ht6)) <|
   .cons [108] (ok_as (u' := fun u5 => [(108, .blk ((u1 2).n 0) [vI t6.Lo, vI t6.Hi] 37)]) (ok_store 108 0 (fun u5 => ((u1 2).n 0)) (fun u5 => [vI 0, vI 0]) (fun u5 => [vI t6.Lo, vI t6.Hi]) 37) (fun _ => by kernel_rfl)) <| .nil) fun u5 a w' H => ?_
  replace H := H.kp [4, 108, 999999]
  refine k_ret ?_
  obtain rfl := Option.some.inj G
  exact k_done1 H _ 108 ((u1 2).n 0) [vI t6.Lo, vI t6.Hi] 37 0 2 (by kernel_rfl) (by kernel_rfl) (by kernel_rfl) (by kernel_rfl)
 ·rw [if_neg (nt c107)] at G
  refine k_skip ?_
  refine k_seq ?_
  replace G := bnd G; obtain ⟨t8, ht8, G⟩ := G
  replace G := bnd G; obtain ⟨t9, ht9, G⟩ := G
  refine k_rg mixed H (.cons [27] (ok_ld (fun u7 => .agg #[vI a0.Lo, vI a0.Hi]) 27 106 0 2 (fun u7 => ((u1 0).n 0)) (fun u7 => [vI a0.Lo, vI a0.Hi]) 37) <|
   .cons [28] (ok_callv 100 (fun u7 => #[.agg #[vI a0.Lo, vI a0.Hi]]) (vI t8) 28 [] (fun u7 w _ => interval_side.calls a0  t8 w  ht8)) <|
   .cons [29] (ok_ld (fun u7 => .agg #[vI a1.Lo, vI a1.Hi]) 29 107 0 2 (fun u7 => ((u1 1).n 0)) (fun u7 => [vI a1.Lo, vI a1.Hi]) 37) <|
   .cons [30] (ok_callv 100 (fun u7 => #[.agg #[vI a1.Lo, vI a1.Hi]]) (vI t9) 30 [] (fun u7 w _ => interval_side.calls a1  t9 w  ht9)) <|
   .v 5 (vI t8) <|
   .v 6 (vI t9) <| .nil) fun u7 a w' H => ?_
  replace H := H.kp [2, 3, 4, 5, 6, 106, 107, 108, 999999]
  refine k_seq ?_
  refine k_seq ?_
  refine k_rg mixed H (.v 31 (vI t8) <|
   .v 32 (.bool (t8 == 1)) <|
   .v 33 (.bool (t8 == 1)) <|
   .cons [34] (ok_valg (fun u10 => vI t9) (fun u10 => ((t8 == 1) == true)) [true] 34) <|
   .cons [35] (ok_valg (fun u10 => .bool (t9 == 1)) (fun u10 => ((t8 == 1) == true)) [false, true] 35) <|
   .cons [36] (ok_and 33 35 (fun u10 => true) (fun u10 => true) (fun u10 => (t8 == 1)) (fun u10 => (t9 == 1)) 36) <| .nil) fun u10 a w' H => ?_
  replace H := H.kp [2, 3, 4, 5, 6, 36, 106, 107, 108, 999999]
  refine k_cond H (by kernel_rfl) (t := ((t8 == 1) && (t9 == 1))) (by kernel_rfl) (fun c106 => ?_) (fun c106 => ?_)
  ·rw [if_pos c106] at G
   refine k_seq ?_
   replace G := bnd G; obtain ⟨t12, ht12, G⟩ := G
   refine k_rg mixed H (.v 38 (vP ((u1 0).n 0) 0) <|
   .cons [39] (ok_ld (fun u11 => vI a0.Lo) 39 106 0 1 (fun u11 => ((u1 0).n 0)) (fun u11 => [vI a0.Lo, vI a0.Hi]) 37) <|
   .v 40 (vP ((u1 1).n 0) 1) <|
   .cons [41] (ok_ld (fun u11 => vI a1.Hi) 41 107 1 1 (fun u11 => ((u1 1).n 0)) (fun u11 => [vI a1.Lo, vI a1.Hi]) 37) <|
   .cons [42] (ok_callv 104 (fun u11 => #[vI a0.Lo, vI a1.Hi]) (.tuple #[vI t12.1, vI t12.2]) 42 [] (fun u11 w _ => fixed_Mul.calls a0.Lo a1.Hi  t12 w  ht12)) <|
   .v 37 (.tuple #[vI t12.1, vI t12.2]) <|
   .v 43 (vI t12.1) <|
   .v 44 (vI t12.2) <|
   .v 7 (vI t12.1) <|
   .v 8 (vI t12.2) <| .nil) fun u11 a w' H => ?_
   replace H := H.kp [2, 3, 4, 7, 106, 107, 108, 999999]
   refine k_seq ?_
   replace G := bnd G; obtain ⟨t14, ht14, G⟩ := G
   refine k_rg mixed H (.v 46 (vP ((u1 0).n 0) 1) <|
   .cons [47] (ok_ld (fun u13 => vI a0.Hi) 47 106 1 1 (fun u13 => ((u1 0).n 0)) (fun u13 => [vI a0.Lo, vI a0.Hi]) 37) <|
   .v 48 (vP ((u1 1).n 0) 0) <|
   .cons [49] (ok_ld (fun u13 => vI a1.Lo) 49 107 0 1 (fun u13 => ((u1 1).n 0)) (fun u13 => [vI a1.Lo, vI a1.Hi]) 37) <|
   .cons [50] (ok_callv 104 (fun u13 => #[vI a0.Hi, vI a1.Lo]) (.tuple #[vI t14.1, vI t14.2]) 50 [] (fun u13 w _ => fixed_Mul.calls a0.Hi a1.Lo  t14 w  ht14)) <|
   .v 45 (.tuple #[vI t14.1, vI t14.2]) <|
   .v 51 (vI t14.1) <|
   .v 52 (vI t14.2) <|
   .v 9 (vI t14.1) <|
   .v 10 (vI t14.2) <| .nil) fun u13 a w' H => ?_
   replace H := H.kp [2, 3, 4, 7, 9, 106, 107, 108, 999999]
   refine k_seq ?_
   replace G := bnd G; obtain ⟨t16, ht16, G⟩ := G
   refine k_rg mixed H (.v 54 (vP ((u1 0).n 0) 0) <|
   .cons [55] (ok_ld (fun u15 => vI a0.Lo) 55 106 0 1 (fun u15 => ((u1 0).n 0)) (fun u15 => [vI a0.Lo, vI a0.Hi]) 37) <|
   .v 56 (vP ((u1 1).n 0) 0) <|
   .cons [57] (ok_ld (fun u15 => vI a1.Lo) 57 107 0 1 (fun u15 => ((u1 1).n 0)) (fun u15 => [vI a1.Lo, vI a1.Hi]) 37) <|
   .cons [58] (ok_callv 104 (fun u15 => #[vI a0.Lo, vI a1.Lo]) (.tuple #[vI t16.1, vI t16.2]) 58 [] (fun u15 w _ => fixed_Mul.calls a0.Lo a1.Lo  t16 w  ht16)) <|
   .v 53 (.tuple #[vI t16.1, vI t16.2]) <|
   .v 59 (vI t16.1) <|
   .v 60 (vI t16.2) <|
   .v 11 (vI t16.1) <|
   .v 12 (vI t16.2) <| .nil) fun u15 a w' H => ?_
   replace H := H.kp [2, 3, 4, 7, 9, 12, 106, 107, 108, 999999]
   refine k_seq ?_
   replace G := bnd G; obtain ⟨t18, ht18, G⟩ := G
   refine k_rg mixed H (.v 62 (vP ((u1 0).n 0) 1) <|
   .cons [63] (ok_ld (fun u17 => vI a0.Hi) 63 106 1 1 (fun u17 => ((u1 0).n 0)) (fun u17 => [vI a0.Lo, vI a0.Hi]) 37) <|
   .v 64 (vP ((u1 1).n 0) 1) <|
   .cons [65] (ok_ld (fun u17 => vI a1.Hi) 65 107 1 1 (fun u17 => ((u1 1).n 0)) (fun u17 => [vI a1.Lo, vI a1.Hi]) 37) <|
   .cons [66] (ok_callv 104 (fun u17 => #[vI a0.Hi, vI a1.Hi]) (.tuple #[vI t18.1, vI t18.2]) 66 [] (fun u17 w _ => fixed_Mul.calls a0.Hi a1.Hi  t18 w  ht18)) <|
   .v 61 (.tuple #[vI t18.1, vI t18.2]) <|
   .v 67 (vI t18.1) <|
   .v 68 (vI t18.2) <|
   .v 13 (vI t18.1) <|
   .v 14 (vI t18.2) <| .nil) fun u17 a w' H => ?_
   replace H := H.toM [(4, (sP ((u1 2).n 0) 0)), (7, sI t12.1), (9, sI t14.1), (12, sI t16.2), (14, sI t18.2), (108, .blk ((u1 2).n 0) [vI 0, vI 0] 37), (999999, gk)]
   refine k_seq ?_
   replace G := bnd G; obtain ⟨t20, ht20, G⟩ := G
   refine k_rg mixed H (.v 69 (vI t12.1) <|
   .v 70 (vI t14.1) <|
   .v 71 (vI (mn t12.1 t14.1)) <|
   .v 72 (vI t16.2) <|
   .v 73 (vI t18.2) <|
   .v 74 (vI (mx t16.2 t18.2)) <|
   .cons [75] (ok_callv 91 (fun u19 => #[vI (mn t12.1 t14.1), vI (mx t16.2 t18.2)]) (.agg #[vI t20.Lo, vI t20.Hi]) 75 [] (fun u19 w _ => interval_New.calls (mn t12.1 t14.1) (mx t16.2 t18.2)  t20 w  ht20)) <|
   .cons [108] (ok_as (u' := fun u19 => [(108, .blk ((u1 2).n 0) [vI t20.Lo, vI t20.Hi] 37)]) (ok_store 108 0 (fun u19 => ((u1 2).n 0)) (fun u19 => [vI 0, vI 0]) (fun u19 => [vI t20.Lo, vI t20.Hi]) 37) (fun _ => by kernel_rfl)) <| .nil) fun u19 a w' H => ?_
   replace H := H.kp [4, 108, 999999]
   refine k_ret ?_
   obtain rfl := Option.some.inj G
   exact k_done1 H _ 108 ((u1 2).n 0) [vI t20.Lo, vI t20.Hi] 37 0 2 (by kernel_rfl) (by kernel_rfl) (by kernel_rfl) (by kernel_rfl)
  ·rw [if_neg (nt c106)] at G
   refine k_skip ?_
   refine k_seq ?_
   by_cases c103 : t8 = 0
   ·rw [if_pos c103] at G; subst c103
    by_cases c48 : t9 = 0
    ·rw [if_pos c48] at G; subst c48
     refine k_rg mixed H (.v 76 (vI 0) <|
   .v 77 (vI 0) <|
   .v 78 (vP 1 0) <|
   .v 79 (vP 1 0) <|
   .cons [80] (ok_ldK (fun u21 => .agg #[.func (.func 133) #[] #[], .func (.func 132) #[] #[]]) 80 999999 gk 1 0 2 gTab1 (fun w h => (glob_of h).tab1)) <|
   .cons [15, 109] (ok_new (fun b => vP b 0) (fun u21 => [.nilFunc, .nilFunc]) 104 15 109) <|
   .cons [109] (ok_as (u' := fun u21 => [(109, .blk ((u21 5).n 0) [.func (.func 133) #[] #[], .func (.func 132) #[] #[]] 104)]) (ok_store 109 0 (fun u21 => ((u21 5).n 0)) (fun u21 => [.nilFunc, .nilFunc]) (fun u21 => [.func (.func 133) #[] #[], .func (.func 132) #[] #[]]) 104) (fun _ => by kernel_rfl)) <| .nil) fun u21 a w' H => ?_
     replace H := H.kp [2, 3, 4, 15, 106, 107, 108, 109, 999999]
     refine k_seq ?_
     replace G := bnd G; obtain ⟨t23, ht23, G⟩ := G
     replace G := bnd G; obtain ⟨t24, ht24, G⟩ := G
     refine k_rg mixed H (.v 82 (vP ((u21 5).n 0) 0) <|
   .cons [83] (ok_ld (fun u22 => .func (.func 133) #[] #[]) 83 109 0 1 (fun u22 => ((u21 5).n 0)) (fun u22 => [.func (.func 133) #[] #[], .func (.func 132) #[] #[]]) 104) <|
   .cons [84] (ok_ld (fun u22 => .agg #[vI a0.Lo, vI a0.Hi]) 84 106 0 2 (fun u22 => ((u1 0).n 0)) (fun u22 => [vI a0.Lo, vI a0.Hi]) 37) <|
   .cons [85] (ok_ld (fun u22 => .agg #[vI a1.Lo, vI a1.Hi]) 85 107 0 2 (fun u22 => ((u1 1).n 0)) (fun u22 => [vI a1.Lo, vI a1.Hi]) 37) <|
   .cons [86] (ok_callv 133 (fun u22 => #[.agg #[vI a0.Lo, vI a0.Hi], .agg #[vI a1.Lo, vI a1.Hi]]) (.tuple #[vI t23.1, vI t23.2]) 86 [] (fun u22 w _ => interval_hh.calls a0 a1  t23 w  ht23)) <|
   .v 87 (vI t23.1) <|
   .v 88 (vI t23.2) <|
   .cons [89] (ok_callv 104 (fun u22 => #[vI t23.1, vI t23.2]) (.tuple #[vI t24.1, vI t24.2]) 89 [] (fun u22 w _ => fixed_Mul.calls t23.1 t23.2  t24 w  ht24)) <|
   .v 81 (.tuple #[vI t24.1, vI t24.2]) <|
   .v 90 (vI t24.1) <|
   .v 91 (vI t24.2) <|
   .v 16 (vI t24.1) <|
   .v 17 (vI t24.2) <| .nil) fun u22 a w' H => ?_
     replace H := H.kp [2, 3, 4, 15, 16, 106, 107, 108, 109, 999999]
     refine k_seq ?_
     replace G := bnd G; obtain ⟨t26, ht26, G⟩ := G
     replace G := bnd G; obtain ⟨t27, ht27, G⟩ := G
     refine k_rg mixed H (.v 93 (vP ((u21 5).n 0) 1) <|
   .cons [94] (ok_ld (fun u25 => .func (.func 132) #[] #[]) 94 109 1 1 (fun u25 => ((u21 5).n 0)) (fun u25 => [.func (.func 133) #[] #[], .func (.func 132) #[] #[]]) 104) <|
   .cons [95] (ok_ld (fun u25 => .agg #[vI a0.Lo, vI a0.Hi]) 95 106 0 2 (fun u25 => ((u1 0).n 0)) (fun u25 => [vI a0.Lo, vI a0.Hi]) 37) <|
   .cons [96] (ok_ld (fun u25 => .agg #[vI a1.Lo, vI a1.Hi]) 96 107 0 2 (fun u25 => ((u1 1).n 0)) (fun u25 => [vI a1.Lo, vI a1.Hi]) 37) <|
   .cons [97] (ok_callv 132 (fun u25 => #[.agg #[vI a0.Lo, vI a0.Hi], .agg #[vI a1.Lo, vI a1.Hi]]) (.tuple #[vI t26.1, vI t26.2]) 97 [] (fun u25 w _ => interval_ll.calls a0 a1  t26 w  ht26)) <|
   .v 98 (vI t26.1) <|
   .v 99 (vI t26.2) <|
   .cons [100] (ok_callv 104 (fun u25 => #[vI t26.1, vI t26.2]) (.tuple #[vI t27.1, vI t27.2]) 100 [] (fun u25 w _ => fixed_Mul.calls t26.1 t26.2  t27 w  ht27)) <|
   .v 92 (.tuple #[vI t27.1, vI t27.2]) <|
   .v 101 (vI t27.1) <|
   .v 102 (vI t27.2) <|
   .v 18 (vI t27.1) <|
   .v 19 (vI t27.2) <| .nil) fun u25 a w' H => ?_
     replace H := H.kp [4, 16, 19, 108, 999999]
     refine k_seq ?_
     replace G := bnd G; obtain ⟨t29, ht29, G⟩ := G
     refine k_rg mixed H (.v 103 (vI t24.1) <|
   .v 104 (vI t27.2) <|
   .cons [105] (ok_callv 91 (fun u28 => #[vI t24.1, vI t27.2]) (.agg #[vI t29.Lo, vI t29.Hi]) 105 [] (fun u28 w _ => interval_New.calls t24.1 t27.2  t29 w  ht29)) <|
   .cons [108] (ok_as (u' := fun u28 => [(108, .blk ((u1 2).n 0) [vI t29.Lo, vI t29.Hi] 37)]) (ok_store 108 0 (fun u28 => ((u1 2).n 0)) (fun u28 => [vI 0, vI 0]) (fun u28 => [vI t29.Lo, vI t29.Hi]) 37) (fun _ => by kernel_rfl)) <| .nil) fun u28 a w' H => ?_
     replace H := H.kp [4, 108, 999999]
     refine k_ret ?_
     obtain rfl := Option.some.inj G
     exact k_done1 H _ 108 ((u1 2).n 0) [vI t29.Lo, vI t29.Hi] 37 0 2 (by kernel_rfl) (by kernel_rfl) (by kernel_rfl) (by kernel_rfl)
    rw [if_neg c48] at G
    by_cases c49 : t9 = 1
    ·rw [if_pos c49] at G; subst c49
     refine k_rg mixed H (.v 76 (vI 0) <|
   .v 77 (vI 1) <|
   .v 78 (vP 1 0) <|
   .v 79 (vP 1 2) <|
   .cons [80] (ok_ldK (fun u30 => .agg #[.func (.func 131) #[] #[], .func (.func 132) #[] #[]]) 80 999999 gk 1 2 2 gTab1 (fun w h => (glob_of h).tab1)) <|
   .cons [15, 110] (ok_new (fun b => vP b 0) (fun u30 => [.nilFunc, .nilFunc]) 104 15 110) <|
   .cons [110] (ok_as (u' := fun u30 => [(110, .blk ((u30 5).n 0) [.func (.func 131) #[] #[], .func (.func 132) #[] #[]] 104)]) (ok_store 110 0 (fun u30 => ((u30 5).n 0)) (fun u30 => [.nilFunc, .nilFunc]) (fun u30 => [.func (.func 131) #[] #[], .func (.func 132) #[] #[]]) 104) (fun _ => by kernel_rfl)) <| .nil) fun u30 a w' H => ?_
     replace H := H.kp [2, 3, 4, 15, 106, 107, 108, 110, 999999]
     refine k_seq ?_
     replace G := bnd G; obtain ⟨t32, ht32, G⟩ := G
     replace G := bnd G; obtain ⟨t33, ht33, G⟩ := G
     refine k_rg mixed H (.v 82 (vP ((u30 5).n 0) 0) <|
   .cons [83] (ok_ld (fun u31 => .func (.func 131) #[] #[]) 83 110 0 1 (fun u31 => ((u30 5).n 0)) (fun u31 => [.func (.func 131) #[] #[], .func (.func 132) #[] #[]]) 104) <|
   .cons [84] (ok_ld (fun u31 => .agg #[vI a0.Lo, vI a0.Hi]) 84 106 0 2 (fun u31 => ((u1 0).n 0)) (fun u31 => [vI a0.Lo, vI a0.Hi]) 37) <|
   .cons [85] (ok_ld (fun u31 => .agg #[vI a1.Lo, vI a1.Hi]) 85 107 0 2 (fun u31 => ((u1 1).n 0)) (fun u31 => [vI a1.Lo, vI a1.Hi]) 37) <|
   .cons [86] (ok_callv 131 (fun u31 => #[.agg #[vI a0.Lo, vI a0.Hi], .agg #[vI a1.Lo, vI a1.Hi]]) (.tuple #[vI t32.1, vI t32.2]) 86 [] (fun u31 w _ => interval_lh.calls a0 a1  t32 w  ht32)) <|
   .v 87 (vI t32.1) <|
   .v 88 (vI t32.2) <|
   .cons [89] (ok_callv 104 (fun u31 => #[vI t32.1, vI t32.2]) (.tuple #[vI t33.1, vI t33.2]) 89 [] (fun u31 w _ => fixed_Mul.calls t32.1 t32.2  t33 w  ht33)) <|
   .v 81 (.tuple #[vI t33.1, vI t33.2]) <|
   .v 90 (vI t33.1) <|
   .v 91 (vI t33.2) <|
   .v 16 (vI t33.1) <|
   .v 17 (vI t33.2) <| .nil) fun u31 a w' H => ?_
     replace H := H.kp [2, 3, 4, 15, 16, 106, 107, 108, 110, 999999]
     refine k_seq ?_
     replace G := bnd G; obtain ⟨t35, ht35, G⟩ := G
     replace G := bnd G; obtain ⟨t36, ht36, G⟩ := G
     refine k_rg mixed H (.v 93 (vP ((u30 5).n 0) 1) <|
   .cons [94] (ok_ld (fun u34 => .func (.func 132) #[] #[]) 94 110 1 1 (fun u34 => ((u30 5).n 0)) (fun u34 => [.func (.func 131) #[] #[], .func (.func 132) #[] #[]]) 104) <|
   .cons [95] (ok_ld (fun u34 => .agg #[vI a0.Lo, vI a0.Hi]) 95 106 0 2 (fun u34 => ((u1 0).n 0)) (fun u34 => [vI a0.Lo, vI a0.Hi]) 37) <|
   .cons [96] (ok_ld (fun u34 => .agg #[vI a1.Lo, vI a1.Hi]) 96 107 0 2 (fun u34 => ((u1 1).n 0)) (fun u34 => [vI a1.Lo, vI a1.Hi]) 37) <|
   .cons [97] (ok_callv 132 (fun u34 => #[.agg #[vI a0.Lo, vI a0.Hi], .agg #[vI a1.Lo, vI a1.Hi]]) (.tuple #[vI t35.1, vI t35.2]) 97 [] (fun u34 w _ => interval_ll.calls a0 a1  t35 w  ht35)) <|
   .v 98 (vI t35.1) <|
   .v 99 (vI t35.2) <|
   .cons [100] (ok_callv 104 (fun u34 => #[vI t35.1, vI t35.2]) (.tuple #[vI t36.1, vI t36.2]) 100 [] (fun u34 w _ => fixed_Mul.calls t35.1 t35.2  t36 w  ht36)) <|
   .v 92 (.tuple #[vI t36.1, vI t36.2]) <|
   .v 101 (vI t36.1) <|
   .v 102 (vI t36.2) <|
   .v 18 (vI t36.1) <|
   .v 19 (vI t36.2) <| .nil) fun u34 a w' H => ?_
     replace H := H.kp [4, 16, 19, 108, 999999]
     refine k_seq ?_
     replace G := bnd G; obtain ⟨t38, ht38, G⟩ := G
     refine k_rg mixed H (.v 103 (vI t33.1) <|
   .v 104 (vI t36.2) <|
   .cons [105] (ok_callv 91 (fun u37 => #[vI t33.1, vI t36.2]) (.agg #[vI t38.Lo, vI t38.Hi]) 105 [] (fun u37 w _ => interval_New.calls t33.1 t36.2  t38 w  ht38)) <|
   .cons [108] (ok_as (u' := fun u37 => [(108, .blk ((u1 2).n 0) [vI t38.Lo, vI t38.Hi] 37)]) (ok_store 108 0 (fun u37 => ((u1 2).n 0)) (fun u37 => [vI 0, vI 0]) (fun u37 => [vI t38.Lo, vI t38.Hi]) 37) (fun _ => by kernel_rfl)) <| .nil) fun u37 a w' H => ?_
     replace H := H.toM [(4, (sP ((u1 2).n 0) 0)), (108, .blk ((u1 2).n 0) [vI t38.Lo, vI t38.Hi] 37), (999999, gk)]
     refine k_ret ?_
     obtain rfl := Option.some.inj G
     exact k_done1 H _ 108 ((u1 2).n 0) [vI t38.Lo, vI t38.Hi] 37 0 2 (by kernel_rfl) (by kernel_rfl) (by kernel_rfl) (by kernel_rfl)
    rw [if_neg c49] at G
    by_cases c50 : t9 = 2
    ·rw [if_pos c50] at G; subst c50
     refine k_rg mixed H (.v 76 (vI 0) <|
   .v 77 (vI 2) <|
   .v 78 (vP 1 0) <|
   .v 79 (vP 1 4) <|
   .cons [80] (ok_ldK (fun u39 => .agg #[.func (.func 131) #[] #[], .func (.func 130) #[] #[]]) 80 999999 gk 1 4 2 gTab1 (fun w h => (glob_of h).tab1)) <|
   .cons [15, 111] (ok_new (fun b => vP b 0) (fun u39 => [.nilFunc, .nilFunc]) 104 15 111) <|
   .cons [111] (ok_as (u' := fun u39 => [(111, .blk ((u39 5).n 0) [.func (.func 131) #[] #[], .func (.func 130) #[] #[]] 104)]) (ok_store 111 0 (fun u39 => ((u39 5).n 0)) (fun u39 => [.nilFunc, .nilFunc]) (fun u39 => [.func (.func 131) #[] #[], .func (.func 130) #[] #[]]) 104) (fun _ => by kernel_rfl)) <| .nil) fun u39 a w' H => ?_
     replace H := H.kp [2, 3, 4, 15, 106, 107, 108, 111, 999999]
     refine k_seq ?_
     replace G := bnd G; obtain ⟨t41, ht41, G⟩ := G
     replace G := bnd G; obtain ⟨t42, ht42, G⟩ := G
     refine k_rg mixed H (.v 82 (vP ((u39 5).n 0) 0) <|
   .cons [83] (ok_ld (fun u40 => .func (.func 131) #[] #[]) 83 111 0 1 (fun u40 => ((u39 5).n 0)) (fun u40 => [.func (.func 131) #[] #[], .func (.func 130) #[] #[]]) 104) <|
   .cons [84] (ok_ld (fun u40 => .agg #[vI a0.Lo, vI a0.Hi]) 84 106 0 2 (fun u40 => ((u1 0).n 0)) (fun u40 => [vI a0.Lo, vI a0.Hi]) 37) <|
   .cons [85] (ok_ld (fun u40 => .agg #[vI a1.Lo, vI a1.Hi]) 85 107 0 2 (fun u40 => ((u1 1).n 0)) (fun u40 => [vI a1.Lo, vI a1.Hi]) 37) <|
   .cons [86] (ok_callv 131 (fun u40 => #[.agg #[vI a0.Lo, vI a0.Hi], .agg #[vI a1.Lo, vI a1.Hi]]) (.tuple #[vI t41.1, vI t41.2]) 86 [] (fun u40 w _ => interval_lh.calls a0 a1  t41 w  ht41)) <|
   .v 87 (vI t41.1) <|
   .v 88 (vI t41.2) <|
   .cons [89] (ok_callv 104 (fun u40 => #[vI t41.1, vI t41.2]) (.tuple #[vI t42.1, vI t42.2]) 89 [] (fun u40 w _ => fixed_Mul.calls t41.1 t41.2  t42 w  ht42)) <|
   .v 81 (.tuple #[vI t42.1, vI t42.2]) <|
   .v 90 (vI t42.1) <|
   .v 91 (vI t42.2) <|
   .v 16 (vI t42.1) <|
   .v 17 (vI t42.2) <| .nil) fun u40 a w' H => ?_
     replace H := H.kp [2, 3, 4, 15, 16, 106, 107, 108, 111, 999999]
     refine k_seq ?_
     replace G := bnd G; obtain ⟨t44, ht44, G⟩ := G
     replace G := bnd G; obtain ⟨t45, ht45, G⟩ := G
     refine k_rg mixed H (.v 93 (vP ((u39 5).n 0) 1) <|
   .cons [94] (ok_ld (fun u43 => .func (.func 130) #[] #[]) 94 111 1 1 (fun u43 => ((u39 5).n 0)) (fun u43 => [.func (.func 131) #[] #[], .func (.func 130) #[] #[]]) 104) <|
   .cons [95] (ok_ld (fun u43 => .agg #[vI a0.Lo, vI a0.Hi]) 95 106 0 2 (fun u43 => ((u1 0).n 0)) (fun u43 => [vI a0.Lo, vI a0.Hi]) 37) <|
   .cons [96] (ok_ld (fun u43 => .agg #[vI a1.Lo, vI a1.Hi]) 96 107 0 2 (fun u43 => ((u1 1).n 0)) (fun u43 => [vI a1.Lo, vI a1.Hi]) 37) <|
   .cons [97] (ok_callv 130 (fun u43 => #[.agg #[vI a0.Lo, vI a0.Hi], .agg #[vI a1.Lo, vI a1.Hi]]) (.tuple #[vI t44.1, vI t44.2]) 97 [] (fun u43 w _ => interval_hl.calls a0 a1  t44 w  ht44)) <|
   .v 98 (vI t44.1) <|
   .v 99 (vI t44.2) <|
   .cons [100] (ok_callv 104 (fun u43 => #[vI t44.1, vI t44.2]) (.tuple #[vI t45.1, vI t45.2]) 100 [] (fun u43 w _ => fixed_Mul.calls t44.1 t44.2  t45 w  ht45)) <|
   .v 92 (.tuple #[vI t45.1, vI t45.2]) <|
   .v 101 (vI t45.1) <|
   .v 102 (vI t45.2) <|
   .v 18 (vI t45.1) <|
   .v 19 (vI t45.2) <| .nil) fun u43 a w' H => ?_
     replace H := H.kp [4, 16, 19, 108, 999999]
     refine k_seq ?_
     replace G := bnd G; obtain ⟨t47, ht47, G⟩ := G
     refine k_rg mixed H (.v 103 (vI t42.1) <|
   .v 104 (vI t45.2) <|
   .cons [105] (ok_callv 91 (fun u46 => #[vI t42.1, vI t45.2]) (.agg #[vI t47.Lo, vI t47.Hi]) 105 [] (fun u46 w _ => interval_New.calls t42.1 t45.2  t47 w  ht47)) <|
   .cons [108] (ok_as (u' := fun u46 => [(108, .blk ((u1 2).n 0) [vI t47.Lo, vI t47.Hi] 37)]) (ok_store 108 0 (fun u46 => ((u1 2).n 0)) (fun u46 => [vI 0, vI 0]) (fun u46 => [vI t47.Lo, vI t47.Hi]) 37) (fun _ => by kernel_rfl)) <| .nil) fun u46 a w' H => ?_
     replace H := H.kp [4, 108, 999999]
     refine k_ret ?_
     obtain rfl := Option.some.inj G
     exact k_done1 H _ 108 ((u1 2).n 0) [vI t47.Lo, vI t47.Hi] 37 0 2 (by kernel_rfl) (by kernel_rfl) (by kernel_rfl) (by kernel_rfl)
    rw [if_neg c50] at G
    cases G
   rw [if_neg c103] at G
   by_cases c104 : t8 = 1
   ·rw [if_pos c104] at G; subst c104
    by_cases c70 : t9 = 0
    ·rw [if_pos c70] at G; subst c70
     refine k_rg mixed H (.v 76 (vI 1) <|
   .v 77 (vI 0) <|
   .v 78 (vP 1 6) <|
   .v 79 (vP 1 6) <|
   .cons [80] (ok_ldK (fun u51 => .agg #[.func (.func 130) #[] #[], .func (.func 132) #[] #[]]) 80 999999 gk 1 6 2 gTab1 (fun w h => (glob_of h).tab1)) <|
   .cons [15, 112] (ok_new (fun b => vP b 0) (fun u51 => [.nilFunc, .nilFunc]) 104 15 112) <|
   .cons [112] (ok_as (u' := fun u51 => [(112, .blk ((u51 5).n 0) [.func (.func 130) #[] #[], .func (.func 132) #[] #[]] 104)]) (ok_store 112 0 (fun u51 => ((u51 5).n 0)) (fun u51 => [.nilFunc, .nilFunc]) (fun u51 => [.func (.func 130) #[] #[], .func (.func 132) #[] #[]]) 104) (fun _ => by kernel_rfl)) <| .nil) fun u51 a w' H => ?_
     replace H := H.kp [2, 3, 4, 15, 106, 107, 108, 112, 999999]
     refine k_seq ?_
     replace G := bnd G; obtain ⟨t53, ht53, G⟩ := G
     replace G := bnd G; obtain ⟨t54, ht54, G⟩ := G
     refine k_rg mixed H (.v 82 (vP ((u51 5).n 0) 0) <|
   .cons [83] (ok_ld (fun u52 => .func (.func 130) #[] #[]) 83 112 0 1 (fun u52 => ((u51 5).n 0)) (fun u52 => [.func (.func 130) #[] #[], .func (.func 132) #[] #[]]) 104) <|
   .cons [84] (ok_ld (fun u52 => .agg #[vI a0.Lo, vI a0.Hi]) 84 106 0 2 (fun u52 => ((u1 0).n 0)) (fun u52 => [vI a0.Lo, vI a0.Hi]) 37) <|
   .cons [85] (ok_ld (fun u52 => .agg #[vI a1.Lo, vI a1.Hi]) 85 107 0 2 (fun u52 => ((u1 1).n 0)) (fun u52 => [vI a1.Lo, vI a1.Hi]) 37) <|
   .cons [86] (ok_callv 130 (fun u52 => #[.agg #[vI a0.Lo, vI a0.Hi], .agg #[vI a1.Lo, vI a1.Hi]]) (.tuple #[vI t53.1, vI t53.2]) 86 [] (fun u52 w _ => interval_hl.calls a0 a1  t53 w  ht53)) <|
   .v 87 (vI t53.1) <|
   .v 88 (vI t53.2) <|
   .cons [89] (ok_callv 104 (fun u52 => #[vI t53.1, vI t53.2]) (.tuple #[vI t54.1, vI t54.2]) 89 [] (fun u52 w _ => fixed_Mul.calls t53.1 t53.2  t54 w  ht54)) <|
   .v 81 (.tuple #[vI t54.1, vI t54.2]) <|
   .v 90 (vI t54.1) <|
   .v 91 (vI t54.2) <|
   .v 16 (vI t54.1) <|
   .v 17 (vI t54.2) <| .nil) fun u52 a w' H => ?_
     replace H := H.kp [2, 3, 4, 15, 16, 106, 107, 108, 112, 999999]
     refine k_seq ?_
     replace G := bnd G; obtain ⟨t56, ht56, G⟩ := G
     replace G := bnd G; obtain ⟨t57, ht57, G⟩ := G
     refine k_rg mixed H (.v 93 (vP ((u51 5).n 0) 1) <|
   .cons [94] (ok_ld (fun u55 => .func (.func 132) #[] #[]) 94 112 1 1 (fun u55 => ((u51 5).n 0)) (fun u55 => [.func (.func 130) #[] #[], .func (.func 132) #[] #[]]) 104) <|
   .cons [95] (ok_ld (fun u55 => .agg #[vI a0.Lo, vI a0.Hi]) 95 106 0 2 (fun u55 => ((u1 0).n 0)) (fun u55 => [vI a0.Lo, vI a0.Hi]) 37) <|
   .cons [96] (ok_ld (fun u55 => .agg #[vI a1.Lo, vI a1.Hi]) 96 107 0 2 (fun u55 => ((u1 1).n 0)) (fun u55 => [vI a1.Lo, vI a1.Hi]) 37) <|
   .cons [97] (ok_callv 132 (fun u55 => #[.agg #[vI a0.Lo, vI a0.Hi], .agg #[vI a1.Lo, vI a1.Hi]]) (.tuple #[vI t56.1, vI t56.2]) 97 [] (fun u55 w _ => interval_ll.calls a0 a1  t56 w  ht56)) <|
   .v 98 (vI t56.1) <|
   .v 99 (vI t56.2) <|
   .cons [100] (ok_callv 104 (fun u55 => #[vI t56.1, vI t56.2]) (.tuple #[vI t57.1, vI t57.2]) 100 [] (fun u55 w _ => fixed_Mul.calls t56.1 t56.2  t57 w  ht57)) <|
   .v 92 (.tuple #[vI t57.1, vI t57.2]) <|
   .v 101 (vI t57.1) <|
   .v 102 (vI t57.2) <|
   .v 18 (vI t57.1) <|
   .v 19 (vI t57.2) <| .nil) fun u55 a w' H => ?_
     replace H := H.kp [4, 16, 19, 108, 999999]
     refine k_seq ?_
     replace G := bnd G; obtain ⟨t59, ht59, G⟩ := G
     refine k_rg mixed H (.v 103 (vI t54.1) <|
   .v 104 (vI t57.2) <|
   .cons [105] (ok_callv 91 (fun u58 => #[vI t54.1, vI t57.2]) (.agg #[vI t59.Lo, vI t59.Hi]) 105 [] (fun u58 w _ => interval_New.calls t54.1 t57.2  t59 w  ht59)) <|
   .cons [108] (ok_as (u' := fun u58 => [(108, .blk ((u1 2).n 0) [vI t59.Lo, vI t59.Hi] 37)]) (ok_store 108 0 (fun u58 => ((u1 2).n 0)) (fun u58 => [vI 0, vI 0]) (fun u58 => [vI t59.Lo, vI t59.Hi]) 37) (fun _ => by kernel_rfl)) <| .nil) fun u58 a w' H => ?_
     replace H := H.kp [4, 108, 999999]
     refine k_ret ?_
     obtain rfl := Option.some.inj G
     exact k_done1 H _ 108 ((u1 2).n 0) [vI t59.Lo, vI t59.Hi] 37 0 2 (by kernel_rfl) (by kernel_rfl) (by kernel_rfl) (by kernel_rfl)
    rw [if_neg c70] at G
    by_cases c71 : t9 = 1
    ·rw [if_pos c71] at G; subst c71
     refine k_rg mixed H (.v 76 (vI 1) <|
   .v 77 (vI 1) <|
   .v 78 (vP 1 6) <|
   .v 79 (vP 1 8) <|
   .cons [80] (ok_ldK (fun u60 => .agg #[.nilFunc, .nilFunc]) 80 999999 gk 1 8 2 gTab1 (fun w h => (glob_of h).tab1)) <|
   .cons [15, 113] (ok_new (fun b => vP b 0) (fun u60 => [.nilFunc, .nilFunc]) 104 15 113) <|
   .cons [113] (ok_as (u' := fun u60 => [(113, .blk ((u60 5).n 0) [.nilFunc, .nilFunc] 104)]) (ok_store 113 0 (fun u60 => ((u60 5).n 0)) (fun u60 => [.nilFunc, .nilFunc]) (fun u60 => [.nilFunc, .nilFunc]) 104) (fun _ => by kernel_rfl)) <| .nil) fun u60 a w' H => ?_
     replace H := H.toM [(2, (sP ((u1 0).n 0) 0)), (3, (sP ((u1 1).n 0) 0)), (4, (sP ((u1 2).n 0) 0)), (15, (sP ((u60 5).n 0) 0)), (106, .blk ((u1 0).n 0) [vI a0.Lo, vI a0.Hi] 37), (107, .blk ((u1 1).n 0) [vI a1.Lo, vI a1.Hi] 37), (108, .blk ((u1 2).n 0) [vI 0, vI 0] 37), (113, .blk ((u60 5).n 0) [.nilFunc, .nilFunc] 104), (999999, gk)]
     refine k_seq ?_
     cases G
    rw [if_neg c71] at G
    by_cases c72 : t9 = 2
    ·rw [if_pos c72] at G; subst c72
     refine k_rg mixed H (.v 76 (vI 1) <|
   .v 77 (vI 2) <|
   .v 78 (vP 1 6) <|
   .v 79 (vP 1 10) <|
   .cons [80] (ok_ldK (fun u61 => .agg #[.func (.func 131) #[] #[], .func (.func 133) #[] #[]]) 80 999999 gk 1 10 2 gTab1 (fun w h => (glob_of h).tab1)) <|
   .cons [15, 114] (ok_new (fun b => vP b 0) (fun u61 => [.nilFunc, .nilFunc]) 104 15 114) <|
   .cons [114] (ok_as (u' := fun u61 => [(114, .blk ((u61 5).n 0) [.func (.func 131) #[] #[], .func (.func 133) #[] #[]] 104)]) (ok_store 114 0 (fun u61 => ((u61 5).n 0)) (fun u61 => [.nilFunc, .nilFunc]) (fun u61 => [.func (.func 131) #[] #[], .func (.func 133) #[] #[]]) 104) (fun _ => by kernel_rfl)) <| .nil) fun u61 a w' H => ?_
     replace H := H.kp [2, 3, 4, 15, 106, 107, 108, 114, 999999]
     refine k_seq ?_
     replace G := bnd G; obtain ⟨t63, ht63, G⟩ := G
     replace G := bnd G; obtain ⟨t64, ht64, G⟩ := G
     refine k_rg mixed H (.v 82 (vP ((u61 5).n 0) 0) <|
   .cons [83] (ok_ld (fun u62 => .func (.func 131) #[] #[]) 83 114 0 1 (fun u62 => ((u61 5).n 0)) (fun u62 => [.func (.func 131) #[] #[], .func (.func 133) #[] #[]]) 104) <|
   .cons [84] (ok_ld (fun u62 => .agg #[vI a0.Lo, vI a0.Hi]) 84 106 0 2 (fun u62 => ((u1 0).n 0)) (fun u62 => [vI a0.Lo, vI a0.Hi]) 37) <|
   .cons [85] (ok_ld (fun u62 => .agg #[vI a1.Lo, vI a1.Hi]) 85 107 0 2 (fun u62 => ((u1 1).n 0)) (fun u62 => [vI a1.Lo, vI a1.Hi]) 37) <|
   .cons [86] (ok_callv 131 (fun u62 => #[.agg #[vI a0.Lo, vI a0.Hi], .agg #[vI a1.Lo, vI a1.Hi]]) (.tuple #[vI t63.1, vI t63.2]) 86 [] (fun u62 w _ => interval_lh.calls a0 a1  t63 w  ht63)) <|
   .v 87 (vI t63.1) <|
   .v 88 (vI t63.2) <|
   .cons [89] (ok_callv 104 (fun u62 => #[vI t63.1, vI t63.2]) (.tuple #[vI t64.1, vI t64.2]) 89 [] (fun u62 w _ => fixed_Mul.calls t63.1 t63.2  t64 w  ht64)) <|
   .v 81 (.tuple #[vI t64.1, vI t64.2]) <|
   .v 90 (vI t64.1) <|
   .v 91 (vI t64.2) <|
   .v 16 (vI t64.1) <|
   .v 17 (vI t64.2) <| .nil) fun u62 a w' H => ?_
     replace H := H.kp [2, 3, 4, 15, 16, 106, 107, 108, 114, 999999]
     refine k_seq ?_
     replace G := bnd G; obtain ⟨t66, ht66, G⟩ := G
     replace G := bnd G; obtain ⟨t67, ht67, G⟩ := G
     refine k_rg mixed H (.v 93 (vP ((u61 5).n 0) 1) <|
   .cons [94] (ok_ld (fun u65 => .func (.func 133) #[] #[]) 94 114 1 1 (fun u65 => ((u61 5).n 0)) (fun u65 => [.func (.func 131) #[] #[], .func (.func 133) #[] #[]]) 104) <|
   .cons [95] (ok_ld (fun u65 => .agg #[vI a0.Lo, vI a0.Hi]) 95 106 0 2 (fun u65 => ((u1 0).n 0)) (fun u65 => [vI a0.Lo, vI a0.Hi]) 37) <|
   .cons [96] (ok_ld (fun u65 => .agg #[vI a1.Lo, vI a1.Hi]) 96 107 0 2 (fun u65 => ((u1 1).n 0)) (fun u65 => [vI a1.Lo, vI a1.Hi]) 37) <|
   .cons [97] (ok_callv 133 (fun u65 => #[.agg #[vI a0.Lo, vI a0.Hi], .agg #[vI a1.Lo, vI a1.Hi]]) (.tuple #[vI t66.1, vI t66.2]) 97 [] (fun u65 w _ => interval_hh.calls a0 a1  t66 w  ht66)) <|
   .v 98 (vI t66.1) <|
   .v 99 (vI t66.2) <|
   .cons [100] (ok_callv 104 (fun u65 => #[vI t66.1, vI t66.2]) (.tuple #[vI t67.1, vI t67.2]) 100 [] (fun u65 w _ => fixed_Mul.calls t66.1 t66.2  t67 w  ht67)) <|
   .v 92 (.tuple #[vI t67.1, vI t67.2]) <|
   .v 101 (vI t67.1) <|
   .v 102 (vI t67.2) <|
   .v 18 (vI t67.1) <|
   .v 19 (vI t67.2) <| .nil) fun u65 a w' H => ?_
     replace H := H.kp [4, 16, 19, 108, 999999]
     refine k_seq ?_
     replace G := bnd G; obtain ⟨t69, ht69, G⟩ := G
     refine k_rg mixed H (.v 103 (vI t64.1) <|
   .v 104 (vI t67.2) <|
   .cons [105] (ok_callv 91 (fun u68 => #[vI t64.1, vI t67.2]) (.agg #[vI t69.Lo, vI t69.Hi]) 105 [] (fun u68 w _ => interval_New.calls t64.1 t67.2  t69 w  ht69)) <|
   .cons [108] (ok_as (u' := fun u68 => [(108, .blk ((u1 2).n 0) [vI t69.Lo, vI t69.Hi] 37)]) (ok_store 108 0 (fun u68 => ((u1 2).n 0)) (fun u68 => [vI 0, vI 0]) (fun u68 => [vI t69.Lo, vI t69.Hi]) 37) (fun _ => by kernel_rfl)) <| .nil) fun u68 a w' H => ?_
     replace H := H.kp [4, 108, 999999]
     refine k_ret ?_
     obtain rfl := Option.some.inj G
     exact k_done1 H _ 108 ((u1 2).n 0) [vI t69.Lo, vI t69.Hi] 37 0 2 (by kernel_rfl) (by kernel_rfl) (by kernel_rfl) (by kernel_rfl)
    rw [if_neg c72] at G
    cases G
   rw [if_neg c104] at G
   by_cases c105 : t8 = 2
   ·rw [if_pos c105] at G; subst c105
    by_cases c100 : t9 = 0
    ·rw [if_pos c100] at G; subst c100
     refine k_rg mixed H (.v 76 (vI 2) <|
   .v 77 (vI 0) <|
   .v 78 (vP 1 12) <|
   .v 79 (vP 1 12) <|
   .cons [80] (ok_ldK (fun u73 => .agg #[.func (.func 130) #[] #[], .func (.func 131) #[] #[]]) 80 999999 gk 1 12 2 gTab1 (fun w h => (glob_of h).tab1)) <|
   .cons [15, 115] (ok_new (fun b => vP b 0) (fun u73 => [.nilFunc, .nilFunc]) 104 15 115) <|
   .cons [115] (ok_as (u' := fun u73 => [(115, .blk ((u73 5).n 0) [.func (.func 130) #[] #[], .func (.func 131) #[] #[]] 104)]) (ok_store 115 0 (fun u73 => ((u73 5).n 0)) (fun u73 => [.nilFunc, .nilFunc]) (fun u73 => [.func (.func 130) #[] #[], .func (.func 131) #[] #[]]) 104) (fun _ => by kernel_rfl)) <| .nil) fun u73 a w' H => ?_
     replace H := H.kp [2, 3, 4, 15, 106, 107, 108, 115, 999999]
     refine k_seq ?_
     replace G := bnd G; obtain ⟨t75, ht75, G⟩ := G
     replace G := bnd G; obtain ⟨t76, ht76, G⟩ := G
     refine k_rg mixed H (.v 82 (vP ((u73 5).n 0) 0) <|
   .cons [83] (ok_ld (fun u74 => .func (.func 130) #[] #[]) 83 115 0 1 (fun u74 => ((u73 5).n 0)) (fun u74 => [.func (.func 130) #[] #[], .func (.func 131) #[] #[]]) 104) <|
   .cons [84] (ok_ld (fun u74 => .agg #[vI a0.Lo, vI a0.Hi]) 84 106 0 2 (fun u74 => ((u1 0).n 0)) (fun u74 => [vI a0.Lo, vI a0.Hi]) 37) <|
   .cons [85] (ok_ld (fun u74 => .agg #[vI a1.Lo, vI a1.Hi]) 85 107 0 2 (fun u74 => ((u1 1).n 0)) (fun u74 => [vI a1.Lo, vI a1.Hi]) 37) <|
   .cons [86] (ok_callv 130 (fun u74 => #[.agg #[vI a0.Lo, vI a0.Hi], .agg #[vI a1.Lo, vI a1.Hi]]) (.tuple #[vI t75.1, vI t75.2]) 86 [] (fun u74 w _ => interval_hl.calls a0 a1  t75 w  ht75)) <|
   .v 87 (vI t75.1) <|
   .v 88 (vI t75.2) <|
   .cons [89] (ok_callv 104 (fun u74 => #[vI t75.1, vI t75.2]) (.tuple #[vI t76.1, vI t76.2]) 89 [] (fun u74 w _ => fixed_Mul.calls t75.1 t75.2  t76 w  ht76)) <|
   .v 81 (.tuple #[vI t76.1, vI t76.2]) <|
   .v 90 (vI t76.1) <|
   .v 91 (vI t76.2) <|
   .v 16 (vI t76.1) <|
   .v 17 (vI t76.2) <| .nil) fun u74 a w' H => ?_
     replace H := H.kp [2, 3, 4, 15, 16, 106, 107, 108, 115, 999999]
     refine k_seq ?_
     replace G := bnd G; obtain ⟨t78, ht78, G⟩ := G
     replace G := bnd G; obtain ⟨t79, ht79, G⟩ := G
     refine k_rg mixed H (.v 93 (vP ((u73 5).n 0) 1) <|
   .cons [94] (ok_ld (fun u77 => .func (.func 131) #[] #[]) 94 115 1 1 (fun u77 => ((u73 5).n 0)) (fun u77 => [.func (.func 130) #[] #[], .func (.func 131) #[] #[]]) 104) <|
   .cons [95] (ok_ld (fun u77 => .agg #[vI a0.Lo, vI a0.Hi]) 95 106 0 2 (fun u77 => ((u1 0).n 0)) (fun u77 => [vI a0.Lo, vI a0.Hi]) 37) <|
   .cons [96] (ok_ld (fun u77 => .agg #[vI a1.Lo, vI a1.Hi]) 96 107 0 2 (fun u77 => ((u1 1).n 0)) (fun u77 => [vI a1.Lo, vI a1.Hi]) 37) <|
   .cons [97] (ok_callv 131 (fun u77 => #[.agg #[vI a0.Lo, vI a0.Hi], .agg #[vI a1.Lo, vI a1.Hi]]) (.tuple #[vI t78.1, vI t78.2]) 97 [] (fun u77 w _ => interval_lh.calls a0 a1  t78 w  ht78)) <|
   .v 98 (vI t78.1) <|
   .v 99 (vI t78.2) <|
   .cons [100] (ok_callv 104 (fun u77 => #[vI t78.1, vI t78.2]) (.tuple #[vI t79.1, vI t79.2]) 100 [] (fun u77 w _ => fixed_Mul.calls t78.1 t78.2  t79 w  ht79)) <|
   .v 92 (.tuple #[vI t79.1, vI t79.2]) <|
   .v 101 (vI t79.1) <|
   .v 102 (vI t79.2) <|
   .v 18 (vI t79.1) <|
   .v 19 (vI t79.2) <| .nil) fun u77 a w' H => ?_
     replace H := H.kp [4, 16, 19, 108, 999999]
     refine k_seq ?_
     replace G := bnd G; obtain ⟨t81, ht81, G⟩ := G
     refine k_rg mixed H (.v 103 (vI t76.1) <|
   .v 104 (vI t79.2) <|
   .cons [105] (ok_callv 91 (fun u80 => #[vI t76.1, vI t79.2]) (.agg #[vI t81.Lo, vI t81.Hi]) 105 [] (fun u80 w _ => interval_New.calls t76.1 t79.2  t81 w  ht81)) <|
   .cons [108] (ok_as (u' := fun u80 => [(108, .blk ((u1 2).n 0) [vI t81.Lo, vI t81.Hi] 37)]) (ok_store 108 0 (fun u80 => ((u1 2).n 0)) (fun u80 => [vI 0, vI 0]) (fun u80 => [vI t81.Lo, vI t81.Hi]) 37) (fun _ => by kernel_rfl)) <| .nil) fun u80 a w' H => ?_
     replace H := H.kp [4, 108, 999999]
     refine k_ret ?_
     obtain rfl := Option.some.inj G
     exact k_done1 H _ 108 ((u1 2).n 0) [vI t81.Lo, vI t81.Hi] 37 0 2 (by kernel_rfl) (by kernel_rfl) (by kernel_rfl) (by kernel_rfl)
    rw [if_neg c100] at G
    by_cases c101 : t9 = 1
    ·rw [if_pos c101] at G; subst c101
     refine k_rg mixed H (.v 76 (vI 2) <|
   .v 77 (vI 1) <|
   .v 78 (vP 1 12) <|
   .v 79 (vP 1 14) <|
   .cons [80] (ok_ldK (fun u82 => .agg #[.func (.func 130) #[] #[], .func (.func 133) #[] #[]]) 80 999999 gk 1 14 2 gTab1 (fun w h => (glob_of h).tab1)) <|
   .cons [15, 116] (ok_new (fun b => vP b 0) (fun u82 => [.nilFunc, .nilFunc]) 104 15 116) <|
   .cons [116] (ok_as (u' := fun u82 => [(116, .blk ((u82 5).n 0) [.func (.func 130) #[] #[], .func (.func 133) #[] #[]] 104)]) (ok_store 116 0 (fun u82 => ((u82 5).n 0)) (fun u82 => [.nilFunc, .nilFunc]) (fun u82 => [.func (.func 130) #[] #[], .func (.func 133) #[] #[]]) 104) (fun _ => by kernel_rfl)) <| .nil) fun u82 a w' H => ?_
     replace H := H.toM [(2, (sP ((u1 0).n 0) 0)), (3, (sP ((u1 1).n 0) 0)), (4, (sP ((u1 2).n 0) 0)), (15, (sP ((u82 5).n 0) 0)), (106, .blk ((u1 0).n 0) [vI a0.Lo, vI a0.Hi] 37), (107, .blk ((u1 1).n 0) [vI a1.Lo, vI a1.Hi] 37), (108, .blk ((u1 2).n 0) [vI 0, vI 0] 37), (116, .blk ((u82 5).n 0) [.func (.func 130) #[] #[], .func (.func 133) #[] #[]] 104), (999999, gk)]
     refine k_seq ?_
     replace G := bnd G; obtain ⟨t84, ht84, G⟩ := G
     replace G := bnd G; obtain ⟨t85, ht85, G⟩ := G
     refine k_rg mixed H (.v 82 (vP ((u82 5).n 0) 0) <|
   .cons [83] (ok_ld (fun u83 => .func (.func 130) #[] #[]) 83 116 0 1 (fun u83 => ((u82 5).n 0)) (fun u83 => [.func (.func 130) #[] #[], .func (.func 133) #[] #[]]) 104) <|
   .cons [84] (ok_ld (fun u83 => .agg #[vI a0.Lo, vI a0.Hi]) 84 106 0 2 (fun u83 => ((u1 0).n 0)) (fun u83 => [vI a0.Lo, vI a0.Hi]) 37) <|
   .cons [85] (ok_ld (fun u83 => .agg #[vI a1.Lo, vI a1.Hi]) 85 107 0 2 (fun u83 => ((u1 1).n 0)) (fun u83 => [vI a1.Lo, vI a1.Hi]) 37) <|
   .cons [86] (ok_callv 130 (fun u83 => #[.agg #[vI a0.Lo, vI a0.Hi], .agg #[vI a1.Lo, vI a1.Hi]]) (.tuple #[vI t84.1, vI t84.2]) 86 [] (fun u83 w _ => interval_hl.calls a0 a1  t84 w  ht84)) <|
   .v 87 (vI t84.1) <|
   .v 88 (vI t84.2) <|
   .cons [89] (ok_callv 104 (fun u83 => #[vI t84.1, vI t84.2]) (.tuple #[vI t85.1, vI t85.2]) 89 [] (fun u83 w _ => fixed_Mul.calls t84.1 t84.2  t85 w  ht85)) <|
   .v 81 (.tuple #[vI t85.1, vI t85.2]) <|
   .v 90 (vI t85.1) <|
   .v 91 (vI t85.2) <|
   .v 16 (vI t85.1) <|
   .v 17 (vI t85.2) <| .nil) fun u83 a w' H => ?_
     replace H := H.kp [2, 3, 4, 15, 16, 106, 107, 108, 116, 999999]
     refine k_seq ?_
     replace G := bnd G; obtain ⟨t87, ht87, G⟩ := G
     replace G := bnd G; obtain ⟨t88, ht88, G⟩ := G
     refine k_rg mixed H (.v 93 (vP ((u82 5).n 0) 1) <|
   .cons [94] (ok_ld (fun u86 => .func (.func 133) #[] #[]) 94 116 1 1 (fun u86 => ((u82 5).n 0)) (fun u86 => [.func (.func 130) #[] #[], .func (.func 133) #[] #[]]) 104) <|
   .cons [95] (ok_ld (fun u86 => .agg #[vI a0.Lo, vI a0.Hi]) 95 106 0 2 (fun u86 => ((u1 0).n 0)) (fun u86 => [vI a0.Lo, vI a0.Hi]) 37) <|
   .cons [96] (ok_ld (fun u86 => .agg #[vI a1.Lo, vI a1.Hi]) 96 107 0 2 (fun u86 => ((u1 1).n 0)) (fun u86 => [vI a1.Lo, vI a1.Hi]) 37) <|
   .cons [97] (ok_callv 133 (fun u86 => #[.agg #[vI a0.Lo, vI a0.Hi], .agg #[vI a1.Lo, vI a1.Hi]]) (.tuple #[vI t87.1, vI t87.2]) 97 [] (fun u86 w _ => interval_hh.calls a0 a1  t87 w  ht87)) <|
   .v 98 (vI t87.1) <|
   .v 99 (vI t87.2) <|
   .cons [100] (ok_callv 104 (fun u86 => #[vI t87.1, vI t87.2]) (.tuple #[vI t88.1, vI t88.2]) 100 [] (fun u86 w _ => fixed_Mul.calls t87.1 t87.2  t88 w  ht88)) <|
   .v 92 (.tuple #[vI t88.1, vI t88.2]) <|
   .v 101 (vI t88.1) <|
   .v 102 (vI t88.2) <|
   .v 18 (vI t88.1) <|
   .v 19 (vI t88.2) <| .nil) fun u86 a w' H => ?_
     replace H := H.kp [4, 16, 19, 108, 999999]
     refine k_seq ?_
     replace G := bnd G; obtain ⟨t90, ht90, G⟩ := G
     refine k_rg mixed H (.v 103 (vI t85.1) <|
   .v 104 (vI t88.2) <|
   .cons [105] (ok_callv 91 (fun u89 => #[vI t85.1, vI t88.2]) (.agg #[vI t90.Lo, vI t90.Hi]) 105 [] (fun u89 w _ => interval_New.calls t85.1 t88.2  t90 w  ht90)) <|
   .cons [108] (ok_as (u' := fun u89 => [(108, .blk ((u1 2).n 0) [vI t90.Lo, vI t90.Hi] 37)]) (ok_store 108 0 (fun u89 => ((u1 2).n 0)) (fun u89 => [vI 0, vI 0]) (fun u89 => [vI t90.Lo, vI t90.Hi]) 37) (fun _ => by kernel_rfl)) <| .nil) fun u89 a w' H => ?_
     replace H := H.kp [4, 108, 999999]
     refine k_ret ?_
     obtain rfl := Option.some.inj G
     exact k_done1 H _ 108 ((u1 2).n 0) [vI t90.Lo, vI t90.Hi] 37 0 2 (by kernel_rfl) (by kernel_rfl) (by kernel_rfl) (by kernel_rfl)
    rw [if_neg c101] at G
    by_cases c102 : t9 = 2
    ·rw [if_pos c102] at G; subst c102
     refine k_rg mixed H (.v 76 (vI 2) <|
   .v 77 (vI 2) <|
   .v 78 (vP 1 12) <|
   .v 79 (vP 1 16) <|
   .cons [80] (ok_ldK (fun u91 => .agg #[.func (.func 132) #[] #[], .func (.func 133) #[] #[]]) 80 999999 gk 1 16 2 gTab1 (fun w h => (glob_of h).tab1)) <|
   .cons [15, 117] (ok_new (fun b => vP b 0) (fun u91 => [.nilFunc, .nilFunc]) 104 15 117) <|
   .cons [117] (ok_as (u' := fun u91 => [(117, .blk ((u91 5).n 0) [.func (.func 132) #[] #[], .func (.func 133) #[] #[]] 104)]) (ok_store 117 0 (fun u91 => ((u91 5).n 0)) (fun u91 => [.nilFunc, .nilFunc]) (fun u91 => [.func (.func 132) #[] #[], .func (.func 133) #[] #[]]) 104) (fun _ => by kernel_rfl)) <| .nil) fun u91 a w' H => ?_
     replace H := H.kp [2, 3, 4, 15, 106, 107, 108, 117, 999999]
     refine k_seq ?_
     replace G := bnd G; obtain ⟨t93, ht93, G⟩ := G
     replace G := bnd G; obtain ⟨t94, ht94, G⟩ := G
     refine k_rg mixed H (.v 82 (vP ((u91 5).n 0) 0) <|
   .cons [83] (ok_ld (fun u92 => .func (.func 132) #[] #[]) 83 117 0 1 (fun u92 => ((u91 5).n 0)) (fun u92 => [.func (.func 132) #[] #[], .func (.func 133) #[] #[]]) 104) <|
   .cons [84] (ok_ld (fun u92 => .agg #[vI a0.Lo, vI a0.Hi]) 84 106 0 2 (fun u92 => ((u1 0).n 0)) (fun u92 => [vI a0.Lo, vI a0.Hi]) 37) <|
   .cons [85] (ok_ld (fun u92 => .agg #[vI a1.Lo, vI a1.Hi]) 85 107 0 2 (fun u92 => ((u1 1).n 0)) (fun u92 => [vI a1.Lo, vI a1.Hi]) 37) <|
   .cons [86] (ok_callv 132 (fun u92 => #[.agg #[vI a0.Lo, vI a0.Hi], .agg #[vI a1.Lo, vI a1.Hi]]) (.tuple #[vI t93.1, vI t93.2]) 86 [] (fun u92 w _ => interval_ll.calls a0 a1  t93 w  ht93)) <|
   .v 87 (vI t93.1) <|
   .v 88 (vI t93.2) <|
   .cons [89] (ok_callv 104 (fun u92 => #[vI t93.1, vI t93.2]) (.tuple #[vI t94.1, vI t94.2]) 89 [] (fun u92 w _ => fixed_Mul.calls t93.1 t93.2  t94 w  ht94)) <|
   .v 81 (.tuple #[vI t94.1, vI t94.2]) <|
   .v 90 (vI t94.1) <|
   .v 91 (vI t94.2) <|
   .v 16 (vI t94.1) <|
   .v 17 (vI t94.2) <| .nil) fun u92 a w' H => ?_
     replace H := H.kp [2, 3, 4, 15, 16, 106, 107, 108, 117, 999999]
     refine k_seq ?_
     replace G := bnd G; obtain ⟨t96, ht96, G⟩ := G
     replace G := bnd G; obtain ⟨t97, ht97, G⟩ := G
     refine k_rg mixed H (.v 93 (vP ((u91 5).n 0) 1) <|
   .cons [94] (ok_ld (fun u95 => .func (.func 133) #[] #[]) 94 117 1 1 (fun u95 => ((u91 5).n 0)) (fun u95 => [.func (.func 132) #[] #[], .func (.func 133) #[] #[]]) 104) <|
   .cons [95] (ok_ld (fun u95 => .agg #[vI a0.Lo, vI a0.Hi]) 95 106 0 2 (fun u95 => ((u1 0).n 0)) (fun u95 => [vI a0.Lo, vI a0.Hi]) 37) <|
   .cons [96] (ok_ld (fun u95 => .agg #[vI a1.Lo, vI a1.Hi]) 96 107 0 2 (fun u95 => ((u1 1).n 0)) (fun u95 => [vI a1.Lo, vI a1.Hi]) 37) <|
   .cons [97] (ok_callv 133 (fun u95 => #[.agg #[vI a0.Lo, vI a0.Hi], .agg #[vI a1.Lo, vI a1.Hi]]) (.tuple #[vI t96.1, vI t96.2]) 97 [] (fun u95 w _ => interval_hh.calls a0 a1  t96 w  ht96)) <|
   .v 98 (vI t96.1) <|
   .v 99 (vI t96.2) <|
   .cons [100] (ok_callv 104 (fun u95 => #[vI t96.1, vI t96.2]) (.tuple #[vI t97.1, vI t97.2]) 100 [] (fun u95 w _ => fixed_Mul.calls t96.1 t96.2  t97 w  ht97)) <|
   .v 92 (.tuple #[vI t97.1, vI t97.2]) <|
   .v 101 (vI t97.1) <|
   .v 102 (vI t97.2) <|
   .v 18 (vI t97.1) <|
   .v 19 (vI t97.2) <| .nil) fun u95 a w' H => ?_
     replace H := H.kp [4, 16, 19, 108, 999999]
     refine k_seq ?_
     replace G := bnd G; obtain ⟨t99, ht99, G⟩ := G
     refine k_rg mixed H (.v 103 (vI t94.1) <|
   .v 104 (vI t97.2) <|
   .cons [105] (ok_callv 91 (fun u98 => #[vI t94.1, vI t97.2]) (.agg #[vI t99.Lo, vI t99.Hi]) 105 [] (fun u98 w _ => interval_New.calls t94.1 t97.2  t99 w  ht99)) <|
   .cons [108] (ok_as (u' := fun u98 => [(108, .blk ((u1 2).n 0) [vI t99.Lo, vI t99.Hi] 37)]) (ok_store 108 0 (fun u98 => ((u1 2).n 0)) (fun u98 => [vI 0, vI 0]) (fun u98 => [vI t99.Lo, vI t99.Hi]) 37) (fun _ => by kernel_rfl)) <| .nil) fun u98 a w' H => ?_
     replace H := H.kp [4, 108, 999999]
     refine k_ret ?_
     obtain rfl := Option.some.inj G
     exact k_done1 H _ 108 ((u1 2).n 0) [vI t99.Lo, vI t99.Hi] 37 0 2 (by kernel_rfl) (by kernel_rfl) (by kernel_rfl) (by kernel_rfl)
    rw [if_neg c102] at G
    cases G
   rw [if_neg c105] at G
   cases G
set_option maxHeartbeats 4000000 in
theorem interval_Add.calls (a0 : TInterval) (a1 : TInterval) (r : TInterval) (w : World) (G : interval_Add a0 a1 = some r) :
  Calls Tryd.prog 89 #[.agg #[vI a0.Lo, vI a0.Hi], .agg #[vI a1.Lo, vI a1.Hi]] w fun e w' => e = .returned (.agg #[vI r.Lo, vI r.Hi]) ∧ Below w.heap.size w w' := by
 refine k_enter (args := [.agg #[vI a0.Lo, vI a0.Hi], .agg #[vI a1.Lo, vI a1.Hi]]) 23 Tryd.func89 rfl (by kernel_rfl) (by kernel_rfl) fun a H => ?_
 unfold interval_Add at G
 refine k_seq ?_
 refine k_rg mixed H (.cons [2, 23] (ok_new (fun b => vP b 0) (fun u1 => [vI a0.Lo, vI a0.Hi]) 37 2 23) <|
   .cons [3, 24] (ok_new (fun b => vP b 0) (fun u1 => [vI a1.Lo, vI a1.Hi]) 37 3 24) <|
   .cons [4, 25] (ok_new (fun b => vP b 0) (fun u1 => [vI 0, vI 0]) 37 4 25) <| .nil) fun u1 a w' H => ?_
 replace H := H.kp [2, 3, 4, 23, 24, 25]
 refine k_seq ?_
 refine k_seq ?_
 replace G := bnd G; obtain ⟨t3, ht3, G⟩ := G
 replace G := bnd G; obtain ⟨t4, ht4, G⟩ := G
 refine k_rg mixed H (.cons [5] (ok_ld (fun u2 => .agg #[vI a0.Lo, vI a0.Hi]) 5 23 0 2 (fun u2 => ((u1 0).n 0)) (fun u2 => [vI a0.Lo, vI a0.Hi]) 37) <|
   .cons [6] (ok_callv 76 (fun u2 => #[.agg #[vI a0.Lo, vI a0.Hi]]) (.bool t3) 6 [] (fun u2 w _ => interval_IsEntire.calls a0  t3 w  ht3)) <|
   .v 7 (.bool t3) <|
   .cons [8] (ok_ldg (fun u2 => .agg #[vI a1.Lo, vI a1.Hi]) (fun u2 => (t3 == false)) [true] 8 24 0 2 (fun u2 => ((u1 1).n 0)) (fun u2 => [vI a1.Lo, vI a1.Hi]) 37) <|
   .cons [9] (ok_call 76 (fun u2 => #[.agg #[vI a1.Lo, vI a1.Hi]]) (.bool t4) (fun u2 => (t3 == false)) [true, false] 9 [] (fun u2 w hg _ => interval_IsEntire.calls a1  t4 w  (ifp ht4 hg))) <|
   .cons [10] (ok_or 7 9 (fun u2 => true) (fun u2 => true) (fun u2 => t3) (fun u2 => t4) 10) <| .nil) fun u2 a w' H => ?_
 replace H := H.kp [2, 3, 4, 10, 23, 24, 25]
 refine k_cond H (by kernel_rfl) (t := (t3 || t4)) (by kernel_rfl) (fun c9 => ?_) (fun c9 => ?_)
 ·rw [if_pos c9] at G
  refine k_seq ?_
  replace G := bnd G; obtain ⟨t6, ht6, G⟩ := G
  refine k_rg mixed H (.cons [11] (ok_callv 99 (fun u5 => #[]) (.agg #[vI t6.Lo, vI t6.Hi]) 11 [] (fun u5 w _ => interval_Entire.calls   t6 w  ht6)) <|
   .cons [25] (ok_as (u' := fun u5 => [(25, .blk ((u1 2).n 0) [vI t6.Lo, vI t6.Hi] 37)]) (ok_store 25 0 (fun u5 => ((u1 2).n 0)) (fun u5 => [vI 0, vI 0]) (fun u5 => [vI t6.Lo, vI t6.Hi]) 37) (fun _ => by kernel_rfl)) <| .nil) fun u5 a w' H => ?_
  replace H := H.kp [4, 25]
  refine k_ret ?_
  obtain rfl := Option.some.inj G
  exact k_done1 H _ 25 ((u1 2).n 0) [vI t6.Lo, vI t6.Hi] 37 0 2 (by kernel_rfl) (by kernel_rfl) (by kernel_rfl) (by kernel_rfl)
 ·rw [if_neg (nt c9)] at G
  refine k_skip ?_
  refine k_seq ?_
  replace G := bnd G; obtain ⟨t8, ht8, G⟩ := G
  refine k_rg mixed H (.v 12 (vP ((u1 0).n 0) 0) <|
   .cons [13] (ok_ld (fun u7 => vI a0.Lo) 13 23 0 1 (fun u7 => ((u1 0).n 0)) (fun u7 => [vI a0.Lo, vI a0.Hi]) 37) <|
   .v 14 (vP ((u1 1).n 0) 0) <|
   .cons [15] (ok_ld (fun u7 => vI a1.Lo) 15 24 0 1 (fun u7 => ((u1 1).n 0)) (fun u7 => [vI a1.Lo, vI a1.Hi]) 37) <|
   .v 16 (vI (w_i64 (a0.Lo + a1.Lo))) <|
   .v 17 (vP ((u1 0).n 0) 1) <|
   .cons [18] (ok_ld (fun u7 => vI a0.Hi) 18 23 1 1 (fun u7 => ((u1 0).n 0)) (fun u7 => [vI a0.Lo, vI a0.Hi]) 37) <|
   .v 19 (vP ((u1 1).n 0) 1) <|
   .cons [20] (ok_ld (fun u7 => vI a1.Hi) 20 24 1 1 (fun u7 => ((u1 1).n 0)) (fun u7 => [vI a1.Lo, vI a1.Hi]) 37) <|
   .v 21 (vI (w_i64 (a0.Hi + a1.Hi))) <|
   .cons [22] (ok_callv 91 (fun u7 => #[vI (w_i64 (a0.Lo + a1.Lo)), vI (w_i64 (a0.Hi + a1.Hi))]) (.agg #[vI t8.Lo, vI t8.Hi]) 22 [] (fun u7 w _ => interval_New.calls (w_i64 (a0.Lo + a1.Lo)) (w_i64 (a0.Hi + a1.Hi))  t8 w  ht8)) <|
   .cons [25] (ok_as (u' := fun u7 => [(25, .blk ((u1 2).n 0) [vI t8.Lo, vI t8.Hi] 37)]) (ok_store 25 0 (fun u7 => ((u1 2).n 0)) (fun u7 => [vI 0, vI 0]) (fun u7 => [vI t8.Lo, vI t8.Hi]) 37) (fun _ => by kernel_rfl)) <| .nil) fun u7 a w' H => ?_
  replace H := H.kp [4, 25]
  refine k_ret ?_
  obtain rfl := Option.some.inj G
  exact k_done1 H _ 25 ((u1 2).n 0) [vI t8.Lo, vI t8.Hi] 37 0 2 (by kernel_rfl) (by kernel_rfl) (by kernel_rfl) (by kernel_rfl)
set_option maxHeartbeats 4000000 in
theorem matrix_Apply_1_m.calls (a0 : Int) (q0 : List (List TInterval)) (q1 : Int) (b_q0 : Nat) (p_q0 : Option Addr) (c_q0 : Nat) (L_q0 : List (Sl TInterval)) (b_q1 : Nat) (r : TInterval) (w : World) (h_q0 : q0 = L_q0.map Sl.l) (hB : AllH [rdl anyF 1 p_q0 c_q0 L_q0 enSl, dnK anyF E_S_TInterval.toPart L_q0, bxK b_q0 [.slice p_q0 L_q0.length c_q0] 27, bxK b_q1 [vI q1] 3] w) (G : matrix_Apply_1_m a0 q0 q1 = some r) :
  Calls Tryd.prog 53 #[vI a0, vP b_q0 0, vP b_q1 0] w fun e w' => e = .returned (.agg #[vI r.Lo, vI r.Hi]) ∧ Below w.heap.size w w' := by
 obtain ⟨fr, hfr⟩ : ∃ fr : Nat → Prop, ∀ j, fr j := ⟨fun _ => True, fun _ => trivial⟩
 have hBf : ∀ j, w.heap.size ≤ j → fr j := fun j _ => hfr j
 refine k_enterF (args := [vI a0, vP b_q0 0, vP b_q1 0]) 12 [(13, rdl anyF 1 p_q0 c_q0 L_q0 enSl), (14, dnK anyF E_S_TInterval.toPart L_q0), (12, bxK b_q0 [.slice p_q0 L_q0.length c_q0] 27), (15, bxK b_q1 [vI q1] 3)] (by
  intro x hx
  simp only [List.mem_cons, List.not_mem_nil, or_false] at hx
  rcases hx with rfl | rfl | rfl | rfl
  ·exact rdF_fact (rdF_of hB.1) (fun _ _ => trivial) (by decide) _
  ·exact dn_fact (dn_of hB.2.1) (fun _ _ => trivial) _
  ·exact bx_fact (hB.2.2.1 w (agree.refl _ _)) _
  ·exact bx_fact (hB.2.2.2.1 w (agree.refl _ _)) _) Tryd.func53 rfl (by kernel_rfl) (by kernel_rfl) fun a H => ?_
 unfold matrix_Apply_1_m at G
 refine k_seq ?_
 refine k_rg mixed H (.cons [4, 16] (ok_new (fun b => vP b 0) (fun u1 => [vI 0, vI 0]) 37 4 16) <| .nil) fun u1 a w' H => ?_
 replace H := H.kp [0, 1, 2, 4, 13, 14, 16, 12, 15]
 refine k_seq ?_
 replace G := gd G; obtain ⟨b3, G⟩ := G
 replace G := bnd G; obtain ⟨t4, ht4, G⟩ := G
 obtain ⟨p_t4, c_t4, y_t4⟩ := sl_get h_q0 ht4
 replace G := gd G; obtain ⟨b5, G⟩ := G
 replace G := bnd G; obtain ⟨t6, ht6, G⟩ := G
 refine k_rg mixed H (.cons [5] (ok_ldK (fun u2 => .slice p_q0 L_q0.length c_q0) 5 12 (bxK b_q0 [.slice p_q0 L_q0.length c_q0] 27) b_q0 0 1 [.slice p_q0 L_q0.length c_q0] (fun w h => bx_of h)) <|
   .cons [6] (ok_ldK (fun u2 => vI q1) 6 15 (bxK b_q1 [vI q1] 3) b_q1 0 1 [vI q1] (fun w h => bx_of h)) <|
   .cons [7] (ok_valL [13] (fun u2 => [rdl anyF 1 p_q0 c_q0 L_q0 enSl]) (fun u2 => .pointer (some ⟨hdB p_q0, hdO p_q0 + q1.toNat * 1, none⟩)) (fun u2 => true) [true, true] 7 (fun u2 w hg hF => ix_row (t := 27) (k := .i64) (i := q1) (p := p_q0) (n := L_q0.length) (cap := c_q0) (x := q0) (en := enSl) (rdF_of hF.1).2 enSl_len (map_len h_q0) b3 (by kernel_rfl))) <|
   .cons [8] (ok_valL [13] (fun u2 => [rdl anyF 1 p_q0 c_q0 L_q0 enSl]) (fun u2 => .slice p_t4 t4.length c_t4) (fun u2 => true) [true] 8 (fun u2 w hg hF => ld_row (en := enSl) (rdF_of hF.1).2 enSl_len y_t4 0 1 [.slice p_t4 t4.length c_t4] rfl (by kernel_rfl))) <|
   .v 9 (vI a0) <|
   .cons [10] (ok_valL [14] (fun u2 => [dnK anyF E_S_TInterval.toPart L_q0]) (fun u2 => .pointer (some ⟨hdB p_t4, hdO p_t4 + a0.toNat * 2, none⟩)) (fun u2 => true) [true, true] 10 (fun u2 w hg hF => ix_row (t := 22) (k := .i64) (i := a0) (p := p_t4) (n := t4.length) (cap := c_t4) (x := t4) (en := en_TInterval) (show RowC _ 2 p_t4 t4.length c_t4 (t4.flatMap en_TInterval) from ((dn_of hF.1) _ (List.mem_of_getElem? y_t4)).1).2 en_TInterval_len rfl b5 (by kernel_rfl))) <|
   .cons [11] (ok_valL [14] (fun u2 => [dnK anyF E_S_TInterval.toPart L_q0]) (fun u2 => .agg #[vI t6.Lo, vI t6.Hi]) (fun u2 => true) [true] 11 (fun u2 w hg hF => ld_row (en := en_TInterval) (show RowC _ 2 p_t4 t4.length c_t4 (t4.flatMap en_TInterval) from ((dn_of hF.1) _ (List.mem_of_getElem? y_t4)).1).2 en_TInterval_len ht6 0 2 [vI t6.Lo, vI t6.Hi] rfl (by kernel_rfl))) <|
   .cons [16] (ok_as (u' := fun u2 => [(16, .blk ((u1 0).n 0) [vI t6.Lo, vI t6.Hi] 37)]) (ok_store 16 0 (fun u2 => ((u1 0).n 0)) (fun u2 => [vI 0, vI 0]) (fun u2 => [vI t6.Lo, vI t6.Hi]) 37) (fun _ => by kernel_rfl)) <| .nil) fun u2 a w' H => ?_
 replace H := H.kp [4, 13, 14, 16, 12, 15]
 refine k_ret ?_
 obtain rfl := Option.some.inj G
 exact k_done1 H _ 16 ((u1 0).n 0) [vI t6.Lo, vI t6.Hi] 37 0 2 (by kernel_rfl) (by kernel_rfl) (by kernel_rfl) (by kernel_rfl)
set_option maxHeartbeats 4000000 in
theorem matrix_Apply_2_m.calls (a0 : Int) (q0 : List TInterval) (b_q0 : Nat) (p_q0 : Option Addr) (c_q0 : Nat) (r : TInterval) (w : World) (hB : AllH [rdl anyF 2 p_q0 c_q0 q0 en_TInterval, bxK b_q0 [.slice p_q0 q0.length c_q0] 22] w) (G : matrix_Apply_2_m a0 q0 = some r) :
  Calls Tryd.prog 54 #[vI a0, vP b_q0 0] w fun e w' => e = .returned (.agg #[vI r.Lo, vI r.Hi]) ∧ Below w.heap.size w w' := by
 obtain ⟨fr, hfr⟩ : ∃ fr : Nat → Prop, ∀ j, fr j := ⟨fun _ => True, fun _ => trivial⟩
 have hBf : ∀ j, w.heap.size ≤ j → fr j := fun j _ => hfr j
 refine k_enterF (args := [vI a0, vP b_q0 0]) 8 [(9, rdl anyF 2 p_q0 c_q0 q0 en_TInterval), (8, bxK b_q0 [.slice p_q0 q0.length c_q0] 22)] (by
  intro x hx
  simp only [List.mem_cons, List.not_mem_nil, or_false] at hx
  rcases hx with rfl | rfl
  ·exact rdF_fact (rdF_of hB.1) (fun _ _ => trivial) (by decide) _
  ·exact bx_fact (hB.2.1 w (agree.refl _ _)) _) Tryd.func54 rfl (by kernel_rfl) (by kernel_rfl) fun a H => ?_
 unfold matrix_Apply_2_m at G
 refine k_seq ?_
 refine k_rg mixed H (.cons [3, 10] (ok_new (fun b => vP b 0) (fun u1 => [vI 0, vI 0]) 37 3 10) <| .nil) fun u1 a w' H => ?_
 replace H := H.kp [0, 1, 3, 9, 10, 8]
 refine k_seq ?_
 replace G := gd G; obtain ⟨b3, G⟩ := G
 replace G := bnd G; obtain ⟨t4, ht4, G⟩ := G
 refine k_rg mixed H (.cons [4] (ok_ldK (fun u2 => .slice p_q0 q0.length c_q0) 4 8 (bxK b_q0 [.slice p_q0 q0.length c_q0] 22) b_q0 0 1 [.slice p_q0 q0.length c_q0] (fun w h => bx_of h)) <|
   .v 5 (vI a0) <|
   .cons [6] (ok_valL [9] (fun u2 => [rdl anyF 2 p_q0 c_q0 q0 en_TInterval]) (fun u2 => .pointer (some ⟨hdB p_q0, hdO p_q0 + a0.toNat * 2, none⟩)) (fun u2 => true) [true, true] 6 (fun u2 w hg hF => ix_row (t := 22) (k := .i64) (i := a0) (p := p_q0) (n := q0.length) (cap := c_q0) (x := q0) (en := en_TInterval) (rdF_of hF.1).2 en_TInterval_len rfl b3 (by kernel_rfl))) <|
   .cons [7] (ok_valL [9] (fun u2 => [rdl anyF 2 p_q0 c_q0 q0 en_TInterval]) (fun u2 => .agg #[vI t4.Lo, vI t4.Hi]) (fun u2 => true) [true] 7 (fun u2 w hg hF => ld_row (en := en_TInterval) (rdF_of hF.1).2 en_TInterval_len ht4 0 2 [vI t4.Lo, vI t4.Hi] rfl (by kernel_rfl))) <|
   .cons [10] (ok_as (u' := fun u2 => [(10, .blk ((u1 0).n 0) [vI t4.Lo, vI t4.Hi] 37)]) (ok_store 10 0 (fun u2 => ((u1 0).n 0)) (fun u2 => [vI 0, vI 0]) (fun u2 => [vI t4.Lo, vI t4.Hi]) 37) (fun _ => by kernel_rfl)) <| .nil) fun u2 a w' H => ?_
 replace H := H.kp [3, 9, 10, 8]
 refine k_ret ?_
 obtain rfl := Option.some.inj G
 exact k_done1 H _ 10 ((u1 0).n 0) [vI t4.Lo, vI t4.Hi] 37 0 2 (by kernel_rfl) (by kernel_rfl) (by kernel_rfl) (by kernel_rfl)
set_option maxHeartbeats 4000000 in
theorem matrix_dot_s53_s54.calls (k0 : Nat) (a0 : Int) (a1_0 : List (List TInterval)) (a1_1 : Int) (a2_0 : List TInterval) (b_a1_0 : Nat) (p_a1_0 : Option Addr) (c_a1_0 : Nat) (L_a1_0 : List (Sl TInterval)) (b_a1_1 : Nat) (b_a2_0 : Nat) (p_a2_0 : Option Addr) (c_a2_0 : Nat) (r : TInterval) (w : World) (h_a1_0 : a1_0 = L_a1_0.map Sl.l) (hB : AllH [rdl anyF 1 p_a1_0 c_a1_0 L_a1_0 enSl, dnK anyF E_S_TInterval.toPart L_a1_0, bxK b_a1_0 [.slice p_a1_0 L_a1_0.length c_a1_0] 27, bxK b_a1_1 [vI a1_1] 3, rdl anyF 2 p_a2_0 c_a2_0 a2_0 en_TInterval, bxK b_a2_0 [.slice p_a2_0 a2_0.length c_a2_0] 22, gk] w) (G : matrix_dot_s53_s54 k0 a0 a1_0 a1_1 a2_0 = some r) :
  Calls Tryd.prog 52 #[vI a0, .func (.func 53) #[] #[vP b_a1_0 0, vP b_a1_1 0], .func (.func 54) #[] #[vP b_a2_0 0]] w fun e w' => e = .returned (.agg #[vI r.Lo, vI r.Hi]) ∧ Below w.heap.size w w' := by
 obtain ⟨fr, hfr⟩ : ∃ fr : Nat → Prop, ∀ j, fr j := ⟨fun _ => True, fun _ => trivial⟩
 have hBf : ∀ j, w.heap.size ≤ j → fr j := fun j _ => hfr j
 refine k_enterF (args := [vI a0, .func (.func 53) #[] #[vP b_a1_0 0, vP b_a1_1 0], .func (.func 54) #[] #[vP b_a2_0 0]]) 29 [(30, rdl anyF 1 p_a1_0 c_a1_0 L_a1_0 enSl), (31, dnK anyF E_S_TInterval.toPart L_a1_0), (29, bxK b_a1_0 [.slice p_a1_0 L_a1_0.length c_a1_0] 27), (32, bxK b_a1_1 [vI a1_1] 3), (34, rdl anyF 2 p_a2_0 c_a2_0 a2_0 en_TInterval), (33, bxK b_a2_0 [.slice p_a2_0 a2_0.length c_a2_0] 22), (999999, gk)] (by
  intro x hx
  simp only [List.mem_cons, List.not_mem_nil, or_false] at hx
  rcases hx with rfl | rfl | rfl | rfl | rfl | rfl | rfl
  ·exact rdF_fact (rdF_of hB.1) (fun _ _ => trivial) (by decide) _
  ·exact dn_fact (dn_of hB.2.1) (fun _ _ => trivial) _
  ·exact bx_fact (hB.2.2.1 w (agree.refl _ _)) _
  ·exact bx_fact (hB.2.2.2.1 w (agree.refl _ _)) _
  ·exact rdF_fact (rdF_of hB.2.2.2.2.1) (fun _ _ => trivial) (by decide) _
  ·exact bx_fact (hB.2.2.2.2.2.1 w (agree.refl _ _)) _
  ·exact ⟨⟨_, _, rfl⟩, hB.2.2.2.2.2.2.1, glob_in (glob_of hB.2.2.2.2.2.2.1)⟩) Tryd.func52 rfl (by kernel_rfl) (by kernel_rfl) fun a H => ?_
 unfold matrix_dot_s53_s54 at G
 refine k_seq ?_
 refine k_rg mixed H (.cons [6, 35] (ok_new (fun b => vP b 0) (fun u1 => [vI 0, vI 0]) 37 6 35) <| .nil) fun u1 a w' H => ?_
 replace H := H.kp [0, 1, 2, 6, 30, 31, 34, 35, 29, 32, 33, 999999]
 refine k_seq ?_
 replace G := bnd G; obtain ⟨t3, ht3, G⟩ := G
 replace G := bnd G; obtain ⟨t4, ht4, G⟩ := G
 replace G := bnd G; obtain ⟨t5, ht5, G⟩ := G
 refine k_rg mixed H (.v 9 (.func (.func 53) #[] #[vP b_a1_0 0, vP b_a1_1 0]) <|
   .cons [10] (ok_callL [30, 31, 29, 32] (fun u2 => [rdl anyF 1 p_a1_0 c_a1_0 L_a1_0 enSl, dnK anyF E_S_TInterval.toPart L_a1_0, bxK b_a1_0 [.slice p_a1_0 L_a1_0.length c_a1_0] 27, bxK b_a1_1 [vI a1_1] 3]) 53 (fun u2 => #[vI 0, vP b_a1_0 0, vP b_a1_1 0]) (.agg #[vI t3.Lo, vI t3.Hi]) 10 (fun u2 w hF => matrix_Apply_1_m.calls 0 a1_0 a1_1 b_a1_0 p_a1_0 c_a1_0 L_a1_0 b_a1_1 t3 w h_a1_0 ⟨(rdA (rdF_of hF.1)), (dnA (dn_of hF.2.1)), (bx_fact (hF.2.2.1 w (agree.refl _ _)) 0).2.1, (bx_fact (hF.2.2.2.1 w (agree.refl _ _)) 0).2.1, trivial⟩ ht3)) <|
   .v 11 (.func (.func 54) #[] #[vP b_a2_0 0]) <|
   .cons [12] (ok_callL [34, 33] (fun u2 => [rdl anyF 2 p_a2_0 c_a2_0 a2_0 en_TInterval, bxK b_a2_0 [.slice p_a2_0 a2_0.length c_a2_0] 22]) 54 (fun u2 => #[vI 0, vP b_a2_0 0]) (.agg #[vI t4.Lo, vI t4.Hi]) 12 (fun u2 w hF => matrix_Apply_2_m.calls 0 a2_0 b_a2_0 p_a2_0 c_a2_0 t4 w  ⟨(rdA (rdF_of hF.1)), (bx_fact (hF.2.1 w (agree.refl _ _)) 0).2.1, trivial⟩ ht4)) <|
   .cons [13] (ok_callL [999999] (fun u2 => [gk]) 74 (fun u2 => #[.agg #[vI t3.Lo, vI t3.Hi], .agg #[vI t4.Lo, vI t4.Hi]]) (.agg #[vI t5.Lo, vI t5.Hi]) 13 (fun u2 w hF => interval_Mul.calls t3 t4  t5 w  (glob_of hF.1) ht5)) <|
   .cons [7, 36] (ok_new (fun b => vP b 0) (fun u2 => [vI 0, vI 0]) 37 7 36) <|
   .cons [36] (ok_as (u' := fun u2 => [(36, .blk ((u2 5).n 0) [vI t5.Lo, vI t5.Hi] 37)]) (ok_store 36 0 (fun u2 => ((u2 5).n 0)) (fun u2 => [vI 0, vI 0]) (fun u2 => [vI t5.Lo, vI t5.Hi]) 37) (fun _ => by kernel_rfl)) <| .nil) fun u2 a w' H => ?_
 replace H := H.kp [0, 1, 2, 6, 7, 30, 31, 34, 35, 36, 29, 32, 33, 999999]
 refine k_seq ?_
 replace G := bnd G; obtain ⟨j8, hj8, G⟩ := G
 refine k_join (fun a w' => Rep w.heap.size w 29 (ofL [(6, (sP ((u1 0).n 0) 0)), (7, (sP ((u2 5).n 0) 0)), (30, rdl anyF 1 p_a1_0 c_a1_0 L_a1_0 enSl), (31, dnK anyF E_S_TInterval.toPart L_a1_0), (34, rdl anyF 2 p_a2_0 c_a2_0 a2_0 en_TInterval), (35, .blk ((u1 0).n 0) [vI 0, vI 0] 37), (36, .blk ((u2 5).n 0) [vI j8.1, vI j8.2] 37), (29, bxK b_a1_0 [.slice p_a1_0 L_a1_0.length c_a1_0] 27), (32, bxK b_a1_1 [vI a1_1] 3), (33, bxK b_a2_0 [.slice p_a2_0 a2_0.length c_a2_0] 22), (999999, gk)]) a w') ?_ ?_
 ·clear H; intro a w' H
  refine k_seq ?_
  refine k_rg mixed H (.cons [28] (ok_ld (fun u9 => .agg #[vI j8.1, vI j8.2]) 28 36 0 2 (fun u9 => ((u2 5).n 0)) (fun u9 => [vI j8.1, vI j8.2]) 37) <|
   .cons [35] (ok_as (u' := fun u9 => [(35, .blk ((u1 0).n 0) [vI j8.1, vI j8.2] 37)]) (ok_store 35 0 (fun u9 => ((u1 0).n 0)) (fun u9 => [vI 0, vI 0]) (fun u9 => [vI j8.1, vI j8.2]) 37) (fun _ => by kernel_rfl)) <| .nil) fun u9 a w' H => ?_
  replace H := H.kp [6, 30, 31, 34, 35, 29, 32, 33, 999999]
  refine k_ret ?_
  obtain rfl := Option.some.inj G
  exact k_done1 H _ 35 ((u1 0).n 0) [vI j8.1, vI j8.2] 37 0 2 (by kernel_rfl) (by kernel_rfl) (by kernel_rfl) (by kernel_rfl)
 ·clear G; replace G := hj8; clear hj8
  refine k_seq ?_
  refine k_rg mixed H (.v 8 (vI 1) <| .nil) fun u10 a w' H => ?_
  replace H := H.kp [0, 1, 2, 6, 7, 8, 30, 31, 34, 35, 36, 29, 32, 33, 999999]
  refine k_block ?_
  refine k_loopJ (fun m a w' => ∃ x11 : Int, ∃ x12 : Int, ∃ x13 : Int, matrix_dot_s53_s54.l14 k0 a0 a1_0 a1_1 a2_0 t3 t4 t5 m x11 x12 x13 = some j8 ∧ Rep w.heap.size w 29 (ofL [(0, sI a0), (1, .slot true (.func (.func 53) #[] #[vP b_a1_0 0, vP b_a1_1 0])), (2, .slot true (.func (.func 54) #[] #[vP b_a2_0 0])), (6, (sP ((u1 0).n 0) 0)), (7, (sP ((u2 5).n 0) 0)), (8, sI x13), (30, rdl anyF 1 p_a1_0 c_a1_0 L_a1_0 enSl), (31, dnK anyF E_S_TInterval.toPart L_a1_0), (34, rdl anyF 2 p_a2_0 c_a2_0 a2_0 en_TInterval), (35, .blk ((u1 0).n 0) [vI 0, vI 0] 37), (36, .blk ((u2 5).n 0) [vI x11, vI x12] 37), (29, bxK b_a1_0 [.slice p_a1_0 L_a1_0.length c_a1_0] 27), (32, bxK b_a1_1 [vI a1_1] 3), (33, bxK b_a2_0 [.slice p_a2_0 a2_0.length c_a2_0] 22), (999999, gk)]) a w') k0 ⟨_, _, _, G, H.toL _ (by kernel_rfl)⟩ ?_
  clear G H
  rintro (_ | k) a w' ⟨x11, x12, x13, G, H⟩
  ·exact absurd G (by unfold matrix_dot_s53_s54.l14; exact fun h => by cases h)
  ·unfold matrix_dot_s53_s54.l14 at G
   refine k_seq ?_
   refine k_seq ?_
   refine k_rg mixed H (.v 14 (vI x13) <|
   .v 15 (vI a0) <|
   .v 16 (.bool (decide (x13 < a0))) <| .nil) fun u15 a w' H => ?_
   replace H := H.kp [0, 1, 2, 6, 7, 8, 16, 30, 31, 34, 35, 36, 29, 32, 33, 999999]
   refine k_cond H (by kernel_rfl) (t := decide (x13 < a0)) (by kernel_rfl) (fun c22 => ?_) (fun c22 => ?_)
   ·rw [if_pos c22] at G
    refine k_skip ?_
    refine k_seq ?_
    refine k_block ?_
    replace G := bnd G; obtain ⟨t17, ht17, G⟩ := G
    replace G := bnd G; obtain ⟨t18, ht18, G⟩ := G
    replace G := bnd G; obtain ⟨t19, ht19, G⟩ := G
    replace G := bnd G; obtain ⟨t20, ht20, G⟩ := G
    refine k_rg mixed H (.cons [19] (ok_ld (fun u16 => .agg #[vI x11, vI x12]) 19 36 0 2 (fun u16 => ((u2 5).n 0)) (fun u16 => [vI x11, vI x12]) 37) <|
   .v 20 (.func (.func 53) #[] #[vP b_a1_0 0, vP b_a1_1 0]) <|
   .v 21 (vI x13) <|
   .cons [22] (ok_callL [30, 31, 29, 32] (fun u16 => [rdl anyF 1 p_a1_0 c_a1_0 L_a1_0 enSl, dnK anyF E_S_TInterval.toPart L_a1_0, bxK b_a1_0 [.slice p_a1_0 L_a1_0.length c_a1_0] 27, bxK b_a1_1 [vI a1_1] 3]) 53 (fun u16 => #[vI x13, vP b_a1_0 0, vP b_a1_1 0]) (.agg #[vI t17.Lo, vI t17.Hi]) 22 (fun u16 w hF => matrix_Apply_1_m.calls x13 a1_0 a1_1 b_a1_0 p_a1_0 c_a1_0 L_a1_0 b_a1_1 t17 w h_a1_0 ⟨(rdA (rdF_of hF.1)), (dnA (dn_of hF.2.1)), (bx_fact (hF.2.2.1 w (agree.refl _ _)) 0).2.1, (bx_fact (hF.2.2.2.1 w (agree.refl _ _)) 0).2.1, trivial⟩ ht17)) <|
   .v 23 (.func (.func 54) #[] #[vP b_a2_0 0]) <|
   .v 24 (vI x13) <|
   .cons [25] (ok_callL [34, 33] (fun u16 => [rdl anyF 2 p_a2_0 c_a2_0 a2_0 en_TInterval, bxK b_a2_0 [.slice p_a2_0 a2_0.length c_a2_0] 22]) 54 (fun u16 => #[vI x13, vP b_a2_0 0]) (.agg #[vI t18.Lo, vI t18.Hi]) 25 (fun u16 w hF => matrix_Apply_2_m.calls x13 a2_0 b_a2_0 p_a2_0 c_a2_0 t18 w  ⟨(rdA (rdF_of hF.1)), (bx_fact (hF.2.1 w (agree.refl _ _)) 0).2.1, trivial⟩ ht18)) <|
   .cons [26] (ok_callL [999999] (fun u16 => [gk]) 74 (fun u16 => #[.agg #[vI t17.Lo, vI t17.Hi], .agg #[vI t18.Lo, vI t18.Hi]]) (.agg #[vI t19.Lo, vI t19.Hi]) 26 (fun u16 w hF => interval_Mul.calls t17 t18  t19 w  (glob_of hF.1) ht19)) <|
   .cons [27] (ok_callv 89 (fun u16 => #[.agg #[vI x11, vI x12], .agg #[vI t19.Lo, vI t19.Hi]]) (.agg #[vI t20.Lo, vI t20.Hi]) 27 [] (fun u16 w _ => interval_Add.calls (⟨x11, x12⟩ : TInterval) t19  t20 w  ht20)) <|
   .cons [36] (ok_as (u' := fun u16 => [(36, .blk ((u2 5).n 0) [vI t20.Lo, vI t20.Hi] 37)]) (ok_store 36 0 (fun u16 => ((u2 5).n 0)) (fun u16 => [vI x11, vI x12]) (fun u16 => [vI t20.Lo, vI t20.Hi]) 37) (fun _ => by kernel_rfl)) <| .nil) fun u16 a w' H => ?_
    replace H := H.kp [0, 1, 2, 6, 7, 8, 30, 31, 34, 35, 36, 29, 32, 33, 999999]
    refine k_rg mixed H (.v 17 (vI x13) <|
   .v 18 (vI (w_i64 (x13 + 1))) <|
   .v 8 (vI (w_i64 (x13 + 1))) <| .nil) fun u21 a w' H => ?_
    replace H := H.kp [0, 1, 2, 6, 7, 8, 30, 31, 34, 35, 36, 29, 32, 33, 999999]
    exact ⟨k, Nat.lt_succ_self k, _, _, _, G, H.toL _ (by kernel_rfl)⟩
   ·rw [if_neg (nt c22)] at G
    refine k_exit rfl ?_
    obtain rfl := Option.some.inj G
    exact H.toL _ (by kernel_rfl)
set_option maxHeartbeats 4000000 in
theorem matrix_Apply.calls (k0 : Nat) (a0 : List (List TInterval)) (a1 : List TInterval) (p_a0 : Option Addr) (c_a0 : Nat) (L_a0 : List (Sl TInterval)) (p_a1 : Option Addr) (c_a1 : Nat) (r : List TInterval) (w : World) (h_a0 : a0 = L_a0.map Sl.l) (hB : AllH [rdl anyF 1 p_a0 c_a0 L_a0 enSl, dnK anyF E_S_TInterval.toPart L_a0, rdl anyF 2 p_a1 c_a1 a1 en_TInterval, gk] w) (G : matrix_Apply k0 a0 a1 = some r) :
  Calls Tryd.prog 15 #[.slice p_a0 L_a0.length c_a0, .slice p_a1 a1.length c_a1] w fun e w' => ∃ g : Gh, e = .returned (.slice (g.o 0) r.length (g.n 0)) ∧ But (fpK []) w w' ∧ OutOK w.heap.size (fpK []) (frI w.heap.size []) [fun _ => owK 37 2 (g.o 0) r.length (g.n 0) (r.flatMap en_TInterval)] w' := by
 obtain ⟨fr, hfr⟩ : ∃ fr : Nat → Prop, fr = frI w.heap.size [] := ⟨_, rfl⟩
 have hBf : ∀ j, w.heap.size ≤ j → fr j := fun j h => by rw [hfr]; exact .inl h
 refine k_enterF (args := [.slice p_a0 L_a0.length c_a0, .slice p_a1 a1.length c_a1]) 22 [(22, rdl anyF 1 p_a0 c_a0 L_a0 enSl), (23, dnK anyF E_S_TInterval.toPart L_a0), (24, rdl anyF 2 p_a1 c_a1 a1 en_TInterval), (999999, gk)] (by
  intro x hx
  simp only [List.mem_cons, List.not_mem_nil, or_false] at hx
  rcases hx with rfl | rfl | rfl | rfl
  ·exact rdF_fact (rdF_of hB.1) (fun _ _ => trivial) (by decide) _
  ·exact dn_fact (dn_of hB.2.1) (fun _ _ => trivial) _
  ·exact rdF_fact (rdF_of hB.2.2.1) (fun _ _ => trivial) (by decide) _
  ·exact ⟨⟨_, _, rfl⟩, hB.2.2.2.1, glob_in (glob_of hB.2.2.2.1)⟩) Tryd.func15 rfl (by kernel_rfl) (by kernel_rfl) fun a H => ?_
 unfold matrix_Apply at G
 refine k_seq ?_
 refine k_rg mixed H (.cons [2, 25] (ok_new (fun b => vP b 0) (fun u1 => [.slice p_a0 L_a0.length c_a0]) 27 2 25) <|
   .cons [3, 26] (ok_new (fun b => vP b 0) (fun u1 => [.slice p_a1 a1.length c_a1]) 22 3 26) <|
   .v 4 (.slice none 0 0) <| .nil) fun u1 a w' H => ?_
 replace H := H.kp [2, 3, 22, 23, 24, 25, 26, 999999]
 refine k_seq ?_
 refine k_rg mixed H (.v 5 (.slice none 0 0) <| .nil) fun u2 a w' H => ?_
 replace H := H.kp [2, 3, 5, 22, 23, 24, 25, 26, 999999]
 refine k_seq ?_
 replace G := bnd G; obtain ⟨j4, hj4, G⟩ := G
 refine k_join (fun a w' => ∃ (p_j3 : Option Addr) (c_j3 np_j3 : Nat), np_j3 = j4.length ∧ Rep w.heap.size w 22 (ofL [(5, sS p_j3 np_j3 c_j3), (900002, owK 37 2 p_j3 np_j3 c_j3 (j4.flatMap en_TInterval)), (999999, gk)]) a w') ?_ ?_
 ·clear H; rintro a w' ⟨p_j3, c_j3, _, rfl, H⟩
  refine k_seq ?_
  refine k_rg mixed H (.v 21 (.slice p_j3 j4.length c_j3) <|
   .v 4 (.slice p_j3 j4.length c_j3) <| .nil) fun u5 a w' H => ?_
  replace H := H.kp [4, 900002, 999999]
  refine k_ret ?_
  obtain rfl := Option.some.inj G
  obtain ⟨g, o0, n0⟩ : ∃ g : Gh, g.o 0 = p_j3 ∧ g.n 0 = c_j3 := ⟨⟨fun i => [c_j3].getD i 0, fun i => [p_j3].getD i none, fun i => ([⟨Unit, ()⟩] : List ((T : Type) × T)).getD i ⟨Unit, ()⟩⟩, rfl, rfl⟩
  refine k_doneZ H (fun g => .slice (g.o 0) j4.length (g.n 0)) g [] [] (fun g => [fun _ => owK 37 2 (g.o 0) j4.length (g.n 0) (j4.flatMap en_TInterval)]) fr [900002] [] (.slice p_j3 j4.length c_j3) [fun _ => owK 37 2 p_j3 j4.length c_j3 (j4.flatMap en_TInterval)] (by simp only [o0, n0]) (by simp only [o0, n0]) hfr (.inl ⟨rfl, rfl⟩) (fams_cons fam_ow fams_nil) (by simp)
 ·clear G; replace G := hj4; clear hj4
  refine k_seq ?_
  refine k_rg mixed H (.cons [7] (ok_ld (fun u6 => .slice p_a0 L_a0.length c_a0) 7 25 0 1 (fun u6 => ((u1 0).n 0)) (fun u6 => [.slice p_a0 L_a0.length c_a0]) 27) <|
   .cons [8] (ok_valL [22] (fun u6 => [rdl anyF 1 p_a0 c_a0 L_a0 enSl]) (fun u6 => vI (a0.length : Int)) (fun u6 => true) [true] 8 (fun u6 w hg hF => run_lenN (((rdF_of hF.1).2.len enSl_len (by decide)).trans (map_len h_a0).symm) (by kernel_rfl))) <|
   .v 9 (vI 0) <| .nil) fun u6 a w' H => ?_
  replace H := H.kp [2, 3, 5, 8, 9, 22, 23, 24, 25, 26, 999999]
  refine k_block ?_
  replace H := H.nil_row 31 37 2
  replace H := H.move (K := owK 37 2 none 0 0 (([] : List TInterval).flatMap en_TInterval)) 31 900003 (by kernel_rfl) (by intro _ _ h; cases h)
  refine k_loopJ (fun m a w' => ∃ x7 : List TInterval, ∃ x8 : Int, matrix_Apply.l9 k0 a0 a1 m x7 x8 = some j4 ∧ ∃ (p_x7 : Option Addr) (c_x7 np_x7 : Nat), np_x7 = x7.length ∧ Rep w.heap.size w 22 (ofL [(2, (sP ((u1 0).n 0) 0)), (3, (sP ((u1 1).n 0) 0)), (5, sS p_x7 np_x7 c_x7), (8, (sI (a0.length : Int))), (9, sI x8), (22, rdl anyF 1 p_a0 c_a0 L_a0 enSl), (23, dnK anyF E_S_TInterval.toPart L_a0), (24, rdl anyF 2 p_a1 c_a1 a1 en_TInterval), (25, .blk ((u1 0).n 0) [.slice p_a0 L_a0.length c_a0] 27), (26, .blk ((u1 1).n 0) [.slice p_a1 a1.length c_a1] 22), (900003, owK 37 2 p_x7 np_x7 c_x7 (x7.flatMap en_TInterval)), (999999, gk)]) a w') k0 ⟨_, _, G, none, 0, 0, rfl, H.toL _ (by kernel_rfl)⟩ ?_
  clear G H
  rintro (_ | k) a w' ⟨x7, x8, G, p_x7, c_x7, _, rfl, H⟩
  ·exact absurd G (by unfold matrix_Apply.l9; exact fun h => by cases h)
  ·unfold matrix_Apply.l9 at G
   refine k_seq ?_
   refine k_rg mixed H (.v 10 (.bool (decide (x8 < (a0.length : Int)))) <| .nil) fun u10 a w' H => ?_
   replace H := H.kp [2, 3, 5, 8, 9, 10, 22, 23, 24, 25, 26, 900003, 999999]
   refine k_seq ?_
   refine k_cond H (by kernel_rfl) (t := decide (x8 < (a0.length : Int))) (by kernel_rfl) (fun c16 => ?_) (fun c16 => ?_)
   ·rw [if_pos c16] at G
    refine k_skip ?_
    refine k_seq ?_
    refine k_block ?_
    refine k_seq ?_
    refine k_rg mixed H (.v 11 (vI x8) <|
   .cons [6, 27] (ok_new (fun b => vP b 0) (fun u11 => [vI 0]) 3 6 27) <|
   .cons [27] (ok_as (u' := fun u11 => [(27, .blk ((u11 1).n 0) [vI x8] 3)]) (ok_store 27 0 (fun u11 => ((u11 1).n 0)) (fun u11 => [vI 0]) (fun u11 => [vI x8]) 3) (fun _ => by kernel_rfl)) <| .nil) fun u11 a w' H => ?_
    replace H := H.kp [2, 3, 5, 6, 8, 9, 22, 23, 24, 25, 26, 27, 900003, 999999]
    replace G := bnd G; obtain ⟨t13, ht13, G⟩ := G
    replace G := gd G; obtain ⟨b14, G⟩ := G
    refine k_rg mixed H (.v 12 (.slice p_x7 x7.length c_x7) <|
   .cons [13] (ok_ld (fun u12 => .slice p_a0 L_a0.length c_a0) 13 25 0 1 (fun u12 => ((u1 0).n 0)) (fun u12 => [.slice p_a0 L_a0.length c_a0]) 27) <|
   .cons [14] (ok_valL [22] (fun u12 => [rdl anyF 1 p_a0 c_a0 L_a0 enSl]) (fun u12 => vI (a0.length : Int)) (fun u12 => true) [true] 14 (fun u12 w hg hF => run_lenN (((rdF_of hF.1).2.len enSl_len (by decide)).trans (map_len h_a0).symm) (by kernel_rfl))) <|
   .v 15 (.func (.func 53) #[] #[vP ((u1 0).n 0) 0, vP ((u11 1).n 0) 0]) <|
   .v 16 (.func (.func 54) #[] #[vP ((u1 1).n 0) 0]) <|
   .cons [17] (ok_callL [22, 23, 25, 27, 24, 26, 999999] (fun u12 => [rdl anyF 1 p_a0 c_a0 L_a0 enSl, dnK anyF E_S_TInterval.toPart L_a0, .blk ((u1 0).n 0) [.slice p_a0 L_a0.length c_a0] 27, .blk ((u11 1).n 0) [vI x8] 3, rdl anyF 2 p_a1 c_a1 a1 en_TInterval, .blk ((u1 1).n 0) [.slice p_a1 a1.length c_a1] 22, gk]) 52 (fun u12 => #[vI (a0.length : Int), .func (.func 53) #[] #[vP ((u1 0).n 0) 0, vP ((u11 1).n 0) 0], .func (.func 54) #[] #[vP ((u1 1).n 0) 0]]) (.agg #[vI t13.Lo, vI t13.Hi]) 17 (fun u12 w hF => matrix_dot_s53_s54.calls k0 (a0.length : Int) a0 x8 a1 ((u1 0).n 0) p_a0 c_a0 L_a0 ((u11 1).n 0) ((u1 1).n 0) p_a1 c_a1 t13 w h_a0 ⟨(rdA (rdF_of hF.1)), (dnA (dn_of hF.2.1)), (bx_fact hF.2.2.1 0).2.1, (bx_fact hF.2.2.2.1 0).2.1, (rdA (rdF_of hF.2.2.2.2.1)), (bx_fact hF.2.2.2.2.2.1 0).2.1, hF.2.2.2.2.2.2.1, trivial⟩ ht13)) <|
   .cons [18, 28] (ok_new (fun b => .slice (some ⟨b, 0, none⟩) 1 1) (fun u12 => [vI t13.Lo, vI t13.Hi]) 37 18 28) <|
   .cons [19, 900003, 900003] (ok_own1 [6] [28] (fun u12 => [.blk ((u12 6).n 0) [vI t13.Lo, vI t13.Hi] 37]) 900003 (fun u12 => owK 37 2 p_x7 x7.length c_x7 (x7.flatMap en_TInterval)) (some 19) (fun u12 g => .slice (g.o 0) (x7 ++ [t13]).length (g.n 0)) (fun u12 g => owK 37 2 (g.o 0) ((x7 ++ [t13]).length) (g.n 0) ((x7 ++ [t13]).flatMap en_TInterval)) (fun u12 w hF hK => tv_app (run_app_rowN (t := 22) (ty := 22) (en := en_TInterval) en_TInterval_len inf37 (ow_of hK) hF.1 (news := [t13]) rfl (by simp) (by kernel_rfl) b14)) (hloc := fun u u' h => ⟨by first | rfl | simp only [h 6 (by decide)], by first | rfl | simp only [h 6 (by decide)], by first | rfl | simp only [h 6 (by decide)], by first | rfl | simp only [h 6 (by decide)]⟩)) <|
   .cons [5] (ok_val (fun u12 => .slice ((u12 7).o 0) ((x7 ++ [t13]).length) ((u12 7).n 0)) 5) <| .nil) fun u12 a w' H => ?_
    replace H := H.kp [2, 3, 5, 8, 9, 22, 23, 24, 25, 26, 900003, 999999]
    refine k_rg mixed H (.v 20 (vI (w_i64 (x8 + 1))) <|
   .v 9 (vI (w_i64 (x8 + 1))) <| .nil) fun u15 a w' H => ?_
    replace H := H.kp [2, 3, 5, 8, 9, 22, 23, 24, 25, 26, 900003, 999999]
    exact ⟨k, Nat.lt_succ_self k, _, _, G, ((u12 7).o 0), ((u12 7).n 0), (x7 ++ [t13]).length, rfl, H.toL _ (by kernel_rfl)⟩
   ·rw [if_neg (nt c16)] at G
    refine k_exit rfl ?_
    obtain rfl := Option.some.inj G
    replace H := H.move (K := owK 37 2 p_x7 x7.length c_x7 (x7.flatMap en_TInterval)) 900003 900002 (by kernel_rfl) (by intro _ _ h; cases h)
    exact ⟨p_x7, c_x7, x7.length, rfl, H.toL _ (by kernel_rfl)⟩
set_option maxHeartbeats 4000000 in
theorem matrix_Mul_1_1_m.calls (a0 : Int) (q0 : List (List TInterval)) (q1 : Int) (b_q0 : Nat) (p_q0 : Option Addr) (c_q0 : Nat) (L_q0 : List (Sl TInterval)) (b_q1 : Nat) (r : TInterval) (w : World) (h_q0 : q0 = L_q0.map Sl.l) (hB : AllH [rdl anyF 1 p_q0 c_q0 L_q0 enSl, dnK anyF E_S_TInterval.toPart L_q0, bxK b_q0 [.slice p_q0 L_q0.length c_q0] 27, bxK b_q1 [vI q1] 3] w) (G : matrix_Mul_1_1_m a0 q0 q1 = some r) :
  Calls Tryd.prog 58 #[vI a0, vP b_q0 0, vP b_q1 0] w fun e w' => e = .returned (.agg #[vI r.Lo, vI r.Hi]) ∧ Below w.heap.size w w' := by
 obtain ⟨fr, hfr⟩ : ∃ fr : Nat → Prop, ∀ j, fr j := ⟨fun _ => True, fun _ => trivial⟩
 have hBf : ∀ j, w.heap.size ≤ j → fr j := fun j _ => hfr j
 refine k_enterF (args := [vI a0, vP b_q0 0, vP b_q1 0]) 12 [(13, rdl anyF 1 p_q0 c_q0 L_q0 enSl), (14, dnK anyF E_S_TInterval.toPart L_q0), (12, bxK b_q0 [.slice p_q0 L_q0.length c_q0] 27), (15, bxK b_q1 [vI q1] 3)] (by
  intro x hx
  simp only [List.mem_cons, List.not_mem_nil, or_false] at hx
  rcases hx with rfl | rfl | rfl | rfl
  ·exact rdF_fact (rdF_of hB.1) (fun _ _ => trivial) (by decide) _
  ·exact dn_fact (dn_of hB.2.1) (fun _ _ => trivial) _
  ·exact bx_fact (hB.2.2.1 w (agree.refl _ _)) _
  ·exact bx_fact (hB.2.2.2.1 w (agree.refl _ _)) _) Tryd.func58 rfl (by kernel_rfl) (by kernel_rfl) fun a H => ?_
 unfold matrix_Mul_1_1_m at G
 refine k_seq ?_
 refine k_rg mixed H (.cons [4, 16] (ok_new (fun b => vP b 0) (fun u1 => [vI 0, vI 0]) 37 4 16) <| .nil) fun u1 a w' H => ?_
 replace H := H.kp [0, 1, 2, 4, 13, 14, 16, 12, 15]
 refine k_seq ?_
 replace G := gd G; obtain ⟨b3, G⟩ := G
 replace G := bnd G; obtain ⟨t4, ht4, G⟩ := G
 obtain ⟨p_t4, c_t4, y_t4⟩ := sl_get h_q0 ht4
 replace G := gd G; obtain ⟨b5, G⟩ := G
 replace G := bnd G; obtain ⟨t6, ht6, G⟩ := G
 refine k_rg mixed H (.cons [5] (ok_ldK (fun u2 => .slice p_q0 L_q0.length c_q0) 5 12 (bxK b_q0 [.slice p_q0 L_q0.length c_q0] 27) b_q0 0 1 [.slice p_q0 L_q0.length c_q0] (fun w h => bx_of h)) <|
   .cons [6] (ok_ldK (fun u2 => vI q1) 6 15 (bxK b_q1 [vI q1] 3) b_q1 0 1 [vI q1] (fun w h => bx_of h)) <|
   .cons [7] (ok_valL [13] (fun u2 => [rdl anyF 1 p_q0 c_q0 L_q0 enSl]) (fun u2 => .pointer (some ⟨hdB p_q0, hdO p_q0 + q1.toNat * 1, none⟩)) (fun u2 => true) [true, true] 7 (fun u2 w hg hF => ix_row (t := 27) (k := .i64) (i := q1) (p := p_q0) (n := L_q0.length) (cap := c_q0) (x := q0) (en := enSl) (rdF_of hF.1).2 enSl_len (map_len h_q0) b3 (by kernel_rfl))) <|
   .cons [8] (ok_valL [13] (fun u2 => [rdl anyF 1 p_q0 c_q0 L_q0 enSl]) (fun u2 => .slice p_t4 t4.length c_t4) (fun u2 => true) [true] 8 (fun u2 w hg hF => ld_row (en := enSl) (rdF_of hF.1).2 enSl_len y_t4 0 1 [.slice p_t4 t4.length c_t4] rfl (by kernel_rfl))) <|
   .v 9 (vI a0) <|
   .cons [10] (ok_valL [14] (fun u2 => [dnK anyF E_S_TInterval.toPart L_q0]) (fun u2 => .pointer (some ⟨hdB p_t4, hdO p_t4 + a0.toNat * 2, none⟩)) (fun u2 => true) [true, true] 10 (fun u2 w hg hF => ix_row (t := 22) (k := .i64) (i := a0) (p := p_t4) (n := t4.length) (cap := c_t4) (x := t4) (en := en_TInterval) (show RowC _ 2 p_t4 t4.length c_t4 (t4.flatMap en_TInterval) from ((dn_of hF.1) _ (List.mem_of_getElem? y_t4)).1).2 en_TInterval_len rfl b5 (by kernel_rfl))) <|
   .cons [11] (ok_valL [14] (fun u2 => [dnK anyF E_S_TInterval.toPart L_q0]) (fun u2 => .agg #[vI t6.Lo, vI t6.Hi]) (fun u2 => true) [true] 11 (fun u2 w hg hF => ld_row (en := en_TInterval) (show RowC _ 2 p_t4 t4.length c_t4 (t4.flatMap en_TInterval) from ((dn_of hF.1) _ (List.mem_of_getElem? y_t4)).1).2 en_TInterval_len ht6 0 2 [vI t6.Lo, vI t6.Hi] rfl (by kernel_rfl))) <|
   .cons [16] (ok_as (u' := fun u2 => [(16, .blk ((u1 0).n 0) [vI t6.Lo, vI t6.Hi] 37)]) (ok_store 16 0 (fun u2 => ((u1 0).n 0)) (fun u2 => [vI 0, vI 0]) (fun u2 => [vI t6.Lo, vI t6.Hi]) 37) (fun _ => by kernel_rfl)) <| .nil) fun u2 a w' H => ?_
 replace H := H.kp [4, 13, 14, 16, 12, 15]
 refine k_ret ?_
 obtain rfl := Option.some.inj G
 exact k_done1 H _ 16 ((u1 0).n 0) [vI t6.Lo, vI t6.Hi] 37 0 2 (by kernel_rfl) (by kernel_rfl) (by kernel_rfl) (by kernel_rfl)
set_option maxHeartbeats 4000000 in
theorem matrix_Mul_1_2_m.calls (a0 : Int) (q0 : List (List TInterval)) (q1 : Int) (b_q0 : Nat) (p_q0 : Option Addr) (c_q0 : Nat) (L_q0 : List (Sl TInterval)) (b_q1 : Nat) (r : TInterval) (w : World) (h_q0 : q0 = L_q0.map Sl.l) (hB : AllH [rdl anyF 1 p_q0 c_q0 L_q0 enSl, dnK anyF E_S_TInterval.toPart L_q0, bxK b_q0 [.slice p_q0 L_q0.length c_q0] 27, bxK b_q1 [vI q1] 3] w) (G : matrix_Mul_1_2_m a0 q0 q1 = some r) :
  Calls Tryd.prog 59 #[vI a0, vP b_q0 0, vP b_q1 0] w fun e w' => e = .returned (.agg #[vI r.Lo, vI r.Hi]) ∧ Below w.heap.size w w' := by
 obtain ⟨fr, hfr⟩ : ∃ fr : Nat → Prop, ∀ j, fr j := ⟨fun _ => True, fun _ => trivial⟩
 have hBf : ∀ j, w.heap.size ≤ j → fr j := fun j _ => hfr j
 refine k_enterF (args := [vI a0, vP b_q0 0, vP b_q1 0]) 12 [(13, rdl anyF 1 p_q0 c_q0 L_q0 enSl), (14, dnK anyF E_S_TInterval.toPart L_q0), (12, bxK b_q0 [.slice p_q0 L_q0.length c_q0] 27), (15, bxK b_q1 [vI q1] 3)] (by
  intro x hx
  simp only [List.mem_cons, List.not_mem_nil, or_false] at hx
  rcases hx with rfl | rfl | rfl | rfl
  ·exact rdF_fact (rdF_of hB.1) (fun _ _ => trivial) (by decide) _
  ·exact dn_fact (dn_of hB.2.1) (fun _ _ => trivial) _
  ·exact bx_fact (hB.2.2.1 w (agree.refl _ _)) _
  ·exact bx_fact (hB.2.2.2.1 w (agree.refl _ _)) _) Tryd.func59 rfl (by kernel_rfl) (by kernel_rfl) fun a H => ?_
 unfold matrix_Mul_1_2_m at G
 refine k_seq ?_
 refine k_rg mixed H (.cons [4, 16] (ok_new (fun b => vP b 0) (fun u1 => [vI 0, vI 0]) 37 4 16) <| .nil) fun u1 a w' H => ?_
 replace H := H.kp [0, 1, 2, 4, 13, 14, 16, 12, 15]
 refine k_seq ?_
 replace G := gd G; obtain ⟨b3, G⟩ := G
 replace G := bnd G; obtain ⟨t4, ht4, G⟩ := G
 obtain ⟨p_t4, c_t4, y_t4⟩ := sl_get h_q0 ht4
 have P5 := ptr_of (en := enSl) (l := L_q0) (rdF_of (H.at (K := rdl anyF 1 p_q0 c_q0 L_q0 enSl) 13 (by kernel_rfl))).2 enSl_len
 replace G := gd G; obtain ⟨b6, G⟩ := G
 replace G := bnd G; obtain ⟨t7, ht7, G⟩ := G
 refine k_rg mixed H (.cons [5] (ok_ldK (fun u2 => .slice p_q0 L_q0.length c_q0) 5 12 (bxK b_q0 [.slice p_q0 L_q0.length c_q0] 27) b_q0 0 1 [.slice p_q0 L_q0.length c_q0] (fun w h => bx_of h)) <|
   .v 6 (vI a0) <|
   .cons [7] (ok_val (fun u2 => .pointer (some ⟨hdB p_q0, hdO p_q0 + a0.toNat * 1, none⟩)) 7 (hv := fun _ _ => ix_pure (t := 27) (k := .i64) (i := a0) (p := p_q0) (n := L_q0.length) (cap := c_q0) (x := q0) P5 (map_len h_q0) b3 (by kernel_rfl))) <|
   .cons [8] (ok_valL [13] (fun u2 => [rdl anyF 1 p_q0 c_q0 L_q0 enSl]) (fun u2 => .slice p_t4 t4.length c_t4) (fun u2 => true) [true] 8 (fun u2 w hg hF => ld_row (en := enSl) (rdF_of hF.1).2 enSl_len y_t4 0 1 [.slice p_t4 t4.length c_t4] rfl (by kernel_rfl))) <|
   .cons [9] (ok_ldK (fun u2 => vI q1) 9 15 (bxK b_q1 [vI q1] 3) b_q1 0 1 [vI q1] (fun w h => bx_of h)) <|
   .cons [10] (ok_valL [14] (fun u2 => [dnK anyF E_S_TInterval.toPart L_q0]) (fun u2 => .pointer (some ⟨hdB p_t4, hdO p_t4 + q1.toNat * 2, none⟩)) (fun u2 => true) [true, true] 10 (fun u2 w hg hF => ix_row (t := 22) (k := .i64) (i := q1) (p := p_t4) (n := t4.length) (cap := c_t4) (x := t4) (en := en_TInterval) (show RowC _ 2 p_t4 t4.length c_t4 (t4.flatMap en_TInterval) from ((dn_of hF.1) _ (List.mem_of_getElem? y_t4)).1).2 en_TInterval_len rfl b6 (by kernel_rfl))) <|
   .cons [11] (ok_valL [14] (fun u2 => [dnK anyF E_S_TInterval.toPart L_q0]) (fun u2 => .agg #[vI t7.Lo, vI t7.Hi]) (fun u2 => true) [true] 11 (fun u2 w hg hF => ld_row (en := en_TInterval) (show RowC _ 2 p_t4 t4.length c_t4 (t4.flatMap en_TInterval) from ((dn_of hF.1) _ (List.mem_of_getElem? y_t4)).1).2 en_TInterval_len ht7 0 2 [vI t7.Lo, vI t7.Hi] rfl (by kernel_rfl))) <|
   .cons [16] (ok_as (u' := fun u2 => [(16, .blk ((u1 0).n 0) [vI t7.Lo, vI t7.Hi] 37)]) (ok_store 16 0 (fun u2 => ((u1 0).n 0)) (fun u2 => [vI 0, vI 0]) (fun u2 => [vI t7.Lo, vI t7.Hi]) 37) (fun _ => by kernel_rfl)) <| .nil) fun u2 a w' H => ?_
 replace H := H.kp [4, 13, 14, 16, 12, 15]
 refine k_ret ?_
 obtain rfl := Option.some.inj G
 exact k_done1 H _ 16 ((u1 0).n 0) [vI t7.Lo, vI t7.Hi] 37 0 2 (by kernel_rfl) (by kernel_rfl) (by kernel_rfl) (by kernel_rfl)
set_option maxHeartbeats 4000000 in
theorem matrix_dot_s58_s59.calls (k0 : Nat) (a0 : Int) (a1_0 : List (List TInterval)) (a1_1 : Int) (a2_0 : List (List TInterval)) (a2_1 : Int) (b_a1_0 : Nat) (p_a1_0 : Option Addr) (c_a1_0 : Nat) (L_a1_0 : List (Sl TInterval)) (b_a1_1 : Nat) (b_a2_0 : Nat) (p_a2_0 : Option Addr) (c_a2_0 : Nat) (L_a2_0 : List (Sl TInterval)) (b_a2_1 : Nat) (r : TInterval) (w : World) (h_a1_0 : a1_0 = L_a1_0.map Sl.l) (h_a2_0 : a2_0 = L_a2_0.map Sl.l) (hB : AllH [rdl anyF 1 p_a1_0 c_a1_0 L_a1_0 enSl, dnK anyF E_S_TInterval.toPart L_a1_0, bxK b_a1_0 [.slice p_a1_0 L_a1_0.length c_a1_0] 27, bxK b_a1_1 [vI a1_1] 3, rdl anyF 1 p_a2_0 c_a2_0 L_a2_0 enSl, dnK anyF E_S_TInterval.toPart L_a2_0, bxK b_a2_0 [.slice p_a2_0 L_a2_0.length c_a2_0] 27, bxK b_a2_1 [vI a2_1] 3, gk] w) (G : matrix_dot_s58_s59 k0 a0 a1_0 a1_1 a2_0 a2_1 = some r) :
  Calls Tryd.prog 52 #[vI a0, .func (.func 58) #[] #[vP b_a1_0 0, vP b_a1_1 0], .func (.func 59) #[] #[vP b_a2_0 0, vP b_a2_1 0]] w fun e w' => e = .returned (.agg #[vI r.Lo, vI r.Hi]) ∧ Below w.heap.size w w' := by
 obtain ⟨fr, hfr⟩ : ∃ fr : Nat → Prop, ∀ j, fr j := ⟨fun _ => True, fun _ => trivial⟩
 have hBf : ∀ j, w.heap.size ≤ j → fr j := fun j _ => hfr j
 refine k_enterF (args := [vI a0, .func (.func 58) #[] #[vP b_a1_0 0, vP b_a1_1 0], .func (.func 59) #[] #[vP b_a2_0 0, vP b_a2_1 0]]) 29 [(30, rdl anyF 1 p_a1_0 c_a1_0 L_a1_0 enSl), (31, dnK anyF E_S_TInterval.toPart L_a1_0), (29, bxK b_a1_0 [.slice p_a1_0 L_a1_0.length c_a1_0] 27), (32, bxK b_a1_1 [vI a1_1] 3), (34, rdl anyF 1 p_a2_0 c_a2_0 L_a2_0 enSl), (35, dnK anyF E_S_TInterval.toPart L_a2_0), (33, bxK b_a2_0 [.slice p_a2_0 L_a2_0.length c_a2_0] 27), (36, bxK b_a2_1 [vI a2_1] 3), (999999, gk)] (by
  intro x hx
  simp only [List.mem_cons, List.not_mem_nil, or_false] at hx
  rcases hx with rfl | rfl | rfl | rfl | rfl | rfl | rfl | rfl | rfl
  ·exact rdF_fact (rdF_of hB.1) (fun _ _ => trivial) (by decide) _
  ·exact dn_fact (dn_of hB.2.1) (fun _ _ => trivial) _
  ·exact bx_fact (hB.2.2.1 w (agree.refl _ _)) _
  ·exact bx_fact (hB.2.2.2.1 w (agree.refl _ _)) _
  ·exact rdF_fact (rdF_of hB.2.2.2.2.1) (fun _ _ => trivial) (by decide) _
  ·exact dn_fact (dn_of hB.2.2.2.2.2.1) (fun _ _ => trivial) _
  ·exact bx_fact (hB.2.2.2.2.2.2.1 w (agree.refl _ _)) _
  ·exact bx_fact (hB.2.2.2.2.2.2.2.1 w (agree.refl _ _)) _
  ·exact ⟨⟨_, _, rfl⟩, hB.2.2.2.2.2.2.2.2.1, glob_in (glob_of hB.2.2.2.2.2.2.2.2.1)⟩) Tryd.func52 rfl (by kernel_rfl) (by kernel_rfl) fun a H => ?_
 unfold matrix_dot_s58_s59 at G
 refine k_seq ?_
 refine k_rg mixed H (.cons [6, 37] (ok_new (fun b => vP b 0) (fun u1 => [vI 0, vI 0]) 37 6 37) <| .nil) fun u1 a w' H => ?_
 replace H := H.kp [0, 1, 2, 6, 30, 31, 34, 35, 37, 29, 32, 33, 36, 999999]
 refine k_seq ?_
 replace G := bnd G; obtain ⟨t3, ht3, G⟩ := G
 replace G := bnd G; obtain ⟨t4, ht4, G⟩ := G
 replace G := bnd G; obtain ⟨t5, ht5, G⟩ := G
 refine k_rg mixed H (.v 9 (.func (.func 58) #[] #[vP b_a1_0 0, vP b_a1_1 0]) <|
   .cons [10] (ok_callL [30, 31, 29, 32] (fun u2 => [rdl anyF 1 p_a1_0 c_a1_0 L_a1_0 enSl, dnK anyF E_S_TInterval.toPart L_a1_0, bxK b_a1_0 [.slice p_a1_0 L_a1_0.length c_a1_0] 27, bxK b_a1_1 [vI a1_1] 3]) 58 (fun u2 => #[vI 0, vP b_a1_0 0, vP b_a1_1 0]) (.agg #[vI t3.Lo, vI t3.Hi]) 10 (fun u2 w hF => matrix_Mul_1_1_m.calls 0 a1_0 a1_1 b_a1_0 p_a1_0 c_a1_0 L_a1_0 b_a1_1 t3 w h_a1_0 ⟨(rdA (rdF_of hF.1)), (dnA (dn_of hF.2.1)), (bx_fact (hF.2.2.1 w (agree.refl _ _)) 0).2.1, (bx_fact (hF.2.2.2.1 w (agree.refl _ _)) 0).2.1, trivial⟩ ht3)) <|
   .v 11 (.func (.func 59) #[] #[vP b_a2_0 0, vP b_a2_1 0]) <|
   .cons [12] (ok_callL [34, 35, 33, 36] (fun u2 => [rdl anyF 1 p_a2_0 c_a2_0 L_a2_0 enSl, dnK anyF E_S_TInterval.toPart L_a2_0, bxK b_a2_0 [.slice p_a2_0 L_a2_0.length c_a2_0] 27, bxK b_a2_1 [vI a2_1] 3]) 59 (fun u2 => #[vI 0, vP b_a2_0 0, vP b_a2_1 0]) (.agg #[vI t4.Lo, vI t4.Hi]) 12 (fun u2 w hF => matrix_Mul_1_2_m.calls 0 a2_0 a2_1 b_a2_0 p_a2_0 c_a2_0 L_a2_0 b_a2_1 t4 w h_a2_0 ⟨(rdA (rdF_of hF.1)), (dnA (dn_of hF.2.1)), (bx_fact (hF.2.2.1 w (agree.refl _ _)) 0).2.1, (bx_fact (hF.2.2.2.1 w (agree.refl _ _)) 0).2.1, trivial⟩ ht4)) <|
   .cons [13] (ok_callL [999999] (fun u2 => [gk]) 74 (fun u2 => #[.agg #[vI t3.Lo, vI t3.Hi], .agg #[vI t4.Lo, vI t4.Hi]]) (.agg #[vI t5.Lo, vI t5.Hi]) 13 (fun u2 w hF => interval_Mul.calls t3 t4  t5 w  (glob_of hF.1) ht5)) <|
   .cons [7, 38] (ok_new (fun b => vP b 0) (fun u2 => [vI 0, vI 0]) 37 7 38) <|
   .cons [38] (ok_as (u' := fun u2 => [(38, .blk ((u2 5).n 0) [vI t5.Lo, vI t5.Hi] 37)]) (ok_store 38 0 (fun u2 => ((u2 5).n 0)) (fun u2 => [vI 0, vI 0]) (fun u2 => [vI t5.Lo, vI t5.Hi]) 37) (fun _ => by kernel_rfl)) <| .nil) fun u2 a w' H => ?_
 replace H := H.kp [0, 1, 2, 6, 7, 30, 31, 34, 35, 37, 38, 29, 32, 33, 36, 999999]
 refine k_seq ?_
 replace G := bnd G; obtain ⟨j8, hj8, G⟩ := G
 refine k_join (fun a w' => Rep w.heap.size w 29 (ofL [(6, (sP ((u1 0).n 0) 0)), (7, (sP ((u2 5).n 0) 0)), (30, rdl anyF 1 p_a1_0 c_a1_0 L_a1_0 enSl), (31, dnK anyF E_S_TInterval.toPart L_a1_0), (34, rdl anyF 1 p_a2_0 c_a2_0 L_a2_0 enSl), (35, dnK anyF E_S_TInterval.toPart L_a2_0), (37, .blk ((u1 0).n 0) [vI 0, vI 0] 37), (38, .blk ((u2 5).n 0) [vI j8.1, vI j8.2] 37), (29, bxK b_a1_0 [.slice p_a1_0 L_a1_0.length c_a1_0] 27), (32, bxK b_a1_1 [vI a1_1] 3), (33, bxK b_a2_0 [.slice p_a2_0 L_a2_0.length c_a2_0] 27), (36, bxK b_a2_1 [vI a2_1] 3), (999999, gk)]) a w') ?_ ?_
 ·clear H; intro a w' H
  refine k_seq ?_
  refine k_rg mixed H (.cons [28] (ok_ld (fun u9 => .agg #[vI j8.1, vI j8.2]) 28 38 0 2 (fun u9 => ((u2 5).n 0)) (fun u9 => [vI j8.1, vI j8.2]) 37) <|
   .cons [37] (ok_as (u' := fun u9 => [(37, .blk ((u1 0).n 0) [vI j8.1, vI j8.2] 37)]) (ok_store 37 0 (fun u9 => ((u1 0).n 0)) (fun u9 => [vI 0, vI 0]) (fun u9 => [vI j8.1, vI j8.2]) 37) (fun _ => by kernel_rfl)) <| .nil) fun u9 a w' H => ?_
  replace H := H.kp [6, 30, 31, 34, 35, 37, 29, 32, 33, 36, 999999]
  refine k_ret ?_
  obtain rfl := Option.some.inj G
  exact k_done1 H _ 37 ((u1 0).n 0) [vI j8.1, vI j8.2] 37 0 2 (by kernel_rfl) (by kernel_rfl) (by kernel_rfl) (by kernel_rfl)
 ·clear G; replace G := hj8; clear hj8
  refine k_seq ?_
  refine k_rg mixed H (.v 8 (vI 1) <| .nil) fun u10 a w' H => ?_
  replace H := H.kp [0, 1, 2, 6, 7, 8, 30, 31, 34, 35, 37, 38, 29, 32, 33, 36, 999999]
  refine k_block ?_
  refine k_loopJ (fun m a w' => ∃ x11 : Int, ∃ x12 : Int, ∃ x13 : Int, matrix_dot_s58_s59.l14 k0 a0 a1_0 a1_1 a2_0 a2_1 t3 t4 t5 m x11 x12 x13 = some j8 ∧ Rep w.heap.size w 29 (ofL [(0, sI a0), (1, .slot true (.func (.func 58) #[] #[vP b_a1_0 0, vP b_a1_1 0])), (2, .slot true (.func (.func 59) #[] #[vP b_a2_0 0, vP b_a2_1 0])), (6, (sP ((u1 0).n 0) 0)), (7, (sP ((u2 5).n 0) 0)), (8, sI x13), (30, rdl anyF 1 p_a1_0 c_a1_0 L_a1_0 enSl), (31, dnK anyF E_S_TInterval.toPart L_a1_0), (34, rdl anyF 1 p_a2_0 c_a2_0 L_a2_0 enSl), (35, dnK anyF E_S_TInterval.toPart L_a2_0), (37, .blk ((u1 0).n 0) [vI 0, vI 0] 37), (38, .blk ((u2 5).n 0) [vI x11, vI x12] 37), (29, bxK b_a1_0 [.slice p_a1_0 L_a1_0.length c_a1_0] 27), (32, bxK b_a1_1 [vI a1_1] 3), (33, bxK b_a2_0 [.slice p_a2_0 L_a2_0.length c_a2_0] 27), (36, bxK b_a2_1 [vI a2_1] 3), (999999, gk)]) a w') k0 ⟨_, _, _, G, H.toL _ (by kernel_rfl)⟩ ?_
  clear G H
  rintro (_ | k) a w' ⟨x11, x12, x13, G, H⟩
  ·exact absurd G (by unfold matrix_dot_s58_s59.l14; exact fun h => by cases h)
  ·unfold matrix_dot_s58_s59.l14 at G
   refine k_seq ?_
   refine k_seq ?_
   refine k_rg mixed H (.v 14 (vI x13) <|
   .v 15 (vI a0) <|
   .v 16 (.bool (decide (x13 < a0))) <| .nil) fun u15 a w' H => ?_
   replace H := H.kp [0, 1, 2, 6, 7, 8, 16, 30, 31, 34, 35, 37, 38, 29, 32, 33, 36, 999999]
   refine k_cond H (by kernel_rfl) (t := decide (x13 < a0)) (by kernel_rfl) (fun c22 => ?_) (fun c22 => ?_)
   ·rw [if_pos c22] at G
    refine k_skip ?_
    refine k_seq ?_
    refine k_block ?_
    replace G := bnd G; obtain ⟨t17, ht17, G⟩ := G
    replace G := bnd G; obtain ⟨t18, ht18, G⟩ := G
    replace G := bnd G; obtain ⟨t19, ht19, G⟩ := G
    replace G := bnd G; obtain ⟨t20, ht20, G⟩ := G
    refine k_rg mixed H (.cons [19] (ok_ld (fun u16 => .agg #[vI x11, vI x12]) 19 38 0 2 (fun u16 => ((u2 5).n 0)) (fun u16 => [vI x11, vI x12]) 37) <|
   .v 20 (.func (.func 58) #[] #[vP b_a1_0 0, vP b_a1_1 0]) <|
   .v 21 (vI x13) <|
   .cons [22] (ok_callL [30, 31, 29, 32] (fun u16 => [rdl anyF 1 p_a1_0 c_a1_0 L_a1_0 enSl, dnK anyF E_S_TInterval.toPart L_a1_0, bxK b_a1_0 [.slice p_a1_0 L_a1_0.length c_a1_0] 27, bxK b_a1_1 [vI a1_1] 3]) 58 (fun u16 => #[vI x13, vP b_a1_0 0, vP b_a1_1 0]) (.agg #[vI t17.Lo, vI t17.Hi]) 22 (fun u16 w hF => matrix_Mul_1_1_m.calls x13 a1_0 a1_1 b_a1_0 p_a1_0 c_a1_0 L_a1_0 b_a1_1 t17 w h_a1_0 ⟨(rdA (rdF_of hF.1)), (dnA (dn_of hF.2.1)), (bx_fact (hF.2.2.1 w (agree.refl _ _)) 0).2.1, (bx_fact (hF.2.2.2.1 w (agree.refl _ _)) 0).2.1, trivial⟩ ht17)) <|
   .v 23 (.func (.func 59) #[] #[vP b_a2_0 0, vP b_a2_1 0]) <|
   .v 24 (vI x13) <|
   .cons [25] (ok_callL [34, 35, 33, 36] (fun u16 => [rdl anyF 1 p_a2_0 c_a2_0 L_a2_0 enSl, dnK anyF E_S_TInterval.toPart L_a2_0, bxK b_a2_0 [.slice p_a2_0 L_a2_0.length c_a2_0] 27, bxK b_a2_1 [vI a2_1] 3]) 59 (fun u16 => #[vI x13, vP b_a2_0 0, vP b_a2_1 0]) (.agg #[vI t18.Lo, vI t18.Hi]) 25 (fun u16 w hF => matrix_Mul_1_2_m.calls x13 a2_0 a2_1 b_a2_0 p_a2_0 c_a2_0 L_a2_0 b_a2_1 t18 w h_a2_0 ⟨(rdA (rdF_of hF.1)), (dnA (dn_of hF.2.1)), (bx_fact (hF.2.2.1 w (agree.refl _ _)) 0).2.1, (bx_fact (hF.2.2.2.1 w (agree.refl _ _)) 0).2.1, trivial⟩ ht18)) <|
   .cons [26] (ok_callL [999999] (fun u16 => [gk]) 74 (fun u16 => #[.agg #[vI t17.Lo, vI t17.Hi], .agg #[vI t18.Lo, vI t18.Hi]]) (.agg #[vI t19.Lo, vI t19.Hi]) 26 (fun u16 w hF => interval_Mul.calls t17 t18  t19 w  (glob_of hF.1) ht19)) <|
   .cons [27] (ok_callv 89 (fun u16 => #[.agg #[vI x11, vI x12], .agg #[vI t19.Lo, vI t19.Hi]]) (.agg #[vI t20.Lo, vI t20.Hi]) 27 [] (fun u16 w _ => interval_Add.calls (⟨x11, x12⟩ : TInterval) t19  t20 w  ht20)) <|
   .cons [38] (ok_as (u' := fun u16 => [(38, .blk ((u2 5).n 0) [vI t20.Lo, vI t20.Hi] 37)]) (ok_store 38 0 (fun u16 => ((u2 5).n 0)) (fun u16 => [vI x11, vI x12]) (fun u16 => [vI t20.Lo, vI t20.Hi]) 37) (fun _ => by kernel_rfl)) <| .nil) fun u16 a w' H => ?_
    replace H := H.kp [0, 1, 2, 6, 7, 8, 30, 31, 34, 35, 37, 38, 29, 32, 33, 36, 999999]
    refine k_rg mixed H (.v 17 (vI x13) <|
   .v 18 (vI (w_i64 (x13 + 1))) <|
   .v 8 (vI (w_i64 (x13 + 1))) <| .nil) fun u21 a w' H => ?_
    replace H := H.kp [0, 1, 2, 6, 7, 8, 30, 31, 34, 35, 37, 38, 29, 32, 33, 36, 999999]
    exact ⟨k, Nat.lt_succ_self k, _, _, _, G, H.toL _ (by kernel_rfl)⟩
   ·rw [if_neg (nt c22)] at G
    refine k_exit rfl ?_
    obtain rfl := Option.some.inj G
    exact H.toL _ (by kernel_rfl)
set_option maxHeartbeats 4000000 in
theorem matrix_Mul_1_m.calls (k0 : Nat) (a0 : Int) (a1 : Int) (q0 : List (List TInterval)) (q1 : List (List TInterval)) (b_q0 : Nat) (p_q0 : Option Addr) (c_q0 : Nat) (L_q0 : List (Sl TInterval)) (b_q1 : Nat) (p_q1 : Option Addr) (c_q1 : Nat) (L_q1 : List (Sl TInterval)) (r : TInterval) (w : World) (h_q0 : q0 = L_q0.map Sl.l) (h_q1 : q1 = L_q1.map Sl.l) (hB : AllH [rdl anyF 1 p_q0 c_q0 L_q0 enSl, dnK anyF E_S_TInterval.toPart L_q0, bxK b_q0 [.slice p_q0 L_q0.length c_q0] 27, rdl anyF 1 p_q1 c_q1 L_q1 enSl, dnK anyF E_S_TInterval.toPart L_q1, bxK b_q1 [.slice p_q1 L_q1.length c_q1] 27, gk] w) (G : matrix_Mul_1_m k0 a0 a1 q0 q1 = some r) :
  Calls Tryd.prog 57 #[vI a0, vI a1, vP b_q0 0, vP b_q1 0] w fun e w' => e = .returned (.agg #[vI r.Lo, vI r.Hi]) ∧ Below w.heap.size w w' := by
 obtain ⟨fr, hfr⟩ : ∃ fr : Nat → Prop, ∀ j, fr j := ⟨fun _ => True, fun _ => trivial⟩
 have hBf : ∀ j, w.heap.size ≤ j → fr j := fun j _ => hfr j
 refine k_enterF (args := [vI a0, vI a1, vP b_q0 0, vP b_q1 0]) 12 [(13, rdl anyF 1 p_q0 c_q0 L_q0 enSl), (14, dnK anyF E_S_TInterval.toPart L_q0), (12, bxK b_q0 [.slice p_q0 L_q0.length c_q0] 27), (16, rdl anyF 1 p_q1 c_q1 L_q1 enSl), (17, dnK anyF E_S_TInterval.toPart L_q1), (15, bxK b_q1 [.slice p_q1 L_q1.length c_q1] 27), (999999, gk)] (by
  intro x hx
  simp only [List.mem_cons, List.not_mem_nil, or_false] at hx
  rcases hx with rfl | rfl | rfl | rfl | rfl | rfl | rfl
  ·exact rdF_fact (rdF_of hB.1) (fun _ _ => trivial) (by decide) _
  ·exact dn_fact (dn_of hB.2.1) (fun _ _ => trivial) _
  ·exact bx_fact (hB.2.2.1 w (agree.refl _ _)) _
  ·exact rdF_fact (rdF_of hB.2.2.2.1) (fun _ _ => trivial) (by decide) _
  ·exact dn_fact (dn_of hB.2.2.2.2.1) (fun _ _ => trivial) _
  ·exact bx_fact (hB.2.2.2.2.2.1 w (agree.refl _ _)) _
  ·exact ⟨⟨_, _, rfl⟩, hB.2.2.2.2.2.2.1, glob_in (glob_of hB.2.2.2.2.2.2.1)⟩) Tryd.func57 rfl (by kernel_rfl) (by kernel_rfl) fun a H => ?_
 unfold matrix_Mul_1_m at G
 refine k_seq ?_
 refine k_rg mixed H (.cons [4, 18] (ok_new (fun b => vP b 0) (fun u1 => [vI a0]) 3 4 18) <|
   .cons [5, 19] (ok_new (fun b => vP b 0) (fun u1 => [vI a1]) 3 5 19) <|
   .cons [6, 20] (ok_new (fun b => vP b 0) (fun u1 => [vI 0, vI 0]) 37 6 20) <| .nil) fun u1 a w' H => ?_
 replace H := H.kp [2, 3, 4, 5, 6, 13, 14, 16, 17, 18, 19, 20, 12, 15, 999999]
 refine k_seq ?_
 replace G := bnd G; obtain ⟨t3, ht3, G⟩ := G
 refine k_rg mixed H (.cons [7] (ok_ldK (fun u2 => .slice p_q0 L_q0.length c_q0) 7 12 (bxK b_q0 [.slice p_q0 L_q0.length c_q0] 27) b_q0 0 1 [.slice p_q0 L_q0.length c_q0] (fun w h => bx_of h)) <|
   .cons [8] (ok_valL [13] (fun u2 => [rdl anyF 1 p_q0 c_q0 L_q0 enSl]) (fun u2 => vI (q0.length : Int)) (fun u2 => true) [true] 8 (fun u2 w hg hF => run_lenN (((rdF_of hF.1).2.len enSl_len (by decide)).trans (map_len h_q0).symm) (by kernel_rfl))) <|
   .v 9 (.func (.func 58) #[] #[vP b_q0 0, vP ((u1 0).n 0) 0]) <|
   .v 10 (.func (.func 59) #[] #[vP b_q1 0, vP ((u1 1).n 0) 0]) <|
   .cons [11] (ok_callL [13, 14, 12, 18, 16, 17, 15, 19, 999999] (fun u2 => [rdl anyF 1 p_q0 c_q0 L_q0 enSl, dnK anyF E_S_TInterval.toPart L_q0, bxK b_q0 [.slice p_q0 L_q0.length c_q0] 27, .blk ((u1 0).n 0) [vI a0] 3, rdl anyF 1 p_q1 c_q1 L_q1 enSl, dnK anyF E_S_TInterval.toPart L_q1, bxK b_q1 [.slice p_q1 L_q1.length c_q1] 27, .blk ((u1 1).n 0) [vI a1] 3, gk]) 52 (fun u2 => #[vI (q0.length : Int), .func (.func 58) #[] #[vP b_q0 0, vP ((u1 0).n 0) 0], .func (.func 59) #[] #[vP b_q1 0, vP ((u1 1).n 0) 0]]) (.agg #[vI t3.Lo, vI t3.Hi]) 11 (fun u2 w hF => matrix_dot_s58_s59.calls k0 (q0.length : Int) q0 a0 q1 a1 b_q0 p_q0 c_q0 L_q0 ((u1 0).n 0) b_q1 p_q1 c_q1 L_q1 ((u1 1).n 0) t3 w h_q0 h_q1 ⟨(rdA (rdF_of hF.1)), (dnA (dn_of hF.2.1)), (bx_fact (hF.2.2.1 w (agree.refl _ _)) 0).2.1, (bx_fact hF.2.2.2.1 0).2.1, (rdA (rdF_of hF.2.2.2.2.1)), (dnA (dn_of hF.2.2.2.2.2.1)), (bx_fact (hF.2.2.2.2.2.2.1 w (agree.refl _ _)) 0).2.1, (bx_fact hF.2.2.2.2.2.2.2.1 0).2.1, hF.2.2.2.2.2.2.2.2.1, trivial⟩ ht3)) <|
   .cons [20] (ok_as (u' := fun u2 => [(20, .blk ((u1 2).n 0) [vI t3.Lo, vI t3.Hi] 37)]) (ok_store 20 0 (fun u2 => ((u1 2).n 0)) (fun u2 => [vI 0, vI 0]) (fun u2 => [vI t3.Lo, vI t3.Hi]) 37) (fun _ => by kernel_rfl)) <| .nil) fun u2 a w' H => ?_
 replace H := H.kp [6, 13, 14, 16, 17, 20, 12, 15, 999999]
 refine k_ret ?_
 obtain rfl := Option.some.inj G
 exact k_done1 H _ 20 ((u1 2).n 0) [vI t3.Lo, vI t3.Hi] 37 0 2 (by kernel_rfl) (by kernel_rfl) (by kernel_rfl) (by kernel_rfl)
set_option maxHeartbeats 4000000 in
theorem api_Interval_56_s57.calls (k0 : Nat) (a0 : Int) (a1_0 : List (List TInterval)) (a1_1 : List (List TInterval)) (b_a1_0 : Nat) (p_a1_0 : Option Addr) (c_a1_0 : Nat) (L_a1_0 : List (Sl TInterval)) (b_a1_1 : Nat) (p_a1_1 : Option Addr) (c_a1_1 : Nat) (L_a1_1 : List (Sl TInterval)) (r : List (List TInterval)) (w : World) (h_a1_0 : a1_0 = L_a1_0.map Sl.l) (h_a1_1 : a1_1 = L_a1_1.map Sl.l) (hB : AllH [rdl anyF 1 p_a1_0 c_a1_0 L_a1_0 enSl, dnK anyF E_S_TInterval.toPart L_a1_0, bxK b_a1_0 [.slice p_a1_0 L_a1_0.length c_a1_0] 27, rdl anyF 1 p_a1_1 c_a1_1 L_a1_1 enSl, dnK anyF E_S_TInterval.toPart L_a1_1, bxK b_a1_1 [.slice p_a1_1 L_a1_1.length c_a1_1] 27, gk] w) (G : api_Interval_56_s57 k0 a0 a1_0 a1_1 = some r) :
  Calls Tryd.prog 56 #[vI a0, .func (.func 57) #[] #[vP b_a1_0 0, vP b_a1_1 0]] w fun e w' => ∃ g : Gh, e = .returned (.slice (g.o 0) ((g.dl Sl.l gd_S_TInterval 0 r).length) (g.n 0)) ∧ But (fpK []) w w' ∧ OutOK w.heap.size (fpK []) (frI w.heap.size []) [fun _ => nsK 22 37 2 en_TInterval (g.o 0) ((g.dl Sl.l gd_S_TInterval 0 r).length) (g.n 0) (g.dl Sl.l gd_S_TInterval 0 r) (g.dl Sl.l gd_S_TInterval 0 r)] w' := by
 obtain ⟨fr, hfr⟩ : ∃ fr : Nat → Prop, fr = frI w.heap.size [] := ⟨_, rfl⟩
 have hBf : ∀ j, w.heap.size ≤ j → fr j := fun j h => by rw [hfr]; exact .inl h
 refine k_enterF (args := [vI a0, .func (.func 57) #[] #[vP b_a1_0 0, vP b_a1_1 0]]) 34 [(35, rdl anyF 1 p_a1_0 c_a1_0 L_a1_0 enSl), (36, dnK anyF E_S_TInterval.toPart L_a1_0), (34, bxK b_a1_0 [.slice p_a1_0 L_a1_0.length c_a1_0] 27), (38, rdl anyF 1 p_a1_1 c_a1_1 L_a1_1 enSl), (39, dnK anyF E_S_TInterval.toPart L_a1_1), (37, bxK b_a1_1 [.slice p_a1_1 L_a1_1.length c_a1_1] 27), (999999, gk)] (by
  intro x hx
  simp only [List.mem_cons, List.not_mem_nil, or_false] at hx
  rcases hx with rfl | rfl | rfl | rfl | rfl | rfl | rfl
  ·exact rdF_fact (rdF_of hB.1) (fun _ _ => trivial) (by decide) _
  ·exact dn_fact (dn_of hB.2.1) (fun _ _ => trivial) _
  ·exact bx_fact (hB.2.2.1 w (agree.refl _ _)) _
  ·exact rdF_fact (rdF_of hB.2.2.2.1) (fun _ _ => trivial) (by decide) _
  ·exact dn_fact (dn_of hB.2.2.2.2.1) (fun _ _ => trivial) _
  ·exact bx_fact (hB.2.2.2.2.2.1 w (agree.refl _ _)) _
  ·exact ⟨⟨_, _, rfl⟩, hB.2.2.2.2.2.2.1, glob_in (glob_of hB.2.2.2.2.2.2.1)⟩) Tryd.func56 rfl (by kernel_rfl) (by kernel_rfl) fun a H => ?_
 unfold api_Interval_56_s57 at G
 refine k_seq ?_
 refine k_rg mixed H (.v 4 (.slice none 0 0) <| .nil) fun u1 a w' H => ?_
 replace H := H.kp [0, 1, 35, 36, 38, 39, 34, 37, 999999]
 refine k_seq ?_
 replace G := gd G; obtain ⟨b3, G⟩ := G
 refine k_rg mixed H (.v 8 (vI a0) <|
   .cons [9, 40] (ok_nest0 37 2 en_TInterval (ok_rowL [] (fun u2 => []) 22 1 (List.replicate a0.toNat (⟨none, 0, []⟩ : Sl TInterval)).length ((List.replicate a0.toNat (⟨none, 0, []⟩ : Sl TInterval)).flatMap enSl) 9 40 (fun _ => .none) (fun u2 w hF => run_make_row (t := 27) (k := .i64) (m := a0) (en := enSl) (z := (⟨none, 0, []⟩ : Sl TInterval)) enSl_len inf22 rfl b3 (by kernel_rfl)) (fun _ => .inl rfl)) repl_nil) <|
   .cons [5] (ok_val (fun u2 => .slice ((u2 1).o 0) ((List.replicate a0.toNat (⟨none, 0, []⟩ : Sl TInterval)).length) ((u2 1).n 0)) 5) <| .nil) fun u2 a w' H => ?_
 replace H := H.kp [0, 1, 5, 35, 36, 38, 39, 40, 34, 37, 999999]
 refine k_seq ?_
 replace G := bnd G; obtain ⟨j5, hj5, G⟩ := G
 refine k_join (fun a w' => ∃ (p_j4 : Option Addr) (c_j4 np_j4 : Nat) (L_j4 : List (Sl TInterval)), np_j4 = L_j4.length ∧ j5 = L_j4.map Sl.l ∧ Rep w.heap.size w 34 (ofL [(5, sS p_j4 np_j4 c_j4), (35, rdl anyF 1 p_a1_0 c_a1_0 L_a1_0 enSl), (36, dnK anyF E_S_TInterval.toPart L_a1_0), (38, rdl anyF 1 p_a1_1 c_a1_1 L_a1_1 enSl), (39, dnK anyF E_S_TInterval.toPart L_a1_1), (900004, nsK 22 37 2 en_TInterval p_j4 np_j4 c_j4 L_j4 L_j4), (34, bxK b_a1_0 [.slice p_a1_0 L_a1_0.length c_a1_0] 27), (37, bxK b_a1_1 [.slice p_a1_1 L_a1_1.length c_a1_1] 27), (999999, gk)]) a w') ?_ ?_
 ·clear H; rintro a w' ⟨p_j4, c_j4, _, L_j4, rfl, h_j4, H⟩
  refine k_seq ?_
  refine k_rg mixed H (.v 33 (.slice p_j4 L_j4.length c_j4) <|
   .v 4 (.slice p_j4 L_j4.length c_j4) <| .nil) fun u6 a w' H => ?_
  replace H := H.kp [4, 35, 36, 38, 39, 900004, 34, 37, 999999]
  refine k_ret ?_
  obtain rfl := Option.some.inj G
  obtain ⟨g, o0, n0, d0⟩ : ∃ g : Gh, g.o 0 = p_j4 ∧ g.n 0 = c_j4 ∧ g.dl Sl.l gd_S_TInterval 0 j5 = L_j4 := ⟨⟨fun i => [c_j4].getD i 0, fun i => [p_j4].getD i none, fun i => ([⟨List (Sl TInterval), L_j4⟩] : List ((T : Type) × T)).getD i ⟨Unit, ()⟩⟩, rfl, rfl, dl_mk rfl h_j4⟩
  refine k_doneZ H (fun g => .slice (g.o 0) ((g.dl Sl.l gd_S_TInterval 0 j5).length) (g.n 0)) g [] [] (fun g => [fun _ => nsK 22 37 2 en_TInterval (g.o 0) ((g.dl Sl.l gd_S_TInterval 0 j5).length) (g.n 0) (g.dl Sl.l gd_S_TInterval 0 j5) (g.dl Sl.l gd_S_TInterval 0 j5)]) fr [900004] [] (.slice p_j4 L_j4.length c_j4) [fun _ => nsK 22 37 2 en_TInterval p_j4 L_j4.length c_j4 L_j4 L_j4] (by simp only [o0, n0, d0]) (by simp only [o0, n0, d0]) hfr (.inl ⟨rfl, rfl⟩) (fams_cons fam_ns fams_nil) (by simp)
 ·clear G; replace G := hj5; clear hj5
  refine k_seq ?_
  refine k_rg mixed H (.v 10 (vI a0) <|
   .v 11 (vI 0) <| .nil) fun u7 a w' H => ?_
  replace H := H.kp [0, 1, 5, 10, 11, 35, 36, 38, 39, 40, 34, 37, 999999]
  refine k_block ?_
  replace H := H.move (K := nsK 22 37 2 en_TInterval ((u2 1).o 0) ((List.replicate a0.toNat (⟨none, 0, []⟩ : Sl TInterval)).length) ((u2 1).n 0) (List.replicate a0.toNat (⟨none, 0, []⟩ : Sl TInterval)) (List.replicate a0.toNat (⟨none, 0, []⟩ : Sl TInterval))) 40 900006 (by kernel_rfl) (by intro _ _ h; cases h)
  refine k_loopJ (fun m a w' => ∃ x8 : List (List TInterval), ∃ x9 : Int, api_Interval_56_s57.l10 k0 a0 a1_0 a1_1 m x8 x9 = some j5 ∧ ∃ (p_x8 : Option Addr) (c_x8 np_x8 : Nat) (L_x8 : List (Sl TInterval)), np_x8 = L_x8.length ∧ x8 = L_x8.map Sl.l ∧ Rep w.heap.size w 34 (ofL [(0, sI a0), (1, .slot true (.func (.func 57) #[] #[vP b_a1_0 0, vP b_a1_1 0])), (5, sS p_x8 np_x8 c_x8), (10, sI a0), (11, sI x9), (35, rdl anyF 1 p_a1_0 c_a1_0 L_a1_0 enSl), (36, dnK anyF E_S_TInterval.toPart L_a1_0), (38, rdl anyF 1 p_a1_1 c_a1_1 L_a1_1 enSl), (39, dnK anyF E_S_TInterval.toPart L_a1_1), (900006, nsK 22 37 2 en_TInterval p_x8 np_x8 c_x8 L_x8 L_x8), (34, bxK b_a1_0 [.slice p_a1_0 L_a1_0.length c_a1_0] 27), (37, bxK b_a1_1 [.slice p_a1_1 L_a1_1.length c_a1_1] 27), (999999, gk)]) a w') k0 ⟨_, _, G, ((u2 1).o 0), ((u2 1).n 0), (List.replicate a0.toNat (⟨none, 0, []⟩ : Sl TInterval)).length, (List.replicate a0.toNat (⟨none, 0, []⟩ : Sl TInterval)), rfl, (map_repl a0.toNat (⟨none, 0, []⟩ : Sl TInterval)), H.toL _ (by kernel_rfl)⟩ ?_
  clear G H
  rintro (_ | k) a w' ⟨x8, x9, G, p_x8, c_x8, _, L_x8, rfl, h_x8, H⟩
  ·exact absurd G (by unfold api_Interval_56_s57.l10; exact fun h => by cases h)
  ·unfold api_Interval_56_s57.l10 at G
   refine k_seq ?_
   refine k_rg mixed H (.v 12 (.bool (decide (x9 < a0))) <| .nil) fun u11 a w' H => ?_
   replace H := H.kp [0, 1, 5, 10, 11, 12, 35, 36, 38, 39, 900006, 34, 37, 999999]
   refine k_seq ?_
   refine k_cond H (by kernel_rfl) (t := decide (x9 < a0)) (by kernel_rfl) (fun c32 => ?_) (fun c32 => ?_)
   ·rw [if_pos c32] at G
    refine k_skip ?_
    refine k_seq ?_
    replace G := bnd G; obtain ⟨j13, hj13, G⟩ := G
    refine k_join (fun a w' => ∃ (p_j12 : Option Addr) (c_j12 np_j12 : Nat) (L_j12 : List (Sl TInterval)), np_j12 = L_j12.length ∧ j13 = L_j12.map Sl.l ∧ Rep w.heap.size w 34 (ofL [(0, sI a0), (1, .slot true (.func (.func 57) #[] #[vP b_a1_0 0, vP b_a1_1 0])), (5, sS p_j12 np_j12 c_j12), (10, sI a0), (11, sI x9), (35, rdl anyF 1 p_a1_0 c_a1_0 L_a1_0 enSl), (36, dnK anyF E_S_TInterval.toPart L_a1_0), (38, rdl anyF 1 p_a1_1 c_a1_1 L_a1_1 enSl), (39, dnK anyF E_S_TInterval.toPart L_a1_1), (900008, nsK 22 37 2 en_TInterval p_j12 np_j12 c_j12 L_j12 L_j12), (34, bxK b_a1_0 [.slice p_a1_0 L_a1_0.length c_a1_0] 27), (37, bxK b_a1_1 [.slice p_a1_1 L_a1_1.length c_a1_1] 27), (999999, gk)]) a w') ?_ ?_
    ·clear H; rintro a w' ⟨p_j12, c_j12, _, L_j12, rfl, h_j12, H⟩
     refine k_rg mixed H (.v 32 (vI (w_i64 (x9 + 1))) <|
   .v 11 (vI (w_i64 (x9 + 1))) <| .nil) fun u14 a w' H => ?_
     replace H := H.kp [0, 1, 5, 10, 11, 35, 36, 38, 39, 900008, 34, 37, 999999]
     replace H := H.move (K := nsK 22 37 2 en_TInterval p_j12 L_j12.length c_j12 L_j12 L_j12) 900008 900006 (by kernel_rfl) (by intro _ _ h; cases h)
     exact ⟨k, Nat.lt_succ_self k, _, _, G, p_j12, c_j12, L_j12.length, L_j12, rfl, h_j12, H.toL _ (by kernel_rfl)⟩
    ·clear G; replace G := hj13; clear hj13
     refine k_block ?_
     refine k_seq ?_
     refine k_rg mixed H (.v 13 (vI x9) <|
   .v 6 (vI x9) <| .nil) fun u15 a w' H => ?_
     replace H := H.kp [0, 1, 5, 6, 10, 11, 35, 36, 38, 39, 900006, 34, 37, 999999]
     refine k_seq ?_
     refine k_rg mixed H (.v 14 (vI a0) <|
   .v 15 (vI 0) <| .nil) fun u16 a w' H => ?_
     replace H := H.kp [0, 1, 5, 6, 10, 11, 14, 15, 35, 36, 38, 39, 900006, 34, 37, 999999]
     refine k_block ?_
     replace H := H.move (K := nsK 22 37 2 en_TInterval p_x8 L_x8.length c_x8 L_x8 L_x8) 900006 900010 (by kernel_rfl) (by intro _ _ h; cases h)
     refine k_loopJ (fun m a w' => ∃ x17 : List (List TInterval), ∃ x18 : Int, api_Interval_56_s57.l19 k0 a0 a1_0 a1_1 x8 x9 m x17 x18 = some j13 ∧ ∃ (p_x17 : Option Addr) (c_x17 np_x17 : Nat) (L_x17 : List (Sl TInterval)), np_x17 = L_x17.length ∧ x17 = L_x17.map Sl.l ∧ Rep w.heap.size w 34 (ofL [(0, sI a0), (1, .slot true (.func (.func 57) #[] #[vP b_a1_0 0, vP b_a1_1 0])), (5, sS p_x17 np_x17 c_x17), (6, sI x9), (10, sI a0), (11, sI x9), (14, sI a0), (15, sI x18), (35, rdl anyF 1 p_a1_0 c_a1_0 L_a1_0 enSl), (36, dnK anyF E_S_TInterval.toPart L_a1_0), (38, rdl anyF 1 p_a1_1 c_a1_1 L_a1_1 enSl), (39, dnK anyF E_S_TInterval.toPart L_a1_1), (900010, nsK 22 37 2 en_TInterval p_x17 np_x17 c_x17 L_x17 L_x17), (34, bxK b_a1_0 [.slice p_a1_0 L_a1_0.length c_a1_0] 27), (37, bxK b_a1_1 [.slice p_a1_1 L_a1_1.length c_a1_1] 27), (999999, gk)]) a w') k0 ⟨_, _, G, p_x8, c_x8, L_x8.length, L_x8, rfl, h_x8, H.toL _ (by kernel_rfl)⟩ ?_
     clear G H
     rintro (_ | k) a w' ⟨x17, x18, G, p_x17, c_x17, _, L_x17, rfl, h_x17, H⟩
     ·exact absurd G (by unfold api_Interval_56_s57.l19; exact fun h => by cases h)
     ·unfold api_Interval_56_s57.l19 at G
      refine k_seq ?_
      refine k_rg mixed H (.v 16 (.bool (decide (x18 < a0))) <| .nil) fun u20 a w' H => ?_
      replace H := H.kp [0, 1, 5, 6, 10, 11, 14, 15, 16, 35, 36, 38, 39, 900010, 34, 37, 999999]
      refine k_seq ?_
      refine k_cond H (by kernel_rfl) (t := decide (x18 < a0)) (by kernel_rfl) (fun c31 => ?_) (fun c31 => ?_)
      ·rw [if_pos c31] at G
       refine k_skip ?_
       refine k_seq ?_
       refine k_block ?_
       refine k_seq ?_
       refine k_rg mixed H (.v 17 (vI x18) <|
   .v 7 (vI x18) <| .nil) fun u21 a w' H => ?_
       replace H := H.kp [0, 1, 5, 6, 7, 10, 11, 14, 15, 35, 36, 38, 39, 900010, 34, 37, 999999]
       replace G := gd G; obtain ⟨b23, G⟩ := G
       replace G := bnd G; obtain ⟨t24, ht24, G⟩ := G
       obtain ⟨p_t24, c_t24, y_t24⟩ := sl_get h_x17 ht24
       have P25 := ptr_of (en := enSl) (l := L_x17) (ns_of (H.at (K := nsK 22 37 2 en_TInterval p_x17 L_x17.length c_x17 L_x17 L_x17) 900010 (by kernel_rfl))).row.2 enSl_len
       replace G := bnd G; obtain ⟨t26, ht26, G⟩ := G
       replace G := gd G; obtain ⟨b27, G⟩ := G
       replace G := gd G; obtain ⟨b28, G⟩ := G
       replace G := bnd G; obtain ⟨t29, ht29, G⟩ := G
       obtain ⟨p_t29, c_t29, y_t29⟩ := sl_get h_x17 ht29
       refine k_rg mixed H (.v 18 (.slice p_x17 L_x17.length c_x17) <|
   .v 19 (vI x9) <|
   .v 20 (.slice p_x17 L_x17.length c_x17) <|
   .v 21 (vI x9) <|
   .cons [22] (ok_val (fun u22 => .pointer (some ⟨hdB p_x17, hdO p_x17 + x9.toNat * 1, none⟩)) 22 (hv := fun _ _ => ix_pure (t := 27) (k := .i64) (i := x9) (p := p_x17) (n := L_x17.length) (cap := c_x17) (x := x17) P25 (map_len h_x17) b23 (by kernel_rfl))) <|
   .cons [23] (ok_valL [900010] (fun u22 => [nsK 22 37 2 en_TInterval p_x17 L_x17.length c_x17 L_x17 L_x17]) (fun u22 => .slice p_t24 t24.length c_t24) (fun u22 => true) [true] 23 (fun u22 w hg hF => ld_row (en := enSl) (ns_of hF.1).row.2 enSl_len y_t24 0 1 [.slice p_t24 t24.length c_t24] rfl (by kernel_rfl))) <|
   .v 24 (.func (.func 57) #[] #[vP b_a1_0 0, vP b_a1_1 0]) <|
   .v 25 (vI x9) <|
   .v 26 (vI x18) <|
   .cons [27] (ok_callL [35, 36, 34, 38, 39, 37, 999999] (fun u22 => [rdl anyF 1 p_a1_0 c_a1_0 L_a1_0 enSl, dnK anyF E_S_TInterval.toPart L_a1_0, bxK b_a1_0 [.slice p_a1_0 L_a1_0.length c_a1_0] 27, rdl anyF 1 p_a1_1 c_a1_1 L_a1_1 enSl, dnK anyF E_S_TInterval.toPart L_a1_1, bxK b_a1_1 [.slice p_a1_1 L_a1_1.length c_a1_1] 27, gk]) 57 (fun u22 => #[vI x9, vI x18, vP b_a1_0 0, vP b_a1_1 0]) (.agg #[vI t26.Lo, vI t26.Hi]) 27 (fun u22 w hF => matrix_Mul_1_m.calls k0 x9 x18 a1_0 a1_1 b_a1_0 p_a1_0 c_a1_0 L_a1_0 b_a1_1 p_a1_1 c_a1_1 L_a1_1 t26 w h_a1_0 h_a1_1 ⟨(rdA (rdF_of hF.1)), (dnA (dn_of hF.2.1)), (bx_fact (hF.2.2.1 w (agree.refl _ _)) 0).2.1, (rdA (rdF_of hF.2.2.2.1)), (dnA (dn_of hF.2.2.2.2.1)), (bx_fact (hF.2.2.2.2.2.1 w (agree.refl _ _)) 0).2.1, hF.2.2.2.2.2.2.1, trivial⟩ ht26)) <|
   .cons [28, 43] (ok_new (fun b => .slice (some ⟨b, 0, none⟩) 1 1) (fun u22 => [vI t26.Lo, vI t26.Hi]) 37 28 43) <|
   .cons [29, 900010, 900010] (ok_own1 [10] [43] (fun u22 => [.blk ((u22 10).n 0) [vI t26.Lo, vI t26.Hi] 37]) 900010 (fun u22 => nsK 22 37 2 en_TInterval p_x17 L_x17.length c_x17 L_x17 L_x17) (some 29) (fun u22 g => .slice (g.o 0) (t24 ++ [t26]).length (g.n 0)) (fun u22 g => nsK 22 37 2 en_TInterval p_x17 L_x17.length c_x17 L_x17 (L_x17.set x9.toNat (⟨(g.o 0), (g.n 0), (t24 ++ [t26])⟩ : Sl TInterval))) (fun u22 w hF hK => tn_app hK y_t24 (l' := (t24 ++ [t26])) (fun h => run_app_rowN (t := 22) (ty := 22) (en := en_TInterval) en_TInterval_len inf37 h hF.1 (news := [t26]) rfl (by simp) (by kernel_rfl) b27)) (hloc := fun u u' h => ⟨by first | rfl | simp only [h 10 (by decide)], by first | rfl | simp only [h 10 (by decide)], by first | rfl | simp only [h 10 (by decide)], by first | rfl | simp only [h 10 (by decide)]⟩)) <|
   .cons [30] (ok_val (fun u22 => .pointer (some ⟨hdB p_x17, hdO p_x17 + x9.toNat * 1, none⟩)) 30 (hv := fun _ _ => ix_pure (t := 27) (k := .i64) (i := x9) (p := p_x17) (n := L_x17.length) (cap := c_x17) (x := x17) P25 (map_len h_x17) b28 (by kernel_rfl))) <|
   .cons [900010, 900010] (ok_own1 [11] [] (fun u22 => []) 900010 (fun u22 => nsK 22 37 2 en_TInterval p_x17 L_x17.length c_x17 L_x17 (L_x17.set x9.toNat (⟨((u22 11).o 0), ((u22 11).n 0), (t24 ++ [t26])⟩ : Sl TInterval))) none (fun u22 g => .nilFunc) (fun u22 g => nsK 22 37 2 en_TInterval p_x17 L_x17.length c_x17 (L_x17.set x9.toNat (⟨((u22 11).o 0), ((u22 11).n 0), (t24 ++ [t26])⟩ : Sl TInterval)) (L_x17.set x9.toNat (⟨((u22 11).o 0), ((u22 11).n 0), (t24 ++ [t26])⟩ : Sl TInterval))) (fun u22 w hF hK => tn_hd hK (fun h => el_storeN (en := enSl) h enSl_len (y := (⟨((u22 11).o 0), ((u22 11).n 0), (t24 ++ [t26])⟩ : Sl TInterval)) (vs := [.slice ((u22 11).o 0) ((t24 ++ [t26]).length) ((u22 11).n 0)]) y_t29 0 (by simp) (by simp) rfl (by kernel_rfl))) (hloc := fun u u' h => ⟨by first | rfl | simp only [h 11 (by decide)], by first | rfl | simp only [h 11 (by decide)], by first | rfl | simp only [h 11 (by decide)], by first | rfl | simp only [h 11 (by decide)]⟩)) <| .nil) fun u22 a w' H => ?_
       replace H := H.kp [0, 1, 5, 6, 10, 11, 14, 15, 35, 36, 38, 39, 900010, 34, 37, 999999]
       refine k_rg mixed H (.v 31 (vI (w_i64 (x18 + 1))) <|
   .v 15 (vI (w_i64 (x18 + 1))) <| .nil) fun u30 a w' H => ?_
       replace H := H.kp [0, 1, 5, 6, 10, 11, 14, 15, 35, 36, 38, 39, 900010, 34, 37, 999999]
       exact ⟨k, Nat.lt_succ_self k, _, _, G, p_x17, c_x17, L_x17.length, (L_x17.set x9.toNat (⟨((u22 11).o 0), ((u22 11).n 0), (t24 ++ [t26])⟩ : Sl TInterval)), by simp, (map_set h_x17 x9.toNat (⟨((u22 11).o 0), ((u22 11).n 0), (t24 ++ [t26])⟩ : Sl TInterval)), H.toL _ (by kernel_rfl)⟩
      ·rw [if_neg (nt c31)] at G
       refine k_exit rfl ?_
       obtain rfl := Option.some.inj G
       replace H := H.move (K := nsK 22 37 2 en_TInterval p_x17 L_x17.length c_x17 L_x17 L_x17) 900010 900008 (by kernel_rfl) (by intro _ _ h; cases h)
       exact ⟨p_x17, c_x17, L_x17.length, L_x17, rfl, h_x17, H.toL _ (by kernel_rfl)⟩
   ·rw [if_neg (nt c32)] at G
    refine k_exit rfl ?_
    obtain rfl := Option.some.inj G
    replace H := H.move (K := nsK 22 37 2 en_TInterval p_x8 L_x8.length c_x8 L_x8 L_x8) 900006 900004 (by kernel_rfl) (by intro _ _ h; cases h)
    exact ⟨p_x8, c_x8, L_x8.length, L_x8, rfl, h_x8, H.toL _ (by kernel_rfl)⟩
set_option maxHeartbeats 4000000 in
theorem matrix_Mul.calls (k0 : Nat) (a0 : List (List TInterval)) (a1 : List (List TInterval)) (p_a0 : Option Addr) (c_a0 : Nat) (L_a0 : List (Sl TInterval)) (p_a1 : Option Addr) (c_a1 : Nat) (L_a1 : List (Sl TInterval)) (r : List (List TInterval)) (w : World) (h_a0 : a0 = L_a0.map Sl.l) (h_a1 : a1 = L_a1.map Sl.l) (hB : AllH [rdl anyF 1 p_a0 c_a0 L_a0 enSl, dnK anyF E_S_TInterval.toPart L_a0, rdl anyF 1 p_a1 c_a1 L_a1 enSl, dnK anyF E_S_TInterval.toPart L_a1, gk] w) (G : matrix_Mul k0 a0 a1 = some r) :
  Calls Tryd.prog 19 #[.slice p_a0 L_a0.length c_a0, .slice p_a1 L_a1.length c_a1] w fun e w' => ∃ g : Gh, e = .returned (.slice (g.o 0) ((g.dl Sl.l gd_S_TInterval 0 r).length) (g.n 0)) ∧ But (fpK []) w w' ∧ OutOK w.heap.size (fpK []) (frI w.heap.size []) [fun _ => nsK 22 37 2 en_TInterval (g.o 0) ((g.dl Sl.l gd_S_TInterval 0 r).length) (g.n 0) (g.dl Sl.l gd_S_TInterval 0 r) (g.dl Sl.l gd_S_TInterval 0 r)] w' := by
 obtain ⟨fr, hfr⟩ : ∃ fr : Nat → Prop, fr = frI w.heap.size [] := ⟨_, rfl⟩
 have hBf : ∀ j, w.heap.size ≤ j → fr j := fun j h => by rw [hfr]; exact .inl h
 refine k_enterF (args := [.slice p_a0 L_a0.length c_a0, .slice p_a1 L_a1.length c_a1]) 9 [(9, rdl anyF 1 p_a0 c_a0 L_a0 enSl), (10, dnK anyF E_S_TInterval.toPart L_a0), (11, rdl anyF 1 p_a1 c_a1 L_a1 enSl), (12, dnK anyF E_S_TInterval.toPart L_a1), (999999, gk)] (by
  intro x hx
  simp only [List.mem_cons, List.not_mem_nil, or_false] at hx
  rcases hx with rfl | rfl | rfl | rfl | rfl
  ·exact rdF_fact (rdF_of hB.1) (fun _ _ => trivial) (by decide) _
  ·exact dn_fact (dn_of hB.2.1) (fun _ _ => trivial) _
  ·exact rdF_fact (rdF_of hB.2.2.1) (fun _ _ => trivial) (by decide) _
  ·exact dn_fact (dn_of hB.2.2.2.1) (fun _ _ => trivial) _
  ·exact ⟨⟨_, _, rfl⟩, hB.2.2.2.2.1, glob_in (glob_of hB.2.2.2.2.1)⟩) Tryd.func19 rfl (by kernel_rfl) (by kernel_rfl) fun a H => ?_
 unfold matrix_Mul at G
 refine k_seq ?_
 refine k_rg mixed H (.cons [2, 13] (ok_new (fun b => vP b 0) (fun u1 => [.slice p_a0 L_a0.length c_a0]) 27 2 13) <|
   .cons [3, 14] (ok_new (fun b => vP b 0) (fun u1 => [.slice p_a1 L_a1.length c_a1]) 27 3 14) <|
   .v 4 (.slice none 0 0) <| .nil) fun u1 a w' H => ?_
 replace H := H.kp [2, 3, 9, 10, 11, 12, 13, 14, 999999]
 refine k_seq ?_
 replace G := bnd G; obtain ⟨t3, ht3, G⟩ := G
 refine k_rg mixed H (.cons [5] (ok_ld (fun u2 => .slice p_a0 L_a0.length c_a0) 5 13 0 1 (fun u2 => ((u1 0).n 0)) (fun u2 => [.slice p_a0 L_a0.length c_a0]) 27) <|
   .cons [6] (ok_valL [9] (fun u2 => [rdl anyF 1 p_a0 c_a0 L_a0 enSl]) (fun u2 => vI (a0.length : Int)) (fun u2 => true) [true] 6 (fun u2 w hg hF => run_lenN (((rdF_of hF.1).2.len enSl_len (by decide)).trans (map_len h_a0).symm) (by kernel_rfl))) <|
   .v 7 (.func (.func 57) #[] #[vP ((u1 0).n 0) 0, vP ((u1 1).n 0) 0]) <|
   .cons [8, 15] (ok_callY false fr [] [9, 10, 13, 11, 12, 14, 999999] (fun u2 => [rdl anyF 1 p_a0 c_a0 L_a0 enSl, dnK anyF E_S_TInterval.toPart L_a0, .blk ((u1 0).n 0) [.slice p_a0 L_a0.length c_a0] 27, rdl anyF 1 p_a1 c_a1 L_a1 enSl, dnK anyF E_S_TInterval.toPart L_a1, .blk ((u1 1).n 0) [.slice p_a1 L_a1.length c_a1] 27, gk]) [] (fun u2 => []) 56 (fun u2 => #[vI (a0.length : Int), .func (.func 57) #[] #[vP ((u1 0).n 0) 0, vP ((u1 1).n 0) 0]]) (fun u2 => [rdl anyF 1 p_a0 c_a0 L_a0 enSl, dnK anyF E_S_TInterval.toPart L_a0, bxK ((u1 0).n 0) [.slice p_a0 L_a0.length c_a0] 27, rdl anyF 1 p_a1 c_a1 L_a1 enSl, dnK anyF E_S_TInterval.toPart L_a1, bxK ((u1 1).n 0) [.slice p_a1 L_a1.length c_a1] 27, gk]) (fun u2 => []) (fun u2 g => .slice (g.o 0) ((g.dl Sl.l gd_S_TInterval 0 t3).length) (g.n 0)) (fun u2 g => [fun _ => nsK 22 37 2 en_TInterval (g.o 0) ((g.dl Sl.l gd_S_TInterval 0 t3).length) (g.n 0) (g.dl Sl.l gd_S_TInterval 0 t3) (g.dl Sl.l gd_S_TInterval 0 t3)]) [15] 8 (fun u2 w hB hF hM => api_Interval_56_s57.calls k0 (a0.length : Int) a0 a1 ((u1 0).n 0) p_a0 c_a0 L_a0 ((u1 1).n 0) p_a1 c_a1 L_a1 t3 w h_a0 h_a1 hB ht3) (fun u2 w hF => ⟨⟨sub_rd0 (rdF_of hF.1) (fun j h => ⟨_, (.head _), h⟩), sub_dn0 (dn_of hF.2.1) (fun j h => ⟨_, (.tail _ (.head _)), h⟩), sub_bx hF.2.2.1 (.tail _ (.tail _ (.head _))) rfl, sub_rd0 (rdF_of hF.2.2.2.1) (fun j h => ⟨_, (.tail _ (.tail _ (.tail _ (.head _)))), h⟩), sub_dn0 (dn_of hF.2.2.2.2.1) (fun j h => ⟨_, (.tail _ (.tail _ (.tail _ (.tail _ (.head _))))), h⟩), sub_bx hF.2.2.2.2.2.1 (.tail _ (.tail _ (.tail _ (.tail _ (.tail _ (.head _)))))) rfl, sub_k hF.2.2.2.2.2.2.1 (.tail _ (.tail _ (.tail _ (.tail _ (.tail _ (.tail _ (.head _))))))), trivial⟩, trivial⟩) (fun u2 g => (fams_cons fam_ns fams_nil)) (.inr (fun u2 g => (famx_cons trivial (fun K h => by cases h)))) (fun h => by cases h)) <|
   .cons [4] (ok_val (fun u2 => .slice ((u2 3).o 0) (((u2 3).dl Sl.l gd_S_TInterval 0 t3).length) ((u2 3).n 0)) 4) <| .nil) fun u2 a w' H => ?_
 replace H := H.kp [4, 15, 999999]
 refine k_ret ?_
 obtain rfl := Option.some.inj G
 obtain ⟨g, o0, n0, d0⟩ : ∃ g : Gh, g.o 0 = ((u2 3).o 0) ∧ g.n 0 = ((u2 3).n 0) ∧ g.dl Sl.l gd_S_TInterval 0 t3 = ((u2 3).dl Sl.l gd_S_TInterval 0 t3) := ⟨⟨fun i => [((u2 3).n 0)].getD i 0, fun i => [((u2 3).o 0)].getD i none, fun i => ([⟨List (Sl TInterval), ((u2 3).dl Sl.l gd_S_TInterval 0 t3)⟩] : List ((T : Type) × T)).getD i ⟨Unit, ()⟩⟩, rfl, rfl, dl_mk rfl (dl_er ergd_S_TInterval (u2 3) 0 t3)⟩
 refine k_doneZ H (fun g => .slice (g.o 0) ((g.dl Sl.l gd_S_TInterval 0 t3).length) (g.n 0)) g [] [] (fun g => [fun _ => nsK 22 37 2 en_TInterval (g.o 0) ((g.dl Sl.l gd_S_TInterval 0 t3).length) (g.n 0) (g.dl Sl.l gd_S_TInterval 0 t3) (g.dl Sl.l gd_S_TInterval 0 t3)]) fr [15] [] (.slice ((u2 3).o 0) (((u2 3).dl Sl.l gd_S_TInterval 0 t3).length) ((u2 3).n 0)) [fun _ => nsK 22 37 2 en_TInterval ((u2 3).o 0) (((u2 3).dl Sl.l gd_S_TInterval 0 t3).length) ((u2 3).n 0) ((u2 3).dl Sl.l gd_S_TInterval 0 t3) ((u2 3).dl Sl.l gd_S_TInterval 0 t3)] (by simp only [o0, n0, d0]) (by simp only [o0, n0, d0]) hfr (.inl ⟨rfl, rfl⟩) (fams_cons fam_ns fams_nil) (by simp)
set_option maxHeartbeats 4000000 in
theorem interval_Point.calls (a0 : Int) (r : TInterval) (w : World) (G : interval_Point a0 = some r) :
  Calls Tryd.prog 64 #[vI a0] w fun e w' => e = .returned (.agg #[vI r.Lo, vI r.Hi]) ∧ Below w.heap.size w w' := by
 refine k_enter (args := [vI a0]) 6 Tryd.func64 rfl (by kernel_rfl) (by kernel_rfl) fun a H => ?_
 unfold interval_Point at G
 refine k_seq ?_
 refine k_rg mixed H (.cons [2, 6] (ok_new (fun b => vP b 0) (fun u1 => [vI 0, vI 0]) 37 2 6) <| .nil) fun u1 a w' H => ?_
 replace H := H.kp [0, 2, 6]
 refine k_seq ?_
 replace G := bnd G; obtain ⟨t3, ht3, G⟩ := G
 refine k_rg mixed H (.v 3 (vI a0) <|
   .v 4 (vI a0) <|
   .cons [5] (ok_callv 91 (fun u2 => #[vI a0, vI a0]) (.agg #[vI t3.Lo, vI t3.Hi]) 5 [] (fun u2 w _ => interval_New.calls a0 a0  t3 w  ht3)) <|
   .cons [6] (ok_as (u' := fun u2 => [(6, .blk ((u1 0).n 0) [vI t3.Lo, vI t3.Hi] 37)]) (ok_store 6 0 (fun u2 => ((u1 0).n 0)) (fun u2 => [vI 0, vI 0]) (fun u2 => [vI t3.Lo, vI t3.Hi]) 37) (fun _ => by kernel_rfl)) <| .nil) fun u2 a w' H => ?_
 replace H := H.kp [2, 6]
 refine k_ret ?_
 obtain rfl := Option.some.inj G
 exact k_done1 H _ 6 ((u1 0).n 0) [vI t3.Lo, vI t3.Hi] 37 0 2 (by kernel_rfl) (by kernel_rfl) (by kernel_rfl) (by kernel_rfl)
set_option maxHeartbeats 4000000 in
theorem matrix_Identity_1.calls (a0 : Int) (a1 : Int) (r : TInterval) (w : World) (G : matrix_Identity_1 a0 a1 = some r) :
  Calls Tryd.prog 63 #[vI a0, vI a1] w fun e w' => e = .returned (.agg #[vI r.Lo, vI r.Hi]) ∧ Below w.heap.size w w' := by
 refine k_enter (args := [vI a0, vI a1]) 10 Tryd.func63 rfl (by kernel_rfl) (by kernel_rfl) fun a H => ?_
 unfold matrix_Identity_1 at G
 refine k_seq ?_
 refine k_rg mixed H (.cons [4, 10] (ok_new (fun b => vP b 0) (fun u1 => [vI 0, vI 0]) 37 4 10) <| .nil) fun u1 a w' H => ?_
 replace H := H.kp [0, 1, 4, 10]
 refine k_seq ?_
 refine k_seq ?_
 refine k_rg mixed H (.v 5 (vI a0) <|
   .v 6 (vI a1) <|
   .v 7 (.bool (a0 == a1)) <| .nil) fun u2 a w' H => ?_
 replace H := H.kp [4, 7, 10]
 refine k_cond H (by kernel_rfl) (t := (a0 == a1)) (by kernel_rfl) (fun c7 => ?_) (fun c7 => ?_)
 ·rw [if_pos c7] at G
  refine k_seq ?_
  replace G := bnd G; obtain ⟨t4, ht4, G⟩ := G
  refine k_rg mixed H (.cons [8] (ok_callv 64 (fun u3 => #[vI 65536]) (.agg #[vI t4.Lo, vI t4.Hi]) 8 [] (fun u3 w _ => interval_Point.calls 65536  t4 w  ht4)) <|
   .cons [10] (ok_as (u' := fun u3 => [(10, .blk ((u1 0).n 0) [vI t4.Lo, vI t4.Hi] 37)]) (ok_store 10 0 (fun u3 => ((u1 0).n 0)) (fun u3 => [vI 0, vI 0]) (fun u3 => [vI t4.Lo, vI t4.Hi]) 37) (fun _ => by kernel_rfl)) <| .nil) fun u3 a w' H => ?_
  replace H := H.kp [4, 10]
  refine k_ret ?_
  obtain rfl := Option.some.inj G
  exact k_done1 H _ 10 ((u1 0).n 0) [vI t4.Lo, vI t4.Hi] 37 0 2 (by kernel_rfl) (by kernel_rfl) (by kernel_rfl) (by kernel_rfl)
 ·rw [if_neg (nt c7)] at G
  refine k_skip ?_
  refine k_seq ?_
  replace G := bnd G; obtain ⟨t6, ht6, G⟩ := G
  refine k_rg mixed H (.cons [9] (ok_callv 64 (fun u5 => #[vI 0]) (.agg #[vI t6.Lo, vI t6.Hi]) 9 [] (fun u5 w _ => interval_Point.calls 0  t6 w  ht6)) <|
   .cons [10] (ok_as (u' := fun u5 => [(10, .blk ((u1 0).n 0) [vI t6.Lo, vI t6.Hi] 37)]) (ok_store 10 0 (fun u5 => ((u1 0).n 0)) (fun u5 => [vI 0, vI 0]) (fun u5 => [vI t6.Lo, vI t6.Hi]) 37) (fun _ => by kernel_rfl)) <| .nil) fun u5 a w' H => ?_
  replace H := H.kp [4, 10]
  refine k_ret ?_
  obtain rfl := Option.some.inj G
  exact k_done1 H _ 10 ((u1 0).n 0) [vI t6.Lo, vI t6.Hi] 37 0 2 (by kernel_rfl) (by kernel_rfl) (by kernel_rfl) (by kernel_rfl)
set_option maxHeartbeats 4000000 in
theorem api_Interval_56_s63.calls (k0 : Nat) (a0 : Int) (r : List (List TInterval)) (w : World) (G : api_Interval_56_s63 k0 a0 = some r) :
  Calls Tryd.prog 56 #[vI a0, .func (.func 63) #[] #[]] w fun e w' => ∃ g : Gh, e = .returned (.slice (g.o 0) ((g.dl Sl.l gd_S_TInterval 0 r).length) (g.n 0)) ∧ But (fpK []) w w' ∧ OutOK w.heap.size (fpK []) (frI w.heap.size []) [fun _ => nsK 22 37 2 en_TInterval (g.o 0) ((g.dl Sl.l gd_S_TInterval 0 r).length) (g.n 0) (g.dl Sl.l gd_S_TInterval 0 r) (g.dl Sl.l gd_S_TInterval 0 r)] w' := by
 obtain ⟨fr, hfr⟩ : ∃ fr : Nat → Prop, fr = frI w.heap.size [] := ⟨_, rfl⟩
 have hBf : ∀ j, w.heap.size ≤ j → fr j := fun j h => by rw [hfr]; exact .inl h
 refine k_enter (args := [vI a0, .func (.func 63) #[] #[]]) 34 Tryd.func56 rfl (by kernel_rfl) (by kernel_rfl) fun a H => ?_
 unfold api_Interval_56_s63 at G
 refine k_seq ?_
 refine k_rg mixed H (.v 4 (.slice none 0 0) <| .nil) fun u1 a w' H => ?_
 replace H := H.kp [0, 1]
 refine k_seq ?_
 replace G := gd G; obtain ⟨b3, G⟩ := G
 refine k_rg mixed H (.v 8 (vI a0) <|
   .cons [9, 34] (ok_nest0 37 2 en_TInterval (ok_rowL [] (fun u2 => []) 22 1 (List.replicate a0.toNat (⟨none, 0, []⟩ : Sl TInterval)).length ((List.replicate a0.toNat (⟨none, 0, []⟩ : Sl TInterval)).flatMap enSl) 9 34 (fun _ => .none) (fun u2 w hF => run_make_row (t := 27) (k := .i64) (m := a0) (en := enSl) (z := (⟨none, 0, []⟩ : Sl TInterval)) enSl_len inf22 rfl b3 (by kernel_rfl)) (fun _ => .inl rfl)) repl_nil) <|
   .cons [5] (ok_val (fun u2 => .slice ((u2 1).o 0) ((List.replicate a0.toNat (⟨none, 0, []⟩ : Sl TInterval)).length) ((u2 1).n 0)) 5) <| .nil) fun u2 a w' H => ?_
 replace H := H.kp [0, 1, 5, 34]
 refine k_seq ?_
 replace G := bnd G; obtain ⟨j5, hj5, G⟩ := G
 refine k_join (fun a w' => ∃ (p_j4 : Option Addr) (c_j4 np_j4 : Nat) (L_j4 : List (Sl TInterval)), np_j4 = L_j4.length ∧ j5 = L_j4.map Sl.l ∧ Rep w.heap.size w 34 (ofL [(5, sS p_j4 np_j4 c_j4), (900012, nsK 22 37 2 en_TInterval p_j4 np_j4 c_j4 L_j4 L_j4)]) a w') ?_ ?_
 ·clear H; rintro a w' ⟨p_j4, c_j4, _, L_j4, rfl, h_j4, H⟩
  refine k_seq ?_
  refine k_rg mixed H (.v 33 (.slice p_j4 L_j4.length c_j4) <|
   .v 4 (.slice p_j4 L_j4.length c_j4) <| .nil) fun u6 a w' H => ?_
  replace H := H.kp [4, 900012]
  refine k_ret ?_
  obtain rfl := Option.some.inj G
  obtain ⟨g, o0, n0, d0⟩ : ∃ g : Gh, g.o 0 = p_j4 ∧ g.n 0 = c_j4 ∧ g.dl Sl.l gd_S_TInterval 0 j5 = L_j4 := ⟨⟨fun i => [c_j4].getD i 0, fun i => [p_j4].getD i none, fun i => ([⟨List (Sl TInterval), L_j4⟩] : List ((T : Type) × T)).getD i ⟨Unit, ()⟩⟩, rfl, rfl, dl_mk rfl h_j4⟩
  refine k_doneZ H (fun g => .slice (g.o 0) ((g.dl Sl.l gd_S_TInterval 0 j5).length) (g.n 0)) g [] [] (fun g => [fun _ => nsK 22 37 2 en_TInterval (g.o 0) ((g.dl Sl.l gd_S_TInterval 0 j5).length) (g.n 0) (g.dl Sl.l gd_S_TInterval 0 j5) (g.dl Sl.l gd_S_TInterval 0 j5)]) fr [900012] [] (.slice p_j4 L_j4.length c_j4) [fun _ => nsK 22 37 2 en_TInterval p_j4 L_j4.length c_j4 L_j4 L_j4] (by simp only [o0, n0, d0]) (by simp only [o0, n0, d0]) hfr (.inl ⟨rfl, rfl⟩) (fams_cons fam_ns fams_nil) (by simp)
 ·clear G; replace G := hj5; clear hj5
  refine k_seq ?_
  refine k_rg mixed H (.v 10 (vI a0) <|
   .v 11 (vI 0) <| .nil) fun u7 a w' H => ?_
  replace H := H.kp [0, 1, 5, 10, 11, 34]
  refine k_block ?_
  replace H := H.move (K := nsK 22 37 2 en_TInterval ((u2 1).o 0) ((List.replicate a0.toNat (⟨none, 0, []⟩ : Sl TInterval)).length) ((u2 1).n 0) (List.replicate a0.toNat (⟨none, 0, []⟩ : Sl TInterval)) (List.replicate a0.toNat (⟨none, 0, []⟩ : Sl TInterval))) 34 900014 (by kernel_rfl) (by intro _ _ h; cases h)
  refine k_loopJ (fun m a w' => ∃ x8 : List (List TInterval), ∃ x9 : Int, api_Interval_56_s63.l10 k0 a0 m x8 x9 = some j5 ∧ ∃ (p_x8 : Option Addr) (c_x8 np_x8 : Nat) (L_x8 : List (Sl TInterval)), np_x8 = L_x8.length ∧ x8 = L_x8.map Sl.l ∧ Rep w.heap.size w 34 (ofL [(0, sI a0), (1, .slot true (.func (.func 63) #[] #[])), (5, sS p_x8 np_x8 c_x8), (10, sI a0), (11, sI x9), (900014, nsK 22 37 2 en_TInterval p_x8 np_x8 c_x8 L_x8 L_x8)]) a w') k0 ⟨_, _, G, ((u2 1).o 0), ((u2 1).n 0), (List.replicate a0.toNat (⟨none, 0, []⟩ : Sl TInterval)).length, (List.replicate a0.toNat (⟨none, 0, []⟩ : Sl TInterval)), rfl, (map_repl a0.toNat (⟨none, 0, []⟩ : Sl TInterval)), H.toL _ (by kernel_rfl)⟩ ?_
  clear G H
  rintro (_ | k) a w' ⟨x8, x9, G, p_x8, c_x8, _, L_x8, rfl, h_x8, H⟩
  ·exact absurd G (by unfold api_Interval_56_s63.l10; exact fun h => by cases h)
  ·unfold api_Interval_56_s63.l10 at G
   refine k_seq ?_
   refine k_rg mixed H (.v 12 (.bool (decide (x9 < a0))) <| .nil) fun u11 a w' H => ?_
   replace H := H.kp [0, 1, 5, 10, 11, 12, 900014]
   refine k_seq ?_
   refine k_cond H (by kernel_rfl) (t := decide (x9 < a0)) (by kernel_rfl) (fun c32 => ?_) (fun c32 => ?_)
   ·rw [if_pos c32] at G
    refine k_skip ?_
    refine k_seq ?_
    replace G := bnd G; obtain ⟨j13, hj13, G⟩ := G
    refine k_join (fun a w' => ∃ (p_j12 : Option Addr) (c_j12 np_j12 : Nat) (L_j12 : List (Sl TInterval)), np_j12 = L_j12.length ∧ j13 = L_j12.map Sl.l ∧ Rep w.heap.size w 34 (ofL [(0, sI a0), (1, .slot true (.func (.func 63) #[] #[])), (5, sS p_j12 np_j12 c_j12), (10, sI a0), (11, sI x9), (900016, nsK 22 37 2 en_TInterval p_j12 np_j12 c_j12 L_j12 L_j12)]) a w') ?_ ?_
    ·clear H; rintro a w' ⟨p_j12, c_j12, _, L_j12, rfl, h_j12, H⟩
     refine k_rg mixed H (.v 32 (vI (w_i64 (x9 + 1))) <|
   .v 11 (vI (w_i64 (x9 + 1))) <| .nil) fun u14 a w' H => ?_
     replace H := H.kp [0, 1, 5, 10, 11, 900016]
     replace H := H.move (K := nsK 22 37 2 en_TInterval p_j12 L_j12.length c_j12 L_j12 L_j12) 900016 900014 (by kernel_rfl) (by intro _ _ h; cases h)
     exact ⟨k, Nat.lt_succ_self k, _, _, G, p_j12, c_j12, L_j12.length, L_j12, rfl, h_j12, H.toL _ (by kernel_rfl)⟩
    ·clear G; replace G := hj13; clear hj13
     refine k_block ?_
     refine k_seq ?_
     refine k_rg mixed H (.v 13 (vI x9) <|
   .v 6 (vI x9) <| .nil) fun u15 a w' H => ?_
     replace H := H.kp [0, 1, 5, 6, 10, 11, 900014]
     refine k_seq ?_
     refine k_rg mixed H (.v 14 (vI a0) <|
   .v 15 (vI 0) <| .nil) fun u16 a w' H => ?_
     replace H := H.kp [0, 1, 5, 6, 10, 11, 14, 15, 900014]
     refine k_block ?_
     replace H := H.move (K := nsK 22 37 2 en_TInterval p_x8 L_x8.length c_x8 L_x8 L_x8) 900014 900018 (by kernel_rfl) (by intro _ _ h; cases h)
     refine k_loopJ (fun m a w' => ∃ x17 : List (List TInterval), ∃ x18 : Int, api_Interval_56_s63.l19 k0 a0 x8 x9 m x17 x18 = some j13 ∧ ∃ (p_x17 : Option Addr) (c_x17 np_x17 : Nat) (L_x17 : List (Sl TInterval)), np_x17 = L_x17.length ∧ x17 = L_x17.map Sl.l ∧ Rep w.heap.size w 34 (ofL [(0, sI a0), (1, .slot true (.func (.func 63) #[] #[])), (5, sS p_x17 np_x17 c_x17), (6, sI x9), (10, sI a0), (11, sI x9), (14, sI a0), (15, sI x18), (900018, nsK 22 37 2 en_TInterval p_x17 np_x17 c_x17 L_x17 L_x17)]) a w') k0 ⟨_, _, G, p_x8, c_x8, L_x8.length, L_x8, rfl, h_x8, H.toL _ (by kernel_rfl)⟩ ?_
     clear G H
     rintro (_ | k) a w' ⟨x17, x18, G, p_x17, c_x17, _, L_x17, rfl, h_x17, H⟩
     ·exact absurd G (by unfold api_Interval_56_s63.l19; exact fun h => by cases h)
     ·unfold api_Interval_56_s63.l19 at G
      refine k_seq ?_
      refine k_rg mixed H (.v 16 (.bool (decide (x18 < a0))) <| .nil) fun u20 a w' H => ?_
      replace H := H.kp [0, 1, 5, 6, 10, 11, 14, 15, 16, 900018]
      refine k_seq ?_
      refine k_cond H (by kernel_rfl) (t := decide (x18 < a0)) (by kernel_rfl) (fun c31 => ?_) (fun c31 => ?_)
      ·rw [if_pos c31] at G
       refine k_skip ?_
       refine k_seq ?_
       refine k_block ?_
       refine k_seq ?_
       refine k_rg mixed H (.v 17 (vI x18) <|
   .v 7 (vI x18) <| .nil) fun u21 a w' H => ?_
       replace H := H.kp [0, 1, 5, 6, 7, 10, 11, 14, 15, 900018]
       replace G := gd G; obtain ⟨b23, G⟩ := G
       replace G := bnd G; obtain ⟨t24, ht24, G⟩ := G
       obtain ⟨p_t24, c_t24, y_t24⟩ := sl_get h_x17 ht24
       have P25 := ptr_of (en := enSl) (l := L_x17) (ns_of (H.at (K := nsK 22 37 2 en_TInterval p_x17 L_x17.length c_x17 L_x17 L_x17) 900018 (by kernel_rfl))).row.2 enSl_len
       replace G := bnd G; obtain ⟨t26, ht26, G⟩ := G
       replace G := gd G; obtain ⟨b27, G⟩ := G
       replace G := gd G; obtain ⟨b28, G⟩ := G
       replace G := bnd G; obtain ⟨t29, ht29, G⟩ := G
       obtain ⟨p_t29, c_t29, y_t29⟩ := sl_get h_x17 ht29
       refine k_rg mixed H (.v 18 (.slice p_x17 L_x17.length c_x17) <|
   .v 19 (vI x9) <|
   .v 20 (.slice p_x17 L_x17.length c_x17) <|
   .v 21 (vI x9) <|
   .cons [22] (ok_val (fun u22 => .pointer (some ⟨hdB p_x17, hdO p_x17 + x9.toNat * 1, none⟩)) 22 (hv := fun _ _ => ix_pure (t := 27) (k := .i64) (i := x9) (p := p_x17) (n := L_x17.length) (cap := c_x17) (x := x17) P25 (map_len h_x17) b23 (by kernel_rfl))) <|
   .cons [23] (ok_valL [900018] (fun u22 => [nsK 22 37 2 en_TInterval p_x17 L_x17.length c_x17 L_x17 L_x17]) (fun u22 => .slice p_t24 t24.length c_t24) (fun u22 => true) [true] 23 (fun u22 w hg hF => ld_row (en := enSl) (ns_of hF.1).row.2 enSl_len y_t24 0 1 [.slice p_t24 t24.length c_t24] rfl (by kernel_rfl))) <|
   .v 24 (.func (.func 63) #[] #[]) <|
   .v 25 (vI x9) <|
   .v 26 (vI x18) <|
   .cons [27] (ok_callv 63 (fun u22 => #[vI x9, vI x18]) (.agg #[vI t26.Lo, vI t26.Hi]) 27 [] (fun u22 w _ => matrix_Identity_1.calls x9 x18  t26 w  ht26)) <|
   .cons [28, 37] (ok_new (fun b => .slice (some ⟨b, 0, none⟩) 1 1) (fun u22 => [vI t26.Lo, vI t26.Hi]) 37 28 37) <|
   .cons [29, 900018, 900018] (ok_own1 [10] [37] (fun u22 => [.blk ((u22 10).n 0) [vI t26.Lo, vI t26.Hi] 37]) 900018 (fun u22 => nsK 22 37 2 en_TInterval p_x17 L_x17.length c_x17 L_x17 L_x17) (some 29) (fun u22 g => .slice (g.o 0) (t24 ++ [t26]).length (g.n 0)) (fun u22 g => nsK 22 37 2 en_TInterval p_x17 L_x17.length c_x17 L_x17 (L_x17.set x9.toNat (⟨(g.o 0), (g.n 0), (t24 ++ [t26])⟩ : Sl TInterval))) (fun u22 w hF hK => tn_app hK y_t24 (l' := (t24 ++ [t26])) (fun h => run_app_rowN (t := 22) (ty := 22) (en := en_TInterval) en_TInterval_len inf37 h hF.1 (news := [t26]) rfl (by simp) (by kernel_rfl) b27)) (hloc := fun u u' h => ⟨by first | rfl | simp only [h 10 (by decide)], by first | rfl | simp only [h 10 (by decide)], by first | rfl | simp only [h 10 (by decide)], by first | rfl | simp only [h 10 (by decide)]⟩)) <|
   .cons [30] (ok_val (fun u22 => .pointer (some ⟨hdB p_x17, hdO p_x17 + x9.toNat * 1, none⟩)) 30 (hv := fun _ _ => ix_pure (t := 27) (k := .i64) (i := x9) (p := p_x17) (n := L_x17.length) (cap := c_x17) (x := x17) P25 (map_len h_x17) b28 (by kernel_rfl))) <|
   .cons [900018, 900018] (ok_own1 [11] [] (fun u22 => []) 900018 (fun u22 => nsK 22 37 2 en_TInterval p_x17 L_x17.length c_x17 L_x17 (L_x17.set x9.toNat (⟨((u22 11).o 0), ((u22 11).n 0), (t24 ++ [t26])⟩ : Sl TInterval))) none (fun u22 g => .nilFunc) (fun u22 g => nsK 22 37 2 en_TInterval p_x17 L_x17.length c_x17 (L_x17.set x9.toNat (⟨((u22 11).o 0), ((u22 11).n 0), (t24 ++ [t26])⟩ : Sl TInterval)) (L_x17.set x9.toNat (⟨((u22 11).o 0), ((u22 11).n 0), (t24 ++ [t26])⟩ : Sl TInterval))) (fun u22 w hF hK => tn_hd hK (fun h => el_storeN (en := enSl) h enSl_len (y := (⟨((u22 11).o 0), ((u22 11).n 0), (t24 ++ [t26])⟩ : Sl TInterval)) (vs := [.slice ((u22 11).o 0) ((t24 ++ [t26]).length) ((u22 11).n 0)]) y_t29 0 (by simp) (by simp) rfl (by kernel_rfl))) (hloc := fun u u' h => ⟨by first | rfl | simp only [h 11 (by decide)], by first | rfl | simp only [h 11 (by decide)], by first | rfl | simp only [h 11 (by decide)], by first | rfl | simp only [h 11 (by decide)]⟩)) <| .nil) fun u22 a w' H => ?_
       replace H := H.kp [0, 1, 5, 6, 10, 11, 14, 15, 900018]
       refine k_rg mixed H (.v 31 (vI (w_i64 (x18 + 1))) <|
   .v 15 (vI (w_i64 (x18 + 1))) <| .nil) fun u30 a w' H => ?_
       replace H := H.kp [0, 1, 5, 6, 10, 11, 14, 15, 900018]
       exact ⟨k, Nat.lt_succ_self k, _, _, G, p_x17, c_x17, L_x17.length, (L_x17.set x9.toNat (⟨((u22 11).o 0), ((u22 11).n 0), (t24 ++ [t26])⟩ : Sl TInterval)), by simp, (map_set h_x17 x9.toNat (⟨((u22 11).o 0), ((u22 11).n 0), (t24 ++ [t26])⟩ : Sl TInterval)), H.toL _ (by kernel_rfl)⟩
      ·rw [if_neg (nt c31)] at G
       refine k_exit rfl ?_
       obtain rfl := Option.some.inj G
       replace H := H.move (K := nsK 22 37 2 en_TInterval p_x17 L_x17.length c_x17 L_x17 L_x17) 900018 900016 (by kernel_rfl) (by intro _ _ h; cases h)
       exact ⟨p_x17, c_x17, L_x17.length, L_x17, rfl, h_x17, H.toL _ (by kernel_rfl)⟩
   ·rw [if_neg (nt c32)] at G
    refine k_exit rfl ?_
    obtain rfl := Option.some.inj G
    replace H := H.move (K := nsK 22 37 2 en_TInterval p_x8 L_x8.length c_x8 L_x8 L_x8) 900014 900012 (by kernel_rfl) (by intro _ _ h; cases h)
    exact ⟨p_x8, c_x8, L_x8.length, L_x8, rfl, h_x8, H.toL _ (by kernel_rfl)⟩
set_option maxHeartbeats 4000000 in
theorem matrix_Identity.calls (k0 : Nat) (a0 : Int) (r : List (List TInterval)) (w : World) (G : matrix_Identity k0 a0 = some r) :
  Calls Tryd.prog 25 #[vI a0] w fun e w' => ∃ g : Gh, e = .returned (.slice (g.o 0) ((g.dl Sl.l gd_S_TInterval 0 r).length) (g.n 0)) ∧ But (fpK []) w w' ∧ OutOK w.heap.size (fpK []) (frI w.heap.size []) [fun _ => nsK 22 37 2 en_TInterval (g.o 0) ((g.dl Sl.l gd_S_TInterval 0 r).length) (g.n 0) (g.dl Sl.l gd_S_TInterval 0 r) (g.dl Sl.l gd_S_TInterval 0 r)] w' := by
 obtain ⟨fr, hfr⟩ : ∃ fr : Nat → Prop, fr = frI w.heap.size [] := ⟨_, rfl⟩
 have hBf : ∀ j, w.heap.size ≤ j → fr j := fun j h => by rw [hfr]; exact .inl h
 refine k_enter (args := [vI a0]) 11 Tryd.func25 rfl (by kernel_rfl) (by kernel_rfl) fun a H => ?_
 unfold matrix_Identity at G
 refine k_seq ?_
 refine k_rg mixed H (.v 2 (.slice none 0 0) <| .nil) fun u1 a w' H => ?_
 replace H := H.kp [0]
 refine k_seq ?_
 refine k_seq ?_
 refine k_rg mixed H (.v 3 (vI a0) <|
   .v 4 (.bool (decide (a0 < 1))) <|
   .v 5 (.bool (decide (a0 < 1))) <|
   .cons [6] (ok_valg (fun u2 => vI a0) (fun u2 => ((decide (a0 < 1)) == false)) [true] 6) <|
   .cons [7] (ok_valg (fun u2 => .bool (decide (a0 > 6))) (fun u2 => ((decide (a0 < 1)) == false)) [false, true] 7) <|
   .cons [8] (ok_or 5 7 (fun u2 => true) (fun u2 => true) (fun u2 => decide (a0 < 1)) (fun u2 => decide (a0 > 6)) 8) <| .nil) fun u2 a w' H => ?_
 replace H := H.kp [0, 8]
 refine k_cond H (by kernel_rfl) (t := ((decide (a0 < 1)) || (decide (a0 > 6)))) (by kernel_rfl) (fun c6 => ?_) (fun c6 => ?_)
 ·rw [if_pos c6] at G
  refine k_seq ?_
  refine k_rg mixed H (.v 2 (.slice none 0 0) <| .nil) fun u3 a w' H => ?_
  replace H := H.kp [2]
  refine k_ret ?_
  obtain rfl := Option.some.inj G
  replace H := H.nil_row 11 22 1
  replace H := H.nest0 (e := 22) (m := 0) (cap := 0) (p := none) (H := ([] : List (Sl TInterval))) 11 37 2 en_TInterval (by kernel_rfl) (fun x h => by cases h)
  obtain ⟨g, o0, n0, d0⟩ : ∃ g : Gh, g.o 0 = none ∧ g.n 0 = 0 ∧ g.dl Sl.l gd_S_TInterval 0 ([] : List (List TInterval)) = ([] : List (Sl TInterval)) := ⟨⟨fun i => [0].getD i 0, fun i => [none].getD i none, fun i => ([⟨List (Sl TInterval), ([] : List (Sl TInterval))⟩] : List ((T : Type) × T)).getD i ⟨Unit, ()⟩⟩, rfl, rfl, dl_mk rfl rfl⟩
  refine k_doneZ H (fun g => .slice (g.o 0) ((g.dl Sl.l gd_S_TInterval 0 ([] : List (List TInterval))).length) (g.n 0)) g [] [] (fun g => [fun _ => nsK 22 37 2 en_TInterval (g.o 0) ((g.dl Sl.l gd_S_TInterval 0 ([] : List (List TInterval))).length) (g.n 0) (g.dl Sl.l gd_S_TInterval 0 ([] : List (List TInterval))) (g.dl Sl.l gd_S_TInterval 0 ([] : List (List TInterval)))]) fr [11] [] (.slice none 0 0) [fun _ => nsK 22 37 2 en_TInterval none 0 0 ([] : List (Sl TInterval)) ([] : List (Sl TInterval))] (by simp only [o0, n0, d0, List.length_set, List.length_cons, List.length_nil, Nat.zero_add, Nat.reduceAdd]) (by simp only [o0, n0, d0, List.length_set, List.length_cons, List.length_nil, Nat.zero_add, Nat.reduceAdd]) hfr (.inl ⟨rfl, rfl⟩) (fams_cons fam_ns fams_nil) (by simp)
 ·rw [if_neg (nt c6)] at G
  refine k_skip ?_
  refine k_seq ?_
  replace G := bnd G; obtain ⟨t5, ht5, G⟩ := G
  refine k_rg mixed H (.v 9 (vI a0) <|
   .cons [10, 12] (ok_callY false fr [] [] (fun u4 => []) [] (fun u4 => []) 56 (fun u4 => #[vI a0, .func (.func 63) #[] #[]]) (fun u4 => []) (fun u4 => []) (fun u4 g => .slice (g.o 0) ((g.dl Sl.l gd_S_TInterval 0 t5).length) (g.n 0)) (fun u4 g => [fun _ => nsK 22 37 2 en_TInterval (g.o 0) ((g.dl Sl.l gd_S_TInterval 0 t5).length) (g.n 0) (g.dl Sl.l gd_S_TInterval 0 t5) (g.dl Sl.l gd_S_TInterval 0 t5)]) [12] 10 (fun u4 w hB hF hM => api_Interval_56_s63.calls k0 a0  t5 w  ht5) (fun u4 w hF => ⟨trivial, trivial⟩) (fun u4 g => (fams_cons fam_ns fams_nil)) (.inr (fun u4 g => (famx_cons trivial (fun K h => by cases h)))) (fun h => by cases h)) <|
   .cons [2] (ok_val (fun u4 => .slice ((u4 1).o 0) (((u4 1).dl Sl.l gd_S_TInterval 0 t5).length) ((u4 1).n 0)) 2) <| .nil) fun u4 a w' H => ?_
  replace H := H.kp [2, 12]
  refine k_ret ?_
  obtain rfl := Option.some.inj G
  obtain ⟨g, o0, n0, d0⟩ : ∃ g : Gh, g.o 0 = ((u4 1).o 0) ∧ g.n 0 = ((u4 1).n 0) ∧ g.dl Sl.l gd_S_TInterval 0 t5 = ((u4 1).dl Sl.l gd_S_TInterval 0 t5) := ⟨⟨fun i => [((u4 1).n 0)].getD i 0, fun i => [((u4 1).o 0)].getD i none, fun i => ([⟨List (Sl TInterval), ((u4 1).dl Sl.l gd_S_TInterval 0 t5)⟩] : List ((T : Type) × T)).getD i ⟨Unit, ()⟩⟩, rfl, rfl, dl_mk rfl (dl_er ergd_S_TInterval (u4 1) 0 t5)⟩
  refine k_doneZ H (fun g => .slice (g.o 0) ((g.dl Sl.l gd_S_TInterval 0 t5).length) (g.n 0)) g [] [] (fun g => [fun _ => nsK 22 37 2 en_TInterval (g.o 0) ((g.dl Sl.l gd_S_TInterval 0 t5).length) (g.n 0) (g.dl Sl.l gd_S_TInterval 0 t5) (g.dl Sl.l gd_S_TInterval 0 t5)]) fr [12] [] (.slice ((u4 1).o 0) (((u4 1).dl Sl.l gd_S_TInterval 0 t5).length) ((u4 1).n 0)) [fun _ => nsK 22 37 2 en_TInterval ((u4 1).o 0) (((u4 1).dl Sl.l gd_S_TInterval 0 t5).length) ((u4 1).n 0) ((u4 1).dl Sl.l gd_S_TInterval 0 t5) ((u4 1).dl Sl.l gd_S_TInterval 0 t5)] (by simp only [o0, n0, d0]) (by simp only [o0, n0, d0]) hfr (.inl ⟨rfl, rfl⟩) (fams_cons fam_ns fams_nil) (by simp)
set_option maxHeartbeats 4000000 in
theorem armillaryref04_Same.calls (k0 : Nat) (a0 : List (List TInterval)) (a1 : List (List TInterval)) (p_a0 : Option Addr) (c_a0 : Nat) (L_a0 : List (Sl TInterval)) (p_a1 : Option Addr) (c_a1 : Nat) (L_a1 : List (Sl TInterval)) (r : Bool) (w : World) (h_a0 : a0 = L_a0.map Sl.l) (h_a1 : a1 = L_a1.map Sl.l) (hB : AllH [rdl anyF 1 p_a0 c_a0 L_a0 enSl, dnK anyF E_S_TInterval.toPart L_a0, rdl anyF 1 p_a1 c_a1 L_a1 enSl, dnK anyF E_S_TInterval.toPart L_a1] w) (G : armillaryref04_Same k0 a0 a1 = some r) :
  Calls Tryd.prog 26 #[.slice p_a0 L_a0.length c_a0, .slice p_a1 L_a1.length c_a1] w fun e w' => e = .returned (.bool r) ∧ Below w.heap.size w w' := by
 obtain ⟨fr, hfr⟩ : ∃ fr : Nat → Prop, ∀ j, fr j := ⟨fun _ => True, fun _ => trivial⟩
 have hBf : ∀ j, w.heap.size ≤ j → fr j := fun j _ => hfr j
 refine k_enterF (args := [.slice p_a0 L_a0.length c_a0, .slice p_a1 L_a1.length c_a1]) 53 [(53, rdl anyF 1 p_a0 c_a0 L_a0 enSl), (54, dnK anyF E_S_TInterval.toPart L_a0), (55, rdl anyF 1 p_a1 c_a1 L_a1 enSl), (56, dnK anyF E_S_TInterval.toPart L_a1)] (by
  intro x hx
  simp only [List.mem_cons, List.not_mem_nil, or_false] at hx
  rcases hx with rfl | rfl | rfl | rfl
  ·exact rdF_fact (rdF_of hB.1) (fun _ _ => trivial) (by decide) _
  ·exact dn_fact (dn_of hB.2.1) (fun _ _ => trivial) _
  ·exact rdF_fact (rdF_of hB.2.2.1) (fun _ _ => trivial) (by decide) _
  ·exact dn_fact (dn_of hB.2.2.2.1) (fun _ _ => trivial) _) Tryd.func26 rfl (by kernel_rfl) (by kernel_rfl) fun a H => ?_
 unfold armillaryref04_Same at G
 refine k_seq ?_
 refine k_rg mixed H (.v 4 (.bool false) <| .nil) fun u1 a w' H => ?_
 replace H := H.kp [0, 1, 53, 54, 55, 56]
 refine k_seq ?_
 refine k_seq ?_
 refine k_rg mixed H (.v 7 (.slice p_a0 L_a0.length c_a0) <|
   .cons [8] (ok_valL [53] (fun u2 => [rdl anyF 1 p_a0 c_a0 L_a0 enSl]) (fun u2 => vI (a0.length : Int)) (fun u2 => true) [true] 8 (fun u2 w hg hF => run_lenN (((rdF_of hF.1).2.len enSl_len (by decide)).trans (map_len h_a0).symm) (by kernel_rfl))) <|
   .v 9 (.slice p_a1 L_a1.length c_a1) <|
   .cons [10] (ok_valL [55] (fun u2 => [rdl anyF 1 p_a1 c_a1 L_a1 enSl]) (fun u2 => vI (a1.length : Int)) (fun u2 => true) [true] 10 (fun u2 w hg hF => run_lenN (((rdF_of hF.1).2.len enSl_len (by decide)).trans (map_len h_a1).symm) (by kernel_rfl))) <|
   .v 11 (.bool ((a0.length : Int) != (a1.length : Int))) <| .nil) fun u2 a w' H => ?_
 replace H := H.kp [0, 1, 11, 53, 54, 55, 56]
 refine k_cond H (by kernel_rfl) (t := ((a0.length : Int) != (a1.length : Int))) (by kernel_rfl) (fun c43 => ?_) (fun c43 => ?_)
 ·rw [if_pos c43] at G
  refine k_seq ?_
  refine k_rg mixed H (.v 4 (.bool false) <| .nil) fun u3 a w' H => ?_
  replace H := H.kp [4]
  refine k_ret ?_
  obtain rfl := Option.some.inj G
  exact k_done0 H _ (by kernel_rfl) (by kernel_rfl)
 ·rw [if_neg (nt c43)] at G
  refine k_skip ?_
  refine k_seq ?_
  replace G := bnd G; obtain ⟨j4, hj4, Gj4⟩ := G
  refine k_join (fun a w' => ∃ j4v, j4 = Sum.inr j4v ∧ Rep w.heap.size w 53 (ofL []) a w') ?_ ?_
  ·clear H; rintro a w' ⟨j4v, rfl, H⟩; have G := Gj4; clear Gj4; dsimp only at G
   refine k_seq ?_
   refine k_rg mixed H (.v 4 (.bool true) <| .nil) fun u5 a w' H => ?_
   replace H := H.kp [4]
   refine k_ret ?_
   obtain rfl := Option.some.inj G
   exact k_done0 H _ (by kernel_rfl) (by kernel_rfl)
  ·have G := hj4; clear hj4
   refine k_seq ?_
   refine k_rg mixed H (.v 5 (vI 0) <| .nil) fun u6 a w' H => ?_
   replace H := H.kp [0, 1, 5, 53, 54, 55, 56]
   refine k_block ?_
   refine k_loopJ (fun m a w' => ∃ x7 : Int, armillaryref04_Same.l8 k0 a0 a1 m x7 = some j4 ∧ Rep w.heap.size w 53 (ofL [(0, sS p_a0 L_a0.length c_a0), (1, sS p_a1 L_a1.length c_a1), (5, sI x7), (53, rdl anyF 1 p_a0 c_a0 L_a0 enSl), (54, dnK anyF E_S_TInterval.toPart L_a0), (55, rdl anyF 1 p_a1 c_a1 L_a1 enSl), (56, dnK anyF E_S_TInterval.toPart L_a1)]) a w') k0 ⟨_, G, H.toL _ (by kernel_rfl)⟩ ?_
   clear G H
   rintro (_ | k) a w' ⟨x7, G, H⟩
   ·exact absurd G (by unfold armillaryref04_Same.l8; exact fun h => by cases h)
   ·unfold armillaryref04_Same.l8 at G
    refine k_seq ?_
    refine k_seq ?_
    refine k_rg mixed H (.v 12 (vI x7) <|
   .v 13 (.slice p_a0 L_a0.length c_a0) <|
   .cons [14] (ok_valL [53] (fun u9 => [rdl anyF 1 p_a0 c_a0 L_a0 enSl]) (fun u9 => vI (a0.length : Int)) (fun u9 => true) [true] 14 (fun u9 w hg hF => run_lenN (((rdF_of hF.1).2.len enSl_len (by decide)).trans (map_len h_a0).symm) (by kernel_rfl))) <|
   .v 15 (.bool (decide (x7 < (a0.length : Int)))) <| .nil) fun u9 a w' H => ?_
    replace H := H.kp [0, 1, 5, 15, 53, 54, 55, 56]
    refine k_cond H (by kernel_rfl) (t := decide (x7 < (a0.length : Int))) (by kernel_rfl) (fun c42 => ?_) (fun c42 => ?_)
    ·rw [if_pos c42] at G
     refine k_skip ?_
     refine k_seq ?_
     replace G := bnd G; obtain ⟨j10, hj10, Gj10⟩ := G
     refine k_join (fun a w' => ∃ j10v, j10 = Sum.inr j10v ∧ Rep w.heap.size w 53 (ofL [(0, sS p_a0 L_a0.length c_a0), (1, sS p_a1 L_a1.length c_a1), (5, sI x7), (53, rdl anyF 1 p_a0 c_a0 L_a0 enSl), (54, dnK anyF E_S_TInterval.toPart L_a0), (55, rdl anyF 1 p_a1 c_a1 L_a1 enSl), (56, dnK anyF E_S_TInterval.toPart L_a1)]) a w') ?_ ?_
     ·clear H; rintro a w' ⟨j10v, rfl, H⟩; have G := Gj10; clear Gj10; dsimp only at G
      refine k_rg mixed H (.v 16 (vI x7) <|
   .v 17 (vI (w_i64 (x7 + 1))) <|
   .v 5 (vI (w_i64 (x7 + 1))) <| .nil) fun u11 a w' H => ?_
      replace H := H.kp [0, 1, 5, 53, 54, 55, 56]
      exact ⟨k, Nat.lt_succ_self k, _, G, H.toL _ (by kernel_rfl)⟩
     ·have G := hj10; clear hj10
      refine k_block ?_
      refine k_seq ?_
      refine k_seq ?_
      replace G := gd G; obtain ⟨b13, G⟩ := G
      replace G := bnd G; obtain ⟨t14, ht14, G⟩ := G
      obtain ⟨p_t14, c_t14, y_t14⟩ := sl_get h_a0 ht14
      have P15 := ptr_of (en := enSl) (l := L_a0) (rdF_of (H.at (K := rdl anyF 1 p_a0 c_a0 L_a0 enSl) 53 (by kernel_rfl))).2 enSl_len
      replace G := gd G; obtain ⟨b16, G⟩ := G
      replace G := bnd G; obtain ⟨t17, ht17, G⟩ := G
      obtain ⟨p_t17, c_t17, y_t17⟩ := sl_get h_a1 ht17
      have P18 := ptr_of (en := enSl) (l := L_a1) (rdF_of (H.at (K := rdl anyF 1 p_a1 c_a1 L_a1 enSl) 55 (by kernel_rfl))).2 enSl_len
      refine k_rg mixed H (.v 18 (.slice p_a0 L_a0.length c_a0) <|
   .v 19 (vI x7) <|
   .cons [20] (ok_val (fun u12 => .pointer (some ⟨hdB p_a0, hdO p_a0 + x7.toNat * 1, none⟩)) 20 (hv := fun _ _ => ix_pure (t := 27) (k := .i64) (i := x7) (p := p_a0) (n := L_a0.length) (cap := c_a0) (x := a0) P15 (map_len h_a0) b13 (by kernel_rfl))) <|
   .cons [21] (ok_valL [53] (fun u12 => [rdl anyF 1 p_a0 c_a0 L_a0 enSl]) (fun u12 => .slice p_t14 t14.length c_t14) (fun u12 => true) [true] 21 (fun u12 w hg hF => ld_row (en := enSl) (rdF_of hF.1).2 enSl_len y_t14 0 1 [.slice p_t14 t14.length c_t14] rfl (by kernel_rfl))) <|
   .v 22 (vI (t14.length : Int)) <|
   .v 23 (.slice p_a1 L_a1.length c_a1) <|
   .v 24 (vI x7) <|
   .cons [25] (ok_val (fun u12 => .pointer (some ⟨hdB p_a1, hdO p_a1 + x7.toNat * 1, none⟩)) 25 (hv := fun _ _ => ix_pure (t := 27) (k := .i64) (i := x7) (p := p_a1) (n := L_a1.length) (cap := c_a1) (x := a1) P18 (map_len h_a1) b16 (by kernel_rfl))) <|
   .cons [26] (ok_valL [55] (fun u12 => [rdl anyF 1 p_a1 c_a1 L_a1 enSl]) (fun u12 => .slice p_t17 t17.length c_t17) (fun u12 => true) [true] 26 (fun u12 w hg hF => ld_row (en := enSl) (rdF_of hF.1).2 enSl_len y_t17 0 1 [.slice p_t17 t17.length c_t17] rfl (by kernel_rfl))) <|
   .v 27 (vI (t17.length : Int)) <|
   .v 28 (.bool ((t14.length : Int) != (t17.length : Int))) <| .nil) fun u12 a w' H => ?_
      replace H := H.kp [0, 1, 5, 28, 53, 54, 55, 56]
      refine k_cond H (by kernel_rfl) (t := ((t14.length : Int) != (t17.length : Int))) (by kernel_rfl) (fun c41 => ?_) (fun c41 => ?_)
      ·rw [if_pos c41] at G
       refine k_seq ?_
       refine k_rg mixed H (.v 4 (.bool false) <| .nil) fun u19 a w' H => ?_
       replace H := H.kp [4]
       refine k_ret ?_
       obtain rfl := Option.some.inj G
       replace G := Gj10
       obtain rfl := Option.some.inj G
       replace G := Gj4
       obtain rfl := Option.some.inj G
       exact k_done0 H _ (by kernel_rfl) (by kernel_rfl)
      ·rw [if_neg (nt c41)] at G
       refine k_skip ?_
       refine k_seq ?_
       refine k_rg mixed H (.v 6 (vI 0) <| .nil) fun u20 a w' H => ?_
       replace H := H.kp [0, 1, 5, 6, 53, 54, 55, 56]
       refine k_block ?_
       refine k_loopJ (fun m a w' => ∃ x21 : Int, armillaryref04_Same.l22 k0 a0 a1 x7 t14 t17 m x21 = some j10 ∧ Rep w.heap.size w 53 (ofL [(0, sS p_a0 L_a0.length c_a0), (1, sS p_a1 L_a1.length c_a1), (5, sI x7), (6, sI x21), (53, rdl anyF 1 p_a0 c_a0 L_a0 enSl), (54, dnK anyF E_S_TInterval.toPart L_a0), (55, rdl anyF 1 p_a1 c_a1 L_a1 enSl), (56, dnK anyF E_S_TInterval.toPart L_a1)]) a w') k0 ⟨_, G, H.toL _ (by kernel_rfl)⟩ ?_
       clear G H
       rintro (_ | k) a w' ⟨x21, G, H⟩
       ·exact absurd G (by unfold armillaryref04_Same.l22; exact fun h => by cases h)
       ·unfold armillaryref04_Same.l22 at G
        refine k_seq ?_
        refine k_seq ?_
        replace G := gd G; obtain ⟨b24, G⟩ := G
        replace G := bnd G; obtain ⟨t25, ht25, G⟩ := G
        obtain ⟨p_t25, c_t25, y_t25⟩ := sl_get h_a0 ht25
        refine k_rg mixed H (.v 29 (vI x21) <|
   .v 30 (.slice p_a0 L_a0.length c_a0) <|
   .v 31 (vI x7) <|
   .cons [32] (ok_valL [53] (fun u23 => [rdl anyF 1 p_a0 c_a0 L_a0 enSl]) (fun u23 => .pointer (some ⟨hdB p_a0, hdO p_a0 + x7.toNat * 1, none⟩)) (fun u23 => true) [true, true] 32 (fun u23 w hg hF => ix_row (t := 27) (k := .i64) (i := x7) (p := p_a0) (n := L_a0.length) (cap := c_a0) (x := a0) (en := enSl) (rdF_of hF.1).2 enSl_len (map_len h_a0) b24 (by kernel_rfl))) <|
   .cons [33] (ok_valL [53] (fun u23 => [rdl anyF 1 p_a0 c_a0 L_a0 enSl]) (fun u23 => .slice p_t25 t25.length c_t25) (fun u23 => true) [true] 33 (fun u23 w hg hF => ld_row (en := enSl) (rdF_of hF.1).2 enSl_len y_t25 0 1 [.slice p_t25 t25.length c_t25] rfl (by kernel_rfl))) <|
   .v 34 (vI (t25.length : Int)) <|
   .v 35 (.bool (decide (x21 < (t25.length : Int)))) <| .nil) fun u23 a w' H => ?_
        replace H := H.kp [0, 1, 5, 6, 35, 53, 54, 55, 56]
        refine k_cond H (by kernel_rfl) (t := decide (x21 < (t25.length : Int))) (by kernel_rfl) (fun c40 => ?_) (fun c40 => ?_)
        ·rw [if_pos c40] at G
         refine k_skip ?_
         refine k_seq ?_
         refine k_block ?_
         refine k_seq ?_
         replace G := gd G; obtain ⟨b27, G⟩ := G
         replace G := bnd G; obtain ⟨t28, ht28, G⟩ := G
         obtain ⟨p_t28, c_t28, y_t28⟩ := sl_get h_a0 ht28
         have P29 := ptr_of (en := enSl) (l := L_a0) (rdF_of (H.at (K := rdl anyF 1 p_a0 c_a0 L_a0 enSl) 53 (by kernel_rfl))).2 enSl_len
         replace G := gd G; obtain ⟨b30, G⟩ := G
         replace G := bnd G; obtain ⟨t31, ht31, G⟩ := G
         replace G := gd G; obtain ⟨b32, G⟩ := G
         replace G := bnd G; obtain ⟨t33, ht33, G⟩ := G
         obtain ⟨p_t33, c_t33, y_t33⟩ := sl_get h_a1 ht33
         have P34 := ptr_of (en := enSl) (l := L_a1) (rdF_of (H.at (K := rdl anyF 1 p_a1 c_a1 L_a1 enSl) 55 (by kernel_rfl))).2 enSl_len
         replace G := gd G; obtain ⟨b35, G⟩ := G
         replace G := bnd G; obtain ⟨t36, ht36, G⟩ := G
         refine k_rg mixed H (.v 38 (.slice p_a0 L_a0.length c_a0) <|
   .v 39 (vI x7) <|
   .cons [40] (ok_val (fun u26 => .pointer (some ⟨hdB p_a0, hdO p_a0 + x7.toNat * 1, none⟩)) 40 (hv := fun _ _ => ix_pure (t := 27) (k := .i64) (i := x7) (p := p_a0) (n := L_a0.length) (cap := c_a0) (x := a0) P29 (map_len h_a0) b27 (by kernel_rfl))) <|
   .cons [41] (ok_valL [53] (fun u26 => [rdl anyF 1 p_a0 c_a0 L_a0 enSl]) (fun u26 => .slice p_t28 t28.length c_t28) (fun u26 => true) [true] 41 (fun u26 w hg hF => ld_row (en := enSl) (rdF_of hF.1).2 enSl_len y_t28 0 1 [.slice p_t28 t28.length c_t28] rfl (by kernel_rfl))) <|
   .v 42 (vI x21) <|
   .cons [43] (ok_valL [54] (fun u26 => [dnK anyF E_S_TInterval.toPart L_a0]) (fun u26 => .pointer (some ⟨hdB p_t28, hdO p_t28 + x21.toNat * 2, none⟩)) (fun u26 => true) [true, true] 43 (fun u26 w hg hF => ix_row (t := 22) (k := .i64) (i := x21) (p := p_t28) (n := t28.length) (cap := c_t28) (x := t28) (en := en_TInterval) (show RowC _ 2 p_t28 t28.length c_t28 (t28.flatMap en_TInterval) from ((dn_of hF.1) _ (List.mem_of_getElem? y_t28)).1).2 en_TInterval_len rfl b30 (by kernel_rfl))) <|
   .cons [44] (ok_valL [54] (fun u26 => [dnK anyF E_S_TInterval.toPart L_a0]) (fun u26 => .agg #[vI t31.Lo, vI t31.Hi]) (fun u26 => true) [true] 44 (fun u26 w hg hF => ld_row (en := en_TInterval) (show RowC _ 2 p_t28 t28.length c_t28 (t28.flatMap en_TInterval) from ((dn_of hF.1) _ (List.mem_of_getElem? y_t28)).1).2 en_TInterval_len ht31 0 2 [vI t31.Lo, vI t31.Hi] rfl (by kernel_rfl))) <|
   .v 45 (.slice p_a1 L_a1.length c_a1) <|
   .v 46 (vI x7) <|
   .cons [47] (ok_val (fun u26 => .pointer (some ⟨hdB p_a1, hdO p_a1 + x7.toNat * 1, none⟩)) 47 (hv := fun _ _ => ix_pure (t := 27) (k := .i64) (i := x7) (p := p_a1) (n := L_a1.length) (cap := c_a1) (x := a1) P34 (map_len h_a1) b32 (by kernel_rfl))) <|
   .cons [48] (ok_valL [55] (fun u26 => [rdl anyF 1 p_a1 c_a1 L_a1 enSl]) (fun u26 => .slice p_t33 t33.length c_t33) (fun u26 => true) [true] 48 (fun u26 w hg hF => ld_row (en := enSl) (rdF_of hF.1).2 enSl_len y_t33 0 1 [.slice p_t33 t33.length c_t33] rfl (by kernel_rfl))) <|
   .v 49 (vI x21) <|
   .cons [50] (ok_valL [56] (fun u26 => [dnK anyF E_S_TInterval.toPart L_a1]) (fun u26 => .pointer (some ⟨hdB p_t33, hdO p_t33 + x21.toNat * 2, none⟩)) (fun u26 => true) [true, true] 50 (fun u26 w hg hF => ix_row (t := 22) (k := .i64) (i := x21) (p := p_t33) (n := t33.length) (cap := c_t33) (x := t33) (en := en_TInterval) (show RowC _ 2 p_t33 t33.length c_t33 (t33.flatMap en_TInterval) from ((dn_of hF.1) _ (List.mem_of_getElem? y_t33)).1).2 en_TInterval_len rfl b35 (by kernel_rfl))) <|
   .cons [51] (ok_valL [56] (fun u26 => [dnK anyF E_S_TInterval.toPart L_a1]) (fun u26 => .agg #[vI t36.Lo, vI t36.Hi]) (fun u26 => true) [true] 51 (fun u26 w hg hF => ld_row (en := en_TInterval) (show RowC _ 2 p_t33 t33.length c_t33 (t33.flatMap en_TInterval) from ((dn_of hF.1) _ (List.mem_of_getElem? y_t33)).1).2 en_TInterval_len ht36 0 2 [vI t36.Lo, vI t36.Hi] rfl (by kernel_rfl))) <|
   .cons [52] (ok_val (fun u26 => .bool (!((t31.Lo == t36.Lo) && ((t31.Hi == t36.Hi) && true)))) 52 (hv := fun _ _ => run_of (by kernel_rfl) (run_neq_agg (t := 37) (x := (.tmp 44)) (y := (.tmp 51)) (xs := #[vI t31.Lo, vI t31.Hi]) (ys := #[vI t36.Lo, vI t36.Hi]) (b := ((t31.Lo == t36.Lo) && ((t31.Hi == t36.Hi) && true))) (by kernel_rfl) (by kernel_rfl)))) <| .nil) fun u26 a w' H => ?_
         replace H := H.kp [0, 1, 5, 6, 52, 53, 54, 55, 56]
         refine k_cond H (by kernel_rfl) (t := (!((t31.Lo == t36.Lo) && ((t31.Hi == t36.Hi) && true)))) (by kernel_rfl) (fun c39 => ?_) (fun c39 => ?_)
         ·rw [if_pos c39] at G
          refine k_seq ?_
          refine k_rg mixed H (.v 4 (.bool false) <| .nil) fun u37 a w' H => ?_
          replace H := H.kp [4]
          refine k_ret ?_
          obtain rfl := Option.some.inj G
          replace G := Gj10
          obtain rfl := Option.some.inj G
          replace G := Gj4
          obtain rfl := Option.some.inj G
          exact k_done0 H _ (by kernel_rfl) (by kernel_rfl)
         ·rw [if_neg (nt c39)] at G
          refine k_skip ?_
          refine k_rg mixed H (.v 36 (vI x21) <|
   .v 37 (vI (w_i64 (x21 + 1))) <|
   .v 6 (vI (w_i64 (x21 + 1))) <| .nil) fun u38 a w' H => ?_
          replace H := H.kp [0, 1, 5, 6, 53, 54, 55, 56]
          exact ⟨k, Nat.lt_succ_self k, _, G, H.toL _ (by kernel_rfl)⟩
        ·rw [if_neg (nt c40)] at G
         refine k_exit rfl ?_
         obtain rfl := Option.some.inj G
         exact ⟨_, rfl, H.toL _ (by kernel_rfl)⟩
    ·rw [if_neg (nt c42)] at G
     refine k_exit rfl ?_
     obtain rfl := Option.some.inj G
     exact ⟨_, rfl, H.toL _ (by kernel_rfl)⟩
set_option maxHeartbeats 4000000 in
theorem matrix_Transpose_1_m.calls (a0 : Int) (a1 : Int) (q0 : List (List TInterval)) (b_q0 : Nat) (p_q0 : Option Addr) (c_q0 : Nat) (L_q0 : List (Sl TInterval)) (r : TInterval) (w : World) (h_q0 : q0 = L_q0.map Sl.l) (hB : AllH [rdl anyF 1 p_q0 c_q0 L_q0 enSl, dnK anyF E_S_TInterval.toPart L_q0, bxK b_q0 [.slice p_q0 L_q0.length c_q0] 27] w) (G : matrix_Transpose_1_m a0 a1 q0 = some r) :
  Calls Tryd.prog 65 #[vI a0, vI a1, vP b_q0 0] w fun e w' => e = .returned (.agg #[vI r.Lo, vI r.Hi]) ∧ Below w.heap.size w w' := by
 obtain ⟨fr, hfr⟩ : ∃ fr : Nat → Prop, ∀ j, fr j := ⟨fun _ => True, fun _ => trivial⟩
 have hBf : ∀ j, w.heap.size ≤ j → fr j := fun j _ => hfr j
 refine k_enterF (args := [vI a0, vI a1, vP b_q0 0]) 13 [(14, rdl anyF 1 p_q0 c_q0 L_q0 enSl), (15, dnK anyF E_S_TInterval.toPart L_q0), (13, bxK b_q0 [.slice p_q0 L_q0.length c_q0] 27)] (by
  intro x hx
  simp only [List.mem_cons, List.not_mem_nil, or_false] at hx
  rcases hx with rfl | rfl | rfl
  ·exact rdF_fact (rdF_of hB.1) (fun _ _ => trivial) (by decide) _
  ·exact dn_fact (dn_of hB.2.1) (fun _ _ => trivial) _
  ·exact bx_fact (hB.2.2.1 w (agree.refl _ _)) _) Tryd.func65 rfl (by kernel_rfl) (by kernel_rfl) fun a H => ?_
 unfold matrix_Transpose_1_m at G
 refine k_seq ?_
 refine k_rg mixed H (.cons [5, 16] (ok_new (fun b => vP b 0) (fun u1 => [vI 0, vI 0]) 37 5 16) <| .nil) fun u1 a w' H => ?_
 replace H := H.kp [0, 1, 2, 5, 14, 15, 16, 13]
 refine k_seq ?_
 replace G := gd G; obtain ⟨b3, G⟩ := G
 replace G := bnd G; obtain ⟨t4, ht4, G⟩ := G
 obtain ⟨p_t4, c_t4, y_t4⟩ := sl_get h_q0 ht4
 replace G := gd G; obtain ⟨b5, G⟩ := G
 replace G := bnd G; obtain ⟨t6, ht6, G⟩ := G
 refine k_rg mixed H (.cons [6] (ok_ldK (fun u2 => .slice p_q0 L_q0.length c_q0) 6 13 (bxK b_q0 [.slice p_q0 L_q0.length c_q0] 27) b_q0 0 1 [.slice p_q0 L_q0.length c_q0] (fun w h => bx_of h)) <|
   .v 7 (vI a1) <|
   .cons [8] (ok_valL [14] (fun u2 => [rdl anyF 1 p_q0 c_q0 L_q0 enSl]) (fun u2 => .pointer (some ⟨hdB p_q0, hdO p_q0 + a1.toNat * 1, none⟩)) (fun u2 => true) [true, true] 8 (fun u2 w hg hF => ix_row (t := 27) (k := .i64) (i := a1) (p := p_q0) (n := L_q0.length) (cap := c_q0) (x := q0) (en := enSl) (rdF_of hF.1).2 enSl_len (map_len h_q0) b3 (by kernel_rfl))) <|
   .cons [9] (ok_valL [14] (fun u2 => [rdl anyF 1 p_q0 c_q0 L_q0 enSl]) (fun u2 => .slice p_t4 t4.length c_t4) (fun u2 => true) [true] 9 (fun u2 w hg hF => ld_row (en := enSl) (rdF_of hF.1).2 enSl_len y_t4 0 1 [.slice p_t4 t4.length c_t4] rfl (by kernel_rfl))) <|
   .v 10 (vI a0) <|
   .cons [11] (ok_valL [15] (fun u2 => [dnK anyF E_S_TInterval.toPart L_q0]) (fun u2 => .pointer (some ⟨hdB p_t4, hdO p_t4 + a0.toNat * 2, none⟩)) (fun u2 => true) [true, true] 11 (fun u2 w hg hF => ix_row (t := 22) (k := .i64) (i := a0) (p := p_t4) (n := t4.length) (cap := c_t4) (x := t4) (en := en_TInterval) (show RowC _ 2 p_t4 t4.length c_t4 (t4.flatMap en_TInterval) from ((dn_of hF.1) _ (List.mem_of_getElem? y_t4)).1).2 en_TInterval_len rfl b5 (by kernel_rfl))) <|
   .cons [12] (ok_valL [15] (fun u2 => [dnK anyF E_S_TInterval.toPart L_q0]) (fun u2 => .agg #[vI t6.Lo, vI t6.Hi]) (fun u2 => true) [true] 12 (fun u2 w hg hF => ld_row (en := en_TInterval) (show RowC _ 2 p_t4 t4.length c_t4 (t4.flatMap en_TInterval) from ((dn_of hF.1) _ (List.mem_of_getElem? y_t4)).1).2 en_TInterval_len ht6 0 2 [vI t6.Lo, vI t6.Hi] rfl (by kernel_rfl))) <|
   .cons [16] (ok_as (u' := fun u2 => [(16, .blk ((u1 0).n 0) [vI t6.Lo, vI t6.Hi] 37)]) (ok_store 16 0 (fun u2 => ((u1 0).n 0)) (fun u2 => [vI 0, vI 0]) (fun u2 => [vI t6.Lo, vI t6.Hi]) 37) (fun _ => by kernel_rfl)) <| .nil) fun u2 a w' H => ?_
 replace H := H.kp [5, 14, 15, 16, 13]
 refine k_ret ?_
 obtain rfl := Option.some.inj G
 exact k_done1 H _ 16 ((u1 0).n 0) [vI t6.Lo, vI t6.Hi] 37 0 2 (by kernel_rfl) (by kernel_rfl) (by kernel_rfl) (by kernel_rfl)
set_option maxHeartbeats 4000000 in
theorem api_Interval_56_s65.calls (k0 : Nat) (a0 : Int) (a1_0 : List (List TInterval)) (b_a1_0 : Nat) (p_a1_0 : Option Addr) (c_a1_0 : Nat) (L_a1_0 : List (Sl TInterval)) (r : List (List TInterval)) (w : World) (h_a1_0 : a1_0 = L_a1_0.map Sl.l) (hB : AllH [rdl anyF 1 p_a1_0 c_a1_0 L_a1_0 enSl, dnK anyF E_S_TInterval.toPart L_a1_0, bxK b_a1_0 [.slice p_a1_0 L_a1_0.length c_a1_0] 27] w) (G : api_Interval_56_s65 k0 a0 a1_0 = some r) :
  Calls Tryd.prog 56 #[vI a0, .func (.func 65) #[] #[vP b_a1_0 0]] w fun e w' => ∃ g : Gh, e = .returned (.slice (g.o 0) ((g.dl Sl.l gd_S_TInterval 0 r).length) (g.n 0)) ∧ But (fpK []) w w' ∧ OutOK w.heap.size (fpK []) (frI w.heap.size []) [fun _ => nsK 22 37 2 en_TInterval (g.o 0) ((g.dl Sl.l gd_S_TInterval 0 r).length) (g.n 0) (g.dl Sl.l gd_S_TInterval 0 r) (g.dl Sl.l gd_S_TInterval 0 r)] w' := by
 obtain ⟨fr, hfr⟩ : ∃ fr : Nat → Prop, fr = frI w.heap.size [] := ⟨_, rfl⟩
 have hBf : ∀ j, w.heap.size ≤ j → fr j := fun j h => by rw [hfr]; exact .inl h
 refine k_enterF (args := [vI a0, .func (.func 65) #[] #[vP b_a1_0 0]]) 34 [(35, rdl anyF 1 p_a1_0 c_a1_0 L_a1_0 enSl), (36, dnK anyF E_S_TInterval.toPart L_a1_0), (34, bxK b_a1_0 [.slice p_a1_0 L_a1_0.length c_a1_0] 27)] (by
  intro x hx
  simp only [List.mem_cons, List.not_mem_nil, or_false] at hx
  rcases hx with rfl | rfl | rfl
  ·exact rdF_fact (rdF_of hB.1) (fun _ _ => trivial) (by decide) _
  ·exact dn_fact (dn_of hB.2.1) (fun _ _ => trivial) _
  ·exact bx_fact (hB.2.2.1 w (agree.refl _ _)) _) Tryd.func56 rfl (by kernel_rfl) (by kernel_rfl) fun a H => ?_
 unfold api_Interval_56_s65 at G
 refine k_seq ?_
 refine k_rg mixed H (.v 4 (.slice none 0 0) <| .nil) fun u1 a w' H => ?_
 replace H := H.kp [0, 1, 35, 36, 34]
 refine k_seq ?_
 replace G := gd G; obtain ⟨b3, G⟩ := G
 refine k_rg mixed H (.v 8 (vI a0) <|
   .cons [9, 37] (ok_nest0 37 2 en_TInterval (ok_rowL [] (fun u2 => []) 22 1 (List.replicate a0.toNat (⟨none, 0, []⟩ : Sl TInterval)).length ((List.replicate a0.toNat (⟨none, 0, []⟩ : Sl TInterval)).flatMap enSl) 9 37 (fun _ => .none) (fun u2 w hF => run_make_row (t := 27) (k := .i64) (m := a0) (en := enSl) (z := (⟨none, 0, []⟩ : Sl TInterval)) enSl_len inf22 rfl b3 (by kernel_rfl)) (fun _ => .inl rfl)) repl_nil) <|
   .cons [5] (ok_val (fun u2 => .slice ((u2 1).o 0) ((List.replicate a0.toNat (⟨none, 0, []⟩ : Sl TInterval)).length) ((u2 1).n 0)) 5) <| .nil) fun u2 a w' H => ?_
 replace H := H.kp [0, 1, 5, 35, 36, 37, 34]
 refine k_seq ?_
 replace G := bnd G; obtain ⟨j5, hj5, G⟩ := G
 refine k_join (fun a w' => ∃ (p_j4 : Option Addr) (c_j4 np_j4 : Nat) (L_j4 : List (Sl TInterval)), np_j4 = L_j4.length ∧ j5 = L_j4.map Sl.l ∧ Rep w.heap.size w 34 (ofL [(5, sS p_j4 np_j4 c_j4), (35, rdl anyF 1 p_a1_0 c_a1_0 L_a1_0 enSl), (36, dnK anyF E_S_TInterval.toPart L_a1_0), (900020, nsK 22 37 2 en_TInterval p_j4 np_j4 c_j4 L_j4 L_j4), (34, bxK b_a1_0 [.slice p_a1_0 L_a1_0.length c_a1_0] 27)]) a w') ?_ ?_
 ·clear H; rintro a w' ⟨p_j4, c_j4, _, L_j4, rfl, h_j4, H⟩
  refine k_seq ?_
  refine k_rg mixed H (.v 33 (.slice p_j4 L_j4.length c_j4) <|
   .v 4 (.slice p_j4 L_j4.length c_j4) <| .nil) fun u6 a w' H => ?_
  replace H := H.kp [4, 35, 36, 900020, 34]
  refine k_ret ?_
  obtain rfl := Option.some.inj G
  obtain ⟨g, o0, n0, d0⟩ : ∃ g : Gh, g.o 0 = p_j4 ∧ g.n 0 = c_j4 ∧ g.dl Sl.l gd_S_TInterval 0 j5 = L_j4 := ⟨⟨fun i => [c_j4].getD i 0, fun i => [p_j4].getD i none, fun i => ([⟨List (Sl TInterval), L_j4⟩] : List ((T : Type) × T)).getD i ⟨Unit, ()⟩⟩, rfl, rfl, dl_mk rfl h_j4⟩
  refine k_doneZ H (fun g => .slice (g.o 0) ((g.dl Sl.l gd_S_TInterval 0 j5).length) (g.n 0)) g [] [] (fun g => [fun _ => nsK 22 37 2 en_TInterval (g.o 0) ((g.dl Sl.l gd_S_TInterval 0 j5).length) (g.n 0) (g.dl Sl.l gd_S_TInterval 0 j5) (g.dl Sl.l gd_S_TInterval 0 j5)]) fr [900020] [] (.slice p_j4 L_j4.length c_j4) [fun _ => nsK 22 37 2 en_TInterval p_j4 L_j4.length c_j4 L_j4 L_j4] (by simp only [o0, n0, d0]) (by simp only [o0, n0, d0]) hfr (.inl ⟨rfl, rfl⟩) (fams_cons fam_ns fams_nil) (by simp)
 ·clear G; replace G := hj5; clear hj5
  refine k_seq ?_
  refine k_rg mixed H (.v 10 (vI a0) <|
   .v 11 (vI 0) <| .nil) fun u7 a w' H => ?_
  replace H := H.kp [0, 1, 5, 10, 11, 35, 36, 37, 34]
  refine k_block ?_
  replace H := H.move (K := nsK 22 37 2 en_TInterval ((u2 1).o 0) ((List.replicate a0.toNat (⟨none, 0, []⟩ : Sl TInterval)).length) ((u2 1).n 0) (List.replicate a0.toNat (⟨none, 0, []⟩ : Sl TInterval)) (List.replicate a0.toNat (⟨none, 0, []⟩ : Sl TInterval))) 37 900022 (by kernel_rfl) (by intro _ _ h; cases h)
  refine k_loopJ (fun m a w' => ∃ x8 : List (List TInterval), ∃ x9 : Int, api_Interval_56_s65.l10 k0 a0 a1_0 m x8 x9 = some j5 ∧ ∃ (p_x8 : Option Addr) (c_x8 np_x8 : Nat) (L_x8 : List (Sl TInterval)), np_x8 = L_x8.length ∧ x8 = L_x8.map Sl.l ∧ Rep w.heap.size w 34 (ofL [(0, sI a0), (1, .slot true (.func (.func 65) #[] #[vP b_a1_0 0])), (5, sS p_x8 np_x8 c_x8), (10, sI a0), (11, sI x9), (35, rdl anyF 1 p_a1_0 c_a1_0 L_a1_0 enSl), (36, dnK anyF E_S_TInterval.toPart L_a1_0), (900022, nsK 22 37 2 en_TInterval p_x8 np_x8 c_x8 L_x8 L_x8), (34, bxK b_a1_0 [.slice p_a1_0 L_a1_0.length c_a1_0] 27)]) a w') k0 ⟨_, _, G, ((u2 1).o 0), ((u2 1).n 0), (List.replicate a0.toNat (⟨none, 0, []⟩ : Sl TInterval)).length, (List.replicate a0.toNat (⟨none, 0, []⟩ : Sl TInterval)), rfl, (map_repl a0.toNat (⟨none, 0, []⟩ : Sl TInterval)), H.toL _ (by kernel_rfl)⟩ ?_
  clear G H
  rintro (_ | k) a w' ⟨x8, x9, G, p_x8, c_x8, _, L_x8, rfl, h_x8, H⟩
  ·exact absurd G (by unfold api_Interval_56_s65.l10; exact fun h => by cases h)
  ·unfold api_Interval_56_s65.l10 at G
   refine k_seq ?_
   refine k_rg mixed H (.v 12 (.bool (decide (x9 < a0))) <| .nil) fun u11 a w' H => ?_
   replace H := H.kp [0, 1, 5, 10, 11, 12, 35, 36, 900022, 34]
   refine k_seq ?_
   refine k_cond H (by kernel_rfl) (t := decide (x9 < a0)) (by kernel_rfl) (fun c32 => ?_) (fun c32 => ?_)
   ·rw [if_pos c32] at G
    refine k_skip ?_
    refine k_seq ?_
    replace G := bnd G; obtain ⟨j13, hj13, G⟩ := G
    refine k_join (fun a w' => ∃ (p_j12 : Option Addr) (c_j12 np_j12 : Nat) (L_j12 : List (Sl TInterval)), np_j12 = L_j12.length ∧ j13 = L_j12.map Sl.l ∧ Rep w.heap.size w 34 (ofL [(0, sI a0), (1, .slot true (.func (.func 65) #[] #[vP b_a1_0 0])), (5, sS p_j12 np_j12 c_j12), (10, sI a0), (11, sI x9), (35, rdl anyF 1 p_a1_0 c_a1_0 L_a1_0 enSl), (36, dnK anyF E_S_TInterval.toPart L_a1_0), (900024, nsK 22 37 2 en_TInterval p_j12 np_j12 c_j12 L_j12 L_j12), (34, bxK b_a1_0 [.slice p_a1_0 L_a1_0.length c_a1_0] 27)]) a w') ?_ ?_
    ·clear H; rintro a w' ⟨p_j12, c_j12, _, L_j12, rfl, h_j12, H⟩
     refine k_rg mixed H (.v 32 (vI (w_i64 (x9 + 1))) <|
   .v 11 (vI (w_i64 (x9 + 1))) <| .nil) fun u14 a w' H => ?_
     replace H := H.kp [0, 1, 5, 10, 11, 35, 36, 900024, 34]
     replace H := H.move (K := nsK 22 37 2 en_TInterval p_j12 L_j12.length c_j12 L_j12 L_j12) 900024 900022 (by kernel_rfl) (by intro _ _ h; cases h)
     exact ⟨k, Nat.lt_succ_self k, _, _, G, p_j12, c_j12, L_j12.length, L_j12, rfl, h_j12, H.toL _ (by kernel_rfl)⟩
    ·clear G; replace G := hj13; clear hj13
     refine k_block ?_
     refine k_seq ?_
     refine k_rg mixed H (.v 13 (vI x9) <|
   .v 6 (vI x9) <| .nil) fun u15 a w' H => ?_
     replace H := H.kp [0, 1, 5, 6, 10, 11, 35, 36, 900022, 34]
     refine k_seq ?_
     refine k_rg mixed H (.v 14 (vI a0) <|
   .v 15 (vI 0) <| .nil) fun u16 a w' H => ?_
     replace H := H.kp [0, 1, 5, 6, 10, 11, 14, 15, 35, 36, 900022, 34]
     refine k_block ?_
     replace H := H.move (K := nsK 22 37 2 en_TInterval p_x8 L_x8.length c_x8 L_x8 L_x8) 900022 900026 (by kernel_rfl) (by intro _ _ h; cases h)
     refine k_loopJ (fun m a w' => ∃ x17 : List (List TInterval), ∃ x18 : Int, api_Interval_56_s65.l19 k0 a0 a1_0 x8 x9 m x17 x18 = some j13 ∧ ∃ (p_x17 : Option Addr) (c_x17 np_x17 : Nat) (L_x17 : List (Sl TInterval)), np_x17 = L_x17.length ∧ x17 = L_x17.map Sl.l ∧ Rep w.heap.size w 34 (ofL [(0, sI a0), (1, .slot true (.func (.func 65) #[] #[vP b_a1_0 0])), (5, sS p_x17 np_x17 c_x17), (6, sI x9), (10, sI a0), (11, sI x9), (14, sI a0), (15, sI x18), (35, rdl anyF 1 p_a1_0 c_a1_0 L_a1_0 enSl), (36, dnK anyF E_S_TInterval.toPart L_a1_0), (900026, nsK 22 37 2 en_TInterval p_x17 np_x17 c_x17 L_x17 L_x17), (34, bxK b_a1_0 [.slice p_a1_0 L_a1_0.length c_a1_0] 27)]) a w') k0 ⟨_, _, G, p_x8, c_x8, L_x8.length, L_x8, rfl, h_x8, H.toL _ (by kernel_rfl)⟩ ?_
     clear G H
     rintro (_ | k) a w' ⟨x17, x18, G, p_x17, c_x17, _, L_x17, rfl, h_x17, H⟩
     ·exact absurd G (by unfold api_Interval_56_s65.l19; exact fun h => by cases h)
     ·unfold api_Interval_56_s65.l19 at G
      refine k_seq ?_
      refine k_rg mixed H (.v 16 (.bool (decide (x18 < a0))) <| .nil) fun u20 a w' H => ?_
      replace H := H.kp [0, 1, 5, 6, 10, 11, 14, 15, 16, 35, 36, 900026, 34]
      refine k_seq ?_
      refine k_cond H (by kernel_rfl) (t := decide (x18 < a0)) (by kernel_rfl) (fun c31 => ?_) (fun c31 => ?_)
      ·rw [if_pos c31] at G
       refine k_skip ?_
       refine k_seq ?_
       refine k_block ?_
       refine k_seq ?_
       refine k_rg mixed H (.v 17 (vI x18) <|
   .v 7 (vI x18) <| .nil) fun u21 a w' H => ?_
       replace H := H.kp [0, 1, 5, 6, 7, 10, 11, 14, 15, 35, 36, 900026, 34]
       replace G := gd G; obtain ⟨b23, G⟩ := G
       replace G := bnd G; obtain ⟨t24, ht24, G⟩ := G
       obtain ⟨p_t24, c_t24, y_t24⟩ := sl_get h_x17 ht24
       have P25 := ptr_of (en := enSl) (l := L_x17) (ns_of (H.at (K := nsK 22 37 2 en_TInterval p_x17 L_x17.length c_x17 L_x17 L_x17) 900026 (by kernel_rfl))).row.2 enSl_len
       replace G := bnd G; obtain ⟨t26, ht26, G⟩ := G
       replace G := gd G; obtain ⟨b27, G⟩ := G
       replace G := gd G; obtain ⟨b28, G⟩ := G
       replace G := bnd G; obtain ⟨t29, ht29, G⟩ := G
       obtain ⟨p_t29, c_t29, y_t29⟩ := sl_get h_x17 ht29
       refine k_rg mixed H (.v 18 (.slice p_x17 L_x17.length c_x17) <|
   .v 19 (vI x9) <|
   .v 20 (.slice p_x17 L_x17.length c_x17) <|
   .v 21 (vI x9) <|
   .cons [22] (ok_val (fun u22 => .pointer (some ⟨hdB p_x17, hdO p_x17 + x9.toNat * 1, none⟩)) 22 (hv := fun _ _ => ix_pure (t := 27) (k := .i64) (i := x9) (p := p_x17) (n := L_x17.length) (cap := c_x17) (x := x17) P25 (map_len h_x17) b23 (by kernel_rfl))) <|
   .cons [23] (ok_valL [900026] (fun u22 => [nsK 22 37 2 en_TInterval p_x17 L_x17.length c_x17 L_x17 L_x17]) (fun u22 => .slice p_t24 t24.length c_t24) (fun u22 => true) [true] 23 (fun u22 w hg hF => ld_row (en := enSl) (ns_of hF.1).row.2 enSl_len y_t24 0 1 [.slice p_t24 t24.length c_t24] rfl (by kernel_rfl))) <|
   .v 24 (.func (.func 65) #[] #[vP b_a1_0 0]) <|
   .v 25 (vI x9) <|
   .v 26 (vI x18) <|
   .cons [27] (ok_callL [35, 36, 34] (fun u22 => [rdl anyF 1 p_a1_0 c_a1_0 L_a1_0 enSl, dnK anyF E_S_TInterval.toPart L_a1_0, bxK b_a1_0 [.slice p_a1_0 L_a1_0.length c_a1_0] 27]) 65 (fun u22 => #[vI x9, vI x18, vP b_a1_0 0]) (.agg #[vI t26.Lo, vI t26.Hi]) 27 (fun u22 w hF => matrix_Transpose_1_m.calls x9 x18 a1_0 b_a1_0 p_a1_0 c_a1_0 L_a1_0 t26 w h_a1_0 ⟨(rdA (rdF_of hF.1)), (dnA (dn_of hF.2.1)), (bx_fact (hF.2.2.1 w (agree.refl _ _)) 0).2.1, trivial⟩ ht26)) <|
   .cons [28, 40] (ok_new (fun b => .slice (some ⟨b, 0, none⟩) 1 1) (fun u22 => [vI t26.Lo, vI t26.Hi]) 37 28 40) <|
   .cons [29, 900026, 900026] (ok_own1 [10] [40] (fun u22 => [.blk ((u22 10).n 0) [vI t26.Lo, vI t26.Hi] 37]) 900026 (fun u22 => nsK 22 37 2 en_TInterval p_x17 L_x17.length c_x17 L_x17 L_x17) (some 29) (fun u22 g => .slice (g.o 0) (t24 ++ [t26]).length (g.n 0)) (fun u22 g => nsK 22 37 2 en_TInterval p_x17 L_x17.length c_x17 L_x17 (L_x17.set x9.toNat (⟨(g.o 0), (g.n 0), (t24 ++ [t26])⟩ : Sl TInterval))) (fun u22 w hF hK => tn_app hK y_t24 (l' := (t24 ++ [t26])) (fun h => run_app_rowN (t := 22) (ty := 22) (en := en_TInterval) en_TInterval_len inf37 h hF.1 (news := [t26]) rfl (by simp) (by kernel_rfl) b27)) (hloc := fun u u' h => ⟨by first | rfl | simp only [h 10 (by decide)], by first | rfl | simp only [h 10 (by decide)], by first | rfl | simp only [h 10 (by decide)], by first | rfl | simp only [h 10 (by decide)]⟩)) <|
   .cons [30] (ok_val (fun u22 => .pointer (some ⟨hdB p_x17, hdO p_x17 + x9.toNat * 1, none⟩)) 30 (hv := fun _ _ => ix_pure (t := 27) (k := .i64) (i := x9) (p := p_x17) (n := L_x17.length) (cap := c_x17) (x := x17) P25 (map_len h_x17) b28 (by kernel_rfl))) <|
   .cons [900026, 900026] (ok_own1 [11] [] (fun u22 => []) 900026 (fun u22 => nsK 22 37 2 en_TInterval p_x17 L_x17.length c_x17 L_x17 (L_x17.set x9.toNat (⟨((u22 11).o 0), ((u22 11).n 0), (t24 ++ [t26])⟩ : Sl TInterval))) none (fun u22 g => .nilFunc) (fun u22 g => nsK 22 37 2 en_TInterval p_x17 L_x17.length c_x17 (L_x17.set x9.toNat (⟨((u22 11).o 0), ((u22 11).n 0), (t24 ++ [t26])⟩ : Sl TInterval)) (L_x17.set x9.toNat (⟨((u22 11).o 0), ((u22 11).n 0), (t24 ++ [t26])⟩ : Sl TInterval))) (fun u22 w hF hK => tn_hd hK (fun h => el_storeN (en := enSl) h enSl_len (y := (⟨((u22 11).o 0), ((u22 11).n 0), (t24 ++ [t26])⟩ : Sl TInterval)) (vs := [.slice ((u22 11).o 0) ((t24 ++ [t26]).length) ((u22 11).n 0)]) y_t29 0 (by simp) (by simp) rfl (by kernel_rfl))) (hloc := fun u u' h => ⟨by first | rfl | simp only [h 11 (by decide)], by first | rfl | simp only [h 11 (by decide)], by first | rfl | simp only [h 11 (by decide)], by first | rfl | simp only [h 11 (by decide)]⟩)) <| .nil) fun u22 a w' H => ?_
       replace H := H.kp [0, 1, 5, 6, 10, 11, 14, 15, 35, 36, 900026, 34]
       refine k_rg mixed H (.v 31 (vI (w_i64 (x18 + 1))) <|
   .v 15 (vI (w_i64 (x18 + 1))) <| .nil) fun u30 a w' H => ?_
       replace H := H.kp [0, 1, 5, 6, 10, 11, 14, 15, 35, 36, 900026, 34]
       exact ⟨k, Nat.lt_succ_self k, _, _, G, p_x17, c_x17, L_x17.length, (L_x17.set x9.toNat (⟨((u22 11).o 0), ((u22 11).n 0), (t24 ++ [t26])⟩ : Sl TInterval)), by simp, (map_set h_x17 x9.toNat (⟨((u22 11).o 0), ((u22 11).n 0), (t24 ++ [t26])⟩ : Sl TInterval)), H.toL _ (by kernel_rfl)⟩
      ·rw [if_neg (nt c31)] at G
       refine k_exit rfl ?_
       obtain rfl := Option.some.inj G
       replace H := H.move (K := nsK 22 37 2 en_TInterval p_x17 L_x17.length c_x17 L_x17 L_x17) 900026 900024 (by kernel_rfl) (by intro _ _ h; cases h)
       exact ⟨p_x17, c_x17, L_x17.length, L_x17, rfl, h_x17, H.toL _ (by kernel_rfl)⟩
   ·rw [if_neg (nt c32)] at G
    refine k_exit rfl ?_
    obtain rfl := Option.some.inj G
    replace H := H.move (K := nsK 22 37 2 en_TInterval p_x8 L_x8.length c_x8 L_x8 L_x8) 900022 900020 (by kernel_rfl) (by intro _ _ h; cases h)
    exact ⟨p_x8, c_x8, L_x8.length, L_x8, rfl, h_x8, H.toL _ (by kernel_rfl)⟩
set_option maxHeartbeats 4000000 in
theorem matrix_Transpose.calls (k0 : Nat) (a0 : List (List TInterval)) (p_a0 : Option Addr) (c_a0 : Nat) (L_a0 : List (Sl TInterval)) (r : List (List TInterval)) (w : World) (h_a0 : a0 = L_a0.map Sl.l) (hB : AllH [rdl anyF 1 p_a0 c_a0 L_a0 enSl, dnK anyF E_S_TInterval.toPart L_a0] w) (G : matrix_Transpose k0 a0 = some r) :
  Calls Tryd.prog 27 #[.slice p_a0 L_a0.length c_a0] w fun e w' => ∃ g : Gh, e = .returned (.slice (g.o 0) ((g.dl Sl.l gd_S_TInterval 0 r).length) (g.n 0)) ∧ But (fpK []) w w' ∧ OutOK w.heap.size (fpK []) (frI w.heap.size []) [fun _ => nsK 22 37 2 en_TInterval (g.o 0) ((g.dl Sl.l gd_S_TInterval 0 r).length) (g.n 0) (g.dl Sl.l gd_S_TInterval 0 r) (g.dl Sl.l gd_S_TInterval 0 r)] w' := by
 obtain ⟨fr, hfr⟩ : ∃ fr : Nat → Prop, fr = frI w.heap.size [] := ⟨_, rfl⟩
 have hBf : ∀ j, w.heap.size ≤ j → fr j := fun j h => by rw [hfr]; exact .inl h
 refine k_enterF (args := [.slice p_a0 L_a0.length c_a0]) 7 [(7, rdl anyF 1 p_a0 c_a0 L_a0 enSl), (8, dnK anyF E_S_TInterval.toPart L_a0)] (by
  intro x hx
  simp only [List.mem_cons, List.not_mem_nil, or_false] at hx
  rcases hx with rfl | rfl
  ·exact rdF_fact (rdF_of hB.1) (fun _ _ => trivial) (by decide) _
  ·exact dn_fact (dn_of hB.2.1) (fun _ _ => trivial) _) Tryd.func27 rfl (by kernel_rfl) (by kernel_rfl) fun a H => ?_
 unfold matrix_Transpose at G
 refine k_seq ?_
 refine k_rg mixed H (.cons [1, 9] (ok_new (fun b => vP b 0) (fun u1 => [.slice p_a0 L_a0.length c_a0]) 27 1 9) <|
   .v 2 (.slice none 0 0) <| .nil) fun u1 a w' H => ?_
 replace H := H.kp [1, 7, 8, 9]
 refine k_seq ?_
 replace G := bnd G; obtain ⟨t3, ht3, G⟩ := G
 refine k_rg mixed H (.cons [3] (ok_ld (fun u2 => .slice p_a0 L_a0.length c_a0) 3 9 0 1 (fun u2 => ((u1 0).n 0)) (fun u2 => [.slice p_a0 L_a0.length c_a0]) 27) <|
   .cons [4] (ok_valL [7] (fun u2 => [rdl anyF 1 p_a0 c_a0 L_a0 enSl]) (fun u2 => vI (a0.length : Int)) (fun u2 => true) [true] 4 (fun u2 w hg hF => run_lenN (((rdF_of hF.1).2.len enSl_len (by decide)).trans (map_len h_a0).symm) (by kernel_rfl))) <|
   .v 5 (.func (.func 65) #[] #[vP ((u1 0).n 0) 0]) <|
   .cons [6, 10] (ok_callY false fr [] [7, 8, 9] (fun u2 => [rdl anyF 1 p_a0 c_a0 L_a0 enSl, dnK anyF E_S_TInterval.toPart L_a0, .blk ((u1 0).n 0) [.slice p_a0 L_a0.length c_a0] 27]) [] (fun u2 => []) 56 (fun u2 => #[vI (a0.length : Int), .func (.func 65) #[] #[vP ((u1 0).n 0) 0]]) (fun u2 => [rdl anyF 1 p_a0 c_a0 L_a0 enSl, dnK anyF E_S_TInterval.toPart L_a0, bxK ((u1 0).n 0) [.slice p_a0 L_a0.length c_a0] 27]) (fun u2 => []) (fun u2 g => .slice (g.o 0) ((g.dl Sl.l gd_S_TInterval 0 t3).length) (g.n 0)) (fun u2 g => [fun _ => nsK 22 37 2 en_TInterval (g.o 0) ((g.dl Sl.l gd_S_TInterval 0 t3).length) (g.n 0) (g.dl Sl.l gd_S_TInterval 0 t3) (g.dl Sl.l gd_S_TInterval 0 t3)]) [10] 6 (fun u2 w hB hF hM => api_Interval_56_s65.calls k0 (a0.length : Int) a0 ((u1 0).n 0) p_a0 c_a0 L_a0 t3 w h_a0 hB ht3) (fun u2 w hF => ⟨⟨sub_rd0 (rdF_of hF.1) (fun j h => ⟨_, (.head _), h⟩), sub_dn0 (dn_of hF.2.1) (fun j h => ⟨_, (.tail _ (.head _)), h⟩), sub_bx hF.2.2.1 (.tail _ (.tail _ (.head _))) rfl, trivial⟩, trivial⟩) (fun u2 g => (fams_cons fam_ns fams_nil)) (.inr (fun u2 g => (famx_cons trivial (fun K h => by cases h)))) (fun h => by cases h)) <|
   .cons [2] (ok_val (fun u2 => .slice ((u2 3).o 0) (((u2 3).dl Sl.l gd_S_TInterval 0 t3).length) ((u2 3).n 0)) 2) <| .nil) fun u2 a w' H => ?_
 replace H := H.kp [2, 10]
 refine k_ret ?_
 obtain rfl := Option.some.inj G
 obtain ⟨g, o0, n0, d0⟩ : ∃ g : Gh, g.o 0 = ((u2 3).o 0) ∧ g.n 0 = ((u2 3).n 0) ∧ g.dl Sl.l gd_S_TInterval 0 t3 = ((u2 3).dl Sl.l gd_S_TInterval 0 t3) := ⟨⟨fun i => [((u2 3).n 0)].getD i 0, fun i => [((u2 3).o 0)].getD i none, fun i => ([⟨List (Sl TInterval), ((u2 3).dl Sl.l gd_S_TInterval 0 t3)⟩] : List ((T : Type) × T)).getD i ⟨Unit, ()⟩⟩, rfl, rfl, dl_mk rfl (dl_er ergd_S_TInterval (u2 3) 0 t3)⟩
 refine k_doneZ H (fun g => .slice (g.o 0) ((g.dl Sl.l gd_S_TInterval 0 t3).length) (g.n 0)) g [] [] (fun g => [fun _ => nsK 22 37 2 en_TInterval (g.o 0) ((g.dl Sl.l gd_S_TInterval 0 t3).length) (g.n 0) (g.dl Sl.l gd_S_TInterval 0 t3) (g.dl Sl.l gd_S_TInterval 0 t3)]) fr [10] [] (.slice ((u2 3).o 0) (((u2 3).dl Sl.l gd_S_TInterval 0 t3).length) ((u2 3).n 0)) [fun _ => nsK 22 37 2 en_TInterval ((u2 3).o 0) (((u2 3).dl Sl.l gd_S_TInterval 0 t3).length) ((u2 3).n 0) ((u2 3).dl Sl.l gd_S_TInterval 0 t3) ((u2 3).dl Sl.l gd_S_TInterval 0 t3)] (by simp only [o0, n0, d0]) (by simp only [o0, n0, d0]) hfr (.inl ⟨rfl, rfl⟩) (fams_cons fam_ns fams_nil) (by simp)
set_option maxHeartbeats 4000000 in
theorem armillaryref03_Same.calls (k0 : Nat) (a0 : List TInterval) (a1 : List TInterval) (p_a0 : Option Addr) (c_a0 : Nat) (p_a1 : Option Addr) (c_a1 : Nat) (r : Bool) (w : World) (hB : AllH [rdl anyF 2 p_a0 c_a0 a0 en_TInterval, rdl anyF 2 p_a1 c_a1 a1 en_TInterval] w) (G : armillaryref03_Same k0 a0 a1 = some r) :
  Calls Tryd.prog 28 #[.slice p_a0 a0.length c_a0, .slice p_a1 a1.length c_a1] w fun e w' => e = .returned (.bool r) ∧ Below w.heap.size w w' := by
 obtain ⟨fr, hfr⟩ : ∃ fr : Nat → Prop, ∀ j, fr j := ⟨fun _ => True, fun _ => trivial⟩
 have hBf : ∀ j, w.heap.size ≤ j → fr j := fun j _ => hfr j
 refine k_enterF (args := [.slice p_a0 a0.length c_a0, .slice p_a1 a1.length c_a1]) 26 [(26, rdl anyF 2 p_a0 c_a0 a0 en_TInterval), (27, rdl anyF 2 p_a1 c_a1 a1 en_TInterval)] (by
  intro x hx
  simp only [List.mem_cons, List.not_mem_nil, or_false] at hx
  rcases hx with rfl | rfl
  ·exact rdF_fact (rdF_of hB.1) (fun _ _ => trivial) (by decide) _
  ·exact rdF_fact (rdF_of hB.2.1) (fun _ _ => trivial) (by decide) _) Tryd.func28 rfl (by kernel_rfl) (by kernel_rfl) fun a H => ?_
 unfold armillaryref03_Same at G
 refine k_seq ?_
 refine k_rg mixed H (.v 4 (.bool false) <| .nil) fun u1 a w' H => ?_
 replace H := H.kp [0, 1, 26, 27]
 refine k_seq ?_
 refine k_seq ?_
 refine k_rg mixed H (.v 6 (.slice p_a0 a0.length c_a0) <|
   .v 7 (vI (a0.length : Int)) <|
   .v 8 (.slice p_a1 a1.length c_a1) <|
   .v 9 (vI (a1.length : Int)) <|
   .v 10 (.bool ((a0.length : Int) != (a1.length : Int))) <| .nil) fun u2 a w' H => ?_
 replace H := H.kp [0, 1, 10, 26, 27]
 refine k_cond H (by kernel_rfl) (t := ((a0.length : Int) != (a1.length : Int))) (by kernel_rfl) (fun c21 => ?_) (fun c21 => ?_)
 ·rw [if_pos c21] at G
  refine k_seq ?_
  refine k_rg mixed H (.v 4 (.bool false) <| .nil) fun u3 a w' H => ?_
  replace H := H.kp [4]
  refine k_ret ?_
  obtain rfl := Option.some.inj G
  exact k_done0 H _ (by kernel_rfl) (by kernel_rfl)
 ·rw [if_neg (nt c21)] at G
  refine k_skip ?_
  refine k_seq ?_
  replace G := bnd G; obtain ⟨j4, hj4, Gj4⟩ := G
  refine k_join (fun a w' => ∃ j4v, j4 = Sum.inr j4v ∧ Rep w.heap.size w 26 (ofL []) a w') ?_ ?_
  ·clear H; rintro a w' ⟨j4v, rfl, H⟩; have G := Gj4; clear Gj4; dsimp only at G
   refine k_seq ?_
   refine k_rg mixed H (.v 4 (.bool true) <| .nil) fun u5 a w' H => ?_
   replace H := H.kp [4]
   refine k_ret ?_
   obtain rfl := Option.some.inj G
   exact k_done0 H _ (by kernel_rfl) (by kernel_rfl)
  ·have G := hj4; clear hj4
   refine k_seq ?_
   refine k_rg mixed H (.v 5 (vI 0) <| .nil) fun u6 a w' H => ?_
   replace H := H.kp [0, 1, 5, 26, 27]
   refine k_block ?_
   refine k_loopJ (fun m a w' => ∃ x7 : Int, armillaryref03_Same.l8 k0 a0 a1 m x7 = some j4 ∧ Rep w.heap.size w 26 (ofL [(0, sS p_a0 a0.length c_a0), (1, sS p_a1 a1.length c_a1), (5, sI x7), (26, rdl anyF 2 p_a0 c_a0 a0 en_TInterval), (27, rdl anyF 2 p_a1 c_a1 a1 en_TInterval)]) a w') k0 ⟨_, G, H.toL _ (by kernel_rfl)⟩ ?_
   clear G H
   rintro (_ | k) a w' ⟨x7, G, H⟩
   ·exact absurd G (by unfold armillaryref03_Same.l8; exact fun h => by cases h)
   ·unfold armillaryref03_Same.l8 at G
    refine k_seq ?_
    refine k_seq ?_
    refine k_rg mixed H (.v 11 (vI x7) <|
   .v 12 (.slice p_a0 a0.length c_a0) <|
   .v 13 (vI (a0.length : Int)) <|
   .v 14 (.bool (decide (x7 < (a0.length : Int)))) <| .nil) fun u9 a w' H => ?_
    replace H := H.kp [0, 1, 5, 14, 26, 27]
    refine k_cond H (by kernel_rfl) (t := decide (x7 < (a0.length : Int))) (by kernel_rfl) (fun c20 => ?_) (fun c20 => ?_)
    ·rw [if_pos c20] at G
     refine k_skip ?_
     refine k_seq ?_
     refine k_block ?_
     refine k_seq ?_
     replace G := gd G; obtain ⟨b11, G⟩ := G
     replace G := bnd G; obtain ⟨t12, ht12, G⟩ := G
     have P13 := ptr_of (en := en_TInterval) (l := a0) (rdF_of (H.at (K := rdl anyF 2 p_a0 c_a0 a0 en_TInterval) 26 (by kernel_rfl))).2 en_TInterval_len
     replace G := gd G; obtain ⟨b14, G⟩ := G
     replace G := bnd G; obtain ⟨t15, ht15, G⟩ := G
     have P16 := ptr_of (en := en_TInterval) (l := a1) (rdF_of (H.at (K := rdl anyF 2 p_a1 c_a1 a1 en_TInterval) 27 (by kernel_rfl))).2 en_TInterval_len
     refine k_rg mixed H (.v 17 (.slice p_a0 a0.length c_a0) <|
   .v 18 (vI x7) <|
   .cons [19] (ok_val (fun u10 => .pointer (some ⟨hdB p_a0, hdO p_a0 + x7.toNat * 2, none⟩)) 19 (hv := fun _ _ => ix_pure (t := 22) (k := .i64) (i := x7) (p := p_a0) (n := a0.length) (cap := c_a0) (x := a0) P13 rfl b11 (by kernel_rfl))) <|
   .cons [20] (ok_valL [26] (fun u10 => [rdl anyF 2 p_a0 c_a0 a0 en_TInterval]) (fun u10 => .agg #[vI t12.Lo, vI t12.Hi]) (fun u10 => true) [true] 20 (fun u10 w hg hF => ld_row (en := en_TInterval) (rdF_of hF.1).2 en_TInterval_len ht12 0 2 [vI t12.Lo, vI t12.Hi] rfl (by kernel_rfl))) <|
   .v 21 (.slice p_a1 a1.length c_a1) <|
   .v 22 (vI x7) <|
   .cons [23] (ok_val (fun u10 => .pointer (some ⟨hdB p_a1, hdO p_a1 + x7.toNat * 2, none⟩)) 23 (hv := fun _ _ => ix_pure (t := 22) (k := .i64) (i := x7) (p := p_a1) (n := a1.length) (cap := c_a1) (x := a1) P16 rfl b14 (by kernel_rfl))) <|
   .cons [24] (ok_valL [27] (fun u10 => [rdl anyF 2 p_a1 c_a1 a1 en_TInterval]) (fun u10 => .agg #[vI t15.Lo, vI t15.Hi]) (fun u10 => true) [true] 24 (fun u10 w hg hF => ld_row (en := en_TInterval) (rdF_of hF.1).2 en_TInterval_len ht15 0 2 [vI t15.Lo, vI t15.Hi] rfl (by kernel_rfl))) <|
   .cons [25] (ok_val (fun u10 => .bool (!((t12.Lo == t15.Lo) && ((t12.Hi == t15.Hi) && true)))) 25 (hv := fun _ _ => run_of (by kernel_rfl) (run_neq_agg (t := 37) (x := (.tmp 20)) (y := (.tmp 24)) (xs := #[vI t12.Lo, vI t12.Hi]) (ys := #[vI t15.Lo, vI t15.Hi]) (b := ((t12.Lo == t15.Lo) && ((t12.Hi == t15.Hi) && true))) (by kernel_rfl) (by kernel_rfl)))) <| .nil) fun u10 a w' H => ?_
     replace H := H.kp [0, 1, 5, 25, 26, 27]
     refine k_cond H (by kernel_rfl) (t := (!((t12.Lo == t15.Lo) && ((t12.Hi == t15.Hi) && true)))) (by kernel_rfl) (fun c19 => ?_) (fun c19 => ?_)
     ·rw [if_pos c19] at G
      refine k_seq ?_
      refine k_rg mixed H (.v 4 (.bool false) <| .nil) fun u17 a w' H => ?_
      replace H := H.kp [4]
      refine k_ret ?_
      obtain rfl := Option.some.inj G
      replace G := Gj4
      obtain rfl := Option.some.inj G
      exact k_done0 H _ (by kernel_rfl) (by kernel_rfl)
     ·rw [if_neg (nt c19)] at G
      refine k_skip ?_
      refine k_rg mixed H (.v 15 (vI x7) <|
   .v 16 (vI (w_i64 (x7 + 1))) <|
   .v 5 (vI (w_i64 (x7 + 1))) <| .nil) fun u18 a w' H => ?_
      replace H := H.kp [0, 1, 5, 26, 27]
      exact ⟨k, Nat.lt_succ_self k, _, G, H.toL _ (by kernel_rfl)⟩
    ·rw [if_neg (nt c20)] at G
     refine k_exit rfl ?_
     obtain rfl := Option.some.inj G
     exact ⟨_, rfl, H.toL _ (by kernel_rfl)⟩
set_option maxHeartbeats 4000000 in
theorem matrix_vector_110_m.calls (a1 : Int) (r : List TA6_Int) (w : World) (G : matrix_vector_110_m a1 = some r) :
  Calls Tryd.prog 110 #[.slice none 0 0, vI a1] w fun e w' => ∃ g : Gh, e = .returned (.slice (g.o 0) r.length (g.n 0)) ∧ But (fpK []) w w' ∧ OutOK w.heap.size (fpK []) (frI w.heap.size []) [fun _ => owK 81 6 (g.o 0) r.length (g.n 0) (r.flatMap en_TA6_Int)] w' := by
 obtain ⟨fr, hfr⟩ : ∃ fr : Nat → Prop, fr = frI w.heap.size [] := ⟨_, rfl⟩
 have hBf : ∀ j, w.heap.size ≤ j → fr j := fun j h => by rw [hfr]; exact .inl h
 refine k_enter (args := [.slice none 0 0, vI a1]) 27 Tryd.func110 rfl (by kernel_rfl) (by kernel_rfl) fun a H => ?_
 unfold matrix_vector_110_m at G
 refine k_seq ?_
 refine k_rg mixed H (.v 4 (.slice none 0 0) <| .nil) fun u1 a w' H => ?_
 replace H := H.kp [0, 1]
 refine k_seq ?_
 refine k_seq ?_
 refine k_rg mixed H (.v 5 (vI a1) <|
   .v 6 (.bool (decide (a1 < 0))) <| .nil) fun u2 a w' H => ?_
 replace H := H.kp [0, 1, 6]
 refine k_cond H (by kernel_rfl) (t := decide (a1 < 0)) (by kernel_rfl) (fun c10 => ?_) (fun c10 => ?_)
 ·rw [if_pos c10] at G
  cases G
 ·rw [if_neg (nt c10)] at G
  refine k_skip ?_
  refine k_seq ?_
  refine k_seq ?_
  refine k_rg mixed H (.v 8 (vI a1) <|
   .v 9 (.slice none 0 0) <|
   .v 10 (vI 0) <|
   .v 11 (.slice none 0 0) <|
   .v 12 (vI 0) <|
   .v 13 (vI (w_i64 (0 - 0))) <|
   .v 14 (vI (w_i64 (a1 - (w_i64 (0 - 0))))) <|
   .v 1 (vI (w_i64 (a1 - (w_i64 (0 - 0))))) <| .nil) fun u3 a w' H => ?_
  replace H := H.kp [0, 1]
  refine k_seq ?_
  refine k_rg mixed H (.v 15 (vI (w_i64 (a1 - (w_i64 (0 - 0))))) <|
   .v 16 (.bool (decide ((w_i64 (a1 - (w_i64 (0 - 0)))) > 0))) <| .nil) fun u4 a w' H => ?_
  replace H := H.kp [0, 1, 16]
  refine k_cond H (by kernel_rfl) (t := decide ((w_i64 (a1 - (w_i64 (0 - 0)))) > 0)) (by kernel_rfl) (fun c9 => ?_) (fun c9 => ?_)
  ·rw [if_pos c9] at G
   replace G := gd G; obtain ⟨b6, G⟩ := G
   refine k_rg mixed H (.v 17 (.slice none 0 0) <|
   .v 18 (.slice none 0 0) <|
   .v 19 (vI 0) <|
   .v 20 (.slice none 0 0) <|
   .v 21 (vI (w_i64 (a1 - (w_i64 (0 - 0))))) <|
   .cons [22, 27] (ok_rowL [] (fun u5 => []) 81 6 (List.replicate (w_i64 (a1 - (w_i64 (0 - 0)))).toNat (⟨0, 0, 0, 0, 0, 0⟩ : TA6_Int)).length ((List.replicate (w_i64 (a1 - (w_i64 (0 - 0)))).toNat (⟨0, 0, 0, 0, 0, 0⟩ : TA6_Int)).flatMap en_TA6_Int) 22 27 (fun _ => .none) (fun u5 w hF => run_app_zeros (t := 79) (tn := 3) (ty := 79) (kn := .i64) (k := .i64) (m := w_i64 (a1 - (w_i64 (0 - 0)))) (en := en_TA6_Int) (z := (⟨0, 0, 0, 0, 0, 0⟩ : TA6_Int)) en_TA6_Int_len inf81 rfl b6 (by kernel_rfl)) (fun _ => .inl rfl)) <|
   .v 23 (.slice none 0 0) <|
   .v 24 (vI 0) <|
   .cons [25, 27] (ok_rowL [27] (fun u5 => [owK 81 6 ((u5 5).o 0) ((List.replicate (w_i64 (a1 - (w_i64 (0 - 0)))).toNat (⟨0, 0, 0, 0, 0, 0⟩ : TA6_Int)).length) ((u5 5).n 0) ((List.replicate (w_i64 (a1 - (w_i64 (0 - 0)))).toNat (⟨0, 0, 0, 0, 0, 0⟩ : TA6_Int)).flatMap en_TA6_Int)]) 81 6 ([] : List TA6_Int).length (([] : List TA6_Int).flatMap en_TA6_Int) 25 27 (fun u5 => owK 81 6 ((u5 5).o 0) ((List.replicate (w_i64 (a1 - (w_i64 (0 - 0)))).toNat (⟨0, 0, 0, 0, 0, 0⟩ : TA6_Int)).length) ((u5 5).n 0) ((List.replicate (w_i64 (a1 - (w_i64 (0 - 0)))).toNat (⟨0, 0, 0, 0, 0, 0⟩ : TA6_Int)).flatMap en_TA6_Int)) (fun u5 w hF => run_cut0 (t := 79) (l := (List.replicate (w_i64 (a1 - (w_i64 (0 - 0)))).toNat (⟨0, 0, 0, 0, 0, 0⟩ : TA6_Int))) (k := .i64) (ow_of hF.1) rfl (by kernel_rfl)) (fun _ => .inr trivial)) <|
   .cons [0] (ok_val (fun u5 => .slice ((u5 8).o 0) 0 ((u5 8).n 0)) 0) <| .nil) fun u5 a w' H => ?_
   replace H := H.kp [0, 27]
   refine k_seq ?_
   refine k_rg mixed H (.v 26 (.slice ((u5 8).o 0) 0 ((u5 8).n 0)) <|
   .v 4 (.slice ((u5 8).o 0) 0 ((u5 8).n 0)) <| .nil) fun u7 a w' H => ?_
   replace H := H.kp [4, 27]
   refine k_ret ?_
   obtain rfl := Option.some.inj G
   obtain ⟨g, o0, n0⟩ : ∃ g : Gh, g.o 0 = ((u5 8).o 0) ∧ g.n 0 = ((u5 8).n 0) := ⟨⟨fun i => [((u5 8).n 0)].getD i 0, fun i => [((u5 8).o 0)].getD i none, fun i => ([⟨Unit, ()⟩] : List ((T : Type) × T)).getD i ⟨Unit, ()⟩⟩, rfl, rfl⟩
   refine k_doneZ H (fun g => .slice (g.o 0) (([] : List TA6_Int).length) (g.n 0)) g [] [] (fun g => [fun _ => owK 81 6 (g.o 0) (([] : List TA6_Int).length) (g.n 0) (([] : List TA6_Int).flatMap en_TA6_Int)]) fr [27] [] (.slice ((u5 8).o 0) 0 ((u5 8).n 0)) [fun _ => owK 81 6 ((u5 8).o 0) (([] : List TA6_Int).length) ((u5 8).n 0) (([] : List TA6_Int).flatMap en_TA6_Int)] (by simp only [o0, n0, List.length_set, List.length_cons, List.length_nil, Nat.zero_add, Nat.reduceAdd]) (by simp only [o0, n0, List.length_set, List.length_cons, List.length_nil, Nat.zero_add, Nat.reduceAdd]) hfr (.inl ⟨rfl, rfl⟩) (fams_cons fam_ow fams_nil) (by simp)
  ·rw [if_neg (nt c9)] at G
   refine k_skip ?_
   refine k_seq ?_
   refine k_rg mixed H (.v 26 (.slice none 0 0) <|
   .v 4 (.slice none 0 0) <| .nil) fun u8 a w' H => ?_
   replace H := H.kp [4]
   refine k_ret ?_
   obtain rfl := Option.some.inj G
   replace H := H.nil_row 28 81 6
   obtain ⟨g, o0, n0⟩ : ∃ g : Gh, g.o 0 = none ∧ g.n 0 = 0 := ⟨⟨fun i => [0].getD i 0, fun i => [none].getD i none, fun i => ([⟨Unit, ()⟩] : List ((T : Type) × T)).getD i ⟨Unit, ()⟩⟩, rfl, rfl⟩
   refine k_doneZ H (fun g => .slice (g.o 0) (([] : List TA6_Int).length) (g.n 0)) g [] [] (fun g => [fun _ => owK 81 6 (g.o 0) (([] : List TA6_Int).length) (g.n 0) (([] : List TA6_Int).flatMap en_TA6_Int)]) fr [28] [] (.slice none 0 0) [fun _ => owK 81 6 none 0 0 (([] : List TA6_Int).flatMap en_TA6_Int)] (by simp only [o0, n0, List.length_set, List.length_cons, List.length_nil, Nat.zero_add, Nat.reduceAdd]) (by simp only [o0, n0, List.length_set, List.length_cons, List.length_nil, Nat.zero_add, Nat.reduceAdd]) hfr (.inl ⟨rfl, rfl⟩) (fams_cons fam_ow fams_nil) (by simp)
set_option maxHeartbeats 4000000 in
theorem matrix_vector_107.calls (k0 : Nat) (a0 : List (List TA6_Int)) (p_a0 : Option Addr) (c_a0 : Nat) (L_a0 : List (Sl TA6_Int)) (r : List TA6_Int) (w : World) (h_a0 : a0 = L_a0.map Sl.l) (hB : AllH [rdl anyF 1 p_a0 c_a0 L_a0 enSl, dnK anyF E_S_TA6_Int.toPart L_a0] w) (G : matrix_vector_107 k0 a0 = some r) :
  Calls Tryd.prog 107 #[.slice p_a0 L_a0.length c_a0] w fun e w' => ∃ g : Gh, e = .returned (.slice (g.o 0) r.length (g.n 0)) ∧ But (fpK []) w w' ∧ OutOK w.heap.size (fpK []) (frI w.heap.size []) [fun _ => owK 81 6 (g.o 0) r.length (g.n 0) (r.flatMap en_TA6_Int)] w' := by
 obtain ⟨fr, hfr⟩ : ∃ fr : Nat → Prop, fr = frI w.heap.size [] := ⟨_, rfl⟩
 have hBf : ∀ j, w.heap.size ≤ j → fr j := fun j h => by rw [hfr]; exact .inl h
 refine k_enterF (args := [.slice p_a0 L_a0.length c_a0]) 36 [(36, rdl anyF 1 p_a0 c_a0 L_a0 enSl), (37, dnK anyF E_S_TA6_Int.toPart L_a0)] (by
  intro x hx
  simp only [List.mem_cons, List.not_mem_nil, or_false] at hx
  rcases hx with rfl | rfl
  ·exact rdF_fact (rdF_of hB.1) (fun _ _ => trivial) (by decide) _
  ·exact dn_fact (dn_of hB.2.1) (fun _ _ => trivial) _) Tryd.func107 rfl (by kernel_rfl) (by kernel_rfl) fun a H => ?_
 unfold matrix_vector_107 at G
 refine k_seq ?_
 refine k_rg mixed H (.v 2 (.slice none 0 0) <| .nil) fun u1 a w' H => ?_
 replace H := H.kp [0, 36, 37]
 refine k_seq ?_
 refine k_rg mixed H (.v 3 (vI 0) <| .nil) fun u2 a w' H => ?_
 replace H := H.kp [0, 3, 36, 37]
 refine k_seq ?_
 replace G := bnd G; obtain ⟨j4, hj4, G⟩ := G
 refine k_join (fun a w' => Rep w.heap.size w 36 (ofL [(0, sS p_a0 L_a0.length c_a0), (3, sI j4), (36, rdl anyF 1 p_a0 c_a0 L_a0 enSl), (37, dnK anyF E_S_TA6_Int.toPart L_a0)]) a w') ?_ ?_
 ·clear H; intro a w' H
  refine k_seq ?_
  replace G := bnd G; obtain ⟨t6, ht6, G⟩ := G
  refine k_rg mixed H (.v 23 (vI j4) <|
   .cons [24, 38] (ok_callY false fr [] [] (fun u5 => []) [] (fun u5 => []) 110 (fun u5 => #[.slice none 0 0, vI j4]) (fun u5 => []) (fun u5 => []) (fun u5 g => .slice (g.o 0) t6.length (g.n 0)) (fun u5 g => [fun _ => owK 81 6 (g.o 0) t6.length (g.n 0) (t6.flatMap en_TA6_Int)]) [38] 24 (fun u5 w hB hF hM => matrix_vector_110_m.calls j4  t6 w  ht6) (fun u5 w hF => ⟨trivial, trivial⟩) (fun u5 g => (fams_cons fam_ow fams_nil)) (.inr (fun u5 g => (famx_cons trivial (fun K h => by cases h)))) (fun h => by cases h)) <|
   .cons [6] (ok_val (fun u5 => .slice ((u5 1).o 0) t6.length ((u5 1).n 0)) 6) <| .nil) fun u5 a w' H => ?_
  replace H := H.kp [0, 6, 36, 37, 38]
  refine k_seq ?_
  replace G := bnd G; obtain ⟨j8, hj8, G⟩ := G
  refine k_join (fun a w' => ∃ (p_j7 : Option Addr) (c_j7 np_j7 : Nat), np_j7 = j8.length ∧ Rep w.heap.size w 36 (ofL [(6, sS p_j7 np_j7 c_j7), (900028, owK 81 6 p_j7 np_j7 c_j7 (j8.flatMap en_TA6_Int))]) a w') ?_ ?_
  ·clear H; rintro a w' ⟨p_j7, c_j7, _, rfl, H⟩
   refine k_seq ?_
   refine k_rg mixed H (.v 35 (.slice p_j7 j8.length c_j7) <|
   .v 2 (.slice p_j7 j8.length c_j7) <| .nil) fun u9 a w' H => ?_
   replace H := H.kp [2, 900028]
   refine k_ret ?_
   obtain rfl := Option.some.inj G
   obtain ⟨g, o0, n0⟩ : ∃ g : Gh, g.o 0 = p_j7 ∧ g.n 0 = c_j7 := ⟨⟨fun i => [c_j7].getD i 0, fun i => [p_j7].getD i none, fun i => ([⟨Unit, ()⟩] : List ((T : Type) × T)).getD i ⟨Unit, ()⟩⟩, rfl, rfl⟩
   refine k_doneZ H (fun g => .slice (g.o 0) j8.length (g.n 0)) g [] [] (fun g => [fun _ => owK 81 6 (g.o 0) j8.length (g.n 0) (j8.flatMap en_TA6_Int)]) fr [900028] [] (.slice p_j7 j8.length c_j7) [fun _ => owK 81 6 p_j7 j8.length c_j7 (j8.flatMap en_TA6_Int)] (by simp only [o0, n0]) (by simp only [o0, n0]) hfr (.inl ⟨rfl, rfl⟩) (fams_cons fam_ow fams_nil) (by simp)
  ·clear G; replace G := hj8; clear hj8
   refine k_seq ?_
   refine k_rg mixed H (.v 25 (.slice p_a0 L_a0.length c_a0) <|
   .cons [26] (ok_valL [36] (fun u10 => [rdl anyF 1 p_a0 c_a0 L_a0 enSl]) (fun u10 => vI (a0.length : Int)) (fun u10 => true) [true] 26 (fun u10 w hg hF => run_lenN (((rdF_of hF.1).2.len enSl_len (by decide)).trans (map_len h_a0).symm) (by kernel_rfl))) <|
   .v 27 (vI 0) <| .nil) fun u10 a w' H => ?_
   replace H := H.kp [6, 25, 26, 27, 36, 37, 38]
   refine k_block ?_
   replace H := H.move (K := owK 81 6 ((u5 1).o 0) t6.length ((u5 1).n 0) (t6.flatMap en_TA6_Int)) 38 900029 (by kernel_rfl) (by intro _ _ h; cases h)
   refine k_loopJ (fun m a w' => ∃ x11 : List TA6_Int, ∃ x12 : Int, matrix_vector_107.l13 k0 a0 j4 t6 m x11 x12 = some j8 ∧ ∃ (p_x11 : Option Addr) (c_x11 np_x11 : Nat), np_x11 = x11.length ∧ Rep w.heap.size w 36 (ofL [(6, sS p_x11 np_x11 c_x11), (25, sS p_a0 L_a0.length c_a0), (26, (sI (a0.length : Int))), (27, sI x12), (36, rdl anyF 1 p_a0 c_a0 L_a0 enSl), (37, dnK anyF E_S_TA6_Int.toPart L_a0), (900029, owK 81 6 p_x11 np_x11 c_x11 (x11.flatMap en_TA6_Int))]) a w') k0 ⟨_, _, G, ((u5 1).o 0), ((u5 1).n 0), t6.length, rfl, H.toL _ (by kernel_rfl)⟩ ?_
   clear G H
   rintro (_ | k) a w' ⟨x11, x12, G, p_x11, c_x11, _, rfl, H⟩
   ·exact absurd G (by unfold matrix_vector_107.l13; exact fun h => by cases h)
   ·unfold matrix_vector_107.l13 at G
    refine k_seq ?_
    refine k_rg mixed H (.v 28 (.bool (decide (x12 < (a0.length : Int)))) <| .nil) fun u14 a w' H => ?_
    replace H := H.kp [6, 25, 26, 27, 28, 36, 37, 900029]
    refine k_seq ?_
    refine k_cond H (by kernel_rfl) (t := decide (x12 < (a0.length : Int))) (by kernel_rfl) (fun c21 => ?_) (fun c21 => ?_)
    ·rw [if_pos c21] at G
     refine k_skip ?_
     refine k_seq ?_
     refine k_block ?_
     refine k_seq ?_
     replace G := gd G; obtain ⟨b16, G⟩ := G
     replace G := bnd G; obtain ⟨t17, ht17, G⟩ := G
     obtain ⟨p_t17, c_t17, y_t17⟩ := sl_get h_a0 ht17
     refine k_rg mixed H (.cons [29] (ok_valL [36] (fun u15 => [rdl anyF 1 p_a0 c_a0 L_a0 enSl]) (fun u15 => .pointer (some ⟨hdB p_a0, hdO p_a0 + x12.toNat * 1, none⟩)) (fun u15 => true) [true, true] 29 (fun u15 w hg hF => ix_row (t := 118) (k := .i64) (i := x12) (p := p_a0) (n := L_a0.length) (cap := c_a0) (x := a0) (en := enSl) (rdF_of hF.1).2 enSl_len (map_len h_a0) b16 (by kernel_rfl))) <|
   .cons [30] (ok_valL [36] (fun u15 => [rdl anyF 1 p_a0 c_a0 L_a0 enSl]) (fun u15 => .slice p_t17 t17.length c_t17) (fun u15 => true) [true] 30 (fun u15 w hg hF => ld_row (en := enSl) (rdF_of hF.1).2 enSl_len y_t17 0 1 [.slice p_t17 t17.length c_t17] rfl (by kernel_rfl))) <|
   .v 8 (.slice p_t17 t17.length c_t17) <| .nil) fun u15 a w' H => ?_
     replace H := H.kp [6, 8, 25, 26, 27, 36, 37, 900029]
     replace G := gd G; obtain ⟨b19, G⟩ := G
     refine k_rg mixed H (.v 31 (.slice p_x11 x11.length c_x11) <|
   .v 32 (.slice p_t17 t17.length c_t17) <|
   .cons [33, 900029, 900029] (ok_own1 [] [37] (fun u18 => [dnK anyF E_S_TA6_Int.toPart L_a0]) 900029 (fun u18 => owK 81 6 p_x11 x11.length c_x11 (x11.flatMap en_TA6_Int)) (some 33) (fun u18 g => .slice (g.o 0) (x11 ++ t17).length (g.n 0)) (fun u18 g => owK 81 6 (g.o 0) ((x11 ++ t17).length) (g.n 0) ((x11 ++ t17).flatMap en_TA6_Int)) (fun u18 w hF hK => tv_app (run_app_rowsN (t := 79) (ty := 79) (en := en_TA6_Int) (m := t17) (p2 := p_t17) (n2 := t17.length) (cap2 := c_t17) en_TA6_Int_len (fun _ => rfl) inf81 (ow_of hK) (show RowC _ 6 p_t17 t17.length c_t17 (t17.flatMap en_TA6_Int) from ((dn_of hF.1) _ (List.mem_of_getElem? y_t17)).1).2 b19 (by kernel_rfl)))) <|
   .cons [6] (ok_val (fun u18 => .slice ((u18 2).o 0) ((x11 ++ t17).length) ((u18 2).n 0)) 6) <| .nil) fun u18 a w' H => ?_
     replace H := H.kp [6, 25, 26, 27, 36, 37, 900029]
     refine k_rg mixed H (.v 34 (vI (w_i64 (x12 + 1))) <|
   .v 27 (vI (w_i64 (x12 + 1))) <| .nil) fun u20 a w' H => ?_
     replace H := H.kp [6, 25, 26, 27, 36, 37, 900029]
     exact ⟨k, Nat.lt_succ_self k, _, _, G, ((u18 2).o 0), ((u18 2).n 0), (x11 ++ t17).length, rfl, H.toL _ (by kernel_rfl)⟩
    ·rw [if_neg (nt c21)] at G
     refine k_exit rfl ?_
     obtain rfl := Option.some.inj G
     replace H := H.move (K := owK 81 6 p_x11 x11.length c_x11 (x11.flatMap en_TA6_Int)) 900029 900028 (by kernel_rfl) (by intro _ _ h; cases h)
     exact ⟨p_x11, c_x11, x11.length, rfl, H.toL _ (by kernel_rfl)⟩
 ·clear G; replace G := hj4; clear hj4
  refine k_seq ?_
  refine k_rg mixed H (.v 9 (.slice p_a0 L_a0.length c_a0) <|
   .cons [10] (ok_valL [36] (fun u22 => [rdl anyF 1 p_a0 c_a0 L_a0 enSl]) (fun u22 => vI (a0.length : Int)) (fun u22 => true) [true] 10 (fun u22 w hg hF => run_lenN (((rdF_of hF.1).2.len enSl_len (by decide)).trans (map_len h_a0).symm) (by kernel_rfl))) <|
   .v 11 (vI 0) <| .nil) fun u22 a w' H => ?_
  replace H := H.kp [0, 3, 9, 10, 11, 36, 37]
  refine k_block ?_
  refine k_loopJ (fun m a w' => ∃ x23 : Int, ∃ x24 : Int, matrix_vector_107.l25 k0 a0 m x23 x24 = some j4 ∧ Rep w.heap.size w 36 (ofL [(0, sS p_a0 L_a0.length c_a0), (3, sI x23), (9, sS p_a0 L_a0.length c_a0), (10, (sI (a0.length : Int))), (11, sI x24), (36, rdl anyF 1 p_a0 c_a0 L_a0 enSl), (37, dnK anyF E_S_TA6_Int.toPart L_a0)]) a w') k0 ⟨_, _, G, H.toL _ (by kernel_rfl)⟩ ?_
  clear G H
  rintro (_ | k) a w' ⟨x23, x24, G, H⟩
  ·exact absurd G (by unfold matrix_vector_107.l25; exact fun h => by cases h)
  ·unfold matrix_vector_107.l25 at G
   refine k_seq ?_
   refine k_rg mixed H (.v 12 (.bool (decide (x24 < (a0.length : Int)))) <| .nil) fun u26 a w' H => ?_
   replace H := H.kp [0, 3, 9, 10, 11, 12, 36, 37]
   refine k_seq ?_
   refine k_cond H (by kernel_rfl) (t := decide (x24 < (a0.length : Int))) (by kernel_rfl) (fun c34 => ?_) (fun c34 => ?_)
   ·rw [if_pos c34] at G
    refine k_skip ?_
    refine k_seq ?_
    refine k_block ?_
    refine k_seq ?_
    replace G := gd G; obtain ⟨b28, G⟩ := G
    replace G := bnd G; obtain ⟨t29, ht29, G⟩ := G
    obtain ⟨p_t29, c_t29, y_t29⟩ := sl_get h_a0 ht29
    refine k_rg mixed H (.cons [13] (ok_valL [36] (fun u27 => [rdl anyF 1 p_a0 c_a0 L_a0 enSl]) (fun u27 => .pointer (some ⟨hdB p_a0, hdO p_a0 + x24.toNat * 1, none⟩)) (fun u27 => true) [true, true] 13 (fun u27 w hg hF => ix_row (t := 118) (k := .i64) (i := x24) (p := p_a0) (n := L_a0.length) (cap := c_a0) (x := a0) (en := enSl) (rdF_of hF.1).2 enSl_len (map_len h_a0) b28 (by kernel_rfl))) <|
   .cons [14] (ok_valL [36] (fun u27 => [rdl anyF 1 p_a0 c_a0 L_a0 enSl]) (fun u27 => .slice p_t29 t29.length c_t29) (fun u27 => true) [true] 14 (fun u27 w hg hF => ld_row (en := enSl) (rdF_of hF.1).2 enSl_len y_t29 0 1 [.slice p_t29 t29.length c_t29] rfl (by kernel_rfl))) <|
   .v 5 (.slice p_t29 t29.length c_t29) <| .nil) fun u27 a w' H => ?_
    replace H := H.kp [0, 3, 5, 9, 10, 11, 36, 37]
    refine k_seq ?_
    refine k_rg mixed H (.v 15 (vI x23) <|
   .v 16 (.slice p_t29 t29.length c_t29) <|
   .v 17 (vI (t29.length : Int)) <|
   .v 18 (vI (w_i64 (x23 + (t29.length : Int)))) <|
   .v 3 (vI (w_i64 (x23 + (t29.length : Int)))) <| .nil) fun u30 a w' H => ?_
    replace H := H.kp [0, 3, 9, 10, 11, 36, 37]
    refine k_seq ?_
    refine k_rg mixed H (.v 19 (vI (w_i64 (x23 + (t29.length : Int)))) <|
   .v 20 (.bool (decide ((w_i64 (x23 + (t29.length : Int))) < 0))) <| .nil) fun u31 a w' H => ?_
    replace H := H.kp [0, 3, 9, 10, 11, 20, 36, 37]
    refine k_cond H (by kernel_rfl) (t := decide ((w_i64 (x23 + (t29.length : Int))) < 0)) (by kernel_rfl) (fun c33 => ?_) (fun c33 => ?_)
    ·rw [if_pos c33] at G
     cases G
    ·rw [if_neg (nt c33)] at G
     refine k_skip ?_
     refine k_rg mixed H (.v 22 (vI (w_i64 (x24 + 1))) <|
   .v 11 (vI (w_i64 (x24 + 1))) <| .nil) fun u32 a w' H => ?_
     replace H := H.kp [0, 3, 9, 10, 11, 36, 37]
     exact ⟨k, Nat.lt_succ_self k, _, _, G, H.toL _ (by kernel_rfl)⟩
   ·rw [if_neg (nt c34)] at G
    refine k_exit rfl ?_
    obtain rfl := Option.some.inj G
    exact H.toL _ (by kernel_rfl)
set_option maxHeartbeats 4000000 in
theorem matrix_isqrt.calls (k0 : Nat) (a0 : Int) (r : Int) (w : World) (G : matrix_isqrt k0 a0 = some r) :
  Calls Tryd.prog 108 #[.int .u64 a0] w fun e w' => e = .returned (vI r) ∧ Below w.heap.size w w' := by
 refine k_enter (args := [.int .u64 a0]) 23 Tryd.func108 rfl (by kernel_rfl) (by kernel_rfl) fun a H => ?_
 unfold matrix_isqrt at G
 refine k_seq ?_
 refine k_rg mixed H (.v 2 (vI 0) <| .nil) fun u1 a w' H => ?_
 replace H := H.kp [0]
 refine k_seq ?_
 refine k_rg mixed H (.v 3 (.int .u64 0) <| .nil) fun u2 a w' H => ?_
 replace H := H.kp [0, 3]
 refine k_seq ?_
 replace G := bnd G; obtain ⟨j4, hj4, G⟩ := G
 refine k_join (fun a w' => Rep w.heap.size w 23 (ofL [(3, .slot true (.int .u64 j4))]) a w') ?_ ?_
 ·clear H; intro a w' H
  refine k_seq ?_
  refine k_rg mixed H (.v 21 (.int .u64 j4) <|
   .v 22 (vI (w_i64 j4)) <|
   .v 2 (vI (w_i64 j4)) <| .nil) fun u5 a w' H => ?_
  replace H := H.kp [2]
  refine k_ret ?_
  obtain rfl := Option.some.inj G
  exact k_done0 H _ (by kernel_rfl) (by kernel_rfl)
 ·clear G; replace G := hj4; clear hj4
  refine k_seq ?_
  refine k_rg mixed H (.v 4 (.int .u64 2147483648) <| .nil) fun u6 a w' H => ?_
  replace H := H.kp [0, 3, 4]
  refine k_block ?_
  refine k_loopJ (fun m a w' => ∃ x7 : Int, ∃ x8 : Int, matrix_isqrt.l9 k0 a0 m x7 x8 = some j4 ∧ Rep w.heap.size w 23 (ofL [(0, .slot true (.int .u64 a0)), (3, .slot true (.int .u64 x7)), (4, .slot true (.int .u64 x8))]) a w') k0 ⟨_, _, G, H.toL _ (by kernel_rfl)⟩ ?_
  clear G H
  rintro (_ | k) a w' ⟨x7, x8, G, H⟩
  ·exact absurd G (by unfold matrix_isqrt.l9; exact fun h => by cases h)
  ·unfold matrix_isqrt.l9 at G
   refine k_seq ?_
   refine k_seq ?_
   refine k_rg mixed H (.v 5 (.int .u64 x8) <|
   .v 6 (.bool (decide (x8 > 0))) <| .nil) fun u10 a w' H => ?_
   replace H := H.kp [0, 3, 4, 6]
   refine k_cond H (by kernel_rfl) (t := decide (x8 > 0)) (by kernel_rfl) (fun c17 => ?_) (fun c17 => ?_)
   ·rw [if_pos c17] at G
    refine k_skip ?_
    refine k_seq ?_
    replace G := bnd G; obtain ⟨j12, hj12, G⟩ := G
    refine k_join (fun a w' => Rep w.heap.size w 23 (ofL [(0, .slot true (.int .u64 a0)), (3, .slot true (.int .u64 j12)), (4, .slot true (.int .u64 x8))]) a w') ?_ ?_
    ·clear H; intro a w' H
     refine k_rg mixed H (.v 7 (.int .u64 x8) <|
   .v 8 (.int .u64 (Int.fdiv x8 2)) <|
   .v 4 (.int .u64 (Int.fdiv x8 2)) <| .nil) fun u13 a w' H => ?_
     replace H := H.kp [0, 3, 4]
     exact ⟨k, Nat.lt_succ_self k, _, _, G, H.toL _ (by kernel_rfl)⟩
    ·clear G; replace G := hj12; clear hj12
     refine k_block ?_
     refine k_seq ?_
     refine k_rg mixed H (.v 9 (.int .u64 x7) <|
   .v 10 (.int .u64 x8) <|
   .v 11 (.int .u64 (w_u64 (x7 + x8))) <|
   .v 12 (.int .u64 x7) <|
   .v 13 (.int .u64 x8) <|
   .v 14 (.int .u64 (w_u64 (x7 + x8))) <|
   .v 15 (.int .u64 (w_u64 ((w_u64 (x7 + x8)) * (w_u64 (x7 + x8))))) <|
   .v 16 (.int .u64 a0) <|
   .v 17 (.bool (decide ((w_u64 ((w_u64 (x7 + x8)) * (w_u64 (x7 + x8)))) ≤ a0))) <| .nil) fun u14 a w' H => ?_
     replace H := H.kp [0, 3, 4, 17]
     refine k_cond H (by kernel_rfl) (t := decide ((w_u64 ((w_u64 (x7 + x8)) * (w_u64 (x7 + x8)))) ≤ a0)) (by kernel_rfl) (fun c16 => ?_) (fun c16 => ?_)
     ·rw [if_pos c16] at G
      refine k_rg mixed H (.v 18 (.int .u64 x7) <|
   .v 19 (.int .u64 x8) <|
   .v 20 (.int .u64 (w_u64 (x7 + x8))) <|
   .v 3 (.int .u64 (w_u64 (x7 + x8))) <| .nil) fun u15 a w' H => ?_
      replace H := H.kp [0, 3, 4]
      obtain rfl := Option.some.inj G
      exact H.toL _ (by kernel_rfl)
     ·rw [if_neg (nt c16)] at G
      refine k_skip ?_
      obtain rfl := Option.some.inj G
      exact H.toL _ (by kernel_rfl)
   ·rw [if_neg (nt c17)] at G
    refine k_exit rfl ?_
    obtain rfl := Option.some.inj G
    exact H.toL _ (by kernel_rfl)
set_option maxHeartbeats 4000000 in
theorem matrix_vector_length.calls (k0 : Nat) (a0 : TA6_Int) (r : Int) (w : World) (G : matrix_vector_length k0 a0 = some r) :
  Calls Tryd.prog 93 #[.agg #[vI a0.e0, vI a0.e1, vI a0.e2, vI a0.e3, vI a0.e4, vI a0.e5]] w fun e w' => e = .returned (vI r) ∧ Below w.heap.size w w' := by
 refine k_enter (args := [.agg #[vI a0.e0, vI a0.e1, vI a0.e2, vI a0.e3, vI a0.e4, vI a0.e5]]) 19 Tryd.func93 rfl (by kernel_rfl) (by kernel_rfl) fun a H => ?_
 unfold matrix_vector_length at G
 refine k_seq ?_
 refine k_rg mixed H (.cons [1, 19] (ok_new (fun b => vP b 0) (fun u1 => [vI a0.e0, vI a0.e1, vI a0.e2, vI a0.e3, vI a0.e4, vI a0.e5]) 81 1 19) <|
   .v 2 (vI 0) <| .nil) fun u1 a w' H => ?_
 replace H := H.kp [1, 19]
 refine k_seq ?_
 refine k_rg mixed H (.v 3 (.int .u64 0) <| .nil) fun u2 a w' H => ?_
 replace H := H.kp [1, 3, 19]
 refine k_seq ?_
 replace G := bnd G; obtain ⟨j4, hj4, G⟩ := G
 refine k_join (fun a w' => Rep w.heap.size w 19 (ofL [(3, .slot true (.int .u64 j4))]) a w') ?_ ?_
 ·clear H; intro a w' H
  refine k_seq ?_
  replace G := bnd G; obtain ⟨t6, ht6, G⟩ := G
  refine k_rg mixed H (.v 17 (.int .u64 j4) <|
   .cons [18] (ok_callv 108 (fun u5 => #[.int .u64 j4]) (vI t6) 18 [] (fun u5 w _ => matrix_isqrt.calls k0 j4  t6 w  ht6)) <|
   .v 2 (vI t6) <| .nil) fun u5 a w' H => ?_
  replace H := H.kp [2]
  refine k_ret ?_
  obtain rfl := Option.some.inj G
  exact k_done0 H _ (by kernel_rfl) (by kernel_rfl)
 ·clear G; replace G := hj4; clear hj4
  refine k_seq ?_
  refine k_rg mixed H (.cons [6] (ok_ld (fun u7 => .agg #[vI a0.e0, vI a0.e1, vI a0.e2, vI a0.e3, vI a0.e4, vI a0.e5]) 6 19 0 6 (fun u7 => ((u1 0).n 0)) (fun u7 => [vI a0.e0, vI a0.e1, vI a0.e2, vI a0.e3, vI a0.e4, vI a0.e5]) 81) <|
   .v 7 (vI 0) <| .nil) fun u7 a w' H => ?_
  replace H := H.kp [3, 6, 7]
  refine k_block ?_
  refine k_loopJ (fun m a w' => ∃ x8 : Int, ∃ x9 : Int, matrix_vector_length.l10 k0 a0 m x8 x9 = some j4 ∧ Rep w.heap.size w 19 (ofL [(3, .slot true (.int .u64 x8)), (6, .slot true (.agg #[vI a0.e0, vI a0.e1, vI a0.e2, vI a0.e3, vI a0.e4, vI a0.e5])), (7, sI x9)]) a w') k0 ⟨_, _, G, H.toL _ (by kernel_rfl)⟩ ?_
  clear G H
  rintro (_ | k) a w' ⟨x8, x9, G, H⟩
  ·exact absurd G (by unfold matrix_vector_length.l10; exact fun h => by cases h)
  ·unfold matrix_vector_length.l10 at G
   refine k_seq ?_
   refine k_rg mixed H (.v 8 (.bool (decide (x9 < 6))) <| .nil) fun u11 a w' H => ?_
   replace H := H.kp [3, 6, 7, 8]
   refine k_seq ?_
   refine k_cond H (by kernel_rfl) (t := decide (x9 < 6)) (by kernel_rfl) (fun c36 => ?_) (fun c36 => ?_)
   ·rw [if_pos c36] at G
    refine k_skip ?_
    refine k_seq ?_
    refine k_block ?_
    refine k_seq ?_
    by_cases c30 : x9 = 0
    ·rw [if_pos c30] at G; subst c30
     refine k_rg mixed H (.v 9 (vI a0.e0) <|
   .v 5 (vI a0.e0) <| .nil) fun u12 a w' H => ?_
     replace H := H.kp [3, 5, 6, 7]
     refine k_rg mixed H (.v 10 (.int .u64 x8) <|
   .v 11 (vI a0.e0) <|
   .v 12 (vI a0.e0) <|
   .v 13 (vI (w_i64 (a0.e0 * a0.e0))) <|
   .v 14 (.int .u64 (w_u64 (w_i64 (a0.e0 * a0.e0)))) <|
   .v 15 (.int .u64 (w_u64 (x8 + (w_u64 (w_i64 (a0.e0 * a0.e0)))))) <|
   .v 3 (.int .u64 (w_u64 (x8 + (w_u64 (w_i64 (a0.e0 * a0.e0)))))) <| .nil) fun u13 a w' H => ?_
     replace H := H.kp [3, 6, 7]
     refine k_rg mixed H (.v 16 (vI (w_i64 (0 + 1))) <|
   .v 7 (vI (w_i64 (0 + 1))) <| .nil) fun u14 a w' H => ?_
     replace H := H.kp [3, 6, 7]
     exact ⟨k, Nat.lt_succ_self k, _, _, G, H.toL _ (by kernel_rfl)⟩
    rw [if_neg c30] at G
    by_cases c31 : x9 = 1
    ·rw [if_pos c31] at G; subst c31
     refine k_rg mixed H (.v 9 (vI a0.e1) <|
   .v 5 (vI a0.e1) <| .nil) fun u15 a w' H => ?_
     replace H := H.kp [3, 5, 6, 7]
     refine k_rg mixed H (.v 10 (.int .u64 x8) <|
   .v 11 (vI a0.e1) <|
   .v 12 (vI a0.e1) <|
   .v 13 (vI (w_i64 (a0.e1 * a0.e1))) <|
   .v 14 (.int .u64 (w_u64 (w_i64 (a0.e1 * a0.e1)))) <|
   .v 15 (.int .u64 (w_u64 (x8 + (w_u64 (w_i64 (a0.e1 * a0.e1)))))) <|
   .v 3 (.int .u64 (w_u64 (x8 + (w_u64 (w_i64 (a0.e1 * a0.e1)))))) <| .nil) fun u16 a w' H => ?_
     replace H := H.kp [3, 6, 7]
     refine k_rg mixed H (.v 16 (vI (w_i64 (1 + 1))) <|
   .v 7 (vI (w_i64 (1 + 1))) <| .nil) fun u17 a w' H => ?_
     replace H := H.kp [3, 6, 7]
     exact ⟨k, Nat.lt_succ_self k, _, _, G, H.toL _ (by kernel_rfl)⟩
    rw [if_neg c31] at G
    by_cases c32 : x9 = 2
    ·rw [if_pos c32] at G; subst c32
     refine k_rg mixed H (.v 9 (vI a0.e2) <|
   .v 5 (vI a0.e2) <| .nil) fun u18 a w' H => ?_
     replace H := H.kp [3, 5, 6, 7]
     refine k_rg mixed H (.v 10 (.int .u64 x8) <|
   .v 11 (vI a0.e2) <|
   .v 12 (vI a0.e2) <|
   .v 13 (vI (w_i64 (a0.e2 * a0.e2))) <|
   .v 14 (.int .u64 (w_u64 (w_i64 (a0.e2 * a0.e2)))) <|
   .v 15 (.int .u64 (w_u64 (x8 + (w_u64 (w_i64 (a0.e2 * a0.e2)))))) <|
   .v 3 (.int .u64 (w_u64 (x8 + (w_u64 (w_i64 (a0.e2 * a0.e2)))))) <| .nil) fun u19 a w' H => ?_
     replace H := H.toM [(3, .slot true (.int .u64 (w_u64 (x8 + (w_u64 (w_i64 (a0.e2 * a0.e2))))))), (6, .slot true (.agg #[vI a0.e0, vI a0.e1, vI a0.e2, vI a0.e3, vI a0.e4, vI a0.e5])), (7, sI 2)]
     refine k_rg mixed H (.v 16 (vI (w_i64 (2 + 1))) <|
   .v 7 (vI (w_i64 (2 + 1))) <| .nil) fun u20 a w' H => ?_
     replace H := H.kp [3, 6, 7]
     exact ⟨k, Nat.lt_succ_self k, _, _, G, H.toL _ (by kernel_rfl)⟩
    rw [if_neg c32] at G
    by_cases c33 : x9 = 3
    ·rw [if_pos c33] at G; subst c33
     refine k_rg mixed H (.v 9 (vI a0.e3) <|
   .v 5 (vI a0.e3) <| .nil) fun u21 a w' H => ?_
     replace H := H.kp [3, 5, 6, 7]
     refine k_rg mixed H (.v 10 (.int .u64 x8) <|
   .v 11 (vI a0.e3) <|
   .v 12 (vI a0.e3) <|
   .v 13 (vI (w_i64 (a0.e3 * a0.e3))) <|
   .v 14 (.int .u64 (w_u64 (w_i64 (a0.e3 * a0.e3)))) <|
   .v 15 (.int .u64 (w_u64 (x8 + (w_u64 (w_i64 (a0.e3 * a0.e3)))))) <|
   .v 3 (.int .u64 (w_u64 (x8 + (w_u64 (w_i64 (a0.e3 * a0.e3)))))) <| .nil) fun u22 a w' H => ?_
     replace H := H.kp [3, 6, 7]
     refine k_rg mixed H (.v 16 (vI (w_i64 (3 + 1))) <|
   .v 7 (vI (w_i64 (3 + 1))) <| .nil) fun u23 a w' H => ?_
     replace H := H.kp [3, 6, 7]
     exact ⟨k, Nat.lt_succ_self k, _, _, G, H.toL _ (by kernel_rfl)⟩
    rw [if_neg c33] at G
    by_cases c34 : x9 = 4
    ·rw [if_pos c34] at G; subst c34
     refine k_rg mixed H (.v 9 (vI a0.e4) <|
   .v 5 (vI a0.e4) <| .nil) fun u24 a w' H => ?_
     replace H := H.kp [3, 5, 6, 7]
     refine k_rg mixed H (.v 10 (.int .u64 x8) <|
   .v 11 (vI a0.e4) <|
   .v 12 (vI a0.e4) <|
   .v 13 (vI (w_i64 (a0.e4 * a0.e4))) <|
   .v 14 (.int .u64 (w_u64 (w_i64 (a0.e4 * a0.e4)))) <|
   .v 15 (.int .u64 (w_u64 (x8 + (w_u64 (w_i64 (a0.e4 * a0.e4)))))) <|
   .v 3 (.int .u64 (w_u64 (x8 + (w_u64 (w_i64 (a0.e4 * a0.e4)))))) <| .nil) fun u25 a w' H => ?_
     replace H := H.kp [3, 6, 7]
     refine k_rg mixed H (.v 16 (vI (w_i64 (4 + 1))) <|
   .v 7 (vI (w_i64 (4 + 1))) <| .nil) fun u26 a w' H => ?_
     replace H := H.kp [3, 6, 7]
     exact ⟨k, Nat.lt_succ_self k, _, _, G, H.toL _ (by kernel_rfl)⟩
    rw [if_neg c34] at G
    by_cases c35 : x9 = 5
    ·rw [if_pos c35] at G; subst c35
     refine k_rg mixed H (.v 9 (vI a0.e5) <|
   .v 5 (vI a0.e5) <| .nil) fun u27 a w' H => ?_
     replace H := H.kp [3, 5, 6, 7]
     refine k_rg mixed H (.v 10 (.int .u64 x8) <|
   .v 11 (vI a0.e5) <|
   .v 12 (vI a0.e5) <|
   .v 13 (vI (w_i64 (a0.e5 * a0.e5))) <|
   .v 14 (.int .u64 (w_u64 (w_i64 (a0.e5 * a0.e5)))) <|
   .v 15 (.int .u64 (w_u64 (x8 + (w_u64 (w_i64 (a0.e5 * a0.e5)))))) <|
   .v 3 (.int .u64 (w_u64 (x8 + (w_u64 (w_i64 (a0.e5 * a0.e5)))))) <| .nil) fun u28 a w' H => ?_
     replace H := H.toM [(3, .slot true (.int .u64 (w_u64 (x8 + (w_u64 (w_i64 (a0.e5 * a0.e5))))))), (6, .slot true (.agg #[vI a0.e0, vI a0.e1, vI a0.e2, vI a0.e3, vI a0.e4, vI a0.e5])), (7, sI 5)]
     refine k_rg mixed H (.v 16 (vI (w_i64 (5 + 1))) <|
   .v 7 (vI (w_i64 (5 + 1))) <| .nil) fun u29 a w' H => ?_
     replace H := H.kp [3, 6, 7]
     exact ⟨k, Nat.lt_succ_self k, _, _, G, H.toL _ (by kernel_rfl)⟩
    rw [if_neg c35] at G
    cases G
   ·rw [if_neg (nt c36)] at G
    refine k_exit rfl ?_
    obtain rfl := Option.some.inj G
    exact H.toL _ (by kernel_rfl)
set_option maxHeartbeats 4000000 in
theorem fixed_MulRatio.calls (a0 : Int) (a1 : Int) (a2 : Int) (r : Int × Int × Int) (w : World) (G : fixed_MulRatio a0 a1 a2 = some r) :
  Calls Tryd.prog 94 #[vI a0, vI a1, vI a2] w fun e w' => e = .returned (.tuple #[vI r.1, vI r.2.1, vI r.2.2]) ∧ Below w.heap.size w w' := by
 refine k_enter (args := [vI a0, vI a1, vI a2]) 35 Tryd.func94 rfl (by kernel_rfl) (by kernel_rfl) fun a H => ?_
 unfold fixed_MulRatio at G
 refine k_seq ?_
 refine k_rg mixed H (.v 6 (vI 0) <|
   .v 7 (vI 0) <|
   .v 8 (vI 0) <| .nil) fun u1 a w' H => ?_
 replace H := H.kp [0, 1, 2]
 refine k_seq ?_
 refine k_seq ?_
 refine k_rg mixed H (.v 11 (vI a1) <|
   .v 12 (.bool (decide (a1 < (-1073741824)))) <|
   .v 13 (.bool (decide (a1 < (-1073741824)))) <|
   .cons [14] (ok_valg (fun u2 => vI a1) (fun u2 => ((decide (a1 < (-1073741824))) == false)) [true] 14) <|
   .cons [15] (ok_valg (fun u2 => .bool (decide (a1 > 1073741824))) (fun u2 => ((decide (a1 < (-1073741824))) == false)) [false, true] 15) <|
   .cons [16] (ok_or 13 15 (fun u2 => true) (fun u2 => true) (fun u2 => decide (a1 < (-1073741824))) (fun u2 => decide (a1 > 1073741824)) 16) <|
   .v 17 (.bool ((decide (a1 < (-1073741824))) || (decide (a1 > 1073741824)))) <|
   .cons [18] (ok_valg (fun u2 => vI a2) (fun u2 => (((decide (a1 < (-1073741824))) || (decide (a1 > 1073741824))) == false)) [true] 18) <|
   .cons [19] (ok_valg (fun u2 => .bool (decide (a2 < 1))) (fun u2 => (((decide (a1 < (-1073741824))) || (decide (a1 > 1073741824))) == false)) [false, true] 19) <|
   .cons [20] (ok_or 17 19 (fun u2 => true) (fun u2 => true) (fun u2 => ((decide (a1 < (-1073741824))) || (decide (a1 > 1073741824)))) (fun u2 => decide (a2 < 1)) 20) <|
   .v 21 (.bool (((decide (a1 < (-1073741824))) || (decide (a1 > 1073741824))) || (decide (a2 < 1)))) <|
   .cons [22] (ok_valg (fun u2 => vI a2) (fun u2 => ((((decide (a1 < (-1073741824))) || (decide (a1 > 1073741824))) || (decide (a2 < 1))) == false)) [true] 22) <|
   .cons [23] (ok_valg (fun u2 => .bool (decide (a2 > 1073741824))) (fun u2 => ((((decide (a1 < (-1073741824))) || (decide (a1 > 1073741824))) || (decide (a2 < 1))) == false)) [false, true] 23) <|
   .cons [24] (ok_or 21 23 (fun u2 => true) (fun u2 => true) (fun u2 => (((decide (a1 < (-1073741824))) || (decide (a1 > 1073741824))) || (decide (a2 < 1)))) (fun u2 => decide (a2 > 1073741824)) 24) <| .nil) fun u2 a w' H => ?_
 replace H := H.kp [0, 1, 2, 24]
 refine k_cond H (by kernel_rfl) (t := ((((decide (a1 < (-1073741824))) || (decide (a1 > 1073741824))) || (decide (a2 < 1))) || (decide (a2 > 1073741824)))) (by kernel_rfl) (fun c7 => ?_) (fun c7 => ?_)
 ·rw [if_pos c7] at G
  refine k_seq ?_
  refine k_rg mixed H (.v 6 (vI 0) <|
   .v 7 (vI 0) <|
   .v 8 (vI 1) <| .nil) fun u3 a w' H => ?_
  replace H := H.kp [6, 7, 8]
  refine k_ret ?_
  obtain rfl := Option.some.inj G
  exact k_done0 H _ (by kernel_rfl) (by kernel_rfl)
 ·rw [if_neg (nt c7)] at G
  refine k_skip ?_
  refine k_seq ?_
  replace G := bnd G; obtain ⟨t5, ht5, G⟩ := G
  refine k_rg mixed H (.v 26 (vI a0) <|
   .v 27 (vI a1) <|
   .v 28 (vI (w_i64 (a0 * a1))) <|
   .v 29 (vI a2) <|
   .cons [30] (ok_callv 109 (fun u4 => #[vI (w_i64 (a0 * a1)), vI a2]) (.tuple #[vI t5.1, vI t5.2]) 30 [] (fun u4 w _ => fixed_divide.calls (w_i64 (a0 * a1)) a2  t5 w  ht5)) <|
   .v 25 (.tuple #[vI t5.1, vI t5.2]) <|
   .v 31 (vI t5.1) <|
   .v 32 (vI t5.2) <|
   .v 9 (vI t5.1) <|
   .v 10 (vI t5.2) <| .nil) fun u4 a w' H => ?_
  replace H := H.kp [9, 10]
  refine k_seq ?_
  refine k_rg mixed H (.v 33 (vI t5.1) <|
   .v 34 (vI t5.2) <|
   .v 6 (vI t5.1) <|
   .v 7 (vI t5.2) <|
   .v 8 (vI 0) <| .nil) fun u6 a w' H => ?_
  replace H := H.kp [6, 7, 8]
  refine k_ret ?_
  obtain rfl := Option.some.inj G
  exact k_done0 H _ (by kernel_rfl) (by kernel_rfl)
end Go.Proofs.YtglcmhldonkfdaaDoor
