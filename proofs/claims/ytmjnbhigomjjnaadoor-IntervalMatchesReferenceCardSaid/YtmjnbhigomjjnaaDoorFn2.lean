/- Each function of the program answers as the plain Lean function of its name (part 2). Printed by a program of this session. -/
import Derived.Test.YtmjnbhigomjjnaaDoorFn1
set_option linter.unusedVariables false
set_option maxRecDepth 100000
namespace Go.Proofs.YtmjnbhigomjjnaaDoor
open Go Go.RowKit Go.Sx Go.Proofs
set_option maxHeartbeats 4000000 in
theorem armillaryref02_Div.calls (k0 : Nat) (a0 : TInterval) (a1 : TInterval) (r : TInterval) (w : World) (G : armillaryref02_Div k0 a0 a1 = some r) :
    Calls Tryd.prog 61 #[.agg #[.int .i64 a0.Lo, .int .i64 a0.Hi], .agg #[.int .i64 a1.Lo, .int .i64 a1.Hi]] w fun e w' => e = .returned (.agg #[.int .i64 r.Lo, .int .i64 r.Hi]) ∧ Below w.heap.size w w' := by
  refine k_enter (args := [.agg #[.int .i64 a0.Lo, .int .i64 a0.Hi], .agg #[.int .i64 a1.Lo, .int .i64 a1.Hi]]) 85 Tryd.func61 rfl (by kernel_rfl) (by kernel_rfl) fun a H => ?_
  unfold armillaryref02_Div at G
  refine k_seq ?_
  refine k_reg mixed H (.cons [2, 85] (ok_new (fun b => .pointer (some ⟨b, 0, none⟩)) (fun ν1 => [.int .i64 a0.Lo, .int .i64 a0.Hi]) 23 2 85) <|
      .cons [3, 86] (ok_new (fun b => .pointer (some ⟨b, 0, none⟩)) (fun ν1 => [.int .i64 a1.Lo, .int .i64 a1.Hi]) 23 3 86) <|
      .cons [4, 87] (ok_new (fun b => .pointer (some ⟨b, 0, none⟩)) (fun ν1 => [.int .i64 0, .int .i64 0]) 23 4 87) <| .nil) (by kernel_rfl) fun ν1 a w' H => ?_
  replace H := H.toL [(2, .slot true (.pointer (some ⟨((ν1 0).n 0), 0, none⟩))), (3, .slot true (.pointer (some ⟨((ν1 1).n 0), 0, none⟩))), (4, .slot true (.pointer (some ⟨((ν1 2).n 0), 0, none⟩))), (85, .blk ((ν1 0).n 0) [.int .i64 a0.Lo, .int .i64 a0.Hi] 23), (86, .blk ((ν1 1).n 0) [.int .i64 a1.Lo, .int .i64 a1.Hi] 23), (87, .blk ((ν1 2).n 0) [.int .i64 0, .int .i64 0] 23)] (by kernel_rfl)
  refine k_seq ?_
  refine k_seq ?_
  replace G := bnd G; obtain ⟨t3, ht3, G⟩ := G
  replace G := bnd G; obtain ⟨t4, ht4, G⟩ := G
  refine k_reg mixed H (.cons [11] (ok_ld (fun ν2 => .agg #[.int .i64 a0.Lo, .int .i64 a0.Hi]) 11 85 0 2 (fun ν2 => ((ν1 0).n 0)) (fun ν2 => [.int .i64 a0.Lo, .int .i64 a0.Hi]) 23) <|
      .cons [12] (ok_callv 13 (fun ν2 => #[.agg #[.int .i64 a0.Lo, .int .i64 a0.Hi]]) (.bool t3) 12 [] (fun _ w _ => armillaryref02_IsEntire.calls a0 t3 w ht3)) <|
      .cons [13] (ok_val (fun ν2 => .bool t3) 13) <|
      .cons [14] (ok_ldg (fun ν2 => .agg #[.int .i64 a1.Lo, .int .i64 a1.Hi]) (fun ν2 => (t3 == false)) [true] 14 86 0 2 (fun ν2 => ((ν1 1).n 0)) (fun ν2 => [.int .i64 a1.Lo, .int .i64 a1.Hi]) 23) <|
      .cons [15] (ok_call 13 (fun ν2 => #[.agg #[.int .i64 a1.Lo, .int .i64 a1.Hi]]) (.bool t4) (fun ν2 => (t3 == false)) [true, false] 15 [] (fun _ w hg _ => armillaryref02_IsEntire.calls a1 t4 w (ifp ht4 hg))) <|
      .cons [16] (ok_or 13 15 (fun ν2 => true) (fun ν2 => true) (fun ν2 => t3) (fun ν2 => t4) 16) <|
      .cons [17] (ok_val (fun ν2 => .bool (t3 || t4)) 17) <|
      .cons [18] (ok_valg (fun ν2 => .pointer (some ⟨((ν1 1).n 0), 0, none⟩)) (fun ν2 => ((t3 || t4) == false)) [true] 18) <|
      .cons [19] (ok_ldg (fun ν2 => .int .i64 a1.Lo) (fun ν2 => ((t3 || t4) == false)) [false] 19 86 0 1 (fun ν2 => ((ν1 1).n 0)) (fun ν2 => [.int .i64 a1.Lo, .int .i64 a1.Hi]) 23) <|
      .cons [20] (ok_valg (fun ν2 => .bool (decide (a1.Lo ≤ 0))) (fun ν2 => ((t3 || t4) == false)) [false, true] 20) <|
      .cons [21] (ok_valg (fun ν2 => .bool (decide (a1.Lo ≤ 0))) (fun ν2 => ((t3 || t4) == false)) [false] 21) <|
      .cons [22] (ok_valg (fun ν2 => .pointer (some ⟨((ν1 1).n 0), 1, none⟩)) (fun ν2 => (((t3 || t4) == false) && ((decide (a1.Lo ≤ 0)) == true))) [true] 22) <|
      .cons [23] (ok_ldg (fun ν2 => .int .i64 a1.Hi) (fun ν2 => (((t3 || t4) == false) && ((decide (a1.Lo ≤ 0)) == true))) [false] 23 86 1 1 (fun ν2 => ((ν1 1).n 0)) (fun ν2 => [.int .i64 a1.Lo, .int .i64 a1.Hi]) 23) <|
      .cons [24] (ok_valg (fun ν2 => .bool (decide (a1.Hi ≥ 0))) (fun ν2 => (((t3 || t4) == false) && ((decide (a1.Lo ≤ 0)) == true))) [false, true] 24) <|
      .cons [25] (ok_and 21 24 (fun ν2 => ((t3 || t4) == false)) (fun ν2 => ((t3 || t4) == false)) (fun ν2 => decide (a1.Lo ≤ 0)) (fun ν2 => decide (a1.Hi ≥ 0)) 25) <|
      .cons [26] (ok_or 17 25 (fun ν2 => true) (fun ν2 => true) (fun ν2 => (t3 || t4)) (fun ν2 => ((decide (a1.Lo ≤ 0)) && (decide (a1.Hi ≥ 0)))) 26) <| .nil) (by kernel_rfl) fun ν2 a w' H => ?_
  replace H := H.toL [(2, .slot true (.pointer (some ⟨((ν1 0).n 0), 0, none⟩))), (3, .slot true (.pointer (some ⟨((ν1 1).n 0), 0, none⟩))), (4, .slot true (.pointer (some ⟨((ν1 2).n 0), 0, none⟩))), (26, .slot true (.bool ((t3 || t4) || ((decide (a1.Lo ≤ 0)) && (decide (a1.Hi ≥ 0)))))), (85, .blk ((ν1 0).n 0) [.int .i64 a0.Lo, .int .i64 a0.Hi] 23), (86, .blk ((ν1 1).n 0) [.int .i64 a1.Lo, .int .i64 a1.Hi] 23), (87, .blk ((ν1 2).n 0) [.int .i64 0, .int .i64 0] 23)] (by kernel_rfl)
  refine k_cond H (by kernel_rfl) (t := ((t3 || t4) || ((decide (a1.Lo ≤ 0)) && (decide (a1.Hi ≥ 0))))) (by kernel_rfl) (fun c50 => ?_) (fun c50 => ?_)
  · rw [if_pos c50] at G
    refine k_seq ?_
    replace G := bnd G; obtain ⟨t6, ht6, G⟩ := G
    refine k_reg mixed H (.cons [27] (ok_callv 51 (fun ν5 => #[]) (.agg #[.int .i64 t6.Lo, .int .i64 t6.Hi]) 27 [] (fun _ w _ => armillaryref02_Entire.calls  t6 w ht6)) <|
      .cons [87] (ok_as (u' := fun ν5 => [(87, .blk ((ν1 2).n 0) [.int .i64 t6.Lo, .int .i64 t6.Hi] 23)]) (ok_store 87 0 (fun ν5 => ((ν1 2).n 0)) (fun ν5 => [.int .i64 0, .int .i64 0]) (fun ν5 => [.int .i64 t6.Lo, .int .i64 t6.Hi]) 23) (fun _ => by kernel_rfl)) <| .nil) (by kernel_rfl) fun ν5 a w' H => ?_
    replace H := H.toL [(2, .slot true (.pointer (some ⟨((ν1 0).n 0), 0, none⟩))), (3, .slot true (.pointer (some ⟨((ν1 1).n 0), 0, none⟩))), (4, .slot true (.pointer (some ⟨((ν1 2).n 0), 0, none⟩))), (85, .blk ((ν1 0).n 0) [.int .i64 a0.Lo, .int .i64 a0.Hi] 23), (86, .blk ((ν1 1).n 0) [.int .i64 a1.Lo, .int .i64 a1.Hi] 23), (87, .blk ((ν1 2).n 0) [.int .i64 t6.Lo, .int .i64 t6.Hi] 23)] (by kernel_rfl)
    refine k_ret ?_
    obtain rfl := Option.some.inj G
    exact k_done1 H _ 87 ((ν1 2).n 0) [.int .i64 t6.Lo, .int .i64 t6.Hi] 23 0 2 (by kernel_rfl) (by kernel_rfl) (by kernel_rfl) (by kernel_rfl)
  · rw [if_neg (nt c50)] at G
    refine k_skip ?_
    refine k_seq ?_
    refine k_reg mixed H (.cons [28] (ok_val (fun ν7 => .pointer (some ⟨((ν1 0).n 0), 0, none⟩)) 28) <|
      .cons [29] (ok_ld (fun ν7 => .int .i64 a0.Lo) 29 85 0 1 (fun ν7 => ((ν1 0).n 0)) (fun ν7 => [.int .i64 a0.Lo, .int .i64 a0.Hi]) 23) <|
      .cons [30] (ok_val (fun ν7 => .pointer (some ⟨((ν1 0).n 0), 1, none⟩)) 30) <|
      .cons [31] (ok_ld (fun ν7 => .int .i64 a0.Hi) 31 85 1 1 (fun ν7 => ((ν1 0).n 0)) (fun ν7 => [.int .i64 a0.Lo, .int .i64 a0.Hi]) 23) <|
      .cons [32, 88] (ok_new (fun b => .slice (some ⟨b, 0, none⟩) 2 2) (fun ν7 => [.int .i64 a0.Lo, .int .i64 a0.Hi]) 2 32 88) <|
      .cons [33] (ok_val (fun ν7 => .pointer (some ⟨((ν1 1).n 0), 0, none⟩)) 33) <|
      .cons [34] (ok_ld (fun ν7 => .int .i64 a1.Lo) 34 86 0 1 (fun ν7 => ((ν1 1).n 0)) (fun ν7 => [.int .i64 a1.Lo, .int .i64 a1.Hi]) 23) <|
      .cons [35] (ok_val (fun ν7 => .pointer (some ⟨((ν1 1).n 0), 1, none⟩)) 35) <|
      .cons [36] (ok_ld (fun ν7 => .int .i64 a1.Hi) 36 86 1 1 (fun ν7 => ((ν1 1).n 0)) (fun ν7 => [.int .i64 a1.Lo, .int .i64 a1.Hi]) 23) <|
      .cons [37, 89] (ok_new (fun b => .slice (some ⟨b, 0, none⟩) 2 2) (fun ν7 => [.int .i64 a1.Lo, .int .i64 a1.Hi]) 2 37 89) <|
      .cons [5] (ok_val (fun ν7 => .slice (some ⟨((ν7 4).n 0), 0, none⟩) 2 2) 5) <|
      .cons [6] (ok_val (fun ν7 => .slice (some ⟨((ν7 9).n 0), 0, none⟩) 2 2) 6) <| .nil) (by kernel_rfl) fun ν7 a w' H => ?_
    replace H := H.toL [(2, .slot true (.pointer (some ⟨((ν1 0).n 0), 0, none⟩))), (3, .slot true (.pointer (some ⟨((ν1 1).n 0), 0, none⟩))), (4, .slot true (.pointer (some ⟨((ν1 2).n 0), 0, none⟩))), (5, .slot true (.slice (some ⟨((ν7 4).n 0), 0, none⟩) 2 2)), (6, .slot true (.slice (some ⟨((ν7 9).n 0), 0, none⟩) 2 2)), (85, .blk ((ν1 0).n 0) [.int .i64 a0.Lo, .int .i64 a0.Hi] 23), (86, .blk ((ν1 1).n 0) [.int .i64 a1.Lo, .int .i64 a1.Hi] 23), (87, .blk ((ν1 2).n 0) [.int .i64 0, .int .i64 0] 23), (88, .blk ((ν7 4).n 0) [.int .i64 a0.Lo, .int .i64 a0.Hi] 2), (89, .blk ((ν7 9).n 0) [.int .i64 a1.Lo, .int .i64 a1.Hi] 2)] (by kernel_rfl)
    refine k_seq ?_
    replace G := bnd G; obtain ⟨t9, ht9, G⟩ := G
    replace G := bnd G; obtain ⟨t10, ht10, G⟩ := G
    refine k_reg mixed H (.cons [38] (ok_val (fun ν8 => .pointer (some ⟨((ν1 0).n 0), 0, none⟩)) 38) <|
      .cons [39] (ok_ld (fun ν8 => .int .i64 a0.Lo) 39 85 0 1 (fun ν8 => ((ν1 0).n 0)) (fun ν8 => [.int .i64 a0.Lo, .int .i64 a0.Hi]) 23) <|
      .cons [40] (ok_val (fun ν8 => .int .i64 (w_i64 (a0.Lo * 65536))) 40) <|
      .cons [41] (ok_val (fun ν8 => .pointer (some ⟨((ν1 1).n 0), 0, none⟩)) 41) <|
      .cons [42] (ok_ld (fun ν8 => .int .i64 a1.Lo) 42 86 0 1 (fun ν8 => ((ν1 1).n 0)) (fun ν8 => [.int .i64 a1.Lo, .int .i64 a1.Hi]) 23) <|
      .cons [43] (ok_callv 25 (fun ν8 => #[.int .i64 (w_i64 (a0.Lo * 65536)), .int .i64 a1.Lo]) (.int .i64 t9) 43 [] (fun _ w _ => armillaryref02_Floor.calls (w_i64 (a0.Lo * 65536)) a1.Lo t9 w ht9)) <|
      .cons [44] (ok_val (fun ν8 => .pointer (some ⟨((ν1 0).n 0), 0, none⟩)) 44) <|
      .cons [45] (ok_ld (fun ν8 => .int .i64 a0.Lo) 45 85 0 1 (fun ν8 => ((ν1 0).n 0)) (fun ν8 => [.int .i64 a0.Lo, .int .i64 a0.Hi]) 23) <|
      .cons [46] (ok_val (fun ν8 => .int .i64 (w_i64 (a0.Lo * 65536))) 46) <|
      .cons [47] (ok_val (fun ν8 => .pointer (some ⟨((ν1 1).n 0), 0, none⟩)) 47) <|
      .cons [48] (ok_ld (fun ν8 => .int .i64 a1.Lo) 48 86 0 1 (fun ν8 => ((ν1 1).n 0)) (fun ν8 => [.int .i64 a1.Lo, .int .i64 a1.Hi]) 23) <|
      .cons [49] (ok_callv 26 (fun ν8 => #[.int .i64 (w_i64 (a0.Lo * 65536)), .int .i64 a1.Lo]) (.int .i64 t10) 49 [] (fun _ w _ => armillaryref02_Ceil.calls (w_i64 (a0.Lo * 65536)) a1.Lo t10 w ht10)) <|
      .cons [7] (ok_val (fun ν8 => .int .i64 t9) 7) <|
      .cons [8] (ok_val (fun ν8 => .int .i64 t10) 8) <| .nil) (by kernel_rfl) fun ν8 a w' H => ?_
    replace H := H.toL [(4, .slot true (.pointer (some ⟨((ν1 2).n 0), 0, none⟩))), (5, .slot true (.slice (some ⟨((ν7 4).n 0), 0, none⟩) 2 2)), (6, .slot true (.slice (some ⟨((ν7 9).n 0), 0, none⟩) 2 2)), (7, .slot true (.int .i64 t9)), (8, .slot true (.int .i64 t10)), (87, .blk ((ν1 2).n 0) [.int .i64 0, .int .i64 0] 23), (88, .blk ((ν7 4).n 0) [.int .i64 a0.Lo, .int .i64 a0.Hi] 2), (89, .blk ((ν7 9).n 0) [.int .i64 a1.Lo, .int .i64 a1.Hi] 2)] (by kernel_rfl)
    refine k_seq ?_
    replace G := bnd G; obtain ⟨j13, hj13, G⟩ := G
    refine k_join (fun a w' => Rep w.heap.size w 85 (ofL [(4, .slot true (.pointer (some ⟨((ν1 2).n 0), 0, none⟩))), (7, .slot true (.int .i64 j13.1)), (8, .slot true (.int .i64 j13.2)), (87, .blk ((ν1 2).n 0) [.int .i64 0, .int .i64 0] 23)]) a w') ?_ ?_
    · clear H; intro a w' H
      refine k_seq ?_
      replace G := bnd G; obtain ⟨t15, ht15, G⟩ := G
      refine k_reg mixed H (.cons [82] (ok_val (fun ν14 => .int .i64 j13.1) 82) <|
      .cons [83] (ok_val (fun ν14 => .int .i64 j13.2) 83) <|
      .cons [84] (ok_callv 55 (fun ν14 => #[.int .i64 j13.1, .int .i64 j13.2]) (.agg #[.int .i64 t15.Lo, .int .i64 t15.Hi]) 84 [] (fun _ w _ => armillaryref02_New.calls j13.1 j13.2 t15 w ht15)) <|
      .cons [87] (ok_as (u' := fun ν14 => [(87, .blk ((ν1 2).n 0) [.int .i64 t15.Lo, .int .i64 t15.Hi] 23)]) (ok_store 87 0 (fun ν14 => ((ν1 2).n 0)) (fun ν14 => [.int .i64 0, .int .i64 0]) (fun ν14 => [.int .i64 t15.Lo, .int .i64 t15.Hi]) 23) (fun _ => by kernel_rfl)) <| .nil) (by kernel_rfl) fun ν14 a w' H => ?_
      replace H := H.toL [(4, .slot true (.pointer (some ⟨((ν1 2).n 0), 0, none⟩))), (87, .blk ((ν1 2).n 0) [.int .i64 t15.Lo, .int .i64 t15.Hi] 23)] (by kernel_rfl)
      refine k_ret ?_
      obtain rfl := Option.some.inj G
      exact k_done1 H _ 87 ((ν1 2).n 0) [.int .i64 t15.Lo, .int .i64 t15.Hi] 23 0 2 (by kernel_rfl) (by kernel_rfl) (by kernel_rfl) (by kernel_rfl)
    · clear G; replace G := hj13; clear hj13
      refine k_seq ?_
      refine k_reg mixed H (.cons [9] (ok_val (fun ν16 => .int .i64 0) 9) <| .nil) (by kernel_rfl) fun ν16 a w' H => ?_
      replace H := H.toL [(4, .slot true (.pointer (some ⟨((ν1 2).n 0), 0, none⟩))), (5, .slot true (.slice (some ⟨((ν7 4).n 0), 0, none⟩) 2 2)), (6, .slot true (.slice (some ⟨((ν7 9).n 0), 0, none⟩) 2 2)), (7, .slot true (.int .i64 t9)), (8, .slot true (.int .i64 t10)), (9, .slot true (.int .i64 0)), (87, .blk ((ν1 2).n 0) [.int .i64 0, .int .i64 0] 23), (88, .blk ((ν7 4).n 0) [.int .i64 a0.Lo, .int .i64 a0.Hi] 2), (89, .blk ((ν7 9).n 0) [.int .i64 a1.Lo, .int .i64 a1.Hi] 2)] (by kernel_rfl)
      refine k_block ?_
      refine k_loopJ (fun m a w' => ∃ x17 : Int, ∃ x18 : Int, ∃ x19 : Int, armillaryref02_Div.l20 k0 a0 a1 t3 t4 t9 t10 m x17 x18 x19 = some j13 ∧ Rep w.heap.size w 85 (ofL [(4, .slot true (.pointer (some ⟨((ν1 2).n 0), 0, none⟩))), (5, .slot true (.slice (some ⟨((ν7 4).n 0), 0, none⟩) 2 2)), (6, .slot true (.slice (some ⟨((ν7 9).n 0), 0, none⟩) 2 2)), (7, .slot true (.int .i64 x17)), (8, .slot true (.int .i64 x18)), (9, .slot true (.int .i64 x19)), (87, .blk ((ν1 2).n 0) [.int .i64 0, .int .i64 0] 23), (88, .blk ((ν7 4).n 0) [.int .i64 a0.Lo, .int .i64 a0.Hi] 2), (89, .blk ((ν7 9).n 0) [.int .i64 a1.Lo, .int .i64 a1.Hi] 2)]) a w') k0 ⟨_, _, _, G, H.toL _ (by kernel_rfl)⟩ ?_
      clear G H
      rintro (_ | k) a w' ⟨x17, x18, x19, G, H⟩
      · exact absurd G (by unfold armillaryref02_Div.l20; exact fun h => by cases h)
      · unfold armillaryref02_Div.l20 at G
        refine k_seq ?_
        refine k_seq ?_
        refine k_reg mixed H (.cons [50] (ok_val (fun ν21 => .int .i64 x19) 50) <|
      .cons [51] (ok_val (fun ν21 => .bool (decide (x19 < 2))) 51) <| .nil) (by kernel_rfl) fun ν21 a w' H => ?_
        replace H := H.toL [(4, .slot true (.pointer (some ⟨((ν1 2).n 0), 0, none⟩))), (5, .slot true (.slice (some ⟨((ν7 4).n 0), 0, none⟩) 2 2)), (6, .slot true (.slice (some ⟨((ν7 9).n 0), 0, none⟩) 2 2)), (7, .slot true (.int .i64 x17)), (8, .slot true (.int .i64 x18)), (9, .slot true (.int .i64 x19)), (50, .slot true (.int .i64 x19)), (51, .slot true (.bool (decide (x19 < 2)))), (87, .blk ((ν1 2).n 0) [.int .i64 0, .int .i64 0] 23), (88, .blk ((ν7 4).n 0) [.int .i64 a0.Lo, .int .i64 a0.Hi] 2), (89, .blk ((ν7 9).n 0) [.int .i64 a1.Lo, .int .i64 a1.Hi] 2)] (by kernel_rfl)
        refine k_cond H (by kernel_rfl) (t := decide (x19 < 2)) (by kernel_rfl) (fun c49 => ?_) (fun c49 => ?_)
        · rw [if_pos c49] at G
          refine k_skip ?_
          refine k_seq ?_
          replace G := bnd G; obtain ⟨j27, hj27, G⟩ := G
          refine k_join (fun a w' => Rep w.heap.size w 85 (ofL [(4, .slot true (.pointer (some ⟨((ν1 2).n 0), 0, none⟩))), (5, .slot true (.slice (some ⟨((ν7 4).n 0), 0, none⟩) 2 2)), (6, .slot true (.slice (some ⟨((ν7 9).n 0), 0, none⟩) 2 2)), (7, .slot true (.int .i64 j27.1)), (8, .slot true (.int .i64 j27.2.1)), (9, .slot true (.int .i64 x19)), (10, .slot true (.int .i64 j27.2.2.1)), (50, .slot true (.int .i64 x19)), (51, .slot true (.bool (decide (x19 < 2)))), (54, .slot true (.int .i64 j27.2.2.2.1)), (55, .slot true (.bool j27.2.2.2.2)), (87, .blk ((ν1 2).n 0) [.int .i64 0, .int .i64 0] 23), (88, .blk ((ν7 4).n 0) [.int .i64 a0.Lo, .int .i64 a0.Hi] 2), (89, .blk ((ν7 9).n 0) [.int .i64 a1.Lo, .int .i64 a1.Hi] 2)]) a w') ?_ ?_
          · clear H; intro a w' H
            refine k_reg mixed H (.cons [52] (ok_val (fun ν28 => .int .i64 x19) 52) <|
      .cons [53] (ok_val (fun ν28 => .int .i64 (w_i64 (x19 + 1))) 53) <|
      .cons [9] (ok_val (fun ν28 => .int .i64 (w_i64 (x19 + 1))) 9) <| .nil) (by kernel_rfl) fun ν28 a w' H => ?_
            replace H := H.toL [(4, .slot true (.pointer (some ⟨((ν1 2).n 0), 0, none⟩))), (5, .slot true (.slice (some ⟨((ν7 4).n 0), 0, none⟩) 2 2)), (6, .slot true (.slice (some ⟨((ν7 9).n 0), 0, none⟩) 2 2)), (7, .slot true (.int .i64 j27.1)), (8, .slot true (.int .i64 j27.2.1)), (9, .slot true (.int .i64 (w_i64 (x19 + 1)))), (10, .slot true (.int .i64 j27.2.2.1)), (50, .slot true (.int .i64 x19)), (51, .slot true (.bool (decide (x19 < 2)))), (52, .slot true (.int .i64 x19)), (53, .slot true (.int .i64 (w_i64 (x19 + 1)))), (54, .slot true (.int .i64 j27.2.2.2.1)), (55, .slot true (.bool j27.2.2.2.2)), (87, .blk ((ν1 2).n 0) [.int .i64 0, .int .i64 0] 23), (88, .blk ((ν7 4).n 0) [.int .i64 a0.Lo, .int .i64 a0.Hi] 2), (89, .blk ((ν7 9).n 0) [.int .i64 a1.Lo, .int .i64 a1.Hi] 2)] (by kernel_rfl)
            exact ⟨k, Nat.lt_succ_self k, _, _, _, G, H.toL _ (by kernel_rfl)⟩
          · clear G; replace G := hj27; clear hj27
            refine k_block ?_
            refine k_seq ?_
            refine k_reg mixed H (.cons [10] (ok_val (fun ν29 => .int .i64 0) 10) <| .nil) (by kernel_rfl) fun ν29 a w' H => ?_
            replace H := H.toL [(4, .slot true (.pointer (some ⟨((ν1 2).n 0), 0, none⟩))), (5, .slot true (.slice (some ⟨((ν7 4).n 0), 0, none⟩) 2 2)), (6, .slot true (.slice (some ⟨((ν7 9).n 0), 0, none⟩) 2 2)), (7, .slot true (.int .i64 x17)), (8, .slot true (.int .i64 x18)), (9, .slot true (.int .i64 x19)), (10, .slot true (.int .i64 0)), (50, .slot true (.int .i64 x19)), (51, .slot true (.bool (decide (x19 < 2)))), (87, .blk ((ν1 2).n 0) [.int .i64 0, .int .i64 0] 23), (88, .blk ((ν7 4).n 0) [.int .i64 a0.Lo, .int .i64 a0.Hi] 2), (89, .blk ((ν7 9).n 0) [.int .i64 a1.Lo, .int .i64 a1.Hi] 2)] (by kernel_rfl)
            refine k_block ?_
            refine k_loopJ (fun m a w' => ∃ x30 : Int, ∃ x31 : Int, ∃ x32 : Int, armillaryref02_Div.l33 k0 a0 a1 t3 t4 t9 t10 x17 x18 x19 m x30 x31 x32 = some j27 ∧ Rep w.heap.size w 85 (ofL [(4, .slot true (.pointer (some ⟨((ν1 2).n 0), 0, none⟩))), (5, .slot true (.slice (some ⟨((ν7 4).n 0), 0, none⟩) 2 2)), (6, .slot true (.slice (some ⟨((ν7 9).n 0), 0, none⟩) 2 2)), (7, .slot true (.int .i64 x30)), (8, .slot true (.int .i64 x31)), (9, .slot true (.int .i64 x19)), (10, .slot true (.int .i64 x32)), (50, .slot true (.int .i64 x19)), (51, .slot true (.bool (decide (x19 < 2)))), (87, .blk ((ν1 2).n 0) [.int .i64 0, .int .i64 0] 23), (88, .blk ((ν7 4).n 0) [.int .i64 a0.Lo, .int .i64 a0.Hi] 2), (89, .blk ((ν7 9).n 0) [.int .i64 a1.Lo, .int .i64 a1.Hi] 2)]) a w') k0 ⟨_, _, _, G, H.toL _ (by kernel_rfl)⟩ ?_
            clear G H
            rintro (_ | k) a w' ⟨x30, x31, x32, G, H⟩
            · exact absurd G (by unfold armillaryref02_Div.l33; exact fun h => by cases h)
            · unfold armillaryref02_Div.l33 at G
              refine k_seq ?_
              refine k_seq ?_
              refine k_reg mixed H (.cons [54] (ok_val (fun ν34 => .int .i64 x32) 54) <|
      .cons [55] (ok_val (fun ν34 => .bool (decide (x32 < 2))) 55) <| .nil) (by kernel_rfl) fun ν34 a w' H => ?_
              replace H := H.toL [(4, .slot true (.pointer (some ⟨((ν1 2).n 0), 0, none⟩))), (5, .slot true (.slice (some ⟨((ν7 4).n 0), 0, none⟩) 2 2)), (6, .slot true (.slice (some ⟨((ν7 9).n 0), 0, none⟩) 2 2)), (7, .slot true (.int .i64 x30)), (8, .slot true (.int .i64 x31)), (9, .slot true (.int .i64 x19)), (10, .slot true (.int .i64 x32)), (50, .slot true (.int .i64 x19)), (51, .slot true (.bool (decide (x19 < 2)))), (54, .slot true (.int .i64 x32)), (55, .slot true (.bool (decide (x32 < 2)))), (87, .blk ((ν1 2).n 0) [.int .i64 0, .int .i64 0] 23), (88, .blk ((ν7 4).n 0) [.int .i64 a0.Lo, .int .i64 a0.Hi] 2), (89, .blk ((ν7 9).n 0) [.int .i64 a1.Lo, .int .i64 a1.Hi] 2)] (by kernel_rfl)
              refine k_cond H (by kernel_rfl) (t := decide (x32 < 2)) (by kernel_rfl) (fun c48 => ?_) (fun c48 => ?_)
              · rw [if_pos c48] at G
                refine k_skip ?_
                refine k_seq ?_
                refine k_block ?_
                refine k_seq ?_
                replace G := gd G; obtain ⟨b36, G⟩ := G
                replace G := bnd G; obtain ⟨t37, ht37, G⟩ := G
                replace G := gd G; obtain ⟨b38, G⟩ := G
                replace G := bnd G; obtain ⟨t39, ht39, G⟩ := G
                replace G := bnd G; obtain ⟨t40, ht40, G⟩ := G
                refine k_reg mixed H (.cons [58] (ok_val (fun ν35 => .int .i64 x30) 58) <|
      .cons [59] (ok_val (fun ν35 => .slice (some ⟨((ν7 4).n 0), 0, none⟩) 2 2) 59) <|
      .cons [60] (ok_val (fun ν35 => .int .i64 x19) 60) <|
      .cons [61] (ok_val (fun ν35 => .pointer (some ⟨((ν7 4).n 0), (0 + x19.toNat * 1), none⟩)) 61 (hv := fun _ _ => run_of (by kernel_rfl) (run_indexAddr (t := 40) (b := ((ν7 4).n 0)) (o := 0) (len := 2) (cap := 2) (k := .i64) (i := x19) (sz := 1) (by kernel_rfl) (by kernel_rfl) b36))) <|
      .cons [62] (ok_lds (fun ν35 => .int .i64 t37) 62 88 (fun ν35 => (0 + x19.toNat * 1)) (fun ν35 => ((ν7 4).n 0)) (fun ν35 => [.int .i64 a0.Lo, .int .i64 a0.Hi]) 2 (fun ν35 => elt_int ht37)) <|
      .cons [63] (ok_val (fun ν35 => .int .i64 (w_i64 (t37 * 65536))) 63) <|
      .cons [64] (ok_val (fun ν35 => .slice (some ⟨((ν7 9).n 0), 0, none⟩) 2 2) 64) <|
      .cons [65] (ok_val (fun ν35 => .int .i64 x32) 65) <|
      .cons [66] (ok_val (fun ν35 => .pointer (some ⟨((ν7 9).n 0), (0 + x32.toNat * 1), none⟩)) 66 (hv := fun _ _ => run_of (by kernel_rfl) (run_indexAddr (t := 40) (b := ((ν7 9).n 0)) (o := 0) (len := 2) (cap := 2) (k := .i64) (i := x32) (sz := 1) (by kernel_rfl) (by kernel_rfl) b38))) <|
      .cons [67] (ok_lds (fun ν35 => .int .i64 t39) 67 89 (fun ν35 => (0 + x32.toNat * 1)) (fun ν35 => ((ν7 9).n 0)) (fun ν35 => [.int .i64 a1.Lo, .int .i64 a1.Hi]) 2 (fun ν35 => elt_int ht39)) <|
      .cons [68] (ok_callv 25 (fun ν35 => #[.int .i64 (w_i64 (t37 * 65536)), .int .i64 t39]) (.int .i64 t40) 68 [] (fun _ w _ => armillaryref02_Floor.calls (w_i64 (t37 * 65536)) t39 t40 w ht40)) <|
      .cons [69] (ok_val (fun ν35 => .int .i64 (mn x30 t40)) 69) <|
      .cons [7] (ok_val (fun ν35 => .int .i64 (mn x30 t40)) 7) <| .nil) (by kernel_rfl) fun ν35 a w' H => ?_
                replace H := H.toL [(4, .slot true (.pointer (some ⟨((ν1 2).n 0), 0, none⟩))), (5, .slot true (.slice (some ⟨((ν7 4).n 0), 0, none⟩) 2 2)), (6, .slot true (.slice (some ⟨((ν7 9).n 0), 0, none⟩) 2 2)), (7, .slot true (.int .i64 (mn x30 t40))), (8, .slot true (.int .i64 x31)), (9, .slot true (.int .i64 x19)), (10, .slot true (.int .i64 x32)), (50, .slot true (.int .i64 x19)), (51, .slot true (.bool (decide (x19 < 2)))), (54, .slot true (.int .i64 x32)), (55, .slot true (.bool (decide (x32 < 2)))), (58, .slot true (.int .i64 x30)), (59, .slot true (.slice (some ⟨((ν7 4).n 0), 0, none⟩) 2 2)), (60, .slot true (.int .i64 x19)), (61, .slot true (.pointer (some ⟨((ν7 4).n 0), (0 + x19.toNat * 1), none⟩))), (62, .slot true (.int .i64 t37)), (63, .slot true (.int .i64 (w_i64 (t37 * 65536)))), (64, .slot true (.slice (some ⟨((ν7 9).n 0), 0, none⟩) 2 2)), (65, .slot true (.int .i64 x32)), (66, .slot true (.pointer (some ⟨((ν7 9).n 0), (0 + x32.toNat * 1), none⟩))), (67, .slot true (.int .i64 t39)), (68, .slot true (.int .i64 t40)), (69, .slot true (.int .i64 (mn x30 t40))), (87, .blk ((ν1 2).n 0) [.int .i64 0, .int .i64 0] 23), (88, .blk ((ν7 4).n 0) [.int .i64 a0.Lo, .int .i64 a0.Hi] 2), (89, .blk ((ν7 9).n 0) [.int .i64 a1.Lo, .int .i64 a1.Hi] 2)] (by kernel_rfl)
                replace G := gd G; obtain ⟨b42, G⟩ := G
                replace G := bnd G; obtain ⟨t43, ht43, G⟩ := G
                replace G := gd G; obtain ⟨b44, G⟩ := G
                replace G := bnd G; obtain ⟨t45, ht45, G⟩ := G
                replace G := bnd G; obtain ⟨t46, ht46, G⟩ := G
                refine k_reg mixed H (.cons [70] (ok_val (fun ν41 => .int .i64 x31) 70) <|
      .cons [71] (ok_val (fun ν41 => .slice (some ⟨((ν7 4).n 0), 0, none⟩) 2 2) 71) <|
      .cons [72] (ok_val (fun ν41 => .int .i64 x19) 72) <|
      .cons [73] (ok_val (fun ν41 => .pointer (some ⟨((ν7 4).n 0), (0 + x19.toNat * 1), none⟩)) 73 (hv := fun _ _ => run_of (by kernel_rfl) (run_indexAddr (t := 40) (b := ((ν7 4).n 0)) (o := 0) (len := 2) (cap := 2) (k := .i64) (i := x19) (sz := 1) (by kernel_rfl) (by kernel_rfl) b42))) <|
      .cons [74] (ok_lds (fun ν41 => .int .i64 t43) 74 88 (fun ν41 => (0 + x19.toNat * 1)) (fun ν41 => ((ν7 4).n 0)) (fun ν41 => [.int .i64 a0.Lo, .int .i64 a0.Hi]) 2 (fun ν41 => elt_int ht43)) <|
      .cons [75] (ok_val (fun ν41 => .int .i64 (w_i64 (t43 * 65536))) 75) <|
      .cons [76] (ok_val (fun ν41 => .slice (some ⟨((ν7 9).n 0), 0, none⟩) 2 2) 76) <|
      .cons [77] (ok_val (fun ν41 => .int .i64 x32) 77) <|
      .cons [78] (ok_val (fun ν41 => .pointer (some ⟨((ν7 9).n 0), (0 + x32.toNat * 1), none⟩)) 78 (hv := fun _ _ => run_of (by kernel_rfl) (run_indexAddr (t := 40) (b := ((ν7 9).n 0)) (o := 0) (len := 2) (cap := 2) (k := .i64) (i := x32) (sz := 1) (by kernel_rfl) (by kernel_rfl) b44))) <|
      .cons [79] (ok_lds (fun ν41 => .int .i64 t45) 79 89 (fun ν41 => (0 + x32.toNat * 1)) (fun ν41 => ((ν7 9).n 0)) (fun ν41 => [.int .i64 a1.Lo, .int .i64 a1.Hi]) 2 (fun ν41 => elt_int ht45)) <|
      .cons [80] (ok_callv 26 (fun ν41 => #[.int .i64 (w_i64 (t43 * 65536)), .int .i64 t45]) (.int .i64 t46) 80 [] (fun _ w _ => armillaryref02_Ceil.calls (w_i64 (t43 * 65536)) t45 t46 w ht46)) <|
      .cons [81] (ok_val (fun ν41 => .int .i64 (mx x31 t46)) 81) <|
      .cons [8] (ok_val (fun ν41 => .int .i64 (mx x31 t46)) 8) <| .nil) (by kernel_rfl) fun ν41 a w' H => ?_
                replace H := H.toL [(4, .slot true (.pointer (some ⟨((ν1 2).n 0), 0, none⟩))), (5, .slot true (.slice (some ⟨((ν7 4).n 0), 0, none⟩) 2 2)), (6, .slot true (.slice (some ⟨((ν7 9).n 0), 0, none⟩) 2 2)), (7, .slot true (.int .i64 (mn x30 t40))), (8, .slot true (.int .i64 (mx x31 t46))), (9, .slot true (.int .i64 x19)), (10, .slot true (.int .i64 x32)), (50, .slot true (.int .i64 x19)), (51, .slot true (.bool (decide (x19 < 2)))), (54, .slot true (.int .i64 x32)), (55, .slot true (.bool (decide (x32 < 2)))), (58, .slot true (.int .i64 x30)), (59, .slot true (.slice (some ⟨((ν7 4).n 0), 0, none⟩) 2 2)), (60, .slot true (.int .i64 x19)), (61, .slot true (.pointer (some ⟨((ν7 4).n 0), (0 + x19.toNat * 1), none⟩))), (62, .slot true (.int .i64 t37)), (63, .slot true (.int .i64 (w_i64 (t37 * 65536)))), (64, .slot true (.slice (some ⟨((ν7 9).n 0), 0, none⟩) 2 2)), (65, .slot true (.int .i64 x32)), (66, .slot true (.pointer (some ⟨((ν7 9).n 0), (0 + x32.toNat * 1), none⟩))), (67, .slot true (.int .i64 t39)), (68, .slot true (.int .i64 t40)), (69, .slot true (.int .i64 (mn x30 t40))), (70, .slot true (.int .i64 x31)), (71, .slot true (.slice (some ⟨((ν7 4).n 0), 0, none⟩) 2 2)), (72, .slot true (.int .i64 x19)), (73, .slot true (.pointer (some ⟨((ν7 4).n 0), (0 + x19.toNat * 1), none⟩))), (74, .slot true (.int .i64 t43)), (75, .slot true (.int .i64 (w_i64 (t43 * 65536)))), (76, .slot true (.slice (some ⟨((ν7 9).n 0), 0, none⟩) 2 2)), (77, .slot true (.int .i64 x32)), (78, .slot true (.pointer (some ⟨((ν7 9).n 0), (0 + x32.toNat * 1), none⟩))), (79, .slot true (.int .i64 t45)), (80, .slot true (.int .i64 t46)), (81, .slot true (.int .i64 (mx x31 t46))), (87, .blk ((ν1 2).n 0) [.int .i64 0, .int .i64 0] 23), (88, .blk ((ν7 4).n 0) [.int .i64 a0.Lo, .int .i64 a0.Hi] 2), (89, .blk ((ν7 9).n 0) [.int .i64 a1.Lo, .int .i64 a1.Hi] 2)] (by kernel_rfl)
                refine k_reg mixed H (.cons [56] (ok_val (fun ν47 => .int .i64 x32) 56) <|
      .cons [57] (ok_val (fun ν47 => .int .i64 (w_i64 (x32 + 1))) 57) <|
      .cons [10] (ok_val (fun ν47 => .int .i64 (w_i64 (x32 + 1))) 10) <| .nil) (by kernel_rfl) fun ν47 a w' H => ?_
                replace H := H.toL [(4, .slot true (.pointer (some ⟨((ν1 2).n 0), 0, none⟩))), (5, .slot true (.slice (some ⟨((ν7 4).n 0), 0, none⟩) 2 2)), (6, .slot true (.slice (some ⟨((ν7 9).n 0), 0, none⟩) 2 2)), (7, .slot true (.int .i64 (mn x30 t40))), (8, .slot true (.int .i64 (mx x31 t46))), (9, .slot true (.int .i64 x19)), (10, .slot true (.int .i64 (w_i64 (x32 + 1)))), (50, .slot true (.int .i64 x19)), (51, .slot true (.bool (decide (x19 < 2)))), (54, .slot true (.int .i64 x32)), (55, .slot true (.bool (decide (x32 < 2)))), (56, .slot true (.int .i64 x32)), (57, .slot true (.int .i64 (w_i64 (x32 + 1)))), (58, .slot true (.int .i64 x30)), (59, .slot true (.slice (some ⟨((ν7 4).n 0), 0, none⟩) 2 2)), (60, .slot true (.int .i64 x19)), (61, .slot true (.pointer (some ⟨((ν7 4).n 0), (0 + x19.toNat * 1), none⟩))), (62, .slot true (.int .i64 t37)), (63, .slot true (.int .i64 (w_i64 (t37 * 65536)))), (64, .slot true (.slice (some ⟨((ν7 9).n 0), 0, none⟩) 2 2)), (65, .slot true (.int .i64 x32)), (66, .slot true (.pointer (some ⟨((ν7 9).n 0), (0 + x32.toNat * 1), none⟩))), (67, .slot true (.int .i64 t39)), (68, .slot true (.int .i64 t40)), (69, .slot true (.int .i64 (mn x30 t40))), (70, .slot true (.int .i64 x31)), (71, .slot true (.slice (some ⟨((ν7 4).n 0), 0, none⟩) 2 2)), (72, .slot true (.int .i64 x19)), (73, .slot true (.pointer (some ⟨((ν7 4).n 0), (0 + x19.toNat * 1), none⟩))), (74, .slot true (.int .i64 t43)), (75, .slot true (.int .i64 (w_i64 (t43 * 65536)))), (76, .slot true (.slice (some ⟨((ν7 9).n 0), 0, none⟩) 2 2)), (77, .slot true (.int .i64 x32)), (78, .slot true (.pointer (some ⟨((ν7 9).n 0), (0 + x32.toNat * 1), none⟩))), (79, .slot true (.int .i64 t45)), (80, .slot true (.int .i64 t46)), (81, .slot true (.int .i64 (mx x31 t46))), (87, .blk ((ν1 2).n 0) [.int .i64 0, .int .i64 0] 23), (88, .blk ((ν7 4).n 0) [.int .i64 a0.Lo, .int .i64 a0.Hi] 2), (89, .blk ((ν7 9).n 0) [.int .i64 a1.Lo, .int .i64 a1.Hi] 2)] (by kernel_rfl)
                exact ⟨k, Nat.lt_succ_self k, _, _, _, G, H.toL _ (by kernel_rfl)⟩
              · rw [if_neg (nt c48)] at G
                refine k_exit rfl ?_
                obtain rfl := Option.some.inj G
                exact H.toL _ (by kernel_rfl)
        · rw [if_neg (nt c49)] at G
          refine k_exit rfl ?_
          obtain rfl := Option.some.inj G
          exact H.toL _ (by kernel_rfl)

end Go.Proofs.YtmjnbhigomjjnaaDoor
