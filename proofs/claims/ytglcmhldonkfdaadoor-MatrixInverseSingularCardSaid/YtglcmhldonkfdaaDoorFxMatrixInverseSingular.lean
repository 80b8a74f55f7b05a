/- Functions that the law MatrixInverseSingular alone reaches. Printed by a program of this session. -/
import Derived.Test.YtglcmhldonkfdaaDoorFn3
set_option linter.unusedVariables false
set_option linter.unusedSimpArgs false
set_option maxRecDepth 100000
namespace Go.Proofs.YtglcmhldonkfdaaDoor
open Go Go.RowKit Go.Sx Go.Proofs
set_option maxHeartbeats 4000000 in
theorem armillaryref02_Div.calls (k0 : Nat) (a0 : TInterval) (a1 : TInterval) (r : TInterval) (w : World) (G : armillaryref02_Div k0 a0 a1 = some r) :
  Calls Tryd.prog 44 #[.agg #[vI a0.Lo, vI a0.Hi], .agg #[vI a1.Lo, vI a1.Hi]] w fun e w' => e = .returned (.agg #[vI r.Lo, vI r.Hi]) ∧ Below w.heap.size w w' := by
 refine k_enter (args := [.agg #[vI a0.Lo, vI a0.Hi], .agg #[vI a1.Lo, vI a1.Hi]]) 85 Tryd.func44 rfl (by kernel_rfl) (by kernel_rfl) fun a H => ?_
 unfold armillaryref02_Div at G
 refine k_seq ?_
 refine k_rg mixed H (.cons [2, 85] (ok_new (fun b => vP b 0) (fun u1 => [vI a0.Lo, vI a0.Hi]) 37 2 85) <|
   .cons [3, 86] (ok_new (fun b => vP b 0) (fun u1 => [vI a1.Lo, vI a1.Hi]) 37 3 86) <|
   .cons [4, 87] (ok_new (fun b => vP b 0) (fun u1 => [vI 0, vI 0]) 37 4 87) <| .nil) fun u1 a w' H => ?_
 replace H := H.kp [2, 3, 4, 85, 86, 87]
 refine k_seq ?_
 refine k_seq ?_
 replace G := bnd G; obtain ⟨t3, ht3, G⟩ := G
 replace G := bnd G; obtain ⟨t4, ht4, G⟩ := G
 refine k_rg mixed H (.cons [11] (ok_ld (fun u2 => .agg #[vI a0.Lo, vI a0.Hi]) 11 85 0 2 (fun u2 => ((u1 0).n 0)) (fun u2 => [vI a0.Lo, vI a0.Hi]) 37) <|
   .cons [12] (ok_callv 40 (fun u2 => #[.agg #[vI a0.Lo, vI a0.Hi]]) (.bool t3) 12 [] (fun u2 w _ => armillaryref02_IsEntire.calls a0  t3 w  ht3)) <|
   .v 13 (.bool t3) <|
   .cons [14] (ok_ldg (fun u2 => .agg #[vI a1.Lo, vI a1.Hi]) (fun u2 => (t3 == false)) [true] 14 86 0 2 (fun u2 => ((u1 1).n 0)) (fun u2 => [vI a1.Lo, vI a1.Hi]) 37) <|
   .cons [15] (ok_call 40 (fun u2 => #[.agg #[vI a1.Lo, vI a1.Hi]]) (.bool t4) (fun u2 => (t3 == false)) [true, false] 15 [] (fun u2 w hg _ => armillaryref02_IsEntire.calls a1  t4 w  (ifp ht4 hg))) <|
   .cons [16] (ok_or 13 15 (fun u2 => true) (fun u2 => true) (fun u2 => t3) (fun u2 => t4) 16) <|
   .v 17 (.bool (t3 || t4)) <|
   .cons [18] (ok_valg (fun u2 => vP ((u1 1).n 0) 0) (fun u2 => ((t3 || t4) == false)) [true] 18) <|
   .cons [19] (ok_ldg (fun u2 => vI a1.Lo) (fun u2 => ((t3 || t4) == false)) [false] 19 86 0 1 (fun u2 => ((u1 1).n 0)) (fun u2 => [vI a1.Lo, vI a1.Hi]) 37) <|
   .cons [20] (ok_valg (fun u2 => .bool (decide (a1.Lo ≤ 0))) (fun u2 => ((t3 || t4) == false)) [false, true] 20) <|
   .cons [21] (ok_valg (fun u2 => .bool (decide (a1.Lo ≤ 0))) (fun u2 => ((t3 || t4) == false)) [false] 21) <|
   .cons [22] (ok_valg (fun u2 => vP ((u1 1).n 0) 1) (fun u2 => (((t3 || t4) == false) && ((decide (a1.Lo ≤ 0)) == true))) [true] 22) <|
   .cons [23] (ok_ldg (fun u2 => vI a1.Hi) (fun u2 => (((t3 || t4) == false) && ((decide (a1.Lo ≤ 0)) == true))) [false] 23 86 1 1 (fun u2 => ((u1 1).n 0)) (fun u2 => [vI a1.Lo, vI a1.Hi]) 37) <|
   .cons [24] (ok_valg (fun u2 => .bool (decide (a1.Hi ≥ 0))) (fun u2 => (((t3 || t4) == false) && ((decide (a1.Lo ≤ 0)) == true))) [false, true] 24) <|
   .cons [25] (ok_and 21 24 (fun u2 => ((t3 || t4) == false)) (fun u2 => ((t3 || t4) == false)) (fun u2 => decide (a1.Lo ≤ 0)) (fun u2 => decide (a1.Hi ≥ 0)) 25) <|
   .cons [26] (ok_or 17 25 (fun u2 => true) (fun u2 => true) (fun u2 => (t3 || t4)) (fun u2 => ((decide (a1.Lo ≤ 0)) && (decide (a1.Hi ≥ 0)))) 26) <| .nil) fun u2 a w' H => ?_
 replace H := H.kp [2, 3, 4, 26, 85, 86, 87]
 refine k_cond H (by kernel_rfl) (t := ((t3 || t4) || ((decide (a1.Lo ≤ 0)) && (decide (a1.Hi ≥ 0))))) (by kernel_rfl) (fun c47 => ?_) (fun c47 => ?_)
 ·rw [if_pos c47] at G
  refine k_seq ?_
  replace G := bnd G; obtain ⟨t6, ht6, G⟩ := G
  refine k_rg mixed H (.cons [27] (ok_callv 80 (fun u5 => #[]) (.agg #[vI t6.Lo, vI t6.Hi]) 27 [] (fun u5 w _ => armillaryref02_Entire.calls   t6 w  ht6)) <|
   .cons [87] (ok_as (u' := fun u5 => [(87, .blk ((u1 2).n 0) [vI t6.Lo, vI t6.Hi] 37)]) (ok_store 87 0 (fun u5 => ((u1 2).n 0)) (fun u5 => [vI 0, vI 0]) (fun u5 => [vI t6.Lo, vI t6.Hi]) 37) (fun _ => by kernel_rfl)) <| .nil) fun u5 a w' H => ?_
  replace H := H.kp [4, 87]
  refine k_ret ?_
  obtain rfl := Option.some.inj G
  exact k_done1 H _ 87 ((u1 2).n 0) [vI t6.Lo, vI t6.Hi] 37 0 2 (by kernel_rfl) (by kernel_rfl) (by kernel_rfl) (by kernel_rfl)
 ·rw [if_neg (nt c47)] at G
  refine k_skip ?_
  refine k_seq ?_
  refine k_rg mixed H (.v 28 (vP ((u1 0).n 0) 0) <|
   .cons [29] (ok_ld (fun u7 => vI a0.Lo) 29 85 0 1 (fun u7 => ((u1 0).n 0)) (fun u7 => [vI a0.Lo, vI a0.Hi]) 37) <|
   .v 30 (vP ((u1 0).n 0) 1) <|
   .cons [31] (ok_ld (fun u7 => vI a0.Hi) 31 85 1 1 (fun u7 => ((u1 0).n 0)) (fun u7 => [vI a0.Lo, vI a0.Hi]) 37) <|
   .cons [32, 88] (ok_new (fun b => .slice (some ⟨b, 0, none⟩) 2 2) (fun u7 => [vI a0.Lo, vI a0.Hi]) 2 32 88) <|
   .v 33 (vP ((u1 1).n 0) 0) <|
   .cons [34] (ok_ld (fun u7 => vI a1.Lo) 34 86 0 1 (fun u7 => ((u1 1).n 0)) (fun u7 => [vI a1.Lo, vI a1.Hi]) 37) <|
   .v 35 (vP ((u1 1).n 0) 1) <|
   .cons [36] (ok_ld (fun u7 => vI a1.Hi) 36 86 1 1 (fun u7 => ((u1 1).n 0)) (fun u7 => [vI a1.Lo, vI a1.Hi]) 37) <|
   .cons [37, 89] (ok_new (fun b => .slice (some ⟨b, 0, none⟩) 2 2) (fun u7 => [vI a1.Lo, vI a1.Hi]) 2 37 89) <|
   .cons [5] (ok_val (fun u7 => .slice (some ⟨((u7 4).n 0), 0, none⟩) 2 2) 5) <|
   .cons [6] (ok_val (fun u7 => .slice (some ⟨((u7 9).n 0), 0, none⟩) 2 2) 6) <| .nil) fun u7 a w' H => ?_
  replace H := H.kp [2, 3, 4, 5, 6, 85, 86, 87, 88, 89]
  refine k_seq ?_
  replace G := bnd G; obtain ⟨t9, ht9, G⟩ := G
  replace G := bnd G; obtain ⟨t10, ht10, G⟩ := G
  refine k_rg mixed H (.v 38 (vP ((u1 0).n 0) 0) <|
   .cons [39] (ok_ld (fun u8 => vI a0.Lo) 39 85 0 1 (fun u8 => ((u1 0).n 0)) (fun u8 => [vI a0.Lo, vI a0.Hi]) 37) <|
   .v 40 (vI (w_i64 (a0.Lo * 65536))) <|
   .v 41 (vP ((u1 1).n 0) 0) <|
   .cons [42] (ok_ld (fun u8 => vI a1.Lo) 42 86 0 1 (fun u8 => ((u1 1).n 0)) (fun u8 => [vI a1.Lo, vI a1.Hi]) 37) <|
   .cons [43] (ok_callv 81 (fun u8 => #[vI (w_i64 (a0.Lo * 65536)), vI a1.Lo]) (vI t9) 43 [] (fun u8 w _ => armillaryref02_Floor.calls (w_i64 (a0.Lo * 65536)) a1.Lo  t9 w  ht9)) <|
   .v 44 (vP ((u1 0).n 0) 0) <|
   .cons [45] (ok_ld (fun u8 => vI a0.Lo) 45 85 0 1 (fun u8 => ((u1 0).n 0)) (fun u8 => [vI a0.Lo, vI a0.Hi]) 37) <|
   .v 46 (vI (w_i64 (a0.Lo * 65536))) <|
   .v 47 (vP ((u1 1).n 0) 0) <|
   .cons [48] (ok_ld (fun u8 => vI a1.Lo) 48 86 0 1 (fun u8 => ((u1 1).n 0)) (fun u8 => [vI a1.Lo, vI a1.Hi]) 37) <|
   .cons [49] (ok_callv 82 (fun u8 => #[vI (w_i64 (a0.Lo * 65536)), vI a1.Lo]) (vI t10) 49 [] (fun u8 w _ => armillaryref02_Ceil.calls (w_i64 (a0.Lo * 65536)) a1.Lo  t10 w  ht10)) <|
   .v 7 (vI t9) <|
   .v 8 (vI t10) <| .nil) fun u8 a w' H => ?_
  replace H := H.kp [4, 5, 6, 7, 8, 87, 88, 89]
  refine k_seq ?_
  replace G := bnd G; obtain ⟨j13, hj13, G⟩ := G
  refine k_join (fun a w' => Rep w.heap.size w 85 (ofL [(4, (sP ((u1 2).n 0) 0)), (7, sI j13.1), (8, sI j13.2), (87, .blk ((u1 2).n 0) [vI 0, vI 0] 37)]) a w') ?_ ?_
  ·clear H; intro a w' H
   refine k_seq ?_
   replace G := bnd G; obtain ⟨t15, ht15, G⟩ := G
   refine k_rg mixed H (.v 82 (vI j13.1) <|
   .v 83 (vI j13.2) <|
   .cons [84] (ok_callv 79 (fun u14 => #[vI j13.1, vI j13.2]) (.agg #[vI t15.Lo, vI t15.Hi]) 84 [] (fun u14 w _ => armillaryref02_New.calls j13.1 j13.2  t15 w  ht15)) <|
   .cons [87] (ok_as (u' := fun u14 => [(87, .blk ((u1 2).n 0) [vI t15.Lo, vI t15.Hi] 37)]) (ok_store 87 0 (fun u14 => ((u1 2).n 0)) (fun u14 => [vI 0, vI 0]) (fun u14 => [vI t15.Lo, vI t15.Hi]) 37) (fun _ => by kernel_rfl)) <| .nil) fun u14 a w' H => ?_
   replace H := H.kp [4, 87]
   refine k_ret ?_
   obtain rfl := Option.some.inj G
   exact k_done1 H _ 87 ((u1 2).n 0) [vI t15.Lo, vI t15.Hi] 37 0 2 (by kernel_rfl) (by kernel_rfl) (by kernel_rfl) (by kernel_rfl)
  ·clear G; replace G := hj13; clear hj13
   refine k_seq ?_
   refine k_rg mixed H (.v 9 (vI 0) <| .nil) fun u16 a w' H => ?_
   replace H := H.kp [4, 5, 6, 7, 8, 9, 87, 88, 89]
   refine k_block ?_
   refine k_loopJ (fun m a w' => ∃ x17 : Int, ∃ x18 : Int, ∃ x19 : Int, armillaryref02_Div.l20 k0 a0 a1 t3 t4 t9 t10 m x17 x18 x19 = some j13 ∧ Rep w.heap.size w 85 (ofL [(4, (sP ((u1 2).n 0) 0)), (5, (sS (some ⟨((u7 4).n 0), 0, none⟩) 2 2)), (6, (sS (some ⟨((u7 9).n 0), 0, none⟩) 2 2)), (7, sI x17), (8, sI x18), (9, sI x19), (87, .blk ((u1 2).n 0) [vI 0, vI 0] 37), (88, .blk ((u7 4).n 0) [vI a0.Lo, vI a0.Hi] 2), (89, .blk ((u7 9).n 0) [vI a1.Lo, vI a1.Hi] 2)]) a w') k0 ⟨_, _, _, G, H.toL _ (by kernel_rfl)⟩ ?_
   clear G H
   rintro (_ | k) a w' ⟨x17, x18, x19, G, H⟩
   ·exact absurd G (by unfold armillaryref02_Div.l20; exact fun h => by cases h)
   ·unfold armillaryref02_Div.l20 at G
    refine k_seq ?_
    refine k_seq ?_
    refine k_rg mixed H (.v 50 (vI x19) <|
   .v 51 (.bool (decide (x19 < 2))) <| .nil) fun u21 a w' H => ?_
    replace H := H.kp [4, 5, 6, 7, 8, 9, 51, 87, 88, 89]
    refine k_cond H (by kernel_rfl) (t := decide (x19 < 2)) (by kernel_rfl) (fun c46 => ?_) (fun c46 => ?_)
    ·rw [if_pos c46] at G
     refine k_skip ?_
     refine k_seq ?_
     replace G := bnd G; obtain ⟨j24, hj24, G⟩ := G
     refine k_join (fun a w' => Rep w.heap.size w 85 (ofL [(4, (sP ((u1 2).n 0) 0)), (5, (sS (some ⟨((u7 4).n 0), 0, none⟩) 2 2)), (6, (sS (some ⟨((u7 9).n 0), 0, none⟩) 2 2)), (7, sI j24.1), (8, sI j24.2), (9, sI x19), (87, .blk ((u1 2).n 0) [vI 0, vI 0] 37), (88, .blk ((u7 4).n 0) [vI a0.Lo, vI a0.Hi] 2), (89, .blk ((u7 9).n 0) [vI a1.Lo, vI a1.Hi] 2)]) a w') ?_ ?_
     ·clear H; intro a w' H
      refine k_rg mixed H (.v 52 (vI x19) <|
   .v 53 (vI (w_i64 (x19 + 1))) <|
   .v 9 (vI (w_i64 (x19 + 1))) <| .nil) fun u25 a w' H => ?_
      replace H := H.kp [4, 5, 6, 7, 8, 9, 87, 88, 89]
      exact ⟨k, Nat.lt_succ_self k, _, _, _, G, H.toL _ (by kernel_rfl)⟩
     ·clear G; replace G := hj24; clear hj24
      refine k_block ?_
      refine k_seq ?_
      refine k_rg mixed H (.v 10 (vI 0) <| .nil) fun u26 a w' H => ?_
      replace H := H.kp [4, 5, 6, 7, 8, 9, 10, 87, 88, 89]
      refine k_block ?_
      refine k_loopJ (fun m a w' => ∃ x27 : Int, ∃ x28 : Int, ∃ x29 : Int, armillaryref02_Div.l30 k0 a0 a1 t3 t4 t9 t10 x17 x18 x19 m x27 x28 x29 = some j24 ∧ Rep w.heap.size w 85 (ofL [(4, (sP ((u1 2).n 0) 0)), (5, (sS (some ⟨((u7 4).n 0), 0, none⟩) 2 2)), (6, (sS (some ⟨((u7 9).n 0), 0, none⟩) 2 2)), (7, sI x27), (8, sI x28), (9, sI x19), (10, sI x29), (87, .blk ((u1 2).n 0) [vI 0, vI 0] 37), (88, .blk ((u7 4).n 0) [vI a0.Lo, vI a0.Hi] 2), (89, .blk ((u7 9).n 0) [vI a1.Lo, vI a1.Hi] 2)]) a w') k0 ⟨_, _, _, G, H.toL _ (by kernel_rfl)⟩ ?_
      clear G H
      rintro (_ | k) a w' ⟨x27, x28, x29, G, H⟩
      ·exact absurd G (by unfold armillaryref02_Div.l30; exact fun h => by cases h)
      ·unfold armillaryref02_Div.l30 at G
       refine k_seq ?_
       refine k_seq ?_
       refine k_rg mixed H (.v 54 (vI x29) <|
   .v 55 (.bool (decide (x29 < 2))) <| .nil) fun u31 a w' H => ?_
       replace H := H.kp [4, 5, 6, 7, 8, 9, 10, 55, 87, 88, 89]
       refine k_cond H (by kernel_rfl) (t := decide (x29 < 2)) (by kernel_rfl) (fun c45 => ?_) (fun c45 => ?_)
       ·rw [if_pos c45] at G
        refine k_skip ?_
        refine k_seq ?_
        refine k_block ?_
        refine k_seq ?_
        replace G := gd G; obtain ⟨b33, G⟩ := G
        replace G := bnd G; obtain ⟨t34, ht34, G⟩ := G
        replace G := gd G; obtain ⟨b35, G⟩ := G
        replace G := bnd G; obtain ⟨t36, ht36, G⟩ := G
        replace G := bnd G; obtain ⟨t37, ht37, G⟩ := G
        refine k_rg mixed H (.v 58 (vI x27) <|
   .v 59 (.slice (some ⟨((u7 4).n 0), 0, none⟩) 2 2) <|
   .v 60 (vI x19) <|
   .cons [61] (ok_val (fun u32 => .pointer (some ⟨((u7 4).n 0), (0 + x19.toNat * 1), none⟩)) 61 (hv := fun _ _ => run_of (by kernel_rfl) (run_indexAddr (t := 32) (b := ((u7 4).n 0)) (o := 0) (len := 2) (cap := 2) (k := .i64) (i := x19) (sz := 1) (by kernel_rfl) (by kernel_rfl) b33))) <|
   .cons [62] (ok_lds (fun u32 => vI t34) 62 88 (fun u32 => (0 + x19.toNat * 1)) (fun u32 => ((u7 4).n 0)) (fun u32 => [vI a0.Lo, vI a0.Hi]) 2 (fun u32 => elt_int ht34)) <|
   .v 63 (vI (w_i64 (t34 * 65536))) <|
   .v 64 (.slice (some ⟨((u7 9).n 0), 0, none⟩) 2 2) <|
   .v 65 (vI x29) <|
   .cons [66] (ok_val (fun u32 => .pointer (some ⟨((u7 9).n 0), (0 + x29.toNat * 1), none⟩)) 66 (hv := fun _ _ => run_of (by kernel_rfl) (run_indexAddr (t := 32) (b := ((u7 9).n 0)) (o := 0) (len := 2) (cap := 2) (k := .i64) (i := x29) (sz := 1) (by kernel_rfl) (by kernel_rfl) b35))) <|
   .cons [67] (ok_lds (fun u32 => vI t36) 67 89 (fun u32 => (0 + x29.toNat * 1)) (fun u32 => ((u7 9).n 0)) (fun u32 => [vI a1.Lo, vI a1.Hi]) 2 (fun u32 => elt_int ht36)) <|
   .cons [68] (ok_callv 81 (fun u32 => #[vI (w_i64 (t34 * 65536)), vI t36]) (vI t37) 68 [] (fun u32 w _ => armillaryref02_Floor.calls (w_i64 (t34 * 65536)) t36  t37 w  ht37)) <|
   .v 69 (vI (mn x27 t37)) <|
   .v 7 (vI (mn x27 t37)) <| .nil) fun u32 a w' H => ?_
        replace H := H.kp [4, 5, 6, 7, 8, 9, 10, 87, 88, 89]
        replace G := gd G; obtain ⟨b39, G⟩ := G
        replace G := bnd G; obtain ⟨t40, ht40, G⟩ := G
        replace G := gd G; obtain ⟨b41, G⟩ := G
        replace G := bnd G; obtain ⟨t42, ht42, G⟩ := G
        replace G := bnd G; obtain ⟨t43, ht43, G⟩ := G
        refine k_rg mixed H (.v 70 (vI x28) <|
   .v 71 (.slice (some ⟨((u7 4).n 0), 0, none⟩) 2 2) <|
   .v 72 (vI x19) <|
   .cons [73] (ok_val (fun u38 => .pointer (some ⟨((u7 4).n 0), (0 + x19.toNat * 1), none⟩)) 73 (hv := fun _ _ => run_of (by kernel_rfl) (run_indexAddr (t := 32) (b := ((u7 4).n 0)) (o := 0) (len := 2) (cap := 2) (k := .i64) (i := x19) (sz := 1) (by kernel_rfl) (by kernel_rfl) b39))) <|
   .cons [74] (ok_lds (fun u38 => vI t40) 74 88 (fun u38 => (0 + x19.toNat * 1)) (fun u38 => ((u7 4).n 0)) (fun u38 => [vI a0.Lo, vI a0.Hi]) 2 (fun u38 => elt_int ht40)) <|
   .v 75 (vI (w_i64 (t40 * 65536))) <|
   .v 76 (.slice (some ⟨((u7 9).n 0), 0, none⟩) 2 2) <|
   .v 77 (vI x29) <|
   .cons [78] (ok_val (fun u38 => .pointer (some ⟨((u7 9).n 0), (0 + x29.toNat * 1), none⟩)) 78 (hv := fun _ _ => run_of (by kernel_rfl) (run_indexAddr (t := 32) (b := ((u7 9).n 0)) (o := 0) (len := 2) (cap := 2) (k := .i64) (i := x29) (sz := 1) (by kernel_rfl) (by kernel_rfl) b41))) <|
   .cons [79] (ok_lds (fun u38 => vI t42) 79 89 (fun u38 => (0 + x29.toNat * 1)) (fun u38 => ((u7 9).n 0)) (fun u38 => [vI a1.Lo, vI a1.Hi]) 2 (fun u38 => elt_int ht42)) <|
   .cons [80] (ok_callv 82 (fun u38 => #[vI (w_i64 (t40 * 65536)), vI t42]) (vI t43) 80 [] (fun u38 w _ => armillaryref02_Ceil.calls (w_i64 (t40 * 65536)) t42  t43 w  ht43)) <|
   .v 81 (vI (mx x28 t43)) <|
   .v 8 (vI (mx x28 t43)) <| .nil) fun u38 a w' H => ?_
        replace H := H.kp [4, 5, 6, 7, 8, 9, 10, 87, 88, 89]
        refine k_rg mixed H (.v 56 (vI x29) <|
   .v 57 (vI (w_i64 (x29 + 1))) <|
   .v 10 (vI (w_i64 (x29 + 1))) <| .nil) fun u44 a w' H => ?_
        replace H := H.kp [4, 5, 6, 7, 8, 9, 10, 87, 88, 89]
        exact ⟨k, Nat.lt_succ_self k, _, _, _, G, H.toL _ (by kernel_rfl)⟩
       ·rw [if_neg (nt c45)] at G
        refine k_exit rfl ?_
        obtain rfl := Option.some.inj G
        exact H.toL _ (by kernel_rfl)
    ·rw [if_neg (nt c46)] at G
     refine k_exit rfl ?_
     obtain rfl := Option.some.inj G
     exact H.toL _ (by kernel_rfl)
end Go.Proofs.YtglcmhldonkfdaaDoor
