/- Functions that the law MatrixInverseInclusion alone reaches. Printed by a program of this session. -/
import Derived.Test.YtglcmhldonkfdaaDoorFn3
set_option linter.unusedVariables false
set_option linter.unusedSimpArgs false
set_option maxRecDepth 100000
namespace Go.Proofs.YtglcmhldonkfdaaDoor
open Go Go.RowKit Go.Sx Go.Proofs
set_option maxHeartbeats 4000000 in
theorem armillaryref02_Mul.calls (k0 : Nat) (a0 : TInterval) (a1 : TInterval) (r : TInterval) (w : World) (G : armillaryref02_Mul k0 a0 a1 = some r) :
  Calls Tryd.prog 77 #[.agg #[vI a0.Lo, vI a0.Hi], .agg #[vI a1.Lo, vI a1.Hi]] w fun e w' => e = .returned (.agg #[vI r.Lo, vI r.Hi]) ∧ Below w.heap.size w w' := by
 refine k_enter (args := [.agg #[vI a0.Lo, vI a0.Hi], .agg #[vI a1.Lo, vI a1.Hi]]) 64 Tryd.func77 rfl (by kernel_rfl) (by kernel_rfl) fun a H => ?_
 unfold armillaryref02_Mul at G
 refine k_seq ?_
 refine k_rg mixed H (.cons [2, 64] (ok_new (fun b => vP b 0) (fun u1 => [vI a0.Lo, vI a0.Hi]) 37 2 64) <|
   .cons [3, 65] (ok_new (fun b => vP b 0) (fun u1 => [vI a1.Lo, vI a1.Hi]) 37 3 65) <|
   .cons [4, 66] (ok_new (fun b => vP b 0) (fun u1 => [vI 0, vI 0]) 37 4 66) <| .nil) fun u1 a w' H => ?_
 replace H := H.kp [2, 3, 4, 64, 65, 66]
 refine k_seq ?_
 refine k_seq ?_
 replace G := bnd G; obtain ⟨t3, ht3, G⟩ := G
 replace G := bnd G; obtain ⟨t4, ht4, G⟩ := G
 refine k_rg mixed H (.cons [9] (ok_ld (fun u2 => .agg #[vI a0.Lo, vI a0.Hi]) 9 64 0 2 (fun u2 => ((u1 0).n 0)) (fun u2 => [vI a0.Lo, vI a0.Hi]) 37) <|
   .cons [10] (ok_callv 40 (fun u2 => #[.agg #[vI a0.Lo, vI a0.Hi]]) (.bool t3) 10 [] (fun u2 w _ => armillaryref02_IsEntire.calls a0  t3 w  ht3)) <|
   .v 11 (.bool t3) <|
   .cons [12] (ok_ldg (fun u2 => .agg #[vI a1.Lo, vI a1.Hi]) (fun u2 => (t3 == false)) [true] 12 65 0 2 (fun u2 => ((u1 1).n 0)) (fun u2 => [vI a1.Lo, vI a1.Hi]) 37) <|
   .cons [13] (ok_call 40 (fun u2 => #[.agg #[vI a1.Lo, vI a1.Hi]]) (.bool t4) (fun u2 => (t3 == false)) [true, false] 13 [] (fun u2 w hg _ => armillaryref02_IsEntire.calls a1  t4 w  (ifp ht4 hg))) <|
   .cons [14] (ok_or 11 13 (fun u2 => true) (fun u2 => true) (fun u2 => t3) (fun u2 => t4) 14) <| .nil) fun u2 a w' H => ?_
 replace H := H.kp [2, 3, 4, 14, 64, 65, 66]
 refine k_cond H (by kernel_rfl) (t := (t3 || t4)) (by kernel_rfl) (fun c30 => ?_) (fun c30 => ?_)
 ·rw [if_pos c30] at G
  refine k_seq ?_
  replace G := bnd G; obtain ⟨t6, ht6, G⟩ := G
  refine k_rg mixed H (.cons [15] (ok_callv 80 (fun u5 => #[]) (.agg #[vI t6.Lo, vI t6.Hi]) 15 [] (fun u5 w _ => armillaryref02_Entire.calls   t6 w  ht6)) <|
   .cons [66] (ok_as (u' := fun u5 => [(66, .blk ((u1 2).n 0) [vI t6.Lo, vI t6.Hi] 37)]) (ok_store 66 0 (fun u5 => ((u1 2).n 0)) (fun u5 => [vI 0, vI 0]) (fun u5 => [vI t6.Lo, vI t6.Hi]) 37) (fun _ => by kernel_rfl)) <| .nil) fun u5 a w' H => ?_
  replace H := H.kp [4, 66]
  refine k_ret ?_
  obtain rfl := Option.some.inj G
  exact k_done1 H _ 66 ((u1 2).n 0) [vI t6.Lo, vI t6.Hi] 37 0 2 (by kernel_rfl) (by kernel_rfl) (by kernel_rfl) (by kernel_rfl)
 ·rw [if_neg (nt c30)] at G
  refine k_skip ?_
  refine k_seq ?_
  refine k_rg mixed H (.v 16 (vP ((u1 0).n 0) 0) <|
   .cons [17] (ok_ld (fun u7 => vI a0.Lo) 17 64 0 1 (fun u7 => ((u1 0).n 0)) (fun u7 => [vI a0.Lo, vI a0.Hi]) 37) <|
   .v 18 (vP ((u1 1).n 0) 0) <|
   .cons [19] (ok_ld (fun u7 => vI a1.Lo) 19 65 0 1 (fun u7 => ((u1 1).n 0)) (fun u7 => [vI a1.Lo, vI a1.Hi]) 37) <|
   .v 20 (vI (w_i64 (a0.Lo * a1.Lo))) <|
   .v 21 (vP ((u1 0).n 0) 0) <|
   .cons [22] (ok_ld (fun u7 => vI a0.Lo) 22 64 0 1 (fun u7 => ((u1 0).n 0)) (fun u7 => [vI a0.Lo, vI a0.Hi]) 37) <|
   .v 23 (vP ((u1 1).n 0) 1) <|
   .cons [24] (ok_ld (fun u7 => vI a1.Hi) 24 65 1 1 (fun u7 => ((u1 1).n 0)) (fun u7 => [vI a1.Lo, vI a1.Hi]) 37) <|
   .v 25 (vI (w_i64 (a0.Lo * a1.Hi))) <|
   .v 26 (vP ((u1 0).n 0) 1) <|
   .cons [27] (ok_ld (fun u7 => vI a0.Hi) 27 64 1 1 (fun u7 => ((u1 0).n 0)) (fun u7 => [vI a0.Lo, vI a0.Hi]) 37) <|
   .v 28 (vP ((u1 1).n 0) 0) <|
   .cons [29] (ok_ld (fun u7 => vI a1.Lo) 29 65 0 1 (fun u7 => ((u1 1).n 0)) (fun u7 => [vI a1.Lo, vI a1.Hi]) 37) <|
   .v 30 (vI (w_i64 (a0.Hi * a1.Lo))) <|
   .v 31 (vP ((u1 0).n 0) 1) <|
   .cons [32] (ok_ld (fun u7 => vI a0.Hi) 32 64 1 1 (fun u7 => ((u1 0).n 0)) (fun u7 => [vI a0.Lo, vI a0.Hi]) 37) <|
   .v 33 (vP ((u1 1).n 0) 1) <|
   .cons [34] (ok_ld (fun u7 => vI a1.Hi) 34 65 1 1 (fun u7 => ((u1 1).n 0)) (fun u7 => [vI a1.Lo, vI a1.Hi]) 37) <|
   .v 35 (vI (w_i64 (a0.Hi * a1.Hi))) <|
   .cons [36, 67] (ok_new (fun b => .slice (some ⟨b, 0, none⟩) 4 4) (fun u7 => [vI (w_i64 (a0.Lo * a1.Lo)), vI (w_i64 (a0.Lo * a1.Hi)), vI (w_i64 (a0.Hi * a1.Lo)), vI (w_i64 (a0.Hi * a1.Hi))]) 2 36 67) <|
   .cons [5] (ok_val (fun u7 => .slice (some ⟨((u7 20).n 0), 0, none⟩) 4 4) 5) <| .nil) fun u7 a w' H => ?_
  replace H := H.kp [4, 5, 66, 67]
  refine k_seq ?_
  refine k_rg mixed H (.v 37 (.slice (some ⟨((u7 20).n 0), 0, none⟩) 4 4) <|
   .v 38 (vP ((u7 20).n 0) 0) <|
   .cons [39] (ok_ld (fun u8 => vI (w_i64 (a0.Lo * a1.Lo))) 39 67 0 1 (fun u8 => ((u7 20).n 0)) (fun u8 => [vI (w_i64 (a0.Lo * a1.Lo)), vI (w_i64 (a0.Lo * a1.Hi)), vI (w_i64 (a0.Hi * a1.Lo)), vI (w_i64 (a0.Hi * a1.Hi))]) 2) <|
   .v 40 (.slice (some ⟨((u7 20).n 0), 0, none⟩) 4 4) <|
   .v 41 (vP ((u7 20).n 0) 0) <|
   .cons [42] (ok_ld (fun u8 => vI (w_i64 (a0.Lo * a1.Lo))) 42 67 0 1 (fun u8 => ((u7 20).n 0)) (fun u8 => [vI (w_i64 (a0.Lo * a1.Lo)), vI (w_i64 (a0.Lo * a1.Hi)), vI (w_i64 (a0.Hi * a1.Lo)), vI (w_i64 (a0.Hi * a1.Hi))]) 2) <|
   .v 6 (vI (w_i64 (a0.Lo * a1.Lo))) <|
   .v 7 (vI (w_i64 (a0.Lo * a1.Lo))) <| .nil) fun u8 a w' H => ?_
  replace H := H.kp [4, 5, 6, 7, 66, 67]
  refine k_seq ?_
  replace G := bnd G; obtain ⟨j11, hj11, G⟩ := G
  refine k_join (fun a w' => Rep w.heap.size w 64 (ofL [(4, (sP ((u1 2).n 0) 0)), (6, sI j11.1), (7, sI j11.2), (66, .blk ((u1 2).n 0) [vI 0, vI 0] 37)]) a w') ?_ ?_
  ·clear H; intro a w' H
   refine k_seq ?_
   replace G := bnd G; obtain ⟨t13, ht13, G⟩ := G
   replace G := bnd G; obtain ⟨t14, ht14, G⟩ := G
   replace G := bnd G; obtain ⟨t15, ht15, G⟩ := G
   refine k_rg mixed H (.v 59 (vI j11.1) <|
   .cons [60] (ok_callv 81 (fun u12 => #[vI j11.1, vI 65536]) (vI t13) 60 [] (fun u12 w _ => armillaryref02_Floor.calls j11.1 65536  t13 w  ht13)) <|
   .v 61 (vI j11.2) <|
   .cons [62] (ok_callv 82 (fun u12 => #[vI j11.2, vI 65536]) (vI t14) 62 [] (fun u12 w _ => armillaryref02_Ceil.calls j11.2 65536  t14 w  ht14)) <|
   .cons [63] (ok_callv 79 (fun u12 => #[vI t13, vI t14]) (.agg #[vI t15.Lo, vI t15.Hi]) 63 [] (fun u12 w _ => armillaryref02_New.calls t13 t14  t15 w  ht15)) <|
   .cons [66] (ok_as (u' := fun u12 => [(66, .blk ((u1 2).n 0) [vI t15.Lo, vI t15.Hi] 37)]) (ok_store 66 0 (fun u12 => ((u1 2).n 0)) (fun u12 => [vI 0, vI 0]) (fun u12 => [vI t15.Lo, vI t15.Hi]) 37) (fun _ => by kernel_rfl)) <| .nil) fun u12 a w' H => ?_
   replace H := H.kp [4, 66]
   refine k_ret ?_
   obtain rfl := Option.some.inj G
   exact k_done1 H _ 66 ((u1 2).n 0) [vI t15.Lo, vI t15.Hi] 37 0 2 (by kernel_rfl) (by kernel_rfl) (by kernel_rfl) (by kernel_rfl)
  ·clear G; replace G := hj11; clear hj11
   refine k_seq ?_
   refine k_rg mixed H (.v 8 (vI 1) <| .nil) fun u16 a w' H => ?_
   replace H := H.kp [4, 5, 6, 7, 8, 66, 67]
   refine k_block ?_
   refine k_loopJ (fun m a w' => ∃ x17 : Int, ∃ x18 : Int, ∃ x19 : Int, armillaryref02_Mul.l20 k0 a0 a1 t3 t4 m x17 x18 x19 = some j11 ∧ Rep w.heap.size w 64 (ofL [(4, (sP ((u1 2).n 0) 0)), (5, (sS (some ⟨((u7 20).n 0), 0, none⟩) 4 4)), (6, sI x17), (7, sI x18), (8, sI x19), (66, .blk ((u1 2).n 0) [vI 0, vI 0] 37), (67, .blk ((u7 20).n 0) [vI (w_i64 (a0.Lo * a1.Lo)), vI (w_i64 (a0.Lo * a1.Hi)), vI (w_i64 (a0.Hi * a1.Lo)), vI (w_i64 (a0.Hi * a1.Hi))] 2)]) a w') k0 ⟨_, _, _, G, H.toL _ (by kernel_rfl)⟩ ?_
   clear G H
   rintro (_ | k) a w' ⟨x17, x18, x19, G, H⟩
   ·exact absurd G (by unfold armillaryref02_Mul.l20; exact fun h => by cases h)
   ·unfold armillaryref02_Mul.l20 at G
    refine k_seq ?_
    refine k_seq ?_
    refine k_rg mixed H (.v 43 (vI x19) <|
   .v 44 (.bool (decide (x19 < 4))) <| .nil) fun u21 a w' H => ?_
    replace H := H.kp [4, 5, 6, 7, 8, 44, 66, 67]
    refine k_cond H (by kernel_rfl) (t := decide (x19 < 4)) (by kernel_rfl) (fun c29 => ?_) (fun c29 => ?_)
    ·rw [if_pos c29] at G
     refine k_skip ?_
     refine k_seq ?_
     refine k_block ?_
     refine k_seq ?_
     replace G := gd G; obtain ⟨b23, G⟩ := G
     replace G := bnd G; obtain ⟨t24, ht24, G⟩ := G
     refine k_rg mixed H (.v 47 (vI x17) <|
   .v 48 (.slice (some ⟨((u7 20).n 0), 0, none⟩) 4 4) <|
   .v 49 (vI x19) <|
   .cons [50] (ok_val (fun u22 => .pointer (some ⟨((u7 20).n 0), (0 + x19.toNat * 1), none⟩)) 50 (hv := fun _ _ => run_of (by kernel_rfl) (run_indexAddr (t := 32) (b := ((u7 20).n 0)) (o := 0) (len := 4) (cap := 4) (k := .i64) (i := x19) (sz := 1) (by kernel_rfl) (by kernel_rfl) b23))) <|
   .cons [51] (ok_lds (fun u22 => vI t24) 51 67 (fun u22 => (0 + x19.toNat * 1)) (fun u22 => ((u7 20).n 0)) (fun u22 => [vI (w_i64 (a0.Lo * a1.Lo)), vI (w_i64 (a0.Lo * a1.Hi)), vI (w_i64 (a0.Hi * a1.Lo)), vI (w_i64 (a0.Hi * a1.Hi))]) 2 (fun u22 => elt_int ht24)) <|
   .v 52 (vI (mn x17 t24)) <|
   .v 6 (vI (mn x17 t24)) <| .nil) fun u22 a w' H => ?_
     replace H := H.kp [4, 5, 6, 7, 8, 66, 67]
     replace G := gd G; obtain ⟨b26, G⟩ := G
     replace G := bnd G; obtain ⟨t27, ht27, G⟩ := G
     refine k_rg mixed H (.v 53 (vI x18) <|
   .v 54 (.slice (some ⟨((u7 20).n 0), 0, none⟩) 4 4) <|
   .v 55 (vI x19) <|
   .cons [56] (ok_val (fun u25 => .pointer (some ⟨((u7 20).n 0), (0 + x19.toNat * 1), none⟩)) 56 (hv := fun _ _ => run_of (by kernel_rfl) (run_indexAddr (t := 32) (b := ((u7 20).n 0)) (o := 0) (len := 4) (cap := 4) (k := .i64) (i := x19) (sz := 1) (by kernel_rfl) (by kernel_rfl) b26))) <|
   .cons [57] (ok_lds (fun u25 => vI t27) 57 67 (fun u25 => (0 + x19.toNat * 1)) (fun u25 => ((u7 20).n 0)) (fun u25 => [vI (w_i64 (a0.Lo * a1.Lo)), vI (w_i64 (a0.Lo * a1.Hi)), vI (w_i64 (a0.Hi * a1.Lo)), vI (w_i64 (a0.Hi * a1.Hi))]) 2 (fun u25 => elt_int ht27)) <|
   .v 58 (vI (mx x18 t27)) <|
   .v 7 (vI (mx x18 t27)) <| .nil) fun u25 a w' H => ?_
     replace H := H.kp [4, 5, 6, 7, 8, 66, 67]
     refine k_rg mixed H (.v 45 (vI x19) <|
   .v 46 (vI (w_i64 (x19 + 1))) <|
   .v 8 (vI (w_i64 (x19 + 1))) <| .nil) fun u28 a w' H => ?_
     replace H := H.kp [4, 5, 6, 7, 8, 66, 67]
     exact ⟨k, Nat.lt_succ_self k, _, _, _, G, H.toL _ (by kernel_rfl)⟩
    ·rw [if_neg (nt c29)] at G
     refine k_exit rfl ?_
     obtain rfl := Option.some.inj G
     exact H.toL _ (by kernel_rfl)
set_option maxHeartbeats 4000000 in
theorem armillaryref02_Add.calls (a0 : TInterval) (a1 : TInterval) (r : TInterval) (w : World) (G : armillaryref02_Add a0 a1 = some r) :
  Calls Tryd.prog 78 #[.agg #[vI a0.Lo, vI a0.Hi], .agg #[vI a1.Lo, vI a1.Hi]] w fun e w' => e = .returned (.agg #[vI r.Lo, vI r.Hi]) ∧ Below w.heap.size w w' := by
 refine k_enter (args := [.agg #[vI a0.Lo, vI a0.Hi], .agg #[vI a1.Lo, vI a1.Hi]]) 23 Tryd.func78 rfl (by kernel_rfl) (by kernel_rfl) fun a H => ?_
 unfold armillaryref02_Add at G
 refine k_seq ?_
 refine k_rg mixed H (.cons [2, 23] (ok_new (fun b => vP b 0) (fun u1 => [vI a0.Lo, vI a0.Hi]) 37 2 23) <|
   .cons [3, 24] (ok_new (fun b => vP b 0) (fun u1 => [vI a1.Lo, vI a1.Hi]) 37 3 24) <|
   .cons [4, 25] (ok_new (fun b => vP b 0) (fun u1 => [vI 0, vI 0]) 37 4 25) <| .nil) fun u1 a w' H => ?_
 replace H := H.kp [2, 3, 4, 23, 24, 25]
 refine k_seq ?_
 refine k_seq ?_
 replace G := bnd G; obtain ⟨t3, ht3, G⟩ := G
 replace G := bnd G; obtain ⟨t4, ht4, G⟩ := G
 refine k_rg mixed H (.cons [5] (ok_ld (fun u2 => .agg #[vI a0.Lo, vI a0.Hi]) 5 23 0 2 (fun u2 => ((u1 0).n 0)) (fun u2 => [vI a0.Lo, vI a0.Hi]) 37) <|
   .cons [6] (ok_callv 40 (fun u2 => #[.agg #[vI a0.Lo, vI a0.Hi]]) (.bool t3) 6 [] (fun u2 w _ => armillaryref02_IsEntire.calls a0  t3 w  ht3)) <|
   .v 7 (.bool t3) <|
   .cons [8] (ok_ldg (fun u2 => .agg #[vI a1.Lo, vI a1.Hi]) (fun u2 => (t3 == false)) [true] 8 24 0 2 (fun u2 => ((u1 1).n 0)) (fun u2 => [vI a1.Lo, vI a1.Hi]) 37) <|
   .cons [9] (ok_call 40 (fun u2 => #[.agg #[vI a1.Lo, vI a1.Hi]]) (.bool t4) (fun u2 => (t3 == false)) [true, false] 9 [] (fun u2 w hg _ => armillaryref02_IsEntire.calls a1  t4 w  (ifp ht4 hg))) <|
   .cons [10] (ok_or 7 9 (fun u2 => true) (fun u2 => true) (fun u2 => t3) (fun u2 => t4) 10) <| .nil) fun u2 a w' H => ?_
 replace H := H.kp [2, 3, 4, 10, 23, 24, 25]
 refine k_cond H (by kernel_rfl) (t := (t3 || t4)) (by kernel_rfl) (fun c9 => ?_) (fun c9 => ?_)
 ·rw [if_pos c9] at G
  refine k_seq ?_
  replace G := bnd G; obtain ⟨t6, ht6, G⟩ := G
  refine k_rg mixed H (.cons [11] (ok_callv 80 (fun u5 => #[]) (.agg #[vI t6.Lo, vI t6.Hi]) 11 [] (fun u5 w _ => armillaryref02_Entire.calls   t6 w  ht6)) <|
   .cons [25] (ok_as (u' := fun u5 => [(25, .blk ((u1 2).n 0) [vI t6.Lo, vI t6.Hi] 37)]) (ok_store 25 0 (fun u5 => ((u1 2).n 0)) (fun u5 => [vI 0, vI 0]) (fun u5 => [vI t6.Lo, vI t6.Hi]) 37) (fun _ => by kernel_rfl)) <| .nil) fun u5 a w' H => ?_
  replace H := H.kp [4, 25]
  refine k_ret ?_
  obtain rfl := Option.some.inj G
  exact k_done1 H _ 25 ((u1 2).n 0) [vI t6.Lo, vI t6.Hi] 37 0 2 (by kernel_rfl) (by kernel_rfl) (by kernel_rfl) (by kernel_rfl)
 ·rw [if_neg (nt c9)] at G
  refine k_skip ?_
  refine k_seq ?_
  replace G := bnd G; obtain ⟨t8, ht8, G⟩ := G
  refine k_rg mixed H (.v 12 (vP ((u1 0).n 0) 0) <|
   .cons [13] (ok_ld (fun u7 => vI a0.Lo) 13 23 0 1 (fun u7 => ((u1 0).n 0)) (fun u7 => [vI a0.Lo, vI a0.Hi]) 37) <|
   .v 14 (vP ((u1 1).n 0) 0) <|
   .cons [15] (ok_ld (fun u7 => vI a1.Lo) 15 24 0 1 (fun u7 => ((u1 1).n 0)) (fun u7 => [vI a1.Lo, vI a1.Hi]) 37) <|
   .v 16 (vI (w_i64 (a0.Lo + a1.Lo))) <|
   .v 17 (vP ((u1 0).n 0) 1) <|
   .cons [18] (ok_ld (fun u7 => vI a0.Hi) 18 23 1 1 (fun u7 => ((u1 0).n 0)) (fun u7 => [vI a0.Lo, vI a0.Hi]) 37) <|
   .v 19 (vP ((u1 1).n 0) 1) <|
   .cons [20] (ok_ld (fun u7 => vI a1.Hi) 20 24 1 1 (fun u7 => ((u1 1).n 0)) (fun u7 => [vI a1.Lo, vI a1.Hi]) 37) <|
   .v 21 (vI (w_i64 (a0.Hi + a1.Hi))) <|
   .cons [22] (ok_callv 79 (fun u7 => #[vI (w_i64 (a0.Lo + a1.Lo)), vI (w_i64 (a0.Hi + a1.Hi))]) (.agg #[vI t8.Lo, vI t8.Hi]) 22 [] (fun u7 w _ => armillaryref02_New.calls (w_i64 (a0.Lo + a1.Lo)) (w_i64 (a0.Hi + a1.Hi))  t8 w  ht8)) <|
   .cons [25] (ok_as (u' := fun u7 => [(25, .blk ((u1 2).n 0) [vI t8.Lo, vI t8.Hi] 37)]) (ok_store 25 0 (fun u7 => ((u1 2).n 0)) (fun u7 => [vI 0, vI 0]) (fun u7 => [vI t8.Lo, vI t8.Hi]) 37) (fun _ => by kernel_rfl)) <| .nil) fun u7 a w' H => ?_
  replace H := H.kp [4, 25]
  refine k_ret ?_
  obtain rfl := Option.some.inj G
  exact k_done1 H _ 25 ((u1 2).n 0) [vI t8.Lo, vI t8.Hi] 37 0 2 (by kernel_rfl) (by kernel_rfl) (by kernel_rfl) (by kernel_rfl)
set_option maxHeartbeats 4000000 in
theorem armillaryref04_Apply.calls (k0 : Nat) (a0 : List (List TInterval)) (a1 : List TInterval) (p_a0 : Option Addr) (c_a0 : Nat) (L_a0 : List (Sl TInterval)) (p_a1 : Option Addr) (c_a1 : Nat) (r : List TInterval) (w : World) (h_a0 : a0 = L_a0.map Sl.l) (hB : AllH [rdl anyF 1 p_a0 c_a0 L_a0 enSl, dnK anyF E_S_TInterval.toPart L_a0, rdl anyF 2 p_a1 c_a1 a1 en_TInterval] w) (G : armillaryref04_Apply k0 a0 a1 = some r) :
  Calls Tryd.prog 36 #[.slice p_a0 L_a0.length c_a0, .slice p_a1 a1.length c_a1] w fun e w' => ∃ g : Gh, e = .returned (.slice (g.o 0) r.length (g.n 0)) ∧ But (fpK []) w w' ∧ OutOK w.heap.size (fpK []) (frI w.heap.size []) [fun _ => owK 37 2 (g.o 0) r.length (g.n 0) (r.flatMap en_TInterval)] w' := by
 obtain ⟨fr, hfr⟩ : ∃ fr : Nat → Prop, fr = frI w.heap.size [] := ⟨_, rfl⟩
 have hBf : ∀ j, w.heap.size ≤ j → fr j := fun j h => by rw [hfr]; exact .inl h
 refine k_enterF (args := [.slice p_a0 L_a0.length c_a0, .slice p_a1 a1.length c_a1]) 51 [(51, rdl anyF 1 p_a0 c_a0 L_a0 enSl), (52, dnK anyF E_S_TInterval.toPart L_a0), (53, rdl anyF 2 p_a1 c_a1 a1 en_TInterval)] (by
  intro x hx
  simp only [List.mem_cons, List.not_mem_nil, or_false] at hx
  rcases hx with rfl | rfl | rfl
  ·exact rdF_fact (rdF_of hB.1) (fun _ _ => trivial) (by decide) _
  ·exact dn_fact (dn_of hB.2.1) (fun _ _ => trivial) _
  ·exact rdF_fact (rdF_of hB.2.2.1) (fun _ _ => trivial) (by decide) _) Tryd.func36 rfl (by kernel_rfl) (by kernel_rfl) fun a H => ?_
 unfold armillaryref04_Apply at G
 refine k_seq ?_
 refine k_rg mixed H (.v 4 (.slice none 0 0) <| .nil) fun u1 a w' H => ?_
 replace H := H.kp [0, 1, 51, 52, 53]
 refine k_seq ?_
 refine k_rg mixed H (.cons [9, 54] (ok_new (fun b => .slice (some ⟨b, 0, none⟩) 0 0) (fun u2 => []) 37 9 54) <|
   .cons [5] (ok_val (fun u2 => .slice (some ⟨((u2 0).n 0), 0, none⟩) 0 0) 5) <| .nil) fun u2 a w' H => ?_
 replace H := H.kp [0, 1, 5, 51, 52, 53, 54]
 refine k_seq ?_
 replace G := bnd G; obtain ⟨j4, hj4, G⟩ := G
 refine k_join (fun a w' => ∃ (p_j3 : Option Addr) (c_j3 np_j3 : Nat), np_j3 = j4.length ∧ Rep w.heap.size w 51 (ofL [(5, sS p_j3 np_j3 c_j3), (900147, owK 37 2 p_j3 np_j3 c_j3 (j4.flatMap en_TInterval))]) a w') ?_ ?_
 ·clear H; rintro a w' ⟨p_j3, c_j3, _, rfl, H⟩
  refine k_seq ?_
  refine k_rg mixed H (.v 50 (.slice p_j3 j4.length c_j3) <|
   .v 4 (.slice p_j3 j4.length c_j3) <| .nil) fun u5 a w' H => ?_
  replace H := H.kp [4, 900147]
  refine k_ret ?_
  obtain rfl := Option.some.inj G
  obtain ⟨g, o0, n0⟩ : ∃ g : Gh, g.o 0 = p_j3 ∧ g.n 0 = c_j3 := ⟨⟨fun i => [c_j3].getD i 0, fun i => [p_j3].getD i none, fun i => ([⟨Unit, ()⟩] : List ((T : Type) × T)).getD i ⟨Unit, ()⟩⟩, rfl, rfl⟩
  refine k_doneZ H (fun g => .slice (g.o 0) j4.length (g.n 0)) g [] [] (fun g => [fun _ => owK 37 2 (g.o 0) j4.length (g.n 0) (j4.flatMap en_TInterval)]) fr [900147] [] (.slice p_j3 j4.length c_j3) [fun _ => owK 37 2 p_j3 j4.length c_j3 (j4.flatMap en_TInterval)] (by simp only [o0, n0]) (by simp only [o0, n0]) hfr (.inl ⟨rfl, rfl⟩) (fams_cons fam_ow fams_nil) (by simp)
 ·clear G; replace G := hj4; clear hj4
  refine k_seq ?_
  refine k_rg mixed H (.v 6 (vI 0) <| .nil) fun u6 a w' H => ?_
  replace H := H.kp [0, 1, 5, 6, 51, 52, 53, 54]
  refine k_block ?_
  replace H := H.blk_row 54 ((u2 0).n 0) [] 37 2 0 (by kernel_rfl) (by kernel_rfl) (by decide)
  replace H := H.move (K := owK 37 2 (some ⟨((u2 0).n 0), 0, none⟩) 0 0 (([] : List TInterval).flatMap en_TInterval)) 54 900148 (by kernel_rfl) (by intro _ _ h; cases h)
  refine k_loopJ (fun m a w' => ∃ x7 : List TInterval, ∃ x8 : Int, armillaryref04_Apply.l9 k0 a0 a1 m x7 x8 = some j4 ∧ ∃ (p_x7 : Option Addr) (c_x7 np_x7 : Nat), np_x7 = x7.length ∧ Rep w.heap.size w 51 (ofL [(0, sS p_a0 L_a0.length c_a0), (1, sS p_a1 a1.length c_a1), (5, sS p_x7 np_x7 c_x7), (6, sI x8), (51, rdl anyF 1 p_a0 c_a0 L_a0 enSl), (52, dnK anyF E_S_TInterval.toPart L_a0), (53, rdl anyF 2 p_a1 c_a1 a1 en_TInterval), (900148, owK 37 2 p_x7 np_x7 c_x7 (x7.flatMap en_TInterval))]) a w') k0 ⟨_, _, G, (some ⟨((u2 0).n 0), 0, none⟩), 0, 0, rfl, H.toL _ (by kernel_rfl)⟩ ?_
  clear G H
  rintro (_ | k) a w' ⟨x7, x8, G, p_x7, c_x7, _, rfl, H⟩
  ·exact absurd G (by unfold armillaryref04_Apply.l9; exact fun h => by cases h)
  ·unfold armillaryref04_Apply.l9 at G
   refine k_seq ?_
   refine k_seq ?_
   refine k_rg mixed H (.v 10 (vI x8) <|
   .v 11 (.slice p_a0 L_a0.length c_a0) <|
   .cons [12] (ok_valL [51] (fun u10 => [rdl anyF 1 p_a0 c_a0 L_a0 enSl]) (fun u10 => vI (a0.length : Int)) (fun u10 => true) [true] 12 (fun u10 w hg hF => run_lenN (((rdF_of hF.1).2.len enSl_len (by decide)).trans (map_len h_a0).symm) (by kernel_rfl))) <|
   .v 13 (.bool (decide (x8 < (a0.length : Int)))) <| .nil) fun u10 a w' H => ?_
   replace H := H.kp [0, 1, 5, 6, 13, 51, 52, 53, 900148]
   refine k_cond H (by kernel_rfl) (t := decide (x8 < (a0.length : Int))) (by kernel_rfl) (fun c48 => ?_) (fun c48 => ?_)
   ·rw [if_pos c48] at G
    refine k_skip ?_
    refine k_seq ?_
    replace G := bnd G; obtain ⟨j12, hj12, G⟩ := G
    refine k_join (fun a w' => ∃ (p_j11 : Option Addr) (c_j11 np_j11 : Nat), np_j11 = j12.length ∧ Rep w.heap.size w 51 (ofL [(0, sS p_a0 L_a0.length c_a0), (1, sS p_a1 a1.length c_a1), (5, sS p_j11 np_j11 c_j11), (6, sI x8), (51, rdl anyF 1 p_a0 c_a0 L_a0 enSl), (52, dnK anyF E_S_TInterval.toPart L_a0), (53, rdl anyF 2 p_a1 c_a1 a1 en_TInterval), (900149, owK 37 2 p_j11 np_j11 c_j11 (j12.flatMap en_TInterval))]) a w') ?_ ?_
    ·clear H; rintro a w' ⟨p_j11, c_j11, _, rfl, H⟩
     refine k_rg mixed H (.v 14 (vI x8) <|
   .v 15 (vI (w_i64 (x8 + 1))) <|
   .v 6 (vI (w_i64 (x8 + 1))) <| .nil) fun u13 a w' H => ?_
     replace H := H.kp [0, 1, 5, 6, 51, 52, 53, 900149]
     replace H := H.move (K := owK 37 2 p_j11 j12.length c_j11 (j12.flatMap en_TInterval)) 900149 900148 (by kernel_rfl) (by intro _ _ h; cases h)
     exact ⟨k, Nat.lt_succ_self k, _, _, G, p_j11, c_j11, j12.length, rfl, H.toL _ (by kernel_rfl)⟩
    ·clear G; replace G := hj12; clear hj12
     refine k_block ?_
     refine k_seq ?_
     replace G := gd G; obtain ⟨b15, G⟩ := G
     replace G := bnd G; obtain ⟨t16, ht16, G⟩ := G
     obtain ⟨p_t16, c_t16, y_t16⟩ := sl_get h_a0 ht16
     have P17 := ptr_of (en := enSl) (l := L_a0) (rdF_of (H.at (K := rdl anyF 1 p_a0 c_a0 L_a0 enSl) 51 (by kernel_rfl))).2 enSl_len
     replace G := gd G; obtain ⟨b18, G⟩ := G
     replace G := bnd G; obtain ⟨t19, ht19, G⟩ := G
     replace G := gd G; obtain ⟨b20, G⟩ := G
     replace G := bnd G; obtain ⟨t21, ht21, G⟩ := G
     have P22 := ptr_of (en := en_TInterval) (l := a1) (rdF_of (H.at (K := rdl anyF 2 p_a1 c_a1 a1 en_TInterval) 53 (by kernel_rfl))).2 en_TInterval_len
     replace G := bnd G; obtain ⟨t23, ht23, G⟩ := G
     refine k_rg mixed H (.v 16 (.slice p_a0 L_a0.length c_a0) <|
   .v 17 (vI x8) <|
   .cons [18] (ok_val (fun u14 => .pointer (some ⟨hdB p_a0, hdO p_a0 + x8.toNat * 1, none⟩)) 18 (hv := fun _ _ => ix_pure (t := 27) (k := .i64) (i := x8) (p := p_a0) (n := L_a0.length) (cap := c_a0) (x := a0) P17 (map_len h_a0) b15 (by kernel_rfl))) <|
   .cons [19] (ok_valL [51] (fun u14 => [rdl anyF 1 p_a0 c_a0 L_a0 enSl]) (fun u14 => .slice p_t16 t16.length c_t16) (fun u14 => true) [true] 19 (fun u14 w hg hF => ld_row (en := enSl) (rdF_of hF.1).2 enSl_len y_t16 0 1 [.slice p_t16 t16.length c_t16] rfl (by kernel_rfl))) <|
   .cons [20] (ok_valL [52] (fun u14 => [dnK anyF E_S_TInterval.toPart L_a0]) (fun u14 => .pointer (some ⟨hdB p_t16, hdO p_t16 + ((0 : Int).toNat) * 2, none⟩)) (fun u14 => true) [true, true] 20 (fun u14 w hg hF => ix_row (t := 22) (k := .i64) (i := (0 : Int)) (p := p_t16) (n := t16.length) (cap := c_t16) (x := t16) (en := en_TInterval) (show RowC _ 2 p_t16 t16.length c_t16 (t16.flatMap en_TInterval) from ((dn_of hF.1) _ (List.mem_of_getElem? y_t16)).1).2 en_TInterval_len rfl b18 (by kernel_rfl))) <|
   .cons [21] (ok_valL [52] (fun u14 => [dnK anyF E_S_TInterval.toPart L_a0]) (fun u14 => .agg #[vI t19.Lo, vI t19.Hi]) (fun u14 => true) [true] 21 (fun u14 w hg hF => ld_row (en := en_TInterval) (show RowC _ 2 p_t16 t16.length c_t16 (t16.flatMap en_TInterval) from ((dn_of hF.1) _ (List.mem_of_getElem? y_t16)).1).2 en_TInterval_len ht19 0 2 [vI t19.Lo, vI t19.Hi] rfl (by kernel_rfl))) <|
   .v 22 (.slice p_a1 a1.length c_a1) <|
   .cons [23] (ok_val (fun u14 => .pointer (some ⟨hdB p_a1, hdO p_a1 + ((0 : Int).toNat) * 2, none⟩)) 23 (hv := fun _ _ => ix_pure (t := 22) (k := .i64) (i := (0 : Int)) (p := p_a1) (n := a1.length) (cap := c_a1) (x := a1) P22 rfl b20 (by kernel_rfl))) <|
   .cons [24] (ok_valL [53] (fun u14 => [rdl anyF 2 p_a1 c_a1 a1 en_TInterval]) (fun u14 => .agg #[vI t21.Lo, vI t21.Hi]) (fun u14 => true) [true] 24 (fun u14 w hg hF => ld_row (en := en_TInterval) (rdF_of hF.1).2 en_TInterval_len ht21 0 2 [vI t21.Lo, vI t21.Hi] rfl (by kernel_rfl))) <|
   .cons [25] (ok_callv 77 (fun u14 => #[.agg #[vI t19.Lo, vI t19.Hi], .agg #[vI t21.Lo, vI t21.Hi]]) (.agg #[vI t23.Lo, vI t23.Hi]) 25 [] (fun u14 w _ => armillaryref02_Mul.calls k0 t19 t21  t23 w  ht23)) <|
   .cons [7, 56] (ok_new (fun b => vP b 0) (fun u14 => [vI 0, vI 0]) 37 7 56) <|
   .cons [56] (ok_as (u' := fun u14 => [(56, .blk ((u14 10).n 0) [vI t23.Lo, vI t23.Hi] 37)]) (ok_store 56 0 (fun u14 => ((u14 10).n 0)) (fun u14 => [vI 0, vI 0]) (fun u14 => [vI t23.Lo, vI t23.Hi]) 37) (fun _ => by kernel_rfl)) <| .nil) fun u14 a w' H => ?_
     replace H := H.kp [0, 1, 5, 6, 7, 51, 52, 53, 56, 900148]
     refine k_seq ?_
     replace G := bnd G; obtain ⟨j26, hj26, G⟩ := G
     refine k_join (fun a w' => Rep w.heap.size w 51 (ofL [(0, sS p_a0 L_a0.length c_a0), (1, sS p_a1 a1.length c_a1), (5, sS p_x7 x7.length c_x7), (6, sI x8), (7, (sP ((u14 10).n 0) 0)), (51, rdl anyF 1 p_a0 c_a0 L_a0 enSl), (52, dnK anyF E_S_TInterval.toPart L_a0), (53, rdl anyF 2 p_a1 c_a1 a1 en_TInterval), (56, .blk ((u14 10).n 0) [vI j26.1, vI j26.2] 37), (900148, owK 37 2 p_x7 x7.length c_x7 (x7.flatMap en_TInterval))]) a w') ?_ ?_
     ·clear H; intro a w' H
      replace G := gd G; obtain ⟨b28, G⟩ := G
      refine k_rg mixed H (.v 46 (.slice p_x7 x7.length c_x7) <|
   .cons [47] (ok_ld (fun u27 => .agg #[vI j26.1, vI j26.2]) 47 56 0 2 (fun u27 => ((u14 10).n 0)) (fun u27 => [vI j26.1, vI j26.2]) 37) <|
   .cons [48, 57] (ok_new (fun b => .slice (some ⟨b, 0, none⟩) 1 1) (fun u27 => [vI j26.1, vI j26.2]) 37 48 57) <|
   .cons [49, 900148, 900148] (ok_own1 [2] [57] (fun u27 => [.blk ((u27 2).n 0) [vI j26.1, vI j26.2] 37]) 900148 (fun u27 => owK 37 2 p_x7 x7.length c_x7 (x7.flatMap en_TInterval)) (some 49) (fun u27 g => .slice (g.o 0) (x7 ++ [(⟨j26.1, j26.2⟩ : TInterval)]).length (g.n 0)) (fun u27 g => owK 37 2 (g.o 0) ((x7 ++ [(⟨j26.1, j26.2⟩ : TInterval)]).length) (g.n 0) ((x7 ++ [(⟨j26.1, j26.2⟩ : TInterval)]).flatMap en_TInterval)) (fun u27 w hF hK => tv_app (run_app_rowN (t := 22) (ty := 22) (en := en_TInterval) en_TInterval_len inf37 (ow_of hK) hF.1 (news := [(⟨j26.1, j26.2⟩ : TInterval)]) rfl (by simp) (by kernel_rfl) b28)) (hloc := fun u u' h => ⟨by first | rfl | simp only [h 2 (by decide)], by first | rfl | simp only [h 2 (by decide)], by first | rfl | simp only [h 2 (by decide)], by first | rfl | simp only [h 2 (by decide)]⟩)) <|
   .cons [5] (ok_val (fun u27 => .slice ((u27 3).o 0) ((x7 ++ [(⟨j26.1, j26.2⟩ : TInterval)]).length) ((u27 3).n 0)) 5) <| .nil) fun u27 a w' H => ?_
      replace H := H.kp [0, 1, 5, 6, 51, 52, 53, 900148]
      obtain rfl := Option.some.inj G
      replace H := H.move (K := owK 37 2 ((u27 3).o 0) ((x7 ++ [(⟨j26.1, j26.2⟩ : TInterval)]).length) ((u27 3).n 0) ((x7 ++ [(⟨j26.1, j26.2⟩ : TInterval)]).flatMap en_TInterval)) 900148 900149 (by kernel_rfl) (by intro _ _ h; cases h)
      exact ⟨((u27 3).o 0), ((u27 3).n 0), (x7 ++ [(⟨j26.1, j26.2⟩ : TInterval)]).length, rfl, H.toL _ (by kernel_rfl)⟩
     ·clear G; replace G := hj26; clear hj26
      refine k_seq ?_
      refine k_rg mixed H (.v 8 (vI 1) <| .nil) fun u29 a w' H => ?_
      replace H := H.kp [0, 1, 5, 6, 7, 8, 51, 52, 53, 56, 900148]
      refine k_block ?_
      refine k_loopJ (fun m a w' => ∃ x30 : Int, ∃ x31 : Int, ∃ x32 : Int, armillaryref04_Apply.l33 k0 a0 a1 x7 x8 t16 t19 t21 t23 m x30 x31 x32 = some j26 ∧ Rep w.heap.size w 51 (ofL [(0, sS p_a0 L_a0.length c_a0), (1, sS p_a1 a1.length c_a1), (5, sS p_x7 x7.length c_x7), (6, sI x8), (7, (sP ((u14 10).n 0) 0)), (8, sI x32), (51, rdl anyF 1 p_a0 c_a0 L_a0 enSl), (52, dnK anyF E_S_TInterval.toPart L_a0), (53, rdl anyF 2 p_a1 c_a1 a1 en_TInterval), (56, .blk ((u14 10).n 0) [vI x30, vI x31] 37), (900148, owK 37 2 p_x7 x7.length c_x7 (x7.flatMap en_TInterval))]) a w') k0 ⟨_, _, _, G, H.toL _ (by kernel_rfl)⟩ ?_
      clear G H
      rintro (_ | k) a w' ⟨x30, x31, x32, G, H⟩
      ·exact absurd G (by unfold armillaryref04_Apply.l33; exact fun h => by cases h)
      ·unfold armillaryref04_Apply.l33 at G
       refine k_seq ?_
       refine k_seq ?_
       refine k_rg mixed H (.v 26 (vI x32) <|
   .v 27 (.slice p_a0 L_a0.length c_a0) <|
   .cons [28] (ok_valL [51] (fun u34 => [rdl anyF 1 p_a0 c_a0 L_a0 enSl]) (fun u34 => vI (a0.length : Int)) (fun u34 => true) [true] 28 (fun u34 w hg hF => run_lenN (((rdF_of hF.1).2.len enSl_len (by decide)).trans (map_len h_a0).symm) (by kernel_rfl))) <|
   .v 29 (.bool (decide (x32 < (a0.length : Int)))) <| .nil) fun u34 a w' H => ?_
       replace H := H.kp [0, 1, 5, 6, 7, 8, 29, 51, 52, 53, 56, 900148]
       refine k_cond H (by kernel_rfl) (t := decide (x32 < (a0.length : Int))) (by kernel_rfl) (fun c47 => ?_) (fun c47 => ?_)
       ·rw [if_pos c47] at G
        refine k_skip ?_
        refine k_seq ?_
        refine k_block ?_
        replace G := gd G; obtain ⟨b36, G⟩ := G
        replace G := bnd G; obtain ⟨t37, ht37, G⟩ := G
        obtain ⟨p_t37, c_t37, y_t37⟩ := sl_get h_a0 ht37
        have P38 := ptr_of (en := enSl) (l := L_a0) (rdF_of (H.at (K := rdl anyF 1 p_a0 c_a0 L_a0 enSl) 51 (by kernel_rfl))).2 enSl_len
        replace G := gd G; obtain ⟨b39, G⟩ := G
        replace G := bnd G; obtain ⟨t40, ht40, G⟩ := G
        replace G := gd G; obtain ⟨b41, G⟩ := G
        replace G := bnd G; obtain ⟨t42, ht42, G⟩ := G
        have P43 := ptr_of (en := en_TInterval) (l := a1) (rdF_of (H.at (K := rdl anyF 2 p_a1 c_a1 a1 en_TInterval) 53 (by kernel_rfl))).2 en_TInterval_len
        replace G := bnd G; obtain ⟨t44, ht44, G⟩ := G
        replace G := bnd G; obtain ⟨t45, ht45, G⟩ := G
        refine k_rg mixed H (.cons [32] (ok_ld (fun u35 => .agg #[vI x30, vI x31]) 32 56 0 2 (fun u35 => ((u14 10).n 0)) (fun u35 => [vI x30, vI x31]) 37) <|
   .v 33 (.slice p_a0 L_a0.length c_a0) <|
   .v 34 (vI x8) <|
   .cons [35] (ok_val (fun u35 => .pointer (some ⟨hdB p_a0, hdO p_a0 + x8.toNat * 1, none⟩)) 35 (hv := fun _ _ => ix_pure (t := 27) (k := .i64) (i := x8) (p := p_a0) (n := L_a0.length) (cap := c_a0) (x := a0) P38 (map_len h_a0) b36 (by kernel_rfl))) <|
   .cons [36] (ok_valL [51] (fun u35 => [rdl anyF 1 p_a0 c_a0 L_a0 enSl]) (fun u35 => .slice p_t37 t37.length c_t37) (fun u35 => true) [true] 36 (fun u35 w hg hF => ld_row (en := enSl) (rdF_of hF.1).2 enSl_len y_t37 0 1 [.slice p_t37 t37.length c_t37] rfl (by kernel_rfl))) <|
   .v 37 (vI x32) <|
   .cons [38] (ok_valL [52] (fun u35 => [dnK anyF E_S_TInterval.toPart L_a0]) (fun u35 => .pointer (some ⟨hdB p_t37, hdO p_t37 + x32.toNat * 2, none⟩)) (fun u35 => true) [true, true] 38 (fun u35 w hg hF => ix_row (t := 22) (k := .i64) (i := x32) (p := p_t37) (n := t37.length) (cap := c_t37) (x := t37) (en := en_TInterval) (show RowC _ 2 p_t37 t37.length c_t37 (t37.flatMap en_TInterval) from ((dn_of hF.1) _ (List.mem_of_getElem? y_t37)).1).2 en_TInterval_len rfl b39 (by kernel_rfl))) <|
   .cons [39] (ok_valL [52] (fun u35 => [dnK anyF E_S_TInterval.toPart L_a0]) (fun u35 => .agg #[vI t40.Lo, vI t40.Hi]) (fun u35 => true) [true] 39 (fun u35 w hg hF => ld_row (en := en_TInterval) (show RowC _ 2 p_t37 t37.length c_t37 (t37.flatMap en_TInterval) from ((dn_of hF.1) _ (List.mem_of_getElem? y_t37)).1).2 en_TInterval_len ht40 0 2 [vI t40.Lo, vI t40.Hi] rfl (by kernel_rfl))) <|
   .v 40 (.slice p_a1 a1.length c_a1) <|
   .v 41 (vI x32) <|
   .cons [42] (ok_val (fun u35 => .pointer (some ⟨hdB p_a1, hdO p_a1 + x32.toNat * 2, none⟩)) 42 (hv := fun _ _ => ix_pure (t := 22) (k := .i64) (i := x32) (p := p_a1) (n := a1.length) (cap := c_a1) (x := a1) P43 rfl b41 (by kernel_rfl))) <|
   .cons [43] (ok_valL [53] (fun u35 => [rdl anyF 2 p_a1 c_a1 a1 en_TInterval]) (fun u35 => .agg #[vI t42.Lo, vI t42.Hi]) (fun u35 => true) [true] 43 (fun u35 w hg hF => ld_row (en := en_TInterval) (rdF_of hF.1).2 en_TInterval_len ht42 0 2 [vI t42.Lo, vI t42.Hi] rfl (by kernel_rfl))) <|
   .cons [44] (ok_callv 77 (fun u35 => #[.agg #[vI t40.Lo, vI t40.Hi], .agg #[vI t42.Lo, vI t42.Hi]]) (.agg #[vI t44.Lo, vI t44.Hi]) 44 [] (fun u35 w _ => armillaryref02_Mul.calls k0 t40 t42  t44 w  ht44)) <|
   .cons [45] (ok_callv 78 (fun u35 => #[.agg #[vI x30, vI x31], .agg #[vI t44.Lo, vI t44.Hi]]) (.agg #[vI t45.Lo, vI t45.Hi]) 45 [] (fun u35 w _ => armillaryref02_Add.calls (⟨x30, x31⟩ : TInterval) t44  t45 w  ht45)) <|
   .cons [56] (ok_as (u' := fun u35 => [(56, .blk ((u14 10).n 0) [vI t45.Lo, vI t45.Hi] 37)]) (ok_store 56 0 (fun u35 => ((u14 10).n 0)) (fun u35 => [vI x30, vI x31]) (fun u35 => [vI t45.Lo, vI t45.Hi]) 37) (fun _ => by kernel_rfl)) <| .nil) fun u35 a w' H => ?_
        replace H := H.kp [0, 1, 5, 6, 7, 8, 51, 52, 53, 56, 900148]
        refine k_rg mixed H (.v 30 (vI x32) <|
   .v 31 (vI (w_i64 (x32 + 1))) <|
   .v 8 (vI (w_i64 (x32 + 1))) <| .nil) fun u46 a w' H => ?_
        replace H := H.kp [0, 1, 5, 6, 7, 8, 51, 52, 53, 56, 900148]
        exact ⟨k, Nat.lt_succ_self k, _, _, _, G, H.toL _ (by kernel_rfl)⟩
       ·rw [if_neg (nt c47)] at G
        refine k_exit rfl ?_
        obtain rfl := Option.some.inj G
        exact H.toL _ (by kernel_rfl)
   ·rw [if_neg (nt c48)] at G
    refine k_exit rfl ?_
    obtain rfl := Option.some.inj G
    replace H := H.move (K := owK 37 2 p_x7 x7.length c_x7 (x7.flatMap en_TInterval)) 900148 900147 (by kernel_rfl) (by intro _ _ h; cases h)
    exact ⟨p_x7, c_x7, x7.length, rfl, H.toL _ (by kernel_rfl)⟩
set_option maxHeartbeats 4000000 in
theorem armillaryref04_FromNumbers.calls (k0 : Nat) (a0 : List (List Int)) (p_a0 : Option Addr) (c_a0 : Nat) (L_a0 : List (Sl Int)) (r : List (List TInterval)) (w : World) (h_a0 : a0 = L_a0.map Sl.l) (hB : AllH [rdl anyF 1 p_a0 c_a0 L_a0 enSl, dnK anyF E_S_i64.toPart L_a0] w) (G : armillaryref04_FromNumbers k0 a0 = some r) :
  Calls Tryd.prog 37 #[.slice p_a0 L_a0.length c_a0] w fun e w' => ∃ g : Gh, e = .returned (.slice (g.o 0) ((g.dl Sl.l gd_S_TInterval 0 r).length) (g.n 0)) ∧ But (fpK []) w w' ∧ OutOK w.heap.size (fpK []) (frI w.heap.size []) [fun _ => nsK 22 37 2 en_TInterval (g.o 0) ((g.dl Sl.l gd_S_TInterval 0 r).length) (g.n 0) (g.dl Sl.l gd_S_TInterval 0 r) (g.dl Sl.l gd_S_TInterval 0 r)] w' := by
 obtain ⟨fr, hfr⟩ : ∃ fr : Nat → Prop, fr = frI w.heap.size [] := ⟨_, rfl⟩
 have hBf : ∀ j, w.heap.size ≤ j → fr j := fun j h => by rw [hfr]; exact .inl h
 refine k_enterF (args := [.slice p_a0 L_a0.length c_a0]) 37 [(37, rdl anyF 1 p_a0 c_a0 L_a0 enSl), (38, dnK anyF E_S_i64.toPart L_a0)] (by
  intro x hx
  simp only [List.mem_cons, List.not_mem_nil, or_false] at hx
  rcases hx with rfl | rfl
  ·exact rdF_fact (rdF_of hB.1) (fun _ _ => trivial) (by decide) _
  ·exact dn_fact (dn_of hB.2.1) (fun _ _ => trivial) _) Tryd.func37 rfl (by kernel_rfl) (by kernel_rfl) fun a H => ?_
 unfold armillaryref04_FromNumbers at G
 refine k_seq ?_
 refine k_rg mixed H (.v 2 (.slice none 0 0) <| .nil) fun u1 a w' H => ?_
 replace H := H.kp [0, 37, 38]
 refine k_seq ?_
 refine k_rg mixed H (.cons [7, 39] (ok_new (fun b => .slice (some ⟨b, 0, none⟩) 0 0) (fun u2 => []) 22 7 39) <|
   .cons [3] (ok_val (fun u2 => .slice (some ⟨((u2 0).n 0), 0, none⟩) 0 0) 3) <| .nil) fun u2 a w' H => ?_
 replace H := H.kp [0, 3, 37, 38, 39]
 refine k_seq ?_
 replace G := bnd G; obtain ⟨j4, hj4, G⟩ := G
 refine k_join (fun a w' => ∃ (p_j3 : Option Addr) (c_j3 np_j3 : Nat) (L_j3 : List (Sl TInterval)), np_j3 = L_j3.length ∧ j4 = L_j3.map Sl.l ∧ Rep w.heap.size w 37 (ofL [(3, sS p_j3 np_j3 c_j3), (900150, nsK 22 37 2 en_TInterval p_j3 np_j3 c_j3 L_j3 L_j3)]) a w') ?_ ?_
 ·clear H; rintro a w' ⟨p_j3, c_j3, _, L_j3, rfl, h_j3, H⟩
  refine k_seq ?_
  refine k_rg mixed H (.v 36 (.slice p_j3 L_j3.length c_j3) <|
   .v 2 (.slice p_j3 L_j3.length c_j3) <| .nil) fun u5 a w' H => ?_
  replace H := H.kp [2, 900150]
  refine k_ret ?_
  obtain rfl := Option.some.inj G
  obtain ⟨g, o0, n0, d0⟩ : ∃ g : Gh, g.o 0 = p_j3 ∧ g.n 0 = c_j3 ∧ g.dl Sl.l gd_S_TInterval 0 j4 = L_j3 := ⟨⟨fun i => [c_j3].getD i 0, fun i => [p_j3].getD i none, fun i => ([⟨List (Sl TInterval), L_j3⟩] : List ((T : Type) × T)).getD i ⟨Unit, ()⟩⟩, rfl, rfl, dl_mk rfl h_j3⟩
  refine k_doneZ H (fun g => .slice (g.o 0) ((g.dl Sl.l gd_S_TInterval 0 j4).length) (g.n 0)) g [] [] (fun g => [fun _ => nsK 22 37 2 en_TInterval (g.o 0) ((g.dl Sl.l gd_S_TInterval 0 j4).length) (g.n 0) (g.dl Sl.l gd_S_TInterval 0 j4) (g.dl Sl.l gd_S_TInterval 0 j4)]) fr [900150] [] (.slice p_j3 L_j3.length c_j3) [fun _ => nsK 22 37 2 en_TInterval p_j3 L_j3.length c_j3 L_j3 L_j3] (by simp only [o0, n0, d0]) (by simp only [o0, n0, d0]) hfr (.inl ⟨rfl, rfl⟩) (fams_cons fam_ns fams_nil) (by simp)
 ·clear G; replace G := hj4; clear hj4
  refine k_seq ?_
  refine k_rg mixed H (.v 4 (vI 0) <| .nil) fun u6 a w' H => ?_
  replace H := H.kp [0, 3, 4, 37, 38, 39]
  refine k_block ?_
  replace H := H.blk_row 39 ((u2 0).n 0) [] 22 1 0 (by kernel_rfl) (by kernel_rfl) (by decide)
  replace H := H.nestOpen (e := 22) (m := 0) (cap := 0) (p := (some ⟨((u2 0).n 0), 0, none⟩)) (H := ([] : List (Sl TInterval))) 39 37 2 en_TInterval (by kernel_rfl)
  replace H := H.move (K := nsK 22 37 2 en_TInterval (some ⟨((u2 0).n 0), 0, none⟩) 0 0 ([] : List (Sl TInterval)) ([] : List (Sl TInterval))) 39 900152 (by kernel_rfl) (by intro _ _ h; cases h)
  refine k_loopJ (fun m a w' => ∃ x7 : List (List TInterval), ∃ x8 : Int, armillaryref04_FromNumbers.l9 k0 a0 m x7 x8 = some j4 ∧ ∃ (p_x7 : Option Addr) (c_x7 np_x7 : Nat) (L_x7 : List (Sl TInterval)), np_x7 = L_x7.length ∧ x7 = L_x7.map Sl.l ∧ Rep w.heap.size w 37 (ofL [(0, sS p_a0 L_a0.length c_a0), (3, sS p_x7 np_x7 c_x7), (4, sI x8), (37, rdl anyF 1 p_a0 c_a0 L_a0 enSl), (38, dnK anyF E_S_i64.toPart L_a0), (900152, nsK 22 37 2 en_TInterval p_x7 np_x7 c_x7 L_x7 L_x7)]) a w') k0 ⟨_, _, G, (some ⟨((u2 0).n 0), 0, none⟩), 0, 0, ([] : List (Sl TInterval)), rfl, rfl, H.toL _ (by kernel_rfl)⟩ ?_
  clear G H
  rintro (_ | k) a w' ⟨x7, x8, G, p_x7, c_x7, _, L_x7, rfl, h_x7, H⟩
  ·exact absurd G (by unfold armillaryref04_FromNumbers.l9; exact fun h => by cases h)
  ·unfold armillaryref04_FromNumbers.l9 at G
   refine k_seq ?_
   refine k_seq ?_
   refine k_rg mixed H (.v 8 (vI x8) <|
   .v 9 (.slice p_a0 L_a0.length c_a0) <|
   .cons [10] (ok_valL [37] (fun u10 => [rdl anyF 1 p_a0 c_a0 L_a0 enSl]) (fun u10 => vI (a0.length : Int)) (fun u10 => true) [true] 10 (fun u10 w hg hF => run_lenN (((rdF_of hF.1).2.len enSl_len (by decide)).trans (map_len h_a0).symm) (by kernel_rfl))) <|
   .v 11 (.bool (decide (x8 < (a0.length : Int)))) <| .nil) fun u10 a w' H => ?_
   replace H := H.kp [0, 3, 4, 11, 37, 38, 900152]
   refine k_cond H (by kernel_rfl) (t := decide (x8 < (a0.length : Int))) (by kernel_rfl) (fun c33 => ?_) (fun c33 => ?_)
   ·rw [if_pos c33] at G
    refine k_skip ?_
    refine k_seq ?_
    replace G := bnd G; obtain ⟨j12, hj12, G⟩ := G
    refine k_join (fun a w' => ∃ (p_j11 : Option Addr) (c_j11 np_j11 : Nat) (L_j11 : List (Sl TInterval)), np_j11 = L_j11.length ∧ j12 = L_j11.map Sl.l ∧ Rep w.heap.size w 37 (ofL [(0, sS p_a0 L_a0.length c_a0), (3, sS p_j11 np_j11 c_j11), (4, sI x8), (37, rdl anyF 1 p_a0 c_a0 L_a0 enSl), (38, dnK anyF E_S_i64.toPart L_a0), (900154, nsK 22 37 2 en_TInterval p_j11 np_j11 c_j11 L_j11 L_j11)]) a w') ?_ ?_
    ·clear H; rintro a w' ⟨p_j11, c_j11, _, L_j11, rfl, h_j11, H⟩
     refine k_rg mixed H (.v 12 (vI x8) <|
   .v 13 (vI (w_i64 (x8 + 1))) <|
   .v 4 (vI (w_i64 (x8 + 1))) <| .nil) fun u13 a w' H => ?_
     replace H := H.kp [0, 3, 4, 37, 38, 900154]
     replace H := H.move (K := nsK 22 37 2 en_TInterval p_j11 L_j11.length c_j11 L_j11 L_j11) 900154 900152 (by kernel_rfl) (by intro _ _ h; cases h)
     exact ⟨k, Nat.lt_succ_self k, _, _, G, p_j11, c_j11, L_j11.length, L_j11, rfl, h_j11, H.toL _ (by kernel_rfl)⟩
    ·clear G; replace G := hj12; clear hj12
     refine k_block ?_
     refine k_seq ?_
     refine k_rg mixed H (.cons [14, 42] (ok_new (fun b => .slice (some ⟨b, 0, none⟩) 0 0) (fun u14 => []) 37 14 42) <|
   .cons [5] (ok_val (fun u14 => .slice (some ⟨((u14 0).n 0), 0, none⟩) 0 0) 5) <| .nil) fun u14 a w' H => ?_
     replace H := H.kp [0, 3, 4, 5, 37, 38, 42, 900152]
     refine k_seq ?_
     replace G := bnd G; obtain ⟨j16, hj16, G⟩ := G
     refine k_join (fun a w' => ∃ (p_j15 : Option Addr) (c_j15 np_j15 : Nat), np_j15 = j16.length ∧ Rep w.heap.size w 37 (ofL [(0, sS p_a0 L_a0.length c_a0), (3, sS p_x7 L_x7.length c_x7), (4, sI x8), (5, sS p_j15 np_j15 c_j15), (37, rdl anyF 1 p_a0 c_a0 L_a0 enSl), (38, dnK anyF E_S_i64.toPart L_a0), (900152, nsK 22 37 2 en_TInterval p_x7 L_x7.length c_x7 L_x7 L_x7), (900156, owK 37 2 p_j15 np_j15 c_j15 (j16.flatMap en_TInterval))]) a w') ?_ ?_
     ·clear H; rintro a w' ⟨p_j15, c_j15, _, rfl, H⟩
      replace G := gd G; obtain ⟨b18, G⟩ := G
      refine k_rg mixed H (.v 32 (.slice p_x7 L_x7.length c_x7) <|
   .v 33 (.slice p_j15 j16.length c_j15) <|
   .cons [34, 43] (ok_new (fun b => .slice (some ⟨b, 0, none⟩) 1 1) (fun u17 => [.slice p_j15 j16.length c_j15]) 22 34 43) <|
   .cons [35, 900152, 900156, 900152] (ok_own2 [2] [43] (fun u17 => [.blk ((u17 2).n 0) [.slice p_j15 j16.length c_j15] 22]) 900152 900156 (fun u17 => nsK 22 37 2 en_TInterval p_x7 L_x7.length c_x7 L_x7 L_x7) (fun u17 => owK 37 2 p_j15 j16.length c_j15 (j16.flatMap en_TInterval)) (some 35) (fun u17 g => .slice (g.o 0) (L_x7 ++ [(⟨p_j15, c_j15, j16⟩ : Sl TInterval)]).length (g.n 0)) (fun u17 g => nsK 22 37 2 en_TInterval (g.o 0) ((L_x7 ++ [(⟨p_j15, c_j15, j16⟩ : Sl TInterval)]).length) (g.n 0) (L_x7 ++ [(⟨p_j15, c_j15, j16⟩ : Sl TInterval)]) (L_x7 ++ [(⟨p_j15, c_j15, j16⟩ : Sl TInterval)])) (fun u17 w hF hK hK2 hd => tn_push hK hK2 hd en_TInterval_len (by decide) (fun hn h => run_app_rowN (t := 27) (ty := 27) (en := enSl) enSl_len inf22 h hF.1 (news := [(⟨p_j15, c_j15, j16⟩ : Sl TInterval)]) rfl (by simp) (by kernel_rfl) (by rw [← map_len h_x7]; exact b18))) (hloc := fun u u' h => ⟨by first | rfl | simp only [h 2 (by decide)], by first | rfl | simp only [h 2 (by decide)], by first | rfl | simp only [h 2 (by decide)], by first | rfl | simp only [h 2 (by decide)], by first | rfl | simp only [h 2 (by decide)]⟩)) <|
   .cons [3] (ok_val (fun u17 => .slice ((u17 3).o 0) ((L_x7 ++ [(⟨p_j15, c_j15, j16⟩ : Sl TInterval)]).length) ((u17 3).n 0)) 3) <| .nil) fun u17 a w' H => ?_
      replace H := H.kp [0, 3, 4, 37, 38, 900152]
      obtain rfl := Option.some.inj G
      replace H := H.move (K := nsK 22 37 2 en_TInterval ((u17 3).o 0) ((L_x7 ++ [(⟨p_j15, c_j15, j16⟩ : Sl TInterval)]).length) ((u17 3).n 0) (L_x7 ++ [(⟨p_j15, c_j15, j16⟩ : Sl TInterval)]) (L_x7 ++ [(⟨p_j15, c_j15, j16⟩ : Sl TInterval)])) 900152 900154 (by kernel_rfl) (by intro _ _ h; cases h)
      exact ⟨((u17 3).o 0), ((u17 3).n 0), (L_x7 ++ [(⟨p_j15, c_j15, j16⟩ : Sl TInterval)]).length, (L_x7 ++ [(⟨p_j15, c_j15, j16⟩ : Sl TInterval)]), rfl, (map_app h_x7 (⟨p_j15, c_j15, j16⟩ : Sl TInterval)), H.toL _ (by kernel_rfl)⟩
     ·clear G; replace G := hj16; clear hj16
      refine k_seq ?_
      refine k_rg mixed H (.v 6 (vI 0) <| .nil) fun u19 a w' H => ?_
      replace H := H.kp [0, 3, 4, 5, 6, 37, 38, 42, 900152]
      refine k_block ?_
      replace H := H.blk_row 42 ((u14 0).n 0) [] 37 2 0 (by kernel_rfl) (by kernel_rfl) (by decide)
      replace H := H.move (K := owK 37 2 (some ⟨((u14 0).n 0), 0, none⟩) 0 0 (([] : List TInterval).flatMap en_TInterval)) 42 900157 (by kernel_rfl) (by intro _ _ h; cases h)
      refine k_loopJ (fun m a w' => ∃ x20 : List TInterval, ∃ x21 : Int, armillaryref04_FromNumbers.l22 k0 a0 x7 x8 m x20 x21 = some j16 ∧ ∃ (p_x20 : Option Addr) (c_x20 np_x20 : Nat), np_x20 = x20.length ∧ Rep w.heap.size w 37 (ofL [(0, sS p_a0 L_a0.length c_a0), (3, sS p_x7 L_x7.length c_x7), (4, sI x8), (5, sS p_x20 np_x20 c_x20), (6, sI x21), (37, rdl anyF 1 p_a0 c_a0 L_a0 enSl), (38, dnK anyF E_S_i64.toPart L_a0), (900152, nsK 22 37 2 en_TInterval p_x7 L_x7.length c_x7 L_x7 L_x7), (900157, owK 37 2 p_x20 np_x20 c_x20 (x20.flatMap en_TInterval))]) a w') k0 ⟨_, _, G, (some ⟨((u14 0).n 0), 0, none⟩), 0, 0, rfl, H.toL _ (by kernel_rfl)⟩ ?_
      clear G H
      rintro (_ | k) a w' ⟨x20, x21, G, p_x20, c_x20, _, rfl, H⟩
      ·exact absurd G (by unfold armillaryref04_FromNumbers.l22; exact fun h => by cases h)
      ·unfold armillaryref04_FromNumbers.l22 at G
       refine k_seq ?_
       refine k_seq ?_
       refine k_rg mixed H (.v 15 (vI x21) <|
   .v 16 (.slice p_a0 L_a0.length c_a0) <|
   .cons [17] (ok_valL [37] (fun u23 => [rdl anyF 1 p_a0 c_a0 L_a0 enSl]) (fun u23 => vI (a0.length : Int)) (fun u23 => true) [true] 17 (fun u23 w hg hF => run_lenN (((rdF_of hF.1).2.len enSl_len (by decide)).trans (map_len h_a0).symm) (by kernel_rfl))) <|
   .v 18 (.bool (decide (x21 < (a0.length : Int)))) <| .nil) fun u23 a w' H => ?_
       replace H := H.kp [0, 3, 4, 5, 6, 18, 37, 38, 900152, 900157]
       refine k_cond H (by kernel_rfl) (t := decide (x21 < (a0.length : Int))) (by kernel_rfl) (fun c32 => ?_) (fun c32 => ?_)
       ·rw [if_pos c32] at G
        refine k_skip ?_
        refine k_seq ?_
        refine k_block ?_
        replace G := gd G; obtain ⟨b25, G⟩ := G
        replace G := bnd G; obtain ⟨t26, ht26, G⟩ := G
        obtain ⟨p_t26, c_t26, y_t26⟩ := sl_get h_a0 ht26
        replace G := gd G; obtain ⟨b27, G⟩ := G
        replace G := bnd G; obtain ⟨t28, ht28, G⟩ := G
        replace G := bnd G; obtain ⟨t29, ht29, G⟩ := G
        replace G := gd G; obtain ⟨b30, G⟩ := G
        refine k_rg mixed H (.v 21 (.slice p_x20 x20.length c_x20) <|
   .v 22 (.slice p_a0 L_a0.length c_a0) <|
   .v 23 (vI x8) <|
   .cons [24] (ok_valL [37] (fun u24 => [rdl anyF 1 p_a0 c_a0 L_a0 enSl]) (fun u24 => .pointer (some ⟨hdB p_a0, hdO p_a0 + x8.toNat * 1, none⟩)) (fun u24 => true) [true, true] 24 (fun u24 w hg hF => ix_row (t := 30) (k := .i64) (i := x8) (p := p_a0) (n := L_a0.length) (cap := c_a0) (x := a0) (en := enSl) (rdF_of hF.1).2 enSl_len (map_len h_a0) b25 (by kernel_rfl))) <|
   .cons [25] (ok_valL [37] (fun u24 => [rdl anyF 1 p_a0 c_a0 L_a0 enSl]) (fun u24 => .slice p_t26 t26.length c_t26) (fun u24 => true) [true] 25 (fun u24 w hg hF => ld_row (en := enSl) (rdF_of hF.1).2 enSl_len y_t26 0 1 [.slice p_t26 t26.length c_t26] rfl (by kernel_rfl))) <|
   .v 26 (vI x21) <|
   .cons [27] (ok_valL [38] (fun u24 => [dnK anyF E_S_i64.toPart L_a0]) (fun u24 => .pointer (some ⟨hdB p_t26, hdO p_t26 + x21.toNat * 1, none⟩)) (fun u24 => true) [true, true] 27 (fun u24 w hg hF => ix_row (t := 32) (k := .i64) (i := x21) (p := p_t26) (n := t26.length) (cap := c_t26) (x := t26) (en := en_i64) (show RowC _ 1 p_t26 t26.length c_t26 (t26.flatMap en_i64) from ((dn_of hF.1) _ (List.mem_of_getElem? y_t26)).1).2 en_i64_len rfl b27 (by kernel_rfl))) <|
   .cons [28] (ok_valL [38] (fun u24 => [dnK anyF E_S_i64.toPart L_a0]) (fun u24 => vI t28) (fun u24 => true) [true] 28 (fun u24 w hg hF => ld_row (en := en_i64) (show RowC _ 1 p_t26 t26.length c_t26 (t26.flatMap en_i64) from ((dn_of hF.1) _ (List.mem_of_getElem? y_t26)).1).2 en_i64_len ht28 0 1 [vI t28] rfl (by kernel_rfl))) <|
   .cons [29] (ok_callv 42 (fun u24 => #[vI t28]) (.agg #[vI t29.Lo, vI t29.Hi]) 29 [] (fun u24 w _ => armillaryref02_Point.calls t28  t29 w  ht29)) <|
   .cons [30, 46] (ok_new (fun b => .slice (some ⟨b, 0, none⟩) 1 1) (fun u24 => [vI t29.Lo, vI t29.Hi]) 37 30 46) <|
   .cons [31, 900157, 900157] (ok_own1 [9] [46] (fun u24 => [.blk ((u24 9).n 0) [vI t29.Lo, vI t29.Hi] 37]) 900157 (fun u24 => owK 37 2 p_x20 x20.length c_x20 (x20.flatMap en_TInterval)) (some 31) (fun u24 g => .slice (g.o 0) (x20 ++ [t29]).length (g.n 0)) (fun u24 g => owK 37 2 (g.o 0) ((x20 ++ [t29]).length) (g.n 0) ((x20 ++ [t29]).flatMap en_TInterval)) (fun u24 w hF hK => tv_app (run_app_rowN (t := 22) (ty := 22) (en := en_TInterval) en_TInterval_len inf37 (ow_of hK) hF.1 (news := [t29]) rfl (by simp) (by kernel_rfl) b30)) (hloc := fun u u' h => ⟨by first | rfl | simp only [h 9 (by decide)], by first | rfl | simp only [h 9 (by decide)], by first | rfl | simp only [h 9 (by decide)], by first | rfl | simp only [h 9 (by decide)]⟩)) <|
   .cons [5] (ok_val (fun u24 => .slice ((u24 10).o 0) ((x20 ++ [t29]).length) ((u24 10).n 0)) 5) <| .nil) fun u24 a w' H => ?_
        replace H := H.kp [0, 3, 4, 5, 6, 37, 38, 900152, 900157]
        refine k_rg mixed H (.v 19 (vI x21) <|
   .v 20 (vI (w_i64 (x21 + 1))) <|
   .v 6 (vI (w_i64 (x21 + 1))) <| .nil) fun u31 a w' H => ?_
        replace H := H.kp [0, 3, 4, 5, 6, 37, 38, 900152, 900157]
        exact ⟨k, Nat.lt_succ_self k, _, _, G, ((u24 10).o 0), ((u24 10).n 0), (x20 ++ [t29]).length, rfl, H.toL _ (by kernel_rfl)⟩
       ·rw [if_neg (nt c32)] at G
        refine k_exit rfl ?_
        obtain rfl := Option.some.inj G
        replace H := H.move (K := owK 37 2 p_x20 x20.length c_x20 (x20.flatMap en_TInterval)) 900157 900156 (by kernel_rfl) (by intro _ _ h; cases h)
        exact ⟨p_x20, c_x20, x20.length, rfl, H.toL _ (by kernel_rfl)⟩
   ·rw [if_neg (nt c33)] at G
    refine k_exit rfl ?_
    obtain rfl := Option.some.inj G
    replace H := H.move (K := nsK 22 37 2 en_TInterval p_x7 L_x7.length c_x7 L_x7 L_x7) 900152 900150 (by kernel_rfl) (by intro _ _ h; cases h)
    exact ⟨p_x7, c_x7, L_x7.length, L_x7, rfl, h_x7, H.toL _ (by kernel_rfl)⟩
set_option maxHeartbeats 4000000 in
theorem armillaryref03_Point.calls (k0 : Nat) (a0 : List Int) (p_a0 : Option Addr) (c_a0 : Nat) (r : List TInterval) (w : World) (hB : AllH [rdl anyF 1 p_a0 c_a0 a0 en_i64] w) (G : armillaryref03_Point k0 a0 = some r) :
  Calls Tryd.prog 38 #[.slice p_a0 a0.length c_a0] w fun e w' => ∃ g : Gh, e = .returned (.slice (g.o 0) r.length (g.n 0)) ∧ But (fpK []) w w' ∧ OutOK w.heap.size (fpK []) (frI w.heap.size []) [fun _ => owK 37 2 (g.o 0) r.length (g.n 0) (r.flatMap en_TInterval)] w' := by
 obtain ⟨fr, hfr⟩ : ∃ fr : Nat → Prop, fr = frI w.heap.size [] := ⟨_, rfl⟩
 have hBf : ∀ j, w.heap.size ≤ j → fr j := fun j h => by rw [hfr]; exact .inl h
 refine k_enterF (args := [.slice p_a0 a0.length c_a0]) 21 [(21, rdl anyF 1 p_a0 c_a0 a0 en_i64)] (by
  intro x hx
  simp only [List.mem_cons, List.not_mem_nil, or_false] at hx
  rcases hx with rfl
  exact rdF_fact (rdF_of hB.1) (fun _ _ => trivial) (by decide) _) Tryd.func38 rfl (by kernel_rfl) (by kernel_rfl) fun a H => ?_
 unfold armillaryref03_Point at G
 refine k_seq ?_
 refine k_rg mixed H (.v 2 (.slice none 0 0) <| .nil) fun u1 a w' H => ?_
 replace H := H.kp [0, 21]
 refine k_seq ?_
 refine k_rg mixed H (.cons [5, 22] (ok_new (fun b => .slice (some ⟨b, 0, none⟩) 0 0) (fun u2 => []) 37 5 22) <|
   .cons [3] (ok_val (fun u2 => .slice (some ⟨((u2 0).n 0), 0, none⟩) 0 0) 3) <| .nil) fun u2 a w' H => ?_
 replace H := H.kp [0, 3, 21, 22]
 refine k_seq ?_
 replace G := bnd G; obtain ⟨j4, hj4, G⟩ := G
 refine k_join (fun a w' => ∃ (p_j3 : Option Addr) (c_j3 np_j3 : Nat), np_j3 = j4.length ∧ Rep w.heap.size w 21 (ofL [(3, sS p_j3 np_j3 c_j3), (900158, owK 37 2 p_j3 np_j3 c_j3 (j4.flatMap en_TInterval))]) a w') ?_ ?_
 ·clear H; rintro a w' ⟨p_j3, c_j3, _, rfl, H⟩
  refine k_seq ?_
  refine k_rg mixed H (.v 20 (.slice p_j3 j4.length c_j3) <|
   .v 2 (.slice p_j3 j4.length c_j3) <| .nil) fun u5 a w' H => ?_
  replace H := H.kp [2, 900158]
  refine k_ret ?_
  obtain rfl := Option.some.inj G
  obtain ⟨g, o0, n0⟩ : ∃ g : Gh, g.o 0 = p_j3 ∧ g.n 0 = c_j3 := ⟨⟨fun i => [c_j3].getD i 0, fun i => [p_j3].getD i none, fun i => ([⟨Unit, ()⟩] : List ((T : Type) × T)).getD i ⟨Unit, ()⟩⟩, rfl, rfl⟩
  refine k_doneZ H (fun g => .slice (g.o 0) j4.length (g.n 0)) g [] [] (fun g => [fun _ => owK 37 2 (g.o 0) j4.length (g.n 0) (j4.flatMap en_TInterval)]) fr [900158] [] (.slice p_j3 j4.length c_j3) [fun _ => owK 37 2 p_j3 j4.length c_j3 (j4.flatMap en_TInterval)] (by simp only [o0, n0]) (by simp only [o0, n0]) hfr (.inl ⟨rfl, rfl⟩) (fams_cons fam_ow fams_nil) (by simp)
 ·clear G; replace G := hj4; clear hj4
  refine k_seq ?_
  refine k_rg mixed H (.v 4 (vI 0) <| .nil) fun u6 a w' H => ?_
  replace H := H.kp [0, 3, 4, 21, 22]
  refine k_block ?_
  replace H := H.blk_row 22 ((u2 0).n 0) [] 37 2 0 (by kernel_rfl) (by kernel_rfl) (by decide)
  replace H := H.move (K := owK 37 2 (some ⟨((u2 0).n 0), 0, none⟩) 0 0 (([] : List TInterval).flatMap en_TInterval)) 22 900159 (by kernel_rfl) (by intro _ _ h; cases h)
  refine k_loopJ (fun m a w' => ∃ x7 : List TInterval, ∃ x8 : Int, armillaryref03_Point.l9 k0 a0 m x7 x8 = some j4 ∧ ∃ (p_x7 : Option Addr) (c_x7 np_x7 : Nat), np_x7 = x7.length ∧ Rep w.heap.size w 21 (ofL [(0, sS p_a0 a0.length c_a0), (3, sS p_x7 np_x7 c_x7), (4, sI x8), (21, rdl anyF 1 p_a0 c_a0 a0 en_i64), (900159, owK 37 2 p_x7 np_x7 c_x7 (x7.flatMap en_TInterval))]) a w') k0 ⟨_, _, G, (some ⟨((u2 0).n 0), 0, none⟩), 0, 0, rfl, H.toL _ (by kernel_rfl)⟩ ?_
  clear G H
  rintro (_ | k) a w' ⟨x7, x8, G, p_x7, c_x7, _, rfl, H⟩
  ·exact absurd G (by unfold armillaryref03_Point.l9; exact fun h => by cases h)
  ·unfold armillaryref03_Point.l9 at G
   refine k_seq ?_
   refine k_seq ?_
   refine k_rg mixed H (.v 6 (vI x8) <|
   .v 7 (.slice p_a0 a0.length c_a0) <|
   .v 8 (vI (a0.length : Int)) <|
   .v 9 (.bool (decide (x8 < (a0.length : Int)))) <| .nil) fun u10 a w' H => ?_
   replace H := H.kp [0, 3, 4, 9, 21, 900159]
   refine k_cond H (by kernel_rfl) (t := decide (x8 < (a0.length : Int))) (by kernel_rfl) (fun c17 => ?_) (fun c17 => ?_)
   ·rw [if_pos c17] at G
    refine k_skip ?_
    refine k_seq ?_
    refine k_block ?_
    replace G := gd G; obtain ⟨b12, G⟩ := G
    replace G := bnd G; obtain ⟨t13, ht13, G⟩ := G
    replace G := bnd G; obtain ⟨t14, ht14, G⟩ := G
    replace G := gd G; obtain ⟨b15, G⟩ := G
    refine k_rg mixed H (.v 12 (.slice p_x7 x7.length c_x7) <|
   .v 13 (.slice p_a0 a0.length c_a0) <|
   .v 14 (vI x8) <|
   .cons [15] (ok_valL [21] (fun u11 => [rdl anyF 1 p_a0 c_a0 a0 en_i64]) (fun u11 => .pointer (some ⟨hdB p_a0, hdO p_a0 + x8.toNat * 1, none⟩)) (fun u11 => true) [true, true] 15 (fun u11 w hg hF => ix_row (t := 32) (k := .i64) (i := x8) (p := p_a0) (n := a0.length) (cap := c_a0) (x := a0) (en := en_i64) (rdF_of hF.1).2 en_i64_len rfl b12 (by kernel_rfl))) <|
   .cons [16] (ok_valL [21] (fun u11 => [rdl anyF 1 p_a0 c_a0 a0 en_i64]) (fun u11 => vI t13) (fun u11 => true) [true] 16 (fun u11 w hg hF => ld_row (en := en_i64) (rdF_of hF.1).2 en_i64_len ht13 0 1 [vI t13] rfl (by kernel_rfl))) <|
   .cons [17] (ok_callv 42 (fun u11 => #[vI t13]) (.agg #[vI t14.Lo, vI t14.Hi]) 17 [] (fun u11 w _ => armillaryref02_Point.calls t13  t14 w  ht14)) <|
   .cons [18, 23] (ok_new (fun b => .slice (some ⟨b, 0, none⟩) 1 1) (fun u11 => [vI t14.Lo, vI t14.Hi]) 37 18 23) <|
   .cons [19, 900159, 900159] (ok_own1 [6] [23] (fun u11 => [.blk ((u11 6).n 0) [vI t14.Lo, vI t14.Hi] 37]) 900159 (fun u11 => owK 37 2 p_x7 x7.length c_x7 (x7.flatMap en_TInterval)) (some 19) (fun u11 g => .slice (g.o 0) (x7 ++ [t14]).length (g.n 0)) (fun u11 g => owK 37 2 (g.o 0) ((x7 ++ [t14]).length) (g.n 0) ((x7 ++ [t14]).flatMap en_TInterval)) (fun u11 w hF hK => tv_app (run_app_rowN (t := 22) (ty := 22) (en := en_TInterval) en_TInterval_len inf37 (ow_of hK) hF.1 (news := [t14]) rfl (by simp) (by kernel_rfl) b15)) (hloc := fun u u' h => ⟨by first | rfl | simp only [h 6 (by decide)], by first | rfl | simp only [h 6 (by decide)], by first | rfl | simp only [h 6 (by decide)], by first | rfl | simp only [h 6 (by decide)]⟩)) <|
   .cons [3] (ok_val (fun u11 => .slice ((u11 7).o 0) ((x7 ++ [t14]).length) ((u11 7).n 0)) 3) <| .nil) fun u11 a w' H => ?_
    replace H := H.kp [0, 3, 4, 21, 900159]
    refine k_rg mixed H (.v 10 (vI x8) <|
   .v 11 (vI (w_i64 (x8 + 1))) <|
   .v 4 (vI (w_i64 (x8 + 1))) <| .nil) fun u16 a w' H => ?_
    replace H := H.kp [0, 3, 4, 21, 900159]
    exact ⟨k, Nat.lt_succ_self k, _, _, G, ((u11 7).o 0), ((u11 7).n 0), (x7 ++ [t14]).length, rfl, H.toL _ (by kernel_rfl)⟩
   ·rw [if_neg (nt c17)] at G
    refine k_exit rfl ?_
    obtain rfl := Option.some.inj G
    replace H := H.move (K := owK 37 2 p_x7 x7.length c_x7 (x7.flatMap en_TInterval)) 900159 900158 (by kernel_rfl) (by intro _ _ h; cases h)
    exact ⟨p_x7, c_x7, x7.length, rfl, H.toL _ (by kernel_rfl)⟩
set_option maxHeartbeats 4000000 in
theorem armillaryref02_Contains.calls (a0 : TInterval) (a1 : Int) (r : Bool) (w : World) (G : armillaryref02_Contains a0 a1 = some r) :
  Calls Tryd.prog 39 #[.agg #[vI a0.Lo, vI a0.Hi], vI a1] w fun e w' => e = .returned (.bool r) ∧ Below w.heap.size w w' := by
 refine k_enter (args := [.agg #[vI a0.Lo, vI a0.Hi], vI a1]) 19 Tryd.func39 rfl (by kernel_rfl) (by kernel_rfl) fun a H => ?_
 unfold armillaryref02_Contains at G
 refine k_seq ?_
 refine k_rg mixed H (.cons [2, 19] (ok_new (fun b => vP b 0) (fun u1 => [vI a0.Lo, vI a0.Hi]) 37 2 19) <|
   .v 4 (.bool false) <| .nil) fun u1 a w' H => ?_
 replace H := H.kp [1, 2, 19]
 refine k_seq ?_
 replace G := bnd G; obtain ⟨t3, ht3, G⟩ := G
 refine k_rg mixed H (.cons [5] (ok_ld (fun u2 => .agg #[vI a0.Lo, vI a0.Hi]) 5 19 0 2 (fun u2 => ((u1 0).n 0)) (fun u2 => [vI a0.Lo, vI a0.Hi]) 37) <|
   .cons [6] (ok_callv 40 (fun u2 => #[.agg #[vI a0.Lo, vI a0.Hi]]) (.bool t3) 6 [] (fun u2 w _ => armillaryref02_IsEntire.calls a0  t3 w  ht3)) <|
   .v 7 (.bool t3) <|
   .cons [8] (ok_valg (fun u2 => vP ((u1 0).n 0) 0) (fun u2 => (t3 == false)) [true] 8) <|
   .cons [9] (ok_ldg (fun u2 => vI a0.Lo) (fun u2 => (t3 == false)) [false] 9 19 0 1 (fun u2 => ((u1 0).n 0)) (fun u2 => [vI a0.Lo, vI a0.Hi]) 37) <|
   .cons [10] (ok_valg (fun u2 => vI a1) (fun u2 => (t3 == false)) [true] 10) <|
   .cons [11] (ok_valg (fun u2 => .bool (decide (a0.Lo ≤ a1))) (fun u2 => (t3 == false)) [false, false] 11) <|
   .cons [12] (ok_valg (fun u2 => .bool (decide (a0.Lo ≤ a1))) (fun u2 => (t3 == false)) [false] 12) <|
   .cons [13] (ok_valg (fun u2 => vI a1) (fun u2 => ((t3 == false) && ((decide (a0.Lo ≤ a1)) == true))) [true] 13) <|
   .cons [14] (ok_valg (fun u2 => vP ((u1 0).n 0) 1) (fun u2 => ((t3 == false) && ((decide (a0.Lo ≤ a1)) == true))) [true] 14) <|
   .cons [15] (ok_ldg (fun u2 => vI a0.Hi) (fun u2 => ((t3 == false) && ((decide (a0.Lo ≤ a1)) == true))) [false] 15 19 1 1 (fun u2 => ((u1 0).n 0)) (fun u2 => [vI a0.Lo, vI a0.Hi]) 37) <|
   .cons [16] (ok_valg (fun u2 => .bool (decide (a1 ≤ a0.Hi))) (fun u2 => ((t3 == false) && ((decide (a0.Lo ≤ a1)) == true))) [false, false] 16) <|
   .cons [17] (ok_and 12 16 (fun u2 => (t3 == false)) (fun u2 => (t3 == false)) (fun u2 => decide (a0.Lo ≤ a1)) (fun u2 => decide (a1 ≤ a0.Hi)) 17) <|
   .cons [18] (ok_or 7 17 (fun u2 => true) (fun u2 => true) (fun u2 => t3) (fun u2 => ((decide (a0.Lo ≤ a1)) && (decide (a1 ≤ a0.Hi)))) 18) <|
   .v 4 (.bool (t3 || ((decide (a0.Lo ≤ a1)) && (decide (a1 ≤ a0.Hi))))) <| .nil) fun u2 a w' H => ?_
 replace H := H.kp [4]
 refine k_ret ?_
 obtain rfl := Option.some.inj G
 exact k_done0 H _ (by kernel_rfl) (by kernel_rfl)
end Go.Proofs.YtglcmhldonkfdaaDoor
