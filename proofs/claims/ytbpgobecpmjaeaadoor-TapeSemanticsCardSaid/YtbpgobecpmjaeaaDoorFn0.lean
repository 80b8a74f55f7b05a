/- Each function of the program answers as the plain Lean function of its name (part 0). Printed by a program of this session. -/
import Derived.Test.YtbpgobecpmjaeaaDoorEn
set_option linter.unusedVariables false
set_option linter.unusedSimpArgs false
set_option maxRecDepth 100000
namespace Go.Proofs.YtbpgobecpmjaeaaDoor
open Go Go.RowKit Go.Sx Go.Proofs
set_option maxHeartbeats 4000000 in
theorem armillaryref02_Same.calls (a0 : TInterval) (a1 : TInterval) (r : Bool) (w : World) (G : armillaryref02_Same a0 a1 = some r) :
  Calls Tryd.prog 28 #[.agg #[vI a0.Lo, vI a0.Hi], .agg #[vI a1.Lo, vI a1.Hi]] w fun e w' => e = .returned (.bool r) ∧ Below w.heap.size w w' := by
 refine k_enter (args := [.agg #[vI a0.Lo, vI a0.Hi], .agg #[vI a1.Lo, vI a1.Hi]]) 17 Tryd.func28 rfl (by kernel_rfl) (by kernel_rfl) fun a H => ?_
 unfold armillaryref02_Same at G
 refine k_seq ?_
 refine k_rg mixed H (.cons [2, 17] (ok_new (fun b => vP b 0) (fun u1 => [vI a0.Lo, vI a0.Hi]) 28 2 17) <|
   .cons [3, 18] (ok_new (fun b => vP b 0) (fun u1 => [vI a1.Lo, vI a1.Hi]) 28 3 18) <|
   .v 4 (.bool false) <| .nil) fun u1 a w' H => ?_
 replace H := H.kp [2, 3, 17, 18]
 refine k_seq ?_
 refine k_rg mixed H (.v 5 (vP ((u1 0).n 0) 0) <|
   .cons [6] (ok_ld (fun u2 => vI a0.Lo) 6 17 0 1 (fun u2 => ((u1 0).n 0)) (fun u2 => [vI a0.Lo, vI a0.Hi]) 28) <|
   .v 7 (vP ((u1 1).n 0) 0) <|
   .cons [8] (ok_ld (fun u2 => vI a1.Lo) 8 18 0 1 (fun u2 => ((u1 1).n 0)) (fun u2 => [vI a1.Lo, vI a1.Hi]) 28) <|
   .v 9 (.bool (a0.Lo == a1.Lo)) <|
   .v 10 (.bool (a0.Lo == a1.Lo)) <|
   .cons [11] (ok_valg (fun u2 => vP ((u1 0).n 0) 1) (fun u2 => ((a0.Lo == a1.Lo) == true)) [true] 11) <|
   .cons [12] (ok_ldg (fun u2 => vI a0.Hi) (fun u2 => ((a0.Lo == a1.Lo) == true)) [false] 12 17 1 1 (fun u2 => ((u1 0).n 0)) (fun u2 => [vI a0.Lo, vI a0.Hi]) 28) <|
   .cons [13] (ok_valg (fun u2 => vP ((u1 1).n 0) 1) (fun u2 => ((a0.Lo == a1.Lo) == true)) [true] 13) <|
   .cons [14] (ok_ldg (fun u2 => vI a1.Hi) (fun u2 => ((a0.Lo == a1.Lo) == true)) [false] 14 18 1 1 (fun u2 => ((u1 1).n 0)) (fun u2 => [vI a1.Lo, vI a1.Hi]) 28) <|
   .cons [15] (ok_valg (fun u2 => .bool (a0.Hi == a1.Hi)) (fun u2 => ((a0.Lo == a1.Lo) == true)) [false, false] 15) <|
   .cons [16] (ok_and 10 15 (fun u2 => true) (fun u2 => true) (fun u2 => (a0.Lo == a1.Lo)) (fun u2 => (a0.Hi == a1.Hi)) 16) <|
   .v 4 (.bool ((a0.Lo == a1.Lo) && (a0.Hi == a1.Hi))) <| .nil) fun u2 a w' H => ?_
 replace H := H.kp [4]
 refine k_ret ?_
 obtain rfl := Option.some.inj G
 exact k_done0 H _ (by kernel_rfl) (by kernel_rfl)
set_option maxHeartbeats 4000000 in
theorem armillaryref08_SameBoxes.calls (k0 : Nat) (a0 : List TInterval) (a1 : List TInterval) (p_a0 : Option Addr) (c_a0 : Nat) (p_a1 : Option Addr) (c_a1 : Nat) (r : Bool) (w : World) (hB : AllH [rdl anyF 2 p_a0 c_a0 a0 en_TInterval, rdl anyF 2 p_a1 c_a1 a1 en_TInterval] w) (G : armillaryref08_SameBoxes k0 a0 a1 = some r) :
  Calls Tryd.prog 9 #[.slice p_a0 a0.length c_a0, .slice p_a1 a1.length c_a1] w fun e w' => e = .returned (.bool r) ∧ Below w.heap.size w w' := by
 obtain ⟨fr, hfr⟩ : ∃ fr : Nat → Prop, ∀ j, fr j := ⟨fun _ => True, fun _ => trivial⟩
 have hBf : ∀ j, w.heap.size ≤ j → fr j := fun j _ => hfr j
 refine k_enterF (args := [.slice p_a0 a0.length c_a0, .slice p_a1 a1.length c_a1]) 27 [(27, rdl anyF 2 p_a0 c_a0 a0 en_TInterval), (28, rdl anyF 2 p_a1 c_a1 a1 en_TInterval)] (by
  intro x hx
  simp only [List.mem_cons, List.not_mem_nil, or_false] at hx
  rcases hx with rfl | rfl
  ·exact rdF_fact (rdF_of hB.1) (fun _ _ => trivial) (by decide) _
  ·exact rdF_fact (rdF_of hB.2.1) (fun _ _ => trivial) (by decide) _) Tryd.func9 rfl (by kernel_rfl) (by kernel_rfl) fun a H => ?_
 unfold armillaryref08_SameBoxes at G
 refine k_seq ?_
 refine k_rg mixed H (.v 4 (.bool false) <| .nil) fun u1 a w' H => ?_
 replace H := H.kp [0, 1, 27, 28]
 refine k_seq ?_
 refine k_seq ?_
 refine k_rg mixed H (.v 6 (.slice p_a0 a0.length c_a0) <|
   .v 7 (vI (a0.length : Int)) <|
   .v 8 (.slice p_a1 a1.length c_a1) <|
   .v 9 (vI (a1.length : Int)) <|
   .v 10 (.bool ((a0.length : Int) != (a1.length : Int))) <| .nil) fun u2 a w' H => ?_
 replace H := H.kp [0, 1, 10, 27, 28]
 refine k_cond H (by kernel_rfl) (t := ((a0.length : Int) != (a1.length : Int))) (by kernel_rfl) (fun c22 => ?_) (fun c22 => ?_)
 ·rw [if_pos c22] at G
  refine k_seq ?_
  refine k_rg mixed H (.v 4 (.bool false) <| .nil) fun u3 a w' H => ?_
  replace H := H.kp [4]
  refine k_ret ?_
  obtain rfl := Option.some.inj G
  exact k_done0 H _ (by kernel_rfl) (by kernel_rfl)
 ·rw [if_neg (nt c22)] at G
  refine k_skip ?_
  refine k_seq ?_
  replace G := bnd G; obtain ⟨j4, hj4, Gj4⟩ := G
  refine k_join (fun a w' => ∃ j4v, j4 = Sum.inr j4v ∧ Rep w.heap.size w 27 (ofL []) a w') ?_ ?_
  ·clear H; rintro a w' ⟨j4v, rfl, H⟩; have G := Gj4; clear Gj4; dsimp only at G
   refine k_seq ?_
   refine k_rg mixed H (.v 4 (.bool true) <| .nil) fun u5 a w' H => ?_
   replace H := H.kp [4]
   refine k_ret ?_
   obtain rfl := Option.some.inj G
   exact k_done0 H _ (by kernel_rfl) (by kernel_rfl)
  ·have G := hj4; clear hj4
   refine k_seq ?_
   refine k_rg mixed H (.v 5 (vI 0) <| .nil) fun u6 a w' H => ?_
   replace H := H.kp [0, 1, 5, 27, 28]
   refine k_block ?_
   refine k_loopJ (fun m a w' => ∃ x7 : Int, armillaryref08_SameBoxes.l8 k0 a0 a1 m x7 = some j4 ∧ Rep w.heap.size w 27 (ofL [(0, sS p_a0 a0.length c_a0), (1, sS p_a1 a1.length c_a1), (5, sI x7), (27, rdl anyF 2 p_a0 c_a0 a0 en_TInterval), (28, rdl anyF 2 p_a1 c_a1 a1 en_TInterval)]) a w') k0 ⟨_, G, H.toL _ (by kernel_rfl)⟩ ?_
   clear G H
   rintro (_ | k) a w' ⟨x7, G, H⟩
   ·exact absurd G (by unfold armillaryref08_SameBoxes.l8; exact fun h => by cases h)
   ·unfold armillaryref08_SameBoxes.l8 at G
    refine k_seq ?_
    refine k_seq ?_
    refine k_rg mixed H (.v 11 (vI x7) <|
   .v 12 (.slice p_a0 a0.length c_a0) <|
   .v 13 (vI (a0.length : Int)) <|
   .v 14 (.bool (decide (x7 < (a0.length : Int)))) <| .nil) fun u9 a w' H => ?_
    replace H := H.kp [0, 1, 5, 14, 27, 28]
    refine k_cond H (by kernel_rfl) (t := decide (x7 < (a0.length : Int))) (by kernel_rfl) (fun c21 => ?_) (fun c21 => ?_)
    ·rw [if_pos c21] at G
     refine k_skip ?_
     refine k_seq ?_
     refine k_block ?_
     refine k_seq ?_
     replace G := gd G; obtain ⟨b11, G⟩ := G
     replace G := bnd G; obtain ⟨t12, ht12, G⟩ := G
     have P13 := ptr_of (en := en_TInterval) (l := a0) (rdF_of (H.at (K := rdl anyF 2 p_a0 c_a0 a0 en_TInterval) 27 (by kernel_rfl))).2 en_TInterval_len
     replace G := gd G; obtain ⟨b14, G⟩ := G
     replace G := bnd G; obtain ⟨t15, ht15, G⟩ := G
     have P16 := ptr_of (en := en_TInterval) (l := a1) (rdF_of (H.at (K := rdl anyF 2 p_a1 c_a1 a1 en_TInterval) 28 (by kernel_rfl))).2 en_TInterval_len
     replace G := bnd G; obtain ⟨t17, ht17, G⟩ := G
     refine k_rg mixed H (.v 17 (.slice p_a0 a0.length c_a0) <|
   .v 18 (vI x7) <|
   .cons [19] (ok_val (fun u10 => .pointer (some ⟨hdB p_a0, hdO p_a0 + x7.toNat * 2, none⟩)) 19 (hv := fun _ _ => ix_pure (t := 26) (k := .i64) (i := x7) (p := p_a0) (n := a0.length) (cap := c_a0) (x := a0) P13 rfl b11 (by kernel_rfl))) <|
   .cons [20] (ok_valL [27] (fun u10 => [rdl anyF 2 p_a0 c_a0 a0 en_TInterval]) (fun u10 => .agg #[vI t12.Lo, vI t12.Hi]) (fun u10 => true) [true] 20 (fun u10 w hg hF => ld_row (en := en_TInterval) (rdF_of hF.1).2 en_TInterval_len ht12 0 2 [vI t12.Lo, vI t12.Hi] rfl (by kernel_rfl))) <|
   .v 21 (.slice p_a1 a1.length c_a1) <|
   .v 22 (vI x7) <|
   .cons [23] (ok_val (fun u10 => .pointer (some ⟨hdB p_a1, hdO p_a1 + x7.toNat * 2, none⟩)) 23 (hv := fun _ _ => ix_pure (t := 26) (k := .i64) (i := x7) (p := p_a1) (n := a1.length) (cap := c_a1) (x := a1) P16 rfl b14 (by kernel_rfl))) <|
   .cons [24] (ok_valL [28] (fun u10 => [rdl anyF 2 p_a1 c_a1 a1 en_TInterval]) (fun u10 => .agg #[vI t15.Lo, vI t15.Hi]) (fun u10 => true) [true] 24 (fun u10 w hg hF => ld_row (en := en_TInterval) (rdF_of hF.1).2 en_TInterval_len ht15 0 2 [vI t15.Lo, vI t15.Hi] rfl (by kernel_rfl))) <|
   .cons [25] (ok_callv 28 (fun u10 => #[.agg #[vI t12.Lo, vI t12.Hi], .agg #[vI t15.Lo, vI t15.Hi]]) (.bool t17) 25 [] (fun u10 w _ => armillaryref02_Same.calls t12 t15  t17 w  ht17)) <|
   .v 26 (.bool (!t17)) <| .nil) fun u10 a w' H => ?_
     replace H := H.kp [0, 1, 5, 26, 27, 28]
     refine k_cond H (by kernel_rfl) (t := (!t17)) (by kernel_rfl) (fun c20 => ?_) (fun c20 => ?_)
     ·rw [if_pos c20] at G
      refine k_seq ?_
      refine k_rg mixed H (.v 4 (.bool false) <| .nil) fun u18 a w' H => ?_
      replace H := H.kp [4]
      refine k_ret ?_
      obtain rfl := Option.some.inj G
      replace G := Gj4
      obtain rfl := Option.some.inj G
      exact k_done0 H _ (by kernel_rfl) (by kernel_rfl)
     ·rw [if_neg (nt c20)] at G
      refine k_skip ?_
      refine k_rg mixed H (.v 15 (vI x7) <|
   .v 16 (vI (w_i64 (x7 + 1))) <|
   .v 5 (vI (w_i64 (x7 + 1))) <| .nil) fun u19 a w' H => ?_
      replace H := H.kp [0, 1, 5, 27, 28]
      exact ⟨k, Nat.lt_succ_self k, _, G, H.toL _ (by kernel_rfl)⟩
    ·rw [if_neg (nt c21)] at G
     refine k_exit rfl ?_
     obtain rfl := Option.some.inj G
     exact ⟨_, rfl, H.toL _ (by kernel_rfl)⟩
set_option maxHeartbeats 4000000 in
theorem interval_Neg.calls (a0 : TInterval) (r : TInterval) (w : World) (G : interval_Neg a0 = some r) :
  Calls Tryd.prog 46 #[.agg #[vI a0.Lo, vI a0.Hi]] w fun e w' => e = .returned (.agg #[vI r.Lo, vI r.Hi]) ∧ Below w.heap.size w w' := by
 refine k_enter (args := [.agg #[vI a0.Lo, vI a0.Hi]]) 10 Tryd.func46 rfl (by kernel_rfl) (by kernel_rfl) fun a H => ?_
 unfold interval_Neg at G
 refine k_seq ?_
 refine k_rg mixed H (.cons [1, 10] (ok_new (fun b => vP b 0) (fun u1 => [vI a0.Lo, vI a0.Hi]) 28 1 10) <|
   .cons [2, 11] (ok_new (fun b => vP b 0) (fun u1 => [vI 0, vI 0]) 28 2 11) <| .nil) fun u1 a w' H => ?_
 replace H := H.kp [1, 2, 10, 11]
 refine k_seq ?_
 refine k_rg mixed H (.v 3 (vP ((u1 0).n 0) 1) <|
   .cons [4] (ok_ld (fun u2 => vI a0.Hi) 4 10 1 1 (fun u2 => ((u1 0).n 0)) (fun u2 => [vI a0.Lo, vI a0.Hi]) 28) <|
   .v 5 (vI (w_i64 (0 - a0.Hi))) <|
   .v 6 (vP ((u1 0).n 0) 0) <|
   .cons [7] (ok_ld (fun u2 => vI a0.Lo) 7 10 0 1 (fun u2 => ((u1 0).n 0)) (fun u2 => [vI a0.Lo, vI a0.Hi]) 28) <|
   .v 8 (vI (w_i64 (0 - a0.Lo))) <|
   .v 9 (.agg #[vI (w_i64 (0 - a0.Hi)), vI (w_i64 (0 - a0.Lo))]) <|
   .cons [11] (ok_as (u' := fun u2 => [(11, .blk ((u1 1).n 0) [vI (w_i64 (0 - a0.Hi)), vI (w_i64 (0 - a0.Lo))] 28)]) (ok_store 11 0 (fun u2 => ((u1 1).n 0)) (fun u2 => [vI 0, vI 0]) (fun u2 => [vI (w_i64 (0 - a0.Hi)), vI (w_i64 (0 - a0.Lo))]) 28) (fun _ => by kernel_rfl)) <| .nil) fun u2 a w' H => ?_
 replace H := H.kp [2, 11]
 refine k_ret ?_
 obtain rfl := Option.some.inj G
 exact k_done1 H _ 11 ((u1 1).n 0) [vI (w_i64 (0 - a0.Hi)), vI (w_i64 (0 - a0.Lo))] 28 0 2 (by kernel_rfl) (by kernel_rfl) (by kernel_rfl) (by kernel_rfl)
set_option maxHeartbeats 4000000 in
theorem interval_Entire.calls (r : TInterval) (w : World) (G : interval_Entire = some r) :
  Calls Tryd.prog 48 #[] w fun e w' => e = .returned (.agg #[vI r.Lo, vI r.Hi]) ∧ Below w.heap.size w w' := by
 refine k_enter (args := []) 2 Tryd.func48 rfl (by kernel_rfl) (by kernel_rfl) fun a H => ?_
 unfold interval_Entire at G
 refine k_seq ?_
 refine k_rg mixed H (.cons [0, 2] (ok_new (fun b => vP b 0) (fun u1 => [vI 0, vI 0]) 28 0 2) <| .nil) fun u1 a w' H => ?_
 replace H := H.kp [0, 2]
 refine k_seq ?_
 refine k_rg mixed H (.v 1 (.agg #[vI (-2147483648), vI 2147483648]) <|
   .cons [2] (ok_as (u' := fun u2 => [(2, .blk ((u1 0).n 0) [vI (-2147483648), vI 2147483648] 28)]) (ok_store 2 0 (fun u2 => ((u1 0).n 0)) (fun u2 => [vI 0, vI 0]) (fun u2 => [vI (-2147483648), vI 2147483648]) 28) (fun _ => by kernel_rfl)) <| .nil) fun u2 a w' H => ?_
 replace H := H.kp [0, 2]
 refine k_ret ?_
 obtain rfl := Option.some.inj G
 exact k_done1 H _ 2 ((u1 0).n 0) [vI (-2147483648), vI 2147483648] 28 0 2 (by kernel_rfl) (by kernel_rfl) (by kernel_rfl) (by kernel_rfl)
set_option maxHeartbeats 4000000 in
theorem interval_IsEntire.calls (a0 : TInterval) (r : Bool) (w : World) (G : interval_IsEntire a0 = some r) :
  Calls Tryd.prog 50 #[.agg #[vI a0.Lo, vI a0.Hi]] w fun e w' => e = .returned (.bool r) ∧ Below w.heap.size w w' := by
 refine k_enter (args := [.agg #[vI a0.Lo, vI a0.Hi]]) 6 Tryd.func50 rfl (by kernel_rfl) (by kernel_rfl) fun a H => ?_
 unfold interval_IsEntire at G
 refine k_seq ?_
 refine k_rg mixed H (.cons [1, 6] (ok_new (fun b => vP b 0) (fun u1 => [vI a0.Lo, vI a0.Hi]) 28 1 6) <|
   .v 2 (.bool false) <| .nil) fun u1 a w' H => ?_
 replace H := H.kp [1, 6]
 refine k_seq ?_
 replace G := bnd G; obtain ⟨t3, ht3, G⟩ := G
 refine k_rg mixed H (.cons [3] (ok_ld (fun u2 => .agg #[vI a0.Lo, vI a0.Hi]) 3 6 0 2 (fun u2 => ((u1 0).n 0)) (fun u2 => [vI a0.Lo, vI a0.Hi]) 28) <|
   .cons [4] (ok_callv 48 (fun u2 => #[]) (.agg #[vI t3.Lo, vI t3.Hi]) 4 [] (fun u2 w _ => interval_Entire.calls   t3 w  ht3)) <|
   .cons [5] (ok_val (fun u2 => .bool ((a0.Lo == t3.Lo) && ((a0.Hi == t3.Hi) && true))) 5 (hv := fun _ _ => run_of (by kernel_rfl) (run_eql_agg (t := 28) (x := (.tmp 3)) (y := (.tmp 4)) (xs := #[vI a0.Lo, vI a0.Hi]) (ys := #[vI t3.Lo, vI t3.Hi]) (b := ((a0.Lo == t3.Lo) && ((a0.Hi == t3.Hi) && true))) (by kernel_rfl) (by kernel_rfl)))) <|
   .v 2 (.bool ((a0.Lo == t3.Lo) && ((a0.Hi == t3.Hi) && true))) <| .nil) fun u2 a w' H => ?_
 replace H := H.kp [2]
 refine k_ret ?_
 obtain rfl := Option.some.inj G
 exact k_done0 H _ (by kernel_rfl) (by kernel_rfl)
set_option maxHeartbeats 4000000 in
theorem interval_Mag.calls (a0 : TInterval) (r : Int) (w : World) (G : interval_Mag a0 = some r) :
  Calls Tryd.prog 57 #[.agg #[vI a0.Lo, vI a0.Hi]] w fun e w' => e = .returned (vI r) ∧ Below w.heap.size w w' := by
 refine k_enter (args := [.agg #[vI a0.Lo, vI a0.Hi]]) 9 Tryd.func57 rfl (by kernel_rfl) (by kernel_rfl) fun a H => ?_
 unfold interval_Mag at G
 refine k_seq ?_
 refine k_rg mixed H (.cons [1, 9] (ok_new (fun b => vP b 0) (fun u1 => [vI a0.Lo, vI a0.Hi]) 28 1 9) <|
   .v 2 (vI 0) <| .nil) fun u1 a w' H => ?_
 replace H := H.kp [1, 9]
 refine k_seq ?_
 refine k_rg mixed H (.v 3 (vP ((u1 0).n 0) 1) <|
   .cons [4] (ok_ld (fun u2 => vI a0.Hi) 4 9 1 1 (fun u2 => ((u1 0).n 0)) (fun u2 => [vI a0.Lo, vI a0.Hi]) 28) <|
   .v 5 (vP ((u1 0).n 0) 0) <|
   .cons [6] (ok_ld (fun u2 => vI a0.Lo) 6 9 0 1 (fun u2 => ((u1 0).n 0)) (fun u2 => [vI a0.Lo, vI a0.Hi]) 28) <|
   .v 7 (vI (w_i64 (0 - a0.Lo))) <|
   .v 8 (vI (mx a0.Hi (w_i64 (0 - a0.Lo)))) <|
   .v 2 (vI (mx a0.Hi (w_i64 (0 - a0.Lo)))) <| .nil) fun u2 a w' H => ?_
 replace H := H.kp [2]
 refine k_ret ?_
 obtain rfl := Option.some.inj G
 exact k_done0 H _ (by kernel_rfl) (by kernel_rfl)
set_option maxHeartbeats 4000000 in
theorem fixed_divide_1.calls (a0 : Int) (r : Int) (w : World) (G : fixed_divide_1 a0 = some r) :
  Calls Tryd.prog 68 #[vI a0] w fun e w' => e = .returned (vI r) ∧ Below w.heap.size w w' := by
 refine k_enter (args := [vI a0]) 5 Tryd.func68 rfl (by kernel_rfl) (by kernel_rfl) fun a H => ?_
 unfold fixed_divide_1 at G
 refine k_seq ?_
 refine k_rg mixed H (.v 2 (vI 0) <| .nil) fun u1 a w' H => ?_
 replace H := H.kp [0]
 refine k_seq ?_
 refine k_rg mixed H (.v 3 (vI a0) <|
   .v 4 (vI (mn a0 1)) <|
   .v 2 (vI (mn a0 1)) <| .nil) fun u2 a w' H => ?_
 replace H := H.kp [2]
 refine k_ret ?_
 obtain rfl := Option.some.inj G
 exact k_done0 H _ (by kernel_rfl) (by kernel_rfl)
set_option maxHeartbeats 4000000 in
theorem fixed_floorCeil_int64_s68.calls (a0 : Int) (a1 : Int) (r : Int × Int) (w : World) (G : fixed_floorCeil_int64_s68 a0 a1 = some r) :
  Calls Tryd.prog 67 #[vI a0, vI a1, .func (.func 68) #[] #[]] w fun e w' => e = .returned (.tuple #[vI r.1, vI r.2]) ∧ Below w.heap.size w w' := by
 refine k_enter (args := [vI a0, vI a1, .func (.func 68) #[] #[]]) 29 Tryd.func67 rfl (by kernel_rfl) (by kernel_rfl) fun a H => ?_
 unfold fixed_floorCeil_int64_s68 at G
 refine k_seq ?_
 refine k_rg mixed H (.v 6 (vI 0) <|
   .v 7 (vI 0) <| .nil) fun u1 a w' H => ?_
 replace H := H.kp [0, 1, 2]
 refine k_seq ?_
 replace G := gd G; obtain ⟨n3, G⟩ := G
 replace G := gd G; obtain ⟨n4, G⟩ := G
 refine k_rg mixed H (.v 10 (vI a0) <|
   .v 11 (vI a1) <|
   .cons [12] (ok_val (fun u2 => vI (w_i64 (Int.tdiv a0 a1))) 12 (hv := fun _ _ => run_of (by kernel_rfl) (run_quo (k := .i64) (x := a0) (y := a1) n3))) <|
   .v 13 (vI a0) <|
   .v 14 (vI a1) <|
   .cons [15] (ok_val (fun u2 => vI (Int.tmod a0 a1)) 15 (hv := fun _ _ => run_of (by kernel_rfl) (run_rem (k := .i64) (x := a0) (y := a1) n4))) <|
   .v 8 (vI (w_i64 (Int.tdiv a0 a1))) <|
   .v 9 (vI (Int.tmod a0 a1)) <| .nil) fun u2 a w' H => ?_
 replace H := H.kp [1, 2, 8, 9]
 refine k_seq ?_
 replace G := bnd G; obtain ⟨j7, hj7, G⟩ := G
 refine k_join (fun a w' => Rep w.heap.size w 29 (ofL [(2, .slot true (.func (.func 68) #[] #[])), (8, sI j7.1), (9, sI j7.2)]) a w') ?_ ?_
 ·clear H; intro a w' H
  refine k_seq ?_
  replace G := bnd G; obtain ⟨t9, ht9, G⟩ := G
  refine k_rg mixed H (.v 23 (vI j7.1) <|
   .v 24 (vI j7.1) <|
   .v 25 (.func (.func 68) #[] #[]) <|
   .v 26 (vI j7.2) <|
   .cons [27] (ok_callv 68 (fun u8 => #[vI j7.2]) (vI t9) 27 [] (fun u8 w _ => fixed_divide_1.calls j7.2  t9 w  ht9)) <|
   .v 28 (vI (w_i64 (j7.1 + t9))) <|
   .v 6 (vI j7.1) <|
   .v 7 (vI (w_i64 (j7.1 + t9))) <| .nil) fun u8 a w' H => ?_
  replace H := H.kp [6, 7]
  refine k_ret ?_
  obtain rfl := Option.some.inj G
  exact k_done0 H _ (by kernel_rfl) (by kernel_rfl)
 ·clear G; replace G := hj7; clear hj7
  refine k_seq ?_
  refine k_rg mixed H (.v 16 (vI (Int.tmod a0 a1)) <|
   .v 17 (.bool (decide ((Int.tmod a0 a1) < 0))) <| .nil) fun u10 a w' H => ?_
  replace H := H.kp [1, 2, 8, 9, 17]
  refine k_cond H (by kernel_rfl) (t := decide ((Int.tmod a0 a1) < 0)) (by kernel_rfl) (fun c12 => ?_) (fun c12 => ?_)
  ·rw [if_pos c12] at G
   refine k_rg mixed H (.v 18 (vI (w_i64 (Int.tdiv a0 a1))) <|
   .v 19 (vI (w_i64 ((w_i64 (Int.tdiv a0 a1)) - 1))) <|
   .v 20 (vI (Int.tmod a0 a1)) <|
   .v 21 (vI a1) <|
   .v 22 (vI (w_i64 ((Int.tmod a0 a1) + a1))) <|
   .v 8 (vI (w_i64 ((w_i64 (Int.tdiv a0 a1)) - 1))) <|
   .v 9 (vI (w_i64 ((Int.tmod a0 a1) + a1))) <| .nil) fun u11 a w' H => ?_
   replace H := H.kp [2, 8, 9]
   obtain rfl := Option.some.inj G
   exact H.toL _ (by kernel_rfl)
  ·rw [if_neg (nt c12)] at G
   refine k_skip ?_
   obtain rfl := Option.some.inj G
   exact H.toL _ (by kernel_rfl)
set_option maxHeartbeats 4000000 in
theorem fixed_divide.calls (a0 : Int) (a1 : Int) (r : Int × Int) (w : World) (G : fixed_divide a0 a1 = some r) :
  Calls Tryd.prog 65 #[vI a0, vI a1] w fun e w' => e = .returned (.tuple #[vI r.1, vI r.2]) ∧ Below w.heap.size w w' := by
 refine k_enter (args := [vI a0, vI a1]) 17 Tryd.func65 rfl (by kernel_rfl) (by kernel_rfl) fun a H => ?_
 unfold fixed_divide at G
 refine k_seq ?_
 refine k_rg mixed H (.v 4 (vI 0) <|
   .v 5 (vI 0) <| .nil) fun u1 a w' H => ?_
 replace H := H.kp [0, 1]
 refine k_seq ?_
 replace G := bnd G; obtain ⟨j4, hj4, G⟩ := G
 refine k_join (fun a w' => Rep w.heap.size w 17 (ofL [(0, sI j4.1), (1, sI j4.2)]) a w') ?_ ?_
 ·clear H; intro a w' H
  refine k_seq ?_
  replace G := bnd G; obtain ⟨t6, ht6, G⟩ := G
  refine k_rg mixed H (.v 12 (vI j4.1) <|
   .v 13 (vI j4.2) <|
   .cons [14] (ok_callv 67 (fun u5 => #[vI j4.1, vI j4.2, .func (.func 68) #[] #[]]) (.tuple #[vI t6.1, vI t6.2]) 14 [] (fun u5 w _ => fixed_floorCeil_int64_s68.calls j4.1 j4.2  t6 w  ht6)) <|
   .v 15 (vI t6.1) <|
   .v 16 (vI t6.2) <|
   .v 4 (vI t6.1) <|
   .v 5 (vI t6.2) <| .nil) fun u5 a w' H => ?_
  replace H := H.kp [4, 5]
  refine k_ret ?_
  obtain rfl := Option.some.inj G
  exact k_done0 H _ (by kernel_rfl) (by kernel_rfl)
 ·clear G; replace G := hj4; clear hj4
  refine k_seq ?_
  refine k_rg mixed H (.v 6 (vI a1) <|
   .v 7 (.bool (decide (a1 < 0))) <| .nil) fun u7 a w' H => ?_
  replace H := H.kp [0, 1, 7]
  refine k_cond H (by kernel_rfl) (t := decide (a1 < 0)) (by kernel_rfl) (fun c9 => ?_) (fun c9 => ?_)
  ·rw [if_pos c9] at G
   refine k_rg mixed H (.v 8 (vI a0) <|
   .v 9 (vI (w_i64 (0 - a0))) <|
   .v 10 (vI a1) <|
   .v 11 (vI (w_i64 (0 - a1))) <|
   .v 0 (vI (w_i64 (0 - a0))) <|
   .v 1 (vI (w_i64 (0 - a1))) <| .nil) fun u8 a w' H => ?_
   replace H := H.kp [0, 1]
   obtain rfl := Option.some.inj G
   exact H.toL _ (by kernel_rfl)
  ·rw [if_neg (nt c9)] at G
   refine k_skip ?_
   obtain rfl := Option.some.inj G
   exact H.toL _ (by kernel_rfl)
set_option maxHeartbeats 4000000 in
theorem fixed_Mul.calls (a0 : Int) (a1 : Int) (r : Int × Int) (w : World) (G : fixed_Mul a0 a1 = some r) :
  Calls Tryd.prog 58 #[vI a0, vI a1] w fun e w' => e = .returned (.tuple #[vI r.1, vI r.2]) ∧ Below w.heap.size w w' := by
 refine k_enter (args := [vI a0, vI a1]) 12 Tryd.func58 rfl (by kernel_rfl) (by kernel_rfl) fun a H => ?_
 unfold fixed_Mul at G
 refine k_seq ?_
 refine k_rg mixed H (.v 4 (vI 0) <|
   .v 5 (vI 0) <| .nil) fun u1 a w' H => ?_
 replace H := H.kp [0, 1]
 refine k_seq ?_
 replace G := bnd G; obtain ⟨t3, ht3, G⟩ := G
 refine k_rg mixed H (.v 6 (vI a0) <|
   .v 7 (vI a1) <|
   .v 8 (vI (w_i64 (a0 * a1))) <|
   .cons [9] (ok_callv 65 (fun u2 => #[vI (w_i64 (a0 * a1)), vI 65536]) (.tuple #[vI t3.1, vI t3.2]) 9 [] (fun u2 w _ => fixed_divide.calls (w_i64 (a0 * a1)) 65536  t3 w  ht3)) <|
   .v 10 (vI t3.1) <|
   .v 11 (vI t3.2) <|
   .v 4 (vI t3.1) <|
   .v 5 (vI t3.2) <| .nil) fun u2 a w' H => ?_
 replace H := H.kp [4, 5]
 refine k_ret ?_
 obtain rfl := Option.some.inj G
 exact k_done0 H _ (by kernel_rfl) (by kernel_rfl)
set_option maxHeartbeats 4000000 in
theorem interval_New.calls (a0 : Int) (a1 : Int) (r : TInterval) (w : World) (G : interval_New a0 a1 = some r) :
  Calls Tryd.prog 59 #[vI a0, vI a1] w fun e w' => e = .returned (.agg #[vI r.Lo, vI r.Hi]) ∧ Below w.heap.size w w' := by
 refine k_enter (args := [vI a0, vI a1]) 23 Tryd.func59 rfl (by kernel_rfl) (by kernel_rfl) fun a H => ?_
 unfold interval_New at G
 refine k_seq ?_
 refine k_rg mixed H (.cons [4, 23] (ok_new (fun b => vP b 0) (fun u1 => [vI 0, vI 0]) 28 4 23) <| .nil) fun u1 a w' H => ?_
 replace H := H.kp [0, 1, 4, 23]
 refine k_seq ?_
 refine k_seq ?_
 replace G := bnd G; obtain ⟨z3, hz3, G⟩ := G
 replace hz3 := Option.some.inj hz3
 refine k_rg mixed H (.v 5 (vI a0) <|
   .v 6 (.bool (decide (a0 ≤ (-2147483648)))) <|
   .v 7 (.bool (decide (a0 ≤ (-2147483648)))) <|
   .cons [8] (ok_valg (fun u2 => vI a1) (fun u2 => ((decide (a0 ≤ (-2147483648))) == false)) [true] 8) <|
   .cons [9] (ok_valg (fun u2 => .bool (decide (a1 ≥ 2147483648))) (fun u2 => ((decide (a0 ≤ (-2147483648))) == false)) [false, true] 9) <|
   .cons [10] (ok_or 7 9 (fun u2 => true) (fun u2 => true) (fun u2 => decide (a0 ≤ (-2147483648))) (fun u2 => decide (a1 ≥ 2147483648)) 10) <|
   .v 11 (.bool ((decide (a0 ≤ (-2147483648))) || (decide (a1 ≥ 2147483648)))) <|
   .cons [12] (ok_valg (fun u2 => vI a0) (fun u2 => (((decide (a0 ≤ (-2147483648))) || (decide (a1 ≥ 2147483648))) == false)) [true] 12) <|
   .cons [13] (ok_valg (fun u2 => .bool (decide (a0 ≥ 2147483648))) (fun u2 => (((decide (a0 ≤ (-2147483648))) || (decide (a1 ≥ 2147483648))) == false)) [false, true] 13) <|
   .cons [14] (ok_or 11 13 (fun u2 => true) (fun u2 => true) (fun u2 => ((decide (a0 ≤ (-2147483648))) || (decide (a1 ≥ 2147483648)))) (fun u2 => decide (a0 ≥ 2147483648)) 14) <|
   .cons [15] (ok_as (u' := fun u2 => [(15, sB z3)]) (ok_val (fun u2 => .bool (((decide (a0 ≤ (-2147483648))) || (decide (a1 ≥ 2147483648))) || (decide (a0 ≥ 2147483648)))) 15) (fun _ => by rw [← hz3])) <|
   .cons [16] (ok_valg (fun u2 => vI a1) (fun u2 => (z3 == false)) [true] 16) <|
   .cons [17] (ok_valg (fun u2 => .bool (decide (a1 ≤ (-2147483648)))) (fun u2 => (z3 == false)) [false, true] 17) <|
   .cons [18] (ok_or 15 17 (fun u2 => true) (fun u2 => true) (fun u2 => z3) (fun u2 => decide (a1 ≤ (-2147483648))) 18) <| .nil) fun u2 a w' H => ?_
 replace H := H.kp [0, 1, 4, 18, 23]
 refine k_cond H (by kernel_rfl) (t := (z3 || (decide (a1 ≤ (-2147483648))))) (by kernel_rfl) (fun c7 => ?_) (fun c7 => ?_)
 ·rw [if_pos c7] at G
  refine k_seq ?_
  replace G := bnd G; obtain ⟨t5, ht5, G⟩ := G
  refine k_rg mixed H (.cons [19] (ok_callv 48 (fun u4 => #[]) (.agg #[vI t5.Lo, vI t5.Hi]) 19 [] (fun u4 w _ => interval_Entire.calls   t5 w  ht5)) <|
   .cons [23] (ok_as (u' := fun u4 => [(23, .blk ((u1 0).n 0) [vI t5.Lo, vI t5.Hi] 28)]) (ok_store 23 0 (fun u4 => ((u1 0).n 0)) (fun u4 => [vI 0, vI 0]) (fun u4 => [vI t5.Lo, vI t5.Hi]) 28) (fun _ => by kernel_rfl)) <| .nil) fun u4 a w' H => ?_
  replace H := H.kp [4, 23]
  refine k_ret ?_
  obtain rfl := Option.some.inj G
  exact k_done1 H _ 23 ((u1 0).n 0) [vI t5.Lo, vI t5.Hi] 28 0 2 (by kernel_rfl) (by kernel_rfl) (by kernel_rfl) (by kernel_rfl)
 ·rw [if_neg (nt c7)] at G
  refine k_skip ?_
  refine k_seq ?_
  refine k_rg mixed H (.v 20 (vI a0) <|
   .v 21 (vI a1) <|
   .v 22 (.agg #[vI a0, vI a1]) <|
   .cons [23] (ok_as (u' := fun u6 => [(23, .blk ((u1 0).n 0) [vI a0, vI a1] 28)]) (ok_store 23 0 (fun u6 => ((u1 0).n 0)) (fun u6 => [vI 0, vI 0]) (fun u6 => [vI a0, vI a1]) 28) (fun _ => by kernel_rfl)) <| .nil) fun u6 a w' H => ?_
  replace H := H.kp [4, 23]
  refine k_ret ?_
  obtain rfl := Option.some.inj G
  exact k_done1 H _ 23 ((u1 0).n 0) [vI a0, vI a1] 28 0 2 (by kernel_rfl) (by kernel_rfl) (by kernel_rfl) (by kernel_rfl)
set_option maxHeartbeats 4000000 in
theorem interval_Square.calls (a0 : TInterval) (r : TInterval) (w : World) (G : interval_Square a0 = some r) :
  Calls Tryd.prog 47 #[.agg #[vI a0.Lo, vI a0.Hi]] w fun e w' => e = .returned (.agg #[vI r.Lo, vI r.Hi]) ∧ Below w.heap.size w w' := by
 refine k_enter (args := [.agg #[vI a0.Lo, vI a0.Hi]]) 35 Tryd.func47 rfl (by kernel_rfl) (by kernel_rfl) fun a H => ?_
 unfold interval_Square at G
 refine k_seq ?_
 refine k_rg mixed H (.cons [1, 35] (ok_new (fun b => vP b 0) (fun u1 => [vI a0.Lo, vI a0.Hi]) 28 1 35) <|
   .cons [2, 36] (ok_new (fun b => vP b 0) (fun u1 => [vI 0, vI 0]) 28 2 36) <| .nil) fun u1 a w' H => ?_
 replace H := H.kp [1, 2, 35, 36]
 refine k_seq ?_
 refine k_seq ?_
 replace G := bnd G; obtain ⟨t3, ht3, G⟩ := G
 refine k_rg mixed H (.cons [9] (ok_ld (fun u2 => .agg #[vI a0.Lo, vI a0.Hi]) 9 35 0 2 (fun u2 => ((u1 0).n 0)) (fun u2 => [vI a0.Lo, vI a0.Hi]) 28) <|
   .cons [10] (ok_callv 50 (fun u2 => #[.agg #[vI a0.Lo, vI a0.Hi]]) (.bool t3) 10 [] (fun u2 w _ => interval_IsEntire.calls a0  t3 w  ht3)) <| .nil) fun u2 a w' H => ?_
 replace H := H.kp [1, 2, 10, 35, 36]
 refine k_cond H (by kernel_rfl) (t := t3) (by kernel_rfl) (fun c13 => ?_) (fun c13 => ?_)
 ·rw [if_pos c13] at G
  refine k_seq ?_
  refine k_rg mixed H (.cons [11] (ok_ld (fun u4 => .agg #[vI a0.Lo, vI a0.Hi]) 11 35 0 2 (fun u4 => ((u1 0).n 0)) (fun u4 => [vI a0.Lo, vI a0.Hi]) 28) <|
   .cons [36] (ok_as (u' := fun u4 => [(36, .blk ((u1 1).n 0) [vI a0.Lo, vI a0.Hi] 28)]) (ok_store 36 0 (fun u4 => ((u1 1).n 0)) (fun u4 => [vI 0, vI 0]) (fun u4 => [vI a0.Lo, vI a0.Hi]) 28) (fun _ => by kernel_rfl)) <| .nil) fun u4 a w' H => ?_
  replace H := H.kp [2, 36]
  refine k_ret ?_
  obtain rfl := Option.some.inj G
  exact k_done1 H _ 36 ((u1 1).n 0) [vI a0.Lo, vI a0.Hi] 28 0 2 (by kernel_rfl) (by kernel_rfl) (by kernel_rfl) (by kernel_rfl)
 ·rw [if_neg (nt c13)] at G
  refine k_skip ?_
  refine k_seq ?_
  replace G := bnd G; obtain ⟨t6, ht6, G⟩ := G
  refine k_rg mixed H (.v 12 (vP ((u1 0).n 0) 0) <|
   .cons [13] (ok_ld (fun u5 => vI a0.Lo) 13 35 0 1 (fun u5 => ((u1 0).n 0)) (fun u5 => [vI a0.Lo, vI a0.Hi]) 28) <|
   .v 14 (vP ((u1 0).n 0) 1) <|
   .cons [15] (ok_ld (fun u5 => vI a0.Hi) 15 35 1 1 (fun u5 => ((u1 0).n 0)) (fun u5 => [vI a0.Lo, vI a0.Hi]) 28) <|
   .v 16 (vI (w_i64 (0 - a0.Hi))) <|
   .v 17 (vI (mx (mx a0.Lo (w_i64 (0 - a0.Hi))) 0)) <|
   .cons [18] (ok_ld (fun u5 => .agg #[vI a0.Lo, vI a0.Hi]) 18 35 0 2 (fun u5 => ((u1 0).n 0)) (fun u5 => [vI a0.Lo, vI a0.Hi]) 28) <|
   .cons [19] (ok_callv 57 (fun u5 => #[.agg #[vI a0.Lo, vI a0.Hi]]) (vI t6) 19 [] (fun u5 w _ => interval_Mag.calls a0  t6 w  ht6)) <|
   .v 3 (vI (mx (mx a0.Lo (w_i64 (0 - a0.Hi))) 0)) <|
   .v 4 (vI t6) <| .nil) fun u5 a w' H => ?_
  replace H := H.kp [2, 3, 4, 36]
  refine k_seq ?_
  replace G := bnd G; obtain ⟨t8, ht8, G⟩ := G
  refine k_rg mixed H (.v 21 (vI (mx (mx a0.Lo (w_i64 (0 - a0.Hi))) 0)) <|
   .v 22 (vI (mx (mx a0.Lo (w_i64 (0 - a0.Hi))) 0)) <|
   .cons [23] (ok_callv 58 (fun u7 => #[vI (mx (mx a0.Lo (w_i64 (0 - a0.Hi))) 0), vI (mx (mx a0.Lo (w_i64 (0 - a0.Hi))) 0)]) (.tuple #[vI t8.1, vI t8.2]) 23 [] (fun u7 w _ => fixed_Mul.calls (mx (mx a0.Lo (w_i64 (0 - a0.Hi))) 0) (mx (mx a0.Lo (w_i64 (0 - a0.Hi))) 0)  t8 w  ht8)) <|
   .v 20 (.tuple #[vI t8.1, vI t8.2]) <|
   .v 24 (vI t8.1) <|
   .v 25 (vI t8.2) <|
   .v 5 (vI t8.1) <|
   .v 6 (vI t8.2) <| .nil) fun u7 a w' H => ?_
  replace H := H.kp [2, 4, 5, 36]
  refine k_seq ?_
  replace G := bnd G; obtain ⟨t10, ht10, G⟩ := G
  refine k_rg mixed H (.v 27 (vI t6) <|
   .v 28 (vI t6) <|
   .cons [29] (ok_callv 58 (fun u9 => #[vI t6, vI t6]) (.tuple #[vI t10.1, vI t10.2]) 29 [] (fun u9 w _ => fixed_Mul.calls t6 t6  t10 w  ht10)) <|
   .v 26 (.tuple #[vI t10.1, vI t10.2]) <|
   .v 30 (vI t10.1) <|
   .v 31 (vI t10.2) <|
   .v 7 (vI t10.1) <|
   .v 8 (vI t10.2) <| .nil) fun u9 a w' H => ?_
  replace H := H.kp [2, 5, 8, 36]
  refine k_seq ?_
  replace G := bnd G; obtain ⟨t12, ht12, G⟩ := G
  refine k_rg mixed H (.v 32 (vI t8.1) <|
   .v 33 (vI t10.2) <|
   .cons [34] (ok_callv 59 (fun u11 => #[vI t8.1, vI t10.2]) (.agg #[vI t12.Lo, vI t12.Hi]) 34 [] (fun u11 w _ => interval_New.calls t8.1 t10.2  t12 w  ht12)) <|
   .cons [36] (ok_as (u' := fun u11 => [(36, .blk ((u1 1).n 0) [vI t12.Lo, vI t12.Hi] 28)]) (ok_store 36 0 (fun u11 => ((u1 1).n 0)) (fun u11 => [vI 0, vI 0]) (fun u11 => [vI t12.Lo, vI t12.Hi]) 28) (fun _ => by kernel_rfl)) <| .nil) fun u11 a w' H => ?_
  replace H := H.kp [2, 36]
  refine k_ret ?_
  obtain rfl := Option.some.inj G
  exact k_done1 H _ 36 ((u1 1).n 0) [vI t12.Lo, vI t12.Hi] 28 0 2 (by kernel_rfl) (by kernel_rfl) (by kernel_rfl) (by kernel_rfl)
set_option maxHeartbeats 4000000 in
theorem interval_Add.calls (a0 : TInterval) (a1 : TInterval) (r : TInterval) (w : World) (G : interval_Add a0 a1 = some r) :
  Calls Tryd.prog 53 #[.agg #[vI a0.Lo, vI a0.Hi], .agg #[vI a1.Lo, vI a1.Hi]] w fun e w' => e = .returned (.agg #[vI r.Lo, vI r.Hi]) ∧ Below w.heap.size w w' := by
 refine k_enter (args := [.agg #[vI a0.Lo, vI a0.Hi], .agg #[vI a1.Lo, vI a1.Hi]]) 23 Tryd.func53 rfl (by kernel_rfl) (by kernel_rfl) fun a H => ?_
 unfold interval_Add at G
 refine k_seq ?_
 refine k_rg mixed H (.cons [2, 23] (ok_new (fun b => vP b 0) (fun u1 => [vI a0.Lo, vI a0.Hi]) 28 2 23) <|
   .cons [3, 24] (ok_new (fun b => vP b 0) (fun u1 => [vI a1.Lo, vI a1.Hi]) 28 3 24) <|
   .cons [4, 25] (ok_new (fun b => vP b 0) (fun u1 => [vI 0, vI 0]) 28 4 25) <| .nil) fun u1 a w' H => ?_
 replace H := H.kp [2, 3, 4, 23, 24, 25]
 refine k_seq ?_
 refine k_seq ?_
 replace G := bnd G; obtain ⟨t3, ht3, G⟩ := G
 replace G := bnd G; obtain ⟨t4, ht4, G⟩ := G
 refine k_rg mixed H (.cons [5] (ok_ld (fun u2 => .agg #[vI a0.Lo, vI a0.Hi]) 5 23 0 2 (fun u2 => ((u1 0).n 0)) (fun u2 => [vI a0.Lo, vI a0.Hi]) 28) <|
   .cons [6] (ok_callv 50 (fun u2 => #[.agg #[vI a0.Lo, vI a0.Hi]]) (.bool t3) 6 [] (fun u2 w _ => interval_IsEntire.calls a0  t3 w  ht3)) <|
   .v 7 (.bool t3) <|
   .cons [8] (ok_ldg (fun u2 => .agg #[vI a1.Lo, vI a1.Hi]) (fun u2 => (t3 == false)) [true] 8 24 0 2 (fun u2 => ((u1 1).n 0)) (fun u2 => [vI a1.Lo, vI a1.Hi]) 28) <|
   .cons [9] (ok_call 50 (fun u2 => #[.agg #[vI a1.Lo, vI a1.Hi]]) (.bool t4) (fun u2 => (t3 == false)) [true, false] 9 [] (fun u2 w hg _ => interval_IsEntire.calls a1  t4 w  (ifp ht4 hg))) <|
   .cons [10] (ok_or 7 9 (fun u2 => true) (fun u2 => true) (fun u2 => t3) (fun u2 => t4) 10) <| .nil) fun u2 a w' H => ?_
 replace H := H.kp [2, 3, 4, 10, 23, 24, 25]
 refine k_cond H (by kernel_rfl) (t := (t3 || t4)) (by kernel_rfl) (fun c9 => ?_) (fun c9 => ?_)
 ·rw [if_pos c9] at G
  refine k_seq ?_
  replace G := bnd G; obtain ⟨t6, ht6, G⟩ := G
  refine k_rg mixed H (.cons [11] (ok_callv 48 (fun u5 => #[]) (.agg #[vI t6.Lo, vI t6.Hi]) 11 [] (fun u5 w _ => interval_Entire.calls   t6 w  ht6)) <|
   .cons [25] (ok_as (u' := fun u5 => [(25, .blk ((u1 2).n 0) [vI t6.Lo, vI t6.Hi] 28)]) (ok_store 25 0 (fun u5 => ((u1 2).n 0)) (fun u5 => [vI 0, vI 0]) (fun u5 => [vI t6.Lo, vI t6.Hi]) 28) (fun _ => by kernel_rfl)) <| .nil) fun u5 a w' H => ?_
  replace H := H.kp [4, 25]
  refine k_ret ?_
  obtain rfl := Option.some.inj G
  exact k_done1 H _ 25 ((u1 2).n 0) [vI t6.Lo, vI t6.Hi] 28 0 2 (by kernel_rfl) (by kernel_rfl) (by kernel_rfl) (by kernel_rfl)
 ·rw [if_neg (nt c9)] at G
  refine k_skip ?_
  refine k_seq ?_
  replace G := bnd G; obtain ⟨t8, ht8, G⟩ := G
  refine k_rg mixed H (.v 12 (vP ((u1 0).n 0) 0) <|
   .cons [13] (ok_ld (fun u7 => vI a0.Lo) 13 23 0 1 (fun u7 => ((u1 0).n 0)) (fun u7 => [vI a0.Lo, vI a0.Hi]) 28) <|
   .v 14 (vP ((u1 1).n 0) 0) <|
   .cons [15] (ok_ld (fun u7 => vI a1.Lo) 15 24 0 1 (fun u7 => ((u1 1).n 0)) (fun u7 => [vI a1.Lo, vI a1.Hi]) 28) <|
   .v 16 (vI (w_i64 (a0.Lo + a1.Lo))) <|
   .v 17 (vP ((u1 0).n 0) 1) <|
   .cons [18] (ok_ld (fun u7 => vI a0.Hi) 18 23 1 1 (fun u7 => ((u1 0).n 0)) (fun u7 => [vI a0.Lo, vI a0.Hi]) 28) <|
   .v 19 (vP ((u1 1).n 0) 1) <|
   .cons [20] (ok_ld (fun u7 => vI a1.Hi) 20 24 1 1 (fun u7 => ((u1 1).n 0)) (fun u7 => [vI a1.Lo, vI a1.Hi]) 28) <|
   .v 21 (vI (w_i64 (a0.Hi + a1.Hi))) <|
   .cons [22] (ok_callv 59 (fun u7 => #[vI (w_i64 (a0.Lo + a1.Lo)), vI (w_i64 (a0.Hi + a1.Hi))]) (.agg #[vI t8.Lo, vI t8.Hi]) 22 [] (fun u7 w _ => interval_New.calls (w_i64 (a0.Lo + a1.Lo)) (w_i64 (a0.Hi + a1.Hi))  t8 w  ht8)) <|
   .cons [25] (ok_as (u' := fun u7 => [(25, .blk ((u1 2).n 0) [vI t8.Lo, vI t8.Hi] 28)]) (ok_store 25 0 (fun u7 => ((u1 2).n 0)) (fun u7 => [vI 0, vI 0]) (fun u7 => [vI t8.Lo, vI t8.Hi]) 28) (fun _ => by kernel_rfl)) <| .nil) fun u7 a w' H => ?_
  replace H := H.kp [4, 25]
  refine k_ret ?_
  obtain rfl := Option.some.inj G
  exact k_done1 H _ 25 ((u1 2).n 0) [vI t8.Lo, vI t8.Hi] 28 0 2 (by kernel_rfl) (by kernel_rfl) (by kernel_rfl) (by kernel_rfl)
set_option maxHeartbeats 4000000 in
theorem interval_Sub.calls (a0 : TInterval) (a1 : TInterval) (r : TInterval) (w : World) (G : interval_Sub a0 a1 = some r) :
  Calls Tryd.prog 54 #[.agg #[vI a0.Lo, vI a0.Hi], .agg #[vI a1.Lo, vI a1.Hi]] w fun e w' => e = .returned (.agg #[vI r.Lo, vI r.Hi]) ∧ Below w.heap.size w w' := by
 refine k_enter (args := [.agg #[vI a0.Lo, vI a0.Hi], .agg #[vI a1.Lo, vI a1.Hi]]) 9 Tryd.func54 rfl (by kernel_rfl) (by kernel_rfl) fun a H => ?_
 unfold interval_Sub at G
 refine k_seq ?_
 refine k_rg mixed H (.cons [2, 9] (ok_new (fun b => vP b 0) (fun u1 => [vI a0.Lo, vI a0.Hi]) 28 2 9) <|
   .cons [3, 10] (ok_new (fun b => vP b 0) (fun u1 => [vI a1.Lo, vI a1.Hi]) 28 3 10) <|
   .cons [4, 11] (ok_new (fun b => vP b 0) (fun u1 => [vI 0, vI 0]) 28 4 11) <| .nil) fun u1 a w' H => ?_
 replace H := H.kp [2, 3, 4, 9, 10, 11]
 refine k_seq ?_
 replace G := bnd G; obtain ⟨t3, ht3, G⟩ := G
 replace G := bnd G; obtain ⟨t4, ht4, G⟩ := G
 refine k_rg mixed H (.cons [5] (ok_ld (fun u2 => .agg #[vI a0.Lo, vI a0.Hi]) 5 9 0 2 (fun u2 => ((u1 0).n 0)) (fun u2 => [vI a0.Lo, vI a0.Hi]) 28) <|
   .cons [6] (ok_ld (fun u2 => .agg #[vI a1.Lo, vI a1.Hi]) 6 10 0 2 (fun u2 => ((u1 1).n 0)) (fun u2 => [vI a1.Lo, vI a1.Hi]) 28) <|
   .cons [7] (ok_callv 46 (fun u2 => #[.agg #[vI a1.Lo, vI a1.Hi]]) (.agg #[vI t3.Lo, vI t3.Hi]) 7 [] (fun u2 w _ => interval_Neg.calls a1  t3 w  ht3)) <|
   .cons [8] (ok_callv 53 (fun u2 => #[.agg #[vI a0.Lo, vI a0.Hi], .agg #[vI t3.Lo, vI t3.Hi]]) (.agg #[vI t4.Lo, vI t4.Hi]) 8 [] (fun u2 w _ => interval_Add.calls a0 t3  t4 w  ht4)) <|
   .cons [11] (ok_as (u' := fun u2 => [(11, .blk ((u1 2).n 0) [vI t4.Lo, vI t4.Hi] 28)]) (ok_store 11 0 (fun u2 => ((u1 2).n 0)) (fun u2 => [vI 0, vI 0]) (fun u2 => [vI t4.Lo, vI t4.Hi]) 28) (fun _ => by kernel_rfl)) <| .nil) fun u2 a w' H => ?_
 replace H := H.kp [4, 11]
 refine k_ret ?_
 obtain rfl := Option.some.inj G
 exact k_done1 H _ 11 ((u1 2).n 0) [vI t4.Lo, vI t4.Hi] 28 0 2 (by kernel_rfl) (by kernel_rfl) (by kernel_rfl) (by kernel_rfl)
set_option maxHeartbeats 4000000 in
theorem interval_side.calls (a0 : TInterval) (r : Int) (w : World) (G : interval_side a0 = some r) :
  Calls Tryd.prog 61 #[.agg #[vI a0.Lo, vI a0.Hi]] w fun e w' => e = .returned (vI r) ∧ Below w.heap.size w w' := by
 refine k_enter (args := [.agg #[vI a0.Lo, vI a0.Hi]]) 11 Tryd.func61 rfl (by kernel_rfl) (by kernel_rfl) fun a H => ?_
 unfold interval_side at G
 refine k_seq ?_
 refine k_rg mixed H (.cons [1, 11] (ok_new (fun b => vP b 0) (fun u1 => [vI a0.Lo, vI a0.Hi]) 28 1 11) <|
   .v 2 (vI 0) <| .nil) fun u1 a w' H => ?_
 replace H := H.kp [1, 11]
 refine k_seq ?_
 refine k_block ?_
 refine k_seq ?_
 refine k_rg mixed H (.v 4 (vP ((u1 0).n 0) 1) <|
   .cons [5] (ok_ld (fun u2 => vI a0.Hi) 5 11 1 1 (fun u2 => ((u1 0).n 0)) (fun u2 => [vI a0.Lo, vI a0.Hi]) 28) <|
   .v 6 (.bool (decide (a0.Hi ≤ 0))) <|
   .v 3 (.bool (decide (a0.Hi ≤ 0))) <| .nil) fun u2 a w' H => ?_
 replace H := H.kp [1, 3, 11]
 refine k_cond H (by kernel_rfl) (t := decide (a0.Hi ≤ 0)) (by kernel_rfl) (fun c8 => ?_) (fun c8 => ?_)
 ·rw [if_pos c8] at G
  refine k_seq ?_
  refine k_rg mixed H (.v 2 (vI 0) <| .nil) fun u3 a w' H => ?_
  replace H := H.kp [2]
  refine k_ret ?_
  obtain rfl := Option.some.inj G
  exact k_done0 H _ (by kernel_rfl) (by kernel_rfl)
 ·rw [if_neg (nt c8)] at G
  refine k_seq ?_
  refine k_rg mixed H (.v 8 (vP ((u1 0).n 0) 0) <|
   .cons [9] (ok_ld (fun u4 => vI a0.Lo) 9 11 0 1 (fun u4 => ((u1 0).n 0)) (fun u4 => [vI a0.Lo, vI a0.Hi]) 28) <|
   .v 10 (.bool (decide (a0.Lo ≥ 0))) <|
   .v 7 (.bool (decide (a0.Lo ≥ 0))) <| .nil) fun u4 a w' H => ?_
  replace H := H.kp [7]
  refine k_cond H (by kernel_rfl) (t := decide (a0.Lo ≥ 0)) (by kernel_rfl) (fun c7 => ?_) (fun c7 => ?_)
  ·rw [if_pos c7] at G
   refine k_seq ?_
   refine k_rg mixed H (.v 2 (vI 2) <| .nil) fun u5 a w' H => ?_
   replace H := H.kp [2]
   refine k_ret ?_
   obtain rfl := Option.some.inj G
   exact k_done0 H _ (by kernel_rfl) (by kernel_rfl)
  ·rw [if_neg (nt c7)] at G
   refine k_skip ?_
   refine k_seq ?_
   refine k_rg mixed H (.v 2 (vI 1) <| .nil) fun u6 a w' H => ?_
   replace H := H.kp [2]
   refine k_ret ?_
   obtain rfl := Option.some.inj G
   exact k_done0 H _ (by kernel_rfl) (by kernel_rfl)
set_option maxHeartbeats 4000000 in
theorem interval_hh.calls (a0 : TInterval) (a1 : TInterval) (r : Int × Int) (w : World) (G : interval_hh a0 a1 = some r) :
  Calls Tryd.prog 87 #[.agg #[vI a0.Lo, vI a0.Hi], .agg #[vI a1.Lo, vI a1.Hi]] w fun e w' => e = .returned (.tuple #[vI r.1, vI r.2]) ∧ Below w.heap.size w w' := by
 refine k_enter (args := [.agg #[vI a0.Lo, vI a0.Hi], .agg #[vI a1.Lo, vI a1.Hi]]) 10 Tryd.func87 rfl (by kernel_rfl) (by kernel_rfl) fun a H => ?_
 unfold interval_hh at G
 refine k_seq ?_
 refine k_rg mixed H (.cons [2, 10] (ok_new (fun b => vP b 0) (fun u1 => [vI a0.Lo, vI a0.Hi]) 28 2 10) <|
   .cons [3, 11] (ok_new (fun b => vP b 0) (fun u1 => [vI a1.Lo, vI a1.Hi]) 28 3 11) <|
   .v 4 (vI 0) <|
   .v 5 (vI 0) <| .nil) fun u1 a w' H => ?_
 replace H := H.kp [2, 3, 10, 11]
 refine k_seq ?_
 refine k_rg mixed H (.v 6 (vP ((u1 0).n 0) 1) <|
   .cons [7] (ok_ld (fun u2 => vI a0.Hi) 7 10 1 1 (fun u2 => ((u1 0).n 0)) (fun u2 => [vI a0.Lo, vI a0.Hi]) 28) <|
   .v 8 (vP ((u1 1).n 0) 1) <|
   .cons [9] (ok_ld (fun u2 => vI a1.Hi) 9 11 1 1 (fun u2 => ((u1 1).n 0)) (fun u2 => [vI a1.Lo, vI a1.Hi]) 28) <|
   .v 4 (vI a0.Hi) <|
   .v 5 (vI a1.Hi) <| .nil) fun u2 a w' H => ?_
 replace H := H.kp [4, 5]
 refine k_ret ?_
 obtain rfl := Option.some.inj G
 exact k_done0 H _ (by kernel_rfl) (by kernel_rfl)
set_option maxHeartbeats 4000000 in
theorem interval_ll.calls (a0 : TInterval) (a1 : TInterval) (r : Int × Int) (w : World) (G : interval_ll a0 a1 = some r) :
  Calls Tryd.prog 88 #[.agg #[vI a0.Lo, vI a0.Hi], .agg #[vI a1.Lo, vI a1.Hi]] w fun e w' => e = .returned (.tuple #[vI r.1, vI r.2]) ∧ Below w.heap.size w w' := by
 refine k_enter (args := [.agg #[vI a0.Lo, vI a0.Hi], .agg #[vI a1.Lo, vI a1.Hi]]) 10 Tryd.func88 rfl (by kernel_rfl) (by kernel_rfl) fun a H => ?_
 unfold interval_ll at G
 refine k_seq ?_
 refine k_rg mixed H (.cons [2, 10] (ok_new (fun b => vP b 0) (fun u1 => [vI a0.Lo, vI a0.Hi]) 28 2 10) <|
   .cons [3, 11] (ok_new (fun b => vP b 0) (fun u1 => [vI a1.Lo, vI a1.Hi]) 28 3 11) <|
   .v 4 (vI 0) <|
   .v 5 (vI 0) <| .nil) fun u1 a w' H => ?_
 replace H := H.kp [2, 3, 10, 11]
 refine k_seq ?_
 refine k_rg mixed H (.v 6 (vP ((u1 0).n 0) 0) <|
   .cons [7] (ok_ld (fun u2 => vI a0.Lo) 7 10 0 1 (fun u2 => ((u1 0).n 0)) (fun u2 => [vI a0.Lo, vI a0.Hi]) 28) <|
   .v 8 (vP ((u1 1).n 0) 0) <|
   .cons [9] (ok_ld (fun u2 => vI a1.Lo) 9 11 0 1 (fun u2 => ((u1 1).n 0)) (fun u2 => [vI a1.Lo, vI a1.Hi]) 28) <|
   .v 4 (vI a0.Lo) <|
   .v 5 (vI a1.Lo) <| .nil) fun u2 a w' H => ?_
 replace H := H.kp [4, 5]
 refine k_ret ?_
 obtain rfl := Option.some.inj G
 exact k_done0 H _ (by kernel_rfl) (by kernel_rfl)
set_option maxHeartbeats 4000000 in
theorem interval_lh.calls (a0 : TInterval) (a1 : TInterval) (r : Int × Int) (w : World) (G : interval_lh a0 a1 = some r) :
  Calls Tryd.prog 89 #[.agg #[vI a0.Lo, vI a0.Hi], .agg #[vI a1.Lo, vI a1.Hi]] w fun e w' => e = .returned (.tuple #[vI r.1, vI r.2]) ∧ Below w.heap.size w w' := by
 refine k_enter (args := [.agg #[vI a0.Lo, vI a0.Hi], .agg #[vI a1.Lo, vI a1.Hi]]) 10 Tryd.func89 rfl (by kernel_rfl) (by kernel_rfl) fun a H => ?_
 unfold interval_lh at G
 refine k_seq ?_
 refine k_rg mixed H (.cons [2, 10] (ok_new (fun b => vP b 0) (fun u1 => [vI a0.Lo, vI a0.Hi]) 28 2 10) <|
   .cons [3, 11] (ok_new (fun b => vP b 0) (fun u1 => [vI a1.Lo, vI a1.Hi]) 28 3 11) <|
   .v 4 (vI 0) <|
   .v 5 (vI 0) <| .nil) fun u1 a w' H => ?_
 replace H := H.kp [2, 3, 10, 11]
 refine k_seq ?_
 refine k_rg mixed H (.v 6 (vP ((u1 0).n 0) 0) <|
   .cons [7] (ok_ld (fun u2 => vI a0.Lo) 7 10 0 1 (fun u2 => ((u1 0).n 0)) (fun u2 => [vI a0.Lo, vI a0.Hi]) 28) <|
   .v 8 (vP ((u1 1).n 0) 1) <|
   .cons [9] (ok_ld (fun u2 => vI a1.Hi) 9 11 1 1 (fun u2 => ((u1 1).n 0)) (fun u2 => [vI a1.Lo, vI a1.Hi]) 28) <|
   .v 4 (vI a0.Lo) <|
   .v 5 (vI a1.Hi) <| .nil) fun u2 a w' H => ?_
 replace H := H.kp [4, 5]
 refine k_ret ?_
 obtain rfl := Option.some.inj G
 exact k_done0 H _ (by kernel_rfl) (by kernel_rfl)
set_option maxHeartbeats 4000000 in
theorem interval_hl.calls (a0 : TInterval) (a1 : TInterval) (r : Int × Int) (w : World) (G : interval_hl a0 a1 = some r) :
  Calls Tryd.prog 90 #[.agg #[vI a0.Lo, vI a0.Hi], .agg #[vI a1.Lo, vI a1.Hi]] w fun e w' => e = .returned (.tuple #[vI r.1, vI r.2]) ∧ Below w.heap.size w w' := by
 refine k_enter (args := [.agg #[vI a0.Lo, vI a0.Hi], .agg #[vI a1.Lo, vI a1.Hi]]) 10 Tryd.func90 rfl (by kernel_rfl) (by kernel_rfl) fun a H => ?_
 unfold interval_hl at G
 refine k_seq ?_
 refine k_rg mixed H (.cons [2, 10] (ok_new (fun b => vP b 0) (fun u1 => [vI a0.Lo, vI a0.Hi]) 28 2 10) <|
   .cons [3, 11] (ok_new (fun b => vP b 0) (fun u1 => [vI a1.Lo, vI a1.Hi]) 28 3 11) <|
   .v 4 (vI 0) <|
   .v 5 (vI 0) <| .nil) fun u1 a w' H => ?_
 replace H := H.kp [2, 3, 10, 11]
 refine k_seq ?_
 refine k_rg mixed H (.v 6 (vP ((u1 0).n 0) 1) <|
   .cons [7] (ok_ld (fun u2 => vI a0.Hi) 7 10 1 1 (fun u2 => ((u1 0).n 0)) (fun u2 => [vI a0.Lo, vI a0.Hi]) 28) <|
   .v 8 (vP ((u1 1).n 0) 0) <|
   .cons [9] (ok_ld (fun u2 => vI a1.Lo) 9 11 0 1 (fun u2 => ((u1 1).n 0)) (fun u2 => [vI a1.Lo, vI a1.Hi]) 28) <|
   .v 4 (vI a0.Hi) <|
   .v 5 (vI a1.Lo) <| .nil) fun u2 a w' H => ?_
 replace H := H.kp [4, 5]
 refine k_ret ?_
 obtain rfl := Option.some.inj G
 exact k_done0 H _ (by kernel_rfl) (by kernel_rfl)
set_option maxHeartbeats 4000000 in
theorem interval_Mul.calls (a0 : TInterval) (a1 : TInterval) (r : TInterval) (w : World) (hg : Glob w) (G : interval_Mul a0 a1 = some r) :
  Calls Tryd.prog 55 #[.agg #[vI a0.Lo, vI a0.Hi], .agg #[vI a1.Lo, vI a1.Hi]] w fun e w' => e = .returned (.agg #[vI r.Lo, vI r.Hi]) ∧ Below w.heap.size w w' := by
 refine k_enterG (args := [.agg #[vI a0.Lo, vI a0.Hi], .agg #[vI a1.Lo, vI a1.Hi]]) 106 999999 globFp Glob (glob_local hg) (glob_in hg) Tryd.func55 rfl (by kernel_rfl) (by kernel_rfl) fun a H => ?_
 unfold interval_Mul at G
 refine k_seq ?_
 refine k_rg mixed H (.cons [2, 106] (ok_new (fun b => vP b 0) (fun u1 => [vI a0.Lo, vI a0.Hi]) 28 2 106) <|
   .cons [3, 107] (ok_new (fun b => vP b 0) (fun u1 => [vI a1.Lo, vI a1.Hi]) 28 3 107) <|
   .cons [4, 108] (ok_new (fun b => vP b 0) (fun u1 => [vI 0, vI 0]) 28 4 108) <| .nil) fun u1 a w' H => ?_
 replace H := H.kp [2, 3, 4, 106, 107, 108, 999999]
 refine k_seq ?_
 refine k_seq ?_
 replace G := bnd G; obtain ⟨t3, ht3, G⟩ := G
 replace G := bnd G; obtain ⟨t4, ht4, G⟩ := G
 refine k_rg mixed H (.cons [20] (ok_ld (fun u2 => .agg #[vI a0.Lo, vI a0.Hi]) 20 106 0 2 (fun u2 => ((u1 0).n 0)) (fun u2 => [vI a0.Lo, vI a0.Hi]) 28) <|
   .cons [21] (ok_callv 50 (fun u2 => #[.agg #[vI a0.Lo, vI a0.Hi]]) (.bool t3) 21 [] (fun u2 w _ => interval_IsEntire.calls a0  t3 w  ht3)) <|
   .v 22 (.bool t3) <|
   .cons [23] (ok_ldg (fun u2 => .agg #[vI a1.Lo, vI a1.Hi]) (fun u2 => (t3 == false)) [true] 23 107 0 2 (fun u2 => ((u1 1).n 0)) (fun u2 => [vI a1.Lo, vI a1.Hi]) 28) <|
   .cons [24] (ok_call 50 (fun u2 => #[.agg #[vI a1.Lo, vI a1.Hi]]) (.bool t4) (fun u2 => (t3 == false)) [true, false] 24 [] (fun u2 w hg _ => interval_IsEntire.calls a1  t4 w  (ifp ht4 hg))) <|
   .cons [25] (ok_or 22 24 (fun u2 => true) (fun u2 => true) (fun u2 => t3) (fun u2 => t4) 25) <| .nil) fun u2 a w' H => ?_
 replace H := H.kp [2, 3, 4, 25, 106, 107, 108, 999999]
 refine k_cond H (by kernel_rfl) (t := (t3 || t4)) (by kernel_rfl) (fun c107 => ?_) (fun c107 => ?_)
 ·rw [if_pos c107] at G
  refine k_seq ?_
  replace G := bnd G; obtain ⟨t6, ht6, G⟩ := G
  refine k_rg mixed H (.cons [26] (ok_callv 48 (fun u5 => #[]) (.agg #[vI t6.Lo, vI t6.Hi]) 26 [] (fun u5 w _ => interval_Entire.calls   t6 w  ht6)) <|
   .cons [108] (ok_as (u' := fun u5 => [(108, .blk ((u1 2).n 0) [vI t6.Lo, vI t6.Hi] 28)]) (ok_store 108 0 (fun u5 => ((u1 2).n 0)) (fun u5 => [vI 0, vI 0]) (fun u5 => [vI t6.Lo, vI t6.Hi]) 28) (fun _ => by kernel_rfl)) <| .nil) fun u5 a w' H => ?_
  replace H := H.kp [4, 108, 999999]
  refine k_ret ?_
  obtain rfl := Option.some.inj G
  exact k_done1 H _ 108 ((u1 2).n 0) [vI t6.Lo, vI t6.Hi] 28 0 2 (by kernel_rfl) (by kernel_rfl) (by kernel_rfl) (by kernel_rfl)
 ·rw [if_neg (nt c107)] at G
  refine k_skip ?_
  refine k_seq ?_
  replace G := bnd G; obtain ⟨t8, ht8, G⟩ := G
  replace G := bnd G; obtain ⟨t9, ht9, G⟩ := G
  refine k_rg mixed H (.cons [27] (ok_ld (fun u7 => .agg #[vI a0.Lo, vI a0.Hi]) 27 106 0 2 (fun u7 => ((u1 0).n 0)) (fun u7 => [vI a0.Lo, vI a0.Hi]) 28) <|
   .cons [28] (ok_callv 61 (fun u7 => #[.agg #[vI a0.Lo, vI a0.Hi]]) (vI t8) 28 [] (fun u7 w _ => interval_side.calls a0  t8 w  ht8)) <|
   .cons [29] (ok_ld (fun u7 => .agg #[vI a1.Lo, vI a1.Hi]) 29 107 0 2 (fun u7 => ((u1 1).n 0)) (fun u7 => [vI a1.Lo, vI a1.Hi]) 28) <|
   .cons [30] (ok_callv 61 (fun u7 => #[.agg #[vI a1.Lo, vI a1.Hi]]) (vI t9) 30 [] (fun u7 w _ => interval_side.calls a1  t9 w  ht9)) <|
   .v 5 (vI t8) <|
   .v 6 (vI t9) <| .nil) fun u7 a w' H => ?_
  replace H := H.kp [2, 3, 4, 5, 6, 106, 107, 108, 999999]
  refine k_seq ?_
  refine k_seq ?_
  refine k_rg mixed H (.v 31 (vI t8) <|
   .v 32 (.bool (t8 == 1)) <|
   .v 33 (.bool (t8 == 1)) <|
   .cons [34] (ok_valg (fun u10 => vI t9) (fun u10 => ((t8 == 1) == true)) [true] 34) <|
   .cons [35] (ok_valg (fun u10 => .bool (t9 == 1)) (fun u10 => ((t8 == 1) == true)) [false, true] 35) <|
   .cons [36] (ok_and 33 35 (fun u10 => true) (fun u10 => true) (fun u10 => (t8 == 1)) (fun u10 => (t9 == 1)) 36) <| .nil) fun u10 a w' H => ?_
  replace H := H.kp [2, 3, 4, 5, 6, 36, 106, 107, 108, 999999]
  refine k_cond H (by kernel_rfl) (t := ((t8 == 1) && (t9 == 1))) (by kernel_rfl) (fun c106 => ?_) (fun c106 => ?_)
  ·rw [if_pos c106] at G
   refine k_seq ?_
   replace G := bnd G; obtain ⟨t12, ht12, G⟩ := G
   refine k_rg mixed H (.v 38 (vP ((u1 0).n 0) 0) <|
   .cons [39] (ok_ld (fun u11 => vI a0.Lo) 39 106 0 1 (fun u11 => ((u1 0).n 0)) (fun u11 => [vI a0.Lo, vI a0.Hi]) 28) <|
   .v 40 (vP ((u1 1).n 0) 1) <|
   .cons [41] (ok_ld (fun u11 => vI a1.Hi) 41 107 1 1 (fun u11 => ((u1 1).n 0)) (fun u11 => [vI a1.Lo, vI a1.Hi]) 28) <|
   .cons [42] (ok_callv 58 (fun u11 => #[vI a0.Lo, vI a1.Hi]) (.tuple #[vI t12.1, vI t12.2]) 42 [] (fun u11 w _ => fixed_Mul.calls a0.Lo a1.Hi  t12 w  ht12)) <|
   .v 37 (.tuple #[vI t12.1, vI t12.2]) <|
   .v 43 (vI t12.1) <|
   .v 44 (vI t12.2) <|
   .v 7 (vI t12.1) <|
   .v 8 (vI t12.2) <| .nil) fun u11 a w' H => ?_
   replace H := H.kp [2, 3, 4, 7, 106, 107, 108, 999999]
   refine k_seq ?_
   replace G := bnd G; obtain ⟨t14, ht14, G⟩ := G
   refine k_rg mixed H (.v 46 (vP ((u1 0).n 0) 1) <|
   .cons [47] (ok_ld (fun u13 => vI a0.Hi) 47 106 1 1 (fun u13 => ((u1 0).n 0)) (fun u13 => [vI a0.Lo, vI a0.Hi]) 28) <|
   .v 48 (vP ((u1 1).n 0) 0) <|
   .cons [49] (ok_ld (fun u13 => vI a1.Lo) 49 107 0 1 (fun u13 => ((u1 1).n 0)) (fun u13 => [vI a1.Lo, vI a1.Hi]) 28) <|
   .cons [50] (ok_callv 58 (fun u13 => #[vI a0.Hi, vI a1.Lo]) (.tuple #[vI t14.1, vI t14.2]) 50 [] (fun u13 w _ => fixed_Mul.calls a0.Hi a1.Lo  t14 w  ht14)) <|
   .v 45 (.tuple #[vI t14.1, vI t14.2]) <|
   .v 51 (vI t14.1) <|
   .v 52 (vI t14.2) <|
   .v 9 (vI t14.1) <|
   .v 10 (vI t14.2) <| .nil) fun u13 a w' H => ?_
   replace H := H.kp [2, 3, 4, 7, 9, 106, 107, 108, 999999]
   refine k_seq ?_
   replace G := bnd G; obtain ⟨t16, ht16, G⟩ := G
   refine k_rg mixed H (.v 54 (vP ((u1 0).n 0) 0) <|
   .cons [55] (ok_ld (fun u15 => vI a0.Lo) 55 106 0 1 (fun u15 => ((u1 0).n 0)) (fun u15 => [vI a0.Lo, vI a0.Hi]) 28) <|
   .v 56 (vP ((u1 1).n 0) 0) <|
   .cons [57] (ok_ld (fun u15 => vI a1.Lo) 57 107 0 1 (fun u15 => ((u1 1).n 0)) (fun u15 => [vI a1.Lo, vI a1.Hi]) 28) <|
   .cons [58] (ok_callv 58 (fun u15 => #[vI a0.Lo, vI a1.Lo]) (.tuple #[vI t16.1, vI t16.2]) 58 [] (fun u15 w _ => fixed_Mul.calls a0.Lo a1.Lo  t16 w  ht16)) <|
   .v 53 (.tuple #[vI t16.1, vI t16.2]) <|
   .v 59 (vI t16.1) <|
   .v 60 (vI t16.2) <|
   .v 11 (vI t16.1) <|
   .v 12 (vI t16.2) <| .nil) fun u15 a w' H => ?_
   replace H := H.kp [2, 3, 4, 7, 9, 12, 106, 107, 108, 999999]
   refine k_seq ?_
   replace G := bnd G; obtain ⟨t18, ht18, G⟩ := G
   refine k_rg mixed H (.v 62 (vP ((u1 0).n 0) 1) <|
   .cons [63] (ok_ld (fun u17 => vI a0.Hi) 63 106 1 1 (fun u17 => ((u1 0).n 0)) (fun u17 => [vI a0.Lo, vI a0.Hi]) 28) <|
   .v 64 (vP ((u1 1).n 0) 1) <|
   .cons [65] (ok_ld (fun u17 => vI a1.Hi) 65 107 1 1 (fun u17 => ((u1 1).n 0)) (fun u17 => [vI a1.Lo, vI a1.Hi]) 28) <|
   .cons [66] (ok_callv 58 (fun u17 => #[vI a0.Hi, vI a1.Hi]) (.tuple #[vI t18.1, vI t18.2]) 66 [] (fun u17 w _ => fixed_Mul.calls a0.Hi a1.Hi  t18 w  ht18)) <|
   .v 61 (.tuple #[vI t18.1, vI t18.2]) <|
   .v 67 (vI t18.1) <|
   .v 68 (vI t18.2) <|
   .v 13 (vI t18.1) <|
   .v 14 (vI t18.2) <| .nil) fun u17 a w' H => ?_
   replace H := H.toM [(4, (sP ((u1 2).n 0) 0)), (7, sI t12.1), (9, sI t14.1), (12, sI t16.2), (14, sI t18.2), (108, .blk ((u1 2).n 0) [vI 0, vI 0] 28), (999999, gk)]
   refine k_seq ?_
   replace G := bnd G; obtain ⟨t20, ht20, G⟩ := G
   refine k_rg mixed H (.v 69 (vI t12.1) <|
   .v 70 (vI t14.1) <|
   .v 71 (vI (mn t12.1 t14.1)) <|
   .v 72 (vI t16.2) <|
   .v 73 (vI t18.2) <|
   .v 74 (vI (mx t16.2 t18.2)) <|
   .cons [75] (ok_callv 59 (fun u19 => #[vI (mn t12.1 t14.1), vI (mx t16.2 t18.2)]) (.agg #[vI t20.Lo, vI t20.Hi]) 75 [] (fun u19 w _ => interval_New.calls (mn t12.1 t14.1) (mx t16.2 t18.2)  t20 w  ht20)) <|
   .cons [108] (ok_as (u' := fun u19 => [(108, .blk ((u1 2).n 0) [vI t20.Lo, vI t20.Hi] 28)]) (ok_store 108 0 (fun u19 => ((u1 2).n 0)) (fun u19 => [vI 0, vI 0]) (fun u19 => [vI t20.Lo, vI t20.Hi]) 28) (fun _ => by kernel_rfl)) <| .nil) fun u19 a w' H => ?_
   replace H := H.kp [4, 108, 999999]
   refine k_ret ?_
   obtain rfl := Option.some.inj G
   exact k_done1 H _ 108 ((u1 2).n 0) [vI t20.Lo, vI t20.Hi] 28 0 2 (by kernel_rfl) (by kernel_rfl) (by kernel_rfl) (by kernel_rfl)
  ·rw [if_neg (nt c106)] at G
   refine k_skip ?_
   refine k_seq ?_
   by_cases c103 : t8 = 0
   ·rw [if_pos c103] at G; subst c103
    by_cases c48 : t9 = 0
    ·rw [if_pos c48] at G; subst c48
     refine k_rg mixed H (.v 76 (vI 0) <|
   .v 77 (vI 0) <|
   .v 78 (vP 1 0) <|
   .v 79 (vP 1 0) <|
   .cons [80] (ok_ldK (fun u21 => .agg #[.func (.func 87) #[] #[], .func (.func 88) #[] #[]]) 80 999999 gk 1 0 2 gTab1 (fun w h => (glob_of h).tab1)) <|
   .cons [15, 109] (ok_new (fun b => vP b 0) (fun u21 => [.nilFunc, .nilFunc]) 97 15 109) <|
   .cons [109] (ok_as (u' := fun u21 => [(109, .blk ((u21 5).n 0) [.func (.func 87) #[] #[], .func (.func 88) #[] #[]] 97)]) (ok_store 109 0 (fun u21 => ((u21 5).n 0)) (fun u21 => [.nilFunc, .nilFunc]) (fun u21 => [.func (.func 87) #[] #[], .func (.func 88) #[] #[]]) 97) (fun _ => by kernel_rfl)) <| .nil) fun u21 a w' H => ?_
     replace H := H.kp [2, 3, 4, 15, 106, 107, 108, 109, 999999]
     refine k_seq ?_
     replace G := bnd G; obtain ⟨t23, ht23, G⟩ := G
     replace G := bnd G; obtain ⟨t24, ht24, G⟩ := G
     refine k_rg mixed H (.v 82 (vP ((u21 5).n 0) 0) <|
   .cons [83] (ok_ld (fun u22 => .func (.func 87) #[] #[]) 83 109 0 1 (fun u22 => ((u21 5).n 0)) (fun u22 => [.func (.func 87) #[] #[], .func (.func 88) #[] #[]]) 97) <|
   .cons [84] (ok_ld (fun u22 => .agg #[vI a0.Lo, vI a0.Hi]) 84 106 0 2 (fun u22 => ((u1 0).n 0)) (fun u22 => [vI a0.Lo, vI a0.Hi]) 28) <|
   .cons [85] (ok_ld (fun u22 => .agg #[vI a1.Lo, vI a1.Hi]) 85 107 0 2 (fun u22 => ((u1 1).n 0)) (fun u22 => [vI a1.Lo, vI a1.Hi]) 28) <|
   .cons [86] (ok_callv 87 (fun u22 => #[.agg #[vI a0.Lo, vI a0.Hi], .agg #[vI a1.Lo, vI a1.Hi]]) (.tuple #[vI t23.1, vI t23.2]) 86 [] (fun u22 w _ => interval_hh.calls a0 a1  t23 w  ht23)) <|
   .v 87 (vI t23.1) <|
   .v 88 (vI t23.2) <|
   .cons [89] (ok_callv 58 (fun u22 => #[vI t23.1, vI t23.2]) (.tuple #[vI t24.1, vI t24.2]) 89 [] (fun u22 w _ => fixed_Mul.calls t23.1 t23.2  t24 w  ht24)) <|
   .v 81 (.tuple #[vI t24.1, vI t24.2]) <|
   .v 90 (vI t24.1) <|
   .v 91 (vI t24.2) <|
   .v 16 (vI t24.1) <|
   .v 17 (vI t24.2) <| .nil) fun u22 a w' H => ?_
     replace H := H.kp [2, 3, 4, 15, 16, 106, 107, 108, 109, 999999]
     refine k_seq ?_
     replace G := bnd G; obtain ⟨t26, ht26, G⟩ := G
     replace G := bnd G; obtain ⟨t27, ht27, G⟩ := G
     refine k_rg mixed H (.v 93 (vP ((u21 5).n 0) 1) <|
   .cons [94] (ok_ld (fun u25 => .func (.func 88) #[] #[]) 94 109 1 1 (fun u25 => ((u21 5).n 0)) (fun u25 => [.func (.func 87) #[] #[], .func (.func 88) #[] #[]]) 97) <|
   .cons [95] (ok_ld (fun u25 => .agg #[vI a0.Lo, vI a0.Hi]) 95 106 0 2 (fun u25 => ((u1 0).n 0)) (fun u25 => [vI a0.Lo, vI a0.Hi]) 28) <|
   .cons [96] (ok_ld (fun u25 => .agg #[vI a1.Lo, vI a1.Hi]) 96 107 0 2 (fun u25 => ((u1 1).n 0)) (fun u25 => [vI a1.Lo, vI a1.Hi]) 28) <|
   .cons [97] (ok_callv 88 (fun u25 => #[.agg #[vI a0.Lo, vI a0.Hi], .agg #[vI a1.Lo, vI a1.Hi]]) (.tuple #[vI t26.1, vI t26.2]) 97 [] (fun u25 w _ => interval_ll.calls a0 a1  t26 w  ht26)) <|
   .v 98 (vI t26.1) <|
   .v 99 (vI t26.2) <|
   .cons [100] (ok_callv 58 (fun u25 => #[vI t26.1, vI t26.2]) (.tuple #[vI t27.1, vI t27.2]) 100 [] (fun u25 w _ => fixed_Mul.calls t26.1 t26.2  t27 w  ht27)) <|
   .v 92 (.tuple #[vI t27.1, vI t27.2]) <|
   .v 101 (vI t27.1) <|
   .v 102 (vI t27.2) <|
   .v 18 (vI t27.1) <|
   .v 19 (vI t27.2) <| .nil) fun u25 a w' H => ?_
     replace H := H.kp [4, 16, 19, 108, 999999]
     refine k_seq ?_
     replace G := bnd G; obtain ⟨t29, ht29, G⟩ := G
     refine k_rg mixed H (.v 103 (vI t24.1) <|
   .v 104 (vI t27.2) <|
   .cons [105] (ok_callv 59 (fun u28 => #[vI t24.1, vI t27.2]) (.agg #[vI t29.Lo, vI t29.Hi]) 105 [] (fun u28 w _ => interval_New.calls t24.1 t27.2  t29 w  ht29)) <|
   .cons [108] (ok_as (u' := fun u28 => [(108, .blk ((u1 2).n 0) [vI t29.Lo, vI t29.Hi] 28)]) (ok_store 108 0 (fun u28 => ((u1 2).n 0)) (fun u28 => [vI 0, vI 0]) (fun u28 => [vI t29.Lo, vI t29.Hi]) 28) (fun _ => by kernel_rfl)) <| .nil) fun u28 a w' H => ?_
     replace H := H.kp [4, 108, 999999]
     refine k_ret ?_
     obtain rfl := Option.some.inj G
     exact k_done1 H _ 108 ((u1 2).n 0) [vI t29.Lo, vI t29.Hi] 28 0 2 (by kernel_rfl) (by kernel_rfl) (by kernel_rfl) (by kernel_rfl)
    rw [if_neg c48] at G
    by_cases c49 : t9 = 1
    ·rw [if_pos c49] at G; subst c49
     refine k_rg mixed H (.v 76 (vI 0) <|
   .v 77 (vI 1) <|
   .v 78 (vP 1 0) <|
   .v 79 (vP 1 2) <|
   .cons [80] (ok_ldK (fun u30 => .agg #[.func (.func 89) #[] #[], .func (.func 88) #[] #[]]) 80 999999 gk 1 2 2 gTab1 (fun w h => (glob_of h).tab1)) <|
   .cons [15, 110] (ok_new (fun b => vP b 0) (fun u30 => [.nilFunc, .nilFunc]) 97 15 110) <|
   .cons [110] (ok_as (u' := fun u30 => [(110, .blk ((u30 5).n 0) [.func (.func 89) #[] #[], .func (.func 88) #[] #[]] 97)]) (ok_store 110 0 (fun u30 => ((u30 5).n 0)) (fun u30 => [.nilFunc, .nilFunc]) (fun u30 => [.func (.func 89) #[] #[], .func (.func 88) #[] #[]]) 97) (fun _ => by kernel_rfl)) <| .nil) fun u30 a w' H => ?_
     replace H := H.kp [2, 3, 4, 15, 106, 107, 108, 110, 999999]
     refine k_seq ?_
     replace G := bnd G; obtain ⟨t32, ht32, G⟩ := G
     replace G := bnd G; obtain ⟨t33, ht33, G⟩ := G
     refine k_rg mixed H (.v 82 (vP ((u30 5).n 0) 0) <|
   .cons [83] (ok_ld (fun u31 => .func (.func 89) #[] #[]) 83 110 0 1 (fun u31 => ((u30 5).n 0)) (fun u31 => [.func (.func 89) #[] #[], .func (.func 88) #[] #[]]) 97) <|
   .cons [84] (ok_ld (fun u31 => .agg #[vI a0.Lo, vI a0.Hi]) 84 106 0 2 (fun u31 => ((u1 0).n 0)) (fun u31 => [vI a0.Lo, vI a0.Hi]) 28) <|
   .cons [85] (ok_ld (fun u31 => .agg #[vI a1.Lo, vI a1.Hi]) 85 107 0 2 (fun u31 => ((u1 1).n 0)) (fun u31 => [vI a1.Lo, vI a1.Hi]) 28) <|
   .cons [86] (ok_callv 89 (fun u31 => #[.agg #[vI a0.Lo, vI a0.Hi], .agg #[vI a1.Lo, vI a1.Hi]]) (.tuple #[vI t32.1, vI t32.2]) 86 [] (fun u31 w _ => interval_lh.calls a0 a1  t32 w  ht32)) <|
   .v 87 (vI t32.1) <|
   .v 88 (vI t32.2) <|
   .cons [89] (ok_callv 58 (fun u31 => #[vI t32.1, vI t32.2]) (.tuple #[vI t33.1, vI t33.2]) 89 [] (fun u31 w _ => fixed_Mul.calls t32.1 t32.2  t33 w  ht33)) <|
   .v 81 (.tuple #[vI t33.1, vI t33.2]) <|
   .v 90 (vI t33.1) <|
   .v 91 (vI t33.2) <|
   .v 16 (vI t33.1) <|
   .v 17 (vI t33.2) <| .nil) fun u31 a w' H => ?_
     replace H := H.kp [2, 3, 4, 15, 16, 106, 107, 108, 110, 999999]
     refine k_seq ?_
     replace G := bnd G; obtain ⟨t35, ht35, G⟩ := G
     replace G := bnd G; obtain ⟨t36, ht36, G⟩ := G
     refine k_rg mixed H (.v 93 (vP ((u30 5).n 0) 1) <|
   .cons [94] (ok_ld (fun u34 => .func (.func 88) #[] #[]) 94 110 1 1 (fun u34 => ((u30 5).n 0)) (fun u34 => [.func (.func 89) #[] #[], .func (.func 88) #[] #[]]) 97) <|
   .cons [95] (ok_ld (fun u34 => .agg #[vI a0.Lo, vI a0.Hi]) 95 106 0 2 (fun u34 => ((u1 0).n 0)) (fun u34 => [vI a0.Lo, vI a0.Hi]) 28) <|
   .cons [96] (ok_ld (fun u34 => .agg #[vI a1.Lo, vI a1.Hi]) 96 107 0 2 (fun u34 => ((u1 1).n 0)) (fun u34 => [vI a1.Lo, vI a1.Hi]) 28) <|
   .cons [97] (ok_callv 88 (fun u34 => #[.agg #[vI a0.Lo, vI a0.Hi], .agg #[vI a1.Lo, vI a1.Hi]]) (.tuple #[vI t35.1, vI t35.2]) 97 [] (fun u34 w _ => interval_ll.calls a0 a1  t35 w  ht35)) <|
   .v 98 (vI t35.1) <|
   .v 99 (vI t35.2) <|
   .cons [100] (ok_callv 58 (fun u34 => #[vI t35.1, vI t35.2]) (.tuple #[vI t36.1, vI t36.2]) 100 [] (fun u34 w _ => fixed_Mul.calls t35.1 t35.2  t36 w  ht36)) <|
   .v 92 (.tuple #[vI t36.1, vI t36.2]) <|
   .v 101 (vI t36.1) <|
   .v 102 (vI t36.2) <|
   .v 18 (vI t36.1) <|
   .v 19 (vI t36.2) <| .nil) fun u34 a w' H => ?_
     replace H := H.kp [4, 16, 19, 108, 999999]
     refine k_seq ?_
     replace G := bnd G; obtain ⟨t38, ht38, G⟩ := G
     refine k_rg mixed H (.v 103 (vI t33.1) <|
   .v 104 (vI t36.2) <|
   .cons [105] (ok_callv 59 (fun u37 => #[vI t33.1, vI t36.2]) (.agg #[vI t38.Lo, vI t38.Hi]) 105 [] (fun u37 w _ => interval_New.calls t33.1 t36.2  t38 w  ht38)) <|
   .cons [108] (ok_as (u' := fun u37 => [(108, .blk ((u1 2).n 0) [vI t38.Lo, vI t38.Hi] 28)]) (ok_store 108 0 (fun u37 => ((u1 2).n 0)) (fun u37 => [vI 0, vI 0]) (fun u37 => [vI t38.Lo, vI t38.Hi]) 28) (fun _ => by kernel_rfl)) <| .nil) fun u37 a w' H => ?_
     replace H := H.toM [(4, (sP ((u1 2).n 0) 0)), (108, .blk ((u1 2).n 0) [vI t38.Lo, vI t38.Hi] 28), (999999, gk)]
     refine k_ret ?_
     obtain rfl := Option.some.inj G
     exact k_done1 H _ 108 ((u1 2).n 0) [vI t38.Lo, vI t38.Hi] 28 0 2 (by kernel_rfl) (by kernel_rfl) (by kernel_rfl) (by kernel_rfl)
    rw [if_neg c49] at G
    by_cases c50 : t9 = 2
    ·rw [if_pos c50] at G; subst c50
     refine k_rg mixed H (.v 76 (vI 0) <|
   .v 77 (vI 2) <|
   .v 78 (vP 1 0) <|
   .v 79 (vP 1 4) <|
   .cons [80] (ok_ldK (fun u39 => .agg #[.func (.func 89) #[] #[], .func (.func 90) #[] #[]]) 80 999999 gk 1 4 2 gTab1 (fun w h => (glob_of h).tab1)) <|
   .cons [15, 111] (ok_new (fun b => vP b 0) (fun u39 => [.nilFunc, .nilFunc]) 97 15 111) <|
   .cons [111] (ok_as (u' := fun u39 => [(111, .blk ((u39 5).n 0) [.func (.func 89) #[] #[], .func (.func 90) #[] #[]] 97)]) (ok_store 111 0 (fun u39 => ((u39 5).n 0)) (fun u39 => [.nilFunc, .nilFunc]) (fun u39 => [.func (.func 89) #[] #[], .func (.func 90) #[] #[]]) 97) (fun _ => by kernel_rfl)) <| .nil) fun u39 a w' H => ?_
     replace H := H.kp [2, 3, 4, 15, 106, 107, 108, 111, 999999]
     refine k_seq ?_
     replace G := bnd G; obtain ⟨t41, ht41, G⟩ := G
     replace G := bnd G; obtain ⟨t42, ht42, G⟩ := G
     refine k_rg mixed H (.v 82 (vP ((u39 5).n 0) 0) <|
   .cons [83] (ok_ld (fun u40 => .func (.func 89) #[] #[]) 83 111 0 1 (fun u40 => ((u39 5).n 0)) (fun u40 => [.func (.func 89) #[] #[], .func (.func 90) #[] #[]]) 97) <|
   .cons [84] (ok_ld (fun u40 => .agg #[vI a0.Lo, vI a0.Hi]) 84 106 0 2 (fun u40 => ((u1 0).n 0)) (fun u40 => [vI a0.Lo, vI a0.Hi]) 28) <|
   .cons [85] (ok_ld (fun u40 => .agg #[vI a1.Lo, vI a1.Hi]) 85 107 0 2 (fun u40 => ((u1 1).n 0)) (fun u40 => [vI a1.Lo, vI a1.Hi]) 28) <|
   .cons [86] (ok_callv 89 (fun u40 => #[.agg #[vI a0.Lo, vI a0.Hi], .agg #[vI a1.Lo, vI a1.Hi]]) (.tuple #[vI t41.1, vI t41.2]) 86 [] (fun u40 w _ => interval_lh.calls a0 a1  t41 w  ht41)) <|
   .v 87 (vI t41.1) <|
   .v 88 (vI t41.2) <|
   .cons [89] (ok_callv 58 (fun u40 => #[vI t41.1, vI t41.2]) (.tuple #[vI t42.1, vI t42.2]) 89 [] (fun u40 w _ => fixed_Mul.calls t41.1 t41.2  t42 w  ht42)) <|
   .v 81 (.tuple #[vI t42.1, vI t42.2]) <|
   .v 90 (vI t42.1) <|
   .v 91 (vI t42.2) <|
   .v 16 (vI t42.1) <|
   .v 17 (vI t42.2) <| .nil) fun u40 a w' H => ?_
     replace H := H.kp [2, 3, 4, 15, 16, 106, 107, 108, 111, 999999]
     refine k_seq ?_
     replace G := bnd G; obtain ⟨t44, ht44, G⟩ := G
     replace G := bnd G; obtain ⟨t45, ht45, G⟩ := G
     refine k_rg mixed H (.v 93 (vP ((u39 5).n 0) 1) <|
   .cons [94] (ok_ld (fun u43 => .func (.func 90) #[] #[]) 94 111 1 1 (fun u43 => ((u39 5).n 0)) (fun u43 => [.func (.func 89) #[] #[], .func (.func 90) #[] #[]]) 97) <|
   .cons [95] (ok_ld (fun u43 => .agg #[vI a0.Lo, vI a0.Hi]) 95 106 0 2 (fun u43 => ((u1 0).n 0)) (fun u43 => [vI a0.Lo, vI a0.Hi]) 28) <|
   .cons [96] (ok_ld (fun u43 => .agg #[vI a1.Lo, vI a1.Hi]) 96 107 0 2 (fun u43 => ((u1 1).n 0)) (fun u43 => [vI a1.Lo, vI a1.Hi]) 28) <|
   .cons [97] (ok_callv 90 (fun u43 => #[.agg #[vI a0.Lo, vI a0.Hi], .agg #[vI a1.Lo, vI a1.Hi]]) (.tuple #[vI t44.1, vI t44.2]) 97 [] (fun u43 w _ => interval_hl.calls a0 a1  t44 w  ht44)) <|
   .v 98 (vI t44.1) <|
   .v 99 (vI t44.2) <|
   .cons [100] (ok_callv 58 (fun u43 => #[vI t44.1, vI t44.2]) (.tuple #[vI t45.1, vI t45.2]) 100 [] (fun u43 w _ => fixed_Mul.calls t44.1 t44.2  t45 w  ht45)) <|
   .v 92 (.tuple #[vI t45.1, vI t45.2]) <|
   .v 101 (vI t45.1) <|
   .v 102 (vI t45.2) <|
   .v 18 (vI t45.1) <|
   .v 19 (vI t45.2) <| .nil) fun u43 a w' H => ?_
     replace H := H.kp [4, 16, 19, 108, 999999]
     refine k_seq ?_
     replace G := bnd G; obtain ⟨t47, ht47, G⟩ := G
     refine k_rg mixed H (.v 103 (vI t42.1) <|
   .v 104 (vI t45.2) <|
   .cons [105] (ok_callv 59 (fun u46 => #[vI t42.1, vI t45.2]) (.agg #[vI t47.Lo, vI t47.Hi]) 105 [] (fun u46 w _ => interval_New.calls t42.1 t45.2  t47 w  ht47)) <|
   .cons [108] (ok_as (u' := fun u46 => [(108, .blk ((u1 2).n 0) [vI t47.Lo, vI t47.Hi] 28)]) (ok_store 108 0 (fun u46 => ((u1 2).n 0)) (fun u46 => [vI 0, vI 0]) (fun u46 => [vI t47.Lo, vI t47.Hi]) 28) (fun _ => by kernel_rfl)) <| .nil) fun u46 a w' H => ?_
     replace H := H.kp [4, 108, 999999]
     refine k_ret ?_
     obtain rfl := Option.some.inj G
     exact k_done1 H _ 108 ((u1 2).n 0) [vI t47.Lo, vI t47.Hi] 28 0 2 (by kernel_rfl) (by kernel_rfl) (by kernel_rfl) (by kernel_rfl)
    rw [if_neg c50] at G
    cases G
   rw [if_neg c103] at G
   by_cases c104 : t8 = 1
   ·rw [if_pos c104] at G; subst c104
    by_cases c70 : t9 = 0
    ·rw [if_pos c70] at G; subst c70
     refine k_rg mixed H (.v 76 (vI 1) <|
   .v 77 (vI 0) <|
   .v 78 (vP 1 6) <|
   .v 79 (vP 1 6) <|
   .cons [80] (ok_ldK (fun u51 => .agg #[.func (.func 90) #[] #[], .func (.func 88) #[] #[]]) 80 999999 gk 1 6 2 gTab1 (fun w h => (glob_of h).tab1)) <|
   .cons [15, 112] (ok_new (fun b => vP b 0) (fun u51 => [.nilFunc, .nilFunc]) 97 15 112) <|
   .cons [112] (ok_as (u' := fun u51 => [(112, .blk ((u51 5).n 0) [.func (.func 90) #[] #[], .func (.func 88) #[] #[]] 97)]) (ok_store 112 0 (fun u51 => ((u51 5).n 0)) (fun u51 => [.nilFunc, .nilFunc]) (fun u51 => [.func (.func 90) #[] #[], .func (.func 88) #[] #[]]) 97) (fun _ => by kernel_rfl)) <| .nil) fun u51 a w' H => ?_
     replace H := H.kp [2, 3, 4, 15, 106, 107, 108, 112, 999999]
     refine k_seq ?_
     replace G := bnd G; obtain ⟨t53, ht53, G⟩ := G
     replace G := bnd G; obtain ⟨t54, ht54, G⟩ := G
     refine k_rg mixed H (.v 82 (vP ((u51 5).n 0) 0) <|
   .cons [83] (ok_ld (fun u52 => .func (.func 90) #[] #[]) 83 112 0 1 (fun u52 => ((u51 5).n 0)) (fun u52 => [.func (.func 90) #[] #[], .func (.func 88) #[] #[]]) 97) <|
   .cons [84] (ok_ld (fun u52 => .agg #[vI a0.Lo, vI a0.Hi]) 84 106 0 2 (fun u52 => ((u1 0).n 0)) (fun u52 => [vI a0.Lo, vI a0.Hi]) 28) <|
   .cons [85] (ok_ld (fun u52 => .agg #[vI a1.Lo, vI a1.Hi]) 85 107 0 2 (fun u52 => ((u1 1).n 0)) (fun u52 => [vI a1.Lo, vI a1.Hi]) 28) <|
   .cons [86] (ok_callv 90 (fun u52 => #[.agg #[vI a0.Lo, vI a0.Hi], .agg #[vI a1.Lo, vI a1.Hi]]) (.tuple #[vI t53.1, vI t53.2]) 86 [] (fun u52 w _ => interval_hl.calls a0 a1  t53 w  ht53)) <|
   .v 87 (vI t53.1) <|
   .v 88 (vI t53.2) <|
   .cons [89] (ok_callv 58 (fun u52 => #[vI t53.1, vI t53.2]) (.tuple #[vI t54.1, vI t54.2]) 89 [] (fun u52 w _ => fixed_Mul.calls t53.1 t53.2  t54 w  ht54)) <|
   .v 81 (.tuple #[vI t54.1, vI t54.2]) <|
   .v 90 (vI t54.1) <|
   .v 91 (vI t54.2) <|
   .v 16 (vI t54.1) <|
   .v 17 (vI t54.2) <| .nil) fun u52 a w' H => ?_
     replace H := H.kp [2, 3, 4, 15, 16, 106, 107, 108, 112, 999999]
     refine k_seq ?_
     replace G := bnd G; obtain ⟨t56, ht56, G⟩ := G
     replace G := bnd G; obtain ⟨t57, ht57, G⟩ := G
     refine k_rg mixed H (.v 93 (vP ((u51 5).n 0) 1) <|
   .cons [94] (ok_ld (fun u55 => .func (.func 88) #[] #[]) 94 112 1 1 (fun u55 => ((u51 5).n 0)) (fun u55 => [.func (.func 90) #[] #[], .func (.func 88) #[] #[]]) 97) <|
   .cons [95] (ok_ld (fun u55 => .agg #[vI a0.Lo, vI a0.Hi]) 95 106 0 2 (fun u55 => ((u1 0).n 0)) (fun u55 => [vI a0.Lo, vI a0.Hi]) 28) <|
   .cons [96] (ok_ld (fun u55 => .agg #[vI a1.Lo, vI a1.Hi]) 96 107 0 2 (fun u55 => ((u1 1).n 0)) (fun u55 => [vI a1.Lo, vI a1.Hi]) 28) <|
   .cons [97] (ok_callv 88 (fun u55 => #[.agg #[vI a0.Lo, vI a0.Hi], .agg #[vI a1.Lo, vI a1.Hi]]) (.tuple #[vI t56.1, vI t56.2]) 97 [] (fun u55 w _ => interval_ll.calls a0 a1  t56 w  ht56)) <|
   .v 98 (vI t56.1) <|
   .v 99 (vI t56.2) <|
   .cons [100] (ok_callv 58 (fun u55 => #[vI t56.1, vI t56.2]) (.tuple #[vI t57.1, vI t57.2]) 100 [] (fun u55 w _ => fixed_Mul.calls t56.1 t56.2  t57 w  ht57)) <|
   .v 92 (.tuple #[vI t57.1, vI t57.2]) <|
   .v 101 (vI t57.1) <|
   .v 102 (vI t57.2) <|
   .v 18 (vI t57.1) <|
   .v 19 (vI t57.2) <| .nil) fun u55 a w' H => ?_
     replace H := H.kp [4, 16, 19, 108, 999999]
     refine k_seq ?_
     replace G := bnd G; obtain ⟨t59, ht59, G⟩ := G
     refine k_rg mixed H (.v 103 (vI t54.1) <|
   .v 104 (vI t57.2) <|
   .cons [105] (ok_callv 59 (fun u58 => #[vI t54.1, vI t57.2]) (.agg #[vI t59.Lo, vI t59.Hi]) 105 [] (fun u58 w _ => interval_New.calls t54.1 t57.2  t59 w  ht59)) <|
   .cons [108] (ok_as (u' := fun u58 => [(108, .blk ((u1 2).n 0) [vI t59.Lo, vI t59.Hi] 28)]) (ok_store 108 0 (fun u58 => ((u1 2).n 0)) (fun u58 => [vI 0, vI 0]) (fun u58 => [vI t59.Lo, vI t59.Hi]) 28) (fun _ => by kernel_rfl)) <| .nil) fun u58 a w' H => ?_
     replace H := H.kp [4, 108, 999999]
     refine k_ret ?_
     obtain rfl := Option.some.inj G
     exact k_done1 H _ 108 ((u1 2).n 0) [vI t59.Lo, vI t59.Hi] 28 0 2 (by kernel_rfl) (by kernel_rfl) (by kernel_rfl) (by kernel_rfl)
    rw [if_neg c70] at G
    by_cases c71 : t9 = 1
    ·rw [if_pos c71] at G; subst c71
     refine k_rg mixed H (.v 76 (vI 1) <|
   .v 77 (vI 1) <|
   .v 78 (vP 1 6) <|
   .v 79 (vP 1 8) <|
   .cons [80] (ok_ldK (fun u60 => .agg #[.nilFunc, .nilFunc]) 80 999999 gk 1 8 2 gTab1 (fun w h => (glob_of h).tab1)) <|
   .cons [15, 113] (ok_new (fun b => vP b 0) (fun u60 => [.nilFunc, .nilFunc]) 97 15 113) <|
   .cons [113] (ok_as (u' := fun u60 => [(113, .blk ((u60 5).n 0) [.nilFunc, .nilFunc] 97)]) (ok_store 113 0 (fun u60 => ((u60 5).n 0)) (fun u60 => [.nilFunc, .nilFunc]) (fun u60 => [.nilFunc, .nilFunc]) 97) (fun _ => by kernel_rfl)) <| .nil) fun u60 a w' H => ?_
     replace H := H.toM [(2, (sP ((u1 0).n 0) 0)), (3, (sP ((u1 1).n 0) 0)), (4, (sP ((u1 2).n 0) 0)), (15, (sP ((u60 5).n 0) 0)), (106, .blk ((u1 0).n 0) [vI a0.Lo, vI a0.Hi] 28), (107, .blk ((u1 1).n 0) [vI a1.Lo, vI a1.Hi] 28), (108, .blk ((u1 2).n 0) [vI 0, vI 0] 28), (113, .blk ((u60 5).n 0) [.nilFunc, .nilFunc] 97), (999999, gk)]
     refine k_seq ?_
     cases G
    rw [if_neg c71] at G
    by_cases c72 : t9 = 2
    ·rw [if_pos c72] at G; subst c72
     refine k_rg mixed H (.v 76 (vI 1) <|
   .v 77 (vI 2) <|
   .v 78 (vP 1 6) <|
   .v 79 (vP 1 10) <|
   .cons [80] (ok_ldK (fun u61 => .agg #[.func (.func 89) #[] #[], .func (.func 87) #[] #[]]) 80 999999 gk 1 10 2 gTab1 (fun w h => (glob_of h).tab1)) <|
   .cons [15, 114] (ok_new (fun b => vP b 0) (fun u61 => [.nilFunc, .nilFunc]) 97 15 114) <|
   .cons [114] (ok_as (u' := fun u61 => [(114, .blk ((u61 5).n 0) [.func (.func 89) #[] #[], .func (.func 87) #[] #[]] 97)]) (ok_store 114 0 (fun u61 => ((u61 5).n 0)) (fun u61 => [.nilFunc, .nilFunc]) (fun u61 => [.func (.func 89) #[] #[], .func (.func 87) #[] #[]]) 97) (fun _ => by kernel_rfl)) <| .nil) fun u61 a w' H => ?_
     replace H := H.kp [2, 3, 4, 15, 106, 107, 108, 114, 999999]
     refine k_seq ?_
     replace G := bnd G; obtain ⟨t63, ht63, G⟩ := G
     replace G := bnd G; obtain ⟨t64, ht64, G⟩ := G
     refine k_rg mixed H (.v 82 (vP ((u61 5).n 0) 0) <|
   .cons [83] (ok_ld (fun u62 => .func (.func 89) #[] #[]) 83 114 0 1 (fun u62 => ((u61 5).n 0)) (fun u62 => [.func (.func 89) #[] #[], .func (.func 87) #[] #[]]) 97) <|
   .cons [84] (ok_ld (fun u62 => .agg #[vI a0.Lo, vI a0.Hi]) 84 106 0 2 (fun u62 => ((u1 0).n 0)) (fun u62 => [vI a0.Lo, vI a0.Hi]) 28) <|
   .cons [85] (ok_ld (fun u62 => .agg #[vI a1.Lo, vI a1.Hi]) 85 107 0 2 (fun u62 => ((u1 1).n 0)) (fun u62 => [vI a1.Lo, vI a1.Hi]) 28) <|
   .cons [86] (ok_callv 89 (fun u62 => #[.agg #[vI a0.Lo, vI a0.Hi], .agg #[vI a1.Lo, vI a1.Hi]]) (.tuple #[vI t63.1, vI t63.2]) 86 [] (fun u62 w _ => interval_lh.calls a0 a1  t63 w  ht63)) <|
   .v 87 (vI t63.1) <|
   .v 88 (vI t63.2) <|
   .cons [89] (ok_callv 58 (fun u62 => #[vI t63.1, vI t63.2]) (.tuple #[vI t64.1, vI t64.2]) 89 [] (fun u62 w _ => fixed_Mul.calls t63.1 t63.2  t64 w  ht64)) <|
   .v 81 (.tuple #[vI t64.1, vI t64.2]) <|
   .v 90 (vI t64.1) <|
   .v 91 (vI t64.2) <|
   .v 16 (vI t64.1) <|
   .v 17 (vI t64.2) <| .nil) fun u62 a w' H => ?_
     replace H := H.kp [2, 3, 4, 15, 16, 106, 107, 108, 114, 999999]
     refine k_seq ?_
     replace G := bnd G; obtain ⟨t66, ht66, G⟩ := G
     replace G := bnd G; obtain ⟨t67, ht67, G⟩ := G
     refine k_rg mixed H (.v 93 (vP ((u61 5).n 0) 1) <|
   .cons [94] (ok_ld (fun u65 => .func (.func 87) #[] #[]) 94 114 1 1 (fun u65 => ((u61 5).n 0)) (fun u65 => [.func (.func 89) #[] #[], .func (.func 87) #[] #[]]) 97) <|
   .cons [95] (ok_ld (fun u65 => .agg #[vI a0.Lo, vI a0.Hi]) 95 106 0 2 (fun u65 => ((u1 0).n 0)) (fun u65 => [vI a0.Lo, vI a0.Hi]) 28) <|
   .cons [96] (ok_ld (fun u65 => .agg #[vI a1.Lo, vI a1.Hi]) 96 107 0 2 (fun u65 => ((u1 1).n 0)) (fun u65 => [vI a1.Lo, vI a1.Hi]) 28) <|
   .cons [97] (ok_callv 87 (fun u65 => #[.agg #[vI a0.Lo, vI a0.Hi], .agg #[vI a1.Lo, vI a1.Hi]]) (.tuple #[vI t66.1, vI t66.2]) 97 [] (fun u65 w _ => interval_hh.calls a0 a1  t66 w  ht66)) <|
   .v 98 (vI t66.1) <|
   .v 99 (vI t66.2) <|
   .cons [100] (ok_callv 58 (fun u65 => #[vI t66.1, vI t66.2]) (.tuple #[vI t67.1, vI t67.2]) 100 [] (fun u65 w _ => fixed_Mul.calls t66.1 t66.2  t67 w  ht67)) <|
   .v 92 (.tuple #[vI t67.1, vI t67.2]) <|
   .v 101 (vI t67.1) <|
   .v 102 (vI t67.2) <|
   .v 18 (vI t67.1) <|
   .v 19 (vI t67.2) <| .nil) fun u65 a w' H => ?_
     replace H := H.kp [4, 16, 19, 108, 999999]
     refine k_seq ?_
     replace G := bnd G; obtain ⟨t69, ht69, G⟩ := G
     refine k_rg mixed H (.v 103 (vI t64.1) <|
   .v 104 (vI t67.2) <|
   .cons [105] (ok_callv 59 (fun u68 => #[vI t64.1, vI t67.2]) (.agg #[vI t69.Lo, vI t69.Hi]) 105 [] (fun u68 w _ => interval_New.calls t64.1 t67.2  t69 w  ht69)) <|
   .cons [108] (ok_as (u' := fun u68 => [(108, .blk ((u1 2).n 0) [vI t69.Lo, vI t69.Hi] 28)]) (ok_store 108 0 (fun u68 => ((u1 2).n 0)) (fun u68 => [vI 0, vI 0]) (fun u68 => [vI t69.Lo, vI t69.Hi]) 28) (fun _ => by kernel_rfl)) <| .nil) fun u68 a w' H => ?_
     replace H := H.kp [4, 108, 999999]
     refine k_ret ?_
     obtain rfl := Option.some.inj G
     exact k_done1 H _ 108 ((u1 2).n 0) [vI t69.Lo, vI t69.Hi] 28 0 2 (by kernel_rfl) (by kernel_rfl) (by kernel_rfl) (by kernel_rfl)
    rw [if_neg c72] at G
    cases G
   rw [if_neg c104] at G
   by_cases c105 : t8 = 2
   ·rw [if_pos c105] at G; subst c105
    by_cases c100 : t9 = 0
    ·rw [if_pos c100] at G; subst c100
     refine k_rg mixed H (.v 76 (vI 2) <|
   .v 77 (vI 0) <|
   .v 78 (vP 1 12) <|
   .v 79 (vP 1 12) <|
   .cons [80] (ok_ldK (fun u73 => .agg #[.func (.func 90) #[] #[], .func (.func 89) #[] #[]]) 80 999999 gk 1 12 2 gTab1 (fun w h => (glob_of h).tab1)) <|
   .cons [15, 115] (ok_new (fun b => vP b 0) (fun u73 => [.nilFunc, .nilFunc]) 97 15 115) <|
   .cons [115] (ok_as (u' := fun u73 => [(115, .blk ((u73 5).n 0) [.func (.func 90) #[] #[], .func (.func 89) #[] #[]] 97)]) (ok_store 115 0 (fun u73 => ((u73 5).n 0)) (fun u73 => [.nilFunc, .nilFunc]) (fun u73 => [.func (.func 90) #[] #[], .func (.func 89) #[] #[]]) 97) (fun _ => by kernel_rfl)) <| .nil) fun u73 a w' H => ?_
     replace H := H.kp [2, 3, 4, 15, 106, 107, 108, 115, 999999]
     refine k_seq ?_
     replace G := bnd G; obtain ⟨t75, ht75, G⟩ := G
     replace G := bnd G; obtain ⟨t76, ht76, G⟩ := G
     refine k_rg mixed H (.v 82 (vP ((u73 5).n 0) 0) <|
   .cons [83] (ok_ld (fun u74 => .func (.func 90) #[] #[]) 83 115 0 1 (fun u74 => ((u73 5).n 0)) (fun u74 => [.func (.func 90) #[] #[], .func (.func 89) #[] #[]]) 97) <|
   .cons [84] (ok_ld (fun u74 => .agg #[vI a0.Lo, vI a0.Hi]) 84 106 0 2 (fun u74 => ((u1 0).n 0)) (fun u74 => [vI a0.Lo, vI a0.Hi]) 28) <|
   .cons [85] (ok_ld (fun u74 => .agg #[vI a1.Lo, vI a1.Hi]) 85 107 0 2 (fun u74 => ((u1 1).n 0)) (fun u74 => [vI a1.Lo, vI a1.Hi]) 28) <|
   .cons [86] (ok_callv 90 (fun u74 => #[.agg #[vI a0.Lo, vI a0.Hi], .agg #[vI a1.Lo, vI a1.Hi]]) (.tuple #[vI t75.1, vI t75.2]) 86 [] (fun u74 w _ => interval_hl.calls a0 a1  t75 w  ht75)) <|
   .v 87 (vI t75.1) <|
   .v 88 (vI t75.2) <|
   .cons [89] (ok_callv 58 (fun u74 => #[vI t75.1, vI t75.2]) (.tuple #[vI t76.1, vI t76.2]) 89 [] (fun u74 w _ => fixed_Mul.calls t75.1 t75.2  t76 w  ht76)) <|
   .v 81 (.tuple #[vI t76.1, vI t76.2]) <|
   .v 90 (vI t76.1) <|
   .v 91 (vI t76.2) <|
   .v 16 (vI t76.1) <|
   .v 17 (vI t76.2) <| .nil) fun u74 a w' H => ?_
     replace H := H.kp [2, 3, 4, 15, 16, 106, 107, 108, 115, 999999]
     refine k_seq ?_
     replace G := bnd G; obtain ⟨t78, ht78, G⟩ := G
     replace G := bnd G; obtain ⟨t79, ht79, G⟩ := G
     refine k_rg mixed H (.v 93 (vP ((u73 5).n 0) 1) <|
   .cons [94] (ok_ld (fun u77 => .func (.func 89) #[] #[]) 94 115 1 1 (fun u77 => ((u73 5).n 0)) (fun u77 => [.func (.func 90) #[] #[], .func (.func 89) #[] #[]]) 97) <|
   .cons [95] (ok_ld (fun u77 => .agg #[vI a0.Lo, vI a0.Hi]) 95 106 0 2 (fun u77 => ((u1 0).n 0)) (fun u77 => [vI a0.Lo, vI a0.Hi]) 28) <|
   .cons [96] (ok_ld (fun u77 => .agg #[vI a1.Lo, vI a1.Hi]) 96 107 0 2 (fun u77 => ((u1 1).n 0)) (fun u77 => [vI a1.Lo, vI a1.Hi]) 28) <|
   .cons [97] (ok_callv 89 (fun u77 => #[.agg #[vI a0.Lo, vI a0.Hi], .agg #[vI a1.Lo, vI a1.Hi]]) (.tuple #[vI t78.1, vI t78.2]) 97 [] (fun u77 w _ => interval_lh.calls a0 a1  t78 w  ht78)) <|
   .v 98 (vI t78.1) <|
   .v 99 (vI t78.2) <|
   .cons [100] (ok_callv 58 (fun u77 => #[vI t78.1, vI t78.2]) (.tuple #[vI t79.1, vI t79.2]) 100 [] (fun u77 w _ => fixed_Mul.calls t78.1 t78.2  t79 w  ht79)) <|
   .v 92 (.tuple #[vI t79.1, vI t79.2]) <|
   .v 101 (vI t79.1) <|
   .v 102 (vI t79.2) <|
   .v 18 (vI t79.1) <|
   .v 19 (vI t79.2) <| .nil) fun u77 a w' H => ?_
     replace H := H.kp [4, 16, 19, 108, 999999]
     refine k_seq ?_
     replace G := bnd G; obtain ⟨t81, ht81, G⟩ := G
     refine k_rg mixed H (.v 103 (vI t76.1) <|
   .v 104 (vI t79.2) <|
   .cons [105] (ok_callv 59 (fun u80 => #[vI t76.1, vI t79.2]) (.agg #[vI t81.Lo, vI t81.Hi]) 105 [] (fun u80 w _ => interval_New.calls t76.1 t79.2  t81 w  ht81)) <|
   .cons [108] (ok_as (u' := fun u80 => [(108, .blk ((u1 2).n 0) [vI t81.Lo, vI t81.Hi] 28)]) (ok_store 108 0 (fun u80 => ((u1 2).n 0)) (fun u80 => [vI 0, vI 0]) (fun u80 => [vI t81.Lo, vI t81.Hi]) 28) (fun _ => by kernel_rfl)) <| .nil) fun u80 a w' H => ?_
     replace H := H.kp [4, 108, 999999]
     refine k_ret ?_
     obtain rfl := Option.some.inj G
     exact k_done1 H _ 108 ((u1 2).n 0) [vI t81.Lo, vI t81.Hi] 28 0 2 (by kernel_rfl) (by kernel_rfl) (by kernel_rfl) (by kernel_rfl)
    rw [if_neg c100] at G
    by_cases c101 : t9 = 1
    ·rw [if_pos c101] at G; subst c101
     refine k_rg mixed H (.v 76 (vI 2) <|
   .v 77 (vI 1) <|
   .v 78 (vP 1 12) <|
   .v 79 (vP 1 14) <|
   .cons [80] (ok_ldK (fun u82 => .agg #[.func (.func 90) #[] #[], .func (.func 87) #[] #[]]) 80 999999 gk 1 14 2 gTab1 (fun w h => (glob_of h).tab1)) <|
   .cons [15, 116] (ok_new (fun b => vP b 0) (fun u82 => [.nilFunc, .nilFunc]) 97 15 116) <|
   .cons [116] (ok_as (u' := fun u82 => [(116, .blk ((u82 5).n 0) [.func (.func 90) #[] #[], .func (.func 87) #[] #[]] 97)]) (ok_store 116 0 (fun u82 => ((u82 5).n 0)) (fun u82 => [.nilFunc, .nilFunc]) (fun u82 => [.func (.func 90) #[] #[], .func (.func 87) #[] #[]]) 97) (fun _ => by kernel_rfl)) <| .nil) fun u82 a w' H => ?_
     replace H := H.toM [(2, (sP ((u1 0).n 0) 0)), (3, (sP ((u1 1).n 0) 0)), (4, (sP ((u1 2).n 0) 0)), (15, (sP ((u82 5).n 0) 0)), (106, .blk ((u1 0).n 0) [vI a0.Lo, vI a0.Hi] 28), (107, .blk ((u1 1).n 0) [vI a1.Lo, vI a1.Hi] 28), (108, .blk ((u1 2).n 0) [vI 0, vI 0] 28), (116, .blk ((u82 5).n 0) [.func (.func 90) #[] #[], .func (.func 87) #[] #[]] 97), (999999, gk)]
     refine k_seq ?_
     replace G := bnd G; obtain ⟨t84, ht84, G⟩ := G
     replace G := bnd G; obtain ⟨t85, ht85, G⟩ := G
     refine k_rg mixed H (.v 82 (vP ((u82 5).n 0) 0) <|
   .cons [83] (ok_ld (fun u83 => .func (.func 90) #[] #[]) 83 116 0 1 (fun u83 => ((u82 5).n 0)) (fun u83 => [.func (.func 90) #[] #[], .func (.func 87) #[] #[]]) 97) <|
   .cons [84] (ok_ld (fun u83 => .agg #[vI a0.Lo, vI a0.Hi]) 84 106 0 2 (fun u83 => ((u1 0).n 0)) (fun u83 => [vI a0.Lo, vI a0.Hi]) 28) <|
   .cons [85] (ok_ld (fun u83 => .agg #[vI a1.Lo, vI a1.Hi]) 85 107 0 2 (fun u83 => ((u1 1).n 0)) (fun u83 => [vI a1.Lo, vI a1.Hi]) 28) <|
   .cons [86] (ok_callv 90 (fun u83 => #[.agg #[vI a0.Lo, vI a0.Hi], .agg #[vI a1.Lo, vI a1.Hi]]) (.tuple #[vI t84.1, vI t84.2]) 86 [] (fun u83 w _ => interval_hl.calls a0 a1  t84 w  ht84)) <|
   .v 87 (vI t84.1) <|
   .v 88 (vI t84.2) <|
   .cons [89] (ok_callv 58 (fun u83 => #[vI t84.1, vI t84.2]) (.tuple #[vI t85.1, vI t85.2]) 89 [] (fun u83 w _ => fixed_Mul.calls t84.1 t84.2  t85 w  ht85)) <|
   .v 81 (.tuple #[vI t85.1, vI t85.2]) <|
   .v 90 (vI t85.1) <|
   .v 91 (vI t85.2) <|
   .v 16 (vI t85.1) <|
   .v 17 (vI t85.2) <| .nil) fun u83 a w' H => ?_
     replace H := H.kp [2, 3, 4, 15, 16, 106, 107, 108, 116, 999999]
     refine k_seq ?_
     replace G := bnd G; obtain ⟨t87, ht87, G⟩ := G
     replace G := bnd G; obtain ⟨t88, ht88, G⟩ := G
     refine k_rg mixed H (.v 93 (vP ((u82 5).n 0) 1) <|
   .cons [94] (ok_ld (fun u86 => .func (.func 87) #[] #[]) 94 116 1 1 (fun u86 => ((u82 5).n 0)) (fun u86 => [.func (.func 90) #[] #[], .func (.func 87) #[] #[]]) 97) <|
   .cons [95] (ok_ld (fun u86 => .agg #[vI a0.Lo, vI a0.Hi]) 95 106 0 2 (fun u86 => ((u1 0).n 0)) (fun u86 => [vI a0.Lo, vI a0.Hi]) 28) <|
   .cons [96] (ok_ld (fun u86 => .agg #[vI a1.Lo, vI a1.Hi]) 96 107 0 2 (fun u86 => ((u1 1).n 0)) (fun u86 => [vI a1.Lo, vI a1.Hi]) 28) <|
   .cons [97] (ok_callv 87 (fun u86 => #[.agg #[vI a0.Lo, vI a0.Hi], .agg #[vI a1.Lo, vI a1.Hi]]) (.tuple #[vI t87.1, vI t87.2]) 97 [] (fun u86 w _ => interval_hh.calls a0 a1  t87 w  ht87)) <|
   .v 98 (vI t87.1) <|
   .v 99 (vI t87.2) <|
   .cons [100] (ok_callv 58 (fun u86 => #[vI t87.1, vI t87.2]) (.tuple #[vI t88.1, vI t88.2]) 100 [] (fun u86 w _ => fixed_Mul.calls t87.1 t87.2  t88 w  ht88)) <|
   .v 92 (.tuple #[vI t88.1, vI t88.2]) <|
   .v 101 (vI t88.1) <|
   .v 102 (vI t88.2) <|
   .v 18 (vI t88.1) <|
   .v 19 (vI t88.2) <| .nil) fun u86 a w' H => ?_
     replace H := H.kp [4, 16, 19, 108, 999999]
     refine k_seq ?_
     replace G := bnd G; obtain ⟨t90, ht90, G⟩ := G
     refine k_rg mixed H (.v 103 (vI t85.1) <|
   .v 104 (vI t88.2) <|
   .cons [105] (ok_callv 59 (fun u89 => #[vI t85.1, vI t88.2]) (.agg #[vI t90.Lo, vI t90.Hi]) 105 [] (fun u89 w _ => interval_New.calls t85.1 t88.2  t90 w  ht90)) <|
   .cons [108] (ok_as (u' := fun u89 => [(108, .blk ((u1 2).n 0) [vI t90.Lo, vI t90.Hi] 28)]) (ok_store 108 0 (fun u89 => ((u1 2).n 0)) (fun u89 => [vI 0, vI 0]) (fun u89 => [vI t90.Lo, vI t90.Hi]) 28) (fun _ => by kernel_rfl)) <| .nil) fun u89 a w' H => ?_
     replace H := H.kp [4, 108, 999999]
     refine k_ret ?_
     obtain rfl := Option.some.inj G
     exact k_done1 H _ 108 ((u1 2).n 0) [vI t90.Lo, vI t90.Hi] 28 0 2 (by kernel_rfl) (by kernel_rfl) (by kernel_rfl) (by kernel_rfl)
    rw [if_neg c101] at G
    by_cases c102 : t9 = 2
    ·rw [if_pos c102] at G; subst c102
     refine k_rg mixed H (.v 76 (vI 2) <|
   .v 77 (vI 2) <|
   .v 78 (vP 1 12) <|
   .v 79 (vP 1 16) <|
   .cons [80] (ok_ldK (fun u91 => .agg #[.func (.func 88) #[] #[], .func (.func 87) #[] #[]]) 80 999999 gk 1 16 2 gTab1 (fun w h => (glob_of h).tab1)) <|
   .cons [15, 117] (ok_new (fun b => vP b 0) (fun u91 => [.nilFunc, .nilFunc]) 97 15 117) <|
   .cons [117] (ok_as (u' := fun u91 => [(117, .blk ((u91 5).n 0) [.func (.func 88) #[] #[], .func (.func 87) #[] #[]] 97)]) (ok_store 117 0 (fun u91 => ((u91 5).n 0)) (fun u91 => [.nilFunc, .nilFunc]) (fun u91 => [.func (.func 88) #[] #[], .func (.func 87) #[] #[]]) 97) (fun _ => by kernel_rfl)) <| .nil) fun u91 a w' H => ?_
     replace H := H.kp [2, 3, 4, 15, 106, 107, 108, 117, 999999]
     refine k_seq ?_
     replace G := bnd G; obtain ⟨t93, ht93, G⟩ := G
     replace G := bnd G; obtain ⟨t94, ht94, G⟩ := G
     refine k_rg mixed H (.v 82 (vP ((u91 5).n 0) 0) <|
   .cons [83] (ok_ld (fun u92 => .func (.func 88) #[] #[]) 83 117 0 1 (fun u92 => ((u91 5).n 0)) (fun u92 => [.func (.func 88) #[] #[], .func (.func 87) #[] #[]]) 97) <|
   .cons [84] (ok_ld (fun u92 => .agg #[vI a0.Lo, vI a0.Hi]) 84 106 0 2 (fun u92 => ((u1 0).n 0)) (fun u92 => [vI a0.Lo, vI a0.Hi]) 28) <|
   .cons [85] (ok_ld (fun u92 => .agg #[vI a1.Lo, vI a1.Hi]) 85 107 0 2 (fun u92 => ((u1 1).n 0)) (fun u92 => [vI a1.Lo, vI a1.Hi]) 28) <|
   .cons [86] (ok_callv 88 (fun u92 => #[.agg #[vI a0.Lo, vI a0.Hi], .agg #[vI a1.Lo, vI a1.Hi]]) (.tuple #[vI t93.1, vI t93.2]) 86 [] (fun u92 w _ => interval_ll.calls a0 a1  t93 w  ht93)) <|
   .v 87 (vI t93.1) <|
   .v 88 (vI t93.2) <|
   .cons [89] (ok_callv 58 (fun u92 => #[vI t93.1, vI t93.2]) (.tuple #[vI t94.1, vI t94.2]) 89 [] (fun u92 w _ => fixed_Mul.calls t93.1 t93.2  t94 w  ht94)) <|
   .v 81 (.tuple #[vI t94.1, vI t94.2]) <|
   .v 90 (vI t94.1) <|
   .v 91 (vI t94.2) <|
   .v 16 (vI t94.1) <|
   .v 17 (vI t94.2) <| .nil) fun u92 a w' H => ?_
     replace H := H.kp [2, 3, 4, 15, 16, 106, 107, 108, 117, 999999]
     refine k_seq ?_
     replace G := bnd G; obtain ⟨t96, ht96, G⟩ := G
     replace G := bnd G; obtain ⟨t97, ht97, G⟩ := G
     refine k_rg mixed H (.v 93 (vP ((u91 5).n 0) 1) <|
   .cons [94] (ok_ld (fun u95 => .func (.func 87) #[] #[]) 94 117 1 1 (fun u95 => ((u91 5).n 0)) (fun u95 => [.func (.func 88) #[] #[], .func (.func 87) #[] #[]]) 97) <|
   .cons [95] (ok_ld (fun u95 => .agg #[vI a0.Lo, vI a0.Hi]) 95 106 0 2 (fun u95 => ((u1 0).n 0)) (fun u95 => [vI a0.Lo, vI a0.Hi]) 28) <|
   .cons [96] (ok_ld (fun u95 => .agg #[vI a1.Lo, vI a1.Hi]) 96 107 0 2 (fun u95 => ((u1 1).n 0)) (fun u95 => [vI a1.Lo, vI a1.Hi]) 28) <|
   .cons [97] (ok_callv 87 (fun u95 => #[.agg #[vI a0.Lo, vI a0.Hi], .agg #[vI a1.Lo, vI a1.Hi]]) (.tuple #[vI t96.1, vI t96.2]) 97 [] (fun u95 w _ => interval_hh.calls a0 a1  t96 w  ht96)) <|
   .v 98 (vI t96.1) <|
   .v 99 (vI t96.2) <|
   .cons [100] (ok_callv 58 (fun u95 => #[vI t96.1, vI t96.2]) (.tuple #[vI t97.1, vI t97.2]) 100 [] (fun u95 w _ => fixed_Mul.calls t96.1 t96.2  t97 w  ht97)) <|
   .v 92 (.tuple #[vI t97.1, vI t97.2]) <|
   .v 101 (vI t97.1) <|
   .v 102 (vI t97.2) <|
   .v 18 (vI t97.1) <|
   .v 19 (vI t97.2) <| .nil) fun u95 a w' H => ?_
     replace H := H.kp [4, 16, 19, 108, 999999]
     refine k_seq ?_
     replace G := bnd G; obtain ⟨t99, ht99, G⟩ := G
     refine k_rg mixed H (.v 103 (vI t94.1) <|
   .v 104 (vI t97.2) <|
   .cons [105] (ok_callv 59 (fun u98 => #[vI t94.1, vI t97.2]) (.agg #[vI t99.Lo, vI t99.Hi]) 105 [] (fun u98 w _ => interval_New.calls t94.1 t97.2  t99 w  ht99)) <|
   .cons [108] (ok_as (u' := fun u98 => [(108, .blk ((u1 2).n 0) [vI t99.Lo, vI t99.Hi] 28)]) (ok_store 108 0 (fun u98 => ((u1 2).n 0)) (fun u98 => [vI 0, vI 0]) (fun u98 => [vI t99.Lo, vI t99.Hi]) 28) (fun _ => by kernel_rfl)) <| .nil) fun u98 a w' H => ?_
     replace H := H.kp [4, 108, 999999]
     refine k_ret ?_
     obtain rfl := Option.some.inj G
     exact k_done1 H _ 108 ((u1 2).n 0) [vI t99.Lo, vI t99.Hi] 28 0 2 (by kernel_rfl) (by kernel_rfl) (by kernel_rfl) (by kernel_rfl)
    rw [if_neg c102] at G
    cases G
   rw [if_neg c105] at G
   cases G
set_option maxHeartbeats 4000000 in
theorem interval_Contains.calls (a0 : TInterval) (a1 : Int) (r : Bool) (w : World) (G : interval_Contains a0 a1 = some r) :
  Calls Tryd.prog 62 #[.agg #[vI a0.Lo, vI a0.Hi], vI a1] w fun e w' => e = .returned (.bool r) ∧ Below w.heap.size w w' := by
 refine k_enter (args := [.agg #[vI a0.Lo, vI a0.Hi], vI a1]) 19 Tryd.func62 rfl (by kernel_rfl) (by kernel_rfl) fun a H => ?_
 unfold interval_Contains at G
 refine k_seq ?_
 refine k_rg mixed H (.cons [2, 19] (ok_new (fun b => vP b 0) (fun u1 => [vI a0.Lo, vI a0.Hi]) 28 2 19) <|
   .v 4 (.bool false) <| .nil) fun u1 a w' H => ?_
 replace H := H.kp [1, 2, 19]
 refine k_seq ?_
 replace G := bnd G; obtain ⟨t3, ht3, G⟩ := G
 refine k_rg mixed H (.cons [5] (ok_ld (fun u2 => .agg #[vI a0.Lo, vI a0.Hi]) 5 19 0 2 (fun u2 => ((u1 0).n 0)) (fun u2 => [vI a0.Lo, vI a0.Hi]) 28) <|
   .cons [6] (ok_callv 50 (fun u2 => #[.agg #[vI a0.Lo, vI a0.Hi]]) (.bool t3) 6 [] (fun u2 w _ => interval_IsEntire.calls a0  t3 w  ht3)) <|
   .v 7 (.bool t3) <|
   .cons [8] (ok_valg (fun u2 => vP ((u1 0).n 0) 0) (fun u2 => (t3 == false)) [true] 8) <|
   .cons [9] (ok_ldg (fun u2 => vI a0.Lo) (fun u2 => (t3 == false)) [false] 9 19 0 1 (fun u2 => ((u1 0).n 0)) (fun u2 => [vI a0.Lo, vI a0.Hi]) 28) <|
   .cons [10] (ok_valg (fun u2 => vI a1) (fun u2 => (t3 == false)) [true] 10) <|
   .cons [11] (ok_valg (fun u2 => .bool (decide (a0.Lo ≤ a1))) (fun u2 => (t3 == false)) [false, false] 11) <|
   .cons [12] (ok_valg (fun u2 => .bool (decide (a0.Lo ≤ a1))) (fun u2 => (t3 == false)) [false] 12) <|
   .cons [13] (ok_valg (fun u2 => vI a1) (fun u2 => ((t3 == false) && ((decide (a0.Lo ≤ a1)) == true))) [true] 13) <|
   .cons [14] (ok_valg (fun u2 => vP ((u1 0).n 0) 1) (fun u2 => ((t3 == false) && ((decide (a0.Lo ≤ a1)) == true))) [true] 14) <|
   .cons [15] (ok_ldg (fun u2 => vI a0.Hi) (fun u2 => ((t3 == false) && ((decide (a0.Lo ≤ a1)) == true))) [false] 15 19 1 1 (fun u2 => ((u1 0).n 0)) (fun u2 => [vI a0.Lo, vI a0.Hi]) 28) <|
   .cons [16] (ok_valg (fun u2 => .bool (decide (a1 ≤ a0.Hi))) (fun u2 => ((t3 == false) && ((decide (a0.Lo ≤ a1)) == true))) [false, false] 16) <|
   .cons [17] (ok_and 12 16 (fun u2 => (t3 == false)) (fun u2 => (t3 == false)) (fun u2 => decide (a0.Lo ≤ a1)) (fun u2 => decide (a1 ≤ a0.Hi)) 17) <|
   .cons [18] (ok_or 7 17 (fun u2 => true) (fun u2 => true) (fun u2 => t3) (fun u2 => ((decide (a0.Lo ≤ a1)) && (decide (a1 ≤ a0.Hi)))) 18) <|
   .v 4 (.bool (t3 || ((decide (a0.Lo ≤ a1)) && (decide (a1 ≤ a0.Hi))))) <| .nil) fun u2 a w' H => ?_
 replace H := H.kp [4]
 refine k_ret ?_
 obtain rfl := Option.some.inj G
 exact k_done0 H _ (by kernel_rfl) (by kernel_rfl)
set_option maxHeartbeats 4000000 in
theorem interval_pick_int.calls (a0 : Bool) (a1 : Int) (a2 : Int) (r : Int) (w : World) (G : interval_pick_int a0 a1 a2 = some r) :
  Calls Tryd.prog 63 #[.bool a0, vI a1, vI a2] w fun e w' => e = .returned (vI r) ∧ Below w.heap.size w w' := by
 refine k_enter (args := [.bool a0, vI a1, vI a2]) 10 Tryd.func63 rfl (by kernel_rfl) (by kernel_rfl) fun a H => ?_
 unfold interval_pick_int at G
 refine k_seq ?_
 refine k_rg mixed H (.v 6 (vI 0) <| .nil) fun u1 a w' H => ?_
 replace H := H.kp [0, 1, 2]
 refine k_seq ?_
 refine k_seq ?_
 refine k_rg mixed H (.v 7 (.bool a0) <| .nil) fun u2 a w' H => ?_
 replace H := H.kp [1, 2, 7]
 refine k_cond H (by kernel_rfl) (t := a0) (by kernel_rfl) (fun c5 => ?_) (fun c5 => ?_)
 ·rw [if_pos c5] at G
  refine k_seq ?_
  refine k_rg mixed H (.v 8 (vI a1) <|
   .v 6 (vI a1) <| .nil) fun u3 a w' H => ?_
  replace H := H.kp [6]
  refine k_ret ?_
  obtain rfl := Option.some.inj G
  exact k_done0 H _ (by kernel_rfl) (by kernel_rfl)
 ·rw [if_neg (nt c5)] at G
  refine k_skip ?_
  refine k_seq ?_
  refine k_rg mixed H (.v 9 (vI a2) <|
   .v 6 (vI a2) <| .nil) fun u4 a w' H => ?_
  replace H := H.kp [6]
  refine k_ret ?_
  obtain rfl := Option.some.inj G
  exact k_done0 H _ (by kernel_rfl) (by kernel_rfl)
set_option maxHeartbeats 4000000 in
theorem fixed_Div.calls (a0 : Int) (a1 : Int) (r : Int × Int × Int) (w : World) (G : fixed_Div a0 a1 = some r) :
  Calls Tryd.prog 64 #[vI a0, vI a1] w fun e w' => e = .returned (.tuple #[vI r.1, vI r.2.1, vI r.2.2]) ∧ Below w.heap.size w w' := by
 refine k_enter (args := [vI a0, vI a1]) 20 Tryd.func64 rfl (by kernel_rfl) (by kernel_rfl) fun a H => ?_
 unfold fixed_Div at G
 refine k_seq ?_
 refine k_rg mixed H (.v 4 (vI 0) <|
   .v 5 (vI 0) <|
   .v 6 (vI 0) <| .nil) fun u1 a w' H => ?_
 replace H := H.kp [0, 1]
 refine k_seq ?_
 refine k_seq ?_
 refine k_rg mixed H (.v 9 (vI a1) <|
   .v 10 (.bool (a1 == 0)) <| .nil) fun u2 a w' H => ?_
 replace H := H.kp [0, 1, 10]
 refine k_cond H (by kernel_rfl) (t := (a1 == 0)) (by kernel_rfl) (fun c7 => ?_) (fun c7 => ?_)
 ·rw [if_pos c7] at G
  refine k_seq ?_
  refine k_rg mixed H (.v 4 (vI 0) <|
   .v 5 (vI 0) <|
   .v 6 (vI 3) <| .nil) fun u3 a w' H => ?_
  replace H := H.kp [4, 5, 6]
  refine k_ret ?_
  obtain rfl := Option.some.inj G
  exact k_done0 H _ (by kernel_rfl) (by kernel_rfl)
 ·rw [if_neg (nt c7)] at G
  refine k_skip ?_
  refine k_seq ?_
  replace G := bnd G; obtain ⟨t5, ht5, G⟩ := G
  refine k_rg mixed H (.v 12 (vI a0) <|
   .v 13 (vI (w_i64 (a0 * 65536))) <|
   .v 14 (vI a1) <|
   .cons [15] (ok_callv 65 (fun u4 => #[vI (w_i64 (a0 * 65536)), vI a1]) (.tuple #[vI t5.1, vI t5.2]) 15 [] (fun u4 w _ => fixed_divide.calls (w_i64 (a0 * 65536)) a1  t5 w  ht5)) <|
   .v 11 (.tuple #[vI t5.1, vI t5.2]) <|
   .v 16 (vI t5.1) <|
   .v 17 (vI t5.2) <|
   .v 7 (vI t5.1) <|
   .v 8 (vI t5.2) <| .nil) fun u4 a w' H => ?_
  replace H := H.kp [7, 8]
  refine k_seq ?_
  refine k_rg mixed H (.v 18 (vI t5.1) <|
   .v 19 (vI t5.2) <|
   .v 4 (vI t5.1) <|
   .v 5 (vI t5.2) <|
   .v 6 (vI 0) <| .nil) fun u6 a w' H => ?_
  replace H := H.kp [4, 5, 6]
  refine k_ret ?_
  obtain rfl := Option.some.inj G
  exact k_done0 H _ (by kernel_rfl) (by kernel_rfl)
set_option maxHeartbeats 4000000 in
theorem interval_Div.calls (a0 : TInterval) (a1 : TInterval) (r : TInterval) (w : World) (hg : Glob w) (G : interval_Div a0 a1 = some r) :
  Calls Tryd.prog 56 #[.agg #[vI a0.Lo, vI a0.Hi], .agg #[vI a1.Lo, vI a1.Hi]] w fun e w' => e = .returned (.agg #[vI r.Lo, vI r.Hi]) ∧ Below w.heap.size w w' := by
 refine k_enterG (args := [.agg #[vI a0.Lo, vI a0.Hi], .agg #[vI a1.Lo, vI a1.Hi]]) 59 999999 globFp Glob (glob_local hg) (glob_in hg) Tryd.func56 rfl (by kernel_rfl) (by kernel_rfl) fun a H => ?_
 unfold interval_Div at G
 refine k_seq ?_
 refine k_rg mixed H (.cons [2, 59] (ok_new (fun b => vP b 0) (fun u1 => [vI a0.Lo, vI a0.Hi]) 28 2 59) <|
   .cons [3, 60] (ok_new (fun b => vP b 0) (fun u1 => [vI a1.Lo, vI a1.Hi]) 28 3 60) <|
   .cons [4, 61] (ok_new (fun b => vP b 0) (fun u1 => [vI 0, vI 0]) 28 4 61) <| .nil) fun u1 a w' H => ?_
 replace H := H.kp [2, 3, 4, 59, 60, 61, 999999]
 refine k_seq ?_
 refine k_seq ?_
 replace G := bnd G; obtain ⟨t3, ht3, G⟩ := G
 replace G := bnd G; obtain ⟨t4, ht4, G⟩ := G
 replace G := bnd G; obtain ⟨t5, ht5, G⟩ := G
 refine k_rg mixed H (.cons [12] (ok_ld (fun u2 => .agg #[vI a0.Lo, vI a0.Hi]) 12 59 0 2 (fun u2 => ((u1 0).n 0)) (fun u2 => [vI a0.Lo, vI a0.Hi]) 28) <|
   .cons [13] (ok_callv 50 (fun u2 => #[.agg #[vI a0.Lo, vI a0.Hi]]) (.bool t3) 13 [] (fun u2 w _ => interval_IsEntire.calls a0  t3 w  ht3)) <|
   .v 14 (.bool t3) <|
   .cons [15] (ok_ldg (fun u2 => .agg #[vI a1.Lo, vI a1.Hi]) (fun u2 => (t3 == false)) [true] 15 60 0 2 (fun u2 => ((u1 1).n 0)) (fun u2 => [vI a1.Lo, vI a1.Hi]) 28) <|
   .cons [16] (ok_call 50 (fun u2 => #[.agg #[vI a1.Lo, vI a1.Hi]]) (.bool t4) (fun u2 => (t3 == false)) [true, false] 16 [] (fun u2 w hg _ => interval_IsEntire.calls a1  t4 w  (ifp ht4 hg))) <|
   .cons [17] (ok_or 14 16 (fun u2 => true) (fun u2 => true) (fun u2 => t3) (fun u2 => t4) 17) <|
   .v 18 (.bool (t3 || t4)) <|
   .cons [19] (ok_ldg (fun u2 => .agg #[vI a1.Lo, vI a1.Hi]) (fun u2 => ((t3 || t4) == false)) [true] 19 60 0 2 (fun u2 => ((u1 1).n 0)) (fun u2 => [vI a1.Lo, vI a1.Hi]) 28) <|
   .cons [20] (ok_call 62 (fun u2 => #[.agg #[vI a1.Lo, vI a1.Hi], vI 0]) (.bool t5) (fun u2 => ((t3 || t4) == false)) [true, false, true] 20 [] (fun u2 w hg _ => interval_Contains.calls a1 0  t5 w  (ifp ht5 hg))) <|
   .cons [21] (ok_or 18 20 (fun u2 => true) (fun u2 => true) (fun u2 => (t3 || t4)) (fun u2 => t5) 21) <| .nil) fun u2 a w' H => ?_
 replace H := H.kp [2, 3, 4, 21, 59, 60, 61, 999999]
 refine k_cond H (by kernel_rfl) (t := ((t3 || t4) || t5)) (by kernel_rfl) (fun c24 => ?_) (fun c24 => ?_)
 ·rw [if_pos c24] at G
  refine k_seq ?_
  replace G := bnd G; obtain ⟨t7, ht7, G⟩ := G
  refine k_rg mixed H (.cons [22] (ok_callv 48 (fun u6 => #[]) (.agg #[vI t7.Lo, vI t7.Hi]) 22 [] (fun u6 w _ => interval_Entire.calls   t7 w  ht7)) <|
   .cons [61] (ok_as (u' := fun u6 => [(61, .blk ((u1 2).n 0) [vI t7.Lo, vI t7.Hi] 28)]) (ok_store 61 0 (fun u6 => ((u1 2).n 0)) (fun u6 => [vI 0, vI 0]) (fun u6 => [vI t7.Lo, vI t7.Hi]) 28) (fun _ => by kernel_rfl)) <| .nil) fun u6 a w' H => ?_
  replace H := H.kp [4, 61, 999999]
  refine k_ret ?_
  obtain rfl := Option.some.inj G
  exact k_done1 H _ 61 ((u1 2).n 0) [vI t7.Lo, vI t7.Hi] 28 0 2 (by kernel_rfl) (by kernel_rfl) (by kernel_rfl) (by kernel_rfl)
 ·rw [if_neg (nt c24)] at G
  refine k_skip ?_
  refine k_seq ?_
  replace G := bnd G; obtain ⟨t9, ht9, G⟩ := G
  by_cases c21 : t9 = 0
  ·rw [if_pos c21] at G; subst c21
   replace G := bnd G; obtain ⟨t10, ht10, G⟩ := G
   by_cases c19 : t10 = 0
   ·rw [if_pos c19] at G; subst c19
    refine k_rg mixed H (.cons [23] (ok_ld (fun u8 => .agg #[vI a0.Lo, vI a0.Hi]) 23 59 0 2 (fun u8 => ((u1 0).n 0)) (fun u8 => [vI a0.Lo, vI a0.Hi]) 28) <|
   .cons [24] (ok_callv 61 (fun u8 => #[.agg #[vI a0.Lo, vI a0.Hi]]) (vI 0) 24 [] (fun u8 w _ => interval_side.calls a0  0 w  ht9)) <|
   .v 25 (vP ((u1 1).n 0) 0) <|
   .cons [26] (ok_ld (fun u8 => vI a1.Lo) 26 60 0 1 (fun u8 => ((u1 1).n 0)) (fun u8 => [vI a1.Lo, vI a1.Hi]) 28) <|
   .v 27 (.bool (decide (a1.Lo > 0))) <|
   .cons [28] (ok_callv 63 (fun u8 => #[.bool (decide (a1.Lo > 0)), vI 1, vI 0]) (vI 0) 28 [] (fun u8 w _ => interval_pick_int.calls (decide (a1.Lo > 0)) 1 0  0 w  ht10)) <|
   .v 29 (vP 2 0) <|
   .v 30 (vP 2 0) <|
   .cons [31] (ok_ldK (fun u8 => .agg #[.func (.func 90) #[] #[], .func (.func 89) #[] #[]]) 31 999999 gk 2 0 2 gTab2 (fun w h => (glob_of h).tab2)) <|
   .cons [5, 62] (ok_new (fun b => vP b 0) (fun u8 => [.nilFunc, .nilFunc]) 97 5 62) <|
   .cons [62] (ok_as (u' := fun u8 => [(62, .blk ((u8 9).n 0) [.func (.func 90) #[] #[], .func (.func 89) #[] #[]] 97)]) (ok_store 62 0 (fun u8 => ((u8 9).n 0)) (fun u8 => [.nilFunc, .nilFunc]) (fun u8 => [.func (.func 90) #[] #[], .func (.func 89) #[] #[]]) 97) (fun _ => by kernel_rfl)) <| .nil) fun u8 a w' H => ?_
    replace H := H.kp [2, 3, 4, 5, 59, 60, 61, 62, 999999]
    refine k_seq ?_
    replace G := bnd G; obtain ⟨t12, ht12, G⟩ := G
    replace G := bnd G; obtain ⟨t13, ht13, G⟩ := G
    refine k_rg mixed H (.v 33 (vP ((u8 9).n 0) 0) <|
   .cons [34] (ok_ld (fun u11 => .func (.func 90) #[] #[]) 34 62 0 1 (fun u11 => ((u8 9).n 0)) (fun u11 => [.func (.func 90) #[] #[], .func (.func 89) #[] #[]]) 97) <|
   .cons [35] (ok_ld (fun u11 => .agg #[vI a0.Lo, vI a0.Hi]) 35 59 0 2 (fun u11 => ((u1 0).n 0)) (fun u11 => [vI a0.Lo, vI a0.Hi]) 28) <|
   .cons [36] (ok_ld (fun u11 => .agg #[vI a1.Lo, vI a1.Hi]) 36 60 0 2 (fun u11 => ((u1 1).n 0)) (fun u11 => [vI a1.Lo, vI a1.Hi]) 28) <|
   .cons [37] (ok_callv 90 (fun u11 => #[.agg #[vI a0.Lo, vI a0.Hi], .agg #[vI a1.Lo, vI a1.Hi]]) (.tuple #[vI t12.1, vI t12.2]) 37 [] (fun u11 w _ => interval_hl.calls a0 a1  t12 w  ht12)) <|
   .v 38 (vI t12.1) <|
   .v 39 (vI t12.2) <|
   .cons [40] (ok_callv 64 (fun u11 => #[vI t12.1, vI t12.2]) (.tuple #[vI t13.1, vI t13.2.1, vI t13.2.2]) 40 [] (fun u11 w _ => fixed_Div.calls t12.1 t12.2  t13 w  ht13)) <|
   .v 32 (.tuple #[vI t13.1, vI t13.2.1, vI t13.2.2]) <|
   .v 41 (vI t13.1) <|
   .v 42 (vI t13.2.1) <|
   .v 43 (vI t13.2.2) <|
   .v 6 (vI t13.1) <|
   .v 7 (vI t13.2.1) <|
   .v 8 (vI t13.2.2) <| .nil) fun u11 a w' H => ?_
    replace H := H.kp [2, 3, 4, 5, 6, 59, 60, 61, 62, 999999]
    refine k_seq ?_
    replace G := bnd G; obtain ⟨t15, ht15, G⟩ := G
    replace G := bnd G; obtain ⟨t16, ht16, G⟩ := G
    refine k_rg mixed H (.v 45 (vP ((u8 9).n 0) 1) <|
   .cons [46] (ok_ld (fun u14 => .func (.func 89) #[] #[]) 46 62 1 1 (fun u14 => ((u8 9).n 0)) (fun u14 => [.func (.func 90) #[] #[], .func (.func 89) #[] #[]]) 97) <|
   .cons [47] (ok_ld (fun u14 => .agg #[vI a0.Lo, vI a0.Hi]) 47 59 0 2 (fun u14 => ((u1 0).n 0)) (fun u14 => [vI a0.Lo, vI a0.Hi]) 28) <|
   .cons [48] (ok_ld (fun u14 => .agg #[vI a1.Lo, vI a1.Hi]) 48 60 0 2 (fun u14 => ((u1 1).n 0)) (fun u14 => [vI a1.Lo, vI a1.Hi]) 28) <|
   .cons [49] (ok_callv 89 (fun u14 => #[.agg #[vI a0.Lo, vI a0.Hi], .agg #[vI a1.Lo, vI a1.Hi]]) (.tuple #[vI t15.1, vI t15.2]) 49 [] (fun u14 w _ => interval_lh.calls a0 a1  t15 w  ht15)) <|
   .v 50 (vI t15.1) <|
   .v 51 (vI t15.2) <|
   .cons [52] (ok_callv 64 (fun u14 => #[vI t15.1, vI t15.2]) (.tuple #[vI t16.1, vI t16.2.1, vI t16.2.2]) 52 [] (fun u14 w _ => fixed_Div.calls t15.1 t15.2  t16 w  ht16)) <|
   .v 44 (.tuple #[vI t16.1, vI t16.2.1, vI t16.2.2]) <|
   .v 53 (vI t16.1) <|
   .v 54 (vI t16.2.1) <|
   .v 55 (vI t16.2.2) <|
   .v 9 (vI t16.1) <|
   .v 10 (vI t16.2.1) <|
   .v 11 (vI t16.2.2) <| .nil) fun u14 a w' H => ?_
    replace H := H.kp [4, 6, 10, 61, 999999]
    refine k_seq ?_
    replace G := bnd G; obtain ⟨t18, ht18, G⟩ := G
    refine k_rg mixed H (.v 56 (vI t13.1) <|
   .v 57 (vI t16.2.1) <|
   .cons [58] (ok_callv 59 (fun u17 => #[vI t13.1, vI t16.2.1]) (.agg #[vI t18.Lo, vI t18.Hi]) 58 [] (fun u17 w _ => interval_New.calls t13.1 t16.2.1  t18 w  ht18)) <|
   .cons [61] (ok_as (u' := fun u17 => [(61, .blk ((u1 2).n 0) [vI t18.Lo, vI t18.Hi] 28)]) (ok_store 61 0 (fun u17 => ((u1 2).n 0)) (fun u17 => [vI 0, vI 0]) (fun u17 => [vI t18.Lo, vI t18.Hi]) 28) (fun _ => by kernel_rfl)) <| .nil) fun u17 a w' H => ?_
    replace H := H.kp [4, 61, 999999]
    refine k_ret ?_
    obtain rfl := Option.some.inj G
    exact k_done1 H _ 61 ((u1 2).n 0) [vI t18.Lo, vI t18.Hi] 28 0 2 (by kernel_rfl) (by kernel_rfl) (by kernel_rfl) (by kernel_rfl)
   rw [if_neg c19] at G
   by_cases c20 : t10 = 1
   ·rw [if_pos c20] at G; subst c20
    refine k_rg mixed H (.cons [23] (ok_ld (fun u8 => .agg #[vI a0.Lo, vI a0.Hi]) 23 59 0 2 (fun u8 => ((u1 0).n 0)) (fun u8 => [vI a0.Lo, vI a0.Hi]) 28) <|
   .cons [24] (ok_callv 61 (fun u8 => #[.agg #[vI a0.Lo, vI a0.Hi]]) (vI 0) 24 [] (fun u8 w _ => interval_side.calls a0  0 w  ht9)) <|
   .v 25 (vP ((u1 1).n 0) 0) <|
   .cons [26] (ok_ld (fun u8 => vI a1.Lo) 26 60 0 1 (fun u8 => ((u1 1).n 0)) (fun u8 => [vI a1.Lo, vI a1.Hi]) 28) <|
   .v 27 (.bool (decide (a1.Lo > 0))) <|
   .cons [28] (ok_callv 63 (fun u8 => #[.bool (decide (a1.Lo > 0)), vI 1, vI 0]) (vI 1) 28 [] (fun u8 w _ => interval_pick_int.calls (decide (a1.Lo > 0)) 1 0  1 w  ht10)) <|
   .v 29 (vP 2 0) <|
   .v 30 (vP 2 2) <|
   .cons [31] (ok_ldK (fun u8 => .agg #[.func (.func 88) #[] #[], .func (.func 87) #[] #[]]) 31 999999 gk 2 2 2 gTab2 (fun w h => (glob_of h).tab2)) <|
   .cons [5, 62] (ok_new (fun b => vP b 0) (fun u8 => [.nilFunc, .nilFunc]) 97 5 62) <|
   .cons [62] (ok_as (u' := fun u8 => [(62, .blk ((u8 9).n 0) [.func (.func 88) #[] #[], .func (.func 87) #[] #[]] 97)]) (ok_store 62 0 (fun u8 => ((u8 9).n 0)) (fun u8 => [.nilFunc, .nilFunc]) (fun u8 => [.func (.func 88) #[] #[], .func (.func 87) #[] #[]]) 97) (fun _ => by kernel_rfl)) <| .nil) fun u8 a w' H => ?_
    replace H := H.kp [2, 3, 4, 5, 59, 60, 61, 62, 999999]
    refine k_seq ?_
    replace G := bnd G; obtain ⟨t12, ht12, G⟩ := G
    replace G := bnd G; obtain ⟨t13, ht13, G⟩ := G
    refine k_rg mixed H (.v 33 (vP ((u8 9).n 0) 0) <|
   .cons [34] (ok_ld (fun u11 => .func (.func 88) #[] #[]) 34 62 0 1 (fun u11 => ((u8 9).n 0)) (fun u11 => [.func (.func 88) #[] #[], .func (.func 87) #[] #[]]) 97) <|
   .cons [35] (ok_ld (fun u11 => .agg #[vI a0.Lo, vI a0.Hi]) 35 59 0 2 (fun u11 => ((u1 0).n 0)) (fun u11 => [vI a0.Lo, vI a0.Hi]) 28) <|
   .cons [36] (ok_ld (fun u11 => .agg #[vI a1.Lo, vI a1.Hi]) 36 60 0 2 (fun u11 => ((u1 1).n 0)) (fun u11 => [vI a1.Lo, vI a1.Hi]) 28) <|
   .cons [37] (ok_callv 88 (fun u11 => #[.agg #[vI a0.Lo, vI a0.Hi], .agg #[vI a1.Lo, vI a1.Hi]]) (.tuple #[vI t12.1, vI t12.2]) 37 [] (fun u11 w _ => interval_ll.calls a0 a1  t12 w  ht12)) <|
   .v 38 (vI t12.1) <|
   .v 39 (vI t12.2) <|
   .cons [40] (ok_callv 64 (fun u11 => #[vI t12.1, vI t12.2]) (.tuple #[vI t13.1, vI t13.2.1, vI t13.2.2]) 40 [] (fun u11 w _ => fixed_Div.calls t12.1 t12.2  t13 w  ht13)) <|
   .v 32 (.tuple #[vI t13.1, vI t13.2.1, vI t13.2.2]) <|
   .v 41 (vI t13.1) <|
   .v 42 (vI t13.2.1) <|
   .v 43 (vI t13.2.2) <|
   .v 6 (vI t13.1) <|
   .v 7 (vI t13.2.1) <|
   .v 8 (vI t13.2.2) <| .nil) fun u11 a w' H => ?_
    replace H := H.toM [(2, (sP ((u1 0).n 0) 0)), (3, (sP ((u1 1).n 0) 0)), (4, (sP ((u1 2).n 0) 0)), (5, (sP ((u8 9).n 0) 0)), (6, sI t13.1), (59, .blk ((u1 0).n 0) [vI a0.Lo, vI a0.Hi] 28), (60, .blk ((u1 1).n 0) [vI a1.Lo, vI a1.Hi] 28), (61, .blk ((u1 2).n 0) [vI 0, vI 0] 28), (62, .blk ((u8 9).n 0) [.func (.func 88) #[] #[], .func (.func 87) #[] #[]] 97), (999999, gk)]
    refine k_seq ?_
    replace G := bnd G; obtain ⟨t15, ht15, G⟩ := G
    replace G := bnd G; obtain ⟨t16, ht16, G⟩ := G
    refine k_rg mixed H (.v 45 (vP ((u8 9).n 0) 1) <|
   .cons [46] (ok_ld (fun u14 => .func (.func 87) #[] #[]) 46 62 1 1 (fun u14 => ((u8 9).n 0)) (fun u14 => [.func (.func 88) #[] #[], .func (.func 87) #[] #[]]) 97) <|
   .cons [47] (ok_ld (fun u14 => .agg #[vI a0.Lo, vI a0.Hi]) 47 59 0 2 (fun u14 => ((u1 0).n 0)) (fun u14 => [vI a0.Lo, vI a0.Hi]) 28) <|
   .cons [48] (ok_ld (fun u14 => .agg #[vI a1.Lo, vI a1.Hi]) 48 60 0 2 (fun u14 => ((u1 1).n 0)) (fun u14 => [vI a1.Lo, vI a1.Hi]) 28) <|
   .cons [49] (ok_callv 87 (fun u14 => #[.agg #[vI a0.Lo, vI a0.Hi], .agg #[vI a1.Lo, vI a1.Hi]]) (.tuple #[vI t15.1, vI t15.2]) 49 [] (fun u14 w _ => interval_hh.calls a0 a1  t15 w  ht15)) <|
   .v 50 (vI t15.1) <|
   .v 51 (vI t15.2) <|
   .cons [52] (ok_callv 64 (fun u14 => #[vI t15.1, vI t15.2]) (.tuple #[vI t16.1, vI t16.2.1, vI t16.2.2]) 52 [] (fun u14 w _ => fixed_Div.calls t15.1 t15.2  t16 w  ht16)) <|
   .v 44 (.tuple #[vI t16.1, vI t16.2.1, vI t16.2.2]) <|
   .v 53 (vI t16.1) <|
   .v 54 (vI t16.2.1) <|
   .v 55 (vI t16.2.2) <|
   .v 9 (vI t16.1) <|
   .v 10 (vI t16.2.1) <|
   .v 11 (vI t16.2.2) <| .nil) fun u14 a w' H => ?_
    replace H := H.kp [4, 6, 10, 61, 999999]
    refine k_seq ?_
    replace G := bnd G; obtain ⟨t18, ht18, G⟩ := G
    refine k_rg mixed H (.v 56 (vI t13.1) <|
   .v 57 (vI t16.2.1) <|
   .cons [58] (ok_callv 59 (fun u17 => #[vI t13.1, vI t16.2.1]) (.agg #[vI t18.Lo, vI t18.Hi]) 58 [] (fun u17 w _ => interval_New.calls t13.1 t16.2.1  t18 w  ht18)) <|
   .cons [61] (ok_as (u' := fun u17 => [(61, .blk ((u1 2).n 0) [vI t18.Lo, vI t18.Hi] 28)]) (ok_store 61 0 (fun u17 => ((u1 2).n 0)) (fun u17 => [vI 0, vI 0]) (fun u17 => [vI t18.Lo, vI t18.Hi]) 28) (fun _ => by kernel_rfl)) <| .nil) fun u17 a w' H => ?_
    replace H := H.kp [4, 61, 999999]
    refine k_ret ?_
    obtain rfl := Option.some.inj G
    exact k_done1 H _ 61 ((u1 2).n 0) [vI t18.Lo, vI t18.Hi] 28 0 2 (by kernel_rfl) (by kernel_rfl) (by kernel_rfl) (by kernel_rfl)
   rw [if_neg c20] at G
   cases G
  rw [if_neg c21] at G
  by_cases c22 : t9 = 1
  ·rw [if_pos c22] at G; subst c22
   replace G := bnd G; obtain ⟨t10, ht10, G⟩ := G
   by_cases c19 : t10 = 0
   ·rw [if_pos c19] at G; subst c19
    refine k_rg mixed H (.cons [23] (ok_ld (fun u8 => .agg #[vI a0.Lo, vI a0.Hi]) 23 59 0 2 (fun u8 => ((u1 0).n 0)) (fun u8 => [vI a0.Lo, vI a0.Hi]) 28) <|
   .cons [24] (ok_callv 61 (fun u8 => #[.agg #[vI a0.Lo, vI a0.Hi]]) (vI 1) 24 [] (fun u8 w _ => interval_side.calls a0  1 w  ht9)) <|
   .v 25 (vP ((u1 1).n 0) 0) <|
   .cons [26] (ok_ld (fun u8 => vI a1.Lo) 26 60 0 1 (fun u8 => ((u1 1).n 0)) (fun u8 => [vI a1.Lo, vI a1.Hi]) 28) <|
   .v 27 (.bool (decide (a1.Lo > 0))) <|
   .cons [28] (ok_callv 63 (fun u8 => #[.bool (decide (a1.Lo > 0)), vI 1, vI 0]) (vI 0) 28 [] (fun u8 w _ => interval_pick_int.calls (decide (a1.Lo > 0)) 1 0  0 w  ht10)) <|
   .v 29 (vP 2 4) <|
   .v 30 (vP 2 4) <|
   .cons [31] (ok_ldK (fun u8 => .agg #[.func (.func 87) #[] #[], .func (.func 89) #[] #[]]) 31 999999 gk 2 4 2 gTab2 (fun w h => (glob_of h).tab2)) <|
   .cons [5, 62] (ok_new (fun b => vP b 0) (fun u8 => [.nilFunc, .nilFunc]) 97 5 62) <|
   .cons [62] (ok_as (u' := fun u8 => [(62, .blk ((u8 9).n 0) [.func (.func 87) #[] #[], .func (.func 89) #[] #[]] 97)]) (ok_store 62 0 (fun u8 => ((u8 9).n 0)) (fun u8 => [.nilFunc, .nilFunc]) (fun u8 => [.func (.func 87) #[] #[], .func (.func 89) #[] #[]]) 97) (fun _ => by kernel_rfl)) <| .nil) fun u8 a w' H => ?_
    replace H := H.kp [2, 3, 4, 5, 59, 60, 61, 62, 999999]
    refine k_seq ?_
    replace G := bnd G; obtain ⟨t12, ht12, G⟩ := G
    replace G := bnd G; obtain ⟨t13, ht13, G⟩ := G
    refine k_rg mixed H (.v 33 (vP ((u8 9).n 0) 0) <|
   .cons [34] (ok_ld (fun u11 => .func (.func 87) #[] #[]) 34 62 0 1 (fun u11 => ((u8 9).n 0)) (fun u11 => [.func (.func 87) #[] #[], .func (.func 89) #[] #[]]) 97) <|
   .cons [35] (ok_ld (fun u11 => .agg #[vI a0.Lo, vI a0.Hi]) 35 59 0 2 (fun u11 => ((u1 0).n 0)) (fun u11 => [vI a0.Lo, vI a0.Hi]) 28) <|
   .cons [36] (ok_ld (fun u11 => .agg #[vI a1.Lo, vI a1.Hi]) 36 60 0 2 (fun u11 => ((u1 1).n 0)) (fun u11 => [vI a1.Lo, vI a1.Hi]) 28) <|
   .cons [37] (ok_callv 87 (fun u11 => #[.agg #[vI a0.Lo, vI a0.Hi], .agg #[vI a1.Lo, vI a1.Hi]]) (.tuple #[vI t12.1, vI t12.2]) 37 [] (fun u11 w _ => interval_hh.calls a0 a1  t12 w  ht12)) <|
   .v 38 (vI t12.1) <|
   .v 39 (vI t12.2) <|
   .cons [40] (ok_callv 64 (fun u11 => #[vI t12.1, vI t12.2]) (.tuple #[vI t13.1, vI t13.2.1, vI t13.2.2]) 40 [] (fun u11 w _ => fixed_Div.calls t12.1 t12.2  t13 w  ht13)) <|
   .v 32 (.tuple #[vI t13.1, vI t13.2.1, vI t13.2.2]) <|
   .v 41 (vI t13.1) <|
   .v 42 (vI t13.2.1) <|
   .v 43 (vI t13.2.2) <|
   .v 6 (vI t13.1) <|
   .v 7 (vI t13.2.1) <|
   .v 8 (vI t13.2.2) <| .nil) fun u11 a w' H => ?_
    replace H := H.kp [2, 3, 4, 5, 6, 59, 60, 61, 62, 999999]
    refine k_seq ?_
    replace G := bnd G; obtain ⟨t15, ht15, G⟩ := G
    replace G := bnd G; obtain ⟨t16, ht16, G⟩ := G
    refine k_rg mixed H (.v 45 (vP ((u8 9).n 0) 1) <|
   .cons [46] (ok_ld (fun u14 => .func (.func 89) #[] #[]) 46 62 1 1 (fun u14 => ((u8 9).n 0)) (fun u14 => [.func (.func 87) #[] #[], .func (.func 89) #[] #[]]) 97) <|
   .cons [47] (ok_ld (fun u14 => .agg #[vI a0.Lo, vI a0.Hi]) 47 59 0 2 (fun u14 => ((u1 0).n 0)) (fun u14 => [vI a0.Lo, vI a0.Hi]) 28) <|
   .cons [48] (ok_ld (fun u14 => .agg #[vI a1.Lo, vI a1.Hi]) 48 60 0 2 (fun u14 => ((u1 1).n 0)) (fun u14 => [vI a1.Lo, vI a1.Hi]) 28) <|
   .cons [49] (ok_callv 89 (fun u14 => #[.agg #[vI a0.Lo, vI a0.Hi], .agg #[vI a1.Lo, vI a1.Hi]]) (.tuple #[vI t15.1, vI t15.2]) 49 [] (fun u14 w _ => interval_lh.calls a0 a1  t15 w  ht15)) <|
   .v 50 (vI t15.1) <|
   .v 51 (vI t15.2) <|
   .cons [52] (ok_callv 64 (fun u14 => #[vI t15.1, vI t15.2]) (.tuple #[vI t16.1, vI t16.2.1, vI t16.2.2]) 52 [] (fun u14 w _ => fixed_Div.calls t15.1 t15.2  t16 w  ht16)) <|
   .v 44 (.tuple #[vI t16.1, vI t16.2.1, vI t16.2.2]) <|
   .v 53 (vI t16.1) <|
   .v 54 (vI t16.2.1) <|
   .v 55 (vI t16.2.2) <|
   .v 9 (vI t16.1) <|
   .v 10 (vI t16.2.1) <|
   .v 11 (vI t16.2.2) <| .nil) fun u14 a w' H => ?_
    replace H := H.kp [4, 6, 10, 61, 999999]
    refine k_seq ?_
    replace G := bnd G; obtain ⟨t18, ht18, G⟩ := G
    refine k_rg mixed H (.v 56 (vI t13.1) <|
   .v 57 (vI t16.2.1) <|
   .cons [58] (ok_callv 59 (fun u17 => #[vI t13.1, vI t16.2.1]) (.agg #[vI t18.Lo, vI t18.Hi]) 58 [] (fun u17 w _ => interval_New.calls t13.1 t16.2.1  t18 w  ht18)) <|
   .cons [61] (ok_as (u' := fun u17 => [(61, .blk ((u1 2).n 0) [vI t18.Lo, vI t18.Hi] 28)]) (ok_store 61 0 (fun u17 => ((u1 2).n 0)) (fun u17 => [vI 0, vI 0]) (fun u17 => [vI t18.Lo, vI t18.Hi]) 28) (fun _ => by kernel_rfl)) <| .nil) fun u17 a w' H => ?_
    replace H := H.kp [4, 61, 999999]
    refine k_ret ?_
    obtain rfl := Option.some.inj G
    exact k_done1 H _ 61 ((u1 2).n 0) [vI t18.Lo, vI t18.Hi] 28 0 2 (by kernel_rfl) (by kernel_rfl) (by kernel_rfl) (by kernel_rfl)
   rw [if_neg c19] at G
   by_cases c20 : t10 = 1
   ·rw [if_pos c20] at G; subst c20
    refine k_rg mixed H (.cons [23] (ok_ld (fun u8 => .agg #[vI a0.Lo, vI a0.Hi]) 23 59 0 2 (fun u8 => ((u1 0).n 0)) (fun u8 => [vI a0.Lo, vI a0.Hi]) 28) <|
   .cons [24] (ok_callv 61 (fun u8 => #[.agg #[vI a0.Lo, vI a0.Hi]]) (vI 1) 24 [] (fun u8 w _ => interval_side.calls a0  1 w  ht9)) <|
   .v 25 (vP ((u1 1).n 0) 0) <|
   .cons [26] (ok_ld (fun u8 => vI a1.Lo) 26 60 0 1 (fun u8 => ((u1 1).n 0)) (fun u8 => [vI a1.Lo, vI a1.Hi]) 28) <|
   .v 27 (.bool (decide (a1.Lo > 0))) <|
   .cons [28] (ok_callv 63 (fun u8 => #[.bool (decide (a1.Lo > 0)), vI 1, vI 0]) (vI 1) 28 [] (fun u8 w _ => interval_pick_int.calls (decide (a1.Lo > 0)) 1 0  1 w  ht10)) <|
   .v 29 (vP 2 4) <|
   .v 30 (vP 2 6) <|
   .cons [31] (ok_ldK (fun u8 => .agg #[.func (.func 88) #[] #[], .func (.func 90) #[] #[]]) 31 999999 gk 2 6 2 gTab2 (fun w h => (glob_of h).tab2)) <|
   .cons [5, 62] (ok_new (fun b => vP b 0) (fun u8 => [.nilFunc, .nilFunc]) 97 5 62) <|
   .cons [62] (ok_as (u' := fun u8 => [(62, .blk ((u8 9).n 0) [.func (.func 88) #[] #[], .func (.func 90) #[] #[]] 97)]) (ok_store 62 0 (fun u8 => ((u8 9).n 0)) (fun u8 => [.nilFunc, .nilFunc]) (fun u8 => [.func (.func 88) #[] #[], .func (.func 90) #[] #[]]) 97) (fun _ => by kernel_rfl)) <| .nil) fun u8 a w' H => ?_
    replace H := H.kp [2, 3, 4, 5, 59, 60, 61, 62, 999999]
    refine k_seq ?_
    replace G := bnd G; obtain ⟨t12, ht12, G⟩ := G
    replace G := bnd G; obtain ⟨t13, ht13, G⟩ := G
    refine k_rg mixed H (.v 33 (vP ((u8 9).n 0) 0) <|
   .cons [34] (ok_ld (fun u11 => .func (.func 88) #[] #[]) 34 62 0 1 (fun u11 => ((u8 9).n 0)) (fun u11 => [.func (.func 88) #[] #[], .func (.func 90) #[] #[]]) 97) <|
   .cons [35] (ok_ld (fun u11 => .agg #[vI a0.Lo, vI a0.Hi]) 35 59 0 2 (fun u11 => ((u1 0).n 0)) (fun u11 => [vI a0.Lo, vI a0.Hi]) 28) <|
   .cons [36] (ok_ld (fun u11 => .agg #[vI a1.Lo, vI a1.Hi]) 36 60 0 2 (fun u11 => ((u1 1).n 0)) (fun u11 => [vI a1.Lo, vI a1.Hi]) 28) <|
   .cons [37] (ok_callv 88 (fun u11 => #[.agg #[vI a0.Lo, vI a0.Hi], .agg #[vI a1.Lo, vI a1.Hi]]) (.tuple #[vI t12.1, vI t12.2]) 37 [] (fun u11 w _ => interval_ll.calls a0 a1  t12 w  ht12)) <|
   .v 38 (vI t12.1) <|
   .v 39 (vI t12.2) <|
   .cons [40] (ok_callv 64 (fun u11 => #[vI t12.1, vI t12.2]) (.tuple #[vI t13.1, vI t13.2.1, vI t13.2.2]) 40 [] (fun u11 w _ => fixed_Div.calls t12.1 t12.2  t13 w  ht13)) <|
   .v 32 (.tuple #[vI t13.1, vI t13.2.1, vI t13.2.2]) <|
   .v 41 (vI t13.1) <|
   .v 42 (vI t13.2.1) <|
   .v 43 (vI t13.2.2) <|
   .v 6 (vI t13.1) <|
   .v 7 (vI t13.2.1) <|
   .v 8 (vI t13.2.2) <| .nil) fun u11 a w' H => ?_
    replace H := H.kp [2, 3, 4, 5, 6, 59, 60, 61, 62, 999999]
    refine k_seq ?_
    replace G := bnd G; obtain ⟨t15, ht15, G⟩ := G
    replace G := bnd G; obtain ⟨t16, ht16, G⟩ := G
    refine k_rg mixed H (.v 45 (vP ((u8 9).n 0) 1) <|
   .cons [46] (ok_ld (fun u14 => .func (.func 90) #[] #[]) 46 62 1 1 (fun u14 => ((u8 9).n 0)) (fun u14 => [.func (.func 88) #[] #[], .func (.func 90) #[] #[]]) 97) <|
   .cons [47] (ok_ld (fun u14 => .agg #[vI a0.Lo, vI a0.Hi]) 47 59 0 2 (fun u14 => ((u1 0).n 0)) (fun u14 => [vI a0.Lo, vI a0.Hi]) 28) <|
   .cons [48] (ok_ld (fun u14 => .agg #[vI a1.Lo, vI a1.Hi]) 48 60 0 2 (fun u14 => ((u1 1).n 0)) (fun u14 => [vI a1.Lo, vI a1.Hi]) 28) <|
   .cons [49] (ok_callv 90 (fun u14 => #[.agg #[vI a0.Lo, vI a0.Hi], .agg #[vI a1.Lo, vI a1.Hi]]) (.tuple #[vI t15.1, vI t15.2]) 49 [] (fun u14 w _ => interval_hl.calls a0 a1  t15 w  ht15)) <|
   .v 50 (vI t15.1) <|
   .v 51 (vI t15.2) <|
   .cons [52] (ok_callv 64 (fun u14 => #[vI t15.1, vI t15.2]) (.tuple #[vI t16.1, vI t16.2.1, vI t16.2.2]) 52 [] (fun u14 w _ => fixed_Div.calls t15.1 t15.2  t16 w  ht16)) <|
   .v 44 (.tuple #[vI t16.1, vI t16.2.1, vI t16.2.2]) <|
   .v 53 (vI t16.1) <|
   .v 54 (vI t16.2.1) <|
   .v 55 (vI t16.2.2) <|
   .v 9 (vI t16.1) <|
   .v 10 (vI t16.2.1) <|
   .v 11 (vI t16.2.2) <| .nil) fun u14 a w' H => ?_
    replace H := H.toM [(4, (sP ((u1 2).n 0) 0)), (6, sI t13.1), (10, sI t16.2.1), (61, .blk ((u1 2).n 0) [vI 0, vI 0] 28), (999999, gk)]
    refine k_seq ?_
    replace G := bnd G; obtain ⟨t18, ht18, G⟩ := G
    refine k_rg mixed H (.v 56 (vI t13.1) <|
   .v 57 (vI t16.2.1) <|
   .cons [58] (ok_callv 59 (fun u17 => #[vI t13.1, vI t16.2.1]) (.agg #[vI t18.Lo, vI t18.Hi]) 58 [] (fun u17 w _ => interval_New.calls t13.1 t16.2.1  t18 w  ht18)) <|
   .cons [61] (ok_as (u' := fun u17 => [(61, .blk ((u1 2).n 0) [vI t18.Lo, vI t18.Hi] 28)]) (ok_store 61 0 (fun u17 => ((u1 2).n 0)) (fun u17 => [vI 0, vI 0]) (fun u17 => [vI t18.Lo, vI t18.Hi]) 28) (fun _ => by kernel_rfl)) <| .nil) fun u17 a w' H => ?_
    replace H := H.kp [4, 61, 999999]
    refine k_ret ?_
    obtain rfl := Option.some.inj G
    exact k_done1 H _ 61 ((u1 2).n 0) [vI t18.Lo, vI t18.Hi] 28 0 2 (by kernel_rfl) (by kernel_rfl) (by kernel_rfl) (by kernel_rfl)
   rw [if_neg c20] at G
   cases G
  rw [if_neg c22] at G
  by_cases c23 : t9 = 2
  ·rw [if_pos c23] at G; subst c23
   replace G := bnd G; obtain ⟨t10, ht10, G⟩ := G
   by_cases c19 : t10 = 0
   ·rw [if_pos c19] at G; subst c19
    refine k_rg mixed H (.cons [23] (ok_ld (fun u8 => .agg #[vI a0.Lo, vI a0.Hi]) 23 59 0 2 (fun u8 => ((u1 0).n 0)) (fun u8 => [vI a0.Lo, vI a0.Hi]) 28) <|
   .cons [24] (ok_callv 61 (fun u8 => #[.agg #[vI a0.Lo, vI a0.Hi]]) (vI 2) 24 [] (fun u8 w _ => interval_side.calls a0  2 w  ht9)) <|
   .v 25 (vP ((u1 1).n 0) 0) <|
   .cons [26] (ok_ld (fun u8 => vI a1.Lo) 26 60 0 1 (fun u8 => ((u1 1).n 0)) (fun u8 => [vI a1.Lo, vI a1.Hi]) 28) <|
   .v 27 (.bool (decide (a1.Lo > 0))) <|
   .cons [28] (ok_callv 63 (fun u8 => #[.bool (decide (a1.Lo > 0)), vI 1, vI 0]) (vI 0) 28 [] (fun u8 w _ => interval_pick_int.calls (decide (a1.Lo > 0)) 1 0  0 w  ht10)) <|
   .v 29 (vP 2 8) <|
   .v 30 (vP 2 8) <|
   .cons [31] (ok_ldK (fun u8 => .agg #[.func (.func 87) #[] #[], .func (.func 88) #[] #[]]) 31 999999 gk 2 8 2 gTab2 (fun w h => (glob_of h).tab2)) <|
   .cons [5, 62] (ok_new (fun b => vP b 0) (fun u8 => [.nilFunc, .nilFunc]) 97 5 62) <|
   .cons [62] (ok_as (u' := fun u8 => [(62, .blk ((u8 9).n 0) [.func (.func 87) #[] #[], .func (.func 88) #[] #[]] 97)]) (ok_store 62 0 (fun u8 => ((u8 9).n 0)) (fun u8 => [.nilFunc, .nilFunc]) (fun u8 => [.func (.func 87) #[] #[], .func (.func 88) #[] #[]]) 97) (fun _ => by kernel_rfl)) <| .nil) fun u8 a w' H => ?_
    replace H := H.kp [2, 3, 4, 5, 59, 60, 61, 62, 999999]
    refine k_seq ?_
    replace G := bnd G; obtain ⟨t12, ht12, G⟩ := G
    replace G := bnd G; obtain ⟨t13, ht13, G⟩ := G
    refine k_rg mixed H (.v 33 (vP ((u8 9).n 0) 0) <|
   .cons [34] (ok_ld (fun u11 => .func (.func 87) #[] #[]) 34 62 0 1 (fun u11 => ((u8 9).n 0)) (fun u11 => [.func (.func 87) #[] #[], .func (.func 88) #[] #[]]) 97) <|
   .cons [35] (ok_ld (fun u11 => .agg #[vI a0.Lo, vI a0.Hi]) 35 59 0 2 (fun u11 => ((u1 0).n 0)) (fun u11 => [vI a0.Lo, vI a0.Hi]) 28) <|
   .cons [36] (ok_ld (fun u11 => .agg #[vI a1.Lo, vI a1.Hi]) 36 60 0 2 (fun u11 => ((u1 1).n 0)) (fun u11 => [vI a1.Lo, vI a1.Hi]) 28) <|
   .cons [37] (ok_callv 87 (fun u11 => #[.agg #[vI a0.Lo, vI a0.Hi], .agg #[vI a1.Lo, vI a1.Hi]]) (.tuple #[vI t12.1, vI t12.2]) 37 [] (fun u11 w _ => interval_hh.calls a0 a1  t12 w  ht12)) <|
   .v 38 (vI t12.1) <|
   .v 39 (vI t12.2) <|
   .cons [40] (ok_callv 64 (fun u11 => #[vI t12.1, vI t12.2]) (.tuple #[vI t13.1, vI t13.2.1, vI t13.2.2]) 40 [] (fun u11 w _ => fixed_Div.calls t12.1 t12.2  t13 w  ht13)) <|
   .v 32 (.tuple #[vI t13.1, vI t13.2.1, vI t13.2.2]) <|
   .v 41 (vI t13.1) <|
   .v 42 (vI t13.2.1) <|
   .v 43 (vI t13.2.2) <|
   .v 6 (vI t13.1) <|
   .v 7 (vI t13.2.1) <|
   .v 8 (vI t13.2.2) <| .nil) fun u11 a w' H => ?_
    replace H := H.kp [2, 3, 4, 5, 6, 59, 60, 61, 62, 999999]
    refine k_seq ?_
    replace G := bnd G; obtain ⟨t15, ht15, G⟩ := G
    replace G := bnd G; obtain ⟨t16, ht16, G⟩ := G
    refine k_rg mixed H (.v 45 (vP ((u8 9).n 0) 1) <|
   .cons [46] (ok_ld (fun u14 => .func (.func 88) #[] #[]) 46 62 1 1 (fun u14 => ((u8 9).n 0)) (fun u14 => [.func (.func 87) #[] #[], .func (.func 88) #[] #[]]) 97) <|
   .cons [47] (ok_ld (fun u14 => .agg #[vI a0.Lo, vI a0.Hi]) 47 59 0 2 (fun u14 => ((u1 0).n 0)) (fun u14 => [vI a0.Lo, vI a0.Hi]) 28) <|
   .cons [48] (ok_ld (fun u14 => .agg #[vI a1.Lo, vI a1.Hi]) 48 60 0 2 (fun u14 => ((u1 1).n 0)) (fun u14 => [vI a1.Lo, vI a1.Hi]) 28) <|
   .cons [49] (ok_callv 88 (fun u14 => #[.agg #[vI a0.Lo, vI a0.Hi], .agg #[vI a1.Lo, vI a1.Hi]]) (.tuple #[vI t15.1, vI t15.2]) 49 [] (fun u14 w _ => interval_ll.calls a0 a1  t15 w  ht15)) <|
   .v 50 (vI t15.1) <|
   .v 51 (vI t15.2) <|
   .cons [52] (ok_callv 64 (fun u14 => #[vI t15.1, vI t15.2]) (.tuple #[vI t16.1, vI t16.2.1, vI t16.2.2]) 52 [] (fun u14 w _ => fixed_Div.calls t15.1 t15.2  t16 w  ht16)) <|
   .v 44 (.tuple #[vI t16.1, vI t16.2.1, vI t16.2.2]) <|
   .v 53 (vI t16.1) <|
   .v 54 (vI t16.2.1) <|
   .v 55 (vI t16.2.2) <|
   .v 9 (vI t16.1) <|
   .v 10 (vI t16.2.1) <|
   .v 11 (vI t16.2.2) <| .nil) fun u14 a w' H => ?_
    replace H := H.kp [4, 6, 10, 61, 999999]
    refine k_seq ?_
    replace G := bnd G; obtain ⟨t18, ht18, G⟩ := G
    refine k_rg mixed H (.v 56 (vI t13.1) <|
   .v 57 (vI t16.2.1) <|
   .cons [58] (ok_callv 59 (fun u17 => #[vI t13.1, vI t16.2.1]) (.agg #[vI t18.Lo, vI t18.Hi]) 58 [] (fun u17 w _ => interval_New.calls t13.1 t16.2.1  t18 w  ht18)) <|
   .cons [61] (ok_as (u' := fun u17 => [(61, .blk ((u1 2).n 0) [vI t18.Lo, vI t18.Hi] 28)]) (ok_store 61 0 (fun u17 => ((u1 2).n 0)) (fun u17 => [vI 0, vI 0]) (fun u17 => [vI t18.Lo, vI t18.Hi]) 28) (fun _ => by kernel_rfl)) <| .nil) fun u17 a w' H => ?_
    replace H := H.kp [4, 61, 999999]
    refine k_ret ?_
    obtain rfl := Option.some.inj G
    exact k_done1 H _ 61 ((u1 2).n 0) [vI t18.Lo, vI t18.Hi] 28 0 2 (by kernel_rfl) (by kernel_rfl) (by kernel_rfl) (by kernel_rfl)
   rw [if_neg c19] at G
   by_cases c20 : t10 = 1
   ·rw [if_pos c20] at G; subst c20
    refine k_rg mixed H (.cons [23] (ok_ld (fun u8 => .agg #[vI a0.Lo, vI a0.Hi]) 23 59 0 2 (fun u8 => ((u1 0).n 0)) (fun u8 => [vI a0.Lo, vI a0.Hi]) 28) <|
   .cons [24] (ok_callv 61 (fun u8 => #[.agg #[vI a0.Lo, vI a0.Hi]]) (vI 2) 24 [] (fun u8 w _ => interval_side.calls a0  2 w  ht9)) <|
   .v 25 (vP ((u1 1).n 0) 0) <|
   .cons [26] (ok_ld (fun u8 => vI a1.Lo) 26 60 0 1 (fun u8 => ((u1 1).n 0)) (fun u8 => [vI a1.Lo, vI a1.Hi]) 28) <|
   .v 27 (.bool (decide (a1.Lo > 0))) <|
   .cons [28] (ok_callv 63 (fun u8 => #[.bool (decide (a1.Lo > 0)), vI 1, vI 0]) (vI 1) 28 [] (fun u8 w _ => interval_pick_int.calls (decide (a1.Lo > 0)) 1 0  1 w  ht10)) <|
   .v 29 (vP 2 8) <|
   .v 30 (vP 2 10) <|
   .cons [31] (ok_ldK (fun u8 => .agg #[.func (.func 89) #[] #[], .func (.func 90) #[] #[]]) 31 999999 gk 2 10 2 gTab2 (fun w h => (glob_of h).tab2)) <|
   .cons [5, 62] (ok_new (fun b => vP b 0) (fun u8 => [.nilFunc, .nilFunc]) 97 5 62) <|
   .cons [62] (ok_as (u' := fun u8 => [(62, .blk ((u8 9).n 0) [.func (.func 89) #[] #[], .func (.func 90) #[] #[]] 97)]) (ok_store 62 0 (fun u8 => ((u8 9).n 0)) (fun u8 => [.nilFunc, .nilFunc]) (fun u8 => [.func (.func 89) #[] #[], .func (.func 90) #[] #[]]) 97) (fun _ => by kernel_rfl)) <| .nil) fun u8 a w' H => ?_
    replace H := H.kp [2, 3, 4, 5, 59, 60, 61, 62, 999999]
    refine k_seq ?_
    replace G := bnd G; obtain ⟨t12, ht12, G⟩ := G
    replace G := bnd G; obtain ⟨t13, ht13, G⟩ := G
    refine k_rg mixed H (.v 33 (vP ((u8 9).n 0) 0) <|
   .cons [34] (ok_ld (fun u11 => .func (.func 89) #[] #[]) 34 62 0 1 (fun u11 => ((u8 9).n 0)) (fun u11 => [.func (.func 89) #[] #[], .func (.func 90) #[] #[]]) 97) <|
   .cons [35] (ok_ld (fun u11 => .agg #[vI a0.Lo, vI a0.Hi]) 35 59 0 2 (fun u11 => ((u1 0).n 0)) (fun u11 => [vI a0.Lo, vI a0.Hi]) 28) <|
   .cons [36] (ok_ld (fun u11 => .agg #[vI a1.Lo, vI a1.Hi]) 36 60 0 2 (fun u11 => ((u1 1).n 0)) (fun u11 => [vI a1.Lo, vI a1.Hi]) 28) <|
   .cons [37] (ok_callv 89 (fun u11 => #[.agg #[vI a0.Lo, vI a0.Hi], .agg #[vI a1.Lo, vI a1.Hi]]) (.tuple #[vI t12.1, vI t12.2]) 37 [] (fun u11 w _ => interval_lh.calls a0 a1  t12 w  ht12)) <|
   .v 38 (vI t12.1) <|
   .v 39 (vI t12.2) <|
   .cons [40] (ok_callv 64 (fun u11 => #[vI t12.1, vI t12.2]) (.tuple #[vI t13.1, vI t13.2.1, vI t13.2.2]) 40 [] (fun u11 w _ => fixed_Div.calls t12.1 t12.2  t13 w  ht13)) <|
   .v 32 (.tuple #[vI t13.1, vI t13.2.1, vI t13.2.2]) <|
   .v 41 (vI t13.1) <|
   .v 42 (vI t13.2.1) <|
   .v 43 (vI t13.2.2) <|
   .v 6 (vI t13.1) <|
   .v 7 (vI t13.2.1) <|
   .v 8 (vI t13.2.2) <| .nil) fun u11 a w' H => ?_
    replace H := H.kp [2, 3, 4, 5, 6, 59, 60, 61, 62, 999999]
    refine k_seq ?_
    replace G := bnd G; obtain ⟨t15, ht15, G⟩ := G
    replace G := bnd G; obtain ⟨t16, ht16, G⟩ := G
    refine k_rg mixed H (.v 45 (vP ((u8 9).n 0) 1) <|
   .cons [46] (ok_ld (fun u14 => .func (.func 90) #[] #[]) 46 62 1 1 (fun u14 => ((u8 9).n 0)) (fun u14 => [.func (.func 89) #[] #[], .func (.func 90) #[] #[]]) 97) <|
   .cons [47] (ok_ld (fun u14 => .agg #[vI a0.Lo, vI a0.Hi]) 47 59 0 2 (fun u14 => ((u1 0).n 0)) (fun u14 => [vI a0.Lo, vI a0.Hi]) 28) <|
   .cons [48] (ok_ld (fun u14 => .agg #[vI a1.Lo, vI a1.Hi]) 48 60 0 2 (fun u14 => ((u1 1).n 0)) (fun u14 => [vI a1.Lo, vI a1.Hi]) 28) <|
   .cons [49] (ok_callv 90 (fun u14 => #[.agg #[vI a0.Lo, vI a0.Hi], .agg #[vI a1.Lo, vI a1.Hi]]) (.tuple #[vI t15.1, vI t15.2]) 49 [] (fun u14 w _ => interval_hl.calls a0 a1  t15 w  ht15)) <|
   .v 50 (vI t15.1) <|
   .v 51 (vI t15.2) <|
   .cons [52] (ok_callv 64 (fun u14 => #[vI t15.1, vI t15.2]) (.tuple #[vI t16.1, vI t16.2.1, vI t16.2.2]) 52 [] (fun u14 w _ => fixed_Div.calls t15.1 t15.2  t16 w  ht16)) <|
   .v 44 (.tuple #[vI t16.1, vI t16.2.1, vI t16.2.2]) <|
   .v 53 (vI t16.1) <|
   .v 54 (vI t16.2.1) <|
   .v 55 (vI t16.2.2) <|
   .v 9 (vI t16.1) <|
   .v 10 (vI t16.2.1) <|
   .v 11 (vI t16.2.2) <| .nil) fun u14 a w' H => ?_
    replace H := H.kp [4, 6, 10, 61, 999999]
    refine k_seq ?_
    replace G := bnd G; obtain ⟨t18, ht18, G⟩ := G
    refine k_rg mixed H (.v 56 (vI t13.1) <|
   .v 57 (vI t16.2.1) <|
   .cons [58] (ok_callv 59 (fun u17 => #[vI t13.1, vI t16.2.1]) (.agg #[vI t18.Lo, vI t18.Hi]) 58 [] (fun u17 w _ => interval_New.calls t13.1 t16.2.1  t18 w  ht18)) <|
   .cons [61] (ok_as (u' := fun u17 => [(61, .blk ((u1 2).n 0) [vI t18.Lo, vI t18.Hi] 28)]) (ok_store 61 0 (fun u17 => ((u1 2).n 0)) (fun u17 => [vI 0, vI 0]) (fun u17 => [vI t18.Lo, vI t18.Hi]) 28) (fun _ => by kernel_rfl)) <| .nil) fun u17 a w' H => ?_
    replace H := H.toM [(4, (sP ((u1 2).n 0) 0)), (61, .blk ((u1 2).n 0) [vI t18.Lo, vI t18.Hi] 28), (999999, gk)]
    refine k_ret ?_
    obtain rfl := Option.some.inj G
    exact k_done1 H _ 61 ((u1 2).n 0) [vI t18.Lo, vI t18.Hi] 28 0 2 (by kernel_rfl) (by kernel_rfl) (by kernel_rfl) (by kernel_rfl)
   rw [if_neg c20] at G
   cases G
  rw [if_neg c23] at G
  cases G
set_option maxHeartbeats 4000000 in
theorem bits_Len64.calls (a0 : Int) (r : Int) (w : World) (G : bits_Len64 a0 = some r) :
  Calls Tryd.prog 66 #[.int .u64 a0] w fun e w' => e = .returned (vI r) ∧ Below w.heap.size w w' := by
 refine k_enter (args := [.int .u64 a0]) 25 Tryd.func66 rfl (by kernel_rfl) (by kernel_rfl) fun a H => ?_
 unfold bits_Len64 at G
 refine k_seq ?_
 refine k_rg mixed H (.v 2 (vI 0) <| .nil) fun u1 a w' H => ?_
 replace H := H.kp [0, 2]
 refine k_seq ?_
 replace G := bnd G; obtain ⟨j4, hj4, G⟩ := G
 refine k_join (fun a w' => Rep w.heap.size w 25 (ofL [(0, .slot true (.int .u64 j4.1)), (2, sI j4.2)]) a w') ?_ ?_
 ·clear H; intro a w' H
  refine k_seq ?_
  replace G := bnd G; obtain ⟨j7, hj7, G⟩ := G
  refine k_join (fun a w' => Rep w.heap.size w 25 (ofL [(0, .slot true (.int .u64 j7.1)), (2, sI j7.2)]) a w') ?_ ?_
  ·clear H; intro a w' H
   refine k_seq ?_
   replace G := bnd G; obtain ⟨j10, hj10, G⟩ := G
   refine k_join (fun a w' => Rep w.heap.size w 25 (ofL [(0, .slot true (.int .u64 j10.1)), (2, sI j10.2)]) a w') ?_ ?_
   ·clear H; intro a w' H
    refine k_seq ?_
    replace G := bnd G; obtain ⟨t12, ht12, G⟩ := G
    refine k_rg mixed H (.v 19 (vI j10.2) <|
   .v 20 (.int .u64 j10.1) <|
   .v 21 (.int .u8 (w_u8 j10.1)) <|
   .cons [22] (ok_val (fun u11 => .int .u8 t12) 22 (hv := fun _ _ => run_of (by kernel_rfl) (run_index_str (t := 9) (s := (⟨#[0, 1, 2, 2, 3, 3, 3, 3, 4, 4, 4, 4, 4, 4, 4, 4, 5, 5, 5, 5, 5, 5, 5, 5, 5, 5, 5, 5, 5, 5, 5, 5, 6, 6, 6, 6, 6, 6, 6, 6, 6, 6, 6, 6, 6, 6, 6, 6, 6, 6, 6, 6, 6, 6, 6, 6, 6, 6, 6, 6, 6, 6, 6, 6, 7, 7, 7, 7, 7, 7, 7, 7, 7, 7, 7, 7, 7, 7, 7, 7, 7, 7, 7, 7, 7, 7, 7, 7, 7, 7, 7, 7, 7, 7, 7, 7, 7, 7, 7, 7, 7, 7, 7, 7, 7, 7, 7, 7, 7, 7, 7, 7, 7, 7, 7, 7, 7, 7, 7, 7, 7, 7, 7, 7, 7, 7, 7, 7, 8, 8, 8, 8, 8, 8, 8, 8, 8, 8, 8, 8, 8, 8, 8, 8, 8, 8, 8, 8, 8, 8, 8, 8, 8, 8, 8, 8, 8, 8, 8, 8, 8, 8, 8, 8, 8, 8, 8, 8, 8, 8, 8, 8, 8, 8, 8, 8, 8, 8, 8, 8, 8, 8, 8, 8, 8, 8, 8, 8, 8, 8, 8, 8, 8, 8, 8, 8, 8, 8, 8, 8, 8, 8, 8, 8, 8, 8, 8, 8, 8, 8, 8, 8, 8, 8, 8, 8, 8, 8, 8, 8, 8, 8, 8, 8, 8, 8, 8, 8, 8, 8, 8, 8, 8, 8, 8, 8, 8, 8, 8, 8, 8, 8, 8, 8, 8, 8, 8, 8, 8, 8, 8, 8, 8, 8, 8, 8]⟩ : ByteArray)) (k := .u8) (i := w_u8 j10.1) (by kernel_rfl) ht12))) <|
   .v 23 (vI (w_i64 t12)) <|
   .v 24 (vI (w_i64 (j10.2 + (w_i64 t12)))) <|
   .v 2 (vI (w_i64 (j10.2 + (w_i64 t12)))) <| .nil) fun u11 a w' H => ?_
    replace H := H.kp [2]
    refine k_ret ?_
    obtain rfl := Option.some.inj G
    exact k_done0 H _ (by kernel_rfl) (by kernel_rfl)
   ·clear G; replace G := hj10; clear hj10
    refine k_seq ?_
    refine k_rg mixed H (.v 13 (.int .u64 j7.1) <|
   .v 14 (.bool (decide (j7.1 ≥ 256))) <| .nil) fun u13 a w' H => ?_
    replace H := H.kp [0, 2, 14]
    refine k_cond H (by kernel_rfl) (t := decide (j7.1 ≥ 256)) (by kernel_rfl) (fun c16 => ?_) (fun c16 => ?_)
    ·rw [if_pos c16] at G
     refine k_seq ?_
     refine k_rg mixed H (.v 15 (.int .u64 j7.1) <|
   .v 16 (.int .u64 (Int.fdiv j7.1 256)) <|
   .v 0 (.int .u64 (Int.fdiv j7.1 256)) <| .nil) fun u14 a w' H => ?_
     replace H := H.kp [0, 2]
     refine k_rg mixed H (.v 17 (vI j7.2) <|
   .v 18 (vI (w_i64 (j7.2 + 8))) <|
   .v 2 (vI (w_i64 (j7.2 + 8))) <| .nil) fun u15 a w' H => ?_
     replace H := H.kp [0, 2]
     obtain rfl := Option.some.inj G
     exact H.toL _ (by kernel_rfl)
    ·rw [if_neg (nt c16)] at G
     refine k_skip ?_
     obtain rfl := Option.some.inj G
     exact H.toL _ (by kernel_rfl)
  ·clear G; replace G := hj7; clear hj7
   refine k_seq ?_
   refine k_rg mixed H (.v 7 (.int .u64 j4.1) <|
   .v 8 (.bool (decide (j4.1 ≥ 65536))) <| .nil) fun u17 a w' H => ?_
   replace H := H.kp [0, 2, 8]
   refine k_cond H (by kernel_rfl) (t := decide (j4.1 ≥ 65536)) (by kernel_rfl) (fun c20 => ?_) (fun c20 => ?_)
   ·rw [if_pos c20] at G
    refine k_seq ?_
    refine k_rg mixed H (.v 9 (.int .u64 j4.1) <|
   .v 10 (.int .u64 (Int.fdiv j4.1 65536)) <|
   .v 0 (.int .u64 (Int.fdiv j4.1 65536)) <| .nil) fun u18 a w' H => ?_
    replace H := H.kp [0, 2]
    refine k_rg mixed H (.v 11 (vI j4.2) <|
   .v 12 (vI (w_i64 (j4.2 + 16))) <|
   .v 2 (vI (w_i64 (j4.2 + 16))) <| .nil) fun u19 a w' H => ?_
    replace H := H.kp [0, 2]
    obtain rfl := Option.some.inj G
    exact H.toL _ (by kernel_rfl)
   ·rw [if_neg (nt c20)] at G
    refine k_skip ?_
    obtain rfl := Option.some.inj G
    exact H.toL _ (by kernel_rfl)
 ·clear G; replace G := hj4; clear hj4
  refine k_seq ?_
  refine k_rg mixed H (.v 3 (.int .u64 a0) <|
   .v 4 (.bool (decide (a0 ≥ 4294967296))) <| .nil) fun u21 a w' H => ?_
  replace H := H.kp [0, 2, 4]
  refine k_cond H (by kernel_rfl) (t := decide (a0 ≥ 4294967296)) (by kernel_rfl) (fun c24 => ?_) (fun c24 => ?_)
  ·rw [if_pos c24] at G
   refine k_seq ?_
   refine k_rg mixed H (.v 5 (.int .u64 a0) <|
   .v 6 (.int .u64 (Int.fdiv a0 4294967296)) <|
   .v 0 (.int .u64 (Int.fdiv a0 4294967296)) <| .nil) fun u22 a w' H => ?_
   replace H := H.toM [(0, .slot true (.int .u64 (Int.fdiv a0 4294967296)))]
   refine k_rg mixed H (.v 2 (vI 32) <| .nil) fun u23 a w' H => ?_
   replace H := H.kp [0, 2]
   obtain rfl := Option.some.inj G
   exact H.toL _ (by kernel_rfl)
  ·rw [if_neg (nt c24)] at G
   refine k_skip ?_
   obtain rfl := Option.some.inj G
   exact H.toL _ (by kernel_rfl)
set_option maxHeartbeats 4000000 in
theorem fixed_Sqrt.calls (k0 : Nat) (a0 : Int) (r : Int × Int × Int) (w : World) (G : fixed_Sqrt k0 a0 = some r) :
  Calls Tryd.prog 60 #[vI a0] w fun e w' => e = .returned (.tuple #[vI r.1, vI r.2.1, vI r.2.2]) ∧ Below w.heap.size w w' := by
 refine k_enter (args := [vI a0]) 40 Tryd.func60 rfl (by kernel_rfl) (by kernel_rfl) fun a H => ?_
 unfold fixed_Sqrt at G
 refine k_seq ?_
 refine k_rg mixed H (.v 2 (vI 0) <|
   .v 3 (vI 0) <|
   .v 4 (vI 0) <| .nil) fun u1 a w' H => ?_
 replace H := H.kp [0]
 refine k_scope ?_
 refine k_seq ?_
 refine k_seq ?_
 refine k_rg mixed H (.v 8 (vI a0) <|
   .v 9 (.bool (decide (a0 < 0))) <| .nil) fun u2 a w' H => ?_
 replace H := H.kp [0, 9]
 refine k_cond H (by kernel_rfl) (t := decide (a0 < 0)) (by kernel_rfl) (fun c25 => ?_) (fun c25 => ?_)
 ·rw [if_pos c25] at G
  refine k_seq ?_
  refine k_rg mixed H (.v 2 (vI 0) <|
   .v 3 (vI 0) <|
   .v 4 (vI 4) <| .nil) fun u3 a w' H => ?_
  replace H := H.kp [2, 3, 4]
  refine k_ret ?_
  obtain rfl := Option.some.inj G
  exact k_done0 H _ (by kernel_rfl) (by kernel_rfl)
 ·rw [if_neg (nt c25)] at G
  refine k_skip ?_
  refine k_seq ?_
  refine k_rg mixed H (.v 10 (vI a0) <|
   .v 11 (vI (w_i64 (a0 * 65536))) <|
   .v 5 (vI (w_i64 (a0 * 65536))) <| .nil) fun u4 a w' H => ?_
  replace H := H.kp [5]
  refine k_seq ?_
  refine k_seq ?_
  refine k_rg mixed H (.v 12 (vI (w_i64 (a0 * 65536))) <|
   .v 13 (.bool ((w_i64 (a0 * 65536)) == 0)) <| .nil) fun u5 a w' H => ?_
  replace H := H.kp [5, 13]
  refine k_cond H (by kernel_rfl) (t := ((w_i64 (a0 * 65536)) == 0)) (by kernel_rfl) (fun c24 => ?_) (fun c24 => ?_)
  ·rw [if_pos c24] at G
   refine k_seq ?_
   refine k_rg mixed H (.v 2 (vI 0) <|
   .v 3 (vI 0) <|
   .v 4 (vI 0) <| .nil) fun u6 a w' H => ?_
   replace H := H.kp [2, 3, 4]
   refine k_ret ?_
   obtain rfl := Option.some.inj G
   exact k_done0 H _ (by kernel_rfl) (by kernel_rfl)
  ·rw [if_neg (nt c24)] at G
   refine k_skip ?_
   refine k_seq ?_
   replace G := bnd G; obtain ⟨t8, ht8, G⟩ := G
   replace G := gd G; obtain ⟨n9, G⟩ := G
   refine k_rg mixed H (.v 14 (vI (w_i64 (a0 * 65536))) <|
   .v 15 (.int .u64 (w_u64 (w_i64 (a0 * 65536)))) <|
   .cons [16] (ok_callv 66 (fun u7 => #[.int .u64 (w_u64 (w_i64 (a0 * 65536)))]) (vI t8) 16 [] (fun u7 w _ => bits_Len64.calls (w_u64 (w_i64 (a0 * 65536)))  t8 w  ht8)) <|
   .v 17 (vI (w_i64 (t8 + 1))) <|
   .v 18 (vI (w_i64 (Int.tdiv (w_i64 (t8 + 1)) 2))) <|
   .cons [19] (ok_val (fun u7 => vI (w_i64 (1 * 2 ^ (min (w_i64 (Int.tdiv (w_i64 (t8 + 1)) 2)).toNat 64)))) 19 (hv := fun _ _ => run_of (by kernel_rfl) (run_shl (k := .i64) (yk := .i64) (x := 1) (y := w_i64 (Int.tdiv (w_i64 (t8 + 1)) 2)) n9))) <|
   .v 6 (vI (w_i64 (1 * 2 ^ (min (w_i64 (Int.tdiv (w_i64 (t8 + 1)) 2)).toNat 64)))) <| .nil) fun u7 a w' H => ?_
   replace H := H.kp [5, 6]
   refine k_seq ?_
   refine k_label ?_
   refine k_seq ?_
   replace G := bnd G; obtain ⟨j11, hj11, G⟩ := G
   refine k_join (fun a w' => Rep w.heap.size w 40 (ofL [(5, (sI (w_i64 (a0 * 65536)))), (6, sI j11)]) a w') ?_ ?_
   ·clear H; intro a w' H
    refine k_seq ?_
    refine k_seq ?_
    refine k_rg mixed H (.v 30 (vI j11) <|
   .v 31 (vI j11) <|
   .v 32 (vI (w_i64 (j11 * j11))) <|
   .v 33 (vI (w_i64 (a0 * 65536))) <|
   .v 34 (.bool (decide ((w_i64 (j11 * j11)) < (w_i64 (a0 * 65536))))) <| .nil) fun u12 a w' H => ?_
    replace H := H.kp [6, 34]
    refine k_cond H (by kernel_rfl) (t := decide ((w_i64 (j11 * j11)) < (w_i64 (a0 * 65536)))) (by kernel_rfl) (fun c15 => ?_) (fun c15 => ?_)
    ·rw [if_pos c15] at G
     refine k_seq ?_
     refine k_rg mixed H (.v 35 (vI j11) <|
   .v 36 (vI j11) <|
   .v 37 (vI (w_i64 (j11 + 1))) <|
   .v 2 (vI j11) <|
   .v 3 (vI (w_i64 (j11 + 1))) <|
   .v 4 (vI 0) <| .nil) fun u13 a w' H => ?_
     replace H := H.kp [2, 3, 4]
     refine k_ret ?_
     obtain rfl := Option.some.inj G
     exact k_done0 H _ (by kernel_rfl) (by kernel_rfl)
    ·rw [if_neg (nt c15)] at G
     refine k_skip ?_
     refine k_seq ?_
     refine k_rg mixed H (.v 38 (vI j11) <|
   .v 39 (vI j11) <|
   .v 2 (vI j11) <|
   .v 3 (vI j11) <|
   .v 4 (vI 0) <| .nil) fun u14 a w' H => ?_
     replace H := H.kp [2, 3, 4]
     refine k_ret ?_
     obtain rfl := Option.some.inj G
     exact k_done0 H _ (by kernel_rfl) (by kernel_rfl)
   ·clear G; replace G := hj11; clear hj11
    refine k_block ?_
    refine k_loopJ (fun m a w' => ∃ x16 : Int, fixed_Sqrt.l17 k0 a0 t8 m x16 = some j11 ∧ Rep w.heap.size w 40 (ofL [(5, (sI (w_i64 (a0 * 65536)))), (6, sI x16)]) a w') k0 ⟨_, G, H.toL _ (by kernel_rfl)⟩ ?_
    clear G H
    rintro (_ | k) a w' ⟨x16, G, H⟩
    ·exact absurd G (by unfold fixed_Sqrt.l17; exact fun h => by cases h)
    ·unfold fixed_Sqrt.l17 at G
     refine k_block ?_
     refine k_seq ?_
     replace G := gd G; obtain ⟨n19, G⟩ := G
     refine k_rg mixed H (.v 20 (vI x16) <|
   .v 21 (vI (w_i64 (a0 * 65536))) <|
   .v 22 (vI x16) <|
   .cons [23] (ok_val (fun u18 => vI (w_i64 (Int.tdiv (w_i64 (a0 * 65536)) x16))) 23 (hv := fun _ _ => run_of (by kernel_rfl) (run_quo (k := .i64) (x := w_i64 (a0 * 65536)) (y := x16) n19))) <|
   .v 24 (vI (w_i64 (x16 + (w_i64 (Int.tdiv (w_i64 (a0 * 65536)) x16))))) <|
   .v 25 (vI (w_i64 (Int.tdiv (w_i64 (x16 + (w_i64 (Int.tdiv (w_i64 (a0 * 65536)) x16)))) 2))) <|
   .v 7 (vI (w_i64 (Int.tdiv (w_i64 (x16 + (w_i64 (Int.tdiv (w_i64 (a0 * 65536)) x16)))) 2))) <| .nil) fun u18 a w' H => ?_
     replace H := H.kp [5, 6, 7]
     refine k_seq ?_
     refine k_seq ?_
     replace G := bnd G; obtain ⟨z21, hz21, G⟩ := G
     replace hz21 := Option.some.inj hz21
     refine k_rg mixed H (.v 26 (vI (w_i64 (Int.tdiv (w_i64 (x16 + (w_i64 (Int.tdiv (w_i64 (a0 * 65536)) x16)))) 2))) <|
   .v 27 (vI x16) <|
   .cons [28] (ok_as (u' := fun u20 => [(28, sB z21)]) (ok_val (fun u20 => .bool (decide ((w_i64 (Int.tdiv (w_i64 (x16 + (w_i64 (Int.tdiv (w_i64 (a0 * 65536)) x16)))) 2)) ≥ x16))) 28) (fun _ => by rw [← hz21])) <| .nil) fun u20 a w' H => ?_
     replace H := H.kp [5, 6, 7, 28]
     refine k_cond H (by kernel_rfl) (t := z21) (by kernel_rfl) (fun c23 => ?_) (fun c23 => ?_)
     ·rw [if_pos c23] at G
      refine k_exit rfl ?_
      obtain rfl := Option.some.inj G
      exact H.toL _ (by kernel_rfl)
     ·rw [if_neg (nt c23)] at G
      refine k_skip ?_
      refine k_rg mixed H (.v 29 (vI (w_i64 (Int.tdiv (w_i64 (x16 + (w_i64 (Int.tdiv (w_i64 (a0 * 65536)) x16)))) 2))) <|
   .v 6 (vI (w_i64 (Int.tdiv (w_i64 (x16 + (w_i64 (Int.tdiv (w_i64 (a0 * 65536)) x16)))) 2))) <| .nil) fun u22 a w' H => ?_
      replace H := H.kp [5, 6]
      exact ⟨k, Nat.lt_succ_self k, _, G, H.toL _ (by kernel_rfl)⟩
set_option maxHeartbeats 4000000 in
theorem interval_Sqrt.calls (k0 : Nat) (a0 : TInterval) (r : TInterval × Bool) (w : World) (G : interval_Sqrt k0 a0 = some r) :
  Calls Tryd.prog 49 #[.agg #[vI a0.Lo, vI a0.Hi]] w fun e w' => e = .returned (.tuple #[.agg #[vI r.1.Lo, vI r.1.Hi], .bool r.2]) ∧ Below w.heap.size w w' := by
 refine k_enter (args := [.agg #[vI a0.Lo, vI a0.Hi]]) 37 Tryd.func49 rfl (by kernel_rfl) (by kernel_rfl) fun a H => ?_
 unfold interval_Sqrt at G
 refine k_seq ?_
 refine k_rg mixed H (.cons [1, 37] (ok_new (fun b => vP b 0) (fun u1 => [vI a0.Lo, vI a0.Hi]) 28 1 37) <|
   .cons [2, 38] (ok_new (fun b => vP b 0) (fun u1 => [vI 0, vI 0]) 28 2 38) <|
   .v 3 (.bool false) <| .nil) fun u1 a w' H => ?_
 replace H := H.kp [1, 2, 37, 38]
 refine k_seq ?_
 refine k_block ?_
 refine k_seq ?_
 replace G := bnd G; obtain ⟨t3, ht3, G⟩ := G
 refine k_rg mixed H (.cons [11] (ok_ld (fun u2 => .agg #[vI a0.Lo, vI a0.Hi]) 11 37 0 2 (fun u2 => ((u1 0).n 0)) (fun u2 => [vI a0.Lo, vI a0.Hi]) 28) <|
   .cons [12] (ok_callv 50 (fun u2 => #[.agg #[vI a0.Lo, vI a0.Hi]]) (.bool t3) 12 [] (fun u2 w _ => interval_IsEntire.calls a0  t3 w  ht3)) <|
   .v 10 (.bool t3) <| .nil) fun u2 a w' H => ?_
 replace H := H.kp [1, 2, 10, 37, 38]
 refine k_cond H (by kernel_rfl) (t := t3) (by kernel_rfl) (fun c14 => ?_) (fun c14 => ?_)
 ·rw [if_pos c14] at G
  refine k_seq ?_
  refine k_rg mixed H (.cons [13] (ok_ld (fun u4 => .agg #[vI a0.Lo, vI a0.Hi]) 13 37 0 2 (fun u4 => ((u1 0).n 0)) (fun u4 => [vI a0.Lo, vI a0.Hi]) 28) <|
   .cons [38] (ok_as (u' := fun u4 => [(38, .blk ((u1 1).n 0) [vI a0.Lo, vI a0.Hi] 28)]) (ok_store 38 0 (fun u4 => ((u1 1).n 0)) (fun u4 => [vI 0, vI 0]) (fun u4 => [vI a0.Lo, vI a0.Hi]) 28) (fun _ => by kernel_rfl)) <|
   .v 3 (.bool true) <| .nil) fun u4 a w' H => ?_
  replace H := H.kp [2, 3, 38]
  refine k_ret ?_
  obtain rfl := Option.some.inj G
  exact k_done1 H _ 38 ((u1 1).n 0) [vI a0.Lo, vI a0.Hi] 28 0 2 (by kernel_rfl) (by kernel_rfl) (by kernel_rfl) (by kernel_rfl)
 ·rw [if_neg (nt c14)] at G
  refine k_seq ?_
  refine k_rg mixed H (.v 15 (vP ((u1 0).n 0) 1) <|
   .cons [16] (ok_ld (fun u5 => vI a0.Hi) 16 37 1 1 (fun u5 => ((u1 0).n 0)) (fun u5 => [vI a0.Lo, vI a0.Hi]) 28) <|
   .v 17 (.bool (decide (a0.Hi < 0))) <|
   .v 14 (.bool (decide (a0.Hi < 0))) <| .nil) fun u5 a w' H => ?_
  replace H := H.kp [1, 2, 14, 37, 38]
  refine k_cond H (by kernel_rfl) (t := decide (a0.Hi < 0)) (by kernel_rfl) (fun c13 => ?_) (fun c13 => ?_)
  ·rw [if_pos c13] at G
   refine k_seq ?_
   refine k_rg mixed H (.v 18 (.agg #[vI 0, vI 0]) <|
   .cons [38] (ok_as (u' := fun u6 => [(38, .blk ((u1 1).n 0) [vI 0, vI 0] 28)]) (ok_store 38 0 (fun u6 => ((u1 1).n 0)) (fun u6 => [vI 0, vI 0]) (fun u6 => [vI 0, vI 0]) 28) (fun _ => by kernel_rfl)) <|
   .v 3 (.bool false) <| .nil) fun u6 a w' H => ?_
   replace H := H.kp [2, 3, 38]
   refine k_ret ?_
   obtain rfl := Option.some.inj G
   exact k_done1 H _ 38 ((u1 1).n 0) [vI 0, vI 0] 28 0 2 (by kernel_rfl) (by kernel_rfl) (by kernel_rfl) (by kernel_rfl)
  ·rw [if_neg (nt c13)] at G
   refine k_skip ?_
   refine k_seq ?_
   replace G := bnd G; obtain ⟨t8, ht8, G⟩ := G
   refine k_rg mixed H (.v 20 (vP ((u1 0).n 0) 0) <|
   .cons [21] (ok_ld (fun u7 => vI a0.Lo) 21 37 0 1 (fun u7 => ((u1 0).n 0)) (fun u7 => [vI a0.Lo, vI a0.Hi]) 28) <|
   .v 22 (vI (mx a0.Lo 0)) <|
   .cons [23] (ok_callv 60 (fun u7 => #[vI (mx a0.Lo 0)]) (.tuple #[vI t8.1, vI t8.2.1, vI t8.2.2]) 23 [] (fun u7 w _ => fixed_Sqrt.calls k0 (mx a0.Lo 0)  t8 w  ht8)) <|
   .v 19 (.tuple #[vI t8.1, vI t8.2.1, vI t8.2.2]) <|
   .v 24 (vI t8.1) <|
   .v 25 (vI t8.2.1) <|
   .v 26 (vI t8.2.2) <|
   .v 4 (vI t8.1) <|
   .v 5 (vI t8.2.1) <|
   .v 6 (vI t8.2.2) <| .nil) fun u7 a w' H => ?_
   replace H := H.kp [1, 2, 4, 37, 38]
   refine k_seq ?_
   replace G := bnd G; obtain ⟨t10, ht10, G⟩ := G
   refine k_rg mixed H (.v 28 (vP ((u1 0).n 0) 1) <|
   .cons [29] (ok_ld (fun u9 => vI a0.Hi) 29 37 1 1 (fun u9 => ((u1 0).n 0)) (fun u9 => [vI a0.Lo, vI a0.Hi]) 28) <|
   .cons [30] (ok_callv 60 (fun u9 => #[vI a0.Hi]) (.tuple #[vI t10.1, vI t10.2.1, vI t10.2.2]) 30 [] (fun u9 w _ => fixed_Sqrt.calls k0 a0.Hi  t10 w  ht10)) <|
   .v 27 (.tuple #[vI t10.1, vI t10.2.1, vI t10.2.2]) <|
   .v 31 (vI t10.1) <|
   .v 32 (vI t10.2.1) <|
   .v 33 (vI t10.2.2) <|
   .v 7 (vI t10.1) <|
   .v 8 (vI t10.2.1) <|
   .v 9 (vI t10.2.2) <| .nil) fun u9 a w' H => ?_
   replace H := H.kp [2, 4, 8, 38]
   refine k_seq ?_
   replace G := bnd G; obtain ⟨t12, ht12, G⟩ := G
   refine k_rg mixed H (.v 34 (vI t8.1) <|
   .v 35 (vI t10.2.1) <|
   .cons [36] (ok_callv 59 (fun u11 => #[vI t8.1, vI t10.2.1]) (.agg #[vI t12.Lo, vI t12.Hi]) 36 [] (fun u11 w _ => interval_New.calls t8.1 t10.2.1  t12 w  ht12)) <|
   .cons [38] (ok_as (u' := fun u11 => [(38, .blk ((u1 1).n 0) [vI t12.Lo, vI t12.Hi] 28)]) (ok_store 38 0 (fun u11 => ((u1 1).n 0)) (fun u11 => [vI 0, vI 0]) (fun u11 => [vI t12.Lo, vI t12.Hi]) 28) (fun _ => by kernel_rfl)) <|
   .v 3 (.bool true) <| .nil) fun u11 a w' H => ?_
   replace H := H.kp [2, 3, 38]
   refine k_ret ?_
   obtain rfl := Option.some.inj G
   exact k_done1 H _ 38 ((u1 1).n 0) [vI t12.Lo, vI t12.Hi] 28 0 2 (by kernel_rfl) (by kernel_rfl) (by kernel_rfl) (by kernel_rfl)
set_option maxHeartbeats 4000000 in
theorem tape_root.calls (k0 : Nat) (a0 : TInterval) (r : TInterval) (w : World) (G : tape_root k0 a0 = some r) :
  Calls Tryd.prog 86 #[.agg #[vI a0.Lo, vI a0.Hi]] w fun e w' => e = .returned (.agg #[vI r.Lo, vI r.Hi]) ∧ Below w.heap.size w w' := by
 refine k_enter (args := [.agg #[vI a0.Lo, vI a0.Hi]]) 15 Tryd.func86 rfl (by kernel_rfl) (by kernel_rfl) fun a H => ?_
 unfold tape_root at G
 refine k_seq ?_
 refine k_rg mixed H (.cons [1, 15] (ok_new (fun b => vP b 0) (fun u1 => [vI a0.Lo, vI a0.Hi]) 28 1 15) <|
   .cons [2, 16] (ok_new (fun b => vP b 0) (fun u1 => [vI 0, vI 0]) 28 2 16) <| .nil) fun u1 a w' H => ?_
 replace H := H.kp [1, 2, 15, 16]
 refine k_seq ?_
 refine k_seq ?_
 refine k_rg mixed H (.v 5 (vP ((u1 0).n 0) 0) <|
   .cons [6] (ok_ld (fun u2 => vI a0.Lo) 6 15 0 1 (fun u2 => ((u1 0).n 0)) (fun u2 => [vI a0.Lo, vI a0.Hi]) 28) <|
   .v 7 (.bool (decide (a0.Lo < 0))) <| .nil) fun u2 a w' H => ?_
 replace H := H.kp [1, 2, 7, 15, 16]
 refine k_cond H (by kernel_rfl) (t := decide (a0.Lo < 0)) (by kernel_rfl) (fun c8 => ?_) (fun c8 => ?_)
 ·rw [if_pos c8] at G
  refine k_seq ?_
  replace G := bnd G; obtain ⟨t4, ht4, G⟩ := G
  refine k_rg mixed H (.cons [8] (ok_callv 48 (fun u3 => #[]) (.agg #[vI t4.Lo, vI t4.Hi]) 8 [] (fun u3 w _ => interval_Entire.calls   t4 w  ht4)) <|
   .cons [16] (ok_as (u' := fun u3 => [(16, .blk ((u1 1).n 0) [vI t4.Lo, vI t4.Hi] 28)]) (ok_store 16 0 (fun u3 => ((u1 1).n 0)) (fun u3 => [vI 0, vI 0]) (fun u3 => [vI t4.Lo, vI t4.Hi]) 28) (fun _ => by kernel_rfl)) <| .nil) fun u3 a w' H => ?_
  replace H := H.kp [2, 16]
  refine k_ret ?_
  obtain rfl := Option.some.inj G
  exact k_done1 H _ 16 ((u1 1).n 0) [vI t4.Lo, vI t4.Hi] 28 0 2 (by kernel_rfl) (by kernel_rfl) (by kernel_rfl) (by kernel_rfl)
 ·rw [if_neg (nt c8)] at G
  refine k_skip ?_
  refine k_seq ?_
  replace G := bnd G; obtain ⟨t6, ht6, G⟩ := G
  refine k_rg mixed H (.cons [10] (ok_ld (fun u5 => .agg #[vI a0.Lo, vI a0.Hi]) 10 15 0 2 (fun u5 => ((u1 0).n 0)) (fun u5 => [vI a0.Lo, vI a0.Hi]) 28) <|
   .cons [11] (ok_callv 49 (fun u5 => #[.agg #[vI a0.Lo, vI a0.Hi]]) (.tuple #[.agg #[vI t6.1.Lo, vI t6.1.Hi], .bool t6.2]) 11 [] (fun u5 w _ => interval_Sqrt.calls k0 a0  t6 w  ht6)) <|
   .v 9 (.tuple #[.agg #[vI t6.1.Lo, vI t6.1.Hi], .bool t6.2]) <|
   .v 12 (.agg #[vI t6.1.Lo, vI t6.1.Hi]) <|
   .v 13 (.bool t6.2) <|
   .cons [3, 17] (ok_new (fun b => vP b 0) (fun u5 => [vI 0, vI 0]) 28 3 17) <|
   .cons [17] (ok_as (u' := fun u5 => [(17, .blk ((u5 5).n 0) [vI t6.1.Lo, vI t6.1.Hi] 28)]) (ok_store 17 0 (fun u5 => ((u5 5).n 0)) (fun u5 => [vI 0, vI 0]) (fun u5 => [vI t6.1.Lo, vI t6.1.Hi]) 28) (fun _ => by kernel_rfl)) <|
   .v 4 (.bool t6.2) <| .nil) fun u5 a w' H => ?_
  replace H := H.kp [2, 3, 16, 17]
  refine k_seq ?_
  refine k_rg mixed H (.cons [14] (ok_ld (fun u7 => .agg #[vI t6.1.Lo, vI t6.1.Hi]) 14 17 0 2 (fun u7 => ((u5 5).n 0)) (fun u7 => [vI t6.1.Lo, vI t6.1.Hi]) 28) <|
   .cons [16] (ok_as (u' := fun u7 => [(16, .blk ((u1 1).n 0) [vI t6.1.Lo, vI t6.1.Hi] 28)]) (ok_store 16 0 (fun u7 => ((u1 1).n 0)) (fun u7 => [vI 0, vI 0]) (fun u7 => [vI t6.1.Lo, vI t6.1.Hi]) 28) (fun _ => by kernel_rfl)) <| .nil) fun u7 a w' H => ?_
  replace H := H.kp [2, 16]
  refine k_ret ?_
  obtain rfl := Option.some.inj G
  exact k_done1 H _ 16 ((u1 1).n 0) [vI t6.1.Lo, vI t6.1.Hi] 28 0 2 (by kernel_rfl) (by kernel_rfl) (by kernel_rfl) (by kernel_rfl)
set_option maxHeartbeats 4000000 in
theorem tape_Eval.calls (k0 : Nat) (a0 : TTape) (a1 : List TInterval) (a2 : TInterval) (p_a0_L : Option Addr) (c_a0_L : Nat) (p_a0_Out : Option Addr) (c_a0_Out : Nat) (p_a1 : Option Addr) (c_a1 : Nat) (r : List TInterval) (w : World) (hB : AllH [rdl anyF 5 p_a0_L c_a0_L a0.L en_TInstruction, rdl anyF 1 p_a0_Out c_a0_Out a0.Out en_i64, rdl anyF 2 p_a1 c_a1 a1 en_TInterval, gk] w) (G : tape_Eval k0 a0 a1 a2 = some r) :
  Calls Tryd.prog 10 #[.agg #[vI a0.N, .slice p_a0_L a0.L.length c_a0_L, .slice p_a0_Out a0.Out.length c_a0_Out], .slice p_a1 a1.length c_a1, .agg #[vI a2.Lo, vI a2.Hi]] w fun e w' => ∃ g : Gh, e = .returned (.slice (g.o 0) r.length (g.n 0)) ∧ But (fpK []) w w' ∧ OutOK w.heap.size (fpK []) (frI w.heap.size []) [fun _ => owK 28 2 (g.o 0) r.length (g.n 0) (r.flatMap en_TInterval)] w' := by
 obtain ⟨fr, hfr⟩ : ∃ fr : Nat → Prop, fr = frI w.heap.size [] := ⟨_, rfl⟩
 have hBf : ∀ j, w.heap.size ≤ j → fr j := fun j h => by rw [hfr]; exact .inl h
 refine k_enterF (args := [.agg #[vI a0.N, .slice p_a0_L a0.L.length c_a0_L, .slice p_a0_Out a0.Out.length c_a0_Out], .slice p_a1 a1.length c_a1, .agg #[vI a2.Lo, vI a2.Hi]]) 112 [(112, rdl anyF 5 p_a0_L c_a0_L a0.L en_TInstruction), (113, rdl anyF 1 p_a0_Out c_a0_Out a0.Out en_i64), (114, rdl anyF 2 p_a1 c_a1 a1 en_TInterval), (999999, gk)] (by
  intro x hx
  simp only [List.mem_cons, List.not_mem_nil, or_false] at hx
  rcases hx with rfl | rfl | rfl | rfl
  ·exact rdF_fact (rdF_of hB.1) (fun _ _ => trivial) (by decide) _
  ·exact rdF_fact (rdF_of hB.2.1) (fun _ _ => trivial) (by decide) _
  ·exact rdF_fact (rdF_of hB.2.2.1) (fun _ _ => trivial) (by decide) _
  ·exact ⟨⟨_, _, rfl⟩, hB.2.2.2.1, glob_in (glob_of hB.2.2.2.1)⟩) Tryd.func10 rfl (by kernel_rfl) (by kernel_rfl) fun a H => ?_
 unfold tape_Eval at G
 refine k_seq ?_
 refine k_rg mixed H (.cons [3, 115] (ok_new (fun b => vP b 0) (fun u1 => [vI a0.N, .slice p_a0_L a0.L.length c_a0_L, .slice p_a0_Out a0.Out.length c_a0_Out]) 25 3 115) <|
   .cons [5, 116] (ok_new (fun b => vP b 0) (fun u1 => [vI a2.Lo, vI a2.Hi]) 28 5 116) <|
   .v 6 (.slice none 0 0) <| .nil) fun u1 a w' H => ?_
 replace H := H.kp [1, 3, 5, 112, 113, 114, 115, 116, 999999]
 refine k_seq ?_
 replace G := gd G; obtain ⟨b3, G⟩ := G
 refine k_rg mixed H (.v 14 (vP ((u1 0).n 0) 1) <|
   .cons [15] (ok_ld (fun u2 => .slice p_a0_L a0.L.length c_a0_L) 15 115 1 1 (fun u2 => ((u1 0).n 0)) (fun u2 => [vI a0.N, .slice p_a0_L a0.L.length c_a0_L, .slice p_a0_Out a0.Out.length c_a0_Out]) 25) <|
   .v 16 (vI (a0.L.length : Int)) <|
   .cons [17, 117] (ok_rowL [] (fun u2 => []) 28 2 (List.replicate (a0.L.length : Int).toNat (⟨0, 0⟩ : TInterval)).length ((List.replicate (a0.L.length : Int).toNat (⟨0, 0⟩ : TInterval)).flatMap en_TInterval) 17 117 (fun _ => .none) (fun u2 w hF => run_make_row (t := 26) (k := .i64) (m := (a0.L.length : Int)) (en := en_TInterval) (z := (⟨0, 0⟩ : TInterval)) en_TInterval_len inf28 rfl b3 (by kernel_rfl)) (fun _ => .inl rfl)) <|
   .cons [7] (ok_val (fun u2 => .slice ((u2 3).o 0) ((List.replicate (a0.L.length : Int).toNat (⟨0, 0⟩ : TInterval)).length) ((u2 3).n 0)) 7) <| .nil) fun u2 a w' H => ?_
 replace H := H.kp [1, 3, 5, 7, 112, 113, 114, 115, 116, 117, 999999]
 refine k_seq ?_
 replace G := bnd G; obtain ⟨j5, hj5, G⟩ := G
 refine k_join (fun a w' => ∃ (p_j4 : Option Addr) (c_j4 np_j4 : Nat), np_j4 = j5.length ∧ Rep w.heap.size w 112 (ofL [(3, (sP ((u1 0).n 0) 0)), (7, sS p_j4 np_j4 c_j4), (112, rdl anyF 5 p_a0_L c_a0_L a0.L en_TInstruction), (113, rdl anyF 1 p_a0_Out c_a0_Out a0.Out en_i64), (115, .blk ((u1 0).n 0) [vI a0.N, .slice p_a0_L a0.L.length c_a0_L, .slice p_a0_Out a0.Out.length c_a0_Out] 25), (900001, owK 28 2 p_j4 np_j4 c_j4 (j5.flatMap en_TInterval)), (999999, gk)]) a w') ?_ ?_
 ·clear H; rintro a w' ⟨p_j4, c_j4, _, rfl, H⟩
  refine k_seq ?_
  replace G := gd G; obtain ⟨b7, G⟩ := G
  refine k_rg mixed H (.v 91 (vP ((u1 0).n 0) 2) <|
   .cons [92] (ok_ld (fun u6 => .slice p_a0_Out a0.Out.length c_a0_Out) 92 115 2 1 (fun u6 => ((u1 0).n 0)) (fun u6 => [vI a0.N, .slice p_a0_L a0.L.length c_a0_L, .slice p_a0_Out a0.Out.length c_a0_Out]) 25) <|
   .v 93 (vI (a0.Out.length : Int)) <|
   .cons [94, 118] (ok_rowL [] (fun u6 => []) 28 2 (List.replicate (a0.Out.length : Int).toNat (⟨0, 0⟩ : TInterval)).length ((List.replicate (a0.Out.length : Int).toNat (⟨0, 0⟩ : TInterval)).flatMap en_TInterval) 94 118 (fun _ => .none) (fun u6 w hF => run_make_row (t := 26) (k := .i64) (m := (a0.Out.length : Int)) (en := en_TInterval) (z := (⟨0, 0⟩ : TInterval)) en_TInterval_len inf28 rfl b7 (by kernel_rfl)) (fun _ => .inl rfl)) <|
   .cons [11] (ok_val (fun u6 => .slice ((u6 3).o 0) ((List.replicate (a0.Out.length : Int).toNat (⟨0, 0⟩ : TInterval)).length) ((u6 3).n 0)) 11) <| .nil) fun u6 a w' H => ?_
  replace H := H.kp [3, 7, 11, 112, 113, 115, 118, 900001, 999999]
  refine k_seq ?_
  replace G := bnd G; obtain ⟨j9, hj9, G⟩ := G
  refine k_join (fun a w' => ∃ (p_j8 : Option Addr) (c_j8 np_j8 : Nat), np_j8 = j9.length ∧ Rep w.heap.size w 112 (ofL [(11, sS p_j8 np_j8 c_j8), (900002, owK 28 2 p_j8 np_j8 c_j8 (j9.flatMap en_TInterval)), (999999, gk)]) a w') ?_ ?_
  ·clear H; rintro a w' ⟨p_j8, c_j8, _, rfl, H⟩
   refine k_seq ?_
   refine k_rg mixed H (.v 111 (.slice p_j8 j9.length c_j8) <|
   .v 6 (.slice p_j8 j9.length c_j8) <| .nil) fun u10 a w' H => ?_
   replace H := H.kp [6, 900002, 999999]
   refine k_ret ?_
   obtain rfl := Option.some.inj G
   obtain ⟨g, o0, n0⟩ : ∃ g : Gh, g.o 0 = p_j8 ∧ g.n 0 = c_j8 := ⟨⟨fun i => [c_j8].getD i 0, fun i => [p_j8].getD i none, fun i => ([⟨Unit, ()⟩] : List ((T : Type) × T)).getD i ⟨Unit, ()⟩⟩, rfl, rfl⟩
   refine k_doneZ H (fun g => .slice (g.o 0) j9.length (g.n 0)) g [] [] (fun g => [fun _ => owK 28 2 (g.o 0) j9.length (g.n 0) (j9.flatMap en_TInterval)]) fr [900002] [] (.slice p_j8 j9.length c_j8) [fun _ => owK 28 2 p_j8 j9.length c_j8 (j9.flatMap en_TInterval)] (by simp only [o0, n0]) (by simp only [o0, n0]) hfr (.inl ⟨rfl, rfl⟩) (fams_cons fam_ow fams_nil) (by simp)
  ·clear G; replace G := hj9; clear hj9
   refine k_seq ?_
   refine k_rg mixed H (.v 95 (vP ((u1 0).n 0) 2) <|
   .cons [96] (ok_ld (fun u11 => .slice p_a0_Out a0.Out.length c_a0_Out) 96 115 2 1 (fun u11 => ((u1 0).n 0)) (fun u11 => [vI a0.N, .slice p_a0_L a0.L.length c_a0_L, .slice p_a0_Out a0.Out.length c_a0_Out]) 25) <|
   .v 97 (vI (a0.Out.length : Int)) <|
   .v 98 (vI 0) <| .nil) fun u11 a w' H => ?_
   replace H := H.kp [7, 11, 96, 97, 98, 113, 118, 900001, 999999]
   refine k_block ?_
   replace H := H.move (K := owK 28 2 ((u6 3).o 0) ((List.replicate (a0.Out.length : Int).toNat (⟨0, 0⟩ : TInterval)).length) ((u6 3).n 0) ((List.replicate (a0.Out.length : Int).toNat (⟨0, 0⟩ : TInterval)).flatMap en_TInterval)) 118 900003 (by kernel_rfl) (by intro _ _ h; cases h)
   refine k_loopJ (fun m a w' => ∃ x12 : List TInterval, ∃ x13 : Int, tape_Eval.l14 k0 a0 a1 a2 j5 m x12 x13 = some j9 ∧ ∃ (p_x12 : Option Addr) (c_x12 np_x12 : Nat), np_x12 = x12.length ∧ Rep w.heap.size w 112 (ofL [(7, sS p_j4 j5.length c_j4), (11, sS p_x12 np_x12 c_x12), (96, sS p_a0_Out a0.Out.length c_a0_Out), (97, (sI (a0.Out.length : Int))), (98, sI x13), (113, rdl anyF 1 p_a0_Out c_a0_Out a0.Out en_i64), (900001, owK 28 2 p_j4 j5.length c_j4 (j5.flatMap en_TInterval)), (900003, owK 28 2 p_x12 np_x12 c_x12 (x12.flatMap en_TInterval)), (999999, gk)]) a w') k0 ⟨_, _, G, ((u6 3).o 0), ((u6 3).n 0), (List.replicate (a0.Out.length : Int).toNat (⟨0, 0⟩ : TInterval)).length, rfl, H.toL _ (by kernel_rfl)⟩ ?_
   clear G H
   rintro (_ | k) a w' ⟨x12, x13, G, p_x12, c_x12, _, rfl, H⟩
   ·exact absurd G (by unfold tape_Eval.l14; exact fun h => by cases h)
   ·unfold tape_Eval.l14 at G
    refine k_seq ?_
    refine k_rg mixed H (.v 99 (.bool (decide (x13 < (a0.Out.length : Int)))) <| .nil) fun u15 a w' H => ?_
    replace H := H.kp [7, 11, 96, 97, 98, 99, 113, 900001, 900003, 999999]
    refine k_seq ?_
    refine k_cond H (by kernel_rfl) (t := decide (x13 < (a0.Out.length : Int))) (by kernel_rfl) (fun c25 => ?_) (fun c25 => ?_)
    ·rw [if_pos c25] at G
     refine k_skip ?_
     refine k_seq ?_
     refine k_block ?_
     refine k_seq ?_
     replace G := gd G; obtain ⟨b17, G⟩ := G
     replace G := bnd G; obtain ⟨t18, ht18, G⟩ := G
     refine k_rg mixed H (.v 100 (vI x13) <|
   .cons [101] (ok_valL [113] (fun u16 => [rdl anyF 1 p_a0_Out c_a0_Out a0.Out en_i64]) (fun u16 => .pointer (some ⟨hdB p_a0_Out, hdO p_a0_Out + x13.toNat * 1, none⟩)) (fun u16 => true) [true, true] 101 (fun u16 w hg hF => ix_row (t := 23) (k := .i64) (i := x13) (p := p_a0_Out) (n := a0.Out.length) (cap := c_a0_Out) (x := a0.Out) (en := en_i64) (rdF_of hF.1).2 en_i64_len rfl b17 (by kernel_rfl))) <|
   .cons [102] (ok_valL [113] (fun u16 => [rdl anyF 1 p_a0_Out c_a0_Out a0.Out en_i64]) (fun u16 => vI t18) (fun u16 => true) [true] 102 (fun u16 w hg hF => ld_row (en := en_i64) (rdF_of hF.1).2 en_i64_len ht18 0 1 [vI t18] rfl (by kernel_rfl))) <|
   .v 12 (vI x13) <|
   .v 13 (vI t18) <| .nil) fun u16 a w' H => ?_
     replace H := H.kp [7, 11, 12, 13, 96, 97, 98, 113, 900001, 900003, 999999]
     replace G := gd G; obtain ⟨b20, G⟩ := G
     replace G := bnd G; obtain ⟨t21, ht21, G⟩ := G
     replace G := gd G; obtain ⟨b22, G⟩ := G
     replace G := bnd G; obtain ⟨t23, ht23, G⟩ := G
     refine k_rg mixed H (.v 103 (.slice p_x12 x12.length c_x12) <|
   .v 104 (vI x13) <|
   .v 105 (.slice p_j4 j5.length c_j4) <|
   .v 106 (vI t18) <|
   .cons [107] (ok_valL [900001] (fun u19 => [owK 28 2 p_j4 j5.length c_j4 (j5.flatMap en_TInterval)]) (fun u19 => .pointer (some ⟨hdB p_j4, hdO p_j4 + t18.toNat * 2, none⟩)) (fun u19 => true) [true, true] 107 (fun u19 w hg hF => ix_row (t := 26) (k := .i64) (i := t18) (p := p_j4) (n := j5.length) (cap := c_j4) (x := j5) (en := en_TInterval) (owns_rowC (ow_of hF.1)).2 en_TInterval_len rfl b20 (by kernel_rfl))) <|
   .cons [108] (ok_valL [900001] (fun u19 => [owK 28 2 p_j4 j5.length c_j4 (j5.flatMap en_TInterval)]) (fun u19 => .agg #[vI t21.Lo, vI t21.Hi]) (fun u19 => true) [true] 108 (fun u19 w hg hF => ld_row (en := en_TInterval) (owns_rowC (ow_of hF.1)).2 en_TInterval_len ht21 0 2 [vI t21.Lo, vI t21.Hi] rfl (by kernel_rfl))) <|
   .cons [109] (ok_valL [900003] (fun u19 => [owK 28 2 p_x12 x12.length c_x12 (x12.flatMap en_TInterval)]) (fun u19 => .pointer (some ⟨hdB p_x12, hdO p_x12 + x13.toNat * 2, none⟩)) (fun u19 => true) [true, true] 109 (fun u19 w hg hF => ix_row (t := 26) (k := .i64) (i := x13) (p := p_x12) (n := x12.length) (cap := c_x12) (x := x12) (en := en_TInterval) (owns_rowC (ow_of hF.1)).2 en_TInterval_len rfl b22 (by kernel_rfl))) <|
   .cons [900003, 900003] (ok_own1 [] [] (fun u19 => []) 900003 (fun u19 => owK 28 2 p_x12 x12.length c_x12 (x12.flatMap en_TInterval)) none (fun u19 g => .nilFunc) (fun u19 g => owK 28 2 p_x12 x12.length c_x12 ((x12.set x13.toNat t21).flatMap en_TInterval)) (fun u19 w hF hK => tv_set (el_storeN (ow_of hK) en_TInterval_len (y := t21) (vs := [vI t21.Lo, vI t21.Hi]) ht23 0 (by simp) (by simp) rfl (by kernel_rfl)))) <| .nil) fun u19 a w' H => ?_
     replace H := H.kp [7, 11, 96, 97, 98, 113, 900001, 900003, 999999]
     refine k_rg mixed H (.v 110 (vI (w_i64 (x13 + 1))) <|
   .v 98 (vI (w_i64 (x13 + 1))) <| .nil) fun u24 a w' H => ?_
     replace H := H.kp [7, 11, 96, 97, 98, 113, 900001, 900003, 999999]
     exact ⟨k, Nat.lt_succ_self k, _, _, G, p_x12, c_x12, x12.length, by simp, H.toL _ (by kernel_rfl)⟩
    ·rw [if_neg (nt c25)] at G
     refine k_exit rfl ?_
     obtain rfl := Option.some.inj G
     replace H := H.move (K := owK 28 2 p_x12 x12.length c_x12 (x12.flatMap en_TInterval)) 900003 900002 (by kernel_rfl) (by intro _ _ h; cases h)
     exact ⟨p_x12, c_x12, x12.length, rfl, H.toL _ (by kernel_rfl)⟩
 ·clear G; replace G := hj5; clear hj5
  refine k_seq ?_
  refine k_rg mixed H (.v 18 (vP ((u1 0).n 0) 1) <|
   .cons [19] (ok_ld (fun u26 => .slice p_a0_L a0.L.length c_a0_L) 19 115 1 1 (fun u26 => ((u1 0).n 0)) (fun u26 => [vI a0.N, .slice p_a0_L a0.L.length c_a0_L, .slice p_a0_Out a0.Out.length c_a0_Out]) 25) <|
   .v 20 (vI (a0.L.length : Int)) <|
   .v 21 (vI 0) <| .nil) fun u26 a w' H => ?_
  replace H := H.kp [1, 3, 5, 7, 19, 20, 21, 112, 113, 114, 115, 116, 117, 999999]
  refine k_block ?_
  replace H := H.move (K := owK 28 2 ((u2 3).o 0) ((List.replicate (a0.L.length : Int).toNat (⟨0, 0⟩ : TInterval)).length) ((u2 3).n 0) ((List.replicate (a0.L.length : Int).toNat (⟨0, 0⟩ : TInterval)).flatMap en_TInterval)) 117 900004 (by kernel_rfl) (by intro _ _ h; cases h)
  refine k_loopJ (fun m a w' => ∃ x27 : List TInterval, ∃ x28 : Int, tape_Eval.l29 k0 a0 a1 a2 m x27 x28 = some j5 ∧ ∃ (p_x27 : Option Addr) (c_x27 np_x27 : Nat), np_x27 = x27.length ∧ Rep w.heap.size w 112 (ofL [(1, sS p_a1 a1.length c_a1), (3, (sP ((u1 0).n 0) 0)), (5, (sP ((u1 1).n 0) 0)), (7, sS p_x27 np_x27 c_x27), (19, sS p_a0_L a0.L.length c_a0_L), (20, (sI (a0.L.length : Int))), (21, sI x28), (112, rdl anyF 5 p_a0_L c_a0_L a0.L en_TInstruction), (113, rdl anyF 1 p_a0_Out c_a0_Out a0.Out en_i64), (114, rdl anyF 2 p_a1 c_a1 a1 en_TInterval), (115, .blk ((u1 0).n 0) [vI a0.N, .slice p_a0_L a0.L.length c_a0_L, .slice p_a0_Out a0.Out.length c_a0_Out] 25), (116, .blk ((u1 1).n 0) [vI a2.Lo, vI a2.Hi] 28), (900004, owK 28 2 p_x27 np_x27 c_x27 (x27.flatMap en_TInterval)), (999999, gk)]) a w') k0 ⟨_, _, G, ((u2 3).o 0), ((u2 3).n 0), (List.replicate (a0.L.length : Int).toNat (⟨0, 0⟩ : TInterval)).length, rfl, H.toL _ (by kernel_rfl)⟩ ?_
  clear G H
  rintro (_ | k) a w' ⟨x27, x28, G, p_x27, c_x27, _, rfl, H⟩
  ·exact absurd G (by unfold tape_Eval.l29; exact fun h => by cases h)
  ·unfold tape_Eval.l29 at G
   refine k_seq ?_
   refine k_rg mixed H (.v 22 (.bool (decide (x28 < (a0.L.length : Int)))) <| .nil) fun u30 a w' H => ?_
   replace H := H.kp [1, 3, 5, 7, 19, 20, 21, 22, 112, 113, 114, 115, 116, 900004, 999999]
   refine k_seq ?_
   refine k_cond H (by kernel_rfl) (t := decide (x28 < (a0.L.length : Int))) (by kernel_rfl) (fun c166 => ?_) (fun c166 => ?_)
   ·rw [if_pos c166] at G
    refine k_skip ?_
    refine k_seq ?_
    replace G := bnd G; obtain ⟨j32, hj32, G⟩ := G
    refine k_join (fun a w' => ∃ (p_j31 : Option Addr) (c_j31 np_j31 : Nat), np_j31 = j32.length ∧ Rep w.heap.size w 112 (ofL [(1, sS p_a1 a1.length c_a1), (3, (sP ((u1 0).n 0) 0)), (5, (sP ((u1 1).n 0) 0)), (7, sS p_j31 np_j31 c_j31), (19, sS p_a0_L a0.L.length c_a0_L), (20, (sI (a0.L.length : Int))), (21, sI x28), (112, rdl anyF 5 p_a0_L c_a0_L a0.L en_TInstruction), (113, rdl anyF 1 p_a0_Out c_a0_Out a0.Out en_i64), (114, rdl anyF 2 p_a1 c_a1 a1 en_TInterval), (115, .blk ((u1 0).n 0) [vI a0.N, .slice p_a0_L a0.L.length c_a0_L, .slice p_a0_Out a0.Out.length c_a0_Out] 25), (116, .blk ((u1 1).n 0) [vI a2.Lo, vI a2.Hi] 28), (900005, owK 28 2 p_j31 np_j31 c_j31 (j32.flatMap en_TInterval)), (999999, gk)]) a w') ?_ ?_
    ·clear H; rintro a w' ⟨p_j31, c_j31, _, rfl, H⟩
     refine k_rg mixed H (.v 90 (vI (w_i64 (x28 + 1))) <|
   .v 21 (vI (w_i64 (x28 + 1))) <| .nil) fun u33 a w' H => ?_
     replace H := H.kp [1, 3, 5, 7, 19, 20, 21, 112, 113, 114, 115, 116, 900005, 999999]
     replace H := H.move (K := owK 28 2 p_j31 j32.length c_j31 (j32.flatMap en_TInterval)) 900005 900004 (by kernel_rfl) (by intro _ _ h; cases h)
     exact ⟨k, Nat.lt_succ_self k, _, _, G, p_j31, c_j31, j32.length, rfl, H.toL _ (by kernel_rfl)⟩
    ·clear G; replace G := hj32; clear hj32
     refine k_block ?_
     refine k_seq ?_
     replace G := gd G; obtain ⟨b35, G⟩ := G
     replace G := bnd G; obtain ⟨t36, ht36, G⟩ := G
     refine k_rg mixed H (.v 23 (vI x28) <|
   .cons [24] (ok_valL [112] (fun u34 => [rdl anyF 5 p_a0_L c_a0_L a0.L en_TInstruction]) (fun u34 => .pointer (some ⟨hdB p_a0_L, hdO p_a0_L + x28.toNat * 5, none⟩)) (fun u34 => true) [true, true] 24 (fun u34 w hg hF => ix_row (t := 22) (k := .i64) (i := x28) (p := p_a0_L) (n := a0.L.length) (cap := c_a0_L) (x := a0.L) (en := en_TInstruction) (rdF_of hF.1).2 en_TInstruction_len rfl b35 (by kernel_rfl))) <|
   .cons [25] (ok_valL [112] (fun u34 => [rdl anyF 5 p_a0_L c_a0_L a0.L en_TInstruction]) (fun u34 => .agg #[vI t36.Op, vI t36.A, vI t36.B, vI t36.C.Lo, vI t36.C.Hi]) (fun u34 => true) [true] 25 (fun u34 w hg hF => ld_row (en := en_TInstruction) (rdF_of hF.1).2 en_TInstruction_len ht36 0 5 [vI t36.Op, vI t36.A, vI t36.B, vI t36.C.Lo, vI t36.C.Hi] rfl (by kernel_rfl))) <|
   .cons [9, 123] (ok_new (fun b => vP b 0) (fun u34 => [vI 0, vI 0, vI 0, vI 0, vI 0]) 50 9 123) <|
   .v 8 (vI x28) <|
   .cons [123] (ok_as (u' := fun u34 => [(123, .blk ((u34 3).n 0) [vI t36.Op, vI t36.A, vI t36.B, vI t36.C.Lo, vI t36.C.Hi] 50)]) (ok_store 123 0 (fun u34 => ((u34 3).n 0)) (fun u34 => [vI 0, vI 0, vI 0, vI 0, vI 0]) (fun u34 => [vI t36.Op, vI t36.A, vI t36.B, vI t36.C.Lo, vI t36.C.Hi]) 50) (fun _ => by kernel_rfl)) <| .nil) fun u34 a w' H => ?_
     replace H := H.kp [1, 3, 5, 7, 8, 9, 19, 20, 21, 112, 113, 114, 115, 116, 123, 900004, 999999]
     refine k_seq ?_
     replace G := bnd G; obtain ⟨z37, hz37, G⟩ := G
     replace hz37 := Option.some.inj hz37
     by_cases c155 : z37 = 0
     ·rw [if_pos c155] at G; subst c155
      try rw [hz37] at H
      refine k_rg mixed H (.v 26 (vP ((u34 3).n 0) 0) <|
   .cons [27] (ok_ld (fun u38 => vI 0) 27 123 0 1 (fun u38 => ((u34 3).n 0)) (fun u38 => [vI 0, vI t36.A, vI t36.B, vI t36.C.Lo, vI t36.C.Hi]) 50) <|
   .v 28 (vP 0 0) <|
   .cons [29] (ok_ldK (fun u38 => .agg #[.nilFunc, .nilFunc]) 29 999999 gk 0 0 2 gTab0 (fun w h => (glob_of h).tab0)) <|
   .cons [10, 124] (ok_new (fun b => vP b 0) (fun u38 => [.nilFunc, .nilFunc]) 65 10 124) <|
   .cons [124] (ok_as (u' := fun u38 => [(124, .blk ((u38 4).n 0) [.nilFunc, .nilFunc] 65)]) (ok_store 124 0 (fun u38 => ((u38 4).n 0)) (fun u38 => [.nilFunc, .nilFunc]) (fun u38 => [.nilFunc, .nilFunc]) 65) (fun _ => by kernel_rfl)) <| .nil) fun u38 a w' H => ?_
      replace H := H.kp [1, 3, 5, 7, 8, 9, 10, 19, 20, 21, 112, 113, 114, 115, 116, 123, 124, 900004, 999999]
      refine k_block ?_
      refine k_seq ?_
      refine k_rg mixed H (.v 47 (vP ((u34 3).n 0) 0) <|
   .cons [48] (ok_ld (fun u39 => vI 0) 48 123 0 1 (fun u39 => ((u34 3).n 0)) (fun u39 => [vI 0, vI t36.A, vI t36.B, vI t36.C.Lo, vI t36.C.Hi]) 50) <|
   .v 49 (.bool false) <|
   .v 46 (.bool false) <| .nil) fun u39 a w' H => ?_
      replace H := H.kp [1, 3, 5, 7, 8, 9, 10, 19, 20, 21, 46, 112, 113, 114, 115, 116, 123, 124, 900004, 999999]
      refine k_cond_false H (by kernel_rfl) (by kernel_rfl) ?_
      refine k_seq ?_
      refine k_rg mixed H (.v 56 (vP ((u34 3).n 0) 0) <|
   .cons [57] (ok_ld (fun u40 => vI 0) 57 123 0 1 (fun u40 => ((u34 3).n 0)) (fun u40 => [vI 0, vI t36.A, vI t36.B, vI t36.C.Lo, vI t36.C.Hi]) 50) <|
   .v 58 (.bool false) <|
   .v 55 (.bool false) <| .nil) fun u40 a w' H => ?_
      replace H := H.kp [1, 3, 5, 7, 8, 9, 10, 19, 20, 21, 55, 112, 113, 114, 115, 116, 123, 124, 900004, 999999]
      refine k_cond_false H (by kernel_rfl) (by kernel_rfl) ?_
      refine k_seq ?_
      refine k_rg mixed H (.v 68 (vP ((u34 3).n 0) 0) <|
   .cons [69] (ok_ld (fun u41 => vI 0) 69 123 0 1 (fun u41 => ((u34 3).n 0)) (fun u41 => [vI 0, vI t36.A, vI t36.B, vI t36.C.Lo, vI t36.C.Hi]) 50) <|
   .v 70 (.bool false) <|
   .v 67 (.bool false) <| .nil) fun u41 a w' H => ?_
      replace H := H.kp [1, 3, 5, 7, 8, 9, 10, 19, 20, 21, 67, 112, 113, 114, 115, 116, 123, 124, 900004, 999999]
      refine k_cond_false H (by kernel_rfl) (by kernel_rfl) ?_
      refine k_seq ?_
      refine k_rg mixed H (.v 76 (vP ((u38 4).n 0) 0) <|
   .cons [77] (ok_ld (fun u42 => .nilFunc) 77 124 0 1 (fun u42 => ((u38 4).n 0)) (fun u42 => [.nilFunc, .nilFunc]) 65) <|
   .v 78 (.bool false) <|
   .v 75 (.bool false) <| .nil) fun u42 a w' H => ?_
      replace H := H.kp [1, 3, 5, 7, 8, 9, 10, 19, 20, 21, 75, 112, 113, 114, 115, 116, 123, 124, 900004, 999999]
      refine k_cond_false H (by kernel_rfl) (by kernel_rfl) ?_
      cases G
     rw [if_neg c155] at G
     by_cases c156 : z37 = 1
     ·rw [if_pos c156] at G; subst c156
      try rw [hz37] at H
      refine k_rg mixed H (.v 26 (vP ((u34 3).n 0) 0) <|
   .cons [27] (ok_ld (fun u43 => vI 1) 27 123 0 1 (fun u43 => ((u34 3).n 0)) (fun u43 => [vI 1, vI t36.A, vI t36.B, vI t36.C.Lo, vI t36.C.Hi]) 50) <|
   .v 28 (vP 0 2) <|
   .cons [29] (ok_ldK (fun u43 => .agg #[.nilFunc, .nilFunc]) 29 999999 gk 0 2 2 gTab0 (fun w h => (glob_of h).tab0)) <|
   .cons [10, 125] (ok_new (fun b => vP b 0) (fun u43 => [.nilFunc, .nilFunc]) 65 10 125) <|
   .cons [125] (ok_as (u' := fun u43 => [(125, .blk ((u43 4).n 0) [.nilFunc, .nilFunc] 65)]) (ok_store 125 0 (fun u43 => ((u43 4).n 0)) (fun u43 => [.nilFunc, .nilFunc]) (fun u43 => [.nilFunc, .nilFunc]) 65) (fun _ => by kernel_rfl)) <| .nil) fun u43 a w' H => ?_
      replace H := H.kp [1, 3, 5, 7, 8, 9, 10, 19, 20, 21, 112, 113, 114, 115, 116, 123, 125, 900004, 999999]
      refine k_block ?_
      refine k_seq ?_
      refine k_rg mixed H (.v 47 (vP ((u34 3).n 0) 0) <|
   .cons [48] (ok_ld (fun u44 => vI 1) 48 123 0 1 (fun u44 => ((u34 3).n 0)) (fun u44 => [vI 1, vI t36.A, vI t36.B, vI t36.C.Lo, vI t36.C.Hi]) 50) <|
   .v 49 (.bool true) <|
   .v 46 (.bool true) <| .nil) fun u44 a w' H => ?_
      replace H := H.toM [(1, sS p_a1 a1.length c_a1), (3, (sP ((u1 0).n 0) 0)), (5, (sP ((u1 1).n 0) 0)), (7, sS p_x27 x27.length c_x27), (8, sI x28), (9, (sP ((u34 3).n 0) 0)), (10, (sP ((u43 4).n 0) 0)), (19, sS p_a0_L a0.L.length c_a0_L), (20, (sI (a0.L.length : Int))), (21, sI x28), (46, sB true), (112, rdl anyF 5 p_a0_L c_a0_L a0.L en_TInstruction), (113, rdl anyF 1 p_a0_Out c_a0_Out a0.Out en_i64), (114, rdl anyF 2 p_a1 c_a1 a1 en_TInterval), (115, .blk ((u1 0).n 0) [vI a0.N, .slice p_a0_L a0.L.length c_a0_L, .slice p_a0_Out a0.Out.length c_a0_Out] 25), (116, .blk ((u1 1).n 0) [vI a2.Lo, vI a2.Hi] 28), (123, .blk ((u34 3).n 0) [vI 1, vI t36.A, vI t36.B, vI t36.C.Lo, vI t36.C.Hi] 50), (125, .blk ((u43 4).n 0) [.nilFunc, .nilFunc] 65), (900004, owK 28 2 p_x27 x27.length c_x27 (x27.flatMap en_TInterval)), (999999, gk)]
      refine k_cond_true H (by kernel_rfl) (by kernel_rfl) ?_
      replace G := gd G; obtain ⟨b46, G⟩ := G
      replace G := bnd G; obtain ⟨t47, ht47, G⟩ := G
      refine k_rg mixed H (.v 50 (.slice p_x27 x27.length c_x27) <|
   .v 51 (vI x28) <|
   .v 52 (vP ((u34 3).n 0) 3) <|
   .cons [53] (ok_ld (fun u45 => .agg #[vI t36.C.Lo, vI t36.C.Hi]) 53 123 3 2 (fun u45 => ((u34 3).n 0)) (fun u45 => [vI 1, vI t36.A, vI t36.B, vI t36.C.Lo, vI t36.C.Hi]) 50) <|
   .cons [54] (ok_valL [900004] (fun u45 => [owK 28 2 p_x27 x27.length c_x27 (x27.flatMap en_TInterval)]) (fun u45 => .pointer (some ⟨hdB p_x27, hdO p_x27 + x28.toNat * 2, none⟩)) (fun u45 => true) [true, true] 54 (fun u45 w hg hF => ix_row (t := 26) (k := .i64) (i := x28) (p := p_x27) (n := x27.length) (cap := c_x27) (x := x27) (en := en_TInterval) (owns_rowC (ow_of hF.1)).2 en_TInterval_len rfl b46 (by kernel_rfl))) <|
   .cons [900004, 900004] (ok_own1 [] [] (fun u45 => []) 900004 (fun u45 => owK 28 2 p_x27 x27.length c_x27 (x27.flatMap en_TInterval)) none (fun u45 g => .nilFunc) (fun u45 g => owK 28 2 p_x27 x27.length c_x27 ((x27.set x28.toNat (⟨t36.C.Lo, t36.C.Hi⟩ : TInterval)).flatMap en_TInterval)) (fun u45 w hF hK => tv_set (el_storeN (ow_of hK) en_TInterval_len (y := (⟨t36.C.Lo, t36.C.Hi⟩ : TInterval)) (vs := [vI t36.C.Lo, vI t36.C.Hi]) ht47 0 (by simp) (by simp) rfl (by kernel_rfl)))) <| .nil) fun u45 a w' H => ?_
      replace H := H.kp [1, 3, 5, 7, 19, 20, 21, 112, 113, 114, 115, 116, 900004, 999999]
      obtain rfl := Option.some.inj G
      replace H := H.move (K := owK 28 2 p_x27 x27.length c_x27 ((x27.set x28.toNat (⟨t36.C.Lo, t36.C.Hi⟩ : TInterval)).flatMap en_TInterval)) 900004 900005 (by kernel_rfl) (by intro _ _ h; cases h)
      exact ⟨p_x27, c_x27, x27.length, by simp, H.toL _ (by kernel_rfl)⟩
     rw [if_neg c156] at G
     by_cases c157 : z37 = 2
     ·rw [if_pos c157] at G; subst c157
      try rw [hz37] at H
      refine k_rg mixed H (.v 26 (vP ((u34 3).n 0) 0) <|
   .cons [27] (ok_ld (fun u48 => vI 2) 27 123 0 1 (fun u48 => ((u34 3).n 0)) (fun u48 => [vI 2, vI t36.A, vI t36.B, vI t36.C.Lo, vI t36.C.Hi]) 50) <|
   .v 28 (vP 0 4) <|
   .cons [29] (ok_ldK (fun u48 => .agg #[.nilFunc, .nilFunc]) 29 999999 gk 0 4 2 gTab0 (fun w h => (glob_of h).tab0)) <|
   .cons [10, 127] (ok_new (fun b => vP b 0) (fun u48 => [.nilFunc, .nilFunc]) 65 10 127) <|
   .cons [127] (ok_as (u' := fun u48 => [(127, .blk ((u48 4).n 0) [.nilFunc, .nilFunc] 65)]) (ok_store 127 0 (fun u48 => ((u48 4).n 0)) (fun u48 => [.nilFunc, .nilFunc]) (fun u48 => [.nilFunc, .nilFunc]) 65) (fun _ => by kernel_rfl)) <| .nil) fun u48 a w' H => ?_
      replace H := H.kp [1, 3, 5, 7, 8, 9, 10, 19, 20, 21, 112, 113, 114, 115, 116, 123, 127, 900004, 999999]
      refine k_block ?_
      refine k_seq ?_
      refine k_rg mixed H (.v 47 (vP ((u34 3).n 0) 0) <|
   .cons [48] (ok_ld (fun u49 => vI 2) 48 123 0 1 (fun u49 => ((u34 3).n 0)) (fun u49 => [vI 2, vI t36.A, vI t36.B, vI t36.C.Lo, vI t36.C.Hi]) 50) <|
   .v 49 (.bool false) <|
   .v 46 (.bool false) <| .nil) fun u49 a w' H => ?_
      replace H := H.kp [1, 3, 5, 7, 8, 9, 10, 19, 20, 21, 46, 112, 113, 114, 115, 116, 123, 127, 900004, 999999]
      refine k_cond_false H (by kernel_rfl) (by kernel_rfl) ?_
      refine k_seq ?_
      refine k_rg mixed H (.v 56 (vP ((u34 3).n 0) 0) <|
   .cons [57] (ok_ld (fun u50 => vI 2) 57 123 0 1 (fun u50 => ((u34 3).n 0)) (fun u50 => [vI 2, vI t36.A, vI t36.B, vI t36.C.Lo, vI t36.C.Hi]) 50) <|
   .v 58 (.bool true) <|
   .v 55 (.bool true) <| .nil) fun u50 a w' H => ?_
      replace H := H.kp [1, 3, 5, 7, 8, 9, 10, 19, 20, 21, 55, 112, 113, 114, 115, 116, 123, 127, 900004, 999999]
      refine k_cond_true H (by kernel_rfl) (by kernel_rfl) ?_
      replace G := gd G; obtain ⟨b52, G⟩ := G
      replace G := bnd G; obtain ⟨t53, ht53, G⟩ := G
      replace G := gd G; obtain ⟨b54, G⟩ := G
      replace G := bnd G; obtain ⟨t55, ht55, G⟩ := G
      refine k_rg mixed H (.v 59 (.slice p_x27 x27.length c_x27) <|
   .v 60 (vI x28) <|
   .v 61 (.slice p_a1 a1.length c_a1) <|
   .v 62 (vP ((u34 3).n 0) 1) <|
   .cons [63] (ok_ld (fun u51 => vI t36.A) 63 123 1 1 (fun u51 => ((u34 3).n 0)) (fun u51 => [vI 2, vI t36.A, vI t36.B, vI t36.C.Lo, vI t36.C.Hi]) 50) <|
   .cons [64] (ok_valL [114] (fun u51 => [rdl anyF 2 p_a1 c_a1 a1 en_TInterval]) (fun u51 => .pointer (some ⟨hdB p_a1, hdO p_a1 + t36.A.toNat * 2, none⟩)) (fun u51 => true) [true, true] 64 (fun u51 w hg hF => ix_row (t := 26) (k := .i64) (i := t36.A) (p := p_a1) (n := a1.length) (cap := c_a1) (x := a1) (en := en_TInterval) (rdF_of hF.1).2 en_TInterval_len rfl b52 (by kernel_rfl))) <|
   .cons [65] (ok_valL [114] (fun u51 => [rdl anyF 2 p_a1 c_a1 a1 en_TInterval]) (fun u51 => .agg #[vI t53.Lo, vI t53.Hi]) (fun u51 => true) [true] 65 (fun u51 w hg hF => ld_row (en := en_TInterval) (rdF_of hF.1).2 en_TInterval_len ht53 0 2 [vI t53.Lo, vI t53.Hi] rfl (by kernel_rfl))) <|
   .cons [66] (ok_valL [900004] (fun u51 => [owK 28 2 p_x27 x27.length c_x27 (x27.flatMap en_TInterval)]) (fun u51 => .pointer (some ⟨hdB p_x27, hdO p_x27 + x28.toNat * 2, none⟩)) (fun u51 => true) [true, true] 66 (fun u51 w hg hF => ix_row (t := 26) (k := .i64) (i := x28) (p := p_x27) (n := x27.length) (cap := c_x27) (x := x27) (en := en_TInterval) (owns_rowC (ow_of hF.1)).2 en_TInterval_len rfl b54 (by kernel_rfl))) <|
   .cons [900004, 900004] (ok_own1 [] [] (fun u51 => []) 900004 (fun u51 => owK 28 2 p_x27 x27.length c_x27 (x27.flatMap en_TInterval)) none (fun u51 g => .nilFunc) (fun u51 g => owK 28 2 p_x27 x27.length c_x27 ((x27.set x28.toNat t53).flatMap en_TInterval)) (fun u51 w hF hK => tv_set (el_storeN (ow_of hK) en_TInterval_len (y := t53) (vs := [vI t53.Lo, vI t53.Hi]) ht55 0 (by simp) (by simp) rfl (by kernel_rfl)))) <| .nil) fun u51 a w' H => ?_
      replace H := H.kp [1, 3, 5, 7, 19, 20, 21, 112, 113, 114, 115, 116, 900004, 999999]
      obtain rfl := Option.some.inj G
      replace H := H.move (K := owK 28 2 p_x27 x27.length c_x27 ((x27.set x28.toNat t53).flatMap en_TInterval)) 900004 900005 (by kernel_rfl) (by intro _ _ h; cases h)
      exact ⟨p_x27, c_x27, x27.length, by simp, H.toL _ (by kernel_rfl)⟩
     rw [if_neg c157] at G
     by_cases c158 : z37 = 3
     ·rw [if_pos c158] at G; subst c158
      try rw [hz37] at H
      refine k_rg mixed H (.v 26 (vP ((u34 3).n 0) 0) <|
   .cons [27] (ok_ld (fun u56 => vI 3) 27 123 0 1 (fun u56 => ((u34 3).n 0)) (fun u56 => [vI 3, vI t36.A, vI t36.B, vI t36.C.Lo, vI t36.C.Hi]) 50) <|
   .v 28 (vP 0 6) <|
   .cons [29] (ok_ldK (fun u56 => .agg #[.nilFunc, .nilFunc]) 29 999999 gk 0 6 2 gTab0 (fun w h => (glob_of h).tab0)) <|
   .cons [10, 129] (ok_new (fun b => vP b 0) (fun u56 => [.nilFunc, .nilFunc]) 65 10 129) <|
   .cons [129] (ok_as (u' := fun u56 => [(129, .blk ((u56 4).n 0) [.nilFunc, .nilFunc] 65)]) (ok_store 129 0 (fun u56 => ((u56 4).n 0)) (fun u56 => [.nilFunc, .nilFunc]) (fun u56 => [.nilFunc, .nilFunc]) 65) (fun _ => by kernel_rfl)) <| .nil) fun u56 a w' H => ?_
      replace H := H.kp [1, 3, 5, 7, 8, 9, 10, 19, 20, 21, 112, 113, 114, 115, 116, 123, 129, 900004, 999999]
      refine k_block ?_
      refine k_seq ?_
      refine k_rg mixed H (.v 47 (vP ((u34 3).n 0) 0) <|
   .cons [48] (ok_ld (fun u57 => vI 3) 48 123 0 1 (fun u57 => ((u34 3).n 0)) (fun u57 => [vI 3, vI t36.A, vI t36.B, vI t36.C.Lo, vI t36.C.Hi]) 50) <|
   .v 49 (.bool false) <|
   .v 46 (.bool false) <| .nil) fun u57 a w' H => ?_
      replace H := H.kp [1, 3, 5, 7, 8, 9, 10, 19, 20, 21, 46, 112, 113, 114, 115, 116, 123, 129, 900004, 999999]
      refine k_cond_false H (by kernel_rfl) (by kernel_rfl) ?_
      refine k_seq ?_
      refine k_rg mixed H (.v 56 (vP ((u34 3).n 0) 0) <|
   .cons [57] (ok_ld (fun u58 => vI 3) 57 123 0 1 (fun u58 => ((u34 3).n 0)) (fun u58 => [vI 3, vI t36.A, vI t36.B, vI t36.C.Lo, vI t36.C.Hi]) 50) <|
   .v 58 (.bool false) <|
   .v 55 (.bool false) <| .nil) fun u58 a w' H => ?_
      replace H := H.kp [1, 3, 5, 7, 8, 9, 10, 19, 20, 21, 55, 112, 113, 114, 115, 116, 123, 129, 900004, 999999]
      refine k_cond_false H (by kernel_rfl) (by kernel_rfl) ?_
      refine k_seq ?_
      refine k_rg mixed H (.v 68 (vP ((u34 3).n 0) 0) <|
   .cons [69] (ok_ld (fun u59 => vI 3) 69 123 0 1 (fun u59 => ((u34 3).n 0)) (fun u59 => [vI 3, vI t36.A, vI t36.B, vI t36.C.Lo, vI t36.C.Hi]) 50) <|
   .v 70 (.bool true) <|
   .v 67 (.bool true) <| .nil) fun u59 a w' H => ?_
      replace H := H.toM [(1, sS p_a1 a1.length c_a1), (3, (sP ((u1 0).n 0) 0)), (5, (sP ((u1 1).n 0) 0)), (7, sS p_x27 x27.length c_x27), (8, sI x28), (9, (sP ((u34 3).n 0) 0)), (10, (sP ((u56 4).n 0) 0)), (19, sS p_a0_L a0.L.length c_a0_L), (20, (sI (a0.L.length : Int))), (21, sI x28), (67, sB true), (112, rdl anyF 5 p_a0_L c_a0_L a0.L en_TInstruction), (113, rdl anyF 1 p_a0_Out c_a0_Out a0.Out en_i64), (114, rdl anyF 2 p_a1 c_a1 a1 en_TInterval), (115, .blk ((u1 0).n 0) [vI a0.N, .slice p_a0_L a0.L.length c_a0_L, .slice p_a0_Out a0.Out.length c_a0_Out] 25), (116, .blk ((u1 1).n 0) [vI a2.Lo, vI a2.Hi] 28), (123, .blk ((u34 3).n 0) [vI 3, vI t36.A, vI t36.B, vI t36.C.Lo, vI t36.C.Hi] 50), (129, .blk ((u56 4).n 0) [.nilFunc, .nilFunc] 65), (900004, owK 28 2 p_x27 x27.length c_x27 (x27.flatMap en_TInterval)), (999999, gk)]
      refine k_cond_true H (by kernel_rfl) (by kernel_rfl) ?_
      replace G := gd G; obtain ⟨b61, G⟩ := G
      replace G := bnd G; obtain ⟨t62, ht62, G⟩ := G
      refine k_rg mixed H (.v 71 (.slice p_x27 x27.length c_x27) <|
   .v 72 (vI x28) <|
   .cons [73] (ok_ld (fun u60 => .agg #[vI a2.Lo, vI a2.Hi]) 73 116 0 2 (fun u60 => ((u1 1).n 0)) (fun u60 => [vI a2.Lo, vI a2.Hi]) 28) <|
   .cons [74] (ok_valL [900004] (fun u60 => [owK 28 2 p_x27 x27.length c_x27 (x27.flatMap en_TInterval)]) (fun u60 => .pointer (some ⟨hdB p_x27, hdO p_x27 + x28.toNat * 2, none⟩)) (fun u60 => true) [true, true] 74 (fun u60 w hg hF => ix_row (t := 26) (k := .i64) (i := x28) (p := p_x27) (n := x27.length) (cap := c_x27) (x := x27) (en := en_TInterval) (owns_rowC (ow_of hF.1)).2 en_TInterval_len rfl b61 (by kernel_rfl))) <|
   .cons [900004, 900004] (ok_own1 [] [] (fun u60 => []) 900004 (fun u60 => owK 28 2 p_x27 x27.length c_x27 (x27.flatMap en_TInterval)) none (fun u60 g => .nilFunc) (fun u60 g => owK 28 2 p_x27 x27.length c_x27 ((x27.set x28.toNat a2).flatMap en_TInterval)) (fun u60 w hF hK => tv_set (el_storeN (ow_of hK) en_TInterval_len (y := a2) (vs := [vI a2.Lo, vI a2.Hi]) ht62 0 (by simp) (by simp) rfl (by kernel_rfl)))) <| .nil) fun u60 a w' H => ?_
      replace H := H.kp [1, 3, 5, 7, 19, 20, 21, 112, 113, 114, 115, 116, 900004, 999999]
      obtain rfl := Option.some.inj G
      replace H := H.move (K := owK 28 2 p_x27 x27.length c_x27 ((x27.set x28.toNat a2).flatMap en_TInterval)) 900004 900005 (by kernel_rfl) (by intro _ _ h; cases h)
      exact ⟨p_x27, c_x27, x27.length, by simp, H.toL _ (by kernel_rfl)⟩
     rw [if_neg c158] at G
     by_cases c159 : z37 = 4
     ·rw [if_pos c159] at G; subst c159
      try rw [hz37] at H
      refine k_rg mixed H (.v 26 (vP ((u34 3).n 0) 0) <|
   .cons [27] (ok_ld (fun u63 => vI 4) 27 123 0 1 (fun u63 => ((u34 3).n 0)) (fun u63 => [vI 4, vI t36.A, vI t36.B, vI t36.C.Lo, vI t36.C.Hi]) 50) <|
   .v 28 (vP 0 8) <|
   .cons [29] (ok_ldK (fun u63 => .agg #[.func (.func 46) #[] #[], .nilFunc]) 29 999999 gk 0 8 2 gTab0 (fun w h => (glob_of h).tab0)) <|
   .cons [10, 131] (ok_new (fun b => vP b 0) (fun u63 => [.nilFunc, .nilFunc]) 65 10 131) <|
   .cons [131] (ok_as (u' := fun u63 => [(131, .blk ((u63 4).n 0) [.func (.func 46) #[] #[], .nilFunc] 65)]) (ok_store 131 0 (fun u63 => ((u63 4).n 0)) (fun u63 => [.nilFunc, .nilFunc]) (fun u63 => [.func (.func 46) #[] #[], .nilFunc]) 65) (fun _ => by kernel_rfl)) <| .nil) fun u63 a w' H => ?_
      replace H := H.kp [1, 3, 5, 7, 8, 9, 10, 19, 20, 21, 112, 113, 114, 115, 116, 123, 131, 900004, 999999]
      refine k_block ?_
      refine k_seq ?_
      refine k_rg mixed H (.v 47 (vP ((u34 3).n 0) 0) <|
   .cons [48] (ok_ld (fun u64 => vI 4) 48 123 0 1 (fun u64 => ((u34 3).n 0)) (fun u64 => [vI 4, vI t36.A, vI t36.B, vI t36.C.Lo, vI t36.C.Hi]) 50) <|
   .v 49 (.bool false) <|
   .v 46 (.bool false) <| .nil) fun u64 a w' H => ?_
      replace H := H.kp [1, 3, 5, 7, 8, 9, 10, 19, 20, 21, 46, 112, 113, 114, 115, 116, 123, 131, 900004, 999999]
      refine k_cond_false H (by kernel_rfl) (by kernel_rfl) ?_
      refine k_seq ?_
      refine k_rg mixed H (.v 56 (vP ((u34 3).n 0) 0) <|
   .cons [57] (ok_ld (fun u65 => vI 4) 57 123 0 1 (fun u65 => ((u34 3).n 0)) (fun u65 => [vI 4, vI t36.A, vI t36.B, vI t36.C.Lo, vI t36.C.Hi]) 50) <|
   .v 58 (.bool false) <|
   .v 55 (.bool false) <| .nil) fun u65 a w' H => ?_
      replace H := H.kp [1, 3, 5, 7, 8, 9, 10, 19, 20, 21, 55, 112, 113, 114, 115, 116, 123, 131, 900004, 999999]
      refine k_cond_false H (by kernel_rfl) (by kernel_rfl) ?_
      refine k_seq ?_
      refine k_rg mixed H (.v 68 (vP ((u34 3).n 0) 0) <|
   .cons [69] (ok_ld (fun u66 => vI 4) 69 123 0 1 (fun u66 => ((u34 3).n 0)) (fun u66 => [vI 4, vI t36.A, vI t36.B, vI t36.C.Lo, vI t36.C.Hi]) 50) <|
   .v 70 (.bool false) <|
   .v 67 (.bool false) <| .nil) fun u66 a w' H => ?_
      replace H := H.kp [1, 3, 5, 7, 8, 9, 10, 19, 20, 21, 67, 112, 113, 114, 115, 116, 123, 131, 900004, 999999]
      refine k_cond_false H (by kernel_rfl) (by kernel_rfl) ?_
      refine k_seq ?_
      refine k_rg mixed H (.v 76 (vP ((u63 4).n 0) 0) <|
   .cons [77] (ok_ld (fun u67 => .func (.func 46) #[] #[]) 77 131 0 1 (fun u67 => ((u63 4).n 0)) (fun u67 => [.func (.func 46) #[] #[], .nilFunc]) 65) <|
   .v 78 (.bool true) <|
   .v 75 (.bool true) <| .nil) fun u67 a w' H => ?_
      replace H := H.kp [1, 3, 5, 7, 8, 9, 10, 19, 20, 21, 75, 112, 113, 114, 115, 116, 123, 131, 900004, 999999]
      refine k_cond_true H (by kernel_rfl) (by kernel_rfl) ?_
      replace G := gd G; obtain ⟨b69, G⟩ := G
      replace G := bnd G; obtain ⟨t70, ht70, G⟩ := G
      have P71 := ptr_of (en := en_TInterval) (l := x27) (owns_rowC (ow_of (H.at (K := owK 28 2 p_x27 x27.length c_x27 (x27.flatMap en_TInterval)) 900004 (by kernel_rfl)))).2 en_TInterval_len
      replace G := bnd G; obtain ⟨t72, ht72, G⟩ := G
      replace G := gd G; obtain ⟨b73, G⟩ := G
      replace G := bnd G; obtain ⟨t74, ht74, G⟩ := G
      refine k_rg mixed H (.v 79 (.slice p_x27 x27.length c_x27) <|
   .v 80 (vI x28) <|
   .v 81 (vP ((u63 4).n 0) 0) <|
   .cons [82] (ok_ld (fun u68 => .func (.func 46) #[] #[]) 82 131 0 1 (fun u68 => ((u63 4).n 0)) (fun u68 => [.func (.func 46) #[] #[], .nilFunc]) 65) <|
   .v 83 (.slice p_x27 x27.length c_x27) <|
   .v 84 (vP ((u34 3).n 0) 1) <|
   .cons [85] (ok_ld (fun u68 => vI t36.A) 85 123 1 1 (fun u68 => ((u34 3).n 0)) (fun u68 => [vI 4, vI t36.A, vI t36.B, vI t36.C.Lo, vI t36.C.Hi]) 50) <|
   .cons [86] (ok_val (fun u68 => .pointer (some ⟨hdB p_x27, hdO p_x27 + t36.A.toNat * 2, none⟩)) 86 (hv := fun _ _ => ix_pure (t := 26) (k := .i64) (i := t36.A) (p := p_x27) (n := x27.length) (cap := c_x27) (x := x27) P71 rfl b69 (by kernel_rfl))) <|
   .cons [87] (ok_valL [900004] (fun u68 => [owK 28 2 p_x27 x27.length c_x27 (x27.flatMap en_TInterval)]) (fun u68 => .agg #[vI t70.Lo, vI t70.Hi]) (fun u68 => true) [true] 87 (fun u68 w hg hF => ld_row (en := en_TInterval) (owns_rowC (ow_of hF.1)).2 en_TInterval_len ht70 0 2 [vI t70.Lo, vI t70.Hi] rfl (by kernel_rfl))) <|
   .cons [88] (ok_callv 46 (fun u68 => #[.agg #[vI t70.Lo, vI t70.Hi]]) (.agg #[vI t72.Lo, vI t72.Hi]) 88 [] (fun u68 w _ => interval_Neg.calls t70  t72 w  ht72)) <|
   .cons [89] (ok_val (fun u68 => .pointer (some ⟨hdB p_x27, hdO p_x27 + x28.toNat * 2, none⟩)) 89 (hv := fun _ _ => ix_pure (t := 26) (k := .i64) (i := x28) (p := p_x27) (n := x27.length) (cap := c_x27) (x := x27) P71 rfl b73 (by kernel_rfl))) <|
   .cons [900004, 900004] (ok_own1 [] [] (fun u68 => []) 900004 (fun u68 => owK 28 2 p_x27 x27.length c_x27 (x27.flatMap en_TInterval)) none (fun u68 g => .nilFunc) (fun u68 g => owK 28 2 p_x27 x27.length c_x27 ((x27.set x28.toNat t72).flatMap en_TInterval)) (fun u68 w hF hK => tv_set (el_storeN (ow_of hK) en_TInterval_len (y := t72) (vs := [vI t72.Lo, vI t72.Hi]) ht74 0 (by simp) (by simp) rfl (by kernel_rfl)))) <| .nil) fun u68 a w' H => ?_
      replace H := H.kp [1, 3, 5, 7, 19, 20, 21, 112, 113, 114, 115, 116, 900004, 999999]
      obtain rfl := Option.some.inj G
      replace H := H.move (K := owK 28 2 p_x27 x27.length c_x27 ((x27.set x28.toNat t72).flatMap en_TInterval)) 900004 900005 (by kernel_rfl) (by intro _ _ h; cases h)
      exact ⟨p_x27, c_x27, x27.length, by simp, H.toL _ (by kernel_rfl)⟩
     rw [if_neg c159] at G
     by_cases c160 : z37 = 5
     ·rw [if_pos c160] at G; subst c160
      try rw [hz37] at H
      refine k_rg mixed H (.v 26 (vP ((u34 3).n 0) 0) <|
   .cons [27] (ok_ld (fun u75 => vI 5) 27 123 0 1 (fun u75 => ((u34 3).n 0)) (fun u75 => [vI 5, vI t36.A, vI t36.B, vI t36.C.Lo, vI t36.C.Hi]) 50) <|
   .v 28 (vP 0 10) <|
   .cons [29] (ok_ldK (fun u75 => .agg #[.func (.func 47) #[] #[], .nilFunc]) 29 999999 gk 0 10 2 gTab0 (fun w h => (glob_of h).tab0)) <|
   .cons [10, 133] (ok_new (fun b => vP b 0) (fun u75 => [.nilFunc, .nilFunc]) 65 10 133) <|
   .cons [133] (ok_as (u' := fun u75 => [(133, .blk ((u75 4).n 0) [.func (.func 47) #[] #[], .nilFunc] 65)]) (ok_store 133 0 (fun u75 => ((u75 4).n 0)) (fun u75 => [.nilFunc, .nilFunc]) (fun u75 => [.func (.func 47) #[] #[], .nilFunc]) 65) (fun _ => by kernel_rfl)) <| .nil) fun u75 a w' H => ?_
      replace H := H.kp [1, 3, 5, 7, 8, 9, 10, 19, 20, 21, 112, 113, 114, 115, 116, 123, 133, 900004, 999999]
      refine k_block ?_
      refine k_seq ?_
      refine k_rg mixed H (.v 47 (vP ((u34 3).n 0) 0) <|
   .cons [48] (ok_ld (fun u76 => vI 5) 48 123 0 1 (fun u76 => ((u34 3).n 0)) (fun u76 => [vI 5, vI t36.A, vI t36.B, vI t36.C.Lo, vI t36.C.Hi]) 50) <|
   .v 49 (.bool false) <|
   .v 46 (.bool false) <| .nil) fun u76 a w' H => ?_
      replace H := H.toM [(1, sS p_a1 a1.length c_a1), (3, (sP ((u1 0).n 0) 0)), (5, (sP ((u1 1).n 0) 0)), (7, sS p_x27 x27.length c_x27), (8, sI x28), (9, (sP ((u34 3).n 0) 0)), (10, (sP ((u75 4).n 0) 0)), (19, sS p_a0_L a0.L.length c_a0_L), (20, (sI (a0.L.length : Int))), (21, sI x28), (46, sB false), (112, rdl anyF 5 p_a0_L c_a0_L a0.L en_TInstruction), (113, rdl anyF 1 p_a0_Out c_a0_Out a0.Out en_i64), (114, rdl anyF 2 p_a1 c_a1 a1 en_TInterval), (115, .blk ((u1 0).n 0) [vI a0.N, .slice p_a0_L a0.L.length c_a0_L, .slice p_a0_Out a0.Out.length c_a0_Out] 25), (116, .blk ((u1 1).n 0) [vI a2.Lo, vI a2.Hi] 28), (123, .blk ((u34 3).n 0) [vI 5, vI t36.A, vI t36.B, vI t36.C.Lo, vI t36.C.Hi] 50), (133, .blk ((u75 4).n 0) [.func (.func 47) #[] #[], .nilFunc] 65), (900004, owK 28 2 p_x27 x27.length c_x27 (x27.flatMap en_TInterval)), (999999, gk)]
      refine k_cond_false H (by kernel_rfl) (by kernel_rfl) ?_
      refine k_seq ?_
      refine k_rg mixed H (.v 56 (vP ((u34 3).n 0) 0) <|
   .cons [57] (ok_ld (fun u77 => vI 5) 57 123 0 1 (fun u77 => ((u34 3).n 0)) (fun u77 => [vI 5, vI t36.A, vI t36.B, vI t36.C.Lo, vI t36.C.Hi]) 50) <|
   .v 58 (.bool false) <|
   .v 55 (.bool false) <| .nil) fun u77 a w' H => ?_
      replace H := H.kp [1, 3, 5, 7, 8, 9, 10, 19, 20, 21, 55, 112, 113, 114, 115, 116, 123, 133, 900004, 999999]
      refine k_cond_false H (by kernel_rfl) (by kernel_rfl) ?_
      refine k_seq ?_
      refine k_rg mixed H (.v 68 (vP ((u34 3).n 0) 0) <|
   .cons [69] (ok_ld (fun u78 => vI 5) 69 123 0 1 (fun u78 => ((u34 3).n 0)) (fun u78 => [vI 5, vI t36.A, vI t36.B, vI t36.C.Lo, vI t36.C.Hi]) 50) <|
   .v 70 (.bool false) <|
   .v 67 (.bool false) <| .nil) fun u78 a w' H => ?_
      replace H := H.kp [1, 3, 5, 7, 8, 9, 10, 19, 20, 21, 67, 112, 113, 114, 115, 116, 123, 133, 900004, 999999]
      refine k_cond_false H (by kernel_rfl) (by kernel_rfl) ?_
      refine k_seq ?_
      refine k_rg mixed H (.v 76 (vP ((u75 4).n 0) 0) <|
   .cons [77] (ok_ld (fun u79 => .func (.func 47) #[] #[]) 77 133 0 1 (fun u79 => ((u75 4).n 0)) (fun u79 => [.func (.func 47) #[] #[], .nilFunc]) 65) <|
   .v 78 (.bool true) <|
   .v 75 (.bool true) <| .nil) fun u79 a w' H => ?_
      replace H := H.kp [1, 3, 5, 7, 8, 9, 10, 19, 20, 21, 75, 112, 113, 114, 115, 116, 123, 133, 900004, 999999]
      refine k_cond_true H (by kernel_rfl) (by kernel_rfl) ?_
      replace G := gd G; obtain ⟨b81, G⟩ := G
      replace G := bnd G; obtain ⟨t82, ht82, G⟩ := G
      have P83 := ptr_of (en := en_TInterval) (l := x27) (owns_rowC (ow_of (H.at (K := owK 28 2 p_x27 x27.length c_x27 (x27.flatMap en_TInterval)) 900004 (by kernel_rfl)))).2 en_TInterval_len
      replace G := bnd G; obtain ⟨t84, ht84, G⟩ := G
      replace G := gd G; obtain ⟨b85, G⟩ := G
      replace G := bnd G; obtain ⟨t86, ht86, G⟩ := G
      refine k_rg mixed H (.v 79 (.slice p_x27 x27.length c_x27) <|
   .v 80 (vI x28) <|
   .v 81 (vP ((u75 4).n 0) 0) <|
   .cons [82] (ok_ld (fun u80 => .func (.func 47) #[] #[]) 82 133 0 1 (fun u80 => ((u75 4).n 0)) (fun u80 => [.func (.func 47) #[] #[], .nilFunc]) 65) <|
   .v 83 (.slice p_x27 x27.length c_x27) <|
   .v 84 (vP ((u34 3).n 0) 1) <|
   .cons [85] (ok_ld (fun u80 => vI t36.A) 85 123 1 1 (fun u80 => ((u34 3).n 0)) (fun u80 => [vI 5, vI t36.A, vI t36.B, vI t36.C.Lo, vI t36.C.Hi]) 50) <|
   .cons [86] (ok_val (fun u80 => .pointer (some ⟨hdB p_x27, hdO p_x27 + t36.A.toNat * 2, none⟩)) 86 (hv := fun _ _ => ix_pure (t := 26) (k := .i64) (i := t36.A) (p := p_x27) (n := x27.length) (cap := c_x27) (x := x27) P83 rfl b81 (by kernel_rfl))) <|
   .cons [87] (ok_valL [900004] (fun u80 => [owK 28 2 p_x27 x27.length c_x27 (x27.flatMap en_TInterval)]) (fun u80 => .agg #[vI t82.Lo, vI t82.Hi]) (fun u80 => true) [true] 87 (fun u80 w hg hF => ld_row (en := en_TInterval) (owns_rowC (ow_of hF.1)).2 en_TInterval_len ht82 0 2 [vI t82.Lo, vI t82.Hi] rfl (by kernel_rfl))) <|
   .cons [88] (ok_callv 47 (fun u80 => #[.agg #[vI t82.Lo, vI t82.Hi]]) (.agg #[vI t84.Lo, vI t84.Hi]) 88 [] (fun u80 w _ => interval_Square.calls t82  t84 w  ht84)) <|
   .cons [89] (ok_val (fun u80 => .pointer (some ⟨hdB p_x27, hdO p_x27 + x28.toNat * 2, none⟩)) 89 (hv := fun _ _ => ix_pure (t := 26) (k := .i64) (i := x28) (p := p_x27) (n := x27.length) (cap := c_x27) (x := x27) P83 rfl b85 (by kernel_rfl))) <|
   .cons [900004, 900004] (ok_own1 [] [] (fun u80 => []) 900004 (fun u80 => owK 28 2 p_x27 x27.length c_x27 (x27.flatMap en_TInterval)) none (fun u80 g => .nilFunc) (fun u80 g => owK 28 2 p_x27 x27.length c_x27 ((x27.set x28.toNat t84).flatMap en_TInterval)) (fun u80 w hF hK => tv_set (el_storeN (ow_of hK) en_TInterval_len (y := t84) (vs := [vI t84.Lo, vI t84.Hi]) ht86 0 (by simp) (by simp) rfl (by kernel_rfl)))) <| .nil) fun u80 a w' H => ?_
      replace H := H.kp [1, 3, 5, 7, 19, 20, 21, 112, 113, 114, 115, 116, 900004, 999999]
      obtain rfl := Option.some.inj G
      replace H := H.move (K := owK 28 2 p_x27 x27.length c_x27 ((x27.set x28.toNat t84).flatMap en_TInterval)) 900004 900005 (by kernel_rfl) (by intro _ _ h; cases h)
      exact ⟨p_x27, c_x27, x27.length, by simp, H.toL _ (by kernel_rfl)⟩
     rw [if_neg c160] at G
     by_cases c161 : z37 = 6
     ·rw [if_pos c161] at G; subst c161
      try rw [hz37] at H
      refine k_rg mixed H (.v 26 (vP ((u34 3).n 0) 0) <|
   .cons [27] (ok_ld (fun u87 => vI 6) 27 123 0 1 (fun u87 => ((u34 3).n 0)) (fun u87 => [vI 6, vI t36.A, vI t36.B, vI t36.C.Lo, vI t36.C.Hi]) 50) <|
   .v 28 (vP 0 12) <|
   .cons [29] (ok_ldK (fun u87 => .agg #[.func (.func 86) #[] #[], .nilFunc]) 29 999999 gk 0 12 2 gTab0 (fun w h => (glob_of h).tab0)) <|
   .cons [10, 135] (ok_new (fun b => vP b 0) (fun u87 => [.nilFunc, .nilFunc]) 65 10 135) <|
   .cons [135] (ok_as (u' := fun u87 => [(135, .blk ((u87 4).n 0) [.func (.func 86) #[] #[], .nilFunc] 65)]) (ok_store 135 0 (fun u87 => ((u87 4).n 0)) (fun u87 => [.nilFunc, .nilFunc]) (fun u87 => [.func (.func 86) #[] #[], .nilFunc]) 65) (fun _ => by kernel_rfl)) <| .nil) fun u87 a w' H => ?_
      replace H := H.kp [1, 3, 5, 7, 8, 9, 10, 19, 20, 21, 112, 113, 114, 115, 116, 123, 135, 900004, 999999]
      refine k_block ?_
      refine k_seq ?_
      refine k_rg mixed H (.v 47 (vP ((u34 3).n 0) 0) <|
   .cons [48] (ok_ld (fun u88 => vI 6) 48 123 0 1 (fun u88 => ((u34 3).n 0)) (fun u88 => [vI 6, vI t36.A, vI t36.B, vI t36.C.Lo, vI t36.C.Hi]) 50) <|
   .v 49 (.bool false) <|
   .v 46 (.bool false) <| .nil) fun u88 a w' H => ?_
      replace H := H.kp [1, 3, 5, 7, 8, 9, 10, 19, 20, 21, 46, 112, 113, 114, 115, 116, 123, 135, 900004, 999999]
      refine k_cond_false H (by kernel_rfl) (by kernel_rfl) ?_
      refine k_seq ?_
      refine k_rg mixed H (.v 56 (vP ((u34 3).n 0) 0) <|
   .cons [57] (ok_ld (fun u89 => vI 6) 57 123 0 1 (fun u89 => ((u34 3).n 0)) (fun u89 => [vI 6, vI t36.A, vI t36.B, vI t36.C.Lo, vI t36.C.Hi]) 50) <|
   .v 58 (.bool false) <|
   .v 55 (.bool false) <| .nil) fun u89 a w' H => ?_
      replace H := H.kp [1, 3, 5, 7, 8, 9, 10, 19, 20, 21, 55, 112, 113, 114, 115, 116, 123, 135, 900004, 999999]
      refine k_cond_false H (by kernel_rfl) (by kernel_rfl) ?_
      refine k_seq ?_
      refine k_rg mixed H (.v 68 (vP ((u34 3).n 0) 0) <|
   .cons [69] (ok_ld (fun u90 => vI 6) 69 123 0 1 (fun u90 => ((u34 3).n 0)) (fun u90 => [vI 6, vI t36.A, vI t36.B, vI t36.C.Lo, vI t36.C.Hi]) 50) <|
   .v 70 (.bool false) <|
   .v 67 (.bool false) <| .nil) fun u90 a w' H => ?_
      replace H := H.kp [1, 3, 5, 7, 8, 9, 10, 19, 20, 21, 67, 112, 113, 114, 115, 116, 123, 135, 900004, 999999]
      refine k_cond_false H (by kernel_rfl) (by kernel_rfl) ?_
      refine k_seq ?_
      refine k_rg mixed H (.v 76 (vP ((u87 4).n 0) 0) <|
   .cons [77] (ok_ld (fun u91 => .func (.func 86) #[] #[]) 77 135 0 1 (fun u91 => ((u87 4).n 0)) (fun u91 => [.func (.func 86) #[] #[], .nilFunc]) 65) <|
   .v 78 (.bool true) <|
   .v 75 (.bool true) <| .nil) fun u91 a w' H => ?_
      replace H := H.toM [(1, sS p_a1 a1.length c_a1), (3, (sP ((u1 0).n 0) 0)), (5, (sP ((u1 1).n 0) 0)), (7, sS p_x27 x27.length c_x27), (8, sI x28), (9, (sP ((u34 3).n 0) 0)), (10, (sP ((u87 4).n 0) 0)), (19, sS p_a0_L a0.L.length c_a0_L), (20, (sI (a0.L.length : Int))), (21, sI x28), (75, sB true), (112, rdl anyF 5 p_a0_L c_a0_L a0.L en_TInstruction), (113, rdl anyF 1 p_a0_Out c_a0_Out a0.Out en_i64), (114, rdl anyF 2 p_a1 c_a1 a1 en_TInterval), (115, .blk ((u1 0).n 0) [vI a0.N, .slice p_a0_L a0.L.length c_a0_L, .slice p_a0_Out a0.Out.length c_a0_Out] 25), (116, .blk ((u1 1).n 0) [vI a2.Lo, vI a2.Hi] 28), (123, .blk ((u34 3).n 0) [vI 6, vI t36.A, vI t36.B, vI t36.C.Lo, vI t36.C.Hi] 50), (135, .blk ((u87 4).n 0) [.func (.func 86) #[] #[], .nilFunc] 65), (900004, owK 28 2 p_x27 x27.length c_x27 (x27.flatMap en_TInterval)), (999999, gk)]
      refine k_cond_true H (by kernel_rfl) (by kernel_rfl) ?_
      replace G := gd G; obtain ⟨b93, G⟩ := G
      replace G := bnd G; obtain ⟨t94, ht94, G⟩ := G
      have P95 := ptr_of (en := en_TInterval) (l := x27) (owns_rowC (ow_of (H.at (K := owK 28 2 p_x27 x27.length c_x27 (x27.flatMap en_TInterval)) 900004 (by kernel_rfl)))).2 en_TInterval_len
      replace G := bnd G; obtain ⟨t96, ht96, G⟩ := G
      replace G := gd G; obtain ⟨b97, G⟩ := G
      replace G := bnd G; obtain ⟨t98, ht98, G⟩ := G
      refine k_rg mixed H (.v 79 (.slice p_x27 x27.length c_x27) <|
   .v 80 (vI x28) <|
   .v 81 (vP ((u87 4).n 0) 0) <|
   .cons [82] (ok_ld (fun u92 => .func (.func 86) #[] #[]) 82 135 0 1 (fun u92 => ((u87 4).n 0)) (fun u92 => [.func (.func 86) #[] #[], .nilFunc]) 65) <|
   .v 83 (.slice p_x27 x27.length c_x27) <|
   .v 84 (vP ((u34 3).n 0) 1) <|
   .cons [85] (ok_ld (fun u92 => vI t36.A) 85 123 1 1 (fun u92 => ((u34 3).n 0)) (fun u92 => [vI 6, vI t36.A, vI t36.B, vI t36.C.Lo, vI t36.C.Hi]) 50) <|
   .cons [86] (ok_val (fun u92 => .pointer (some ⟨hdB p_x27, hdO p_x27 + t36.A.toNat * 2, none⟩)) 86 (hv := fun _ _ => ix_pure (t := 26) (k := .i64) (i := t36.A) (p := p_x27) (n := x27.length) (cap := c_x27) (x := x27) P95 rfl b93 (by kernel_rfl))) <|
   .cons [87] (ok_valL [900004] (fun u92 => [owK 28 2 p_x27 x27.length c_x27 (x27.flatMap en_TInterval)]) (fun u92 => .agg #[vI t94.Lo, vI t94.Hi]) (fun u92 => true) [true] 87 (fun u92 w hg hF => ld_row (en := en_TInterval) (owns_rowC (ow_of hF.1)).2 en_TInterval_len ht94 0 2 [vI t94.Lo, vI t94.Hi] rfl (by kernel_rfl))) <|
   .cons [88] (ok_callv 86 (fun u92 => #[.agg #[vI t94.Lo, vI t94.Hi]]) (.agg #[vI t96.Lo, vI t96.Hi]) 88 [] (fun u92 w _ => tape_root.calls k0 t94  t96 w  ht96)) <|
   .cons [89] (ok_val (fun u92 => .pointer (some ⟨hdB p_x27, hdO p_x27 + x28.toNat * 2, none⟩)) 89 (hv := fun _ _ => ix_pure (t := 26) (k := .i64) (i := x28) (p := p_x27) (n := x27.length) (cap := c_x27) (x := x27) P95 rfl b97 (by kernel_rfl))) <|
   .cons [900004, 900004] (ok_own1 [] [] (fun u92 => []) 900004 (fun u92 => owK 28 2 p_x27 x27.length c_x27 (x27.flatMap en_TInterval)) none (fun u92 g => .nilFunc) (fun u92 g => owK 28 2 p_x27 x27.length c_x27 ((x27.set x28.toNat t96).flatMap en_TInterval)) (fun u92 w hF hK => tv_set (el_storeN (ow_of hK) en_TInterval_len (y := t96) (vs := [vI t96.Lo, vI t96.Hi]) ht98 0 (by simp) (by simp) rfl (by kernel_rfl)))) <| .nil) fun u92 a w' H => ?_
      replace H := H.kp [1, 3, 5, 7, 19, 20, 21, 112, 113, 114, 115, 116, 900004, 999999]
      obtain rfl := Option.some.inj G
      replace H := H.move (K := owK 28 2 p_x27 x27.length c_x27 ((x27.set x28.toNat t96).flatMap en_TInterval)) 900004 900005 (by kernel_rfl) (by intro _ _ h; cases h)
      exact ⟨p_x27, c_x27, x27.length, by simp, H.toL _ (by kernel_rfl)⟩
     rw [if_neg c161] at G
     by_cases c162 : z37 = 7
     ·rw [if_pos c162] at G; subst c162
      try rw [hz37] at H
      refine k_rg mixed H (.v 26 (vP ((u34 3).n 0) 0) <|
   .cons [27] (ok_ld (fun u99 => vI 7) 27 123 0 1 (fun u99 => ((u34 3).n 0)) (fun u99 => [vI 7, vI t36.A, vI t36.B, vI t36.C.Lo, vI t36.C.Hi]) 50) <|
   .v 28 (vP 0 14) <|
   .cons [29] (ok_ldK (fun u99 => .agg #[.nilFunc, .func (.func 53) #[] #[]]) 29 999999 gk 0 14 2 gTab0 (fun w h => (glob_of h).tab0)) <|
   .cons [10, 137] (ok_new (fun b => vP b 0) (fun u99 => [.nilFunc, .nilFunc]) 65 10 137) <|
   .cons [137] (ok_as (u' := fun u99 => [(137, .blk ((u99 4).n 0) [.nilFunc, .func (.func 53) #[] #[]] 65)]) (ok_store 137 0 (fun u99 => ((u99 4).n 0)) (fun u99 => [.nilFunc, .nilFunc]) (fun u99 => [.nilFunc, .func (.func 53) #[] #[]]) 65) (fun _ => by kernel_rfl)) <| .nil) fun u99 a w' H => ?_
      replace H := H.kp [1, 3, 5, 7, 8, 9, 10, 19, 20, 21, 112, 113, 114, 115, 116, 123, 137, 900004, 999999]
      refine k_block ?_
      refine k_seq ?_
      refine k_rg mixed H (.v 47 (vP ((u34 3).n 0) 0) <|
   .cons [48] (ok_ld (fun u100 => vI 7) 48 123 0 1 (fun u100 => ((u34 3).n 0)) (fun u100 => [vI 7, vI t36.A, vI t36.B, vI t36.C.Lo, vI t36.C.Hi]) 50) <|
   .v 49 (.bool false) <|
   .v 46 (.bool false) <| .nil) fun u100 a w' H => ?_
      replace H := H.kp [1, 3, 5, 7, 8, 9, 10, 19, 20, 21, 46, 112, 113, 114, 115, 116, 123, 137, 900004, 999999]
      refine k_cond_false H (by kernel_rfl) (by kernel_rfl) ?_
      refine k_seq ?_
      refine k_rg mixed H (.v 56 (vP ((u34 3).n 0) 0) <|
   .cons [57] (ok_ld (fun u101 => vI 7) 57 123 0 1 (fun u101 => ((u34 3).n 0)) (fun u101 => [vI 7, vI t36.A, vI t36.B, vI t36.C.Lo, vI t36.C.Hi]) 50) <|
   .v 58 (.bool false) <|
   .v 55 (.bool false) <| .nil) fun u101 a w' H => ?_
      replace H := H.kp [1, 3, 5, 7, 8, 9, 10, 19, 20, 21, 55, 112, 113, 114, 115, 116, 123, 137, 900004, 999999]
      refine k_cond_false H (by kernel_rfl) (by kernel_rfl) ?_
      refine k_seq ?_
      refine k_rg mixed H (.v 68 (vP ((u34 3).n 0) 0) <|
   .cons [69] (ok_ld (fun u102 => vI 7) 69 123 0 1 (fun u102 => ((u34 3).n 0)) (fun u102 => [vI 7, vI t36.A, vI t36.B, vI t36.C.Lo, vI t36.C.Hi]) 50) <|
   .v 70 (.bool false) <|
   .v 67 (.bool false) <| .nil) fun u102 a w' H => ?_
      replace H := H.kp [1, 3, 5, 7, 8, 9, 10, 19, 20, 21, 67, 112, 113, 114, 115, 116, 123, 137, 900004, 999999]
      refine k_cond_false H (by kernel_rfl) (by kernel_rfl) ?_
      refine k_seq ?_
      refine k_rg mixed H (.v 76 (vP ((u99 4).n 0) 0) <|
   .cons [77] (ok_ld (fun u103 => .nilFunc) 77 137 0 1 (fun u103 => ((u99 4).n 0)) (fun u103 => [.nilFunc, .func (.func 53) #[] #[]]) 65) <|
   .v 78 (.bool false) <|
   .v 75 (.bool false) <| .nil) fun u103 a w' H => ?_
      replace H := H.kp [1, 3, 5, 7, 8, 9, 10, 19, 20, 21, 75, 112, 113, 114, 115, 116, 123, 137, 900004, 999999]
      refine k_cond_false H (by kernel_rfl) (by kernel_rfl) ?_
      replace G := gd G; obtain ⟨b105, G⟩ := G
      replace G := bnd G; obtain ⟨t106, ht106, G⟩ := G
      have P107 := ptr_of (en := en_TInterval) (l := x27) (owns_rowC (ow_of (H.at (K := owK 28 2 p_x27 x27.length c_x27 (x27.flatMap en_TInterval)) 900004 (by kernel_rfl)))).2 en_TInterval_len
      replace G := gd G; obtain ⟨b108, G⟩ := G
      replace G := bnd G; obtain ⟨t109, ht109, G⟩ := G
      replace G := bnd G; obtain ⟨t110, ht110, G⟩ := G
      replace G := gd G; obtain ⟨b111, G⟩ := G
      replace G := bnd G; obtain ⟨t112, ht112, G⟩ := G
      refine k_rg mixed H (.v 30 (.slice p_x27 x27.length c_x27) <|
   .v 31 (vI x28) <|
   .v 32 (vP ((u99 4).n 0) 1) <|
   .cons [33] (ok_ld (fun u104 => .func (.func 53) #[] #[]) 33 137 1 1 (fun u104 => ((u99 4).n 0)) (fun u104 => [.nilFunc, .func (.func 53) #[] #[]]) 65) <|
   .v 34 (.slice p_x27 x27.length c_x27) <|
   .v 35 (vP ((u34 3).n 0) 1) <|
   .cons [36] (ok_ld (fun u104 => vI t36.A) 36 123 1 1 (fun u104 => ((u34 3).n 0)) (fun u104 => [vI 7, vI t36.A, vI t36.B, vI t36.C.Lo, vI t36.C.Hi]) 50) <|
   .cons [37] (ok_val (fun u104 => .pointer (some ⟨hdB p_x27, hdO p_x27 + t36.A.toNat * 2, none⟩)) 37 (hv := fun _ _ => ix_pure (t := 26) (k := .i64) (i := t36.A) (p := p_x27) (n := x27.length) (cap := c_x27) (x := x27) P107 rfl b105 (by kernel_rfl))) <|
   .cons [38] (ok_valL [900004] (fun u104 => [owK 28 2 p_x27 x27.length c_x27 (x27.flatMap en_TInterval)]) (fun u104 => .agg #[vI t106.Lo, vI t106.Hi]) (fun u104 => true) [true] 38 (fun u104 w hg hF => ld_row (en := en_TInterval) (owns_rowC (ow_of hF.1)).2 en_TInterval_len ht106 0 2 [vI t106.Lo, vI t106.Hi] rfl (by kernel_rfl))) <|
   .v 39 (.slice p_x27 x27.length c_x27) <|
   .v 40 (vP ((u34 3).n 0) 2) <|
   .cons [41] (ok_ld (fun u104 => vI t36.B) 41 123 2 1 (fun u104 => ((u34 3).n 0)) (fun u104 => [vI 7, vI t36.A, vI t36.B, vI t36.C.Lo, vI t36.C.Hi]) 50) <|
   .cons [42] (ok_val (fun u104 => .pointer (some ⟨hdB p_x27, hdO p_x27 + t36.B.toNat * 2, none⟩)) 42 (hv := fun _ _ => ix_pure (t := 26) (k := .i64) (i := t36.B) (p := p_x27) (n := x27.length) (cap := c_x27) (x := x27) P107 rfl b108 (by kernel_rfl))) <|
   .cons [43] (ok_valL [900004] (fun u104 => [owK 28 2 p_x27 x27.length c_x27 (x27.flatMap en_TInterval)]) (fun u104 => .agg #[vI t109.Lo, vI t109.Hi]) (fun u104 => true) [true] 43 (fun u104 w hg hF => ld_row (en := en_TInterval) (owns_rowC (ow_of hF.1)).2 en_TInterval_len ht109 0 2 [vI t109.Lo, vI t109.Hi] rfl (by kernel_rfl))) <|
   .cons [44] (ok_callv 53 (fun u104 => #[.agg #[vI t106.Lo, vI t106.Hi], .agg #[vI t109.Lo, vI t109.Hi]]) (.agg #[vI t110.Lo, vI t110.Hi]) 44 [] (fun u104 w _ => interval_Add.calls t106 t109  t110 w  ht110)) <|
   .cons [45] (ok_val (fun u104 => .pointer (some ⟨hdB p_x27, hdO p_x27 + x28.toNat * 2, none⟩)) 45 (hv := fun _ _ => ix_pure (t := 26) (k := .i64) (i := x28) (p := p_x27) (n := x27.length) (cap := c_x27) (x := x27) P107 rfl b111 (by kernel_rfl))) <|
   .cons [900004, 900004] (ok_own1 [] [] (fun u104 => []) 900004 (fun u104 => owK 28 2 p_x27 x27.length c_x27 (x27.flatMap en_TInterval)) none (fun u104 g => .nilFunc) (fun u104 g => owK 28 2 p_x27 x27.length c_x27 ((x27.set x28.toNat t110).flatMap en_TInterval)) (fun u104 w hF hK => tv_set (el_storeN (ow_of hK) en_TInterval_len (y := t110) (vs := [vI t110.Lo, vI t110.Hi]) ht112 0 (by simp) (by simp) rfl (by kernel_rfl)))) <| .nil) fun u104 a w' H => ?_
      replace H := H.kp [1, 3, 5, 7, 19, 20, 21, 112, 113, 114, 115, 116, 900004, 999999]
      obtain rfl := Option.some.inj G
      replace H := H.move (K := owK 28 2 p_x27 x27.length c_x27 ((x27.set x28.toNat t110).flatMap en_TInterval)) 900004 900005 (by kernel_rfl) (by intro _ _ h; cases h)
      exact ⟨p_x27, c_x27, x27.length, by simp, H.toL _ (by kernel_rfl)⟩
     rw [if_neg c162] at G
     by_cases c163 : z37 = 8
     ·rw [if_pos c163] at G; subst c163
      try rw [hz37] at H
      refine k_rg mixed H (.v 26 (vP ((u34 3).n 0) 0) <|
   .cons [27] (ok_ld (fun u113 => vI 8) 27 123 0 1 (fun u113 => ((u34 3).n 0)) (fun u113 => [vI 8, vI t36.A, vI t36.B, vI t36.C.Lo, vI t36.C.Hi]) 50) <|
   .v 28 (vP 0 16) <|
   .cons [29] (ok_ldK (fun u113 => .agg #[.nilFunc, .func (.func 54) #[] #[]]) 29 999999 gk 0 16 2 gTab0 (fun w h => (glob_of h).tab0)) <|
   .cons [10, 139] (ok_new (fun b => vP b 0) (fun u113 => [.nilFunc, .nilFunc]) 65 10 139) <|
   .cons [139] (ok_as (u' := fun u113 => [(139, .blk ((u113 4).n 0) [.nilFunc, .func (.func 54) #[] #[]] 65)]) (ok_store 139 0 (fun u113 => ((u113 4).n 0)) (fun u113 => [.nilFunc, .nilFunc]) (fun u113 => [.nilFunc, .func (.func 54) #[] #[]]) 65) (fun _ => by kernel_rfl)) <| .nil) fun u113 a w' H => ?_
      replace H := H.kp [1, 3, 5, 7, 8, 9, 10, 19, 20, 21, 112, 113, 114, 115, 116, 123, 139, 900004, 999999]
      refine k_block ?_
      refine k_seq ?_
      refine k_rg mixed H (.v 47 (vP ((u34 3).n 0) 0) <|
   .cons [48] (ok_ld (fun u114 => vI 8) 48 123 0 1 (fun u114 => ((u34 3).n 0)) (fun u114 => [vI 8, vI t36.A, vI t36.B, vI t36.C.Lo, vI t36.C.Hi]) 50) <|
   .v 49 (.bool false) <|
   .v 46 (.bool false) <| .nil) fun u114 a w' H => ?_
      replace H := H.toM [(1, sS p_a1 a1.length c_a1), (3, (sP ((u1 0).n 0) 0)), (5, (sP ((u1 1).n 0) 0)), (7, sS p_x27 x27.length c_x27), (8, sI x28), (9, (sP ((u34 3).n 0) 0)), (10, (sP ((u113 4).n 0) 0)), (19, sS p_a0_L a0.L.length c_a0_L), (20, (sI (a0.L.length : Int))), (21, sI x28), (46, sB false), (112, rdl anyF 5 p_a0_L c_a0_L a0.L en_TInstruction), (113, rdl anyF 1 p_a0_Out c_a0_Out a0.Out en_i64), (114, rdl anyF 2 p_a1 c_a1 a1 en_TInterval), (115, .blk ((u1 0).n 0) [vI a0.N, .slice p_a0_L a0.L.length c_a0_L, .slice p_a0_Out a0.Out.length c_a0_Out] 25), (116, .blk ((u1 1).n 0) [vI a2.Lo, vI a2.Hi] 28), (123, .blk ((u34 3).n 0) [vI 8, vI t36.A, vI t36.B, vI t36.C.Lo, vI t36.C.Hi] 50), (139, .blk ((u113 4).n 0) [.nilFunc, .func (.func 54) #[] #[]] 65), (900004, owK 28 2 p_x27 x27.length c_x27 (x27.flatMap en_TInterval)), (999999, gk)]
      refine k_cond_false H (by kernel_rfl) (by kernel_rfl) ?_
      refine k_seq ?_
      refine k_rg mixed H (.v 56 (vP ((u34 3).n 0) 0) <|
   .cons [57] (ok_ld (fun u115 => vI 8) 57 123 0 1 (fun u115 => ((u34 3).n 0)) (fun u115 => [vI 8, vI t36.A, vI t36.B, vI t36.C.Lo, vI t36.C.Hi]) 50) <|
   .v 58 (.bool false) <|
   .v 55 (.bool false) <| .nil) fun u115 a w' H => ?_
      replace H := H.kp [1, 3, 5, 7, 8, 9, 10, 19, 20, 21, 55, 112, 113, 114, 115, 116, 123, 139, 900004, 999999]
      refine k_cond_false H (by kernel_rfl) (by kernel_rfl) ?_
      refine k_seq ?_
      refine k_rg mixed H (.v 68 (vP ((u34 3).n 0) 0) <|
   .cons [69] (ok_ld (fun u116 => vI 8) 69 123 0 1 (fun u116 => ((u34 3).n 0)) (fun u116 => [vI 8, vI t36.A, vI t36.B, vI t36.C.Lo, vI t36.C.Hi]) 50) <|
   .v 70 (.bool false) <|
   .v 67 (.bool false) <| .nil) fun u116 a w' H => ?_
      replace H := H.kp [1, 3, 5, 7, 8, 9, 10, 19, 20, 21, 67, 112, 113, 114, 115, 116, 123, 139, 900004, 999999]
      refine k_cond_false H (by kernel_rfl) (by kernel_rfl) ?_
      refine k_seq ?_
      refine k_rg mixed H (.v 76 (vP ((u113 4).n 0) 0) <|
   .cons [77] (ok_ld (fun u117 => .nilFunc) 77 139 0 1 (fun u117 => ((u113 4).n 0)) (fun u117 => [.nilFunc, .func (.func 54) #[] #[]]) 65) <|
   .v 78 (.bool false) <|
   .v 75 (.bool false) <| .nil) fun u117 a w' H => ?_
      replace H := H.kp [1, 3, 5, 7, 8, 9, 10, 19, 20, 21, 75, 112, 113, 114, 115, 116, 123, 139, 900004, 999999]
      refine k_cond_false H (by kernel_rfl) (by kernel_rfl) ?_
      replace G := gd G; obtain ⟨b119, G⟩ := G
      replace G := bnd G; obtain ⟨t120, ht120, G⟩ := G
      have P121 := ptr_of (en := en_TInterval) (l := x27) (owns_rowC (ow_of (H.at (K := owK 28 2 p_x27 x27.length c_x27 (x27.flatMap en_TInterval)) 900004 (by kernel_rfl)))).2 en_TInterval_len
      replace G := gd G; obtain ⟨b122, G⟩ := G
      replace G := bnd G; obtain ⟨t123, ht123, G⟩ := G
      replace G := bnd G; obtain ⟨t124, ht124, G⟩ := G
      replace G := gd G; obtain ⟨b125, G⟩ := G
      replace G := bnd G; obtain ⟨t126, ht126, G⟩ := G
      refine k_rg mixed H (.v 30 (.slice p_x27 x27.length c_x27) <|
   .v 31 (vI x28) <|
   .v 32 (vP ((u113 4).n 0) 1) <|
   .cons [33] (ok_ld (fun u118 => .func (.func 54) #[] #[]) 33 139 1 1 (fun u118 => ((u113 4).n 0)) (fun u118 => [.nilFunc, .func (.func 54) #[] #[]]) 65) <|
   .v 34 (.slice p_x27 x27.length c_x27) <|
   .v 35 (vP ((u34 3).n 0) 1) <|
   .cons [36] (ok_ld (fun u118 => vI t36.A) 36 123 1 1 (fun u118 => ((u34 3).n 0)) (fun u118 => [vI 8, vI t36.A, vI t36.B, vI t36.C.Lo, vI t36.C.Hi]) 50) <|
   .cons [37] (ok_val (fun u118 => .pointer (some ⟨hdB p_x27, hdO p_x27 + t36.A.toNat * 2, none⟩)) 37 (hv := fun _ _ => ix_pure (t := 26) (k := .i64) (i := t36.A) (p := p_x27) (n := x27.length) (cap := c_x27) (x := x27) P121 rfl b119 (by kernel_rfl))) <|
   .cons [38] (ok_valL [900004] (fun u118 => [owK 28 2 p_x27 x27.length c_x27 (x27.flatMap en_TInterval)]) (fun u118 => .agg #[vI t120.Lo, vI t120.Hi]) (fun u118 => true) [true] 38 (fun u118 w hg hF => ld_row (en := en_TInterval) (owns_rowC (ow_of hF.1)).2 en_TInterval_len ht120 0 2 [vI t120.Lo, vI t120.Hi] rfl (by kernel_rfl))) <|
   .v 39 (.slice p_x27 x27.length c_x27) <|
   .v 40 (vP ((u34 3).n 0) 2) <|
   .cons [41] (ok_ld (fun u118 => vI t36.B) 41 123 2 1 (fun u118 => ((u34 3).n 0)) (fun u118 => [vI 8, vI t36.A, vI t36.B, vI t36.C.Lo, vI t36.C.Hi]) 50) <|
   .cons [42] (ok_val (fun u118 => .pointer (some ⟨hdB p_x27, hdO p_x27 + t36.B.toNat * 2, none⟩)) 42 (hv := fun _ _ => ix_pure (t := 26) (k := .i64) (i := t36.B) (p := p_x27) (n := x27.length) (cap := c_x27) (x := x27) P121 rfl b122 (by kernel_rfl))) <|
   .cons [43] (ok_valL [900004] (fun u118 => [owK 28 2 p_x27 x27.length c_x27 (x27.flatMap en_TInterval)]) (fun u118 => .agg #[vI t123.Lo, vI t123.Hi]) (fun u118 => true) [true] 43 (fun u118 w hg hF => ld_row (en := en_TInterval) (owns_rowC (ow_of hF.1)).2 en_TInterval_len ht123 0 2 [vI t123.Lo, vI t123.Hi] rfl (by kernel_rfl))) <|
   .cons [44] (ok_callv 54 (fun u118 => #[.agg #[vI t120.Lo, vI t120.Hi], .agg #[vI t123.Lo, vI t123.Hi]]) (.agg #[vI t124.Lo, vI t124.Hi]) 44 [] (fun u118 w _ => interval_Sub.calls t120 t123  t124 w  ht124)) <|
   .cons [45] (ok_val (fun u118 => .pointer (some ⟨hdB p_x27, hdO p_x27 + x28.toNat * 2, none⟩)) 45 (hv := fun _ _ => ix_pure (t := 26) (k := .i64) (i := x28) (p := p_x27) (n := x27.length) (cap := c_x27) (x := x27) P121 rfl b125 (by kernel_rfl))) <|
   .cons [900004, 900004] (ok_own1 [] [] (fun u118 => []) 900004 (fun u118 => owK 28 2 p_x27 x27.length c_x27 (x27.flatMap en_TInterval)) none (fun u118 g => .nilFunc) (fun u118 g => owK 28 2 p_x27 x27.length c_x27 ((x27.set x28.toNat t124).flatMap en_TInterval)) (fun u118 w hF hK => tv_set (el_storeN (ow_of hK) en_TInterval_len (y := t124) (vs := [vI t124.Lo, vI t124.Hi]) ht126 0 (by simp) (by simp) rfl (by kernel_rfl)))) <| .nil) fun u118 a w' H => ?_
      replace H := H.kp [1, 3, 5, 7, 19, 20, 21, 112, 113, 114, 115, 116, 900004, 999999]
      obtain rfl := Option.some.inj G
      replace H := H.move (K := owK 28 2 p_x27 x27.length c_x27 ((x27.set x28.toNat t124).flatMap en_TInterval)) 900004 900005 (by kernel_rfl) (by intro _ _ h; cases h)
      exact ⟨p_x27, c_x27, x27.length, by simp, H.toL _ (by kernel_rfl)⟩
     rw [if_neg c163] at G
     by_cases c164 : z37 = 9
     ·rw [if_pos c164] at G; subst c164
      try rw [hz37] at H
      refine k_rg mixed H (.v 26 (vP ((u34 3).n 0) 0) <|
   .cons [27] (ok_ld (fun u127 => vI 9) 27 123 0 1 (fun u127 => ((u34 3).n 0)) (fun u127 => [vI 9, vI t36.A, vI t36.B, vI t36.C.Lo, vI t36.C.Hi]) 50) <|
   .v 28 (vP 0 18) <|
   .cons [29] (ok_ldK (fun u127 => .agg #[.nilFunc, .func (.func 55) #[] #[]]) 29 999999 gk 0 18 2 gTab0 (fun w h => (glob_of h).tab0)) <|
   .cons [10, 141] (ok_new (fun b => vP b 0) (fun u127 => [.nilFunc, .nilFunc]) 65 10 141) <|
   .cons [141] (ok_as (u' := fun u127 => [(141, .blk ((u127 4).n 0) [.nilFunc, .func (.func 55) #[] #[]] 65)]) (ok_store 141 0 (fun u127 => ((u127 4).n 0)) (fun u127 => [.nilFunc, .nilFunc]) (fun u127 => [.nilFunc, .func (.func 55) #[] #[]]) 65) (fun _ => by kernel_rfl)) <| .nil) fun u127 a w' H => ?_
      replace H := H.kp [1, 3, 5, 7, 8, 9, 10, 19, 20, 21, 112, 113, 114, 115, 116, 123, 141, 900004, 999999]
      refine k_block ?_
      refine k_seq ?_
      refine k_rg mixed H (.v 47 (vP ((u34 3).n 0) 0) <|
   .cons [48] (ok_ld (fun u128 => vI 9) 48 123 0 1 (fun u128 => ((u34 3).n 0)) (fun u128 => [vI 9, vI t36.A, vI t36.B, vI t36.C.Lo, vI t36.C.Hi]) 50) <|
   .v 49 (.bool false) <|
   .v 46 (.bool false) <| .nil) fun u128 a w' H => ?_
      replace H := H.kp [1, 3, 5, 7, 8, 9, 10, 19, 20, 21, 46, 112, 113, 114, 115, 116, 123, 141, 900004, 999999]
      refine k_cond_false H (by kernel_rfl) (by kernel_rfl) ?_
      refine k_seq ?_
      refine k_rg mixed H (.v 56 (vP ((u34 3).n 0) 0) <|
   .cons [57] (ok_ld (fun u129 => vI 9) 57 123 0 1 (fun u129 => ((u34 3).n 0)) (fun u129 => [vI 9, vI t36.A, vI t36.B, vI t36.C.Lo, vI t36.C.Hi]) 50) <|
   .v 58 (.bool false) <|
   .v 55 (.bool false) <| .nil) fun u129 a w' H => ?_
      replace H := H.kp [1, 3, 5, 7, 8, 9, 10, 19, 20, 21, 55, 112, 113, 114, 115, 116, 123, 141, 900004, 999999]
      refine k_cond_false H (by kernel_rfl) (by kernel_rfl) ?_
      refine k_seq ?_
      refine k_rg mixed H (.v 68 (vP ((u34 3).n 0) 0) <|
   .cons [69] (ok_ld (fun u130 => vI 9) 69 123 0 1 (fun u130 => ((u34 3).n 0)) (fun u130 => [vI 9, vI t36.A, vI t36.B, vI t36.C.Lo, vI t36.C.Hi]) 50) <|
   .v 70 (.bool false) <|
   .v 67 (.bool false) <| .nil) fun u130 a w' H => ?_
      replace H := H.kp [1, 3, 5, 7, 8, 9, 10, 19, 20, 21, 67, 112, 113, 114, 115, 116, 123, 141, 900004, 999999]
      refine k_cond_false H (by kernel_rfl) (by kernel_rfl) ?_
      refine k_seq ?_
      refine k_rg mixed H (.v 76 (vP ((u127 4).n 0) 0) <|
   .cons [77] (ok_ld (fun u131 => .nilFunc) 77 141 0 1 (fun u131 => ((u127 4).n 0)) (fun u131 => [.nilFunc, .func (.func 55) #[] #[]]) 65) <|
   .v 78 (.bool false) <|
   .v 75 (.bool false) <| .nil) fun u131 a w' H => ?_
      replace H := H.toM [(1, sS p_a1 a1.length c_a1), (3, (sP ((u1 0).n 0) 0)), (5, (sP ((u1 1).n 0) 0)), (7, sS p_x27 x27.length c_x27), (8, sI x28), (9, (sP ((u34 3).n 0) 0)), (10, (sP ((u127 4).n 0) 0)), (19, sS p_a0_L a0.L.length c_a0_L), (20, (sI (a0.L.length : Int))), (21, sI x28), (75, sB false), (112, rdl anyF 5 p_a0_L c_a0_L a0.L en_TInstruction), (113, rdl anyF 1 p_a0_Out c_a0_Out a0.Out en_i64), (114, rdl anyF 2 p_a1 c_a1 a1 en_TInterval), (115, .blk ((u1 0).n 0) [vI a0.N, .slice p_a0_L a0.L.length c_a0_L, .slice p_a0_Out a0.Out.length c_a0_Out] 25), (116, .blk ((u1 1).n 0) [vI a2.Lo, vI a2.Hi] 28), (123, .blk ((u34 3).n 0) [vI 9, vI t36.A, vI t36.B, vI t36.C.Lo, vI t36.C.Hi] 50), (141, .blk ((u127 4).n 0) [.nilFunc, .func (.func 55) #[] #[]] 65), (900004, owK 28 2 p_x27 x27.length c_x27 (x27.flatMap en_TInterval)), (999999, gk)]
      refine k_cond_false H (by kernel_rfl) (by kernel_rfl) ?_
      replace G := gd G; obtain ⟨b133, G⟩ := G
      replace G := bnd G; obtain ⟨t134, ht134, G⟩ := G
      have P135 := ptr_of (en := en_TInterval) (l := x27) (owns_rowC (ow_of (H.at (K := owK 28 2 p_x27 x27.length c_x27 (x27.flatMap en_TInterval)) 900004 (by kernel_rfl)))).2 en_TInterval_len
      replace G := gd G; obtain ⟨b136, G⟩ := G
      replace G := bnd G; obtain ⟨t137, ht137, G⟩ := G
      replace G := bnd G; obtain ⟨t138, ht138, G⟩ := G
      replace G := gd G; obtain ⟨b139, G⟩ := G
      replace G := bnd G; obtain ⟨t140, ht140, G⟩ := G
      refine k_rg mixed H (.v 30 (.slice p_x27 x27.length c_x27) <|
   .v 31 (vI x28) <|
   .v 32 (vP ((u127 4).n 0) 1) <|
   .cons [33] (ok_ld (fun u132 => .func (.func 55) #[] #[]) 33 141 1 1 (fun u132 => ((u127 4).n 0)) (fun u132 => [.nilFunc, .func (.func 55) #[] #[]]) 65) <|
   .v 34 (.slice p_x27 x27.length c_x27) <|
   .v 35 (vP ((u34 3).n 0) 1) <|
   .cons [36] (ok_ld (fun u132 => vI t36.A) 36 123 1 1 (fun u132 => ((u34 3).n 0)) (fun u132 => [vI 9, vI t36.A, vI t36.B, vI t36.C.Lo, vI t36.C.Hi]) 50) <|
   .cons [37] (ok_val (fun u132 => .pointer (some ⟨hdB p_x27, hdO p_x27 + t36.A.toNat * 2, none⟩)) 37 (hv := fun _ _ => ix_pure (t := 26) (k := .i64) (i := t36.A) (p := p_x27) (n := x27.length) (cap := c_x27) (x := x27) P135 rfl b133 (by kernel_rfl))) <|
   .cons [38] (ok_valL [900004] (fun u132 => [owK 28 2 p_x27 x27.length c_x27 (x27.flatMap en_TInterval)]) (fun u132 => .agg #[vI t134.Lo, vI t134.Hi]) (fun u132 => true) [true] 38 (fun u132 w hg hF => ld_row (en := en_TInterval) (owns_rowC (ow_of hF.1)).2 en_TInterval_len ht134 0 2 [vI t134.Lo, vI t134.Hi] rfl (by kernel_rfl))) <|
   .v 39 (.slice p_x27 x27.length c_x27) <|
   .v 40 (vP ((u34 3).n 0) 2) <|
   .cons [41] (ok_ld (fun u132 => vI t36.B) 41 123 2 1 (fun u132 => ((u34 3).n 0)) (fun u132 => [vI 9, vI t36.A, vI t36.B, vI t36.C.Lo, vI t36.C.Hi]) 50) <|
   .cons [42] (ok_val (fun u132 => .pointer (some ⟨hdB p_x27, hdO p_x27 + t36.B.toNat * 2, none⟩)) 42 (hv := fun _ _ => ix_pure (t := 26) (k := .i64) (i := t36.B) (p := p_x27) (n := x27.length) (cap := c_x27) (x := x27) P135 rfl b136 (by kernel_rfl))) <|
   .cons [43] (ok_valL [900004] (fun u132 => [owK 28 2 p_x27 x27.length c_x27 (x27.flatMap en_TInterval)]) (fun u132 => .agg #[vI t137.Lo, vI t137.Hi]) (fun u132 => true) [true] 43 (fun u132 w hg hF => ld_row (en := en_TInterval) (owns_rowC (ow_of hF.1)).2 en_TInterval_len ht137 0 2 [vI t137.Lo, vI t137.Hi] rfl (by kernel_rfl))) <|
   .cons [44] (ok_callL [999999] (fun u132 => [gk]) 55 (fun u132 => #[.agg #[vI t134.Lo, vI t134.Hi], .agg #[vI t137.Lo, vI t137.Hi]]) (.agg #[vI t138.Lo, vI t138.Hi]) 44 (fun u132 w hF => interval_Mul.calls t134 t137  t138 w  (glob_of hF.1) ht138)) <|
   .cons [45] (ok_val (fun u132 => .pointer (some ⟨hdB p_x27, hdO p_x27 + x28.toNat * 2, none⟩)) 45 (hv := fun _ _ => ix_pure (t := 26) (k := .i64) (i := x28) (p := p_x27) (n := x27.length) (cap := c_x27) (x := x27) P135 rfl b139 (by kernel_rfl))) <|
   .cons [900004, 900004] (ok_own1 [] [] (fun u132 => []) 900004 (fun u132 => owK 28 2 p_x27 x27.length c_x27 (x27.flatMap en_TInterval)) none (fun u132 g => .nilFunc) (fun u132 g => owK 28 2 p_x27 x27.length c_x27 ((x27.set x28.toNat t138).flatMap en_TInterval)) (fun u132 w hF hK => tv_set (el_storeN (ow_of hK) en_TInterval_len (y := t138) (vs := [vI t138.Lo, vI t138.Hi]) ht140 0 (by simp) (by simp) rfl (by kernel_rfl)))) <| .nil) fun u132 a w' H => ?_
      replace H := H.kp [1, 3, 5, 7, 19, 20, 21, 112, 113, 114, 115, 116, 900004, 999999]
      obtain rfl := Option.some.inj G
      replace H := H.move (K := owK 28 2 p_x27 x27.length c_x27 ((x27.set x28.toNat t138).flatMap en_TInterval)) 900004 900005 (by kernel_rfl) (by intro _ _ h; cases h)
      exact ⟨p_x27, c_x27, x27.length, by simp, H.toL _ (by kernel_rfl)⟩
     rw [if_neg c164] at G
     by_cases c165 : z37 = 10
     ·rw [if_pos c165] at G; subst c165
      try rw [hz37] at H
      refine k_rg mixed H (.v 26 (vP ((u34 3).n 0) 0) <|
   .cons [27] (ok_ld (fun u141 => vI 10) 27 123 0 1 (fun u141 => ((u34 3).n 0)) (fun u141 => [vI 10, vI t36.A, vI t36.B, vI t36.C.Lo, vI t36.C.Hi]) 50) <|
   .v 28 (vP 0 20) <|
   .cons [29] (ok_ldK (fun u141 => .agg #[.nilFunc, .func (.func 56) #[] #[]]) 29 999999 gk 0 20 2 gTab0 (fun w h => (glob_of h).tab0)) <|
   .cons [10, 143] (ok_new (fun b => vP b 0) (fun u141 => [.nilFunc, .nilFunc]) 65 10 143) <|
   .cons [143] (ok_as (u' := fun u141 => [(143, .blk ((u141 4).n 0) [.nilFunc, .func (.func 56) #[] #[]] 65)]) (ok_store 143 0 (fun u141 => ((u141 4).n 0)) (fun u141 => [.nilFunc, .nilFunc]) (fun u141 => [.nilFunc, .func (.func 56) #[] #[]]) 65) (fun _ => by kernel_rfl)) <| .nil) fun u141 a w' H => ?_
      replace H := H.kp [1, 3, 5, 7, 8, 9, 10, 19, 20, 21, 112, 113, 114, 115, 116, 123, 143, 900004, 999999]
      refine k_block ?_
      refine k_seq ?_
      refine k_rg mixed H (.v 47 (vP ((u34 3).n 0) 0) <|
   .cons [48] (ok_ld (fun u142 => vI 10) 48 123 0 1 (fun u142 => ((u34 3).n 0)) (fun u142 => [vI 10, vI t36.A, vI t36.B, vI t36.C.Lo, vI t36.C.Hi]) 50) <|
   .v 49 (.bool false) <|
   .v 46 (.bool false) <| .nil) fun u142 a w' H => ?_
      replace H := H.kp [1, 3, 5, 7, 8, 9, 10, 19, 20, 21, 46, 112, 113, 114, 115, 116, 123, 143, 900004, 999999]
      refine k_cond_false H (by kernel_rfl) (by kernel_rfl) ?_
      refine k_seq ?_
      refine k_rg mixed H (.v 56 (vP ((u34 3).n 0) 0) <|
   .cons [57] (ok_ld (fun u143 => vI 10) 57 123 0 1 (fun u143 => ((u34 3).n 0)) (fun u143 => [vI 10, vI t36.A, vI t36.B, vI t36.C.Lo, vI t36.C.Hi]) 50) <|
   .v 58 (.bool false) <|
   .v 55 (.bool false) <| .nil) fun u143 a w' H => ?_
      replace H := H.kp [1, 3, 5, 7, 8, 9, 10, 19, 20, 21, 55, 112, 113, 114, 115, 116, 123, 143, 900004, 999999]
      refine k_cond_false H (by kernel_rfl) (by kernel_rfl) ?_
      refine k_seq ?_
      refine k_rg mixed H (.v 68 (vP ((u34 3).n 0) 0) <|
   .cons [69] (ok_ld (fun u144 => vI 10) 69 123 0 1 (fun u144 => ((u34 3).n 0)) (fun u144 => [vI 10, vI t36.A, vI t36.B, vI t36.C.Lo, vI t36.C.Hi]) 50) <|
   .v 70 (.bool false) <|
   .v 67 (.bool false) <| .nil) fun u144 a w' H => ?_
      replace H := H.kp [1, 3, 5, 7, 8, 9, 10, 19, 20, 21, 67, 112, 113, 114, 115, 116, 123, 143, 900004, 999999]
      refine k_cond_false H (by kernel_rfl) (by kernel_rfl) ?_
      refine k_seq ?_
      refine k_rg mixed H (.v 76 (vP ((u141 4).n 0) 0) <|
   .cons [77] (ok_ld (fun u145 => .nilFunc) 77 143 0 1 (fun u145 => ((u141 4).n 0)) (fun u145 => [.nilFunc, .func (.func 56) #[] #[]]) 65) <|
   .v 78 (.bool false) <|
   .v 75 (.bool false) <| .nil) fun u145 a w' H => ?_
      replace H := H.kp [1, 3, 5, 7, 8, 9, 10, 19, 20, 21, 75, 112, 113, 114, 115, 116, 123, 143, 900004, 999999]
      refine k_cond_false H (by kernel_rfl) (by kernel_rfl) ?_
      replace G := gd G; obtain ⟨b147, G⟩ := G
      replace G := bnd G; obtain ⟨t148, ht148, G⟩ := G
      have P149 := ptr_of (en := en_TInterval) (l := x27) (owns_rowC (ow_of (H.at (K := owK 28 2 p_x27 x27.length c_x27 (x27.flatMap en_TInterval)) 900004 (by kernel_rfl)))).2 en_TInterval_len
      replace G := gd G; obtain ⟨b150, G⟩ := G
      replace G := bnd G; obtain ⟨t151, ht151, G⟩ := G
      replace G := bnd G; obtain ⟨t152, ht152, G⟩ := G
      replace G := gd G; obtain ⟨b153, G⟩ := G
      replace G := bnd G; obtain ⟨t154, ht154, G⟩ := G
      refine k_rg mixed H (.v 30 (.slice p_x27 x27.length c_x27) <|
   .v 31 (vI x28) <|
   .v 32 (vP ((u141 4).n 0) 1) <|
   .cons [33] (ok_ld (fun u146 => .func (.func 56) #[] #[]) 33 143 1 1 (fun u146 => ((u141 4).n 0)) (fun u146 => [.nilFunc, .func (.func 56) #[] #[]]) 65) <|
   .v 34 (.slice p_x27 x27.length c_x27) <|
   .v 35 (vP ((u34 3).n 0) 1) <|
   .cons [36] (ok_ld (fun u146 => vI t36.A) 36 123 1 1 (fun u146 => ((u34 3).n 0)) (fun u146 => [vI 10, vI t36.A, vI t36.B, vI t36.C.Lo, vI t36.C.Hi]) 50) <|
   .cons [37] (ok_val (fun u146 => .pointer (some ⟨hdB p_x27, hdO p_x27 + t36.A.toNat * 2, none⟩)) 37 (hv := fun _ _ => ix_pure (t := 26) (k := .i64) (i := t36.A) (p := p_x27) (n := x27.length) (cap := c_x27) (x := x27) P149 rfl b147 (by kernel_rfl))) <|
   .cons [38] (ok_valL [900004] (fun u146 => [owK 28 2 p_x27 x27.length c_x27 (x27.flatMap en_TInterval)]) (fun u146 => .agg #[vI t148.Lo, vI t148.Hi]) (fun u146 => true) [true] 38 (fun u146 w hg hF => ld_row (en := en_TInterval) (owns_rowC (ow_of hF.1)).2 en_TInterval_len ht148 0 2 [vI t148.Lo, vI t148.Hi] rfl (by kernel_rfl))) <|
   .v 39 (.slice p_x27 x27.length c_x27) <|
   .v 40 (vP ((u34 3).n 0) 2) <|
   .cons [41] (ok_ld (fun u146 => vI t36.B) 41 123 2 1 (fun u146 => ((u34 3).n 0)) (fun u146 => [vI 10, vI t36.A, vI t36.B, vI t36.C.Lo, vI t36.C.Hi]) 50) <|
   .cons [42] (ok_val (fun u146 => .pointer (some ⟨hdB p_x27, hdO p_x27 + t36.B.toNat * 2, none⟩)) 42 (hv := fun _ _ => ix_pure (t := 26) (k := .i64) (i := t36.B) (p := p_x27) (n := x27.length) (cap := c_x27) (x := x27) P149 rfl b150 (by kernel_rfl))) <|
   .cons [43] (ok_valL [900004] (fun u146 => [owK 28 2 p_x27 x27.length c_x27 (x27.flatMap en_TInterval)]) (fun u146 => .agg #[vI t151.Lo, vI t151.Hi]) (fun u146 => true) [true] 43 (fun u146 w hg hF => ld_row (en := en_TInterval) (owns_rowC (ow_of hF.1)).2 en_TInterval_len ht151 0 2 [vI t151.Lo, vI t151.Hi] rfl (by kernel_rfl))) <|
   .cons [44] (ok_callL [999999] (fun u146 => [gk]) 56 (fun u146 => #[.agg #[vI t148.Lo, vI t148.Hi], .agg #[vI t151.Lo, vI t151.Hi]]) (.agg #[vI t152.Lo, vI t152.Hi]) 44 (fun u146 w hF => interval_Div.calls t148 t151  t152 w  (glob_of hF.1) ht152)) <|
   .cons [45] (ok_val (fun u146 => .pointer (some ⟨hdB p_x27, hdO p_x27 + x28.toNat * 2, none⟩)) 45 (hv := fun _ _ => ix_pure (t := 26) (k := .i64) (i := x28) (p := p_x27) (n := x27.length) (cap := c_x27) (x := x27) P149 rfl b153 (by kernel_rfl))) <|
   .cons [900004, 900004] (ok_own1 [] [] (fun u146 => []) 900004 (fun u146 => owK 28 2 p_x27 x27.length c_x27 (x27.flatMap en_TInterval)) none (fun u146 g => .nilFunc) (fun u146 g => owK 28 2 p_x27 x27.length c_x27 ((x27.set x28.toNat t152).flatMap en_TInterval)) (fun u146 w hF hK => tv_set (el_storeN (ow_of hK) en_TInterval_len (y := t152) (vs := [vI t152.Lo, vI t152.Hi]) ht154 0 (by simp) (by simp) rfl (by kernel_rfl)))) <| .nil) fun u146 a w' H => ?_
      replace H := H.kp [1, 3, 5, 7, 19, 20, 21, 112, 113, 114, 115, 116, 900004, 999999]
      obtain rfl := Option.some.inj G
      replace H := H.move (K := owK 28 2 p_x27 x27.length c_x27 ((x27.set x28.toNat t152).flatMap en_TInterval)) 900004 900005 (by kernel_rfl) (by intro _ _ h; cases h)
      exact ⟨p_x27, c_x27, x27.length, by simp, H.toL _ (by kernel_rfl)⟩
     rw [if_neg c165] at G
     cases G
   ·rw [if_neg (nt c166)] at G
    refine k_exit rfl ?_
    obtain rfl := Option.some.inj G
    replace H := H.move (K := owK 28 2 p_x27 x27.length c_x27 (x27.flatMap en_TInterval)) 900004 900001 (by kernel_rfl) (by intro _ _ h; cases h)
    exact ⟨p_x27, c_x27, x27.length, rfl, H.toL _ (by kernel_rfl)⟩
set_option maxHeartbeats 4000000 in
theorem ode_arity.calls (a0 : Int) (r : Int) (w : World) (G : ode_arity a0 = some r) :
  Calls Tryd.prog 42 #[vI a0] w fun e w' => e = .returned (vI r) ∧ Below w.heap.size w w' := by
 refine k_enter (args := [vI a0]) 24 Tryd.func42 rfl (by kernel_rfl) (by kernel_rfl) fun a H => ?_
 unfold ode_arity at G
 refine k_seq ?_
 refine k_rg mixed H (.v 2 (vI 0) <| .nil) fun u1 a w' H => ?_
 replace H := H.kp [0]
 refine k_seq ?_
 refine k_block ?_
 refine k_seq ?_
 refine k_rg mixed H (.v 4 (vI a0) <|
   .v 5 (.bool (decide (a0 ≥ 1))) <|
   .v 6 (.bool (decide (a0 ≥ 1))) <|
   .cons [7] (ok_valg (fun u2 => vI a0) (fun u2 => ((decide (a0 ≥ 1)) == true)) [true] 7) <|
   .cons [8] (ok_valg (fun u2 => .bool (decide (a0 ≤ 3))) (fun u2 => ((decide (a0 ≥ 1)) == true)) [false, true] 8) <|
   .cons [9] (ok_and 6 8 (fun u2 => true) (fun u2 => true) (fun u2 => decide (a0 ≥ 1)) (fun u2 => decide (a0 ≤ 3)) 9) <|
   .v 3 (.bool ((decide (a0 ≥ 1)) && (decide (a0 ≤ 3)))) <| .nil) fun u2 a w' H => ?_
 replace H := H.kp [0, 3]
 refine k_cond H (by kernel_rfl) (t := ((decide (a0 ≥ 1)) && (decide (a0 ≤ 3)))) (by kernel_rfl) (fun c11 => ?_) (fun c11 => ?_)
 ·rw [if_pos c11] at G
  refine k_seq ?_
  refine k_rg mixed H (.v 2 (vI 0) <| .nil) fun u3 a w' H => ?_
  replace H := H.kp [2]
  refine k_ret ?_
  obtain rfl := Option.some.inj G
  exact k_done0 H _ (by kernel_rfl) (by kernel_rfl)
 ·rw [if_neg (nt c11)] at G
  refine k_seq ?_
  refine k_rg mixed H (.v 11 (vI a0) <|
   .v 12 (.bool (decide (a0 ≥ 4))) <|
   .v 13 (.bool (decide (a0 ≥ 4))) <|
   .cons [14] (ok_valg (fun u4 => vI a0) (fun u4 => ((decide (a0 ≥ 4)) == true)) [true] 14) <|
   .cons [15] (ok_valg (fun u4 => .bool (decide (a0 ≤ 6))) (fun u4 => ((decide (a0 ≥ 4)) == true)) [false, true] 15) <|
   .cons [16] (ok_and 13 15 (fun u4 => true) (fun u4 => true) (fun u4 => decide (a0 ≥ 4)) (fun u4 => decide (a0 ≤ 6)) 16) <|
   .v 10 (.bool ((decide (a0 ≥ 4)) && (decide (a0 ≤ 6)))) <| .nil) fun u4 a w' H => ?_
  replace H := H.kp [0, 10]
  refine k_cond H (by kernel_rfl) (t := ((decide (a0 ≥ 4)) && (decide (a0 ≤ 6)))) (by kernel_rfl) (fun c10 => ?_) (fun c10 => ?_)
  ·rw [if_pos c10] at G
   refine k_seq ?_
   refine k_rg mixed H (.v 2 (vI 1) <| .nil) fun u5 a w' H => ?_
   replace H := H.kp [2]
   refine k_ret ?_
   obtain rfl := Option.some.inj G
   exact k_done0 H _ (by kernel_rfl) (by kernel_rfl)
  ·rw [if_neg (nt c10)] at G
   refine k_seq ?_
   refine k_rg mixed H (.v 18 (vI a0) <|
   .v 19 (.bool (decide (a0 ≥ 7))) <|
   .v 20 (.bool (decide (a0 ≥ 7))) <|
   .cons [21] (ok_valg (fun u6 => vI a0) (fun u6 => ((decide (a0 ≥ 7)) == true)) [true] 21) <|
   .cons [22] (ok_valg (fun u6 => .bool (decide (a0 ≤ 10))) (fun u6 => ((decide (a0 ≥ 7)) == true)) [false, true] 22) <|
   .cons [23] (ok_and 20 22 (fun u6 => true) (fun u6 => true) (fun u6 => decide (a0 ≥ 7)) (fun u6 => decide (a0 ≤ 10)) 23) <|
   .v 17 (.bool ((decide (a0 ≥ 7)) && (decide (a0 ≤ 10)))) <| .nil) fun u6 a w' H => ?_
   replace H := H.kp [17]
   refine k_cond H (by kernel_rfl) (t := ((decide (a0 ≥ 7)) && (decide (a0 ≤ 10)))) (by kernel_rfl) (fun c9 => ?_) (fun c9 => ?_)
   ·rw [if_pos c9] at G
    refine k_seq ?_
    refine k_rg mixed H (.v 2 (vI 2) <| .nil) fun u7 a w' H => ?_
    replace H := H.kp [2]
    refine k_ret ?_
    obtain rfl := Option.some.inj G
    exact k_done0 H _ (by kernel_rfl) (by kernel_rfl)
   ·rw [if_neg (nt c9)] at G
    refine k_skip ?_
    refine k_seq ?_
    refine k_rg mixed H (.v 2 (vI (-1)) <| .nil) fun u8 a w' H => ?_
    replace H := H.kp [2]
    refine k_ret ?_
    obtain rfl := Option.some.inj G
    exact k_done0 H _ (by kernel_rfl) (by kernel_rfl)
set_option maxHeartbeats 4000000 in
theorem ode_exprLen.calls (k0 : Nat) (a0 : List TNode) (p_a0 : Option Addr) (c_a0 : Nat) (r : Int) (w : World) (hB : AllH [rdl anyF 4 p_a0 c_a0 a0 en_TNode] w) (G : ode_exprLen k0 a0 = some r) :
  Calls Tryd.prog 43 #[.slice p_a0 a0.length c_a0] w fun e w' => e = .returned (vI r) ∧ Below w.heap.size w w' := by
 obtain ⟨fr, hfr⟩ : ∃ fr : Nat → Prop, ∀ j, fr j := ⟨fun _ => True, fun _ => trivial⟩
 have hBf : ∀ j, w.heap.size ≤ j → fr j := fun j _ => hfr j
 refine k_enterF (args := [.slice p_a0 a0.length c_a0]) 27 [(27, rdl anyF 4 p_a0 c_a0 a0 en_TNode)] (by
  intro x hx
  simp only [List.mem_cons, List.not_mem_nil, or_false] at hx
  rcases hx with rfl
  exact rdF_fact (rdF_of hB.1) (fun _ _ => trivial) (by decide) _) Tryd.func43 rfl (by kernel_rfl) (by kernel_rfl) fun a H => ?_
 unfold ode_exprLen at G
 refine k_seq ?_
 refine k_rg mixed H (.v 2 (vI 0) <| .nil) fun u1 a w' H => ?_
 replace H := H.kp [0, 27]
 refine k_seq ?_
 refine k_rg mixed H (.v 3 (vI 1) <| .nil) fun u2 a w' H => ?_
 replace H := H.kp [0, 3, 27]
 refine k_seq ?_
 replace G := bnd G; obtain ⟨j3, hj3, Gj3⟩ := G
 refine k_join (fun a w' => ∃ j3v, j3 = Sum.inr j3v ∧ Rep w.heap.size w 27 (ofL [(0, sS p_a0 a0.length c_a0), (27, rdl anyF 4 p_a0 c_a0 a0 en_TNode)]) a w') ?_ ?_
 ·clear H; rintro a w' ⟨j3v, rfl, H⟩; have G := Gj3; clear Gj3; dsimp only at G
  refine k_seq ?_
  refine k_rg mixed H (.v 24 (.slice p_a0 a0.length c_a0) <|
   .v 25 (vI (a0.length : Int)) <|
   .v 26 (vI (w_i64 ((a0.length : Int) + 1))) <|
   .v 2 (vI (w_i64 ((a0.length : Int) + 1))) <| .nil) fun u4 a w' H => ?_
  replace H := H.kp [2]
  refine k_ret ?_
  obtain rfl := Option.some.inj G
  exact k_done0 H _ (by kernel_rfl) (by kernel_rfl)
 ·have G := hj3; clear hj3
  refine k_seq ?_
  refine k_rg mixed H (.v 6 (.slice p_a0 a0.length c_a0) <|
   .v 7 (vI (a0.length : Int)) <|
   .v 8 (vI 0) <| .nil) fun u5 a w' H => ?_
  replace H := H.kp [0, 3, 6, 7, 8, 27]
  refine k_block ?_
  refine k_loopJ (fun m a w' => ∃ x6 : Int, ∃ x7 : Int, ode_exprLen.l8 k0 a0 m x6 x7 = some j3 ∧ Rep w.heap.size w 27 (ofL [(0, sS p_a0 a0.length c_a0), (3, sI x6), (6, sS p_a0 a0.length c_a0), (7, (sI (a0.length : Int))), (8, sI x7), (27, rdl anyF 4 p_a0 c_a0 a0 en_TNode)]) a w') k0 ⟨_, _, G, H.toL _ (by kernel_rfl)⟩ ?_
  clear G H
  rintro (_ | k) a w' ⟨x6, x7, G, H⟩
  ·exact absurd G (by unfold ode_exprLen.l8; exact fun h => by cases h)
  ·unfold ode_exprLen.l8 at G
   refine k_seq ?_
   refine k_rg mixed H (.v 9 (.bool (decide (x7 < (a0.length : Int)))) <| .nil) fun u9 a w' H => ?_
   replace H := H.kp [0, 3, 6, 7, 8, 9, 27]
   refine k_seq ?_
   refine k_cond H (by kernel_rfl) (t := decide (x7 < (a0.length : Int))) (by kernel_rfl) (fun c19 => ?_) (fun c19 => ?_)
   ·rw [if_pos c19] at G
    refine k_skip ?_
    refine k_seq ?_
    refine k_block ?_
    refine k_seq ?_
    replace G := gd G; obtain ⟨b11, G⟩ := G
    replace G := bnd G; obtain ⟨t12, ht12, G⟩ := G
    refine k_rg mixed H (.v 10 (vI x7) <|
   .cons [11] (ok_valL [27] (fun u10 => [rdl anyF 4 p_a0 c_a0 a0 en_TNode]) (fun u10 => .pointer (some ⟨hdB p_a0, hdO p_a0 + x7.toNat * 4, none⟩)) (fun u10 => true) [true, true] 11 (fun u10 w hg hF => ix_row (t := 48) (k := .i64) (i := x7) (p := p_a0) (n := a0.length) (cap := c_a0) (x := a0) (en := en_TNode) (rdF_of hF.1).2 en_TNode_len rfl b11 (by kernel_rfl))) <|
   .cons [12] (ok_valL [27] (fun u10 => [rdl anyF 4 p_a0 c_a0 a0 en_TNode]) (fun u10 => .agg #[vI t12.Op, vI t12.N, vI t12.C.Lo, vI t12.C.Hi]) (fun u10 => true) [true] 12 (fun u10 w hg hF => ld_row (en := en_TNode) (rdF_of hF.1).2 en_TNode_len ht12 0 4 [vI t12.Op, vI t12.N, vI t12.C.Lo, vI t12.C.Hi] rfl (by kernel_rfl))) <|
   .cons [5, 28] (ok_new (fun b => vP b 0) (fun u10 => [vI 0, vI 0, vI 0, vI 0]) 47 5 28) <|
   .v 4 (vI x7) <|
   .cons [28] (ok_as (u' := fun u10 => [(28, .blk ((u10 3).n 0) [vI t12.Op, vI t12.N, vI t12.C.Lo, vI t12.C.Hi] 47)]) (ok_store 28 0 (fun u10 => ((u10 3).n 0)) (fun u10 => [vI 0, vI 0, vI 0, vI 0]) (fun u10 => [vI t12.Op, vI t12.N, vI t12.C.Lo, vI t12.C.Hi]) 47) (fun _ => by kernel_rfl)) <| .nil) fun u10 a w' H => ?_
    replace H := H.kp [0, 3, 4, 5, 6, 7, 8, 27, 28]
    refine k_seq ?_
    replace G := bnd G; obtain ⟨t14, ht14, G⟩ := G
    refine k_rg mixed H (.v 13 (vI x6) <|
   .v 14 (vP ((u10 3).n 0) 0) <|
   .cons [15] (ok_ld (fun u13 => vI t12.Op) 15 28 0 1 (fun u13 => ((u10 3).n 0)) (fun u13 => [vI t12.Op, vI t12.N, vI t12.C.Lo, vI t12.C.Hi]) 47) <|
   .cons [16] (ok_callv 42 (fun u13 => #[vI t12.Op]) (vI t14) 16 [] (fun u13 w _ => ode_arity.calls t12.Op  t14 w  ht14)) <|
   .v 17 (vI (w_i64 (t14 - 1))) <|
   .v 18 (vI (w_i64 (x6 + (w_i64 (t14 - 1))))) <|
   .v 3 (vI (w_i64 (x6 + (w_i64 (t14 - 1))))) <| .nil) fun u13 a w' H => ?_
    replace H := H.kp [0, 3, 4, 6, 7, 8, 27]
    refine k_seq ?_
    refine k_rg mixed H (.v 19 (vI (w_i64 (x6 + (w_i64 (t14 - 1))))) <|
   .v 20 (.bool ((w_i64 (x6 + (w_i64 (t14 - 1)))) == 0)) <| .nil) fun u15 a w' H => ?_
    replace H := H.kp [0, 3, 4, 6, 7, 8, 20, 27]
    refine k_cond H (by kernel_rfl) (t := ((w_i64 (x6 + (w_i64 (t14 - 1)))) == 0)) (by kernel_rfl) (fun c18 => ?_) (fun c18 => ?_)
    ·rw [if_pos c18] at G
     refine k_seq ?_
     refine k_rg mixed H (.v 21 (vI x7) <|
   .v 22 (vI (w_i64 (x7 + 1))) <|
   .v 2 (vI (w_i64 (x7 + 1))) <| .nil) fun u16 a w' H => ?_
     replace H := H.kp [2]
     refine k_ret ?_
     obtain rfl := Option.some.inj G
     replace G := Gj3
     obtain rfl := Option.some.inj G
     exact k_done0 H _ (by kernel_rfl) (by kernel_rfl)
    ·rw [if_neg (nt c18)] at G
     refine k_skip ?_
     refine k_rg mixed H (.v 23 (vI (w_i64 (x7 + 1))) <|
   .v 8 (vI (w_i64 (x7 + 1))) <| .nil) fun u17 a w' H => ?_
     replace H := H.kp [0, 3, 6, 7, 8, 27]
     exact ⟨k, Nat.lt_succ_self k, _, _, G, H.toL _ (by kernel_rfl)⟩
   ·rw [if_neg (nt c19)] at G
    refine k_exit rfl ?_
    obtain rfl := Option.some.inj G
    exact ⟨_, rfl, H.toL _ (by kernel_rfl)⟩
end Go.Proofs.YtbpgobecpmjaeaaDoor
