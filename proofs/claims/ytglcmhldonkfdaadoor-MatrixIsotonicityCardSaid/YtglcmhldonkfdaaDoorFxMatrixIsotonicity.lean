/- Functions that the law MatrixIsotonicity alone reaches. Printed by a program of this session. -/
import Derived.Test.YtglcmhldonkfdaaDoorFn3
set_option linter.unusedVariables false
set_option linter.unusedSimpArgs false
set_option maxRecDepth 100000
namespace Go.Proofs.YtglcmhldonkfdaaDoor
open Go Go.RowKit Go.Sx Go.Proofs
set_option maxHeartbeats 4000000 in
theorem armillaryref03_Hull.calls (k0 : Nat) (a0 : List TInterval) (a1 : List TInterval) (p_a0 : Option Addr) (c_a0 : Nat) (p_a1 : Option Addr) (c_a1 : Nat) (r : List TInterval) (w : World) (hB : AllH [rdl anyF 2 p_a0 c_a0 a0 en_TInterval, rdl anyF 2 p_a1 c_a1 a1 en_TInterval] w) (G : armillaryref03_Hull k0 a0 a1 = some r) :
  Calls Tryd.prog 23 #[.slice p_a0 a0.length c_a0, .slice p_a1 a1.length c_a1] w fun e w' => ∃ g : Gh, e = .returned (.slice (g.o 0) r.length (g.n 0)) ∧ But (fpK []) w w' ∧ OutOK w.heap.size (fpK []) (frI w.heap.size []) [fun _ => owK 37 2 (g.o 0) r.length (g.n 0) (r.flatMap en_TInterval)] w' := by
 obtain ⟨fr, hfr⟩ : ∃ fr : Nat → Prop, fr = frI w.heap.size [] := ⟨_, rfl⟩
 have hBf : ∀ j, w.heap.size ≤ j → fr j := fun j h => by rw [hfr]; exact .inl h
 refine k_enterF (args := [.slice p_a0 a0.length c_a0, .slice p_a1 a1.length c_a1]) 27 [(27, rdl anyF 2 p_a0 c_a0 a0 en_TInterval), (28, rdl anyF 2 p_a1 c_a1 a1 en_TInterval)] (by
  intro x hx
  simp only [List.mem_cons, List.not_mem_nil, or_false] at hx
  rcases hx with rfl | rfl
  ·exact rdF_fact (rdF_of hB.1) (fun _ _ => trivial) (by decide) _
  ·exact rdF_fact (rdF_of hB.2.1) (fun _ _ => trivial) (by decide) _) Tryd.func23 rfl (by kernel_rfl) (by kernel_rfl) fun a H => ?_
 unfold armillaryref03_Hull at G
 refine k_seq ?_
 refine k_rg mixed H (.v 4 (.slice none 0 0) <| .nil) fun u1 a w' H => ?_
 replace H := H.kp [0, 1, 27, 28]
 refine k_seq ?_
 refine k_rg mixed H (.cons [7, 29] (ok_new (fun b => .slice (some ⟨b, 0, none⟩) 0 0) (fun u2 => []) 37 7 29) <|
   .cons [5] (ok_val (fun u2 => .slice (some ⟨((u2 0).n 0), 0, none⟩) 0 0) 5) <| .nil) fun u2 a w' H => ?_
 replace H := H.kp [0, 1, 5, 27, 28, 29]
 refine k_seq ?_
 replace G := bnd G; obtain ⟨j4, hj4, G⟩ := G
 refine k_join (fun a w' => ∃ (p_j3 : Option Addr) (c_j3 np_j3 : Nat), np_j3 = j4.length ∧ Rep w.heap.size w 27 (ofL [(5, sS p_j3 np_j3 c_j3), (900129, owK 37 2 p_j3 np_j3 c_j3 (j4.flatMap en_TInterval))]) a w') ?_ ?_
 ·clear H; rintro a w' ⟨p_j3, c_j3, _, rfl, H⟩
  refine k_seq ?_
  refine k_rg mixed H (.v 26 (.slice p_j3 j4.length c_j3) <|
   .v 4 (.slice p_j3 j4.length c_j3) <| .nil) fun u5 a w' H => ?_
  replace H := H.kp [4, 900129]
  refine k_ret ?_
  obtain rfl := Option.some.inj G
  obtain ⟨g, o0, n0⟩ : ∃ g : Gh, g.o 0 = p_j3 ∧ g.n 0 = c_j3 := ⟨⟨fun i => [c_j3].getD i 0, fun i => [p_j3].getD i none, fun i => ([⟨Unit, ()⟩] : List ((T : Type) × T)).getD i ⟨Unit, ()⟩⟩, rfl, rfl⟩
  refine k_doneZ H (fun g => .slice (g.o 0) j4.length (g.n 0)) g [] [] (fun g => [fun _ => owK 37 2 (g.o 0) j4.length (g.n 0) (j4.flatMap en_TInterval)]) fr [900129] [] (.slice p_j3 j4.length c_j3) [fun _ => owK 37 2 p_j3 j4.length c_j3 (j4.flatMap en_TInterval)] (by simp only [o0, n0]) (by simp only [o0, n0]) hfr (.inl ⟨rfl, rfl⟩) (fams_cons fam_ow fams_nil) (by simp)
 ·clear G; replace G := hj4; clear hj4
  refine k_seq ?_
  refine k_rg mixed H (.v 6 (vI 0) <| .nil) fun u6 a w' H => ?_
  replace H := H.kp [0, 1, 5, 6, 27, 28, 29]
  refine k_block ?_
  replace H := H.blk_row 29 ((u2 0).n 0) [] 37 2 0 (by kernel_rfl) (by kernel_rfl) (by decide)
  replace H := H.move (K := owK 37 2 (some ⟨((u2 0).n 0), 0, none⟩) 0 0 (([] : List TInterval).flatMap en_TInterval)) 29 900130 (by kernel_rfl) (by intro _ _ h; cases h)
  refine k_loopJ (fun m a w' => ∃ x7 : List TInterval, ∃ x8 : Int, armillaryref03_Hull.l9 k0 a0 a1 m x7 x8 = some j4 ∧ ∃ (p_x7 : Option Addr) (c_x7 np_x7 : Nat), np_x7 = x7.length ∧ Rep w.heap.size w 27 (ofL [(0, sS p_a0 a0.length c_a0), (1, sS p_a1 a1.length c_a1), (5, sS p_x7 np_x7 c_x7), (6, sI x8), (27, rdl anyF 2 p_a0 c_a0 a0 en_TInterval), (28, rdl anyF 2 p_a1 c_a1 a1 en_TInterval), (900130, owK 37 2 p_x7 np_x7 c_x7 (x7.flatMap en_TInterval))]) a w') k0 ⟨_, _, G, (some ⟨((u2 0).n 0), 0, none⟩), 0, 0, rfl, H.toL _ (by kernel_rfl)⟩ ?_
  clear G H
  rintro (_ | k) a w' ⟨x7, x8, G, p_x7, c_x7, _, rfl, H⟩
  ·exact absurd G (by unfold armillaryref03_Hull.l9; exact fun h => by cases h)
  ·unfold armillaryref03_Hull.l9 at G
   refine k_seq ?_
   refine k_seq ?_
   refine k_rg mixed H (.v 8 (vI x8) <|
   .v 9 (.slice p_a0 a0.length c_a0) <|
   .v 10 (vI (a0.length : Int)) <|
   .v 11 (.bool (decide (x8 < (a0.length : Int)))) <| .nil) fun u10 a w' H => ?_
   replace H := H.kp [0, 1, 5, 6, 11, 27, 28, 900130]
   refine k_cond H (by kernel_rfl) (t := decide (x8 < (a0.length : Int))) (by kernel_rfl) (fun c21 => ?_) (fun c21 => ?_)
   ·rw [if_pos c21] at G
    refine k_skip ?_
    refine k_seq ?_
    refine k_block ?_
    replace G := gd G; obtain ⟨b12, G⟩ := G
    replace G := bnd G; obtain ⟨t13, ht13, G⟩ := G
    have P14 := ptr_of (en := en_TInterval) (l := a0) (rdF_of (H.at (K := rdl anyF 2 p_a0 c_a0 a0 en_TInterval) 27 (by kernel_rfl))).2 en_TInterval_len
    replace G := gd G; obtain ⟨b15, G⟩ := G
    replace G := bnd G; obtain ⟨t16, ht16, G⟩ := G
    have P17 := ptr_of (en := en_TInterval) (l := a1) (rdF_of (H.at (K := rdl anyF 2 p_a1 c_a1 a1 en_TInterval) 28 (by kernel_rfl))).2 en_TInterval_len
    replace G := bnd G; obtain ⟨t18, ht18, G⟩ := G
    replace G := gd G; obtain ⟨b19, G⟩ := G
    refine k_rg mixed H (.v 14 (.slice p_x7 x7.length c_x7) <|
   .v 15 (.slice p_a0 a0.length c_a0) <|
   .v 16 (vI x8) <|
   .cons [17] (ok_val (fun u11 => .pointer (some ⟨hdB p_a0, hdO p_a0 + x8.toNat * 2, none⟩)) 17 (hv := fun _ _ => ix_pure (t := 22) (k := .i64) (i := x8) (p := p_a0) (n := a0.length) (cap := c_a0) (x := a0) P14 rfl b12 (by kernel_rfl))) <|
   .cons [18] (ok_valL [27] (fun u11 => [rdl anyF 2 p_a0 c_a0 a0 en_TInterval]) (fun u11 => .agg #[vI t13.Lo, vI t13.Hi]) (fun u11 => true) [true] 18 (fun u11 w hg hF => ld_row (en := en_TInterval) (rdF_of hF.1).2 en_TInterval_len ht13 0 2 [vI t13.Lo, vI t13.Hi] rfl (by kernel_rfl))) <|
   .v 19 (.slice p_a1 a1.length c_a1) <|
   .v 20 (vI x8) <|
   .cons [21] (ok_val (fun u11 => .pointer (some ⟨hdB p_a1, hdO p_a1 + x8.toNat * 2, none⟩)) 21 (hv := fun _ _ => ix_pure (t := 22) (k := .i64) (i := x8) (p := p_a1) (n := a1.length) (cap := c_a1) (x := a1) P17 rfl b15 (by kernel_rfl))) <|
   .cons [22] (ok_valL [28] (fun u11 => [rdl anyF 2 p_a1 c_a1 a1 en_TInterval]) (fun u11 => .agg #[vI t16.Lo, vI t16.Hi]) (fun u11 => true) [true] 22 (fun u11 w hg hF => ld_row (en := en_TInterval) (rdF_of hF.1).2 en_TInterval_len ht16 0 2 [vI t16.Lo, vI t16.Hi] rfl (by kernel_rfl))) <|
   .cons [23] (ok_callv 41 (fun u11 => #[.agg #[vI t13.Lo, vI t13.Hi], .agg #[vI t16.Lo, vI t16.Hi]]) (.agg #[vI t18.Lo, vI t18.Hi]) 23 [] (fun u11 w _ => armillaryref02_Hull.calls t13 t16  t18 w  ht18)) <|
   .cons [24, 30] (ok_new (fun b => .slice (some ⟨b, 0, none⟩) 1 1) (fun u11 => [vI t18.Lo, vI t18.Hi]) 37 24 30) <|
   .cons [25, 900130, 900130] (ok_own1 [10] [30] (fun u11 => [.blk ((u11 10).n 0) [vI t18.Lo, vI t18.Hi] 37]) 900130 (fun u11 => owK 37 2 p_x7 x7.length c_x7 (x7.flatMap en_TInterval)) (some 25) (fun u11 g => .slice (g.o 0) (x7 ++ [t18]).length (g.n 0)) (fun u11 g => owK 37 2 (g.o 0) ((x7 ++ [t18]).length) (g.n 0) ((x7 ++ [t18]).flatMap en_TInterval)) (fun u11 w hF hK => tv_app (run_app_rowN (t := 22) (ty := 22) (en := en_TInterval) en_TInterval_len inf37 (ow_of hK) hF.1 (news := [t18]) rfl (by simp) (by kernel_rfl) b19)) (hloc := fun u u' h => ⟨by first | rfl | simp only [h 10 (by decide)], by first | rfl | simp only [h 10 (by decide)], by first | rfl | simp only [h 10 (by decide)], by first | rfl | simp only [h 10 (by decide)]⟩)) <|
   .cons [5] (ok_val (fun u11 => .slice ((u11 11).o 0) ((x7 ++ [t18]).length) ((u11 11).n 0)) 5) <| .nil) fun u11 a w' H => ?_
    replace H := H.kp [0, 1, 5, 6, 27, 28, 900130]
    refine k_rg mixed H (.v 12 (vI x8) <|
   .v 13 (vI (w_i64 (x8 + 1))) <|
   .v 6 (vI (w_i64 (x8 + 1))) <| .nil) fun u20 a w' H => ?_
    replace H := H.kp [0, 1, 5, 6, 27, 28, 900130]
    exact ⟨k, Nat.lt_succ_self k, _, _, G, ((u11 11).o 0), ((u11 11).n 0), (x7 ++ [t18]).length, rfl, H.toL _ (by kernel_rfl)⟩
   ·rw [if_neg (nt c21)] at G
    refine k_exit rfl ?_
    obtain rfl := Option.some.inj G
    replace H := H.move (K := owK 37 2 p_x7 x7.length c_x7 (x7.flatMap en_TInterval)) 900130 900129 (by kernel_rfl) (by intro _ _ h; cases h)
    exact ⟨p_x7, c_x7, x7.length, rfl, H.toL _ (by kernel_rfl)⟩
set_option maxHeartbeats 4000000 in
theorem armillaryref02_Subset.calls (a0 : TInterval) (a1 : TInterval) (r : Bool) (w : World) (G : armillaryref02_Subset a0 a1 = some r) :
  Calls Tryd.prog 62 #[.agg #[vI a0.Lo, vI a0.Hi], .agg #[vI a1.Lo, vI a1.Hi]] w fun e w' => e = .returned (.bool r) ∧ Below w.heap.size w w' := by
 refine k_enter (args := [.agg #[vI a0.Lo, vI a0.Hi], .agg #[vI a1.Lo, vI a1.Hi]]) 17 Tryd.func62 rfl (by kernel_rfl) (by kernel_rfl) fun a H => ?_
 unfold armillaryref02_Subset at G
 refine k_seq ?_
 refine k_rg mixed H (.cons [2, 17] (ok_new (fun b => vP b 0) (fun u1 => [vI a0.Lo, vI a0.Hi]) 37 2 17) <|
   .cons [3, 18] (ok_new (fun b => vP b 0) (fun u1 => [vI a1.Lo, vI a1.Hi]) 37 3 18) <|
   .v 4 (.bool false) <| .nil) fun u1 a w' H => ?_
 replace H := H.kp [2, 3, 17, 18]
 refine k_seq ?_
 refine k_rg mixed H (.v 5 (vP ((u1 1).n 0) 0) <|
   .cons [6] (ok_ld (fun u2 => vI a1.Lo) 6 18 0 1 (fun u2 => ((u1 1).n 0)) (fun u2 => [vI a1.Lo, vI a1.Hi]) 37) <|
   .v 7 (vP ((u1 0).n 0) 0) <|
   .cons [8] (ok_ld (fun u2 => vI a0.Lo) 8 17 0 1 (fun u2 => ((u1 0).n 0)) (fun u2 => [vI a0.Lo, vI a0.Hi]) 37) <|
   .v 9 (.bool (decide (a1.Lo ≤ a0.Lo))) <|
   .v 10 (.bool (decide (a1.Lo ≤ a0.Lo))) <|
   .cons [11] (ok_valg (fun u2 => vP ((u1 0).n 0) 1) (fun u2 => ((decide (a1.Lo ≤ a0.Lo)) == true)) [true] 11) <|
   .cons [12] (ok_ldg (fun u2 => vI a0.Hi) (fun u2 => ((decide (a1.Lo ≤ a0.Lo)) == true)) [false] 12 17 1 1 (fun u2 => ((u1 0).n 0)) (fun u2 => [vI a0.Lo, vI a0.Hi]) 37) <|
   .cons [13] (ok_valg (fun u2 => vP ((u1 1).n 0) 1) (fun u2 => ((decide (a1.Lo ≤ a0.Lo)) == true)) [true] 13) <|
   .cons [14] (ok_ldg (fun u2 => vI a1.Hi) (fun u2 => ((decide (a1.Lo ≤ a0.Lo)) == true)) [false] 14 18 1 1 (fun u2 => ((u1 1).n 0)) (fun u2 => [vI a1.Lo, vI a1.Hi]) 37) <|
   .cons [15] (ok_valg (fun u2 => .bool (decide (a0.Hi ≤ a1.Hi))) (fun u2 => ((decide (a1.Lo ≤ a0.Lo)) == true)) [false, false] 15) <|
   .cons [16] (ok_and 10 15 (fun u2 => true) (fun u2 => true) (fun u2 => decide (a1.Lo ≤ a0.Lo)) (fun u2 => decide (a0.Hi ≤ a1.Hi)) 16) <|
   .v 4 (.bool ((decide (a1.Lo ≤ a0.Lo)) && (decide (a0.Hi ≤ a1.Hi)))) <| .nil) fun u2 a w' H => ?_
 replace H := H.kp [4]
 refine k_ret ?_
 obtain rfl := Option.some.inj G
 exact k_done0 H _ (by kernel_rfl) (by kernel_rfl)
set_option maxHeartbeats 4000000 in
theorem armillaryref03_Subset.calls (k0 : Nat) (a0 : List TInterval) (a1 : List TInterval) (p_a0 : Option Addr) (c_a0 : Nat) (p_a1 : Option Addr) (c_a1 : Nat) (r : Bool) (w : World) (hB : AllH [rdl anyF 2 p_a0 c_a0 a0 en_TInterval, rdl anyF 2 p_a1 c_a1 a1 en_TInterval] w) (G : armillaryref03_Subset k0 a0 a1 = some r) :
  Calls Tryd.prog 24 #[.slice p_a0 a0.length c_a0, .slice p_a1 a1.length c_a1] w fun e w' => e = .returned (.bool r) ∧ Below w.heap.size w w' := by
 obtain ⟨fr, hfr⟩ : ∃ fr : Nat → Prop, ∀ j, fr j := ⟨fun _ => True, fun _ => trivial⟩
 have hBf : ∀ j, w.heap.size ≤ j → fr j := fun j _ => hfr j
 refine k_enterF (args := [.slice p_a0 a0.length c_a0, .slice p_a1 a1.length c_a1]) 22 [(22, rdl anyF 2 p_a0 c_a0 a0 en_TInterval), (23, rdl anyF 2 p_a1 c_a1 a1 en_TInterval)] (by
  intro x hx
  simp only [List.mem_cons, List.not_mem_nil, or_false] at hx
  rcases hx with rfl | rfl
  ·exact rdF_fact (rdF_of hB.1) (fun _ _ => trivial) (by decide) _
  ·exact rdF_fact (rdF_of hB.2.1) (fun _ _ => trivial) (by decide) _) Tryd.func24 rfl (by kernel_rfl) (by kernel_rfl) fun a H => ?_
 unfold armillaryref03_Subset at G
 refine k_seq ?_
 refine k_rg mixed H (.v 4 (.bool false) <| .nil) fun u1 a w' H => ?_
 replace H := H.kp [0, 1, 22, 23]
 refine k_seq ?_
 replace G := bnd G; obtain ⟨j2, hj2, Gj2⟩ := G
 refine k_join (fun a w' => ∃ j2v, j2 = Sum.inr j2v ∧ Rep w.heap.size w 22 (ofL []) a w') ?_ ?_
 ·clear H; rintro a w' ⟨j2v, rfl, H⟩; have G := Gj2; clear Gj2; dsimp only at G
  refine k_seq ?_
  refine k_rg mixed H (.v 4 (.bool true) <| .nil) fun u3 a w' H => ?_
  replace H := H.kp [4]
  refine k_ret ?_
  obtain rfl := Option.some.inj G
  exact k_done0 H _ (by kernel_rfl) (by kernel_rfl)
 ·have G := hj2; clear hj2
  refine k_seq ?_
  refine k_rg mixed H (.v 5 (vI 0) <| .nil) fun u4 a w' H => ?_
  replace H := H.kp [0, 1, 5, 22, 23]
  refine k_block ?_
  refine k_loopJ (fun m a w' => ∃ x5 : Int, armillaryref03_Subset.l6 k0 a0 a1 m x5 = some j2 ∧ Rep w.heap.size w 22 (ofL [(0, sS p_a0 a0.length c_a0), (1, sS p_a1 a1.length c_a1), (5, sI x5), (22, rdl anyF 2 p_a0 c_a0 a0 en_TInterval), (23, rdl anyF 2 p_a1 c_a1 a1 en_TInterval)]) a w') k0 ⟨_, G, H.toL _ (by kernel_rfl)⟩ ?_
  clear G H
  rintro (_ | k) a w' ⟨x5, G, H⟩
  ·exact absurd G (by unfold armillaryref03_Subset.l6; exact fun h => by cases h)
  ·unfold armillaryref03_Subset.l6 at G
   refine k_seq ?_
   refine k_seq ?_
   refine k_rg mixed H (.v 6 (vI x5) <|
   .v 7 (.slice p_a0 a0.length c_a0) <|
   .v 8 (vI (a0.length : Int)) <|
   .v 9 (.bool (decide (x5 < (a0.length : Int)))) <| .nil) fun u7 a w' H => ?_
   replace H := H.kp [0, 1, 5, 9, 22, 23]
   refine k_cond H (by kernel_rfl) (t := decide (x5 < (a0.length : Int))) (by kernel_rfl) (fun c19 => ?_) (fun c19 => ?_)
   ·rw [if_pos c19] at G
    refine k_skip ?_
    refine k_seq ?_
    refine k_block ?_
    refine k_seq ?_
    replace G := gd G; obtain ⟨b9, G⟩ := G
    replace G := bnd G; obtain ⟨t10, ht10, G⟩ := G
    have P11 := ptr_of (en := en_TInterval) (l := a0) (rdF_of (H.at (K := rdl anyF 2 p_a0 c_a0 a0 en_TInterval) 22 (by kernel_rfl))).2 en_TInterval_len
    replace G := gd G; obtain ⟨b12, G⟩ := G
    replace G := bnd G; obtain ⟨t13, ht13, G⟩ := G
    have P14 := ptr_of (en := en_TInterval) (l := a1) (rdF_of (H.at (K := rdl anyF 2 p_a1 c_a1 a1 en_TInterval) 23 (by kernel_rfl))).2 en_TInterval_len
    replace G := bnd G; obtain ⟨t15, ht15, G⟩ := G
    refine k_rg mixed H (.v 12 (.slice p_a0 a0.length c_a0) <|
   .v 13 (vI x5) <|
   .cons [14] (ok_val (fun u8 => .pointer (some ⟨hdB p_a0, hdO p_a0 + x5.toNat * 2, none⟩)) 14 (hv := fun _ _ => ix_pure (t := 22) (k := .i64) (i := x5) (p := p_a0) (n := a0.length) (cap := c_a0) (x := a0) P11 rfl b9 (by kernel_rfl))) <|
   .cons [15] (ok_valL [22] (fun u8 => [rdl anyF 2 p_a0 c_a0 a0 en_TInterval]) (fun u8 => .agg #[vI t10.Lo, vI t10.Hi]) (fun u8 => true) [true] 15 (fun u8 w hg hF => ld_row (en := en_TInterval) (rdF_of hF.1).2 en_TInterval_len ht10 0 2 [vI t10.Lo, vI t10.Hi] rfl (by kernel_rfl))) <|
   .v 16 (.slice p_a1 a1.length c_a1) <|
   .v 17 (vI x5) <|
   .cons [18] (ok_val (fun u8 => .pointer (some ⟨hdB p_a1, hdO p_a1 + x5.toNat * 2, none⟩)) 18 (hv := fun _ _ => ix_pure (t := 22) (k := .i64) (i := x5) (p := p_a1) (n := a1.length) (cap := c_a1) (x := a1) P14 rfl b12 (by kernel_rfl))) <|
   .cons [19] (ok_valL [23] (fun u8 => [rdl anyF 2 p_a1 c_a1 a1 en_TInterval]) (fun u8 => .agg #[vI t13.Lo, vI t13.Hi]) (fun u8 => true) [true] 19 (fun u8 w hg hF => ld_row (en := en_TInterval) (rdF_of hF.1).2 en_TInterval_len ht13 0 2 [vI t13.Lo, vI t13.Hi] rfl (by kernel_rfl))) <|
   .cons [20] (ok_callv 62 (fun u8 => #[.agg #[vI t10.Lo, vI t10.Hi], .agg #[vI t13.Lo, vI t13.Hi]]) (.bool t15) 20 [] (fun u8 w _ => armillaryref02_Subset.calls t10 t13  t15 w  ht15)) <|
   .v 21 (.bool (!t15)) <| .nil) fun u8 a w' H => ?_
    replace H := H.kp [0, 1, 5, 21, 22, 23]
    refine k_cond H (by kernel_rfl) (t := (!t15)) (by kernel_rfl) (fun c18 => ?_) (fun c18 => ?_)
    ·rw [if_pos c18] at G
     refine k_seq ?_
     refine k_rg mixed H (.v 4 (.bool false) <| .nil) fun u16 a w' H => ?_
     replace H := H.kp [4]
     refine k_ret ?_
     obtain rfl := Option.some.inj G
     replace G := Gj2
     obtain rfl := Option.some.inj G
     exact k_done0 H _ (by kernel_rfl) (by kernel_rfl)
    ·rw [if_neg (nt c18)] at G
     refine k_skip ?_
     refine k_rg mixed H (.v 10 (vI x5) <|
   .v 11 (vI (w_i64 (x5 + 1))) <|
   .v 5 (vI (w_i64 (x5 + 1))) <| .nil) fun u17 a w' H => ?_
     replace H := H.kp [0, 1, 5, 22, 23]
     exact ⟨k, Nat.lt_succ_self k, _, G, H.toL _ (by kernel_rfl)⟩
   ·rw [if_neg (nt c19)] at G
    refine k_exit rfl ?_
    obtain rfl := Option.some.inj G
    exact ⟨_, rfl, H.toL _ (by kernel_rfl)⟩
end Go.Proofs.YtglcmhldonkfdaaDoor
