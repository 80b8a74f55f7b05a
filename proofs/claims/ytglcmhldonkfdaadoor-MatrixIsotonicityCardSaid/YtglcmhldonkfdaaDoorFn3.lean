/- Each function of the program answers as the plain Lean function of its name (part 3). Printed by a program of this session. -/
import Derived.Test.YtglcmhldonkfdaaDoorFn2
set_option linter.unusedVariables false
set_option linter.unusedSimpArgs false
set_option maxRecDepth 100000
namespace Go.Proofs.YtglcmhldonkfdaaDoor
open Go Go.RowKit Go.Sx Go.Proofs
set_option maxHeartbeats 4000000 in
theorem armillaryref02_IsEntire.calls (a0 : TInterval) (r : Bool) (w : World) (G : armillaryref02_IsEntire a0 = some r) :
  Calls Tryd.prog 40 #[.agg #[vI a0.Lo, vI a0.Hi]] w fun e w' => e = .returned (.bool r) ∧ Below w.heap.size w w' := by
 refine k_enter (args := [.agg #[vI a0.Lo, vI a0.Hi]]) 11 Tryd.func40 rfl (by kernel_rfl) (by kernel_rfl) fun a H => ?_
 unfold armillaryref02_IsEntire at G
 refine k_seq ?_
 refine k_rg mixed H (.cons [1, 11] (ok_new (fun b => vP b 0) (fun u1 => [vI a0.Lo, vI a0.Hi]) 37 1 11) <|
   .v 2 (.bool false) <| .nil) fun u1 a w' H => ?_
 replace H := H.kp [1, 11]
 refine k_seq ?_
 refine k_rg mixed H (.v 3 (vP ((u1 0).n 0) 0) <|
   .cons [4] (ok_ld (fun u2 => vI a0.Lo) 4 11 0 1 (fun u2 => ((u1 0).n 0)) (fun u2 => [vI a0.Lo, vI a0.Hi]) 37) <|
   .v 5 (.bool (a0.Lo == (-2147483648))) <|
   .v 6 (.bool (a0.Lo == (-2147483648))) <|
   .cons [7] (ok_valg (fun u2 => vP ((u1 0).n 0) 1) (fun u2 => ((a0.Lo == (-2147483648)) == true)) [true] 7) <|
   .cons [8] (ok_ldg (fun u2 => vI a0.Hi) (fun u2 => ((a0.Lo == (-2147483648)) == true)) [false] 8 11 1 1 (fun u2 => ((u1 0).n 0)) (fun u2 => [vI a0.Lo, vI a0.Hi]) 37) <|
   .cons [9] (ok_valg (fun u2 => .bool (a0.Hi == 2147483648)) (fun u2 => ((a0.Lo == (-2147483648)) == true)) [false, true] 9) <|
   .cons [10] (ok_and 6 9 (fun u2 => true) (fun u2 => true) (fun u2 => (a0.Lo == (-2147483648))) (fun u2 => (a0.Hi == 2147483648)) 10) <|
   .v 2 (.bool ((a0.Lo == (-2147483648)) && (a0.Hi == 2147483648))) <| .nil) fun u2 a w' H => ?_
 replace H := H.kp [2]
 refine k_ret ?_
 obtain rfl := Option.some.inj G
 exact k_done0 H _ (by kernel_rfl) (by kernel_rfl)
set_option maxHeartbeats 4000000 in
theorem armillaryref02_Valid.calls (a0 : TInterval) (r : Bool) (w : World) (G : armillaryref02_Valid a0 = some r) :
  Calls Tryd.prog 16 #[.agg #[vI a0.Lo, vI a0.Hi]] w fun e w' => e = .returned (.bool r) ∧ Below w.heap.size w w' := by
 refine k_enter (args := [.agg #[vI a0.Lo, vI a0.Hi]]) 22 Tryd.func16 rfl (by kernel_rfl) (by kernel_rfl) fun a H => ?_
 unfold armillaryref02_Valid at G
 refine k_seq ?_
 refine k_rg mixed H (.cons [1, 22] (ok_new (fun b => vP b 0) (fun u1 => [vI a0.Lo, vI a0.Hi]) 37 1 22) <|
   .v 2 (.bool false) <| .nil) fun u1 a w' H => ?_
 replace H := H.kp [1, 22]
 refine k_seq ?_
 replace G := bnd G; obtain ⟨t3, ht3, G⟩ := G
 replace G := bnd G; obtain ⟨t4, ht4, G⟩ := G
 replace G := bnd G; obtain ⟨t5, ht5, G⟩ := G
 refine k_rg mixed H (.cons [3] (ok_ld (fun u2 => .agg #[vI a0.Lo, vI a0.Hi]) 3 22 0 2 (fun u2 => ((u1 0).n 0)) (fun u2 => [vI a0.Lo, vI a0.Hi]) 37) <|
   .cons [4] (ok_callv 40 (fun u2 => #[.agg #[vI a0.Lo, vI a0.Hi]]) (.bool t3) 4 [] (fun u2 w _ => armillaryref02_IsEntire.calls a0  t3 w  ht3)) <|
   .v 5 (.bool t3) <|
   .cons [6] (ok_valg (fun u2 => vP ((u1 0).n 0) 0) (fun u2 => (t3 == false)) [true] 6) <|
   .cons [7] (ok_ldg (fun u2 => vI a0.Lo) (fun u2 => (t3 == false)) [false] 7 22 0 1 (fun u2 => ((u1 0).n 0)) (fun u2 => [vI a0.Lo, vI a0.Hi]) 37) <|
   .cons [8] (ok_call 55 (fun u2 => #[vI a0.Lo]) (.bool t4) (fun u2 => (t3 == false)) [true, false] 8 [] (fun u2 w hg _ => armillaryref02_Number.calls a0.Lo  t4 w  (ifp ht4 hg))) <|
   .cons [9] (ok_valg (fun u2 => .bool t4) (fun u2 => (t3 == false)) [false] 9) <|
   .cons [10] (ok_valg (fun u2 => vP ((u1 0).n 0) 1) (fun u2 => ((t3 == false) && (t4 == true))) [true] 10) <|
   .cons [11] (ok_ldg (fun u2 => vI a0.Hi) (fun u2 => ((t3 == false) && (t4 == true))) [false] 11 22 1 1 (fun u2 => ((u1 0).n 0)) (fun u2 => [vI a0.Lo, vI a0.Hi]) 37) <|
   .cons [12] (ok_call 55 (fun u2 => #[vI a0.Hi]) (.bool t5) (fun u2 => ((t3 == false) && (t4 == true))) [true, false] 12 [] (fun u2 w hg _ => armillaryref02_Number.calls a0.Hi  t5 w  (ifp ht5 hg))) <|
   .cons [13] (ok_and 9 12 (fun u2 => (t3 == false)) (fun u2 => (t3 == false)) (fun u2 => t4) (fun u2 => t5) 13) <|
   .cons [14] (ok_valg (fun u2 => .bool (t4 && t5)) (fun u2 => (t3 == false)) [false] 14) <|
   .cons [15] (ok_valg (fun u2 => vP ((u1 0).n 0) 0) (fun u2 => ((t3 == false) && ((t4 && t5) == true))) [true] 15) <|
   .cons [16] (ok_ldg (fun u2 => vI a0.Lo) (fun u2 => ((t3 == false) && ((t4 && t5) == true))) [false] 16 22 0 1 (fun u2 => ((u1 0).n 0)) (fun u2 => [vI a0.Lo, vI a0.Hi]) 37) <|
   .cons [17] (ok_valg (fun u2 => vP ((u1 0).n 0) 1) (fun u2 => ((t3 == false) && ((t4 && t5) == true))) [true] 17) <|
   .cons [18] (ok_ldg (fun u2 => vI a0.Hi) (fun u2 => ((t3 == false) && ((t4 && t5) == true))) [false] 18 22 1 1 (fun u2 => ((u1 0).n 0)) (fun u2 => [vI a0.Lo, vI a0.Hi]) 37) <|
   .cons [19] (ok_valg (fun u2 => .bool (decide (a0.Lo ≤ a0.Hi))) (fun u2 => ((t3 == false) && ((t4 && t5) == true))) [false, false] 19) <|
   .cons [20] (ok_and 14 19 (fun u2 => (t3 == false)) (fun u2 => (t3 == false)) (fun u2 => (t4 && t5)) (fun u2 => decide (a0.Lo ≤ a0.Hi)) 20) <|
   .cons [21] (ok_or 5 20 (fun u2 => true) (fun u2 => true) (fun u2 => t3) (fun u2 => ((t4 && t5) && (decide (a0.Lo ≤ a0.Hi)))) 21) <|
   .v 2 (.bool (t3 || ((t4 && t5) && (decide (a0.Lo ≤ a0.Hi))))) <| .nil) fun u2 a w' H => ?_
 replace H := H.kp [2]
 refine k_ret ?_
 obtain rfl := Option.some.inj G
 exact k_done0 H _ (by kernel_rfl) (by kernel_rfl)
set_option maxHeartbeats 4000000 in
theorem armillaryref02_Made.calls (a0 : TInterval) (r : TInterval) (w : World) (G : armillaryref02_Made a0 = some r) :
  Calls Tryd.prog 90 #[.agg #[vI a0.Lo, vI a0.Hi]] w fun e w' => e = .returned (.agg #[vI r.Lo, vI r.Hi]) ∧ Below w.heap.size w w' := by
 refine k_enter (args := [.agg #[vI a0.Lo, vI a0.Hi]]) 13 Tryd.func90 rfl (by kernel_rfl) (by kernel_rfl) fun a H => ?_
 unfold armillaryref02_Made at G
 refine k_seq ?_
 refine k_rg mixed H (.cons [1, 13] (ok_new (fun b => vP b 0) (fun u1 => [vI a0.Lo, vI a0.Hi]) 37 1 13) <|
   .cons [2, 14] (ok_new (fun b => vP b 0) (fun u1 => [vI 0, vI 0]) 37 2 14) <| .nil) fun u1 a w' H => ?_
 replace H := H.kp [1, 2, 13, 14]
 refine k_seq ?_
 refine k_seq ?_
 replace G := bnd G; obtain ⟨t3, ht3, G⟩ := G
 refine k_rg mixed H (.cons [3] (ok_ld (fun u2 => .agg #[vI a0.Lo, vI a0.Hi]) 3 13 0 2 (fun u2 => ((u1 0).n 0)) (fun u2 => [vI a0.Lo, vI a0.Hi]) 37) <|
   .cons [4] (ok_callv 16 (fun u2 => #[.agg #[vI a0.Lo, vI a0.Hi]]) (.bool t3) 4 [] (fun u2 w _ => armillaryref02_Valid.calls a0  t3 w  ht3)) <| .nil) fun u2 a w' H => ?_
 replace H := H.kp [1, 2, 4, 13, 14]
 refine k_cond H (by kernel_rfl) (t := t3) (by kernel_rfl) (fun c11 => ?_) (fun c11 => ?_)
 ·rw [if_pos c11] at G
  refine k_seq ?_
  refine k_rg mixed H (.cons [5] (ok_ld (fun u4 => .agg #[vI a0.Lo, vI a0.Hi]) 5 13 0 2 (fun u4 => ((u1 0).n 0)) (fun u4 => [vI a0.Lo, vI a0.Hi]) 37) <|
   .cons [14] (ok_as (u' := fun u4 => [(14, .blk ((u1 1).n 0) [vI a0.Lo, vI a0.Hi] 37)]) (ok_store 14 0 (fun u4 => ((u1 1).n 0)) (fun u4 => [vI 0, vI 0]) (fun u4 => [vI a0.Lo, vI a0.Hi]) 37) (fun _ => by kernel_rfl)) <| .nil) fun u4 a w' H => ?_
  replace H := H.kp [2, 14]
  refine k_ret ?_
  obtain rfl := Option.some.inj G
  exact k_done1 H _ 14 ((u1 1).n 0) [vI a0.Lo, vI a0.Hi] 37 0 2 (by kernel_rfl) (by kernel_rfl) (by kernel_rfl) (by kernel_rfl)
 ·rw [if_neg (nt c11)] at G
  refine k_skip ?_
  refine k_seq ?_
  refine k_seq ?_
  refine k_rg mixed H (.v 6 (vP ((u1 0).n 0) 0) <|
   .cons [7] (ok_ld (fun u5 => vI a0.Lo) 7 13 0 1 (fun u5 => ((u1 0).n 0)) (fun u5 => [vI a0.Lo, vI a0.Hi]) 37) <|
   .v 8 (vI (b_and .i64 a0.Lo 31)) <|
   .v 9 (.bool ((b_and .i64 a0.Lo 31) == 7)) <| .nil) fun u5 a w' H => ?_
  replace H := H.kp [1, 2, 9, 13, 14]
  refine k_cond H (by kernel_rfl) (t := ((b_and .i64 a0.Lo 31) == 7)) (by kernel_rfl) (fun c10 => ?_) (fun c10 => ?_)
  ·rw [if_pos c10] at G
   refine k_seq ?_
   replace G := bnd G; obtain ⟨t7, ht7, G⟩ := G
   refine k_rg mixed H (.cons [10] (ok_callv 80 (fun u6 => #[]) (.agg #[vI t7.Lo, vI t7.Hi]) 10 [] (fun u6 w _ => armillaryref02_Entire.calls   t7 w  ht7)) <|
   .cons [14] (ok_as (u' := fun u6 => [(14, .blk ((u1 1).n 0) [vI t7.Lo, vI t7.Hi] 37)]) (ok_store 14 0 (fun u6 => ((u1 1).n 0)) (fun u6 => [vI 0, vI 0]) (fun u6 => [vI t7.Lo, vI t7.Hi]) 37) (fun _ => by kernel_rfl)) <| .nil) fun u6 a w' H => ?_
   replace H := H.kp [2, 14]
   refine k_ret ?_
   obtain rfl := Option.some.inj G
   exact k_done1 H _ 14 ((u1 1).n 0) [vI t7.Lo, vI t7.Hi] 37 0 2 (by kernel_rfl) (by kernel_rfl) (by kernel_rfl) (by kernel_rfl)
  ·rw [if_neg (nt c10)] at G
   refine k_skip ?_
   refine k_seq ?_
   replace G := bnd G; obtain ⟨t9, ht9, G⟩ := G
   refine k_rg mixed H (.cons [11] (ok_ld (fun u8 => .agg #[vI a0.Lo, vI a0.Hi]) 11 13 0 2 (fun u8 => ((u1 0).n 0)) (fun u8 => [vI a0.Lo, vI a0.Hi]) 37) <|
   .cons [12] (ok_callv 88 (fun u8 => #[.agg #[vI a0.Lo, vI a0.Hi]]) (.agg #[vI t9.Lo, vI t9.Hi]) 12 [] (fun u8 w _ => armillaryref02_Small.calls a0  t9 w  ht9)) <|
   .cons [14] (ok_as (u' := fun u8 => [(14, .blk ((u1 1).n 0) [vI t9.Lo, vI t9.Hi] 37)]) (ok_store 14 0 (fun u8 => ((u1 1).n 0)) (fun u8 => [vI 0, vI 0]) (fun u8 => [vI t9.Lo, vI t9.Hi]) 37) (fun _ => by kernel_rfl)) <| .nil) fun u8 a w' H => ?_
   replace H := H.kp [2, 14]
   refine k_ret ?_
   obtain rfl := Option.some.inj G
   exact k_done1 H _ 14 ((u1 1).n 0) [vI t9.Lo, vI t9.Hi] 37 0 2 (by kernel_rfl) (by kernel_rfl) (by kernel_rfl) (by kernel_rfl)
set_option maxHeartbeats 4000000 in
theorem armillaryref04_Made.calls (k0 : Nat) (a0 : List TInterval) (a1 : Int) (p_a0 : Option Addr) (c_a0 : Nat) (r : List (List TInterval)) (w : World) (hB : AllH [rdl anyF 2 p_a0 c_a0 a0 en_TInterval] w) (G : armillaryref04_Made k0 a0 a1 = some r) :
  Calls Tryd.prog 60 #[.slice p_a0 a0.length c_a0, vI a1] w fun e w' => ∃ g : Gh, e = .returned (.slice (g.o 0) ((g.dl Sl.l gd_S_TInterval 0 r).length) (g.n 0)) ∧ But (fpK []) w w' ∧ OutOK w.heap.size (fpK []) (frI w.heap.size []) [fun _ => nsK 22 37 2 en_TInterval (g.o 0) ((g.dl Sl.l gd_S_TInterval 0 r).length) (g.n 0) (g.dl Sl.l gd_S_TInterval 0 r) (g.dl Sl.l gd_S_TInterval 0 r)] w' := by
 obtain ⟨fr, hfr⟩ : ∃ fr : Nat → Prop, fr = frI w.heap.size [] := ⟨_, rfl⟩
 have hBf : ∀ j, w.heap.size ≤ j → fr j := fun j h => by rw [hfr]; exact .inl h
 refine k_enterF (args := [.slice p_a0 a0.length c_a0, vI a1]) 46 [(46, rdl anyF 2 p_a0 c_a0 a0 en_TInterval)] (by
  intro x hx
  simp only [List.mem_cons, List.not_mem_nil, or_false] at hx
  rcases hx with rfl
  exact rdF_fact (rdF_of hB.1) (fun _ _ => trivial) (by decide) _) Tryd.func60 rfl (by kernel_rfl) (by kernel_rfl) fun a H => ?_
 unfold armillaryref04_Made at G
 refine k_seq ?_
 refine k_rg mixed H (.v 4 (.slice none 0 0) <| .nil) fun u1 a w' H => ?_
 replace H := H.kp [0, 1, 46]
 refine k_seq ?_
 replace G := bnd G; obtain ⟨t3, ht3, G⟩ := G
 refine k_rg mixed H (.v 8 (vI a1) <|
   .cons [9, 47] (ok_callY false fr [] [] (fun u2 => []) [] (fun u2 => []) 43 (fun u2 => #[vI a1]) (fun u2 => []) (fun u2 => []) (fun u2 g => .slice (g.o 0) ((g.dl Sl.l gd_S_TInterval 0 t3).length) (g.n 0)) (fun u2 g => [fun _ => nsK 22 37 2 en_TInterval (g.o 0) ((g.dl Sl.l gd_S_TInterval 0 t3).length) (g.n 0) (g.dl Sl.l gd_S_TInterval 0 t3) (g.dl Sl.l gd_S_TInterval 0 t3)]) [47] 9 (fun u2 w hB hF hM => armillaryref04_Identity.calls k0 a1  t3 w  ht3) (fun u2 w hF => ⟨trivial, trivial⟩) (fun u2 g => (fams_cons fam_ns fams_nil)) (.inr (fun u2 g => (famx_cons trivial (fun K h => by cases h)))) (fun h => by cases h)) <|
   .cons [5] (ok_val (fun u2 => .slice ((u2 1).o 0) (((u2 1).dl Sl.l gd_S_TInterval 0 t3).length) ((u2 1).n 0)) 5) <| .nil) fun u2 a w' H => ?_
 replace H := H.kp [0, 1, 5, 46, 47]
 refine k_seq ?_
 replace G := bnd G; obtain ⟨j5, hj5, G⟩ := G
 refine k_join (fun a w' => ∃ (p_j4 : Option Addr) (c_j4 np_j4 : Nat) (L_j4 : List (Sl TInterval)), np_j4 = L_j4.length ∧ j5 = L_j4.map Sl.l ∧ Rep w.heap.size w 46 (ofL [(5, sS p_j4 np_j4 c_j4), (900119, nsK 22 37 2 en_TInterval p_j4 np_j4 c_j4 L_j4 L_j4)]) a w') ?_ ?_
 ·clear H; rintro a w' ⟨p_j4, c_j4, _, L_j4, rfl, h_j4, H⟩
  refine k_seq ?_
  refine k_rg mixed H (.v 45 (.slice p_j4 L_j4.length c_j4) <|
   .v 4 (.slice p_j4 L_j4.length c_j4) <| .nil) fun u6 a w' H => ?_
  replace H := H.kp [4, 900119]
  refine k_ret ?_
  obtain rfl := Option.some.inj G
  obtain ⟨g, o0, n0, d0⟩ : ∃ g : Gh, g.o 0 = p_j4 ∧ g.n 0 = c_j4 ∧ g.dl Sl.l gd_S_TInterval 0 j5 = L_j4 := ⟨⟨fun i => [c_j4].getD i 0, fun i => [p_j4].getD i none, fun i => ([⟨List (Sl TInterval), L_j4⟩] : List ((T : Type) × T)).getD i ⟨Unit, ()⟩⟩, rfl, rfl, dl_mk rfl h_j4⟩
  refine k_doneZ H (fun g => .slice (g.o 0) ((g.dl Sl.l gd_S_TInterval 0 j5).length) (g.n 0)) g [] [] (fun g => [fun _ => nsK 22 37 2 en_TInterval (g.o 0) ((g.dl Sl.l gd_S_TInterval 0 j5).length) (g.n 0) (g.dl Sl.l gd_S_TInterval 0 j5) (g.dl Sl.l gd_S_TInterval 0 j5)]) fr [900119] [] (.slice p_j4 L_j4.length c_j4) [fun _ => nsK 22 37 2 en_TInterval p_j4 L_j4.length c_j4 L_j4 L_j4] (by simp only [o0, n0, d0]) (by simp only [o0, n0, d0]) hfr (.inl ⟨rfl, rfl⟩) (fams_cons fam_ns fams_nil) (by simp)
 ·clear G; replace G := hj5; clear hj5
  refine k_seq ?_
  refine k_rg mixed H (.v 6 (vI 0) <| .nil) fun u7 a w' H => ?_
  replace H := H.kp [0, 1, 5, 6, 46, 47]
  refine k_block ?_
  replace H := H.move (K := nsK 22 37 2 en_TInterval ((u2 1).o 0) (((u2 1).dl Sl.l gd_S_TInterval 0 t3).length) ((u2 1).n 0) ((u2 1).dl Sl.l gd_S_TInterval 0 t3) ((u2 1).dl Sl.l gd_S_TInterval 0 t3)) 47 900121 (by kernel_rfl) (by intro _ _ h; cases h)
  refine k_loopJ (fun m a w' => ∃ x8 : List (List TInterval), ∃ x9 : Int, armillaryref04_Made.l10 k0 a0 a1 t3 m x8 x9 = some j5 ∧ ∃ (p_x8 : Option Addr) (c_x8 np_x8 : Nat) (L_x8 : List (Sl TInterval)), np_x8 = L_x8.length ∧ x8 = L_x8.map Sl.l ∧ Rep w.heap.size w 46 (ofL [(0, sS p_a0 a0.length c_a0), (1, sI a1), (5, sS p_x8 np_x8 c_x8), (6, sI x9), (46, rdl anyF 2 p_a0 c_a0 a0 en_TInterval), (900121, nsK 22 37 2 en_TInterval p_x8 np_x8 c_x8 L_x8 L_x8)]) a w') k0 ⟨_, _, G, ((u2 1).o 0), ((u2 1).n 0), ((u2 1).dl Sl.l gd_S_TInterval 0 t3).length, ((u2 1).dl Sl.l gd_S_TInterval 0 t3), rfl, (dl_er ergd_S_TInterval (u2 1) 0 t3), H.toL _ (by kernel_rfl)⟩ ?_
  clear G H
  rintro (_ | k) a w' ⟨x8, x9, G, p_x8, c_x8, _, L_x8, rfl, h_x8, H⟩
  ·exact absurd G (by unfold armillaryref04_Made.l10; exact fun h => by cases h)
  ·unfold armillaryref04_Made.l10 at G
   refine k_seq ?_
   refine k_seq ?_
   refine k_rg mixed H (.v 10 (vI x9) <|
   .v 11 (vI a1) <|
   .v 12 (.bool (decide (x9 < a1))) <| .nil) fun u11 a w' H => ?_
   replace H := H.kp [0, 1, 5, 6, 12, 46, 900121]
   refine k_cond H (by kernel_rfl) (t := decide (x9 < a1)) (by kernel_rfl) (fun c33 => ?_) (fun c33 => ?_)
   ·rw [if_pos c33] at G
    refine k_skip ?_
    refine k_seq ?_
    replace G := bnd G; obtain ⟨j13, hj13, G⟩ := G
    refine k_join (fun a w' => ∃ (p_j12 : Option Addr) (c_j12 np_j12 : Nat) (L_j12 : List (Sl TInterval)), np_j12 = L_j12.length ∧ j13 = L_j12.map Sl.l ∧ Rep w.heap.size w 46 (ofL [(0, sS p_a0 a0.length c_a0), (1, sI a1), (5, sS p_j12 np_j12 c_j12), (6, sI x9), (46, rdl anyF 2 p_a0 c_a0 a0 en_TInterval), (900123, nsK 22 37 2 en_TInterval p_j12 np_j12 c_j12 L_j12 L_j12)]) a w') ?_ ?_
    ·clear H; rintro a w' ⟨p_j12, c_j12, _, L_j12, rfl, h_j12, H⟩
     refine k_rg mixed H (.v 13 (vI x9) <|
   .v 14 (vI (w_i64 (x9 + 1))) <|
   .v 6 (vI (w_i64 (x9 + 1))) <| .nil) fun u14 a w' H => ?_
     replace H := H.kp [0, 1, 5, 6, 46, 900123]
     replace H := H.move (K := nsK 22 37 2 en_TInterval p_j12 L_j12.length c_j12 L_j12 L_j12) 900123 900121 (by kernel_rfl) (by intro _ _ h; cases h)
     exact ⟨k, Nat.lt_succ_self k, _, _, G, p_j12, c_j12, L_j12.length, L_j12, rfl, h_j12, H.toL _ (by kernel_rfl)⟩
    ·clear G; replace G := hj13; clear hj13
     refine k_block ?_
     refine k_seq ?_
     refine k_rg mixed H (.v 7 (vI 0) <| .nil) fun u15 a w' H => ?_
     replace H := H.kp [0, 1, 5, 6, 7, 46, 900121]
     refine k_block ?_
     replace H := H.move (K := nsK 22 37 2 en_TInterval p_x8 L_x8.length c_x8 L_x8 L_x8) 900121 900125 (by kernel_rfl) (by intro _ _ h; cases h)
     refine k_loopJ (fun m a w' => ∃ x16 : List (List TInterval), ∃ x17 : Int, armillaryref04_Made.l18 k0 a0 a1 t3 x8 x9 m x16 x17 = some j13 ∧ ∃ (p_x16 : Option Addr) (c_x16 np_x16 : Nat) (L_x16 : List (Sl TInterval)), np_x16 = L_x16.length ∧ x16 = L_x16.map Sl.l ∧ Rep w.heap.size w 46 (ofL [(0, sS p_a0 a0.length c_a0), (1, sI a1), (5, sS p_x16 np_x16 c_x16), (6, sI x9), (7, sI x17), (46, rdl anyF 2 p_a0 c_a0 a0 en_TInterval), (900125, nsK 22 37 2 en_TInterval p_x16 np_x16 c_x16 L_x16 L_x16)]) a w') k0 ⟨_, _, G, p_x8, c_x8, L_x8.length, L_x8, rfl, h_x8, H.toL _ (by kernel_rfl)⟩ ?_
     clear G H
     rintro (_ | k) a w' ⟨x16, x17, G, p_x16, c_x16, _, L_x16, rfl, h_x16, H⟩
     ·exact absurd G (by unfold armillaryref04_Made.l18; exact fun h => by cases h)
     ·unfold armillaryref04_Made.l18 at G
      refine k_seq ?_
      refine k_seq ?_
      refine k_rg mixed H (.v 15 (vI x17) <|
   .v 16 (vI a1) <|
   .v 17 (.bool (decide (x17 < a1))) <|
   .v 18 (.bool (decide (x17 < a1))) <|
   .cons [19] (ok_valg (fun u19 => vI x9) (fun u19 => ((decide (x17 < a1)) == true)) [true] 19) <|
   .cons [20] (ok_valg (fun u19 => vI a1) (fun u19 => ((decide (x17 < a1)) == true)) [true] 20) <|
   .cons [21] (ok_valg (fun u19 => vI (w_i64 (x9 * a1))) (fun u19 => ((decide (x17 < a1)) == true)) [false, false] 21) <|
   .cons [22] (ok_valg (fun u19 => vI x17) (fun u19 => ((decide (x17 < a1)) == true)) [true] 22) <|
   .cons [23] (ok_valg (fun u19 => vI (w_i64 ((w_i64 (x9 * a1)) + x17))) (fun u19 => ((decide (x17 < a1)) == true)) [false, false] 23) <|
   .cons [24] (ok_valg (fun u19 => .slice p_a0 a0.length c_a0) (fun u19 => ((decide (x17 < a1)) == true)) [true] 24) <|
   .cons [25] (ok_valg (fun u19 => vI (a0.length : Int)) (fun u19 => ((decide (x17 < a1)) == true)) [false] 25) <|
   .cons [26] (ok_valg (fun u19 => .bool (decide ((w_i64 ((w_i64 (x9 * a1)) + x17)) < (a0.length : Int)))) (fun u19 => ((decide (x17 < a1)) == true)) [false, false] 26) <|
   .cons [27] (ok_and 18 26 (fun u19 => true) (fun u19 => true) (fun u19 => decide (x17 < a1)) (fun u19 => decide ((w_i64 ((w_i64 (x9 * a1)) + x17)) < (a0.length : Int))) 27) <| .nil) fun u19 a w' H => ?_
      replace H := H.kp [0, 1, 5, 6, 7, 19, 20, 21, 22, 23, 24, 25, 26, 27, 46, 900125]
      refine k_cond H (by kernel_rfl) (t := ((decide (x17 < a1)) && (decide ((w_i64 ((w_i64 (x9 * a1)) + x17)) < (a0.length : Int))))) (by kernel_rfl) (fun c32 => ?_) (fun c32 => ?_)
      ·rw [if_pos c32] at G
       refine k_skip ?_
       refine k_seq ?_
       refine k_block ?_
       replace G := gd G; obtain ⟨b21, G⟩ := G
       replace G := bnd G; obtain ⟨t22, ht22, G⟩ := G
       obtain ⟨p_t22, c_t22, y_t22⟩ := sl_get h_x16 ht22
       have P23 := ptr_of (en := enSl) (l := L_x16) (ns_of (H.at (K := nsK 22 37 2 en_TInterval p_x16 L_x16.length c_x16 L_x16 L_x16) 900125 (by kernel_rfl))).row.2 enSl_len
       replace G := gd G; obtain ⟨b24, G⟩ := G
       replace G := bnd G; obtain ⟨t25, ht25, G⟩ := G
       have P26 := ptr_of (en := en_TInterval) (l := a0) (rdF_of (H.at (K := rdl anyF 2 p_a0 c_a0 a0 en_TInterval) 46 (by kernel_rfl))).2 en_TInterval_len
       replace G := bnd G; obtain ⟨t27, ht27, G⟩ := G
       replace G := gd G; obtain ⟨b28, G⟩ := G
       replace G := bnd G; obtain ⟨t29, ht29, G⟩ := G
       have P30 := ptr_of (en := en_TInterval) (l := t22) ((ns_of (H.at (K := nsK 22 37 2 en_TInterval p_x16 L_x16.length c_x16 L_x16 L_x16) 900125 (by kernel_rfl))).one y_t22).2 en_TInterval_len
       refine k_rg mixed H (.v 30 (.slice p_x16 L_x16.length c_x16) <|
   .v 31 (vI x9) <|
   .cons [32] (ok_val (fun u20 => .pointer (some ⟨hdB p_x16, hdO p_x16 + x9.toNat * 1, none⟩)) 32 (hv := fun _ _ => ix_pure (t := 27) (k := .i64) (i := x9) (p := p_x16) (n := L_x16.length) (cap := c_x16) (x := x16) P23 (map_len h_x16) b21 (by kernel_rfl))) <|
   .cons [33] (ok_valL [900125] (fun u20 => [nsK 22 37 2 en_TInterval p_x16 L_x16.length c_x16 L_x16 L_x16]) (fun u20 => .slice p_t22 t22.length c_t22) (fun u20 => true) [true] 33 (fun u20 w hg hF => ld_row (en := enSl) (ns_of hF.1).row.2 enSl_len y_t22 0 1 [.slice p_t22 t22.length c_t22] rfl (by kernel_rfl))) <|
   .v 34 (vI x17) <|
   .v 35 (.slice p_a0 a0.length c_a0) <|
   .v 36 (vI x9) <|
   .v 37 (vI a1) <|
   .v 38 (vI (w_i64 (x9 * a1))) <|
   .v 39 (vI x17) <|
   .v 40 (vI (w_i64 ((w_i64 (x9 * a1)) + x17))) <|
   .cons [41] (ok_val (fun u20 => .pointer (some ⟨hdB p_a0, hdO p_a0 + ((w_i64 ((w_i64 (x9 * a1)) + x17)).toNat) * 2, none⟩)) 41 (hv := fun _ _ => ix_pure (t := 22) (k := .i64) (i := w_i64 ((w_i64 (x9 * a1)) + x17)) (p := p_a0) (n := a0.length) (cap := c_a0) (x := a0) P26 rfl b24 (by kernel_rfl))) <|
   .cons [42] (ok_valL [46] (fun u20 => [rdl anyF 2 p_a0 c_a0 a0 en_TInterval]) (fun u20 => .agg #[vI t25.Lo, vI t25.Hi]) (fun u20 => true) [true] 42 (fun u20 w hg hF => ld_row (en := en_TInterval) (rdF_of hF.1).2 en_TInterval_len ht25 0 2 [vI t25.Lo, vI t25.Hi] rfl (by kernel_rfl))) <|
   .cons [43] (ok_callv 90 (fun u20 => #[.agg #[vI t25.Lo, vI t25.Hi]]) (.agg #[vI t27.Lo, vI t27.Hi]) 43 [] (fun u20 w _ => armillaryref02_Made.calls t25  t27 w  ht27)) <|
   .cons [44] (ok_val (fun u20 => .pointer (some ⟨hdB p_t22, hdO p_t22 + x17.toNat * 2, none⟩)) 44 (hv := fun _ _ => ix_pure (t := 22) (k := .i64) (i := x17) (p := p_t22) (n := t22.length) (cap := c_t22) (x := t22) P30 rfl b28 (by kernel_rfl))) <|
   .cons [900125, 900125] (ok_own1 [] [] (fun u20 => []) 900125 (fun u20 => nsK 22 37 2 en_TInterval p_x16 L_x16.length c_x16 L_x16 L_x16) none (fun u20 g => .nilFunc) (fun u20 g => nsK 22 37 2 en_TInterval p_x16 L_x16.length c_x16 (L_x16.set x9.toNat ⟨p_t22, c_t22, (t22.set x17.toNat t27)⟩) (L_x16.set x9.toNat ⟨p_t22, c_t22, (t22.set x17.toNat t27)⟩)) (fun u20 w hF hK => tn_el hK y_t22 (j := x17.toNat) (y := t27) (fun h => el_storeN h en_TInterval_len (vs := [vI t27.Lo, vI t27.Hi]) ht29 0 (by simp) (by simp) rfl (by kernel_rfl)))) <| .nil) fun u20 a w' H => ?_
       replace H := H.kp [0, 1, 5, 6, 7, 19, 20, 21, 22, 23, 24, 25, 26, 46, 900125]
       refine k_rg mixed H (.v 28 (vI x17) <|
   .v 29 (vI (w_i64 (x17 + 1))) <|
   .v 7 (vI (w_i64 (x17 + 1))) <| .nil) fun u31 a w' H => ?_
       replace H := H.kp [0, 1, 5, 6, 7, 19, 20, 21, 22, 23, 24, 25, 26, 46, 900125]
       exact ⟨k, Nat.lt_succ_self k, _, _, G, p_x16, c_x16, L_x16.length, (L_x16.set x9.toNat ⟨p_t22, c_t22, (t22.set x17.toNat t27)⟩), by simp, (map_set h_x16 x9.toNat (⟨p_t22, c_t22, (t22.set x17.toNat t27)⟩ : Sl TInterval)), H.toL _ (by kernel_rfl)⟩
      ·rw [if_neg (nt c32)] at G
       refine k_exit rfl ?_
       obtain rfl := Option.some.inj G
       replace H := H.move (K := nsK 22 37 2 en_TInterval p_x16 L_x16.length c_x16 L_x16 L_x16) 900125 900123 (by kernel_rfl) (by intro _ _ h; cases h)
       exact ⟨p_x16, c_x16, L_x16.length, L_x16, rfl, h_x16, H.toL _ (by kernel_rfl)⟩
   ·rw [if_neg (nt c33)] at G
    refine k_exit rfl ?_
    obtain rfl := Option.some.inj G
    replace H := H.move (K := nsK 22 37 2 en_TInterval p_x8 L_x8.length c_x8 L_x8 L_x8) 900121 900119 (by kernel_rfl) (by intro _ _ h; cases h)
    exact ⟨p_x8, c_x8, L_x8.length, L_x8, rfl, h_x8, H.toL _ (by kernel_rfl)⟩
set_option maxHeartbeats 4000000 in
theorem armillaryref03_Made.calls (k0 : Nat) (a0 : List TInterval) (a1 : Int) (p_a0 : Option Addr) (c_a0 : Nat) (r : List TInterval) (w : World) (hB : AllH [rdl anyF 2 p_a0 c_a0 a0 en_TInterval] w) (G : armillaryref03_Made k0 a0 a1 = some r) :
  Calls Tryd.prog 61 #[.slice p_a0 a0.length c_a0, vI a1] w fun e w' => ∃ g : Gh, e = .returned (.slice (g.o 0) r.length (g.n 0)) ∧ But (fpK []) w w' ∧ OutOK w.heap.size (fpK []) (frI w.heap.size []) [fun _ => owK 37 2 (g.o 0) r.length (g.n 0) (r.flatMap en_TInterval)] w' := by
 obtain ⟨fr, hfr⟩ : ∃ fr : Nat → Prop, fr = frI w.heap.size [] := ⟨_, rfl⟩
 have hBf : ∀ j, w.heap.size ≤ j → fr j := fun j h => by rw [hfr]; exact .inl h
 refine k_enterF (args := [.slice p_a0 a0.length c_a0, vI a1]) 29 [(29, rdl anyF 2 p_a0 c_a0 a0 en_TInterval)] (by
  intro x hx
  simp only [List.mem_cons, List.not_mem_nil, or_false] at hx
  rcases hx with rfl
  exact rdF_fact (rdF_of hB.1) (fun _ _ => trivial) (by decide) _) Tryd.func61 rfl (by kernel_rfl) (by kernel_rfl) fun a H => ?_
 unfold armillaryref03_Made at G
 refine k_seq ?_
 refine k_rg mixed H (.v 4 (.slice none 0 0) <| .nil) fun u1 a w' H => ?_
 replace H := H.kp [0, 1, 29]
 refine k_seq ?_
 refine k_rg mixed H (.cons [8, 30] (ok_new (fun b => .slice (some ⟨b, 0, none⟩) 0 0) (fun u2 => []) 37 8 30) <|
   .cons [5] (ok_val (fun u2 => .slice (some ⟨((u2 0).n 0), 0, none⟩) 0 0) 5) <| .nil) fun u2 a w' H => ?_
 replace H := H.kp [0, 1, 5, 29, 30]
 refine k_seq ?_
 replace G := bnd G; obtain ⟨j4, hj4, G⟩ := G
 refine k_join (fun a w' => ∃ (p_j3 : Option Addr) (c_j3 np_j3 : Nat), np_j3 = j4.length ∧ Rep w.heap.size w 29 (ofL [(5, sS p_j3 np_j3 c_j3), (900127, owK 37 2 p_j3 np_j3 c_j3 (j4.flatMap en_TInterval))]) a w') ?_ ?_
 ·clear H; rintro a w' ⟨p_j3, c_j3, _, rfl, H⟩
  refine k_seq ?_
  refine k_rg mixed H (.v 28 (.slice p_j3 j4.length c_j3) <|
   .v 4 (.slice p_j3 j4.length c_j3) <| .nil) fun u5 a w' H => ?_
  replace H := H.kp [4, 900127]
  refine k_ret ?_
  obtain rfl := Option.some.inj G
  obtain ⟨g, o0, n0⟩ : ∃ g : Gh, g.o 0 = p_j3 ∧ g.n 0 = c_j3 := ⟨⟨fun i => [c_j3].getD i 0, fun i => [p_j3].getD i none, fun i => ([⟨Unit, ()⟩] : List ((T : Type) × T)).getD i ⟨Unit, ()⟩⟩, rfl, rfl⟩
  refine k_doneZ H (fun g => .slice (g.o 0) j4.length (g.n 0)) g [] [] (fun g => [fun _ => owK 37 2 (g.o 0) j4.length (g.n 0) (j4.flatMap en_TInterval)]) fr [900127] [] (.slice p_j3 j4.length c_j3) [fun _ => owK 37 2 p_j3 j4.length c_j3 (j4.flatMap en_TInterval)] (by simp only [o0, n0]) (by simp only [o0, n0]) hfr (.inl ⟨rfl, rfl⟩) (fams_cons fam_ow fams_nil) (by simp)
 ·clear G; replace G := hj4; clear hj4
  refine k_seq ?_
  refine k_rg mixed H (.v 6 (vI 0) <| .nil) fun u6 a w' H => ?_
  replace H := H.kp [0, 1, 5, 6, 29, 30]
  refine k_block ?_
  replace H := H.blk_row 30 ((u2 0).n 0) [] 37 2 0 (by kernel_rfl) (by kernel_rfl) (by decide)
  replace H := H.move (K := owK 37 2 (some ⟨((u2 0).n 0), 0, none⟩) 0 0 (([] : List TInterval).flatMap en_TInterval)) 30 900128 (by kernel_rfl) (by intro _ _ h; cases h)
  refine k_loopJ (fun m a w' => ∃ x7 : List TInterval, ∃ x8 : Int, armillaryref03_Made.l9 k0 a0 a1 m x7 x8 = some j4 ∧ ∃ (p_x7 : Option Addr) (c_x7 np_x7 : Nat), np_x7 = x7.length ∧ Rep w.heap.size w 29 (ofL [(0, sS p_a0 a0.length c_a0), (1, sI a1), (5, sS p_x7 np_x7 c_x7), (6, sI x8), (29, rdl anyF 2 p_a0 c_a0 a0 en_TInterval), (900128, owK 37 2 p_x7 np_x7 c_x7 (x7.flatMap en_TInterval))]) a w') k0 ⟨_, _, G, (some ⟨((u2 0).n 0), 0, none⟩), 0, 0, rfl, H.toL _ (by kernel_rfl)⟩ ?_
  clear G H
  rintro (_ | k) a w' ⟨x7, x8, G, p_x7, c_x7, _, rfl, H⟩
  ·exact absurd G (by unfold armillaryref03_Made.l9; exact fun h => by cases h)
  ·unfold armillaryref03_Made.l9 at G
   refine k_seq ?_
   refine k_seq ?_
   refine k_rg mixed H (.v 9 (vI x8) <|
   .v 10 (vI a1) <|
   .v 11 (.bool (decide (x8 < a1))) <| .nil) fun u10 a w' H => ?_
   replace H := H.kp [0, 1, 5, 6, 11, 29, 900128]
   refine k_cond H (by kernel_rfl) (t := decide (x8 < a1)) (by kernel_rfl) (fun c24 => ?_) (fun c24 => ?_)
   ·rw [if_pos c24] at G
    refine k_skip ?_
    refine k_seq ?_
    refine k_block ?_
    refine k_seq ?_
    refine k_rg mixed H (.v 14 (.agg #[vI 0, vI 0]) <|
   .cons [7, 31] (ok_new (fun b => vP b 0) (fun u11 => [vI 0, vI 0]) 37 7 31) <|
   .cons [31] (ok_as (u' := fun u11 => [(31, .blk ((u11 1).n 0) [vI 0, vI 0] 37)]) (ok_store 31 0 (fun u11 => ((u11 1).n 0)) (fun u11 => [vI 0, vI 0]) (fun u11 => [vI 0, vI 0]) 37) (fun _ => by kernel_rfl)) <| .nil) fun u11 a w' H => ?_
    replace H := H.kp [0, 1, 5, 6, 7, 29, 31, 900128]
    refine k_seq ?_
    replace G := bnd G; obtain ⟨j14, hj14, G⟩ := G
    refine k_join (fun a w' => Rep w.heap.size w 29 (ofL [(0, sS p_a0 a0.length c_a0), (1, sI a1), (5, sS p_x7 x7.length c_x7), (6, sI x8), (7, (sP ((u11 1).n 0) 0)), (29, rdl anyF 2 p_a0 c_a0 a0 en_TInterval), (31, .blk ((u11 1).n 0) [vI j14.1, vI j14.2] 37), (900128, owK 37 2 p_x7 x7.length c_x7 (x7.flatMap en_TInterval))]) a w') ?_ ?_
    ·clear H; intro a w' H
     replace G := gd G; obtain ⟨b16, G⟩ := G
     refine k_rg mixed H (.v 24 (.slice p_x7 x7.length c_x7) <|
   .cons [25] (ok_ld (fun u15 => .agg #[vI j14.1, vI j14.2]) 25 31 0 2 (fun u15 => ((u11 1).n 0)) (fun u15 => [vI j14.1, vI j14.2]) 37) <|
   .cons [26, 32] (ok_new (fun b => .slice (some ⟨b, 0, none⟩) 1 1) (fun u15 => [vI j14.1, vI j14.2]) 37 26 32) <|
   .cons [27, 900128, 900128] (ok_own1 [2] [32] (fun u15 => [.blk ((u15 2).n 0) [vI j14.1, vI j14.2] 37]) 900128 (fun u15 => owK 37 2 p_x7 x7.length c_x7 (x7.flatMap en_TInterval)) (some 27) (fun u15 g => .slice (g.o 0) (x7 ++ [(⟨j14.1, j14.2⟩ : TInterval)]).length (g.n 0)) (fun u15 g => owK 37 2 (g.o 0) ((x7 ++ [(⟨j14.1, j14.2⟩ : TInterval)]).length) (g.n 0) ((x7 ++ [(⟨j14.1, j14.2⟩ : TInterval)]).flatMap en_TInterval)) (fun u15 w hF hK => tv_app (run_app_rowN (t := 22) (ty := 22) (en := en_TInterval) en_TInterval_len inf37 (ow_of hK) hF.1 (news := [(⟨j14.1, j14.2⟩ : TInterval)]) rfl (by simp) (by kernel_rfl) b16)) (hloc := fun u u' h => ⟨by first | rfl | simp only [h 2 (by decide)], by first | rfl | simp only [h 2 (by decide)], by first | rfl | simp only [h 2 (by decide)], by first | rfl | simp only [h 2 (by decide)]⟩)) <|
   .cons [5] (ok_val (fun u15 => .slice ((u15 3).o 0) ((x7 ++ [(⟨j14.1, j14.2⟩ : TInterval)]).length) ((u15 3).n 0)) 5) <| .nil) fun u15 a w' H => ?_
     replace H := H.kp [0, 1, 5, 6, 29, 900128]
     refine k_rg mixed H (.v 12 (vI x8) <|
   .v 13 (vI (w_i64 (x8 + 1))) <|
   .v 6 (vI (w_i64 (x8 + 1))) <| .nil) fun u17 a w' H => ?_
     replace H := H.kp [0, 1, 5, 6, 29, 900128]
     exact ⟨k, Nat.lt_succ_self k, _, _, G, ((u15 3).o 0), ((u15 3).n 0), (x7 ++ [(⟨j14.1, j14.2⟩ : TInterval)]).length, rfl, H.toL _ (by kernel_rfl)⟩
    ·clear G; replace G := hj14; clear hj14
     refine k_seq ?_
     refine k_rg mixed H (.v 15 (vI x8) <|
   .v 16 (.slice p_a0 a0.length c_a0) <|
   .v 17 (vI (a0.length : Int)) <|
   .v 18 (.bool (decide (x8 < (a0.length : Int)))) <| .nil) fun u18 a w' H => ?_
     replace H := H.kp [0, 1, 5, 6, 7, 18, 29, 31, 900128]
     refine k_cond H (by kernel_rfl) (t := decide (x8 < (a0.length : Int))) (by kernel_rfl) (fun c23 => ?_) (fun c23 => ?_)
     ·rw [if_pos c23] at G
      replace G := gd G; obtain ⟨b20, G⟩ := G
      replace G := bnd G; obtain ⟨t21, ht21, G⟩ := G
      replace G := bnd G; obtain ⟨t22, ht22, G⟩ := G
      refine k_rg mixed H (.v 19 (.slice p_a0 a0.length c_a0) <|
   .v 20 (vI x8) <|
   .cons [21] (ok_valL [29] (fun u19 => [rdl anyF 2 p_a0 c_a0 a0 en_TInterval]) (fun u19 => .pointer (some ⟨hdB p_a0, hdO p_a0 + x8.toNat * 2, none⟩)) (fun u19 => true) [true, true] 21 (fun u19 w hg hF => ix_row (t := 22) (k := .i64) (i := x8) (p := p_a0) (n := a0.length) (cap := c_a0) (x := a0) (en := en_TInterval) (rdF_of hF.1).2 en_TInterval_len rfl b20 (by kernel_rfl))) <|
   .cons [22] (ok_valL [29] (fun u19 => [rdl anyF 2 p_a0 c_a0 a0 en_TInterval]) (fun u19 => .agg #[vI t21.Lo, vI t21.Hi]) (fun u19 => true) [true] 22 (fun u19 w hg hF => ld_row (en := en_TInterval) (rdF_of hF.1).2 en_TInterval_len ht21 0 2 [vI t21.Lo, vI t21.Hi] rfl (by kernel_rfl))) <|
   .cons [23] (ok_callv 90 (fun u19 => #[.agg #[vI t21.Lo, vI t21.Hi]]) (.agg #[vI t22.Lo, vI t22.Hi]) 23 [] (fun u19 w _ => armillaryref02_Made.calls t21  t22 w  ht22)) <|
   .cons [31] (ok_as (u' := fun u19 => [(31, .blk ((u11 1).n 0) [vI t22.Lo, vI t22.Hi] 37)]) (ok_store 31 0 (fun u19 => ((u11 1).n 0)) (fun u19 => [vI 0, vI 0]) (fun u19 => [vI t22.Lo, vI t22.Hi]) 37) (fun _ => by kernel_rfl)) <| .nil) fun u19 a w' H => ?_
      replace H := H.kp [0, 1, 5, 6, 7, 29, 31, 900128]
      obtain rfl := Option.some.inj G
      exact H.toL _ (by kernel_rfl)
     ·rw [if_neg (nt c23)] at G
      refine k_skip ?_
      obtain rfl := Option.some.inj G
      exact H.toL _ (by kernel_rfl)
   ·rw [if_neg (nt c24)] at G
    refine k_exit rfl ?_
    obtain rfl := Option.some.inj G
    replace H := H.move (K := owK 37 2 p_x7 x7.length c_x7 (x7.flatMap en_TInterval)) 900128 900127 (by kernel_rfl) (by intro _ _ h; cases h)
    exact ⟨p_x7, c_x7, x7.length, rfl, H.toL _ (by kernel_rfl)⟩
set_option maxHeartbeats 4000000 in
theorem armillarylaw04_made.calls (k0 : Nat) (a0 : TOperands) (p_a0_A : Option Addr) (c_a0_A : Nat) (p_a0_B : Option Addr) (c_a0_B : Nat) (p_a0_X : Option Addr) (c_a0_X : Nat) (r : List (List TInterval) × List (List TInterval) × List TInterval) (w : World) (hB : AllH [rdl anyF 2 p_a0_A c_a0_A a0.A en_TInterval, rdl anyF 2 p_a0_B c_a0_B a0.B en_TInterval, rdl anyF 2 p_a0_X c_a0_X a0.X en_TInterval] w) (G : armillarylaw04_made k0 a0 = some r) :
  Calls Tryd.prog 22 #[.agg #[.slice p_a0_A a0.A.length c_a0_A, .slice p_a0_B a0.B.length c_a0_B, .slice p_a0_X a0.X.length c_a0_X, .int .u8 a0.N]] w fun e w' => ∃ g : Gh, e = .returned (.tuple #[.slice (g.o 0) ((g.dl Sl.l gd_S_TInterval 0 r.1).length) (g.n 0), .slice (g.o 1) ((g.dl Sl.l gd_S_TInterval 1 r.2.1).length) (g.n 1), .slice (g.o 2) r.2.2.length (g.n 2)]) ∧ But (fpK []) w w' ∧ OutOK w.heap.size (fpK []) (frI w.heap.size []) [fun _ => nsK 22 37 2 en_TInterval (g.o 0) ((g.dl Sl.l gd_S_TInterval 0 r.1).length) (g.n 0) (g.dl Sl.l gd_S_TInterval 0 r.1) (g.dl Sl.l gd_S_TInterval 0 r.1), fun _ => nsK 22 37 2 en_TInterval (g.o 1) ((g.dl Sl.l gd_S_TInterval 1 r.2.1).length) (g.n 1) (g.dl Sl.l gd_S_TInterval 1 r.2.1) (g.dl Sl.l gd_S_TInterval 1 r.2.1), fun _ => owK 37 2 (g.o 2) r.2.2.length (g.n 2) (r.2.2.flatMap en_TInterval)] w' := by
 obtain ⟨fr, hfr⟩ : ∃ fr : Nat → Prop, fr = frI w.heap.size [] := ⟨_, rfl⟩
 have hBf : ∀ j, w.heap.size ≤ j → fr j := fun j h => by rw [hfr]; exact .inl h
 refine k_enterF (args := [.agg #[.slice p_a0_A a0.A.length c_a0_A, .slice p_a0_B a0.B.length c_a0_B, .slice p_a0_X a0.X.length c_a0_X, .int .u8 a0.N]]) 21 [(21, rdl anyF 2 p_a0_A c_a0_A a0.A en_TInterval), (22, rdl anyF 2 p_a0_B c_a0_B a0.B en_TInterval), (23, rdl anyF 2 p_a0_X c_a0_X a0.X en_TInterval)] (by
  intro x hx
  simp only [List.mem_cons, List.not_mem_nil, or_false] at hx
  rcases hx with rfl | rfl | rfl
  ·exact rdF_fact (rdF_of hB.1) (fun _ _ => trivial) (by decide) _
  ·exact rdF_fact (rdF_of hB.2.1) (fun _ _ => trivial) (by decide) _
  ·exact rdF_fact (rdF_of hB.2.2.1) (fun _ _ => trivial) (by decide) _) Tryd.func22 rfl (by kernel_rfl) (by kernel_rfl) fun a H => ?_
 unfold armillarylaw04_made at G
 refine k_seq ?_
 refine k_rg mixed H (.cons [1, 24] (ok_new (fun b => vP b 0) (fun u1 => [.slice p_a0_A a0.A.length c_a0_A, .slice p_a0_B a0.B.length c_a0_B, .slice p_a0_X a0.X.length c_a0_X, .int .u8 a0.N]) 24 1 24) <|
   .v 2 (.slice none 0 0) <|
   .v 3 (.slice none 0 0) <|
   .v 4 (.slice none 0 0) <| .nil) fun u1 a w' H => ?_
 replace H := H.kp [1, 21, 22, 23, 24]
 refine k_seq ?_
 replace G := bnd G; obtain ⟨t3, ht3, G⟩ := G
 refine k_rg mixed H (.v 6 (vP ((u1 0).n 0) 3) <|
   .cons [7] (ok_ld (fun u2 => .int .u8 a0.N) 7 24 3 1 (fun u2 => ((u1 0).n 0)) (fun u2 => [.slice p_a0_A a0.A.length c_a0_A, .slice p_a0_B a0.B.length c_a0_B, .slice p_a0_X a0.X.length c_a0_X, .int .u8 a0.N]) 24) <|
   .cons [8] (ok_callv 29 (fun u2 => #[.int .u8 a0.N]) (vI t3) 8 [] (fun u2 w _ => armillaryref04_Dim.calls a0.N  t3 w  ht3)) <|
   .v 5 (vI t3) <| .nil) fun u2 a w' H => ?_
 replace H := H.kp [1, 5, 21, 22, 23, 24]
 refine k_seq ?_
 replace G := bnd G; obtain ⟨t5, ht5, G⟩ := G
 replace G := bnd G; obtain ⟨t6, ht6, G⟩ := G
 replace G := bnd G; obtain ⟨t7, ht7, G⟩ := G
 refine k_regT mixed H (.v 9 (vP ((u1 0).n 0) 0) <|
   .cons [10] (ok_ld (fun u4 => .slice p_a0_A a0.A.length c_a0_A) 10 24 0 1 (fun u4 => ((u1 0).n 0)) (fun u4 => [.slice p_a0_A a0.A.length c_a0_A, .slice p_a0_B a0.B.length c_a0_B, .slice p_a0_X a0.X.length c_a0_X, .int .u8 a0.N]) 24) <|
   .v 11 (vI t3) <|
   .cons [12, 25] (ok_callY false fr [] [21] (fun u4 => [rdl anyF 2 p_a0_A c_a0_A a0.A en_TInterval]) [] (fun u4 => []) 60 (fun u4 => #[.slice p_a0_A a0.A.length c_a0_A, vI t3]) (fun u4 => [rdl anyF 2 p_a0_A c_a0_A a0.A en_TInterval]) (fun u4 => []) (fun u4 g => .slice (g.o 0) ((g.dl Sl.l gd_S_TInterval 0 t5).length) (g.n 0)) (fun u4 g => [fun _ => nsK 22 37 2 en_TInterval (g.o 0) ((g.dl Sl.l gd_S_TInterval 0 t5).length) (g.n 0) (g.dl Sl.l gd_S_TInterval 0 t5) (g.dl Sl.l gd_S_TInterval 0 t5)]) [25] 12 (fun u4 w hB hF hM => armillaryref04_Made.calls k0 a0.A t3 p_a0_A c_a0_A t5 w  hB ht5) (fun u4 w hF => ⟨⟨sub_rd0 (rdF_of hF.1) (fun j h => ⟨_, (.head _), h⟩), trivial⟩, trivial⟩) (fun u4 g => (fams_cons fam_ns fams_nil)) (.inr (fun u4 g => (famx_cons trivial (fun K h => by cases h)))) (fun h => by cases h)) <|
   .v 13 (vP ((u1 0).n 0) 1) <|
   .cons [14] (ok_ld (fun u4 => .slice p_a0_B a0.B.length c_a0_B) 14 24 1 1 (fun u4 => ((u1 0).n 0)) (fun u4 => [.slice p_a0_A a0.A.length c_a0_A, .slice p_a0_B a0.B.length c_a0_B, .slice p_a0_X a0.X.length c_a0_X, .int .u8 a0.N]) 24) <|
   .v 15 (vI t3) <|
   .cons [16, 26] (ok_callY false fr [] [22] (fun u4 => [rdl anyF 2 p_a0_B c_a0_B a0.B en_TInterval]) [] (fun u4 => []) 60 (fun u4 => #[.slice p_a0_B a0.B.length c_a0_B, vI t3]) (fun u4 => [rdl anyF 2 p_a0_B c_a0_B a0.B en_TInterval]) (fun u4 => []) (fun u4 g => .slice (g.o 0) ((g.dl Sl.l gd_S_TInterval 0 t6).length) (g.n 0)) (fun u4 g => [fun _ => nsK 22 37 2 en_TInterval (g.o 0) ((g.dl Sl.l gd_S_TInterval 0 t6).length) (g.n 0) (g.dl Sl.l gd_S_TInterval 0 t6) (g.dl Sl.l gd_S_TInterval 0 t6)]) [26] 16 (fun u4 w hB hF hM => armillaryref04_Made.calls k0 a0.B t3 p_a0_B c_a0_B t6 w  hB ht6) (fun u4 w hF => ⟨⟨sub_rd0 (rdF_of hF.1) (fun j h => ⟨_, (.head _), h⟩), trivial⟩, trivial⟩) (fun u4 g => (fams_cons fam_ns fams_nil)) (.inr (fun u4 g => (famx_cons trivial (fun K h => by cases h)))) (fun h => by cases h)) <|
   .v 17 (vP ((u1 0).n 0) 2) <|
   .cons [18] (ok_ld (fun u4 => .slice p_a0_X a0.X.length c_a0_X) 18 24 2 1 (fun u4 => ((u1 0).n 0)) (fun u4 => [.slice p_a0_A a0.A.length c_a0_A, .slice p_a0_B a0.B.length c_a0_B, .slice p_a0_X a0.X.length c_a0_X, .int .u8 a0.N]) 24) <|
   .v 19 (vI t3) <|
   .cons [20, 27] (ok_callY false fr [] [23] (fun u4 => [rdl anyF 2 p_a0_X c_a0_X a0.X en_TInterval]) [] (fun u4 => []) 61 (fun u4 => #[.slice p_a0_X a0.X.length c_a0_X, vI t3]) (fun u4 => [rdl anyF 2 p_a0_X c_a0_X a0.X en_TInterval]) (fun u4 => []) (fun u4 g => .slice (g.o 0) t7.length (g.n 0)) (fun u4 g => [fun _ => owK 37 2 (g.o 0) t7.length (g.n 0) (t7.flatMap en_TInterval)]) [27] 20 (fun u4 w hB hF hM => armillaryref03_Made.calls k0 a0.X t3 p_a0_X c_a0_X t7 w  hB ht7) (fun u4 w hF => ⟨⟨sub_rd0 (rdF_of hF.1) (fun j h => ⟨_, (.head _), h⟩), trivial⟩, trivial⟩) (fun u4 g => (fams_cons fam_ow fams_nil)) (.inr (fun u4 g => (famx_cons trivial (fun K h => by cases h)))) (fun h => by cases h)) <|
   .cons [2] (ok_val (fun u4 => .slice ((u4 3).o 0) (((u4 3).dl Sl.l gd_S_TInterval 0 t5).length) ((u4 3).n 0)) 2) <|
   .cons [3] (ok_val (fun u4 => .slice ((u4 7).o 0) (((u4 7).dl Sl.l gd_S_TInterval 0 t6).length) ((u4 7).n 0)) 3) <|
   .cons [4] (ok_val (fun u4 => .slice ((u4 11).o 0) t7.length ((u4 11).n 0)) 4) <| .nil) (by kernel_rfl) fun u4 a w' H => ?_
 replace H := H.kp [2, 3, 4, 25, 26, 27]
 refine k_ret ?_
 obtain rfl := Option.some.inj G
 obtain ⟨g, o0, n0, d0, o1, n1, d1, o2, n2⟩ : ∃ g : Gh, g.o 0 = ((u4 3).o 0) ∧ g.n 0 = ((u4 3).n 0) ∧ g.dl Sl.l gd_S_TInterval 0 t5 = ((u4 3).dl Sl.l gd_S_TInterval 0 t5) ∧ g.o 1 = ((u4 7).o 0) ∧ g.n 1 = ((u4 7).n 0) ∧ g.dl Sl.l gd_S_TInterval 1 t6 = ((u4 7).dl Sl.l gd_S_TInterval 0 t6) ∧ g.o 2 = ((u4 11).o 0) ∧ g.n 2 = ((u4 11).n 0) := ⟨⟨fun i => [((u4 3).n 0), ((u4 7).n 0), ((u4 11).n 0)].getD i 0, fun i => [((u4 3).o 0), ((u4 7).o 0), ((u4 11).o 0)].getD i none, fun i => ([⟨List (Sl TInterval), ((u4 3).dl Sl.l gd_S_TInterval 0 t5)⟩, ⟨List (Sl TInterval), ((u4 7).dl Sl.l gd_S_TInterval 0 t6)⟩, ⟨Unit, ()⟩] : List ((T : Type) × T)).getD i ⟨Unit, ()⟩⟩, rfl, rfl, dl_mk rfl (dl_er ergd_S_TInterval (u4 3) 0 t5), rfl, rfl, dl_mk rfl (dl_er ergd_S_TInterval (u4 7) 0 t6), rfl, rfl⟩
 refine k_doneZ H (fun g => .tuple #[.slice (g.o 0) ((g.dl Sl.l gd_S_TInterval 0 t5).length) (g.n 0), .slice (g.o 1) ((g.dl Sl.l gd_S_TInterval 1 t6).length) (g.n 1), .slice (g.o 2) t7.length (g.n 2)]) g [] [] (fun g => [fun _ => nsK 22 37 2 en_TInterval (g.o 0) ((g.dl Sl.l gd_S_TInterval 0 t5).length) (g.n 0) (g.dl Sl.l gd_S_TInterval 0 t5) (g.dl Sl.l gd_S_TInterval 0 t5), fun _ => nsK 22 37 2 en_TInterval (g.o 1) ((g.dl Sl.l gd_S_TInterval 1 t6).length) (g.n 1) (g.dl Sl.l gd_S_TInterval 1 t6) (g.dl Sl.l gd_S_TInterval 1 t6), fun _ => owK 37 2 (g.o 2) t7.length (g.n 2) (t7.flatMap en_TInterval)]) fr [25, 26, 27] [] (.tuple #[.slice ((u4 3).o 0) (((u4 3).dl Sl.l gd_S_TInterval 0 t5).length) ((u4 3).n 0), .slice ((u4 7).o 0) (((u4 7).dl Sl.l gd_S_TInterval 0 t6).length) ((u4 7).n 0), .slice ((u4 11).o 0) t7.length ((u4 11).n 0)]) [fun _ => nsK 22 37 2 en_TInterval ((u4 3).o 0) (((u4 3).dl Sl.l gd_S_TInterval 0 t5).length) ((u4 3).n 0) ((u4 3).dl Sl.l gd_S_TInterval 0 t5) ((u4 3).dl Sl.l gd_S_TInterval 0 t5), fun _ => nsK 22 37 2 en_TInterval ((u4 7).o 0) (((u4 7).dl Sl.l gd_S_TInterval 0 t6).length) ((u4 7).n 0) ((u4 7).dl Sl.l gd_S_TInterval 0 t6) ((u4 7).dl Sl.l gd_S_TInterval 0 t6), fun _ => owK 37 2 ((u4 11).o 0) t7.length ((u4 11).n 0) (t7.flatMap en_TInterval)] (by simp only [o0, n0, d0, o1, n1, d1, o2, n2]) (by simp only [o0, n0, d0, o1, n1, d1, o2, n2]) hfr (.inl ⟨rfl, rfl⟩) (fams_cons fam_ns (fams_cons fam_ns (fams_cons fam_ow fams_nil))) (by simp)
set_option maxHeartbeats 4000000 in
theorem armillaryref02_Hull.calls (a0 : TInterval) (a1 : TInterval) (r : TInterval) (w : World) (G : armillaryref02_Hull a0 a1 = some r) :
  Calls Tryd.prog 41 #[.agg #[vI a0.Lo, vI a0.Hi], .agg #[vI a1.Lo, vI a1.Hi]] w fun e w' => e = .returned (.agg #[vI r.Lo, vI r.Hi]) ∧ Below w.heap.size w w' := by
 refine k_enter (args := [.agg #[vI a0.Lo, vI a0.Hi], .agg #[vI a1.Lo, vI a1.Hi]]) 16 Tryd.func41 rfl (by kernel_rfl) (by kernel_rfl) fun a H => ?_
 unfold armillaryref02_Hull at G
 refine k_seq ?_
 refine k_rg mixed H (.cons [2, 16] (ok_new (fun b => vP b 0) (fun u1 => [vI a0.Lo, vI a0.Hi]) 37 2 16) <|
   .cons [3, 17] (ok_new (fun b => vP b 0) (fun u1 => [vI a1.Lo, vI a1.Hi]) 37 3 17) <|
   .cons [4, 18] (ok_new (fun b => vP b 0) (fun u1 => [vI 0, vI 0]) 37 4 18) <| .nil) fun u1 a w' H => ?_
 replace H := H.kp [2, 3, 4, 16, 17, 18]
 refine k_seq ?_
 refine k_rg mixed H (.v 5 (vP ((u1 0).n 0) 0) <|
   .cons [6] (ok_ld (fun u2 => vI a0.Lo) 6 16 0 1 (fun u2 => ((u1 0).n 0)) (fun u2 => [vI a0.Lo, vI a0.Hi]) 37) <|
   .v 7 (vP ((u1 1).n 0) 0) <|
   .cons [8] (ok_ld (fun u2 => vI a1.Lo) 8 17 0 1 (fun u2 => ((u1 1).n 0)) (fun u2 => [vI a1.Lo, vI a1.Hi]) 37) <|
   .v 9 (vI (mn a0.Lo a1.Lo)) <|
   .v 10 (vP ((u1 0).n 0) 1) <|
   .cons [11] (ok_ld (fun u2 => vI a0.Hi) 11 16 1 1 (fun u2 => ((u1 0).n 0)) (fun u2 => [vI a0.Lo, vI a0.Hi]) 37) <|
   .v 12 (vP ((u1 1).n 0) 1) <|
   .cons [13] (ok_ld (fun u2 => vI a1.Hi) 13 17 1 1 (fun u2 => ((u1 1).n 0)) (fun u2 => [vI a1.Lo, vI a1.Hi]) 37) <|
   .v 14 (vI (mx a0.Hi a1.Hi)) <|
   .v 15 (.agg #[vI (mn a0.Lo a1.Lo), vI (mx a0.Hi a1.Hi)]) <|
   .cons [18] (ok_as (u' := fun u2 => [(18, .blk ((u1 2).n 0) [vI (mn a0.Lo a1.Lo), vI (mx a0.Hi a1.Hi)] 37)]) (ok_store 18 0 (fun u2 => ((u1 2).n 0)) (fun u2 => [vI 0, vI 0]) (fun u2 => [vI (mn a0.Lo a1.Lo), vI (mx a0.Hi a1.Hi)]) 37) (fun _ => by kernel_rfl)) <| .nil) fun u2 a w' H => ?_
 replace H := H.kp [4, 18]
 refine k_ret ?_
 obtain rfl := Option.some.inj G
 exact k_done1 H _ 18 ((u1 2).n 0) [vI (mn a0.Lo a1.Lo), vI (mx a0.Hi a1.Hi)] 37 0 2 (by kernel_rfl) (by kernel_rfl) (by kernel_rfl) (by kernel_rfl)
end Go.Proofs.YtglcmhldonkfdaaDoor
