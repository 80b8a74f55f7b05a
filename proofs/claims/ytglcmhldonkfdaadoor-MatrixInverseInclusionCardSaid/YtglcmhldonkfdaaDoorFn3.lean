/- Each function of the program answers as the plain Lean function of its name (part 3). Printed by a program of this session. -/
import Derived.Test.YtglcmhldonkfdaaDoorFn2
set_option linter.unusedVariables false
set_option linter.unusedSimpArgs false
set_option maxRecDepth 100000
namespace Go.Proofs.YtglcmhldonkfdaaDoor
open Go Go.RowKit Go.Sx Go.Proofs
set_option maxHeartbeats 4000000 in
theorem armillaryref04_Small.calls (k0 : Nat) (a0 : List TInterval) (a1 : Int) (p_a0 : Option Addr) (c_a0 : Nat) (r : List (List TInterval)) (w : World) (hB : AllH [rdl anyF 2 p_a0 c_a0 a0 en_TInterval] w) (G : armillaryref04_Small k0 a0 a1 = some r) :
  Calls Tryd.prog 49 #[.slice p_a0 a0.length c_a0, vI a1] w fun e w' => ∃ g : Gh, e = .returned (.slice (g.o 0) ((g.dl Sl.l gd_S_TInterval 0 r).length) (g.n 0)) ∧ But (fpK []) w w' ∧ OutOK w.heap.size (fpK []) (frI w.heap.size []) [fun _ => nsK 22 37 2 en_TInterval (g.o 0) ((g.dl Sl.l gd_S_TInterval 0 r).length) (g.n 0) (g.dl Sl.l gd_S_TInterval 0 r) (g.dl Sl.l gd_S_TInterval 0 r)] w' := by
 obtain ⟨fr, hfr⟩ : ∃ fr : Nat → Prop, fr = frI w.heap.size [] := ⟨_, rfl⟩
 have hBf : ∀ j, w.heap.size ≤ j → fr j := fun j h => by rw [hfr]; exact .inl h
 refine k_enterF (args := [.slice p_a0 a0.length c_a0, vI a1]) 46 [(46, rdl anyF 2 p_a0 c_a0 a0 en_TInterval)] (by
  intro x hx
  simp only [List.mem_cons, List.not_mem_nil, or_false] at hx
  rcases hx with rfl
  exact rdF_fact (rdF_of hB.1) (fun _ _ => trivial) (by decide) _) Tryd.func49 rfl (by kernel_rfl) (by kernel_rfl) fun a H => ?_
 unfold armillaryref04_Small at G
 refine k_seq ?_
 refine k_rg mixed H (.v 4 (.slice none 0 0) <| .nil) fun u1 a w' H => ?_
 replace H := H.kp [0, 1, 46]
 refine k_seq ?_
 replace G := bnd G; obtain ⟨t3, ht3, G⟩ := G
 refine k_rg mixed H (.v 8 (vI a1) <|
   .cons [9, 47] (ok_callY false fr [] [] (fun u2 => []) [] (fun u2 => []) 43 (fun u2 => #[vI a1]) (fun u2 => []) (fun u2 => []) (fun u2 g => .slice (g.o 0) ((g.dl Sl.l gd_S_TInterval 0 t3).length) (g.n 0)) (fun u2 g => [fun _ => nsK 22 37 2 en_TInterval (g.o 0) ((g.dl Sl.l gd_S_TInterval 0 t3).length) (g.n 0) (g.dl Sl.l gd_S_TInterval 0 t3) (g.dl Sl.l gd_S_TInterval 0 t3)]) [47] 9 (fun u2 w hB hF hM => armillaryref04_Identity.calls k0 a1  t3 w  ht3) (fun u2 w hF => ⟨trivial, trivial⟩) (fun u2 g => (fams_cons fam_ns fams_nil)) (.inr (fun u2 g => (famx_cons trivial (fun K h => by cases h)))) (fun h => by cases h)) <|
   .cons [5] (ok_val (fun u2 => .slice ((u2 1).o 0) (((u2 1).dl Sl.l gd_S_TInterval 0 t3).length) ((u2 1).n 0)) 5) <| .nil) fun u2 a w' H => ?_
 replace H := H.kp [0, 1, 5, 46, 47]
 refine k_seq ?_
 replace G := bnd G; obtain ⟨j5, hj5, G⟩ := G
 refine k_join (fun a w' => ∃ (p_j4 : Option Addr) (c_j4 np_j4 : Nat) (L_j4 : List (Sl TInterval)), np_j4 = L_j4.length ∧ j5 = L_j4.map Sl.l ∧ Rep w.heap.size w 46 (ofL [(5, sS p_j4 np_j4 c_j4), (900096, nsK 22 37 2 en_TInterval p_j4 np_j4 c_j4 L_j4 L_j4)]) a w') ?_ ?_
 ·clear H; rintro a w' ⟨p_j4, c_j4, _, L_j4, rfl, h_j4, H⟩
  refine k_seq ?_
  refine k_rg mixed H (.v 45 (.slice p_j4 L_j4.length c_j4) <|
   .v 4 (.slice p_j4 L_j4.length c_j4) <| .nil) fun u6 a w' H => ?_
  replace H := H.kp [4, 900096]
  refine k_ret ?_
  obtain rfl := Option.some.inj G
  obtain ⟨g, o0, n0, d0⟩ : ∃ g : Gh, g.o 0 = p_j4 ∧ g.n 0 = c_j4 ∧ g.dl Sl.l gd_S_TInterval 0 j5 = L_j4 := ⟨⟨fun i => [c_j4].getD i 0, fun i => [p_j4].getD i none, fun i => ([⟨List (Sl TInterval), L_j4⟩] : List ((T : Type) × T)).getD i ⟨Unit, ()⟩⟩, rfl, rfl, dl_mk rfl h_j4⟩
  refine k_doneZ H (fun g => .slice (g.o 0) ((g.dl Sl.l gd_S_TInterval 0 j5).length) (g.n 0)) g [] [] (fun g => [fun _ => nsK 22 37 2 en_TInterval (g.o 0) ((g.dl Sl.l gd_S_TInterval 0 j5).length) (g.n 0) (g.dl Sl.l gd_S_TInterval 0 j5) (g.dl Sl.l gd_S_TInterval 0 j5)]) fr [900096] [] (.slice p_j4 L_j4.length c_j4) [fun _ => nsK 22 37 2 en_TInterval p_j4 L_j4.length c_j4 L_j4 L_j4] (by simp only [o0, n0, d0]) (by simp only [o0, n0, d0]) hfr (.inl ⟨rfl, rfl⟩) (fams_cons fam_ns fams_nil) (by simp)
 ·clear G; replace G := hj5; clear hj5
  refine k_seq ?_
  refine k_rg mixed H (.v 6 (vI 0) <| .nil) fun u7 a w' H => ?_
  replace H := H.kp [0, 1, 5, 6, 46, 47]
  refine k_block ?_
  replace H := H.move (K := nsK 22 37 2 en_TInterval ((u2 1).o 0) (((u2 1).dl Sl.l gd_S_TInterval 0 t3).length) ((u2 1).n 0) ((u2 1).dl Sl.l gd_S_TInterval 0 t3) ((u2 1).dl Sl.l gd_S_TInterval 0 t3)) 47 900098 (by kernel_rfl) (by intro _ _ h; cases h)
  refine k_loopJ (fun m a w' => ∃ x8 : List (List TInterval), ∃ x9 : Int, armillaryref04_Small.l10 k0 a0 a1 t3 m x8 x9 = some j5 ∧ ∃ (p_x8 : Option Addr) (c_x8 np_x8 : Nat) (L_x8 : List (Sl TInterval)), np_x8 = L_x8.length ∧ x8 = L_x8.map Sl.l ∧ Rep w.heap.size w 46 (ofL [(0, sS p_a0 a0.length c_a0), (1, sI a1), (5, sS p_x8 np_x8 c_x8), (6, sI x9), (46, rdl anyF 2 p_a0 c_a0 a0 en_TInterval), (900098, nsK 22 37 2 en_TInterval p_x8 np_x8 c_x8 L_x8 L_x8)]) a w') k0 ⟨_, _, G, ((u2 1).o 0), ((u2 1).n 0), ((u2 1).dl Sl.l gd_S_TInterval 0 t3).length, ((u2 1).dl Sl.l gd_S_TInterval 0 t3), rfl, (dl_er ergd_S_TInterval (u2 1) 0 t3), H.toL _ (by kernel_rfl)⟩ ?_
  clear G H
  rintro (_ | k) a w' ⟨x8, x9, G, p_x8, c_x8, _, L_x8, rfl, h_x8, H⟩
  ·exact absurd G (by unfold armillaryref04_Small.l10; exact fun h => by cases h)
  ·unfold armillaryref04_Small.l10 at G
   refine k_seq ?_
   refine k_seq ?_
   refine k_rg mixed H (.v 10 (vI x9) <|
   .v 11 (vI a1) <|
   .v 12 (.bool (decide (x9 < a1))) <| .nil) fun u11 a w' H => ?_
   replace H := H.kp [0, 1, 5, 6, 12, 46, 900098]
   refine k_cond H (by kernel_rfl) (t := decide (x9 < a1)) (by kernel_rfl) (fun c33 => ?_) (fun c33 => ?_)
   ·rw [if_pos c33] at G
    refine k_skip ?_
    refine k_seq ?_
    replace G := bnd G; obtain ⟨j13, hj13, G⟩ := G
    refine k_join (fun a w' => ∃ (p_j12 : Option Addr) (c_j12 np_j12 : Nat) (L_j12 : List (Sl TInterval)), np_j12 = L_j12.length ∧ j13 = L_j12.map Sl.l ∧ Rep w.heap.size w 46 (ofL [(0, sS p_a0 a0.length c_a0), (1, sI a1), (5, sS p_j12 np_j12 c_j12), (6, sI x9), (46, rdl anyF 2 p_a0 c_a0 a0 en_TInterval), (900100, nsK 22 37 2 en_TInterval p_j12 np_j12 c_j12 L_j12 L_j12)]) a w') ?_ ?_
    ·clear H; rintro a w' ⟨p_j12, c_j12, _, L_j12, rfl, h_j12, H⟩
     refine k_rg mixed H (.v 13 (vI x9) <|
   .v 14 (vI (w_i64 (x9 + 1))) <|
   .v 6 (vI (w_i64 (x9 + 1))) <| .nil) fun u14 a w' H => ?_
     replace H := H.kp [0, 1, 5, 6, 46, 900100]
     replace H := H.move (K := nsK 22 37 2 en_TInterval p_j12 L_j12.length c_j12 L_j12 L_j12) 900100 900098 (by kernel_rfl) (by intro _ _ h; cases h)
     exact ⟨k, Nat.lt_succ_self k, _, _, G, p_j12, c_j12, L_j12.length, L_j12, rfl, h_j12, H.toL _ (by kernel_rfl)⟩
    ·clear G; replace G := hj13; clear hj13
     refine k_block ?_
     refine k_seq ?_
     refine k_rg mixed H (.v 7 (vI 0) <| .nil) fun u15 a w' H => ?_
     replace H := H.kp [0, 1, 5, 6, 7, 46, 900098]
     refine k_block ?_
     replace H := H.move (K := nsK 22 37 2 en_TInterval p_x8 L_x8.length c_x8 L_x8 L_x8) 900098 900102 (by kernel_rfl) (by intro _ _ h; cases h)
     refine k_loopJ (fun m a w' => ∃ x16 : List (List TInterval), ∃ x17 : Int, armillaryref04_Small.l18 k0 a0 a1 t3 x8 x9 m x16 x17 = some j13 ∧ ∃ (p_x16 : Option Addr) (c_x16 np_x16 : Nat) (L_x16 : List (Sl TInterval)), np_x16 = L_x16.length ∧ x16 = L_x16.map Sl.l ∧ Rep w.heap.size w 46 (ofL [(0, sS p_a0 a0.length c_a0), (1, sI a1), (5, sS p_x16 np_x16 c_x16), (6, sI x9), (7, sI x17), (46, rdl anyF 2 p_a0 c_a0 a0 en_TInterval), (900102, nsK 22 37 2 en_TInterval p_x16 np_x16 c_x16 L_x16 L_x16)]) a w') k0 ⟨_, _, G, p_x8, c_x8, L_x8.length, L_x8, rfl, h_x8, H.toL _ (by kernel_rfl)⟩ ?_
     clear G H
     rintro (_ | k) a w' ⟨x16, x17, G, p_x16, c_x16, _, L_x16, rfl, h_x16, H⟩
     ·exact absurd G (by unfold armillaryref04_Small.l18; exact fun h => by cases h)
     ·unfold armillaryref04_Small.l18 at G
      refine k_seq ?_
      refine k_seq ?_
      refine k_rg mixed H (.v 15 (vI x17) <|
   .v 16 (vI a1) <|
   .v 17 (.bool (decide (x17 < a1))) <|
   .v 18 (.bool (decide (x17 < a1))) <|
   .cons [19] (ok_valg (fun u19 => vI x9) (fun u19 => ((decide (x17 < a1)) == true)) [true] 19) <|
   .cons [20] (ok_valg (fun u19 => vI a1) (fun u19 => ((decide (x17 < a1)) == true)) [true] 20) <|
   .cons [21] (ok_valg (fun u19 => vI (w_i64 (x9 * a1))) (fun u19 => ((decide (x17 < a1)) == true)) [false, false] 21) <|
   .cons [22] (ok_valg (fun u19 => vI x17) (fun u19 => ((decide (x17 < a1)) == true)) [true] 22) <|
   .cons [23] (ok_valg (fun u19 => vI (w_i64 ((w_i64 (x9 * a1)) + x17))) (fun u19 => ((decide (x17 < a1)) == true)) [false, false] 23) <|
   .cons [24] (ok_valg (fun u19 => .slice p_a0 a0.length c_a0) (fun u19 => ((decide (x17 < a1)) == true)) [true] 24) <|
   .cons [25] (ok_valg (fun u19 => vI (a0.length : Int)) (fun u19 => ((decide (x17 < a1)) == true)) [false] 25) <|
   .cons [26] (ok_valg (fun u19 => .bool (decide ((w_i64 ((w_i64 (x9 * a1)) + x17)) < (a0.length : Int)))) (fun u19 => ((decide (x17 < a1)) == true)) [false, false] 26) <|
   .cons [27] (ok_and 18 26 (fun u19 => true) (fun u19 => true) (fun u19 => decide (x17 < a1)) (fun u19 => decide ((w_i64 ((w_i64 (x9 * a1)) + x17)) < (a0.length : Int))) 27) <| .nil) fun u19 a w' H => ?_
      replace H := H.kp [0, 1, 5, 6, 7, 19, 20, 21, 22, 23, 24, 25, 26, 27, 46, 900102]
      refine k_cond H (by kernel_rfl) (t := ((decide (x17 < a1)) && (decide ((w_i64 ((w_i64 (x9 * a1)) + x17)) < (a0.length : Int))))) (by kernel_rfl) (fun c32 => ?_) (fun c32 => ?_)
      ·rw [if_pos c32] at G
       refine k_skip ?_
       refine k_seq ?_
       refine k_block ?_
       replace G := gd G; obtain ⟨b21, G⟩ := G
       replace G := bnd G; obtain ⟨t22, ht22, G⟩ := G
       obtain ⟨p_t22, c_t22, y_t22⟩ := sl_get h_x16 ht22
       have P23 := ptr_of (en := enSl) (l := L_x16) (ns_of (H.at (K := nsK 22 37 2 en_TInterval p_x16 L_x16.length c_x16 L_x16 L_x16) 900102 (by kernel_rfl))).row.2 enSl_len
       replace G := gd G; obtain ⟨b24, G⟩ := G
       replace G := bnd G; obtain ⟨t25, ht25, G⟩ := G
       have P26 := ptr_of (en := en_TInterval) (l := a0) (rdF_of (H.at (K := rdl anyF 2 p_a0 c_a0 a0 en_TInterval) 46 (by kernel_rfl))).2 en_TInterval_len
       replace G := bnd G; obtain ⟨t27, ht27, G⟩ := G
       replace G := gd G; obtain ⟨b28, G⟩ := G
       replace G := bnd G; obtain ⟨t29, ht29, G⟩ := G
       have P30 := ptr_of (en := en_TInterval) (l := t22) ((ns_of (H.at (K := nsK 22 37 2 en_TInterval p_x16 L_x16.length c_x16 L_x16 L_x16) 900102 (by kernel_rfl))).one y_t22).2 en_TInterval_len
       refine k_rg mixed H (.v 30 (.slice p_x16 L_x16.length c_x16) <|
   .v 31 (vI x9) <|
   .cons [32] (ok_val (fun u20 => .pointer (some ⟨hdB p_x16, hdO p_x16 + x9.toNat * 1, none⟩)) 32 (hv := fun _ _ => ix_pure (t := 27) (k := .i64) (i := x9) (p := p_x16) (n := L_x16.length) (cap := c_x16) (x := x16) P23 (map_len h_x16) b21 (by kernel_rfl))) <|
   .cons [33] (ok_valL [900102] (fun u20 => [nsK 22 37 2 en_TInterval p_x16 L_x16.length c_x16 L_x16 L_x16]) (fun u20 => .slice p_t22 t22.length c_t22) (fun u20 => true) [true] 33 (fun u20 w hg hF => ld_row (en := enSl) (ns_of hF.1).row.2 enSl_len y_t22 0 1 [.slice p_t22 t22.length c_t22] rfl (by kernel_rfl))) <|
   .v 34 (vI x17) <|
   .v 35 (.slice p_a0 a0.length c_a0) <|
   .v 36 (vI x9) <|
   .v 37 (vI a1) <|
   .v 38 (vI (w_i64 (x9 * a1))) <|
   .v 39 (vI x17) <|
   .v 40 (vI (w_i64 ((w_i64 (x9 * a1)) + x17))) <|
   .cons [41] (ok_val (fun u20 => .pointer (some ⟨hdB p_a0, hdO p_a0 + ((w_i64 ((w_i64 (x9 * a1)) + x17)).toNat) * 2, none⟩)) 41 (hv := fun _ _ => ix_pure (t := 22) (k := .i64) (i := w_i64 ((w_i64 (x9 * a1)) + x17)) (p := p_a0) (n := a0.length) (cap := c_a0) (x := a0) P26 rfl b24 (by kernel_rfl))) <|
   .cons [42] (ok_valL [46] (fun u20 => [rdl anyF 2 p_a0 c_a0 a0 en_TInterval]) (fun u20 => .agg #[vI t25.Lo, vI t25.Hi]) (fun u20 => true) [true] 42 (fun u20 w hg hF => ld_row (en := en_TInterval) (rdF_of hF.1).2 en_TInterval_len ht25 0 2 [vI t25.Lo, vI t25.Hi] rfl (by kernel_rfl))) <|
   .cons [43] (ok_callv 88 (fun u20 => #[.agg #[vI t25.Lo, vI t25.Hi]]) (.agg #[vI t27.Lo, vI t27.Hi]) 43 [] (fun u20 w _ => armillaryref02_Small.calls t25  t27 w  ht27)) <|
   .cons [44] (ok_val (fun u20 => .pointer (some ⟨hdB p_t22, hdO p_t22 + x17.toNat * 2, none⟩)) 44 (hv := fun _ _ => ix_pure (t := 22) (k := .i64) (i := x17) (p := p_t22) (n := t22.length) (cap := c_t22) (x := t22) P30 rfl b28 (by kernel_rfl))) <|
   .cons [900102, 900102] (ok_own1 [] [] (fun u20 => []) 900102 (fun u20 => nsK 22 37 2 en_TInterval p_x16 L_x16.length c_x16 L_x16 L_x16) none (fun u20 g => .nilFunc) (fun u20 g => nsK 22 37 2 en_TInterval p_x16 L_x16.length c_x16 (L_x16.set x9.toNat ⟨p_t22, c_t22, (t22.set x17.toNat t27)⟩) (L_x16.set x9.toNat ⟨p_t22, c_t22, (t22.set x17.toNat t27)⟩)) (fun u20 w hF hK => tn_el hK y_t22 (j := x17.toNat) (y := t27) (fun h => el_storeN h en_TInterval_len (vs := [vI t27.Lo, vI t27.Hi]) ht29 0 (by simp) (by simp) rfl (by kernel_rfl)))) <| .nil) fun u20 a w' H => ?_
       replace H := H.kp [0, 1, 5, 6, 7, 19, 20, 21, 22, 23, 24, 25, 26, 46, 900102]
       refine k_rg mixed H (.v 28 (vI x17) <|
   .v 29 (vI (w_i64 (x17 + 1))) <|
   .v 7 (vI (w_i64 (x17 + 1))) <| .nil) fun u31 a w' H => ?_
       replace H := H.kp [0, 1, 5, 6, 7, 19, 20, 21, 22, 23, 24, 25, 26, 46, 900102]
       exact ⟨k, Nat.lt_succ_self k, _, _, G, p_x16, c_x16, L_x16.length, (L_x16.set x9.toNat ⟨p_t22, c_t22, (t22.set x17.toNat t27)⟩), by simp, (map_set h_x16 x9.toNat (⟨p_t22, c_t22, (t22.set x17.toNat t27)⟩ : Sl TInterval)), H.toL _ (by kernel_rfl)⟩
      ·rw [if_neg (nt c32)] at G
       refine k_exit rfl ?_
       obtain rfl := Option.some.inj G
       replace H := H.move (K := nsK 22 37 2 en_TInterval p_x16 L_x16.length c_x16 L_x16 L_x16) 900102 900100 (by kernel_rfl) (by intro _ _ h; cases h)
       exact ⟨p_x16, c_x16, L_x16.length, L_x16, rfl, h_x16, H.toL _ (by kernel_rfl)⟩
   ·rw [if_neg (nt c33)] at G
    refine k_exit rfl ?_
    obtain rfl := Option.some.inj G
    replace H := H.move (K := nsK 22 37 2 en_TInterval p_x8 L_x8.length c_x8 L_x8 L_x8) 900098 900096 (by kernel_rfl) (by intro _ _ h; cases h)
    exact ⟨p_x8, c_x8, L_x8.length, L_x8, rfl, h_x8, H.toL _ (by kernel_rfl)⟩
set_option maxHeartbeats 4000000 in
theorem armillaryref04_SmallBox.calls (k0 : Nat) (a0 : List TInterval) (a1 : Int) (p_a0 : Option Addr) (c_a0 : Nat) (r : List TInterval) (w : World) (hB : AllH [rdl anyF 2 p_a0 c_a0 a0 en_TInterval] w) (G : armillaryref04_SmallBox k0 a0 a1 = some r) :
  Calls Tryd.prog 50 #[.slice p_a0 a0.length c_a0, vI a1] w fun e w' => ∃ g : Gh, e = .returned (.slice (g.o 0) r.length (g.n 0)) ∧ But (fpK []) w w' ∧ OutOK w.heap.size (fpK []) (frI w.heap.size []) [fun _ => owK 37 2 (g.o 0) r.length (g.n 0) (r.flatMap en_TInterval)] w' := by
 obtain ⟨fr, hfr⟩ : ∃ fr : Nat → Prop, fr = frI w.heap.size [] := ⟨_, rfl⟩
 have hBf : ∀ j, w.heap.size ≤ j → fr j := fun j h => by rw [hfr]; exact .inl h
 refine k_enterF (args := [.slice p_a0 a0.length c_a0, vI a1]) 29 [(29, rdl anyF 2 p_a0 c_a0 a0 en_TInterval)] (by
  intro x hx
  simp only [List.mem_cons, List.not_mem_nil, or_false] at hx
  rcases hx with rfl
  exact rdF_fact (rdF_of hB.1) (fun _ _ => trivial) (by decide) _) Tryd.func50 rfl (by kernel_rfl) (by kernel_rfl) fun a H => ?_
 unfold armillaryref04_SmallBox at G
 refine k_seq ?_
 refine k_rg mixed H (.v 4 (.slice none 0 0) <| .nil) fun u1 a w' H => ?_
 replace H := H.kp [0, 1, 29]
 refine k_seq ?_
 replace G := gd G; obtain ⟨b3, G⟩ := G
 refine k_rg mixed H (.v 7 (vI a1) <|
   .cons [8, 30] (ok_rowL [] (fun u2 => []) 37 2 (List.replicate a1.toNat (⟨0, 0⟩ : TInterval)).length ((List.replicate a1.toNat (⟨0, 0⟩ : TInterval)).flatMap en_TInterval) 8 30 (fun _ => .none) (fun u2 w hF => run_make_row (t := 22) (k := .i64) (m := a1) (en := en_TInterval) (z := (⟨0, 0⟩ : TInterval)) en_TInterval_len inf37 rfl b3 (by kernel_rfl)) (fun _ => .inl rfl)) <|
   .cons [5] (ok_val (fun u2 => .slice ((u2 1).o 0) ((List.replicate a1.toNat (⟨0, 0⟩ : TInterval)).length) ((u2 1).n 0)) 5) <| .nil) fun u2 a w' H => ?_
 replace H := H.kp [0, 1, 5, 29, 30]
 refine k_seq ?_
 replace G := bnd G; obtain ⟨j5, hj5, G⟩ := G
 refine k_join (fun a w' => ∃ (p_j4 : Option Addr) (c_j4 np_j4 : Nat), np_j4 = j5.length ∧ Rep w.heap.size w 29 (ofL [(5, sS p_j4 np_j4 c_j4), (900104, owK 37 2 p_j4 np_j4 c_j4 (j5.flatMap en_TInterval))]) a w') ?_ ?_
 ·clear H; rintro a w' ⟨p_j4, c_j4, _, rfl, H⟩
  refine k_seq ?_
  refine k_rg mixed H (.v 28 (.slice p_j4 j5.length c_j4) <|
   .v 4 (.slice p_j4 j5.length c_j4) <| .nil) fun u6 a w' H => ?_
  replace H := H.kp [4, 900104]
  refine k_ret ?_
  obtain rfl := Option.some.inj G
  obtain ⟨g, o0, n0⟩ : ∃ g : Gh, g.o 0 = p_j4 ∧ g.n 0 = c_j4 := ⟨⟨fun i => [c_j4].getD i 0, fun i => [p_j4].getD i none, fun i => ([⟨Unit, ()⟩] : List ((T : Type) × T)).getD i ⟨Unit, ()⟩⟩, rfl, rfl⟩
  refine k_doneZ H (fun g => .slice (g.o 0) j5.length (g.n 0)) g [] [] (fun g => [fun _ => owK 37 2 (g.o 0) j5.length (g.n 0) (j5.flatMap en_TInterval)]) fr [900104] [] (.slice p_j4 j5.length c_j4) [fun _ => owK 37 2 p_j4 j5.length c_j4 (j5.flatMap en_TInterval)] (by simp only [o0, n0]) (by simp only [o0, n0]) hfr (.inl ⟨rfl, rfl⟩) (fams_cons fam_ow fams_nil) (by simp)
 ·clear G; replace G := hj5; clear hj5
  refine k_seq ?_
  refine k_rg mixed H (.v 6 (vI 0) <| .nil) fun u7 a w' H => ?_
  replace H := H.kp [0, 1, 5, 6, 29, 30]
  refine k_block ?_
  replace H := H.move (K := owK 37 2 ((u2 1).o 0) ((List.replicate a1.toNat (⟨0, 0⟩ : TInterval)).length) ((u2 1).n 0) ((List.replicate a1.toNat (⟨0, 0⟩ : TInterval)).flatMap en_TInterval)) 30 900105 (by kernel_rfl) (by intro _ _ h; cases h)
  refine k_loopJ (fun m a w' => ∃ x8 : List TInterval, ∃ x9 : Int, armillaryref04_SmallBox.l10 k0 a0 a1 m x8 x9 = some j5 ∧ ∃ (p_x8 : Option Addr) (c_x8 np_x8 : Nat), np_x8 = x8.length ∧ Rep w.heap.size w 29 (ofL [(0, sS p_a0 a0.length c_a0), (1, sI a1), (5, sS p_x8 np_x8 c_x8), (6, sI x9), (29, rdl anyF 2 p_a0 c_a0 a0 en_TInterval), (900105, owK 37 2 p_x8 np_x8 c_x8 (x8.flatMap en_TInterval))]) a w') k0 ⟨_, _, G, ((u2 1).o 0), ((u2 1).n 0), (List.replicate a1.toNat (⟨0, 0⟩ : TInterval)).length, rfl, H.toL _ (by kernel_rfl)⟩ ?_
  clear G H
  rintro (_ | k) a w' ⟨x8, x9, G, p_x8, c_x8, _, rfl, H⟩
  ·exact absurd G (by unfold armillaryref04_SmallBox.l10; exact fun h => by cases h)
  ·unfold armillaryref04_SmallBox.l10 at G
   refine k_seq ?_
   refine k_seq ?_
   refine k_rg mixed H (.v 9 (vI x9) <|
   .v 10 (vI a1) <|
   .v 11 (.bool (decide (x9 < a1))) <|
   .v 12 (.bool (decide (x9 < a1))) <|
   .cons [13] (ok_valg (fun u11 => vI x9) (fun u11 => ((decide (x9 < a1)) == true)) [true] 13) <|
   .cons [14] (ok_valg (fun u11 => .slice p_a0 a0.length c_a0) (fun u11 => ((decide (x9 < a1)) == true)) [true] 14) <|
   .cons [15] (ok_valg (fun u11 => vI (a0.length : Int)) (fun u11 => ((decide (x9 < a1)) == true)) [false] 15) <|
   .cons [16] (ok_valg (fun u11 => .bool (decide (x9 < (a0.length : Int)))) (fun u11 => ((decide (x9 < a1)) == true)) [false, false] 16) <|
   .cons [17] (ok_and 12 16 (fun u11 => true) (fun u11 => true) (fun u11 => decide (x9 < a1)) (fun u11 => decide (x9 < (a0.length : Int))) 17) <| .nil) fun u11 a w' H => ?_
   replace H := H.kp [0, 1, 5, 6, 13, 14, 15, 16, 17, 29, 900105]
   refine k_cond H (by kernel_rfl) (t := ((decide (x9 < a1)) && (decide (x9 < (a0.length : Int))))) (by kernel_rfl) (fun c19 => ?_) (fun c19 => ?_)
   ·rw [if_pos c19] at G
    refine k_skip ?_
    refine k_seq ?_
    refine k_block ?_
    replace G := gd G; obtain ⟨b13, G⟩ := G
    replace G := bnd G; obtain ⟨t14, ht14, G⟩ := G
    replace G := bnd G; obtain ⟨t15, ht15, G⟩ := G
    replace G := gd G; obtain ⟨b16, G⟩ := G
    replace G := bnd G; obtain ⟨t17, ht17, G⟩ := G
    refine k_rg mixed H (.v 20 (.slice p_x8 x8.length c_x8) <|
   .v 21 (vI x9) <|
   .v 22 (.slice p_a0 a0.length c_a0) <|
   .v 23 (vI x9) <|
   .cons [24] (ok_valL [29] (fun u12 => [rdl anyF 2 p_a0 c_a0 a0 en_TInterval]) (fun u12 => .pointer (some ⟨hdB p_a0, hdO p_a0 + x9.toNat * 2, none⟩)) (fun u12 => true) [true, true] 24 (fun u12 w hg hF => ix_row (t := 22) (k := .i64) (i := x9) (p := p_a0) (n := a0.length) (cap := c_a0) (x := a0) (en := en_TInterval) (rdF_of hF.1).2 en_TInterval_len rfl b13 (by kernel_rfl))) <|
   .cons [25] (ok_valL [29] (fun u12 => [rdl anyF 2 p_a0 c_a0 a0 en_TInterval]) (fun u12 => .agg #[vI t14.Lo, vI t14.Hi]) (fun u12 => true) [true] 25 (fun u12 w hg hF => ld_row (en := en_TInterval) (rdF_of hF.1).2 en_TInterval_len ht14 0 2 [vI t14.Lo, vI t14.Hi] rfl (by kernel_rfl))) <|
   .cons [26] (ok_callv 88 (fun u12 => #[.agg #[vI t14.Lo, vI t14.Hi]]) (.agg #[vI t15.Lo, vI t15.Hi]) 26 [] (fun u12 w _ => armillaryref02_Small.calls t14  t15 w  ht15)) <|
   .cons [27] (ok_valL [900105] (fun u12 => [owK 37 2 p_x8 x8.length c_x8 (x8.flatMap en_TInterval)]) (fun u12 => .pointer (some ⟨hdB p_x8, hdO p_x8 + x9.toNat * 2, none⟩)) (fun u12 => true) [true, true] 27 (fun u12 w hg hF => ix_row (t := 22) (k := .i64) (i := x9) (p := p_x8) (n := x8.length) (cap := c_x8) (x := x8) (en := en_TInterval) (owns_rowC (ow_of hF.1)).2 en_TInterval_len rfl b16 (by kernel_rfl))) <|
   .cons [900105, 900105] (ok_own1 [] [] (fun u12 => []) 900105 (fun u12 => owK 37 2 p_x8 x8.length c_x8 (x8.flatMap en_TInterval)) none (fun u12 g => .nilFunc) (fun u12 g => owK 37 2 p_x8 x8.length c_x8 ((x8.set x9.toNat t15).flatMap en_TInterval)) (fun u12 w hF hK => tv_set (el_storeN (ow_of hK) en_TInterval_len (y := t15) (vs := [vI t15.Lo, vI t15.Hi]) ht17 0 (by simp) (by simp) rfl (by kernel_rfl)))) <| .nil) fun u12 a w' H => ?_
    replace H := H.kp [0, 1, 5, 6, 13, 14, 15, 16, 29, 900105]
    refine k_rg mixed H (.v 18 (vI x9) <|
   .v 19 (vI (w_i64 (x9 + 1))) <|
   .v 6 (vI (w_i64 (x9 + 1))) <| .nil) fun u18 a w' H => ?_
    replace H := H.kp [0, 1, 5, 6, 13, 14, 15, 16, 29, 900105]
    exact ⟨k, Nat.lt_succ_self k, _, _, G, p_x8, c_x8, x8.length, by simp, H.toL _ (by kernel_rfl)⟩
   ·rw [if_neg (nt c19)] at G
    refine k_exit rfl ?_
    obtain rfl := Option.some.inj G
    replace H := H.move (K := owK 37 2 p_x8 x8.length c_x8 (x8.flatMap en_TInterval)) 900105 900104 (by kernel_rfl) (by intro _ _ h; cases h)
    exact ⟨p_x8, c_x8, x8.length, rfl, H.toL _ (by kernel_rfl)⟩
set_option maxHeartbeats 4000000 in
theorem armillarylaw04_small.calls (k0 : Nat) (a0 : TOperands) (p_a0_A : Option Addr) (c_a0_A : Nat) (p_a0_B : Option Addr) (c_a0_B : Nat) (p_a0_X : Option Addr) (c_a0_X : Nat) (r : List (List TInterval) × List (List TInterval) × List TInterval) (w : World) (hB : AllH [rdl anyF 2 p_a0_A c_a0_A a0.A en_TInterval, rdl anyF 2 p_a0_B c_a0_B a0.B en_TInterval, rdl anyF 2 p_a0_X c_a0_X a0.X en_TInterval] w) (G : armillarylaw04_small k0 a0 = some r) :
  Calls Tryd.prog 12 #[.agg #[.slice p_a0_A a0.A.length c_a0_A, .slice p_a0_B a0.B.length c_a0_B, .slice p_a0_X a0.X.length c_a0_X, .int .u8 a0.N]] w fun e w' => ∃ g : Gh, e = .returned (.tuple #[.slice (g.o 0) ((g.dl Sl.l gd_S_TInterval 0 r.1).length) (g.n 0), .slice (g.o 1) ((g.dl Sl.l gd_S_TInterval 1 r.2.1).length) (g.n 1), .slice (g.o 2) r.2.2.length (g.n 2)]) ∧ But (fpK []) w w' ∧ OutOK w.heap.size (fpK []) (frI w.heap.size []) [fun _ => nsK 22 37 2 en_TInterval (g.o 0) ((g.dl Sl.l gd_S_TInterval 0 r.1).length) (g.n 0) (g.dl Sl.l gd_S_TInterval 0 r.1) (g.dl Sl.l gd_S_TInterval 0 r.1), fun _ => nsK 22 37 2 en_TInterval (g.o 1) ((g.dl Sl.l gd_S_TInterval 1 r.2.1).length) (g.n 1) (g.dl Sl.l gd_S_TInterval 1 r.2.1) (g.dl Sl.l gd_S_TInterval 1 r.2.1), fun _ => owK 37 2 (g.o 2) r.2.2.length (g.n 2) (r.2.2.flatMap en_TInterval)] w' := by
 obtain ⟨fr, hfr⟩ : ∃ fr : Nat → Prop, fr = frI w.heap.size [] := ⟨_, rfl⟩
 have hBf : ∀ j, w.heap.size ≤ j → fr j := fun j h => by rw [hfr]; exact .inl h
 refine k_enterF (args := [.agg #[.slice p_a0_A a0.A.length c_a0_A, .slice p_a0_B a0.B.length c_a0_B, .slice p_a0_X a0.X.length c_a0_X, .int .u8 a0.N]]) 21 [(21, rdl anyF 2 p_a0_A c_a0_A a0.A en_TInterval), (22, rdl anyF 2 p_a0_B c_a0_B a0.B en_TInterval), (23, rdl anyF 2 p_a0_X c_a0_X a0.X en_TInterval)] (by
  intro x hx
  simp only [List.mem_cons, List.not_mem_nil, or_false] at hx
  rcases hx with rfl | rfl | rfl
  ·exact rdF_fact (rdF_of hB.1) (fun _ _ => trivial) (by decide) _
  ·exact rdF_fact (rdF_of hB.2.1) (fun _ _ => trivial) (by decide) _
  ·exact rdF_fact (rdF_of hB.2.2.1) (fun _ _ => trivial) (by decide) _) Tryd.func12 rfl (by kernel_rfl) (by kernel_rfl) fun a H => ?_
 unfold armillarylaw04_small at G
 refine k_seq ?_
 refine k_rg mixed H (.cons [1, 24] (ok_new (fun b => vP b 0) (fun u1 => [.slice p_a0_A a0.A.length c_a0_A, .slice p_a0_B a0.B.length c_a0_B, .slice p_a0_X a0.X.length c_a0_X, .int .u8 a0.N]) 24 1 24) <|
   .v 2 (.slice none 0 0) <|
   .v 3 (.slice none 0 0) <|
   .v 4 (.slice none 0 0) <| .nil) fun u1 a w' H => ?_
 replace H := H.kp [1, 21, 22, 23, 24]
 refine k_seq ?_
 replace G := bnd G; obtain ⟨t3, ht3, G⟩ := G
 refine k_rg mixed H (.v 6 (vP ((u1 0).n 0) 3) <|
   .cons [7] (ok_ld (fun u2 => .int .u8 a0.N) 7 24 3 1 (fun u2 => ((u1 0).n 0)) (fun u2 => [.slice p_a0_A a0.A.length c_a0_A, .slice p_a0_B a0.B.length c_a0_B, .slice p_a0_X a0.X.length c_a0_X, .int .u8 a0.N]) 24) <|
   .cons [8] (ok_callv 29 (fun u2 => #[.int .u8 a0.N]) (vI t3) 8 [] (fun u2 w _ => armillaryref04_Dim.calls a0.N  t3 w  ht3)) <|
   .v 5 (vI t3) <| .nil) fun u2 a w' H => ?_
 replace H := H.kp [1, 5, 21, 22, 23, 24]
 refine k_seq ?_
 replace G := bnd G; obtain ⟨t5, ht5, G⟩ := G
 replace G := bnd G; obtain ⟨t6, ht6, G⟩ := G
 replace G := bnd G; obtain ⟨t7, ht7, G⟩ := G
 refine k_regT mixed H (.v 9 (vP ((u1 0).n 0) 0) <|
   .cons [10] (ok_ld (fun u4 => .slice p_a0_A a0.A.length c_a0_A) 10 24 0 1 (fun u4 => ((u1 0).n 0)) (fun u4 => [.slice p_a0_A a0.A.length c_a0_A, .slice p_a0_B a0.B.length c_a0_B, .slice p_a0_X a0.X.length c_a0_X, .int .u8 a0.N]) 24) <|
   .v 11 (vI t3) <|
   .cons [12, 25] (ok_callY false fr [] [21] (fun u4 => [rdl anyF 2 p_a0_A c_a0_A a0.A en_TInterval]) [] (fun u4 => []) 49 (fun u4 => #[.slice p_a0_A a0.A.length c_a0_A, vI t3]) (fun u4 => [rdl anyF 2 p_a0_A c_a0_A a0.A en_TInterval]) (fun u4 => []) (fun u4 g => .slice (g.o 0) ((g.dl Sl.l gd_S_TInterval 0 t5).length) (g.n 0)) (fun u4 g => [fun _ => nsK 22 37 2 en_TInterval (g.o 0) ((g.dl Sl.l gd_S_TInterval 0 t5).length) (g.n 0) (g.dl Sl.l gd_S_TInterval 0 t5) (g.dl Sl.l gd_S_TInterval 0 t5)]) [25] 12 (fun u4 w hB hF hM => armillaryref04_Small.calls k0 a0.A t3 p_a0_A c_a0_A t5 w  hB ht5) (fun u4 w hF => ⟨⟨sub_rd0 (rdF_of hF.1) (fun j h => ⟨_, (.head _), h⟩), trivial⟩, trivial⟩) (fun u4 g => (fams_cons fam_ns fams_nil)) (.inr (fun u4 g => (famx_cons trivial (fun K h => by cases h)))) (fun h => by cases h)) <|
   .v 13 (vP ((u1 0).n 0) 1) <|
   .cons [14] (ok_ld (fun u4 => .slice p_a0_B a0.B.length c_a0_B) 14 24 1 1 (fun u4 => ((u1 0).n 0)) (fun u4 => [.slice p_a0_A a0.A.length c_a0_A, .slice p_a0_B a0.B.length c_a0_B, .slice p_a0_X a0.X.length c_a0_X, .int .u8 a0.N]) 24) <|
   .v 15 (vI t3) <|
   .cons [16, 26] (ok_callY false fr [] [22] (fun u4 => [rdl anyF 2 p_a0_B c_a0_B a0.B en_TInterval]) [] (fun u4 => []) 49 (fun u4 => #[.slice p_a0_B a0.B.length c_a0_B, vI t3]) (fun u4 => [rdl anyF 2 p_a0_B c_a0_B a0.B en_TInterval]) (fun u4 => []) (fun u4 g => .slice (g.o 0) ((g.dl Sl.l gd_S_TInterval 0 t6).length) (g.n 0)) (fun u4 g => [fun _ => nsK 22 37 2 en_TInterval (g.o 0) ((g.dl Sl.l gd_S_TInterval 0 t6).length) (g.n 0) (g.dl Sl.l gd_S_TInterval 0 t6) (g.dl Sl.l gd_S_TInterval 0 t6)]) [26] 16 (fun u4 w hB hF hM => armillaryref04_Small.calls k0 a0.B t3 p_a0_B c_a0_B t6 w  hB ht6) (fun u4 w hF => ⟨⟨sub_rd0 (rdF_of hF.1) (fun j h => ⟨_, (.head _), h⟩), trivial⟩, trivial⟩) (fun u4 g => (fams_cons fam_ns fams_nil)) (.inr (fun u4 g => (famx_cons trivial (fun K h => by cases h)))) (fun h => by cases h)) <|
   .v 17 (vP ((u1 0).n 0) 2) <|
   .cons [18] (ok_ld (fun u4 => .slice p_a0_X a0.X.length c_a0_X) 18 24 2 1 (fun u4 => ((u1 0).n 0)) (fun u4 => [.slice p_a0_A a0.A.length c_a0_A, .slice p_a0_B a0.B.length c_a0_B, .slice p_a0_X a0.X.length c_a0_X, .int .u8 a0.N]) 24) <|
   .v 19 (vI t3) <|
   .cons [20, 27] (ok_callY false fr [] [23] (fun u4 => [rdl anyF 2 p_a0_X c_a0_X a0.X en_TInterval]) [] (fun u4 => []) 50 (fun u4 => #[.slice p_a0_X a0.X.length c_a0_X, vI t3]) (fun u4 => [rdl anyF 2 p_a0_X c_a0_X a0.X en_TInterval]) (fun u4 => []) (fun u4 g => .slice (g.o 0) t7.length (g.n 0)) (fun u4 g => [fun _ => owK 37 2 (g.o 0) t7.length (g.n 0) (t7.flatMap en_TInterval)]) [27] 20 (fun u4 w hB hF hM => armillaryref04_SmallBox.calls k0 a0.X t3 p_a0_X c_a0_X t7 w  hB ht7) (fun u4 w hF => ⟨⟨sub_rd0 (rdF_of hF.1) (fun j h => ⟨_, (.head _), h⟩), trivial⟩, trivial⟩) (fun u4 g => (fams_cons fam_ow fams_nil)) (.inr (fun u4 g => (famx_cons trivial (fun K h => by cases h)))) (fun h => by cases h)) <|
   .cons [2] (ok_val (fun u4 => .slice ((u4 3).o 0) (((u4 3).dl Sl.l gd_S_TInterval 0 t5).length) ((u4 3).n 0)) 2) <|
   .cons [3] (ok_val (fun u4 => .slice ((u4 7).o 0) (((u4 7).dl Sl.l gd_S_TInterval 0 t6).length) ((u4 7).n 0)) 3) <|
   .cons [4] (ok_val (fun u4 => .slice ((u4 11).o 0) t7.length ((u4 11).n 0)) 4) <| .nil) (by kernel_rfl) fun u4 a w' H => ?_
 replace H := H.kp [2, 3, 4, 25, 26, 27]
 refine k_ret ?_
 obtain rfl := Option.some.inj G
 obtain ⟨g, o0, n0, d0, o1, n1, d1, o2, n2⟩ : ∃ g : Gh, g.o 0 = ((u4 3).o 0) ∧ g.n 0 = ((u4 3).n 0) ∧ g.dl Sl.l gd_S_TInterval 0 t5 = ((u4 3).dl Sl.l gd_S_TInterval 0 t5) ∧ g.o 1 = ((u4 7).o 0) ∧ g.n 1 = ((u4 7).n 0) ∧ g.dl Sl.l gd_S_TInterval 1 t6 = ((u4 7).dl Sl.l gd_S_TInterval 0 t6) ∧ g.o 2 = ((u4 11).o 0) ∧ g.n 2 = ((u4 11).n 0) := ⟨⟨fun i => [((u4 3).n 0), ((u4 7).n 0), ((u4 11).n 0)].getD i 0, fun i => [((u4 3).o 0), ((u4 7).o 0), ((u4 11).o 0)].getD i none, fun i => ([⟨List (Sl TInterval), ((u4 3).dl Sl.l gd_S_TInterval 0 t5)⟩, ⟨List (Sl TInterval), ((u4 7).dl Sl.l gd_S_TInterval 0 t6)⟩, ⟨Unit, ()⟩] : List ((T : Type) × T)).getD i ⟨Unit, ()⟩⟩, rfl, rfl, dl_mk rfl (dl_er ergd_S_TInterval (u4 3) 0 t5), rfl, rfl, dl_mk rfl (dl_er ergd_S_TInterval (u4 7) 0 t6), rfl, rfl⟩
 refine k_doneZ H (fun g => .tuple #[.slice (g.o 0) ((g.dl Sl.l gd_S_TInterval 0 t5).length) (g.n 0), .slice (g.o 1) ((g.dl Sl.l gd_S_TInterval 1 t6).length) (g.n 1), .slice (g.o 2) t7.length (g.n 2)]) g [] [] (fun g => [fun _ => nsK 22 37 2 en_TInterval (g.o 0) ((g.dl Sl.l gd_S_TInterval 0 t5).length) (g.n 0) (g.dl Sl.l gd_S_TInterval 0 t5) (g.dl Sl.l gd_S_TInterval 0 t5), fun _ => nsK 22 37 2 en_TInterval (g.o 1) ((g.dl Sl.l gd_S_TInterval 1 t6).length) (g.n 1) (g.dl Sl.l gd_S_TInterval 1 t6) (g.dl Sl.l gd_S_TInterval 1 t6), fun _ => owK 37 2 (g.o 2) t7.length (g.n 2) (t7.flatMap en_TInterval)]) fr [25, 26, 27] [] (.tuple #[.slice ((u4 3).o 0) (((u4 3).dl Sl.l gd_S_TInterval 0 t5).length) ((u4 3).n 0), .slice ((u4 7).o 0) (((u4 7).dl Sl.l gd_S_TInterval 0 t6).length) ((u4 7).n 0), .slice ((u4 11).o 0) t7.length ((u4 11).n 0)]) [fun _ => nsK 22 37 2 en_TInterval ((u4 3).o 0) (((u4 3).dl Sl.l gd_S_TInterval 0 t5).length) ((u4 3).n 0) ((u4 3).dl Sl.l gd_S_TInterval 0 t5) ((u4 3).dl Sl.l gd_S_TInterval 0 t5), fun _ => nsK 22 37 2 en_TInterval ((u4 7).o 0) (((u4 7).dl Sl.l gd_S_TInterval 0 t6).length) ((u4 7).n 0) ((u4 7).dl Sl.l gd_S_TInterval 0 t6) ((u4 7).dl Sl.l gd_S_TInterval 0 t6), fun _ => owK 37 2 ((u4 11).o 0) t7.length ((u4 11).n 0) (t7.flatMap en_TInterval)] (by simp only [o0, n0, d0, o1, n1, d1, o2, n2]) (by simp only [o0, n0, d0, o1, n1, d1, o2, n2]) hfr (.inl ⟨rfl, rfl⟩) (fams_cons fam_ns (fams_cons fam_ns (fams_cons fam_ow fams_nil))) (by simp)
set_option maxHeartbeats 4000000 in
theorem armillaryref02_IsEntire.calls (a0 : TInterval) (r : Bool) (w : World) (G : armillaryref02_IsEntire a0 = some r) :
  Calls Tryd.prog 40 #[.agg #[vI a0.Lo, vI a0.Hi]] w fun e w' => e = .returned (.bool r) ∧ Below w.heap.size w w' := by
 refine k_enter (args := [.agg #[vI a0.Lo, vI a0.Hi]]) 11 Tryd.func40 rfl (by kernel_rfl) (by kernel_rfl) fun a H => ?_
 unfold armillaryref02_IsEntire at G
 refine k_seq ?_
 refine k_rg mixed H (.cons [1, 11] (ok_new (fun b => vP b 0) (fun u1 => [vI a0.Lo, vI a0.Hi]) 37 1 11) <|
   .v 2 (.bool false) <| .nil) fun u1 a w' H => ?_
 replace H := H.kp [1, 11]
 refine k_seq ?_
 refine k_rg mixed H (.v 3 (vP ((u1 0).n 0) 0) <|
   .cons [4] (ok_ld (fun u2 => vI a0.Lo) 4 11 0 1 (fun u2 => ((u1 0).n 0)) (fun u2 => [vI a0.Lo, vI a0.Hi]) 37) <|
   .v 5 (.bool (a0.Lo == (-2147483648))) <|
   .v 6 (.bool (a0.Lo == (-2147483648))) <|
   .cons [7] (ok_valg (fun u2 => vP ((u1 0).n 0) 1) (fun u2 => ((a0.Lo == (-2147483648)) == true)) [true] 7) <|
   .cons [8] (ok_ldg (fun u2 => vI a0.Hi) (fun u2 => ((a0.Lo == (-2147483648)) == true)) [false] 8 11 1 1 (fun u2 => ((u1 0).n 0)) (fun u2 => [vI a0.Lo, vI a0.Hi]) 37) <|
   .cons [9] (ok_valg (fun u2 => .bool (a0.Hi == 2147483648)) (fun u2 => ((a0.Lo == (-2147483648)) == true)) [false, true] 9) <|
   .cons [10] (ok_and 6 9 (fun u2 => true) (fun u2 => true) (fun u2 => (a0.Lo == (-2147483648))) (fun u2 => (a0.Hi == 2147483648)) 10) <|
   .v 2 (.bool ((a0.Lo == (-2147483648)) && (a0.Hi == 2147483648))) <| .nil) fun u2 a w' H => ?_
 replace H := H.kp [2]
 refine k_ret ?_
 obtain rfl := Option.some.inj G
 exact k_done0 H _ (by kernel_rfl) (by kernel_rfl)
set_option maxHeartbeats 4000000 in
theorem armillaryref04_pointIn.calls (a0 : TInterval) (a1 : Int) (r : Int) (w : World) (G : armillaryref04_pointIn a0 a1 = some r) :
  Calls Tryd.prog 51 #[.agg #[vI a0.Lo, vI a0.Hi], .int .u16 a1] w fun e w' => e = .returned (vI r) ∧ Below w.heap.size w w' := by
 refine k_enter (args := [.agg #[vI a0.Lo, vI a0.Hi], .int .u16 a1]) 21 Tryd.func51 rfl (by kernel_rfl) (by kernel_rfl) fun a H => ?_
 unfold armillaryref04_pointIn at G
 refine k_seq ?_
 refine k_rg mixed H (.cons [2, 21] (ok_new (fun b => vP b 0) (fun u1 => [vI a0.Lo, vI a0.Hi]) 37 2 21) <|
   .v 4 (vI 0) <| .nil) fun u1 a w' H => ?_
 replace H := H.kp [1, 2, 21]
 refine k_seq ?_
 refine k_seq ?_
 replace G := bnd G; obtain ⟨t3, ht3, G⟩ := G
 refine k_rg mixed H (.cons [5] (ok_ld (fun u2 => .agg #[vI a0.Lo, vI a0.Hi]) 5 21 0 2 (fun u2 => ((u1 0).n 0)) (fun u2 => [vI a0.Lo, vI a0.Hi]) 37) <|
   .cons [6] (ok_callv 40 (fun u2 => #[.agg #[vI a0.Lo, vI a0.Hi]]) (.bool t3) 6 [] (fun u2 w _ => armillaryref02_IsEntire.calls a0  t3 w  ht3)) <| .nil) fun u2 a w' H => ?_
 replace H := H.kp [1, 2, 6, 21]
 refine k_cond H (by kernel_rfl) (t := t3) (by kernel_rfl) (fun c6 => ?_) (fun c6 => ?_)
 ·rw [if_pos c6] at G
  refine k_seq ?_
  refine k_rg mixed H (.v 7 (.int .u16 a1) <|
   .v 8 (vI (w_i64 a1)) <|
   .v 4 (vI (w_i64 a1)) <| .nil) fun u4 a w' H => ?_
  replace H := H.kp [4]
  refine k_ret ?_
  obtain rfl := Option.some.inj G
  exact k_done0 H _ (by kernel_rfl) (by kernel_rfl)
 ·rw [if_neg (nt c6)] at G
  refine k_skip ?_
  refine k_seq ?_
  refine k_rg mixed H (.v 9 (vP ((u1 0).n 0) 0) <|
   .cons [10] (ok_ld (fun u5 => vI a0.Lo) 10 21 0 1 (fun u5 => ((u1 0).n 0)) (fun u5 => [vI a0.Lo, vI a0.Hi]) 37) <|
   .v 11 (vP ((u1 0).n 0) 1) <|
   .cons [12] (ok_ld (fun u5 => vI a0.Hi) 12 21 1 1 (fun u5 => ((u1 0).n 0)) (fun u5 => [vI a0.Lo, vI a0.Hi]) 37) <|
   .v 13 (vP ((u1 0).n 0) 0) <|
   .cons [14] (ok_ld (fun u5 => vI a0.Lo) 14 21 0 1 (fun u5 => ((u1 0).n 0)) (fun u5 => [vI a0.Lo, vI a0.Hi]) 37) <|
   .v 15 (vI (w_i64 (a0.Hi - a0.Lo))) <|
   .v 16 (.int .u16 a1) <|
   .v 17 (vI (w_i64 a1)) <|
   .v 18 (vI (w_i64 ((w_i64 (a0.Hi - a0.Lo)) * (w_i64 a1)))) <|
   .v 19 (vI (w_i64 (Int.tdiv (w_i64 ((w_i64 (a0.Hi - a0.Lo)) * (w_i64 a1))) 65535))) <|
   .v 20 (vI (w_i64 (a0.Lo + (w_i64 (Int.tdiv (w_i64 ((w_i64 (a0.Hi - a0.Lo)) * (w_i64 a1))) 65535))))) <|
   .v 4 (vI (w_i64 (a0.Lo + (w_i64 (Int.tdiv (w_i64 ((w_i64 (a0.Hi - a0.Lo)) * (w_i64 a1))) 65535))))) <| .nil) fun u5 a w' H => ?_
  replace H := H.kp [4]
  refine k_ret ?_
  obtain rfl := Option.some.inj G
  exact k_done0 H _ (by kernel_rfl) (by kernel_rfl)
set_option maxHeartbeats 4000000 in
theorem armillaryref04_Sample.calls (k0 : Nat) (a0 : List (List TInterval)) (a1 : List Int) (p_a0 : Option Addr) (c_a0 : Nat) (L_a0 : List (Sl TInterval)) (p_a1 : Option Addr) (c_a1 : Nat) (r : List (List Int)) (w : World) (h_a0 : a0 = L_a0.map Sl.l) (hB : AllH [rdl anyF 1 p_a0 c_a0 L_a0 enSl, dnK anyF E_S_TInterval.toPart L_a0, rdl anyF 1 p_a1 c_a1 a1 en_u16] w) (G : armillaryref04_Sample k0 a0 a1 = some r) :
  Calls Tryd.prog 13 #[.slice p_a0 L_a0.length c_a0, .slice p_a1 a1.length c_a1] w fun e w' => ∃ g : Gh, e = .returned (.slice (g.o 0) ((g.dl Sl.l gd_S_i64 0 r).length) (g.n 0)) ∧ But (fpK []) w w' ∧ OutOK w.heap.size (fpK []) (frI w.heap.size []) [fun _ => nsK 32 2 1 en_i64 (g.o 0) ((g.dl Sl.l gd_S_i64 0 r).length) (g.n 0) (g.dl Sl.l gd_S_i64 0 r) (g.dl Sl.l gd_S_i64 0 r)] w' := by
 obtain ⟨fr, hfr⟩ : ∃ fr : Nat → Prop, fr = frI w.heap.size [] := ⟨_, rfl⟩
 have hBf : ∀ j, w.heap.size ≤ j → fr j := fun j h => by rw [hfr]; exact .inl h
 refine k_enterF (args := [.slice p_a0 L_a0.length c_a0, .slice p_a1 a1.length c_a1]) 56 [(56, rdl anyF 1 p_a0 c_a0 L_a0 enSl), (57, dnK anyF E_S_TInterval.toPart L_a0), (58, rdl anyF 1 p_a1 c_a1 a1 en_u16)] (by
  intro x hx
  simp only [List.mem_cons, List.not_mem_nil, or_false] at hx
  rcases hx with rfl | rfl | rfl
  ·exact rdF_fact (rdF_of hB.1) (fun _ _ => trivial) (by decide) _
  ·exact dn_fact (dn_of hB.2.1) (fun _ _ => trivial) _
  ·exact rdF_fact (rdF_of hB.2.2.1) (fun _ _ => trivial) (by decide) _) Tryd.func13 rfl (by kernel_rfl) (by kernel_rfl) fun a H => ?_
 unfold armillaryref04_Sample at G
 refine k_seq ?_
 refine k_rg mixed H (.v 4 (.slice none 0 0) <| .nil) fun u1 a w' H => ?_
 replace H := H.kp [0, 1, 56, 57, 58]
 refine k_seq ?_
 refine k_rg mixed H (.cons [10, 59] (ok_new (fun b => .slice (some ⟨b, 0, none⟩) 0 0) (fun u2 => []) 32 10 59) <|
   .cons [5] (ok_val (fun u2 => .slice (some ⟨((u2 0).n 0), 0, none⟩) 0 0) 5) <| .nil) fun u2 a w' H => ?_
 replace H := H.kp [0, 1, 5, 56, 57, 58, 59]
 refine k_seq ?_
 replace G := bnd G; obtain ⟨j4, hj4, G⟩ := G
 refine k_join (fun a w' => ∃ (p_j3 : Option Addr) (c_j3 np_j3 : Nat) (L_j3 : List (Sl Int)), np_j3 = L_j3.length ∧ j4 = L_j3.map Sl.l ∧ Rep w.heap.size w 56 (ofL [(5, sS p_j3 np_j3 c_j3), (900106, nsK 32 2 1 en_i64 p_j3 np_j3 c_j3 L_j3 L_j3)]) a w') ?_ ?_
 ·clear H; rintro a w' ⟨p_j3, c_j3, _, L_j3, rfl, h_j3, H⟩
  refine k_seq ?_
  refine k_rg mixed H (.v 55 (.slice p_j3 L_j3.length c_j3) <|
   .v 4 (.slice p_j3 L_j3.length c_j3) <| .nil) fun u5 a w' H => ?_
  replace H := H.kp [4, 900106]
  refine k_ret ?_
  obtain rfl := Option.some.inj G
  obtain ⟨g, o0, n0, d0⟩ : ∃ g : Gh, g.o 0 = p_j3 ∧ g.n 0 = c_j3 ∧ g.dl Sl.l gd_S_i64 0 j4 = L_j3 := ⟨⟨fun i => [c_j3].getD i 0, fun i => [p_j3].getD i none, fun i => ([⟨List (Sl Int), L_j3⟩] : List ((T : Type) × T)).getD i ⟨Unit, ()⟩⟩, rfl, rfl, dl_mk rfl h_j3⟩
  refine k_doneZ H (fun g => .slice (g.o 0) ((g.dl Sl.l gd_S_i64 0 j4).length) (g.n 0)) g [] [] (fun g => [fun _ => nsK 32 2 1 en_i64 (g.o 0) ((g.dl Sl.l gd_S_i64 0 j4).length) (g.n 0) (g.dl Sl.l gd_S_i64 0 j4) (g.dl Sl.l gd_S_i64 0 j4)]) fr [900106] [] (.slice p_j3 L_j3.length c_j3) [fun _ => nsK 32 2 1 en_i64 p_j3 L_j3.length c_j3 L_j3 L_j3] (by simp only [o0, n0, d0]) (by simp only [o0, n0, d0]) hfr (.inl ⟨rfl, rfl⟩) (fams_cons fam_ns fams_nil) (by simp)
 ·clear G; replace G := hj4; clear hj4
  refine k_seq ?_
  refine k_rg mixed H (.v 6 (vI 0) <| .nil) fun u6 a w' H => ?_
  replace H := H.kp [0, 1, 5, 6, 56, 57, 58, 59]
  refine k_block ?_
  replace H := H.blk_row 59 ((u2 0).n 0) [] 32 1 0 (by kernel_rfl) (by kernel_rfl) (by decide)
  replace H := H.nestOpen (e := 32) (m := 0) (cap := 0) (p := (some ⟨((u2 0).n 0), 0, none⟩)) (H := ([] : List (Sl Int))) 59 2 1 en_i64 (by kernel_rfl)
  replace H := H.move (K := nsK 32 2 1 en_i64 (some ⟨((u2 0).n 0), 0, none⟩) 0 0 ([] : List (Sl Int)) ([] : List (Sl Int))) 59 900108 (by kernel_rfl) (by intro _ _ h; cases h)
  refine k_loopJ (fun m a w' => ∃ x7 : List (List Int), ∃ x8 : Int, armillaryref04_Sample.l9 k0 a0 a1 m x7 x8 = some j4 ∧ ∃ (p_x7 : Option Addr) (c_x7 np_x7 : Nat) (L_x7 : List (Sl Int)), np_x7 = L_x7.length ∧ x7 = L_x7.map Sl.l ∧ Rep w.heap.size w 56 (ofL [(0, sS p_a0 L_a0.length c_a0), (1, sS p_a1 a1.length c_a1), (5, sS p_x7 np_x7 c_x7), (6, sI x8), (56, rdl anyF 1 p_a0 c_a0 L_a0 enSl), (57, dnK anyF E_S_TInterval.toPart L_a0), (58, rdl anyF 1 p_a1 c_a1 a1 en_u16), (900108, nsK 32 2 1 en_i64 p_x7 np_x7 c_x7 L_x7 L_x7)]) a w') k0 ⟨_, _, G, (some ⟨((u2 0).n 0), 0, none⟩), 0, 0, ([] : List (Sl Int)), rfl, rfl, H.toL _ (by kernel_rfl)⟩ ?_
  clear G H
  rintro (_ | k) a w' ⟨x7, x8, G, p_x7, c_x7, _, L_x7, rfl, h_x7, H⟩
  ·exact absurd G (by unfold armillaryref04_Sample.l9; exact fun h => by cases h)
  ·unfold armillaryref04_Sample.l9 at G
   refine k_seq ?_
   refine k_seq ?_
   refine k_rg mixed H (.v 11 (vI x8) <|
   .v 12 (.slice p_a0 L_a0.length c_a0) <|
   .cons [13] (ok_valL [56] (fun u10 => [rdl anyF 1 p_a0 c_a0 L_a0 enSl]) (fun u10 => vI (a0.length : Int)) (fun u10 => true) [true] 13 (fun u10 w hg hF => run_lenN (((rdF_of hF.1).2.len enSl_len (by decide)).trans (map_len h_a0).symm) (by kernel_rfl))) <|
   .v 14 (.bool (decide (x8 < (a0.length : Int)))) <| .nil) fun u10 a w' H => ?_
   replace H := H.kp [0, 1, 5, 6, 14, 56, 57, 58, 900108]
   refine k_cond H (by kernel_rfl) (t := decide (x8 < (a0.length : Int))) (by kernel_rfl) (fun c42 => ?_) (fun c42 => ?_)
   ·rw [if_pos c42] at G
    refine k_skip ?_
    refine k_seq ?_
    replace G := bnd G; obtain ⟨j12, hj12, G⟩ := G
    refine k_join (fun a w' => ∃ (p_j11 : Option Addr) (c_j11 np_j11 : Nat) (L_j11 : List (Sl Int)), np_j11 = L_j11.length ∧ j12 = L_j11.map Sl.l ∧ Rep w.heap.size w 56 (ofL [(0, sS p_a0 L_a0.length c_a0), (1, sS p_a1 a1.length c_a1), (5, sS p_j11 np_j11 c_j11), (6, sI x8), (56, rdl anyF 1 p_a0 c_a0 L_a0 enSl), (57, dnK anyF E_S_TInterval.toPart L_a0), (58, rdl anyF 1 p_a1 c_a1 a1 en_u16), (900110, nsK 32 2 1 en_i64 p_j11 np_j11 c_j11 L_j11 L_j11)]) a w') ?_ ?_
    ·clear H; rintro a w' ⟨p_j11, c_j11, _, L_j11, rfl, h_j11, H⟩
     refine k_rg mixed H (.v 15 (vI x8) <|
   .v 16 (vI (w_i64 (x8 + 1))) <|
   .v 6 (vI (w_i64 (x8 + 1))) <| .nil) fun u13 a w' H => ?_
     replace H := H.kp [0, 1, 5, 6, 56, 57, 58, 900110]
     replace H := H.move (K := nsK 32 2 1 en_i64 p_j11 L_j11.length c_j11 L_j11 L_j11) 900110 900108 (by kernel_rfl) (by intro _ _ h; cases h)
     exact ⟨k, Nat.lt_succ_self k, _, _, G, p_j11, c_j11, L_j11.length, L_j11, rfl, h_j11, H.toL _ (by kernel_rfl)⟩
    ·clear G; replace G := hj12; clear hj12
     refine k_block ?_
     refine k_seq ?_
     refine k_rg mixed H (.cons [17, 62] (ok_new (fun b => .slice (some ⟨b, 0, none⟩) 0 0) (fun u14 => []) 2 17 62) <|
   .cons [7] (ok_val (fun u14 => .slice (some ⟨((u14 0).n 0), 0, none⟩) 0 0) 7) <| .nil) fun u14 a w' H => ?_
     replace H := H.kp [0, 1, 5, 6, 7, 56, 57, 58, 62, 900108]
     refine k_seq ?_
     replace G := bnd G; obtain ⟨j16, hj16, G⟩ := G
     refine k_join (fun a w' => ∃ (p_j15 : Option Addr) (c_j15 np_j15 : Nat), np_j15 = j16.length ∧ Rep w.heap.size w 56 (ofL [(0, sS p_a0 L_a0.length c_a0), (1, sS p_a1 a1.length c_a1), (5, sS p_x7 L_x7.length c_x7), (6, sI x8), (7, sS p_j15 np_j15 c_j15), (56, rdl anyF 1 p_a0 c_a0 L_a0 enSl), (57, dnK anyF E_S_TInterval.toPart L_a0), (58, rdl anyF 1 p_a1 c_a1 a1 en_u16), (900108, nsK 32 2 1 en_i64 p_x7 L_x7.length c_x7 L_x7 L_x7), (900112, owK 2 1 p_j15 np_j15 c_j15 (j16.flatMap en_i64))]) a w') ?_ ?_
     ·clear H; rintro a w' ⟨p_j15, c_j15, _, rfl, H⟩
      replace G := gd G; obtain ⟨b18, G⟩ := G
      refine k_rg mixed H (.v 51 (.slice p_x7 L_x7.length c_x7) <|
   .v 52 (.slice p_j15 j16.length c_j15) <|
   .cons [53, 63] (ok_new (fun b => .slice (some ⟨b, 0, none⟩) 1 1) (fun u17 => [.slice p_j15 j16.length c_j15]) 32 53 63) <|
   .cons [54, 900108, 900112, 900108] (ok_own2 [2] [63] (fun u17 => [.blk ((u17 2).n 0) [.slice p_j15 j16.length c_j15] 32]) 900108 900112 (fun u17 => nsK 32 2 1 en_i64 p_x7 L_x7.length c_x7 L_x7 L_x7) (fun u17 => owK 2 1 p_j15 j16.length c_j15 (j16.flatMap en_i64)) (some 54) (fun u17 g => .slice (g.o 0) (L_x7 ++ [(⟨p_j15, c_j15, j16⟩ : Sl Int)]).length (g.n 0)) (fun u17 g => nsK 32 2 1 en_i64 (g.o 0) ((L_x7 ++ [(⟨p_j15, c_j15, j16⟩ : Sl Int)]).length) (g.n 0) (L_x7 ++ [(⟨p_j15, c_j15, j16⟩ : Sl Int)]) (L_x7 ++ [(⟨p_j15, c_j15, j16⟩ : Sl Int)])) (fun u17 w hF hK hK2 hd => tn_push hK hK2 hd en_i64_len (by decide) (fun hn h => run_app_rowN (t := 30) (ty := 30) (en := enSl) enSl_len inf32 h hF.1 (news := [(⟨p_j15, c_j15, j16⟩ : Sl Int)]) rfl (by simp) (by kernel_rfl) (by rw [← map_len h_x7]; exact b18))) (hloc := fun u u' h => ⟨by first | rfl | simp only [h 2 (by decide)], by first | rfl | simp only [h 2 (by decide)], by first | rfl | simp only [h 2 (by decide)], by first | rfl | simp only [h 2 (by decide)], by first | rfl | simp only [h 2 (by decide)]⟩)) <|
   .cons [5] (ok_val (fun u17 => .slice ((u17 3).o 0) ((L_x7 ++ [(⟨p_j15, c_j15, j16⟩ : Sl Int)]).length) ((u17 3).n 0)) 5) <| .nil) fun u17 a w' H => ?_
      replace H := H.kp [0, 1, 5, 6, 56, 57, 58, 900108]
      obtain rfl := Option.some.inj G
      replace H := H.move (K := nsK 32 2 1 en_i64 ((u17 3).o 0) ((L_x7 ++ [(⟨p_j15, c_j15, j16⟩ : Sl Int)]).length) ((u17 3).n 0) (L_x7 ++ [(⟨p_j15, c_j15, j16⟩ : Sl Int)]) (L_x7 ++ [(⟨p_j15, c_j15, j16⟩ : Sl Int)])) 900108 900110 (by kernel_rfl) (by intro _ _ h; cases h)
      exact ⟨((u17 3).o 0), ((u17 3).n 0), (L_x7 ++ [(⟨p_j15, c_j15, j16⟩ : Sl Int)]).length, (L_x7 ++ [(⟨p_j15, c_j15, j16⟩ : Sl Int)]), rfl, (map_app h_x7 (⟨p_j15, c_j15, j16⟩ : Sl Int)), H.toL _ (by kernel_rfl)⟩
     ·clear G; replace G := hj16; clear hj16
      refine k_seq ?_
      refine k_rg mixed H (.v 8 (vI 0) <| .nil) fun u19 a w' H => ?_
      replace H := H.kp [0, 1, 5, 6, 7, 8, 56, 57, 58, 62, 900108]
      refine k_block ?_
      replace H := H.blk_row 62 ((u14 0).n 0) [] 2 1 0 (by kernel_rfl) (by kernel_rfl) (by decide)
      replace H := H.move (K := owK 2 1 (some ⟨((u14 0).n 0), 0, none⟩) 0 0 (([] : List Int).flatMap en_i64)) 62 900113 (by kernel_rfl) (by intro _ _ h; cases h)
      refine k_loopJ (fun m a w' => ∃ x20 : List Int, ∃ x21 : Int, armillaryref04_Sample.l22 k0 a0 a1 x7 x8 m x20 x21 = some j16 ∧ ∃ (p_x20 : Option Addr) (c_x20 np_x20 : Nat), np_x20 = x20.length ∧ Rep w.heap.size w 56 (ofL [(0, sS p_a0 L_a0.length c_a0), (1, sS p_a1 a1.length c_a1), (5, sS p_x7 L_x7.length c_x7), (6, sI x8), (7, sS p_x20 np_x20 c_x20), (8, sI x21), (56, rdl anyF 1 p_a0 c_a0 L_a0 enSl), (57, dnK anyF E_S_TInterval.toPart L_a0), (58, rdl anyF 1 p_a1 c_a1 a1 en_u16), (900108, nsK 32 2 1 en_i64 p_x7 L_x7.length c_x7 L_x7 L_x7), (900113, owK 2 1 p_x20 np_x20 c_x20 (x20.flatMap en_i64))]) a w') k0 ⟨_, _, G, (some ⟨((u14 0).n 0), 0, none⟩), 0, 0, rfl, H.toL _ (by kernel_rfl)⟩ ?_
      clear G H
      rintro (_ | k) a w' ⟨x20, x21, G, p_x20, c_x20, _, rfl, H⟩
      ·exact absurd G (by unfold armillaryref04_Sample.l22; exact fun h => by cases h)
      ·unfold armillaryref04_Sample.l22 at G
       refine k_seq ?_
       refine k_seq ?_
       refine k_rg mixed H (.v 18 (vI x21) <|
   .v 19 (.slice p_a0 L_a0.length c_a0) <|
   .cons [20] (ok_valL [56] (fun u23 => [rdl anyF 1 p_a0 c_a0 L_a0 enSl]) (fun u23 => vI (a0.length : Int)) (fun u23 => true) [true] 20 (fun u23 w hg hF => run_lenN (((rdF_of hF.1).2.len enSl_len (by decide)).trans (map_len h_a0).symm) (by kernel_rfl))) <|
   .v 21 (.bool (decide (x21 < (a0.length : Int)))) <| .nil) fun u23 a w' H => ?_
       replace H := H.kp [0, 1, 5, 6, 7, 8, 21, 56, 57, 58, 900108, 900113]
       refine k_cond H (by kernel_rfl) (t := decide (x21 < (a0.length : Int))) (by kernel_rfl) (fun c41 => ?_) (fun c41 => ?_)
       ·rw [if_pos c41] at G
        refine k_skip ?_
        refine k_seq ?_
        refine k_block ?_
        refine k_seq ?_
        refine k_rg mixed H (.v 9 (.int .u16 0) <| .nil) fun u24 a w' H => ?_
        replace H := H.kp [0, 1, 5, 6, 7, 8, 9, 56, 57, 58, 900108, 900113]
        refine k_seq ?_
        replace G := bnd G; obtain ⟨j26, hj26, G⟩ := G
        refine k_join (fun a w' => Rep w.heap.size w 56 (ofL [(0, sS p_a0 L_a0.length c_a0), (1, sS p_a1 a1.length c_a1), (5, sS p_x7 L_x7.length c_x7), (6, sI x8), (7, sS p_x20 x20.length c_x20), (8, sI x21), (9, .slot true (.int .u16 j26)), (56, rdl anyF 1 p_a0 c_a0 L_a0 enSl), (57, dnK anyF E_S_TInterval.toPart L_a0), (58, rdl anyF 1 p_a1 c_a1 a1 en_u16), (900108, nsK 32 2 1 en_i64 p_x7 L_x7.length c_x7 L_x7 L_x7), (900113, owK 2 1 p_x20 x20.length c_x20 (x20.flatMap en_i64))]) a w') ?_ ?_
        ·clear H; intro a w' H
         replace G := gd G; obtain ⟨b28, G⟩ := G
         replace G := bnd G; obtain ⟨t29, ht29, G⟩ := G
         obtain ⟨p_t29, c_t29, y_t29⟩ := sl_get h_a0 ht29
         replace G := gd G; obtain ⟨b30, G⟩ := G
         replace G := bnd G; obtain ⟨t31, ht31, G⟩ := G
         replace G := bnd G; obtain ⟨t32, ht32, G⟩ := G
         replace G := gd G; obtain ⟨b33, G⟩ := G
         refine k_rg mixed H (.v 39 (.slice p_x20 x20.length c_x20) <|
   .v 40 (.slice p_a0 L_a0.length c_a0) <|
   .v 41 (vI x8) <|
   .cons [42] (ok_valL [56] (fun u27 => [rdl anyF 1 p_a0 c_a0 L_a0 enSl]) (fun u27 => .pointer (some ⟨hdB p_a0, hdO p_a0 + x8.toNat * 1, none⟩)) (fun u27 => true) [true, true] 42 (fun u27 w hg hF => ix_row (t := 27) (k := .i64) (i := x8) (p := p_a0) (n := L_a0.length) (cap := c_a0) (x := a0) (en := enSl) (rdF_of hF.1).2 enSl_len (map_len h_a0) b28 (by kernel_rfl))) <|
   .cons [43] (ok_valL [56] (fun u27 => [rdl anyF 1 p_a0 c_a0 L_a0 enSl]) (fun u27 => .slice p_t29 t29.length c_t29) (fun u27 => true) [true] 43 (fun u27 w hg hF => ld_row (en := enSl) (rdF_of hF.1).2 enSl_len y_t29 0 1 [.slice p_t29 t29.length c_t29] rfl (by kernel_rfl))) <|
   .v 44 (vI x21) <|
   .cons [45] (ok_valL [57] (fun u27 => [dnK anyF E_S_TInterval.toPart L_a0]) (fun u27 => .pointer (some ⟨hdB p_t29, hdO p_t29 + x21.toNat * 2, none⟩)) (fun u27 => true) [true, true] 45 (fun u27 w hg hF => ix_row (t := 22) (k := .i64) (i := x21) (p := p_t29) (n := t29.length) (cap := c_t29) (x := t29) (en := en_TInterval) (show RowC _ 2 p_t29 t29.length c_t29 (t29.flatMap en_TInterval) from ((dn_of hF.1) _ (List.mem_of_getElem? y_t29)).1).2 en_TInterval_len rfl b30 (by kernel_rfl))) <|
   .cons [46] (ok_valL [57] (fun u27 => [dnK anyF E_S_TInterval.toPart L_a0]) (fun u27 => .agg #[vI t31.Lo, vI t31.Hi]) (fun u27 => true) [true] 46 (fun u27 w hg hF => ld_row (en := en_TInterval) (show RowC _ 2 p_t29 t29.length c_t29 (t29.flatMap en_TInterval) from ((dn_of hF.1) _ (List.mem_of_getElem? y_t29)).1).2 en_TInterval_len ht31 0 2 [vI t31.Lo, vI t31.Hi] rfl (by kernel_rfl))) <|
   .v 47 (.int .u16 j26) <|
   .cons [48] (ok_callv 51 (fun u27 => #[.agg #[vI t31.Lo, vI t31.Hi], .int .u16 j26]) (vI t32) 48 [] (fun u27 w _ => armillaryref04_pointIn.calls t31 j26  t32 w  ht32)) <|
   .cons [49, 66] (ok_new (fun b => .slice (some ⟨b, 0, none⟩) 1 1) (fun u27 => [vI t32]) 2 49 66) <|
   .cons [50, 900113, 900113] (ok_own1 [10] [66] (fun u27 => [.blk ((u27 10).n 0) [vI t32] 2]) 900113 (fun u27 => owK 2 1 p_x20 x20.length c_x20 (x20.flatMap en_i64)) (some 50) (fun u27 g => .slice (g.o 0) (x20 ++ [t32]).length (g.n 0)) (fun u27 g => owK 2 1 (g.o 0) ((x20 ++ [t32]).length) (g.n 0) ((x20 ++ [t32]).flatMap en_i64)) (fun u27 w hF hK => tv_app (run_app_rowN (t := 32) (ty := 32) (en := en_i64) en_i64_len inf2 (ow_of hK) hF.1 (news := [t32]) rfl (by simp) (by kernel_rfl) b33)) (hloc := fun u u' h => ⟨by first | rfl | simp only [h 10 (by decide)], by first | rfl | simp only [h 10 (by decide)], by first | rfl | simp only [h 10 (by decide)], by first | rfl | simp only [h 10 (by decide)]⟩)) <|
   .cons [7] (ok_val (fun u27 => .slice ((u27 11).o 0) ((x20 ++ [t32]).length) ((u27 11).n 0)) 7) <| .nil) fun u27 a w' H => ?_
         replace H := H.kp [0, 1, 5, 6, 7, 8, 56, 57, 58, 900108, 900113]
         refine k_rg mixed H (.v 22 (vI x21) <|
   .v 23 (vI (w_i64 (x21 + 1))) <|
   .v 8 (vI (w_i64 (x21 + 1))) <| .nil) fun u34 a w' H => ?_
         replace H := H.kp [0, 1, 5, 6, 7, 8, 56, 57, 58, 900108, 900113]
         exact ⟨k, Nat.lt_succ_self k, _, _, G, ((u27 11).o 0), ((u27 11).n 0), (x20 ++ [t32]).length, rfl, H.toL _ (by kernel_rfl)⟩
        ·clear G; replace G := hj26; clear hj26
         refine k_seq ?_
         refine k_rg mixed H (.v 24 (.slice p_a1 a1.length c_a1) <|
   .v 25 (vI (a1.length : Int)) <|
   .v 26 (.bool (decide ((a1.length : Int) > 0))) <| .nil) fun u35 a w' H => ?_
         replace H := H.kp [0, 1, 5, 6, 7, 8, 9, 26, 56, 57, 58, 900108, 900113]
         refine k_cond H (by kernel_rfl) (t := decide ((a1.length : Int) > 0)) (by kernel_rfl) (fun c40 => ?_) (fun c40 => ?_)
         ·rw [if_pos c40] at G
          replace G := gd G; obtain ⟨n37, G⟩ := G
          replace G := gd G; obtain ⟨b38, G⟩ := G
          replace G := bnd G; obtain ⟨t39, ht39, G⟩ := G
          refine k_rg mixed H (.v 27 (.slice p_a1 a1.length c_a1) <|
   .v 28 (vI x8) <|
   .v 29 (.slice p_a0 L_a0.length c_a0) <|
   .cons [30] (ok_valL [56] (fun u36 => [rdl anyF 1 p_a0 c_a0 L_a0 enSl]) (fun u36 => vI (a0.length : Int)) (fun u36 => true) [true] 30 (fun u36 w hg hF => run_lenN (((rdF_of hF.1).2.len enSl_len (by decide)).trans (map_len h_a0).symm) (by kernel_rfl))) <|
   .v 31 (vI (w_i64 (x8 * (a0.length : Int)))) <|
   .v 32 (vI x21) <|
   .v 33 (vI (w_i64 ((w_i64 (x8 * (a0.length : Int))) + x21))) <|
   .v 34 (.slice p_a1 a1.length c_a1) <|
   .v 35 (vI (a1.length : Int)) <|
   .cons [36] (ok_val (fun u36 => vI (Int.tmod (w_i64 ((w_i64 (x8 * (a0.length : Int))) + x21)) (a1.length : Int))) 36 (hv := fun _ _ => run_of (by kernel_rfl) (run_rem (k := .i64) (x := w_i64 ((w_i64 (x8 * (a0.length : Int))) + x21)) (y := (a1.length : Int)) n37))) <|
   .cons [37] (ok_valL [58] (fun u36 => [rdl anyF 1 p_a1 c_a1 a1 en_u16]) (fun u36 => .pointer (some ⟨hdB p_a1, hdO p_a1 + ((Int.tmod (w_i64 ((w_i64 (x8 * (a0.length : Int))) + x21)) (a1.length : Int)).toNat) * 1, none⟩)) (fun u36 => true) [true, true] 37 (fun u36 w hg hF => ix_row (t := 25) (k := .i64) (i := Int.tmod (w_i64 ((w_i64 (x8 * (a0.length : Int))) + x21)) (a1.length : Int)) (p := p_a1) (n := a1.length) (cap := c_a1) (x := a1) (en := en_u16) (rdF_of hF.1).2 en_u16_len rfl b38 (by kernel_rfl))) <|
   .cons [38] (ok_valL [58] (fun u36 => [rdl anyF 1 p_a1 c_a1 a1 en_u16]) (fun u36 => .int .u16 t39) (fun u36 => true) [true] 38 (fun u36 w hg hF => ld_row (en := en_u16) (rdF_of hF.1).2 en_u16_len ht39 0 1 [.int .u16 t39] rfl (by kernel_rfl))) <|
   .v 9 (.int .u16 t39) <| .nil) fun u36 a w' H => ?_
          replace H := H.kp [0, 1, 5, 6, 7, 8, 9, 56, 57, 58, 900108, 900113]
          obtain rfl := Option.some.inj G
          exact H.toL _ (by kernel_rfl)
         ·rw [if_neg (nt c40)] at G
          refine k_skip ?_
          obtain rfl := Option.some.inj G
          exact H.toL _ (by kernel_rfl)
       ·rw [if_neg (nt c41)] at G
        refine k_exit rfl ?_
        obtain rfl := Option.some.inj G
        replace H := H.move (K := owK 2 1 p_x20 x20.length c_x20 (x20.flatMap en_i64)) 900113 900112 (by kernel_rfl) (by intro _ _ h; cases h)
        exact ⟨p_x20, c_x20, x20.length, rfl, H.toL _ (by kernel_rfl)⟩
   ·rw [if_neg (nt c42)] at G
    refine k_exit rfl ?_
    obtain rfl := Option.some.inj G
    replace H := H.move (K := nsK 32 2 1 en_i64 p_x7 L_x7.length c_x7 L_x7 L_x7) 900108 900106 (by kernel_rfl) (by intro _ _ h; cases h)
    exact ⟨p_x7, c_x7, L_x7.length, L_x7, rfl, h_x7, H.toL _ (by kernel_rfl)⟩
set_option maxHeartbeats 4000000 in
theorem armillaryref03_PointIn.calls (k0 : Nat) (a0 : List TInterval) (a1 : List Int) (p_a0 : Option Addr) (c_a0 : Nat) (p_a1 : Option Addr) (c_a1 : Nat) (r : List Int) (w : World) (hB : AllH [rdl anyF 2 p_a0 c_a0 a0 en_TInterval, rdl anyF 1 p_a1 c_a1 a1 en_u16] w) (G : armillaryref03_PointIn k0 a0 a1 = some r) :
  Calls Tryd.prog 14 #[.slice p_a0 a0.length c_a0, .slice p_a1 a1.length c_a1] w fun e w' => ∃ g : Gh, e = .returned (.slice (g.o 0) r.length (g.n 0)) ∧ But (fpK []) w w' ∧ OutOK w.heap.size (fpK []) (frI w.heap.size []) [fun _ => owK 2 1 (g.o 0) r.length (g.n 0) (r.flatMap en_i64)] w' := by
 obtain ⟨fr, hfr⟩ : ∃ fr : Nat → Prop, fr = frI w.heap.size [] := ⟨_, rfl⟩
 have hBf : ∀ j, w.heap.size ≤ j → fr j := fun j h => by rw [hfr]; exact .inl h
 refine k_enterF (args := [.slice p_a0 a0.length c_a0, .slice p_a1 a1.length c_a1]) 57 [(57, rdl anyF 2 p_a0 c_a0 a0 en_TInterval), (58, rdl anyF 1 p_a1 c_a1 a1 en_u16)] (by
  intro x hx
  simp only [List.mem_cons, List.not_mem_nil, or_false] at hx
  rcases hx with rfl | rfl
  ·exact rdF_fact (rdF_of hB.1) (fun _ _ => trivial) (by decide) _
  ·exact rdF_fact (rdF_of hB.2.1) (fun _ _ => trivial) (by decide) _) Tryd.func14 rfl (by kernel_rfl) (by kernel_rfl) fun a H => ?_
 unfold armillaryref03_PointIn at G
 refine k_seq ?_
 refine k_rg mixed H (.v 4 (.slice none 0 0) <| .nil) fun u1 a w' H => ?_
 replace H := H.kp [0, 1, 57, 58]
 refine k_seq ?_
 refine k_rg mixed H (.cons [8, 59] (ok_new (fun b => .slice (some ⟨b, 0, none⟩) 0 0) (fun u2 => []) 2 8 59) <|
   .cons [5] (ok_val (fun u2 => .slice (some ⟨((u2 0).n 0), 0, none⟩) 0 0) 5) <| .nil) fun u2 a w' H => ?_
 replace H := H.kp [0, 1, 5, 57, 58, 59]
 refine k_seq ?_
 replace G := bnd G; obtain ⟨j4, hj4, G⟩ := G
 refine k_join (fun a w' => ∃ (p_j3 : Option Addr) (c_j3 np_j3 : Nat), np_j3 = j4.length ∧ Rep w.heap.size w 57 (ofL [(5, sS p_j3 np_j3 c_j3), (900114, owK 2 1 p_j3 np_j3 c_j3 (j4.flatMap en_i64))]) a w') ?_ ?_
 ·clear H; rintro a w' ⟨p_j3, c_j3, _, rfl, H⟩
  refine k_seq ?_
  refine k_rg mixed H (.v 56 (.slice p_j3 j4.length c_j3) <|
   .v 4 (.slice p_j3 j4.length c_j3) <| .nil) fun u5 a w' H => ?_
  replace H := H.kp [4, 900114]
  refine k_ret ?_
  obtain rfl := Option.some.inj G
  obtain ⟨g, o0, n0⟩ : ∃ g : Gh, g.o 0 = p_j3 ∧ g.n 0 = c_j3 := ⟨⟨fun i => [c_j3].getD i 0, fun i => [p_j3].getD i none, fun i => ([⟨Unit, ()⟩] : List ((T : Type) × T)).getD i ⟨Unit, ()⟩⟩, rfl, rfl⟩
  refine k_doneZ H (fun g => .slice (g.o 0) j4.length (g.n 0)) g [] [] (fun g => [fun _ => owK 2 1 (g.o 0) j4.length (g.n 0) (j4.flatMap en_i64)]) fr [900114] [] (.slice p_j3 j4.length c_j3) [fun _ => owK 2 1 p_j3 j4.length c_j3 (j4.flatMap en_i64)] (by simp only [o0, n0]) (by simp only [o0, n0]) hfr (.inl ⟨rfl, rfl⟩) (fams_cons fam_ow fams_nil) (by simp)
 ·clear G; replace G := hj4; clear hj4
  refine k_seq ?_
  refine k_rg mixed H (.v 6 (vI 0) <| .nil) fun u6 a w' H => ?_
  replace H := H.kp [0, 1, 5, 6, 57, 58, 59]
  refine k_block ?_
  replace H := H.blk_row 59 ((u2 0).n 0) [] 2 1 0 (by kernel_rfl) (by kernel_rfl) (by decide)
  replace H := H.move (K := owK 2 1 (some ⟨((u2 0).n 0), 0, none⟩) 0 0 (([] : List Int).flatMap en_i64)) 59 900115 (by kernel_rfl) (by intro _ _ h; cases h)
  refine k_loopJ (fun m a w' => ∃ x7 : List Int, ∃ x8 : Int, armillaryref03_PointIn.l9 k0 a0 a1 m x7 x8 = some j4 ∧ ∃ (p_x7 : Option Addr) (c_x7 np_x7 : Nat), np_x7 = x7.length ∧ Rep w.heap.size w 57 (ofL [(0, sS p_a0 a0.length c_a0), (1, sS p_a1 a1.length c_a1), (5, sS p_x7 np_x7 c_x7), (6, sI x8), (57, rdl anyF 2 p_a0 c_a0 a0 en_TInterval), (58, rdl anyF 1 p_a1 c_a1 a1 en_u16), (900115, owK 2 1 p_x7 np_x7 c_x7 (x7.flatMap en_i64))]) a w') k0 ⟨_, _, G, (some ⟨((u2 0).n 0), 0, none⟩), 0, 0, rfl, H.toL _ (by kernel_rfl)⟩ ?_
  clear G H
  rintro (_ | k) a w' ⟨x7, x8, G, p_x7, c_x7, _, rfl, H⟩
  ·exact absurd G (by unfold armillaryref03_PointIn.l9; exact fun h => by cases h)
  ·unfold armillaryref03_PointIn.l9 at G
   refine k_seq ?_
   refine k_seq ?_
   refine k_rg mixed H (.v 9 (vI x8) <|
   .v 10 (.slice p_a0 a0.length c_a0) <|
   .v 11 (vI (a0.length : Int)) <|
   .v 12 (.bool (decide (x8 < (a0.length : Int)))) <| .nil) fun u10 a w' H => ?_
   replace H := H.kp [0, 1, 5, 6, 12, 57, 58, 900115]
   refine k_cond H (by kernel_rfl) (t := decide (x8 < (a0.length : Int))) (by kernel_rfl) (fun c38 => ?_) (fun c38 => ?_)
   ·rw [if_pos c38] at G
    refine k_skip ?_
    refine k_seq ?_
    replace G := bnd G; obtain ⟨j12, hj12, G⟩ := G
    refine k_join (fun a w' => ∃ (p_j11 : Option Addr) (c_j11 np_j11 : Nat), np_j11 = j12.length ∧ Rep w.heap.size w 57 (ofL [(0, sS p_a0 a0.length c_a0), (1, sS p_a1 a1.length c_a1), (5, sS p_j11 np_j11 c_j11), (6, sI x8), (57, rdl anyF 2 p_a0 c_a0 a0 en_TInterval), (58, rdl anyF 1 p_a1 c_a1 a1 en_u16), (900116, owK 2 1 p_j11 np_j11 c_j11 (j12.flatMap en_i64))]) a w') ?_ ?_
    ·clear H; rintro a w' ⟨p_j11, c_j11, _, rfl, H⟩
     refine k_rg mixed H (.v 13 (vI x8) <|
   .v 14 (vI (w_i64 (x8 + 1))) <|
   .v 6 (vI (w_i64 (x8 + 1))) <| .nil) fun u13 a w' H => ?_
     replace H := H.kp [0, 1, 5, 6, 57, 58, 900116]
     replace H := H.move (K := owK 2 1 p_j11 j12.length c_j11 (j12.flatMap en_i64)) 900116 900115 (by kernel_rfl) (by intro _ _ h; cases h)
     exact ⟨k, Nat.lt_succ_self k, _, _, G, p_j11, c_j11, j12.length, rfl, H.toL _ (by kernel_rfl)⟩
    ·clear G; replace G := hj12; clear hj12
     refine k_block ?_
     refine k_seq ?_
     refine k_rg mixed H (.v 7 (vI 0) <| .nil) fun u14 a w' H => ?_
     replace H := H.kp [0, 1, 5, 6, 7, 57, 58, 900115]
     refine k_seq ?_
     replace G := bnd G; obtain ⟨j16, hj16, G⟩ := G
     refine k_join (fun a w' => Rep w.heap.size w 57 (ofL [(0, sS p_a0 a0.length c_a0), (1, sS p_a1 a1.length c_a1), (5, sS p_x7 x7.length c_x7), (6, sI x8), (7, sI j16), (57, rdl anyF 2 p_a0 c_a0 a0 en_TInterval), (58, rdl anyF 1 p_a1 c_a1 a1 en_u16), (900115, owK 2 1 p_x7 x7.length c_x7 (x7.flatMap en_i64))]) a w') ?_ ?_
     ·clear H; intro a w' H
      refine k_seq ?_
      replace G := gd G; obtain ⟨b18, G⟩ := G
      replace G := bnd G; obtain ⟨t19, ht19, G⟩ := G
      replace G := bnd G; obtain ⟨t20, ht20, G⟩ := G
      refine k_rg mixed H (.v 24 (.slice p_a0 a0.length c_a0) <|
   .v 25 (vI x8) <|
   .cons [26] (ok_valL [57] (fun u17 => [rdl anyF 2 p_a0 c_a0 a0 en_TInterval]) (fun u17 => .pointer (some ⟨hdB p_a0, hdO p_a0 + x8.toNat * 2, none⟩)) (fun u17 => true) [true, true] 26 (fun u17 w hg hF => ix_row (t := 22) (k := .i64) (i := x8) (p := p_a0) (n := a0.length) (cap := c_a0) (x := a0) (en := en_TInterval) (rdF_of hF.1).2 en_TInterval_len rfl b18 (by kernel_rfl))) <|
   .cons [27] (ok_valL [57] (fun u17 => [rdl anyF 2 p_a0 c_a0 a0 en_TInterval]) (fun u17 => .agg #[vI t19.Lo, vI t19.Hi]) (fun u17 => true) [true] 27 (fun u17 w hg hF => ld_row (en := en_TInterval) (rdF_of hF.1).2 en_TInterval_len ht19 0 2 [vI t19.Lo, vI t19.Hi] rfl (by kernel_rfl))) <|
   .cons [28] (ok_callv 40 (fun u17 => #[.agg #[vI t19.Lo, vI t19.Hi]]) (.bool t20) 28 [] (fun u17 w _ => armillaryref02_IsEntire.calls t19  t20 w  ht20)) <| .nil) fun u17 a w' H => ?_
      replace H := H.kp [0, 1, 5, 6, 7, 28, 57, 58, 900115]
      refine k_cond H (by kernel_rfl) (t := t20) (by kernel_rfl) (fun c32 => ?_) (fun c32 => ?_)
      ·rw [if_pos c32] at G
       replace G := gd G; obtain ⟨b22, G⟩ := G
       refine k_rg mixed H (.v 29 (.slice p_x7 x7.length c_x7) <|
   .v 30 (vI j16) <|
   .cons [31, 61] (ok_new (fun b => .slice (some ⟨b, 0, none⟩) 1 1) (fun u21 => [vI j16]) 2 31 61) <|
   .cons [32, 900115, 900115] (ok_own1 [2] [61] (fun u21 => [.blk ((u21 2).n 0) [vI j16] 2]) 900115 (fun u21 => owK 2 1 p_x7 x7.length c_x7 (x7.flatMap en_i64)) (some 32) (fun u21 g => .slice (g.o 0) (x7 ++ [j16]).length (g.n 0)) (fun u21 g => owK 2 1 (g.o 0) ((x7 ++ [j16]).length) (g.n 0) ((x7 ++ [j16]).flatMap en_i64)) (fun u21 w hF hK => tv_app (run_app_rowN (t := 32) (ty := 32) (en := en_i64) en_i64_len inf2 (ow_of hK) hF.1 (news := [j16]) rfl (by simp) (by kernel_rfl) b22)) (hloc := fun u u' h => ⟨by first | rfl | simp only [h 2 (by decide)], by first | rfl | simp only [h 2 (by decide)], by first | rfl | simp only [h 2 (by decide)], by first | rfl | simp only [h 2 (by decide)]⟩)) <|
   .cons [5] (ok_val (fun u21 => .slice ((u21 3).o 0) ((x7 ++ [j16]).length) ((u21 3).n 0)) 5) <| .nil) fun u21 a w' H => ?_
       replace H := H.kp [0, 1, 5, 6, 57, 58, 900115]
       obtain rfl := Option.some.inj G
       replace H := H.move (K := owK 2 1 ((u21 3).o 0) ((x7 ++ [j16]).length) ((u21 3).n 0) ((x7 ++ [j16]).flatMap en_i64)) 900115 900116 (by kernel_rfl) (by intro _ _ h; cases h)
       exact ⟨((u21 3).o 0), ((u21 3).n 0), (x7 ++ [j16]).length, rfl, H.toL _ (by kernel_rfl)⟩
      ·rw [if_neg (nt c32)] at G
       replace G := gd G; obtain ⟨b24, G⟩ := G
       replace G := bnd G; obtain ⟨t25, ht25, G⟩ := G
       have P26 := ptr_of (en := en_TInterval) (l := a0) (rdF_of (H.at (K := rdl anyF 2 p_a0 c_a0 a0 en_TInterval) 57 (by kernel_rfl))).2 en_TInterval_len
       replace G := gd G; obtain ⟨b27, G⟩ := G
       replace G := bnd G; obtain ⟨t28, ht28, G⟩ := G
       replace G := gd G; obtain ⟨b29, G⟩ := G
       replace G := bnd G; obtain ⟨t30, ht30, G⟩ := G
       replace G := gd G; obtain ⟨b31, G⟩ := G
       refine k_rg mixed H (.v 33 (.slice p_x7 x7.length c_x7) <|
   .v 34 (.slice p_a0 a0.length c_a0) <|
   .v 35 (vI x8) <|
   .cons [36] (ok_val (fun u23 => .pointer (some ⟨hdB p_a0, hdO p_a0 + x8.toNat * 2, none⟩)) 36 (hv := fun _ _ => ix_pure (t := 22) (k := .i64) (i := x8) (p := p_a0) (n := a0.length) (cap := c_a0) (x := a0) P26 rfl b24 (by kernel_rfl))) <|
   .v 37 (.pointer (some ⟨hdB p_a0, hdO p_a0 + x8.toNat * 2 + 0, none⟩)) <|
   .cons [38] (ok_valL [57] (fun u23 => [rdl anyF 2 p_a0 c_a0 a0 en_TInterval]) (fun u23 => vI t25.Lo) (fun u23 => true) [true] 38 (fun u23 w hg hF => ld_row (en := en_TInterval) (rdF_of hF.1).2 en_TInterval_len ht25 0 1 [vI t25.Lo] rfl (by kernel_rfl))) <|
   .v 39 (.slice p_a0 a0.length c_a0) <|
   .v 40 (vI x8) <|
   .cons [41] (ok_val (fun u23 => .pointer (some ⟨hdB p_a0, hdO p_a0 + x8.toNat * 2, none⟩)) 41 (hv := fun _ _ => ix_pure (t := 22) (k := .i64) (i := x8) (p := p_a0) (n := a0.length) (cap := c_a0) (x := a0) P26 rfl b27 (by kernel_rfl))) <|
   .v 42 (.pointer (some ⟨hdB p_a0, hdO p_a0 + x8.toNat * 2 + 1, none⟩)) <|
   .cons [43] (ok_valL [57] (fun u23 => [rdl anyF 2 p_a0 c_a0 a0 en_TInterval]) (fun u23 => vI t28.Hi) (fun u23 => true) [true] 43 (fun u23 w hg hF => ld_row (en := en_TInterval) (rdF_of hF.1).2 en_TInterval_len ht28 1 1 [vI t28.Hi] rfl (by kernel_rfl))) <|
   .v 44 (.slice p_a0 a0.length c_a0) <|
   .v 45 (vI x8) <|
   .cons [46] (ok_val (fun u23 => .pointer (some ⟨hdB p_a0, hdO p_a0 + x8.toNat * 2, none⟩)) 46 (hv := fun _ _ => ix_pure (t := 22) (k := .i64) (i := x8) (p := p_a0) (n := a0.length) (cap := c_a0) (x := a0) P26 rfl b29 (by kernel_rfl))) <|
   .v 47 (.pointer (some ⟨hdB p_a0, hdO p_a0 + x8.toNat * 2 + 0, none⟩)) <|
   .cons [48] (ok_valL [57] (fun u23 => [rdl anyF 2 p_a0 c_a0 a0 en_TInterval]) (fun u23 => vI t30.Lo) (fun u23 => true) [true] 48 (fun u23 w hg hF => ld_row (en := en_TInterval) (rdF_of hF.1).2 en_TInterval_len ht30 0 1 [vI t30.Lo] rfl (by kernel_rfl))) <|
   .v 49 (vI (w_i64 (t28.Hi - t30.Lo))) <|
   .v 50 (vI j16) <|
   .v 51 (vI (w_i64 ((w_i64 (t28.Hi - t30.Lo)) * j16))) <|
   .v 52 (vI (w_i64 (Int.tdiv (w_i64 ((w_i64 (t28.Hi - t30.Lo)) * j16)) 65535))) <|
   .v 53 (vI (w_i64 (t25.Lo + (w_i64 (Int.tdiv (w_i64 ((w_i64 (t28.Hi - t30.Lo)) * j16)) 65535))))) <|
   .cons [54, 63] (ok_new (fun b => .slice (some ⟨b, 0, none⟩) 1 1) (fun u23 => [vI (w_i64 (t25.Lo + (w_i64 (Int.tdiv (w_i64 ((w_i64 (t28.Hi - t30.Lo)) * j16)) 65535))))]) 2 54 63) <|
   .cons [55, 900115, 900115] (ok_own1 [21] [63] (fun u23 => [.blk ((u23 21).n 0) [vI (w_i64 (t25.Lo + (w_i64 (Int.tdiv (w_i64 ((w_i64 (t28.Hi - t30.Lo)) * j16)) 65535))))] 2]) 900115 (fun u23 => owK 2 1 p_x7 x7.length c_x7 (x7.flatMap en_i64)) (some 55) (fun u23 g => .slice (g.o 0) (x7 ++ [w_i64 (t25.Lo + (w_i64 (Int.tdiv (w_i64 ((w_i64 (t28.Hi - t30.Lo)) * j16)) 65535)))]).length (g.n 0)) (fun u23 g => owK 2 1 (g.o 0) ((x7 ++ [w_i64 (t25.Lo + (w_i64 (Int.tdiv (w_i64 ((w_i64 (t28.Hi - t30.Lo)) * j16)) 65535)))]).length) (g.n 0) ((x7 ++ [w_i64 (t25.Lo + (w_i64 (Int.tdiv (w_i64 ((w_i64 (t28.Hi - t30.Lo)) * j16)) 65535)))]).flatMap en_i64)) (fun u23 w hF hK => tv_app (run_app_rowN (t := 32) (ty := 32) (en := en_i64) en_i64_len inf2 (ow_of hK) hF.1 (news := [w_i64 (t25.Lo + (w_i64 (Int.tdiv (w_i64 ((w_i64 (t28.Hi - t30.Lo)) * j16)) 65535)))]) rfl (by simp) (by kernel_rfl) b31)) (hloc := fun u u' h => ⟨by first | rfl | simp only [h 21 (by decide)], by first | rfl | simp only [h 21 (by decide)], by first | rfl | simp only [h 21 (by decide)], by first | rfl | simp only [h 21 (by decide)]⟩)) <|
   .cons [5] (ok_val (fun u23 => .slice ((u23 22).o 0) ((x7 ++ [w_i64 (t25.Lo + (w_i64 (Int.tdiv (w_i64 ((w_i64 (t28.Hi - t30.Lo)) * j16)) 65535)))]).length) ((u23 22).n 0)) 5) <| .nil) fun u23 a w' H => ?_
       replace H := H.kp [0, 1, 5, 6, 57, 58, 900115]
       obtain rfl := Option.some.inj G
       replace H := H.move (K := owK 2 1 ((u23 22).o 0) ((x7 ++ [w_i64 (t25.Lo + (w_i64 (Int.tdiv (w_i64 ((w_i64 (t28.Hi - t30.Lo)) * j16)) 65535)))]).length) ((u23 22).n 0) ((x7 ++ [w_i64 (t25.Lo + (w_i64 (Int.tdiv (w_i64 ((w_i64 (t28.Hi - t30.Lo)) * j16)) 65535)))]).flatMap en_i64)) 900115 900116 (by kernel_rfl) (by intro _ _ h; cases h)
       exact ⟨((u23 22).o 0), ((u23 22).n 0), (x7 ++ [w_i64 (t25.Lo + (w_i64 (Int.tdiv (w_i64 ((w_i64 (t28.Hi - t30.Lo)) * j16)) 65535)))]).length, rfl, H.toL _ (by kernel_rfl)⟩
     ·clear G; replace G := hj16; clear hj16
      refine k_seq ?_
      refine k_rg mixed H (.v 15 (vI x8) <|
   .v 16 (.slice p_a1 a1.length c_a1) <|
   .v 17 (vI (a1.length : Int)) <|
   .v 18 (.bool (decide (x8 < (a1.length : Int)))) <| .nil) fun u33 a w' H => ?_
      replace H := H.kp [0, 1, 5, 6, 7, 18, 57, 58, 900115]
      refine k_cond H (by kernel_rfl) (t := decide (x8 < (a1.length : Int))) (by kernel_rfl) (fun c37 => ?_) (fun c37 => ?_)
      ·rw [if_pos c37] at G
       replace G := gd G; obtain ⟨b35, G⟩ := G
       replace G := bnd G; obtain ⟨t36, ht36, G⟩ := G
       refine k_rg mixed H (.v 19 (.slice p_a1 a1.length c_a1) <|
   .v 20 (vI x8) <|
   .cons [21] (ok_valL [58] (fun u34 => [rdl anyF 1 p_a1 c_a1 a1 en_u16]) (fun u34 => .pointer (some ⟨hdB p_a1, hdO p_a1 + x8.toNat * 1, none⟩)) (fun u34 => true) [true, true] 21 (fun u34 w hg hF => ix_row (t := 25) (k := .i64) (i := x8) (p := p_a1) (n := a1.length) (cap := c_a1) (x := a1) (en := en_u16) (rdF_of hF.1).2 en_u16_len rfl b35 (by kernel_rfl))) <|
   .cons [22] (ok_valL [58] (fun u34 => [rdl anyF 1 p_a1 c_a1 a1 en_u16]) (fun u34 => .int .u16 t36) (fun u34 => true) [true] 22 (fun u34 w hg hF => ld_row (en := en_u16) (rdF_of hF.1).2 en_u16_len ht36 0 1 [.int .u16 t36] rfl (by kernel_rfl))) <|
   .v 23 (vI (w_i64 t36)) <|
   .v 7 (vI (w_i64 t36)) <| .nil) fun u34 a w' H => ?_
       replace H := H.kp [0, 1, 5, 6, 7, 57, 58, 900115]
       obtain rfl := Option.some.inj G
       exact H.toL _ (by kernel_rfl)
      ·rw [if_neg (nt c37)] at G
       refine k_skip ?_
       obtain rfl := Option.some.inj G
       exact H.toL _ (by kernel_rfl)
   ·rw [if_neg (nt c38)] at G
    refine k_exit rfl ?_
    obtain rfl := Option.some.inj G
    replace H := H.move (K := owK 2 1 p_x7 x7.length c_x7 (x7.flatMap en_i64)) 900115 900114 (by kernel_rfl) (by intro _ _ h; cases h)
    exact ⟨p_x7, c_x7, x7.length, rfl, H.toL _ (by kernel_rfl)⟩
set_option maxHeartbeats 4000000 in
theorem armillaryref02_Valid.calls (a0 : TInterval) (r : Bool) (w : World) (G : armillaryref02_Valid a0 = some r) :
  Calls Tryd.prog 16 #[.agg #[vI a0.Lo, vI a0.Hi]] w fun e w' => e = .returned (.bool r) ∧ Below w.heap.size w w' := by
 refine k_enter (args := [.agg #[vI a0.Lo, vI a0.Hi]]) 22 Tryd.func16 rfl (by kernel_rfl) (by kernel_rfl) fun a H => ?_
 unfold armillaryref02_Valid at G
 refine k_seq ?_
 refine k_rg mixed H (.cons [1, 22] (ok_new (fun b => vP b 0) (fun u1 => [vI a0.Lo, vI a0.Hi]) 37 1 22) <|
   .v 2 (.bool false) <| .nil) fun u1 a w' H => ?_
 replace H := H.kp [1, 22]
 refine k_seq ?_
 replace G := bnd G; obtain ⟨t3, ht3, G⟩ := G
 replace G := bnd G; obtain ⟨t4, ht4, G⟩ := G
 replace G := bnd G; obtain ⟨t5, ht5, G⟩ := G
 refine k_rg mixed H (.cons [3] (ok_ld (fun u2 => .agg #[vI a0.Lo, vI a0.Hi]) 3 22 0 2 (fun u2 => ((u1 0).n 0)) (fun u2 => [vI a0.Lo, vI a0.Hi]) 37) <|
   .cons [4] (ok_callv 40 (fun u2 => #[.agg #[vI a0.Lo, vI a0.Hi]]) (.bool t3) 4 [] (fun u2 w _ => armillaryref02_IsEntire.calls a0  t3 w  ht3)) <|
   .v 5 (.bool t3) <|
   .cons [6] (ok_valg (fun u2 => vP ((u1 0).n 0) 0) (fun u2 => (t3 == false)) [true] 6) <|
   .cons [7] (ok_ldg (fun u2 => vI a0.Lo) (fun u2 => (t3 == false)) [false] 7 22 0 1 (fun u2 => ((u1 0).n 0)) (fun u2 => [vI a0.Lo, vI a0.Hi]) 37) <|
   .cons [8] (ok_call 55 (fun u2 => #[vI a0.Lo]) (.bool t4) (fun u2 => (t3 == false)) [true, false] 8 [] (fun u2 w hg _ => armillaryref02_Number.calls a0.Lo  t4 w  (ifp ht4 hg))) <|
   .cons [9] (ok_valg (fun u2 => .bool t4) (fun u2 => (t3 == false)) [false] 9) <|
   .cons [10] (ok_valg (fun u2 => vP ((u1 0).n 0) 1) (fun u2 => ((t3 == false) && (t4 == true))) [true] 10) <|
   .cons [11] (ok_ldg (fun u2 => vI a0.Hi) (fun u2 => ((t3 == false) && (t4 == true))) [false] 11 22 1 1 (fun u2 => ((u1 0).n 0)) (fun u2 => [vI a0.Lo, vI a0.Hi]) 37) <|
   .cons [12] (ok_call 55 (fun u2 => #[vI a0.Hi]) (.bool t5) (fun u2 => ((t3 == false) && (t4 == true))) [true, false] 12 [] (fun u2 w hg _ => armillaryref02_Number.calls a0.Hi  t5 w  (ifp ht5 hg))) <|
   .cons [13] (ok_and 9 12 (fun u2 => (t3 == false)) (fun u2 => (t3 == false)) (fun u2 => t4) (fun u2 => t5) 13) <|
   .cons [14] (ok_valg (fun u2 => .bool (t4 && t5)) (fun u2 => (t3 == false)) [false] 14) <|
   .cons [15] (ok_valg (fun u2 => vP ((u1 0).n 0) 0) (fun u2 => ((t3 == false) && ((t4 && t5) == true))) [true] 15) <|
   .cons [16] (ok_ldg (fun u2 => vI a0.Lo) (fun u2 => ((t3 == false) && ((t4 && t5) == true))) [false] 16 22 0 1 (fun u2 => ((u1 0).n 0)) (fun u2 => [vI a0.Lo, vI a0.Hi]) 37) <|
   .cons [17] (ok_valg (fun u2 => vP ((u1 0).n 0) 1) (fun u2 => ((t3 == false) && ((t4 && t5) == true))) [true] 17) <|
   .cons [18] (ok_ldg (fun u2 => vI a0.Hi) (fun u2 => ((t3 == false) && ((t4 && t5) == true))) [false] 18 22 1 1 (fun u2 => ((u1 0).n 0)) (fun u2 => [vI a0.Lo, vI a0.Hi]) 37) <|
   .cons [19] (ok_valg (fun u2 => .bool (decide (a0.Lo ≤ a0.Hi))) (fun u2 => ((t3 == false) && ((t4 && t5) == true))) [false, false] 19) <|
   .cons [20] (ok_and 14 19 (fun u2 => (t3 == false)) (fun u2 => (t3 == false)) (fun u2 => (t4 && t5)) (fun u2 => decide (a0.Lo ≤ a0.Hi)) 20) <|
   .cons [21] (ok_or 5 20 (fun u2 => true) (fun u2 => true) (fun u2 => t3) (fun u2 => ((t4 && t5) && (decide (a0.Lo ≤ a0.Hi)))) 21) <|
   .v 2 (.bool (t3 || ((t4 && t5) && (decide (a0.Lo ≤ a0.Hi))))) <| .nil) fun u2 a w' H => ?_
 replace H := H.kp [2]
 refine k_ret ?_
 obtain rfl := Option.some.inj G
 exact k_done0 H _ (by kernel_rfl) (by kernel_rfl)
set_option maxHeartbeats 4000000 in
theorem armillaryref04_Valid.calls (k0 : Nat) (a0 : List (List TInterval)) (p_a0 : Option Addr) (c_a0 : Nat) (L_a0 : List (Sl TInterval)) (r : Bool) (w : World) (h_a0 : a0 = L_a0.map Sl.l) (hB : AllH [rdl anyF 1 p_a0 c_a0 L_a0 enSl, dnK anyF E_S_TInterval.toPart L_a0] w) (G : armillaryref04_Valid k0 a0 = some r) :
  Calls Tryd.prog 20 #[.slice p_a0 L_a0.length c_a0] w fun e w' => e = .returned (.bool r) ∧ Below w.heap.size w w' := by
 obtain ⟨fr, hfr⟩ : ∃ fr : Nat → Prop, ∀ j, fr j := ⟨fun _ => True, fun _ => trivial⟩
 have hBf : ∀ j, w.heap.size ≤ j → fr j := fun j _ => hfr j
 refine k_enterF (args := [.slice p_a0 L_a0.length c_a0]) 42 [(42, rdl anyF 1 p_a0 c_a0 L_a0 enSl), (43, dnK anyF E_S_TInterval.toPart L_a0)] (by
  intro x hx
  simp only [List.mem_cons, List.not_mem_nil, or_false] at hx
  rcases hx with rfl | rfl
  ·exact rdF_fact (rdF_of hB.1) (fun _ _ => trivial) (by decide) _
  ·exact dn_fact (dn_of hB.2.1) (fun _ _ => trivial) _) Tryd.func20 rfl (by kernel_rfl) (by kernel_rfl) fun a H => ?_
 unfold armillaryref04_Valid at G
 refine k_seq ?_
 refine k_rg mixed H (.v 2 (.bool false) <| .nil) fun u1 a w' H => ?_
 replace H := H.kp [0, 42, 43]
 refine k_seq ?_
 refine k_seq ?_
 refine k_rg mixed H (.v 5 (.slice p_a0 L_a0.length c_a0) <|
   .cons [6] (ok_valL [42] (fun u2 => [rdl anyF 1 p_a0 c_a0 L_a0 enSl]) (fun u2 => vI (a0.length : Int)) (fun u2 => true) [true] 6 (fun u2 w hg hF => run_lenN (((rdF_of hF.1).2.len enSl_len (by decide)).trans (map_len h_a0).symm) (by kernel_rfl))) <|
   .v 7 (.bool (decide ((a0.length : Int) < 1))) <|
   .v 8 (.bool (decide ((a0.length : Int) < 1))) <|
   .cons [9] (ok_valg (fun u2 => .slice p_a0 L_a0.length c_a0) (fun u2 => ((decide ((a0.length : Int) < 1)) == false)) [true] 9) <|
   .cons [10] (ok_valL [42] (fun u2 => [rdl anyF 1 p_a0 c_a0 L_a0 enSl]) (fun u2 => vI (a0.length : Int)) (fun u2 => ((decide ((a0.length : Int) < 1)) == false)) [false] 10 (fun u2 w hg hF => run_lenN (((rdF_of hF.1).2.len enSl_len (by decide)).trans (map_len h_a0).symm) (by kernel_rfl))) <|
   .cons [11] (ok_valg (fun u2 => .bool (decide ((a0.length : Int) > 6))) (fun u2 => ((decide ((a0.length : Int) < 1)) == false)) [false, true] 11) <|
   .cons [12] (ok_or 8 11 (fun u2 => true) (fun u2 => true) (fun u2 => decide ((a0.length : Int) < 1)) (fun u2 => decide ((a0.length : Int) > 6)) 12) <| .nil) fun u2 a w' H => ?_
 replace H := H.kp [0, 12, 42, 43]
 refine k_cond H (by kernel_rfl) (t := ((decide ((a0.length : Int) < 1)) || (decide ((a0.length : Int) > 6)))) (by kernel_rfl) (fun c32 => ?_) (fun c32 => ?_)
 ·rw [if_pos c32] at G
  refine k_seq ?_
  refine k_rg mixed H (.v 2 (.bool false) <| .nil) fun u3 a w' H => ?_
  replace H := H.kp [2]
  refine k_ret ?_
  obtain rfl := Option.some.inj G
  exact k_done0 H _ (by kernel_rfl) (by kernel_rfl)
 ·rw [if_neg (nt c32)] at G
  refine k_skip ?_
  refine k_seq ?_
  replace G := bnd G; obtain ⟨j4, hj4, Gj4⟩ := G
  refine k_join (fun a w' => ∃ j4v, j4 = Sum.inr j4v ∧ Rep w.heap.size w 42 (ofL []) a w') ?_ ?_
  ·clear H; rintro a w' ⟨j4v, rfl, H⟩; have G := Gj4; clear Gj4; dsimp only at G
   refine k_seq ?_
   refine k_rg mixed H (.v 2 (.bool true) <| .nil) fun u5 a w' H => ?_
   replace H := H.kp [2]
   refine k_ret ?_
   obtain rfl := Option.some.inj G
   exact k_done0 H _ (by kernel_rfl) (by kernel_rfl)
  ·have G := hj4; clear hj4
   refine k_seq ?_
   refine k_rg mixed H (.v 3 (vI 0) <| .nil) fun u6 a w' H => ?_
   replace H := H.kp [0, 3, 42, 43]
   refine k_block ?_
   refine k_loopJ (fun m a w' => ∃ x7 : Int, armillaryref04_Valid.l8 k0 a0 m x7 = some j4 ∧ Rep w.heap.size w 42 (ofL [(0, sS p_a0 L_a0.length c_a0), (3, sI x7), (42, rdl anyF 1 p_a0 c_a0 L_a0 enSl), (43, dnK anyF E_S_TInterval.toPart L_a0)]) a w') k0 ⟨_, G, H.toL _ (by kernel_rfl)⟩ ?_
   clear G H
   rintro (_ | k) a w' ⟨x7, G, H⟩
   ·exact absurd G (by unfold armillaryref04_Valid.l8; exact fun h => by cases h)
   ·unfold armillaryref04_Valid.l8 at G
    refine k_seq ?_
    refine k_seq ?_
    refine k_rg mixed H (.v 13 (vI x7) <|
   .v 14 (.slice p_a0 L_a0.length c_a0) <|
   .cons [15] (ok_valL [42] (fun u9 => [rdl anyF 1 p_a0 c_a0 L_a0 enSl]) (fun u9 => vI (a0.length : Int)) (fun u9 => true) [true] 15 (fun u9 w hg hF => run_lenN (((rdF_of hF.1).2.len enSl_len (by decide)).trans (map_len h_a0).symm) (by kernel_rfl))) <|
   .v 16 (.bool (decide (x7 < (a0.length : Int)))) <| .nil) fun u9 a w' H => ?_
    replace H := H.kp [0, 3, 16, 42, 43]
    refine k_cond H (by kernel_rfl) (t := decide (x7 < (a0.length : Int))) (by kernel_rfl) (fun c31 => ?_) (fun c31 => ?_)
    ·rw [if_pos c31] at G
     refine k_skip ?_
     refine k_seq ?_
     replace G := bnd G; obtain ⟨j10, hj10, Gj10⟩ := G
     refine k_join (fun a w' => ∃ j10v, j10 = Sum.inr j10v ∧ Rep w.heap.size w 42 (ofL [(0, sS p_a0 L_a0.length c_a0), (3, sI x7), (42, rdl anyF 1 p_a0 c_a0 L_a0 enSl), (43, dnK anyF E_S_TInterval.toPart L_a0)]) a w') ?_ ?_
     ·clear H; rintro a w' ⟨j10v, rfl, H⟩; have G := Gj10; clear Gj10; dsimp only at G
      refine k_rg mixed H (.v 17 (vI x7) <|
   .v 18 (vI (w_i64 (x7 + 1))) <|
   .v 3 (vI (w_i64 (x7 + 1))) <| .nil) fun u11 a w' H => ?_
      replace H := H.kp [0, 3, 42, 43]
      exact ⟨k, Nat.lt_succ_self k, _, G, H.toL _ (by kernel_rfl)⟩
     ·have G := hj10; clear hj10
      refine k_block ?_
      refine k_seq ?_
      refine k_seq ?_
      replace G := gd G; obtain ⟨b13, G⟩ := G
      replace G := bnd G; obtain ⟨t14, ht14, G⟩ := G
      obtain ⟨p_t14, c_t14, y_t14⟩ := sl_get h_a0 ht14
      refine k_rg mixed H (.v 19 (.slice p_a0 L_a0.length c_a0) <|
   .v 20 (vI x7) <|
   .cons [21] (ok_valL [42] (fun u12 => [rdl anyF 1 p_a0 c_a0 L_a0 enSl]) (fun u12 => .pointer (some ⟨hdB p_a0, hdO p_a0 + x7.toNat * 1, none⟩)) (fun u12 => true) [true, true] 21 (fun u12 w hg hF => ix_row (t := 27) (k := .i64) (i := x7) (p := p_a0) (n := L_a0.length) (cap := c_a0) (x := a0) (en := enSl) (rdF_of hF.1).2 enSl_len (map_len h_a0) b13 (by kernel_rfl))) <|
   .cons [22] (ok_valL [42] (fun u12 => [rdl anyF 1 p_a0 c_a0 L_a0 enSl]) (fun u12 => .slice p_t14 t14.length c_t14) (fun u12 => true) [true] 22 (fun u12 w hg hF => ld_row (en := enSl) (rdF_of hF.1).2 enSl_len y_t14 0 1 [.slice p_t14 t14.length c_t14] rfl (by kernel_rfl))) <|
   .v 23 (vI (t14.length : Int)) <|
   .v 24 (.slice p_a0 L_a0.length c_a0) <|
   .cons [25] (ok_valL [42] (fun u12 => [rdl anyF 1 p_a0 c_a0 L_a0 enSl]) (fun u12 => vI (a0.length : Int)) (fun u12 => true) [true] 25 (fun u12 w hg hF => run_lenN (((rdF_of hF.1).2.len enSl_len (by decide)).trans (map_len h_a0).symm) (by kernel_rfl))) <|
   .v 26 (.bool ((t14.length : Int) != (a0.length : Int))) <| .nil) fun u12 a w' H => ?_
      replace H := H.kp [0, 3, 26, 42, 43]
      refine k_cond H (by kernel_rfl) (t := ((t14.length : Int) != (a0.length : Int))) (by kernel_rfl) (fun c30 => ?_) (fun c30 => ?_)
      ·rw [if_pos c30] at G
       refine k_seq ?_
       refine k_rg mixed H (.v 2 (.bool false) <| .nil) fun u15 a w' H => ?_
       replace H := H.kp [2]
       refine k_ret ?_
       obtain rfl := Option.some.inj G
       replace G := Gj10
       obtain rfl := Option.some.inj G
       replace G := Gj4
       obtain rfl := Option.some.inj G
       exact k_done0 H _ (by kernel_rfl) (by kernel_rfl)
      ·rw [if_neg (nt c30)] at G
       refine k_skip ?_
       refine k_seq ?_
       refine k_rg mixed H (.v 4 (vI 0) <| .nil) fun u16 a w' H => ?_
       replace H := H.kp [0, 3, 4, 42, 43]
       refine k_block ?_
       refine k_loopJ (fun m a w' => ∃ x17 : Int, armillaryref04_Valid.l18 k0 a0 x7 t14 m x17 = some j10 ∧ Rep w.heap.size w 42 (ofL [(0, sS p_a0 L_a0.length c_a0), (3, sI x7), (4, sI x17), (42, rdl anyF 1 p_a0 c_a0 L_a0 enSl), (43, dnK anyF E_S_TInterval.toPart L_a0)]) a w') k0 ⟨_, G, H.toL _ (by kernel_rfl)⟩ ?_
       clear G H
       rintro (_ | k) a w' ⟨x17, G, H⟩
       ·exact absurd G (by unfold armillaryref04_Valid.l18; exact fun h => by cases h)
       ·unfold armillaryref04_Valid.l18 at G
        refine k_seq ?_
        refine k_seq ?_
        refine k_rg mixed H (.v 27 (vI x17) <|
   .v 28 (.slice p_a0 L_a0.length c_a0) <|
   .cons [29] (ok_valL [42] (fun u19 => [rdl anyF 1 p_a0 c_a0 L_a0 enSl]) (fun u19 => vI (a0.length : Int)) (fun u19 => true) [true] 29 (fun u19 w hg hF => run_lenN (((rdF_of hF.1).2.len enSl_len (by decide)).trans (map_len h_a0).symm) (by kernel_rfl))) <|
   .v 30 (.bool (decide (x17 < (a0.length : Int)))) <| .nil) fun u19 a w' H => ?_
        replace H := H.kp [0, 3, 4, 30, 42, 43]
        refine k_cond H (by kernel_rfl) (t := decide (x17 < (a0.length : Int))) (by kernel_rfl) (fun c29 => ?_) (fun c29 => ?_)
        ·rw [if_pos c29] at G
         refine k_skip ?_
         refine k_seq ?_
         refine k_block ?_
         refine k_seq ?_
         replace G := gd G; obtain ⟨b21, G⟩ := G
         replace G := bnd G; obtain ⟨t22, ht22, G⟩ := G
         obtain ⟨p_t22, c_t22, y_t22⟩ := sl_get h_a0 ht22
         replace G := gd G; obtain ⟨b23, G⟩ := G
         replace G := bnd G; obtain ⟨t24, ht24, G⟩ := G
         replace G := bnd G; obtain ⟨t25, ht25, G⟩ := G
         refine k_rg mixed H (.v 33 (.slice p_a0 L_a0.length c_a0) <|
   .v 34 (vI x7) <|
   .cons [35] (ok_valL [42] (fun u20 => [rdl anyF 1 p_a0 c_a0 L_a0 enSl]) (fun u20 => .pointer (some ⟨hdB p_a0, hdO p_a0 + x7.toNat * 1, none⟩)) (fun u20 => true) [true, true] 35 (fun u20 w hg hF => ix_row (t := 27) (k := .i64) (i := x7) (p := p_a0) (n := L_a0.length) (cap := c_a0) (x := a0) (en := enSl) (rdF_of hF.1).2 enSl_len (map_len h_a0) b21 (by kernel_rfl))) <|
   .cons [36] (ok_valL [42] (fun u20 => [rdl anyF 1 p_a0 c_a0 L_a0 enSl]) (fun u20 => .slice p_t22 t22.length c_t22) (fun u20 => true) [true] 36 (fun u20 w hg hF => ld_row (en := enSl) (rdF_of hF.1).2 enSl_len y_t22 0 1 [.slice p_t22 t22.length c_t22] rfl (by kernel_rfl))) <|
   .v 37 (vI x17) <|
   .cons [38] (ok_valL [43] (fun u20 => [dnK anyF E_S_TInterval.toPart L_a0]) (fun u20 => .pointer (some ⟨hdB p_t22, hdO p_t22 + x17.toNat * 2, none⟩)) (fun u20 => true) [true, true] 38 (fun u20 w hg hF => ix_row (t := 22) (k := .i64) (i := x17) (p := p_t22) (n := t22.length) (cap := c_t22) (x := t22) (en := en_TInterval) (show RowC _ 2 p_t22 t22.length c_t22 (t22.flatMap en_TInterval) from ((dn_of hF.1) _ (List.mem_of_getElem? y_t22)).1).2 en_TInterval_len rfl b23 (by kernel_rfl))) <|
   .cons [39] (ok_valL [43] (fun u20 => [dnK anyF E_S_TInterval.toPart L_a0]) (fun u20 => .agg #[vI t24.Lo, vI t24.Hi]) (fun u20 => true) [true] 39 (fun u20 w hg hF => ld_row (en := en_TInterval) (show RowC _ 2 p_t22 t22.length c_t22 (t22.flatMap en_TInterval) from ((dn_of hF.1) _ (List.mem_of_getElem? y_t22)).1).2 en_TInterval_len ht24 0 2 [vI t24.Lo, vI t24.Hi] rfl (by kernel_rfl))) <|
   .cons [40] (ok_callv 16 (fun u20 => #[.agg #[vI t24.Lo, vI t24.Hi]]) (.bool t25) 40 [] (fun u20 w _ => armillaryref02_Valid.calls t24  t25 w  ht25)) <|
   .v 41 (.bool (!t25)) <| .nil) fun u20 a w' H => ?_
         replace H := H.kp [0, 3, 4, 41, 42, 43]
         refine k_cond H (by kernel_rfl) (t := (!t25)) (by kernel_rfl) (fun c28 => ?_) (fun c28 => ?_)
         ·rw [if_pos c28] at G
          refine k_seq ?_
          refine k_rg mixed H (.v 2 (.bool false) <| .nil) fun u26 a w' H => ?_
          replace H := H.kp [2]
          refine k_ret ?_
          obtain rfl := Option.some.inj G
          replace G := Gj10
          obtain rfl := Option.some.inj G
          replace G := Gj4
          obtain rfl := Option.some.inj G
          exact k_done0 H _ (by kernel_rfl) (by kernel_rfl)
         ·rw [if_neg (nt c28)] at G
          refine k_skip ?_
          refine k_rg mixed H (.v 31 (vI x17) <|
   .v 32 (vI (w_i64 (x17 + 1))) <|
   .v 4 (vI (w_i64 (x17 + 1))) <| .nil) fun u27 a w' H => ?_
          replace H := H.kp [0, 3, 4, 42, 43]
          exact ⟨k, Nat.lt_succ_self k, _, G, H.toL _ (by kernel_rfl)⟩
        ·rw [if_neg (nt c29)] at G
         refine k_exit rfl ?_
         obtain rfl := Option.some.inj G
         exact ⟨_, rfl, H.toL _ (by kernel_rfl)⟩
    ·rw [if_neg (nt c31)] at G
     refine k_exit rfl ?_
     obtain rfl := Option.some.inj G
     exact ⟨_, rfl, H.toL _ (by kernel_rfl)⟩
set_option maxHeartbeats 4000000 in
theorem armillaryref02_Floor.calls (a0 : Int) (a1 : Int) (r : Int) (w : World) (G : armillaryref02_Floor a0 a1 = some r) :
  Calls Tryd.prog 81 #[vI a0, vI a1] w fun e w' => e = .returned (vI r) ∧ Below w.heap.size w w' := by
 refine k_enter (args := [vI a0, vI a1]) 23 Tryd.func81 rfl (by kernel_rfl) (by kernel_rfl) fun a H => ?_
 unfold armillaryref02_Floor at G
 refine k_seq ?_
 refine k_rg mixed H (.v 4 (vI 0) <| .nil) fun u1 a w' H => ?_
 replace H := H.kp [0, 1]
 refine k_seq ?_
 replace G := gd G; obtain ⟨n3, G⟩ := G
 refine k_rg mixed H (.v 6 (vI a0) <|
   .v 7 (vI a1) <|
   .cons [8] (ok_val (fun u2 => vI (w_i64 (Int.tdiv a0 a1))) 8 (hv := fun _ _ => run_of (by kernel_rfl) (run_quo (k := .i64) (x := a0) (y := a1) n3))) <|
   .v 5 (vI (w_i64 (Int.tdiv a0 a1))) <| .nil) fun u2 a w' H => ?_
 replace H := H.kp [0, 1, 5]
 refine k_seq ?_
 replace G := bnd G; obtain ⟨j5, hj5, G⟩ := G
 refine k_join (fun a w' => Rep w.heap.size w 23 (ofL [(5, sI j5)]) a w') ?_ ?_
 ·clear H; intro a w' H
  refine k_seq ?_
  refine k_rg mixed H (.v 22 (vI j5) <|
   .v 4 (vI j5) <| .nil) fun u6 a w' H => ?_
  replace H := H.kp [4]
  refine k_ret ?_
  obtain rfl := Option.some.inj G
  exact k_done0 H _ (by kernel_rfl) (by kernel_rfl)
 ·clear G; replace G := hj5; clear hj5
  refine k_seq ?_
  replace G := gd G; obtain ⟨n8, G⟩ := G
  refine k_rg mixed H (.v 9 (vI a0) <|
   .v 10 (vI a1) <|
   .cons [11] (ok_val (fun u7 => vI (Int.tmod a0 a1)) 11 (hv := fun _ _ => run_of (by kernel_rfl) (run_rem (k := .i64) (x := a0) (y := a1) n8))) <|
   .v 12 (.bool ((Int.tmod a0 a1) != 0)) <|
   .v 13 (.bool ((Int.tmod a0 a1) != 0)) <|
   .cons [14] (ok_valg (fun u7 => vI a0) (fun u7 => (((Int.tmod a0 a1) != 0) == true)) [true] 14) <|
   .cons [15] (ok_valg (fun u7 => .bool (decide (a0 < 0))) (fun u7 => (((Int.tmod a0 a1) != 0) == true)) [false, true] 15) <|
   .cons [16] (ok_valg (fun u7 => vI a1) (fun u7 => (((Int.tmod a0 a1) != 0) == true)) [true] 16) <|
   .cons [17] (ok_valg (fun u7 => .bool (decide (a1 < 0))) (fun u7 => (((Int.tmod a0 a1) != 0) == true)) [false, true] 17) <|
   .cons [18] (ok_valg (fun u7 => .bool (!((decide (a0 < 0)) == (decide (a1 < 0))))) (fun u7 => (((Int.tmod a0 a1) != 0) == true)) [false, false] 18) <|
   .cons [19] (ok_and 13 18 (fun u7 => true) (fun u7 => true) (fun u7 => ((Int.tmod a0 a1) != 0)) (fun u7 => (!((decide (a0 < 0)) == (decide (a1 < 0))))) 19) <| .nil) fun u7 a w' H => ?_
  replace H := H.kp [5, 19]
  refine k_cond H (by kernel_rfl) (t := (((Int.tmod a0 a1) != 0) && (!((decide (a0 < 0)) == (decide (a1 < 0)))))) (by kernel_rfl) (fun c10 => ?_) (fun c10 => ?_)
  ·rw [if_pos c10] at G
   refine k_rg mixed H (.v 20 (vI (w_i64 (Int.tdiv a0 a1))) <|
   .v 21 (vI (w_i64 ((w_i64 (Int.tdiv a0 a1)) - 1))) <|
   .v 5 (vI (w_i64 ((w_i64 (Int.tdiv a0 a1)) - 1))) <| .nil) fun u9 a w' H => ?_
   replace H := H.kp [5]
   obtain rfl := Option.some.inj G
   exact H.toL _ (by kernel_rfl)
  ·rw [if_neg (nt c10)] at G
   refine k_skip ?_
   obtain rfl := Option.some.inj G
   exact H.toL _ (by kernel_rfl)
set_option maxHeartbeats 4000000 in
theorem armillaryref02_Ceil.calls (a0 : Int) (a1 : Int) (r : Int) (w : World) (G : armillaryref02_Ceil a0 a1 = some r) :
  Calls Tryd.prog 82 #[vI a0, vI a1] w fun e w' => e = .returned (vI r) ∧ Below w.heap.size w w' := by
 refine k_enter (args := [vI a0, vI a1]) 10 Tryd.func82 rfl (by kernel_rfl) (by kernel_rfl) fun a H => ?_
 unfold armillaryref02_Ceil at G
 refine k_seq ?_
 refine k_rg mixed H (.v 4 (vI 0) <| .nil) fun u1 a w' H => ?_
 replace H := H.kp [0, 1]
 refine k_seq ?_
 replace G := bnd G; obtain ⟨t3, ht3, G⟩ := G
 refine k_rg mixed H (.v 5 (vI a0) <|
   .v 6 (vI (w_i64 (0 - a0))) <|
   .v 7 (vI a1) <|
   .cons [8] (ok_callv 81 (fun u2 => #[vI (w_i64 (0 - a0)), vI a1]) (vI t3) 8 [] (fun u2 w _ => armillaryref02_Floor.calls (w_i64 (0 - a0)) a1  t3 w  ht3)) <|
   .v 9 (vI (w_i64 (0 - t3))) <|
   .v 4 (vI (w_i64 (0 - t3))) <| .nil) fun u2 a w' H => ?_
 replace H := H.kp [4]
 refine k_ret ?_
 obtain rfl := Option.some.inj G
 exact k_done0 H _ (by kernel_rfl) (by kernel_rfl)
end Go.Proofs.YtglcmhldonkfdaaDoor
