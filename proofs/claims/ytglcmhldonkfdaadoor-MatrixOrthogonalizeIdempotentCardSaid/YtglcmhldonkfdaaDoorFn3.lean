/- Each function of the program answers as the plain Lean function of its name (part 3). Printed by a program of this session. -/
import Derived.Test.YtglcmhldonkfdaaDoorFn2
set_option linter.unusedVariables false
set_option linter.unusedSimpArgs false
set_option maxRecDepth 100000
namespace Go.Proofs.YtglcmhldonkfdaaDoor
open Go Go.RowKit Go.Sx Go.Proofs
set_option maxHeartbeats 4000000 in
theorem armillaryref04_Column.calls (k0 : Nat) (a0 : List (List Int)) (a1 : Int) (p_a0 : Option Addr) (c_a0 : Nat) (L_a0 : List (Sl Int)) (r : List Int) (w : World) (h_a0 : a0 = L_a0.map Sl.l) (hB : AllH [rdl anyF 1 p_a0 c_a0 L_a0 enSl, dnK anyF E_S_i64.toPart L_a0] w) (G : armillaryref04_Column k0 a0 a1 = some r) :
  Calls Tryd.prog 21 #[.slice p_a0 L_a0.length c_a0, vI a1] w fun e w' => ∃ g : Gh, e = .returned (.slice (g.o 0) r.length (g.n 0)) ∧ But (fpK []) w w' ∧ OutOK w.heap.size (fpK []) (frI w.heap.size []) [fun _ => owK 2 1 (g.o 0) r.length (g.n 0) (r.flatMap en_i64)] w' := by
 obtain ⟨fr, hfr⟩ : ∃ fr : Nat → Prop, fr = frI w.heap.size [] := ⟨_, rfl⟩
 have hBf : ∀ j, w.heap.size ≤ j → fr j := fun j h => by rw [hfr]; exact .inl h
 refine k_enterF (args := [.slice p_a0 L_a0.length c_a0, vI a1]) 25 [(25, rdl anyF 1 p_a0 c_a0 L_a0 enSl), (26, dnK anyF E_S_i64.toPart L_a0)] (by
  intro x hx
  simp only [List.mem_cons, List.not_mem_nil, or_false] at hx
  rcases hx with rfl | rfl
  ·exact rdF_fact (rdF_of hB.1) (fun _ _ => trivial) (by decide) _
  ·exact dn_fact (dn_of hB.2.1) (fun _ _ => trivial) _) Tryd.func21 rfl (by kernel_rfl) (by kernel_rfl) fun a H => ?_
 unfold armillaryref04_Column at G
 refine k_seq ?_
 refine k_rg mixed H (.v 4 (.slice none 0 0) <| .nil) fun u1 a w' H => ?_
 replace H := H.kp [0, 1, 25, 26]
 refine k_seq ?_
 refine k_rg mixed H (.cons [7, 27] (ok_new (fun b => .slice (some ⟨b, 0, none⟩) 0 0) (fun u2 => []) 2 7 27) <|
   .cons [5] (ok_val (fun u2 => .slice (some ⟨((u2 0).n 0), 0, none⟩) 0 0) 5) <| .nil) fun u2 a w' H => ?_
 replace H := H.kp [0, 1, 5, 25, 26, 27]
 refine k_seq ?_
 replace G := bnd G; obtain ⟨j4, hj4, G⟩ := G
 refine k_join (fun a w' => ∃ (p_j3 : Option Addr) (c_j3 np_j3 : Nat), np_j3 = j4.length ∧ Rep w.heap.size w 25 (ofL [(5, sS p_j3 np_j3 c_j3), (900117, owK 2 1 p_j3 np_j3 c_j3 (j4.flatMap en_i64))]) a w') ?_ ?_
 ·clear H; rintro a w' ⟨p_j3, c_j3, _, rfl, H⟩
  refine k_seq ?_
  refine k_rg mixed H (.v 24 (.slice p_j3 j4.length c_j3) <|
   .v 4 (.slice p_j3 j4.length c_j3) <| .nil) fun u5 a w' H => ?_
  replace H := H.kp [4, 900117]
  refine k_ret ?_
  obtain rfl := Option.some.inj G
  obtain ⟨g, o0, n0⟩ : ∃ g : Gh, g.o 0 = p_j3 ∧ g.n 0 = c_j3 := ⟨⟨fun i => [c_j3].getD i 0, fun i => [p_j3].getD i none, fun i => ([⟨Unit, ()⟩] : List ((T : Type) × T)).getD i ⟨Unit, ()⟩⟩, rfl, rfl⟩
  refine k_doneZ H (fun g => .slice (g.o 0) j4.length (g.n 0)) g [] [] (fun g => [fun _ => owK 2 1 (g.o 0) j4.length (g.n 0) (j4.flatMap en_i64)]) fr [900117] [] (.slice p_j3 j4.length c_j3) [fun _ => owK 2 1 p_j3 j4.length c_j3 (j4.flatMap en_i64)] (by simp only [o0, n0]) (by simp only [o0, n0]) hfr (.inl ⟨rfl, rfl⟩) (fams_cons fam_ow fams_nil) (by simp)
 ·clear G; replace G := hj4; clear hj4
  refine k_seq ?_
  refine k_rg mixed H (.v 6 (vI 0) <| .nil) fun u6 a w' H => ?_
  replace H := H.kp [0, 1, 5, 6, 25, 26, 27]
  refine k_block ?_
  replace H := H.blk_row 27 ((u2 0).n 0) [] 2 1 0 (by kernel_rfl) (by kernel_rfl) (by decide)
  replace H := H.move (K := owK 2 1 (some ⟨((u2 0).n 0), 0, none⟩) 0 0 (([] : List Int).flatMap en_i64)) 27 900118 (by kernel_rfl) (by intro _ _ h; cases h)
  refine k_loopJ (fun m a w' => ∃ x7 : List Int, ∃ x8 : Int, armillaryref04_Column.l9 k0 a0 a1 m x7 x8 = some j4 ∧ ∃ (p_x7 : Option Addr) (c_x7 np_x7 : Nat), np_x7 = x7.length ∧ Rep w.heap.size w 25 (ofL [(0, sS p_a0 L_a0.length c_a0), (1, sI a1), (5, sS p_x7 np_x7 c_x7), (6, sI x8), (25, rdl anyF 1 p_a0 c_a0 L_a0 enSl), (26, dnK anyF E_S_i64.toPart L_a0), (900118, owK 2 1 p_x7 np_x7 c_x7 (x7.flatMap en_i64))]) a w') k0 ⟨_, _, G, (some ⟨((u2 0).n 0), 0, none⟩), 0, 0, rfl, H.toL _ (by kernel_rfl)⟩ ?_
  clear G H
  rintro (_ | k) a w' ⟨x7, x8, G, p_x7, c_x7, _, rfl, H⟩
  ·exact absurd G (by unfold armillaryref04_Column.l9; exact fun h => by cases h)
  ·unfold armillaryref04_Column.l9 at G
   refine k_seq ?_
   refine k_seq ?_
   refine k_rg mixed H (.v 8 (vI x8) <|
   .v 9 (.slice p_a0 L_a0.length c_a0) <|
   .cons [10] (ok_valL [25] (fun u10 => [rdl anyF 1 p_a0 c_a0 L_a0 enSl]) (fun u10 => vI (a0.length : Int)) (fun u10 => true) [true] 10 (fun u10 w hg hF => run_lenN (((rdF_of hF.1).2.len enSl_len (by decide)).trans (map_len h_a0).symm) (by kernel_rfl))) <|
   .v 11 (.bool (decide (x8 < (a0.length : Int)))) <| .nil) fun u10 a w' H => ?_
   replace H := H.kp [0, 1, 5, 6, 11, 25, 26, 900118]
   refine k_cond H (by kernel_rfl) (t := decide (x8 < (a0.length : Int))) (by kernel_rfl) (fun c18 => ?_) (fun c18 => ?_)
   ·rw [if_pos c18] at G
    refine k_skip ?_
    refine k_seq ?_
    refine k_block ?_
    replace G := gd G; obtain ⟨b12, G⟩ := G
    replace G := bnd G; obtain ⟨t13, ht13, G⟩ := G
    obtain ⟨p_t13, c_t13, y_t13⟩ := sl_get h_a0 ht13
    replace G := gd G; obtain ⟨b14, G⟩ := G
    replace G := bnd G; obtain ⟨t15, ht15, G⟩ := G
    replace G := gd G; obtain ⟨b16, G⟩ := G
    refine k_rg mixed H (.v 14 (.slice p_x7 x7.length c_x7) <|
   .v 15 (.slice p_a0 L_a0.length c_a0) <|
   .v 16 (vI x8) <|
   .cons [17] (ok_valL [25] (fun u11 => [rdl anyF 1 p_a0 c_a0 L_a0 enSl]) (fun u11 => .pointer (some ⟨hdB p_a0, hdO p_a0 + x8.toNat * 1, none⟩)) (fun u11 => true) [true, true] 17 (fun u11 w hg hF => ix_row (t := 30) (k := .i64) (i := x8) (p := p_a0) (n := L_a0.length) (cap := c_a0) (x := a0) (en := enSl) (rdF_of hF.1).2 enSl_len (map_len h_a0) b12 (by kernel_rfl))) <|
   .cons [18] (ok_valL [25] (fun u11 => [rdl anyF 1 p_a0 c_a0 L_a0 enSl]) (fun u11 => .slice p_t13 t13.length c_t13) (fun u11 => true) [true] 18 (fun u11 w hg hF => ld_row (en := enSl) (rdF_of hF.1).2 enSl_len y_t13 0 1 [.slice p_t13 t13.length c_t13] rfl (by kernel_rfl))) <|
   .v 19 (vI a1) <|
   .cons [20] (ok_valL [26] (fun u11 => [dnK anyF E_S_i64.toPart L_a0]) (fun u11 => .pointer (some ⟨hdB p_t13, hdO p_t13 + a1.toNat * 1, none⟩)) (fun u11 => true) [true, true] 20 (fun u11 w hg hF => ix_row (t := 32) (k := .i64) (i := a1) (p := p_t13) (n := t13.length) (cap := c_t13) (x := t13) (en := en_i64) (show RowC _ 1 p_t13 t13.length c_t13 (t13.flatMap en_i64) from ((dn_of hF.1) _ (List.mem_of_getElem? y_t13)).1).2 en_i64_len rfl b14 (by kernel_rfl))) <|
   .cons [21] (ok_valL [26] (fun u11 => [dnK anyF E_S_i64.toPart L_a0]) (fun u11 => vI t15) (fun u11 => true) [true] 21 (fun u11 w hg hF => ld_row (en := en_i64) (show RowC _ 1 p_t13 t13.length c_t13 (t13.flatMap en_i64) from ((dn_of hF.1) _ (List.mem_of_getElem? y_t13)).1).2 en_i64_len ht15 0 1 [vI t15] rfl (by kernel_rfl))) <|
   .cons [22, 28] (ok_new (fun b => .slice (some ⟨b, 0, none⟩) 1 1) (fun u11 => [vI t15]) 2 22 28) <|
   .cons [23, 900118, 900118] (ok_own1 [8] [28] (fun u11 => [.blk ((u11 8).n 0) [vI t15] 2]) 900118 (fun u11 => owK 2 1 p_x7 x7.length c_x7 (x7.flatMap en_i64)) (some 23) (fun u11 g => .slice (g.o 0) (x7 ++ [t15]).length (g.n 0)) (fun u11 g => owK 2 1 (g.o 0) ((x7 ++ [t15]).length) (g.n 0) ((x7 ++ [t15]).flatMap en_i64)) (fun u11 w hF hK => tv_app (run_app_rowN (t := 32) (ty := 32) (en := en_i64) en_i64_len inf2 (ow_of hK) hF.1 (news := [t15]) rfl (by simp) (by kernel_rfl) b16)) (hloc := fun u u' h => ⟨by first | rfl | simp only [h 8 (by decide)], by first | rfl | simp only [h 8 (by decide)], by first | rfl | simp only [h 8 (by decide)], by first | rfl | simp only [h 8 (by decide)]⟩)) <|
   .cons [5] (ok_val (fun u11 => .slice ((u11 9).o 0) ((x7 ++ [t15]).length) ((u11 9).n 0)) 5) <| .nil) fun u11 a w' H => ?_
    replace H := H.kp [0, 1, 5, 6, 25, 26, 900118]
    refine k_rg mixed H (.v 12 (vI x8) <|
   .v 13 (vI (w_i64 (x8 + 1))) <|
   .v 6 (vI (w_i64 (x8 + 1))) <| .nil) fun u17 a w' H => ?_
    replace H := H.kp [0, 1, 5, 6, 25, 26, 900118]
    exact ⟨k, Nat.lt_succ_self k, _, _, G, ((u11 9).o 0), ((u11 9).n 0), (x7 ++ [t15]).length, rfl, H.toL _ (by kernel_rfl)⟩
   ·rw [if_neg (nt c18)] at G
    refine k_exit rfl ?_
    obtain rfl := Option.some.inj G
    replace H := H.move (K := owK 2 1 p_x7 x7.length c_x7 (x7.flatMap en_i64)) 900118 900117 (by kernel_rfl) (by intro _ _ h; cases h)
    exact ⟨p_x7, c_x7, x7.length, rfl, H.toL _ (by kernel_rfl)⟩
set_option maxHeartbeats 4000000 in
theorem armillaryref01_Made.calls (a0 : Int) (r : Int) (w : World) (G : armillaryref01_Made a0 = some r) :
  Calls Tryd.prog 69 #[vI a0] w fun e w' => e = .returned (vI r) ∧ Below w.heap.size w w' := by
 refine k_enter (args := [vI a0]) 5 Tryd.func69 rfl (by kernel_rfl) (by kernel_rfl) fun a H => ?_
 unfold armillaryref01_Made at G
 refine k_seq ?_
 refine k_rg mixed H (.v 2 (vI 0) <| .nil) fun u1 a w' H => ?_
 replace H := H.kp [0]
 refine k_seq ?_
 refine k_rg mixed H (.v 3 (vI a0) <|
   .v 4 (vI (Int.tmod a0 16777216)) <|
   .v 2 (vI (Int.tmod a0 16777216)) <| .nil) fun u2 a w' H => ?_
 replace H := H.kp [2]
 refine k_ret ?_
 obtain rfl := Option.some.inj G
 exact k_done0 H _ (by kernel_rfl) (by kernel_rfl)
set_option maxHeartbeats 4000000 in
theorem armillaryref04_Numbers.calls (k0 : Nat) (a0 : List Int) (a1 : Int) (p_a0 : Option Addr) (c_a0 : Nat) (r : List (List Int)) (w : World) (hB : AllH [rdl anyF 1 p_a0 c_a0 a0 en_i64] w) (G : armillaryref04_Numbers k0 a0 a1 = some r) :
  Calls Tryd.prog 31 #[.slice p_a0 a0.length c_a0, vI a1] w fun e w' => ∃ g : Gh, e = .returned (.slice (g.o 0) ((g.dl Sl.l gd_S_i64 0 r).length) (g.n 0)) ∧ But (fpK []) w w' ∧ OutOK w.heap.size (fpK []) (frI w.heap.size []) [fun _ => nsK 32 2 1 en_i64 (g.o 0) ((g.dl Sl.l gd_S_i64 0 r).length) (g.n 0) (g.dl Sl.l gd_S_i64 0 r) (g.dl Sl.l gd_S_i64 0 r)] w' := by
 obtain ⟨fr, hfr⟩ : ∃ fr : Nat → Prop, fr = frI w.heap.size [] := ⟨_, rfl⟩
 have hBf : ∀ j, w.heap.size ≤ j → fr j := fun j h => by rw [hfr]; exact .inl h
 refine k_enterF (args := [.slice p_a0 a0.length c_a0, vI a1]) 49 [(49, rdl anyF 1 p_a0 c_a0 a0 en_i64)] (by
  intro x hx
  simp only [List.mem_cons, List.not_mem_nil, or_false] at hx
  rcases hx with rfl
  exact rdF_fact (rdF_of hB.1) (fun _ _ => trivial) (by decide) _) Tryd.func31 rfl (by kernel_rfl) (by kernel_rfl) fun a H => ?_
 unfold armillaryref04_Numbers at G
 refine k_seq ?_
 refine k_rg mixed H (.v 4 (.slice none 0 0) <| .nil) fun u1 a w' H => ?_
 replace H := H.kp [0, 1, 49]
 refine k_seq ?_
 refine k_rg mixed H (.cons [9, 50] (ok_new (fun b => .slice (some ⟨b, 0, none⟩) 0 0) (fun u2 => []) 32 9 50) <|
   .cons [5] (ok_val (fun u2 => .slice (some ⟨((u2 0).n 0), 0, none⟩) 0 0) 5) <| .nil) fun u2 a w' H => ?_
 replace H := H.kp [0, 1, 5, 49, 50]
 refine k_seq ?_
 replace G := bnd G; obtain ⟨j4, hj4, G⟩ := G
 refine k_join (fun a w' => ∃ (p_j3 : Option Addr) (c_j3 np_j3 : Nat) (L_j3 : List (Sl Int)), np_j3 = L_j3.length ∧ j4 = L_j3.map Sl.l ∧ Rep w.heap.size w 49 (ofL [(5, sS p_j3 np_j3 c_j3), (900139, nsK 32 2 1 en_i64 p_j3 np_j3 c_j3 L_j3 L_j3)]) a w') ?_ ?_
 ·clear H; rintro a w' ⟨p_j3, c_j3, _, L_j3, rfl, h_j3, H⟩
  refine k_seq ?_
  refine k_rg mixed H (.v 48 (.slice p_j3 L_j3.length c_j3) <|
   .v 4 (.slice p_j3 L_j3.length c_j3) <| .nil) fun u5 a w' H => ?_
  replace H := H.kp [4, 900139]
  refine k_ret ?_
  obtain rfl := Option.some.inj G
  obtain ⟨g, o0, n0, d0⟩ : ∃ g : Gh, g.o 0 = p_j3 ∧ g.n 0 = c_j3 ∧ g.dl Sl.l gd_S_i64 0 j4 = L_j3 := ⟨⟨fun i => [c_j3].getD i 0, fun i => [p_j3].getD i none, fun i => ([⟨List (Sl Int), L_j3⟩] : List ((T : Type) × T)).getD i ⟨Unit, ()⟩⟩, rfl, rfl, dl_mk rfl h_j3⟩
  refine k_doneZ H (fun g => .slice (g.o 0) ((g.dl Sl.l gd_S_i64 0 j4).length) (g.n 0)) g [] [] (fun g => [fun _ => nsK 32 2 1 en_i64 (g.o 0) ((g.dl Sl.l gd_S_i64 0 j4).length) (g.n 0) (g.dl Sl.l gd_S_i64 0 j4) (g.dl Sl.l gd_S_i64 0 j4)]) fr [900139] [] (.slice p_j3 L_j3.length c_j3) [fun _ => nsK 32 2 1 en_i64 p_j3 L_j3.length c_j3 L_j3 L_j3] (by simp only [o0, n0, d0]) (by simp only [o0, n0, d0]) hfr (.inl ⟨rfl, rfl⟩) (fams_cons fam_ns fams_nil) (by simp)
 ·clear G; replace G := hj4; clear hj4
  refine k_seq ?_
  refine k_rg mixed H (.v 6 (vI 0) <| .nil) fun u6 a w' H => ?_
  replace H := H.kp [0, 1, 5, 6, 49, 50]
  refine k_block ?_
  replace H := H.blk_row 50 ((u2 0).n 0) [] 32 1 0 (by kernel_rfl) (by kernel_rfl) (by decide)
  replace H := H.nestOpen (e := 32) (m := 0) (cap := 0) (p := (some ⟨((u2 0).n 0), 0, none⟩)) (H := ([] : List (Sl Int))) 50 2 1 en_i64 (by kernel_rfl)
  replace H := H.move (K := nsK 32 2 1 en_i64 (some ⟨((u2 0).n 0), 0, none⟩) 0 0 ([] : List (Sl Int)) ([] : List (Sl Int))) 50 900141 (by kernel_rfl) (by intro _ _ h; cases h)
  refine k_loopJ (fun m a w' => ∃ x7 : List (List Int), ∃ x8 : Int, armillaryref04_Numbers.l9 k0 a0 a1 m x7 x8 = some j4 ∧ ∃ (p_x7 : Option Addr) (c_x7 np_x7 : Nat) (L_x7 : List (Sl Int)), np_x7 = L_x7.length ∧ x7 = L_x7.map Sl.l ∧ Rep w.heap.size w 49 (ofL [(0, sS p_a0 a0.length c_a0), (1, sI a1), (5, sS p_x7 np_x7 c_x7), (6, sI x8), (49, rdl anyF 1 p_a0 c_a0 a0 en_i64), (900141, nsK 32 2 1 en_i64 p_x7 np_x7 c_x7 L_x7 L_x7)]) a w') k0 ⟨_, _, G, (some ⟨((u2 0).n 0), 0, none⟩), 0, 0, ([] : List (Sl Int)), rfl, rfl, H.toL _ (by kernel_rfl)⟩ ?_
  clear G H
  rintro (_ | k) a w' ⟨x7, x8, G, p_x7, c_x7, _, L_x7, rfl, h_x7, H⟩
  ·exact absurd G (by unfold armillaryref04_Numbers.l9; exact fun h => by cases h)
  ·unfold armillaryref04_Numbers.l9 at G
   refine k_seq ?_
   refine k_seq ?_
   refine k_rg mixed H (.v 10 (vI x8) <|
   .v 11 (vI a1) <|
   .v 12 (.bool (decide (x8 < a1))) <| .nil) fun u10 a w' H => ?_
   replace H := H.kp [0, 1, 5, 6, 12, 49, 900141]
   refine k_cond H (by kernel_rfl) (t := decide (x8 < a1)) (by kernel_rfl) (fun c33 => ?_) (fun c33 => ?_)
   ·rw [if_pos c33] at G
    refine k_skip ?_
    refine k_seq ?_
    replace G := bnd G; obtain ⟨j12, hj12, G⟩ := G
    refine k_join (fun a w' => ∃ (p_j11 : Option Addr) (c_j11 np_j11 : Nat) (L_j11 : List (Sl Int)), np_j11 = L_j11.length ∧ j12 = L_j11.map Sl.l ∧ Rep w.heap.size w 49 (ofL [(0, sS p_a0 a0.length c_a0), (1, sI a1), (5, sS p_j11 np_j11 c_j11), (6, sI x8), (49, rdl anyF 1 p_a0 c_a0 a0 en_i64), (900143, nsK 32 2 1 en_i64 p_j11 np_j11 c_j11 L_j11 L_j11)]) a w') ?_ ?_
    ·clear H; rintro a w' ⟨p_j11, c_j11, _, L_j11, rfl, h_j11, H⟩
     refine k_rg mixed H (.v 13 (vI x8) <|
   .v 14 (vI (w_i64 (x8 + 1))) <|
   .v 6 (vI (w_i64 (x8 + 1))) <| .nil) fun u13 a w' H => ?_
     replace H := H.kp [0, 1, 5, 6, 49, 900143]
     replace H := H.move (K := nsK 32 2 1 en_i64 p_j11 L_j11.length c_j11 L_j11 L_j11) 900143 900141 (by kernel_rfl) (by intro _ _ h; cases h)
     exact ⟨k, Nat.lt_succ_self k, _, _, G, p_j11, c_j11, L_j11.length, L_j11, rfl, h_j11, H.toL _ (by kernel_rfl)⟩
    ·clear G; replace G := hj12; clear hj12
     refine k_block ?_
     refine k_seq ?_
     replace G := gd G; obtain ⟨b15, G⟩ := G
     refine k_rg mixed H (.v 15 (vI a1) <|
   .cons [16, 53] (ok_rowL [] (fun u14 => []) 2 1 (List.replicate a1.toNat (0 : Int)).length ((List.replicate a1.toNat (0 : Int)).flatMap en_i64) 16 53 (fun _ => .none) (fun u14 w hF => run_make_row (t := 32) (k := .i64) (m := a1) (en := en_i64) (z := (0 : Int)) en_i64_len inf2 rfl b15 (by kernel_rfl)) (fun _ => .inl rfl)) <|
   .cons [7] (ok_val (fun u14 => .slice ((u14 1).o 0) ((List.replicate a1.toNat (0 : Int)).length) ((u14 1).n 0)) 7) <| .nil) fun u14 a w' H => ?_
     replace H := H.kp [0, 1, 5, 6, 7, 49, 53, 900141]
     refine k_seq ?_
     replace G := bnd G; obtain ⟨j17, hj17, G⟩ := G
     refine k_join (fun a w' => ∃ (p_j16 : Option Addr) (c_j16 np_j16 : Nat), np_j16 = j17.length ∧ Rep w.heap.size w 49 (ofL [(0, sS p_a0 a0.length c_a0), (1, sI a1), (5, sS p_x7 L_x7.length c_x7), (6, sI x8), (7, sS p_j16 np_j16 c_j16), (49, rdl anyF 1 p_a0 c_a0 a0 en_i64), (900141, nsK 32 2 1 en_i64 p_x7 L_x7.length c_x7 L_x7 L_x7), (900145, owK 2 1 p_j16 np_j16 c_j16 (j17.flatMap en_i64))]) a w') ?_ ?_
     ·clear H; rintro a w' ⟨p_j16, c_j16, _, rfl, H⟩
      replace G := gd G; obtain ⟨b19, G⟩ := G
      refine k_rg mixed H (.v 44 (.slice p_x7 L_x7.length c_x7) <|
   .v 45 (.slice p_j16 j17.length c_j16) <|
   .cons [46, 54] (ok_new (fun b => .slice (some ⟨b, 0, none⟩) 1 1) (fun u18 => [.slice p_j16 j17.length c_j16]) 32 46 54) <|
   .cons [47, 900141, 900145, 900141] (ok_own2 [2] [54] (fun u18 => [.blk ((u18 2).n 0) [.slice p_j16 j17.length c_j16] 32]) 900141 900145 (fun u18 => nsK 32 2 1 en_i64 p_x7 L_x7.length c_x7 L_x7 L_x7) (fun u18 => owK 2 1 p_j16 j17.length c_j16 (j17.flatMap en_i64)) (some 47) (fun u18 g => .slice (g.o 0) (L_x7 ++ [(⟨p_j16, c_j16, j17⟩ : Sl Int)]).length (g.n 0)) (fun u18 g => nsK 32 2 1 en_i64 (g.o 0) ((L_x7 ++ [(⟨p_j16, c_j16, j17⟩ : Sl Int)]).length) (g.n 0) (L_x7 ++ [(⟨p_j16, c_j16, j17⟩ : Sl Int)]) (L_x7 ++ [(⟨p_j16, c_j16, j17⟩ : Sl Int)])) (fun u18 w hF hK hK2 hd => tn_push hK hK2 hd en_i64_len (by decide) (fun hn h => run_app_rowN (t := 30) (ty := 30) (en := enSl) enSl_len inf32 h hF.1 (news := [(⟨p_j16, c_j16, j17⟩ : Sl Int)]) rfl (by simp) (by kernel_rfl) (by rw [← map_len h_x7]; exact b19))) (hloc := fun u u' h => ⟨by first | rfl | simp only [h 2 (by decide)], by first | rfl | simp only [h 2 (by decide)], by first | rfl | simp only [h 2 (by decide)], by first | rfl | simp only [h 2 (by decide)], by first | rfl | simp only [h 2 (by decide)]⟩)) <|
   .cons [5] (ok_val (fun u18 => .slice ((u18 3).o 0) ((L_x7 ++ [(⟨p_j16, c_j16, j17⟩ : Sl Int)]).length) ((u18 3).n 0)) 5) <| .nil) fun u18 a w' H => ?_
      replace H := H.kp [0, 1, 5, 6, 49, 900141]
      obtain rfl := Option.some.inj G
      replace H := H.move (K := nsK 32 2 1 en_i64 ((u18 3).o 0) ((L_x7 ++ [(⟨p_j16, c_j16, j17⟩ : Sl Int)]).length) ((u18 3).n 0) (L_x7 ++ [(⟨p_j16, c_j16, j17⟩ : Sl Int)]) (L_x7 ++ [(⟨p_j16, c_j16, j17⟩ : Sl Int)])) 900141 900143 (by kernel_rfl) (by intro _ _ h; cases h)
      exact ⟨((u18 3).o 0), ((u18 3).n 0), (L_x7 ++ [(⟨p_j16, c_j16, j17⟩ : Sl Int)]).length, (L_x7 ++ [(⟨p_j16, c_j16, j17⟩ : Sl Int)]), rfl, (map_app h_x7 (⟨p_j16, c_j16, j17⟩ : Sl Int)), H.toL _ (by kernel_rfl)⟩
     ·clear G; replace G := hj17; clear hj17
      refine k_seq ?_
      refine k_rg mixed H (.v 8 (vI 0) <| .nil) fun u20 a w' H => ?_
      replace H := H.kp [0, 1, 5, 6, 7, 8, 49, 53, 900141]
      refine k_block ?_
      replace H := H.move (K := owK 2 1 ((u14 1).o 0) ((List.replicate a1.toNat (0 : Int)).length) ((u14 1).n 0) ((List.replicate a1.toNat (0 : Int)).flatMap en_i64)) 53 900146 (by kernel_rfl) (by intro _ _ h; cases h)
      refine k_loopJ (fun m a w' => ∃ x21 : List Int, ∃ x22 : Int, armillaryref04_Numbers.l23 k0 a0 a1 x7 x8 m x21 x22 = some j17 ∧ ∃ (p_x21 : Option Addr) (c_x21 np_x21 : Nat), np_x21 = x21.length ∧ Rep w.heap.size w 49 (ofL [(0, sS p_a0 a0.length c_a0), (1, sI a1), (5, sS p_x7 L_x7.length c_x7), (6, sI x8), (7, sS p_x21 np_x21 c_x21), (8, sI x22), (49, rdl anyF 1 p_a0 c_a0 a0 en_i64), (900141, nsK 32 2 1 en_i64 p_x7 L_x7.length c_x7 L_x7 L_x7), (900146, owK 2 1 p_x21 np_x21 c_x21 (x21.flatMap en_i64))]) a w') k0 ⟨_, _, G, ((u14 1).o 0), ((u14 1).n 0), (List.replicate a1.toNat (0 : Int)).length, rfl, H.toL _ (by kernel_rfl)⟩ ?_
      clear G H
      rintro (_ | k) a w' ⟨x21, x22, G, p_x21, c_x21, _, rfl, H⟩
      ·exact absurd G (by unfold armillaryref04_Numbers.l23; exact fun h => by cases h)
      ·unfold armillaryref04_Numbers.l23 at G
       refine k_seq ?_
       refine k_seq ?_
       refine k_rg mixed H (.v 17 (vI x22) <|
   .v 18 (vI a1) <|
   .v 19 (.bool (decide (x22 < a1))) <|
   .v 20 (.bool (decide (x22 < a1))) <|
   .cons [21] (ok_valg (fun u24 => vI x8) (fun u24 => ((decide (x22 < a1)) == true)) [true] 21) <|
   .cons [22] (ok_valg (fun u24 => vI a1) (fun u24 => ((decide (x22 < a1)) == true)) [true] 22) <|
   .cons [23] (ok_valg (fun u24 => vI (w_i64 (x8 * a1))) (fun u24 => ((decide (x22 < a1)) == true)) [false, false] 23) <|
   .cons [24] (ok_valg (fun u24 => vI x22) (fun u24 => ((decide (x22 < a1)) == true)) [true] 24) <|
   .cons [25] (ok_valg (fun u24 => vI (w_i64 ((w_i64 (x8 * a1)) + x22))) (fun u24 => ((decide (x22 < a1)) == true)) [false, false] 25) <|
   .cons [26] (ok_valg (fun u24 => .slice p_a0 a0.length c_a0) (fun u24 => ((decide (x22 < a1)) == true)) [true] 26) <|
   .cons [27] (ok_valg (fun u24 => vI (a0.length : Int)) (fun u24 => ((decide (x22 < a1)) == true)) [false] 27) <|
   .cons [28] (ok_valg (fun u24 => .bool (decide ((w_i64 ((w_i64 (x8 * a1)) + x22)) < (a0.length : Int)))) (fun u24 => ((decide (x22 < a1)) == true)) [false, false] 28) <|
   .cons [29] (ok_and 20 28 (fun u24 => true) (fun u24 => true) (fun u24 => decide (x22 < a1)) (fun u24 => decide ((w_i64 ((w_i64 (x8 * a1)) + x22)) < (a0.length : Int))) 29) <| .nil) fun u24 a w' H => ?_
       replace H := H.kp [0, 1, 5, 6, 7, 8, 21, 22, 23, 24, 25, 26, 27, 28, 29, 49, 900141, 900146]
       refine k_cond H (by kernel_rfl) (t := ((decide (x22 < a1)) && (decide ((w_i64 ((w_i64 (x8 * a1)) + x22)) < (a0.length : Int))))) (by kernel_rfl) (fun c32 => ?_) (fun c32 => ?_)
       ·rw [if_pos c32] at G
        refine k_skip ?_
        refine k_seq ?_
        refine k_block ?_
        replace G := gd G; obtain ⟨b26, G⟩ := G
        replace G := bnd G; obtain ⟨t27, ht27, G⟩ := G
        replace G := bnd G; obtain ⟨t28, ht28, G⟩ := G
        replace G := gd G; obtain ⟨b29, G⟩ := G
        replace G := bnd G; obtain ⟨t30, ht30, G⟩ := G
        refine k_rg mixed H (.v 32 (.slice p_x21 x21.length c_x21) <|
   .v 33 (vI x22) <|
   .v 34 (.slice p_a0 a0.length c_a0) <|
   .v 35 (vI x8) <|
   .v 36 (vI a1) <|
   .v 37 (vI (w_i64 (x8 * a1))) <|
   .v 38 (vI x22) <|
   .v 39 (vI (w_i64 ((w_i64 (x8 * a1)) + x22))) <|
   .cons [40] (ok_valL [49] (fun u25 => [rdl anyF 1 p_a0 c_a0 a0 en_i64]) (fun u25 => .pointer (some ⟨hdB p_a0, hdO p_a0 + ((w_i64 ((w_i64 (x8 * a1)) + x22)).toNat) * 1, none⟩)) (fun u25 => true) [true, true] 40 (fun u25 w hg hF => ix_row (t := 32) (k := .i64) (i := w_i64 ((w_i64 (x8 * a1)) + x22)) (p := p_a0) (n := a0.length) (cap := c_a0) (x := a0) (en := en_i64) (rdF_of hF.1).2 en_i64_len rfl b26 (by kernel_rfl))) <|
   .cons [41] (ok_valL [49] (fun u25 => [rdl anyF 1 p_a0 c_a0 a0 en_i64]) (fun u25 => vI t27) (fun u25 => true) [true] 41 (fun u25 w hg hF => ld_row (en := en_i64) (rdF_of hF.1).2 en_i64_len ht27 0 1 [vI t27] rfl (by kernel_rfl))) <|
   .cons [42] (ok_callv 69 (fun u25 => #[vI t27]) (vI t28) 42 [] (fun u25 w _ => armillaryref01_Made.calls t27  t28 w  ht28)) <|
   .cons [43] (ok_valL [900146] (fun u25 => [owK 2 1 p_x21 x21.length c_x21 (x21.flatMap en_i64)]) (fun u25 => .pointer (some ⟨hdB p_x21, hdO p_x21 + x22.toNat * 1, none⟩)) (fun u25 => true) [true, true] 43 (fun u25 w hg hF => ix_row (t := 32) (k := .i64) (i := x22) (p := p_x21) (n := x21.length) (cap := c_x21) (x := x21) (en := en_i64) (owns_rowC (ow_of hF.1)).2 en_i64_len rfl b29 (by kernel_rfl))) <|
   .cons [900146, 900146] (ok_own1 [] [] (fun u25 => []) 900146 (fun u25 => owK 2 1 p_x21 x21.length c_x21 (x21.flatMap en_i64)) none (fun u25 g => .nilFunc) (fun u25 g => owK 2 1 p_x21 x21.length c_x21 ((x21.set x22.toNat t28).flatMap en_i64)) (fun u25 w hF hK => tv_set (el_storeN (ow_of hK) en_i64_len (y := t28) (vs := [vI t28]) ht30 0 (by simp) (by simp) rfl (by kernel_rfl)))) <| .nil) fun u25 a w' H => ?_
        replace H := H.kp [0, 1, 5, 6, 7, 8, 21, 22, 23, 24, 25, 26, 27, 28, 49, 900141, 900146]
        refine k_rg mixed H (.v 30 (vI x22) <|
   .v 31 (vI (w_i64 (x22 + 1))) <|
   .v 8 (vI (w_i64 (x22 + 1))) <| .nil) fun u31 a w' H => ?_
        replace H := H.kp [0, 1, 5, 6, 7, 8, 21, 22, 23, 24, 25, 26, 27, 28, 49, 900141, 900146]
        exact ⟨k, Nat.lt_succ_self k, _, _, G, p_x21, c_x21, x21.length, by simp, H.toL _ (by kernel_rfl)⟩
       ·rw [if_neg (nt c32)] at G
        refine k_exit rfl ?_
        obtain rfl := Option.some.inj G
        replace H := H.move (K := owK 2 1 p_x21 x21.length c_x21 (x21.flatMap en_i64)) 900146 900145 (by kernel_rfl) (by intro _ _ h; cases h)
        exact ⟨p_x21, c_x21, x21.length, rfl, H.toL _ (by kernel_rfl)⟩
   ·rw [if_neg (nt c33)] at G
    refine k_exit rfl ?_
    obtain rfl := Option.some.inj G
    replace H := H.move (K := nsK 32 2 1 en_i64 p_x7 L_x7.length c_x7 L_x7 L_x7) 900141 900139 (by kernel_rfl) (by intro _ _ h; cases h)
    exact ⟨p_x7, c_x7, L_x7.length, L_x7, rfl, h_x7, H.toL _ (by kernel_rfl)⟩
set_option maxHeartbeats 4000000 in
theorem armillarylaw04_abs.calls (a0 : Int) (r : Int) (w : World) (G : armillarylaw04_abs a0 = some r) :
  Calls Tryd.prog 33 #[vI a0] w fun e w' => e = .returned (vI r) ∧ Below w.heap.size w w' := by
 refine k_enter (args := [vI a0]) 7 Tryd.func33 rfl (by kernel_rfl) (by kernel_rfl) fun a H => ?_
 unfold armillarylaw04_abs at G
 refine k_seq ?_
 refine k_rg mixed H (.v 2 (vI 0) <| .nil) fun u1 a w' H => ?_
 replace H := H.kp [0]
 refine k_seq ?_
 refine k_rg mixed H (.v 3 (vI a0) <|
   .v 4 (vI a0) <|
   .v 5 (vI (w_i64 (0 - a0))) <|
   .v 6 (vI (mx a0 (w_i64 (0 - a0)))) <|
   .v 2 (vI (mx a0 (w_i64 (0 - a0)))) <| .nil) fun u2 a w' H => ?_
 replace H := H.kp [2]
 refine k_ret ?_
 obtain rfl := Option.some.inj G
 exact k_done0 H _ (by kernel_rfl) (by kernel_rfl)
set_option maxHeartbeats 4000000 in
theorem armillarylaw04_bounded.calls (k0 : Nat) (a0 : List (List Int)) (a1 : Int) (p_a0 : Option Addr) (c_a0 : Nat) (L_a0 : List (Sl Int)) (r : Bool) (w : World) (h_a0 : a0 = L_a0.map Sl.l) (hB : AllH [rdl anyF 1 p_a0 c_a0 L_a0 enSl, dnK anyF E_S_i64.toPart L_a0] w) (G : armillarylaw04_bounded k0 a0 a1 = some r) :
  Calls Tryd.prog 32 #[.slice p_a0 L_a0.length c_a0, vI a1] w fun e w' => e = .returned (.bool r) ∧ Below w.heap.size w w' := by
 obtain ⟨fr, hfr⟩ : ∃ fr : Nat → Prop, ∀ j, fr j := ⟨fun _ => True, fun _ => trivial⟩
 have hBf : ∀ j, w.heap.size ≤ j → fr j := fun j _ => hfr j
 refine k_enterF (args := [.slice p_a0 L_a0.length c_a0, vI a1]) 37 [(37, rdl anyF 1 p_a0 c_a0 L_a0 enSl), (38, dnK anyF E_S_i64.toPart L_a0)] (by
  intro x hx
  simp only [List.mem_cons, List.not_mem_nil, or_false] at hx
  rcases hx with rfl | rfl
  ·exact rdF_fact (rdF_of hB.1) (fun _ _ => trivial) (by decide) _
  ·exact dn_fact (dn_of hB.2.1) (fun _ _ => trivial) _) Tryd.func32 rfl (by kernel_rfl) (by kernel_rfl) fun a H => ?_
 unfold armillarylaw04_bounded at G
 refine k_seq ?_
 refine k_rg mixed H (.v 4 (.bool false) <| .nil) fun u1 a w' H => ?_
 replace H := H.kp [0, 1, 37, 38]
 refine k_seq ?_
 refine k_seq ?_
 refine k_rg mixed H (.v 7 (.slice p_a0 L_a0.length c_a0) <|
   .cons [8] (ok_valL [37] (fun u2 => [rdl anyF 1 p_a0 c_a0 L_a0 enSl]) (fun u2 => vI (a0.length : Int)) (fun u2 => true) [true] 8 (fun u2 w hg hF => run_lenN (((rdF_of hF.1).2.len enSl_len (by decide)).trans (map_len h_a0).symm) (by kernel_rfl))) <|
   .v 9 (vI a1) <|
   .v 10 (.bool ((a0.length : Int) != a1)) <| .nil) fun u2 a w' H => ?_
 replace H := H.kp [0, 1, 10, 37, 38]
 refine k_cond H (by kernel_rfl) (t := ((a0.length : Int) != a1)) (by kernel_rfl) (fun c32 => ?_) (fun c32 => ?_)
 ·rw [if_pos c32] at G
  refine k_seq ?_
  refine k_rg mixed H (.v 4 (.bool false) <| .nil) fun u3 a w' H => ?_
  replace H := H.kp [4]
  refine k_ret ?_
  obtain rfl := Option.some.inj G
  exact k_done0 H _ (by kernel_rfl) (by kernel_rfl)
 ·rw [if_neg (nt c32)] at G
  refine k_skip ?_
  refine k_seq ?_
  replace G := bnd G; obtain ⟨j4, hj4, Gj4⟩ := G
  refine k_join (fun a w' => ∃ j4v, j4 = Sum.inr j4v ∧ Rep w.heap.size w 37 (ofL []) a w') ?_ ?_
  ·clear H; rintro a w' ⟨j4v, rfl, H⟩; have G := Gj4; clear Gj4; dsimp only at G
   refine k_seq ?_
   refine k_rg mixed H (.v 4 (.bool true) <| .nil) fun u5 a w' H => ?_
   replace H := H.kp [4]
   refine k_ret ?_
   obtain rfl := Option.some.inj G
   exact k_done0 H _ (by kernel_rfl) (by kernel_rfl)
  ·have G := hj4; clear hj4
   refine k_seq ?_
   refine k_rg mixed H (.v 5 (vI 0) <| .nil) fun u6 a w' H => ?_
   replace H := H.kp [0, 1, 5, 37, 38]
   refine k_block ?_
   refine k_loopJ (fun m a w' => ∃ x7 : Int, armillarylaw04_bounded.l8 k0 a0 a1 m x7 = some j4 ∧ Rep w.heap.size w 37 (ofL [(0, sS p_a0 L_a0.length c_a0), (1, sI a1), (5, sI x7), (37, rdl anyF 1 p_a0 c_a0 L_a0 enSl), (38, dnK anyF E_S_i64.toPart L_a0)]) a w') k0 ⟨_, G, H.toL _ (by kernel_rfl)⟩ ?_
   clear G H
   rintro (_ | k) a w' ⟨x7, G, H⟩
   ·exact absurd G (by unfold armillarylaw04_bounded.l8; exact fun h => by cases h)
   ·unfold armillarylaw04_bounded.l8 at G
    refine k_seq ?_
    refine k_seq ?_
    refine k_rg mixed H (.v 11 (vI x7) <|
   .v 12 (vI a1) <|
   .v 13 (.bool (decide (x7 < a1))) <| .nil) fun u9 a w' H => ?_
    replace H := H.kp [0, 1, 5, 13, 37, 38]
    refine k_cond H (by kernel_rfl) (t := decide (x7 < a1)) (by kernel_rfl) (fun c31 => ?_) (fun c31 => ?_)
    ·rw [if_pos c31] at G
     refine k_skip ?_
     refine k_seq ?_
     replace G := bnd G; obtain ⟨j10, hj10, Gj10⟩ := G
     refine k_join (fun a w' => ∃ j10v, j10 = Sum.inr j10v ∧ Rep w.heap.size w 37 (ofL [(0, sS p_a0 L_a0.length c_a0), (1, sI a1), (5, sI x7), (37, rdl anyF 1 p_a0 c_a0 L_a0 enSl), (38, dnK anyF E_S_i64.toPart L_a0)]) a w') ?_ ?_
     ·clear H; rintro a w' ⟨j10v, rfl, H⟩; have G := Gj10; clear Gj10; dsimp only at G
      refine k_rg mixed H (.v 14 (vI x7) <|
   .v 15 (vI (w_i64 (x7 + 1))) <|
   .v 5 (vI (w_i64 (x7 + 1))) <| .nil) fun u11 a w' H => ?_
      replace H := H.kp [0, 1, 5, 37, 38]
      exact ⟨k, Nat.lt_succ_self k, _, G, H.toL _ (by kernel_rfl)⟩
     ·have G := hj10; clear hj10
      refine k_block ?_
      refine k_seq ?_
      refine k_seq ?_
      replace G := gd G; obtain ⟨b13, G⟩ := G
      replace G := bnd G; obtain ⟨t14, ht14, G⟩ := G
      obtain ⟨p_t14, c_t14, y_t14⟩ := sl_get h_a0 ht14
      refine k_rg mixed H (.v 16 (.slice p_a0 L_a0.length c_a0) <|
   .v 17 (vI x7) <|
   .cons [18] (ok_valL [37] (fun u12 => [rdl anyF 1 p_a0 c_a0 L_a0 enSl]) (fun u12 => .pointer (some ⟨hdB p_a0, hdO p_a0 + x7.toNat * 1, none⟩)) (fun u12 => true) [true, true] 18 (fun u12 w hg hF => ix_row (t := 30) (k := .i64) (i := x7) (p := p_a0) (n := L_a0.length) (cap := c_a0) (x := a0) (en := enSl) (rdF_of hF.1).2 enSl_len (map_len h_a0) b13 (by kernel_rfl))) <|
   .cons [19] (ok_valL [37] (fun u12 => [rdl anyF 1 p_a0 c_a0 L_a0 enSl]) (fun u12 => .slice p_t14 t14.length c_t14) (fun u12 => true) [true] 19 (fun u12 w hg hF => ld_row (en := enSl) (rdF_of hF.1).2 enSl_len y_t14 0 1 [.slice p_t14 t14.length c_t14] rfl (by kernel_rfl))) <|
   .v 20 (vI (t14.length : Int)) <|
   .v 21 (vI a1) <|
   .v 22 (.bool ((t14.length : Int) != a1)) <| .nil) fun u12 a w' H => ?_
      replace H := H.kp [0, 1, 5, 22, 37, 38]
      refine k_cond H (by kernel_rfl) (t := ((t14.length : Int) != a1)) (by kernel_rfl) (fun c30 => ?_) (fun c30 => ?_)
      ·rw [if_pos c30] at G
       refine k_seq ?_
       refine k_rg mixed H (.v 4 (.bool false) <| .nil) fun u15 a w' H => ?_
       replace H := H.kp [4]
       refine k_ret ?_
       obtain rfl := Option.some.inj G
       replace G := Gj10
       obtain rfl := Option.some.inj G
       replace G := Gj4
       obtain rfl := Option.some.inj G
       exact k_done0 H _ (by kernel_rfl) (by kernel_rfl)
      ·rw [if_neg (nt c30)] at G
       refine k_skip ?_
       refine k_seq ?_
       refine k_rg mixed H (.v 6 (vI 0) <| .nil) fun u16 a w' H => ?_
       replace H := H.kp [0, 1, 5, 6, 37, 38]
       refine k_block ?_
       refine k_loopJ (fun m a w' => ∃ x17 : Int, armillarylaw04_bounded.l18 k0 a0 a1 x7 t14 m x17 = some j10 ∧ Rep w.heap.size w 37 (ofL [(0, sS p_a0 L_a0.length c_a0), (1, sI a1), (5, sI x7), (6, sI x17), (37, rdl anyF 1 p_a0 c_a0 L_a0 enSl), (38, dnK anyF E_S_i64.toPart L_a0)]) a w') k0 ⟨_, G, H.toL _ (by kernel_rfl)⟩ ?_
       clear G H
       rintro (_ | k) a w' ⟨x17, G, H⟩
       ·exact absurd G (by unfold armillarylaw04_bounded.l18; exact fun h => by cases h)
       ·unfold armillarylaw04_bounded.l18 at G
        refine k_seq ?_
        refine k_seq ?_
        refine k_rg mixed H (.v 23 (vI x17) <|
   .v 24 (vI a1) <|
   .v 25 (.bool (decide (x17 < a1))) <| .nil) fun u19 a w' H => ?_
        replace H := H.kp [0, 1, 5, 6, 25, 37, 38]
        refine k_cond H (by kernel_rfl) (t := decide (x17 < a1)) (by kernel_rfl) (fun c29 => ?_) (fun c29 => ?_)
        ·rw [if_pos c29] at G
         refine k_skip ?_
         refine k_seq ?_
         refine k_block ?_
         refine k_seq ?_
         replace G := gd G; obtain ⟨b21, G⟩ := G
         replace G := bnd G; obtain ⟨t22, ht22, G⟩ := G
         obtain ⟨p_t22, c_t22, y_t22⟩ := sl_get h_a0 ht22
         replace G := gd G; obtain ⟨b23, G⟩ := G
         replace G := bnd G; obtain ⟨t24, ht24, G⟩ := G
         replace G := bnd G; obtain ⟨t25, ht25, G⟩ := G
         refine k_rg mixed H (.v 28 (.slice p_a0 L_a0.length c_a0) <|
   .v 29 (vI x7) <|
   .cons [30] (ok_valL [37] (fun u20 => [rdl anyF 1 p_a0 c_a0 L_a0 enSl]) (fun u20 => .pointer (some ⟨hdB p_a0, hdO p_a0 + x7.toNat * 1, none⟩)) (fun u20 => true) [true, true] 30 (fun u20 w hg hF => ix_row (t := 30) (k := .i64) (i := x7) (p := p_a0) (n := L_a0.length) (cap := c_a0) (x := a0) (en := enSl) (rdF_of hF.1).2 enSl_len (map_len h_a0) b21 (by kernel_rfl))) <|
   .cons [31] (ok_valL [37] (fun u20 => [rdl anyF 1 p_a0 c_a0 L_a0 enSl]) (fun u20 => .slice p_t22 t22.length c_t22) (fun u20 => true) [true] 31 (fun u20 w hg hF => ld_row (en := enSl) (rdF_of hF.1).2 enSl_len y_t22 0 1 [.slice p_t22 t22.length c_t22] rfl (by kernel_rfl))) <|
   .v 32 (vI x17) <|
   .cons [33] (ok_valL [38] (fun u20 => [dnK anyF E_S_i64.toPart L_a0]) (fun u20 => .pointer (some ⟨hdB p_t22, hdO p_t22 + x17.toNat * 1, none⟩)) (fun u20 => true) [true, true] 33 (fun u20 w hg hF => ix_row (t := 32) (k := .i64) (i := x17) (p := p_t22) (n := t22.length) (cap := c_t22) (x := t22) (en := en_i64) (show RowC _ 1 p_t22 t22.length c_t22 (t22.flatMap en_i64) from ((dn_of hF.1) _ (List.mem_of_getElem? y_t22)).1).2 en_i64_len rfl b23 (by kernel_rfl))) <|
   .cons [34] (ok_valL [38] (fun u20 => [dnK anyF E_S_i64.toPart L_a0]) (fun u20 => vI t24) (fun u20 => true) [true] 34 (fun u20 w hg hF => ld_row (en := en_i64) (show RowC _ 1 p_t22 t22.length c_t22 (t22.flatMap en_i64) from ((dn_of hF.1) _ (List.mem_of_getElem? y_t22)).1).2 en_i64_len ht24 0 1 [vI t24] rfl (by kernel_rfl))) <|
   .cons [35] (ok_callv 33 (fun u20 => #[vI t24]) (vI t25) 35 [] (fun u20 w _ => armillarylaw04_abs.calls t24  t25 w  ht25)) <|
   .v 36 (.bool (decide (t25 > 1048576))) <| .nil) fun u20 a w' H => ?_
         replace H := H.kp [0, 1, 5, 6, 36, 37, 38]
         refine k_cond H (by kernel_rfl) (t := decide (t25 > 1048576)) (by kernel_rfl) (fun c28 => ?_) (fun c28 => ?_)
         ·rw [if_pos c28] at G
          refine k_seq ?_
          refine k_rg mixed H (.v 4 (.bool false) <| .nil) fun u26 a w' H => ?_
          replace H := H.kp [4]
          refine k_ret ?_
          obtain rfl := Option.some.inj G
          replace G := Gj10
          obtain rfl := Option.some.inj G
          replace G := Gj4
          obtain rfl := Option.some.inj G
          exact k_done0 H _ (by kernel_rfl) (by kernel_rfl)
         ·rw [if_neg (nt c28)] at G
          refine k_skip ?_
          refine k_rg mixed H (.v 26 (vI x17) <|
   .v 27 (vI (w_i64 (x17 + 1))) <|
   .v 6 (vI (w_i64 (x17 + 1))) <| .nil) fun u27 a w' H => ?_
          replace H := H.kp [0, 1, 5, 6, 37, 38]
          exact ⟨k, Nat.lt_succ_self k, _, G, H.toL _ (by kernel_rfl)⟩
        ·rw [if_neg (nt c29)] at G
         refine k_exit rfl ?_
         obtain rfl := Option.some.inj G
         exact ⟨_, rfl, H.toL _ (by kernel_rfl)⟩
    ·rw [if_neg (nt c31)] at G
     refine k_exit rfl ?_
     obtain rfl := Option.some.inj G
     exact ⟨_, rfl, H.toL _ (by kernel_rfl)⟩
end Go.Proofs.YtglcmhldonkfdaaDoor
