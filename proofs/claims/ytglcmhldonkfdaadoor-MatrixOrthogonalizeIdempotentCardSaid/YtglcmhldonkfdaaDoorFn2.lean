/- Each function of the program answers as the plain Lean function of its name (part 2). Printed by a program of this session. -/
import Derived.Test.YtglcmhldonkfdaaDoorFn1
set_option linter.unusedVariables false
set_option linter.unusedSimpArgs false
set_option maxRecDepth 100000
namespace Go.Proofs.YtglcmhldonkfdaaDoor
open Go Go.RowKit Go.Sx Go.Proofs
set_option maxHeartbeats 4000000 in
theorem matrix_Inverse.calls (k0 : Nat) (a0 : List (List TInterval)) (p_a0 : Option Addr) (c_a0 : Nat) (L_a0 : List (Sl TInterval)) (r : List (List TInterval) × Bool) (w : World) (h_a0 : a0 = L_a0.map Sl.l) (hB : AllH [rdl anyF 1 p_a0 c_a0 L_a0 enSl, dnK anyF E_S_TInterval.toPart L_a0, gk] w) (G : matrix_Inverse k0 a0 = some r) :
  Calls Tryd.prog 35 #[.slice p_a0 L_a0.length c_a0] w fun e w' => ∃ g : Gh, e = .returned (.tuple #[.slice (g.o 0) ((g.dl Sl.l gd_S_TInterval 0 r.1).length) (g.n 0), .bool r.2]) ∧ But (fpK []) w w' ∧ OutOK w.heap.size (fpK []) (frI w.heap.size []) [fun _ => owK 22 1 (g.o 0) ((g.dl Sl.l gd_S_TInterval 0 r.1).length) (g.n 0) ((g.dl Sl.l gd_S_TInterval 0 r.1).flatMap enSl), fun fr => dnK fr E_S_TInterval.toPart (g.dl Sl.l gd_S_TInterval 0 r.1)] w' := by
 obtain ⟨fr, hfr⟩ : ∃ fr : Nat → Prop, fr = frI w.heap.size [] := ⟨_, rfl⟩
 have hBf : ∀ j, w.heap.size ≤ j → fr j := fun j h => by rw [hfr]; exact .inl h
 refine k_enterF (args := [.slice p_a0 L_a0.length c_a0]) 161 [(161, rdl anyF 1 p_a0 c_a0 L_a0 enSl), (162, dnK anyF E_S_TInterval.toPart L_a0), (999999, gk)] (by
  intro x hx
  simp only [List.mem_cons, List.not_mem_nil, or_false] at hx
  rcases hx with rfl | rfl | rfl
  ·exact rdF_fact (rdF_of hB.1) (fun _ _ => trivial) (by decide) _
  ·exact dn_fact (dn_of hB.2.1) (fun _ _ => trivial) _
  ·exact ⟨⟨_, _, rfl⟩, hB.2.2.1, glob_in (glob_of hB.2.2.1)⟩) Tryd.func35 rfl (by kernel_rfl) (by kernel_rfl) fun a H => ?_
 unfold matrix_Inverse at G
 refine k_seq ?_
 refine k_rg mixed H (.v 2 (.slice none 0 0) <|
   .v 3 (.bool false) <| .nil) fun u1 a w' H => ?_
 replace H := H.kp [0, 161, 162, 999999]
 refine k_seq ?_
 refine k_rg mixed H (.v 16 (.slice p_a0 L_a0.length c_a0) <|
   .cons [17] (ok_valL [161] (fun u2 => [rdl anyF 1 p_a0 c_a0 L_a0 enSl]) (fun u2 => vI (a0.length : Int)) (fun u2 => true) [true] 17 (fun u2 w hg hF => run_lenN (((rdF_of hF.1).2.len enSl_len (by decide)).trans (map_len h_a0).symm) (by kernel_rfl))) <|
   .v 4 (vI (a0.length : Int)) <| .nil) fun u2 a w' H => ?_
 replace H := H.kp [0, 4, 161, 162, 999999]
 refine k_seq ?_
 replace G := gd G; obtain ⟨b4, G⟩ := G
 refine k_rg mixed H (.v 18 (vI (a0.length : Int)) <|
   .cons [19, 163] (ok_nest0 37 2 en_TInterval (ok_rowL [] (fun u3 => []) 22 1 (List.replicate (a0.length : Int).toNat (⟨none, 0, []⟩ : Sl TInterval)).length ((List.replicate (a0.length : Int).toNat (⟨none, 0, []⟩ : Sl TInterval)).flatMap enSl) 19 163 (fun _ => .none) (fun u3 w hF => run_make_row (t := 27) (k := .i64) (m := (a0.length : Int)) (en := enSl) (z := (⟨none, 0, []⟩ : Sl TInterval)) enSl_len inf22 rfl b4 (by kernel_rfl)) (fun _ => .inl rfl)) repl_nil) <|
   .cons [5] (ok_val (fun u3 => .slice ((u3 1).o 0) ((List.replicate (a0.length : Int).toNat (⟨none, 0, []⟩ : Sl TInterval)).length) ((u3 1).n 0)) 5) <| .nil) fun u3 a w' H => ?_
 replace H := H.kp [0, 4, 5, 161, 162, 163, 999999]
 refine k_seq ?_
 replace G := bnd G; obtain ⟨j6, hj6, G⟩ := G
 refine k_join (fun a w' => ∃ (p_j5 : Option Addr) (c_j5 np_j5 : Nat) (L_j5 : List (Sl TInterval)), np_j5 = L_j5.length ∧ j6 = L_j5.map Sl.l ∧ Rep w.heap.size w 161 (ofL [(4, (sI (a0.length : Int))), (5, sS p_j5 np_j5 c_j5), (900052, nsK 22 37 2 en_TInterval p_j5 np_j5 c_j5 L_j5 L_j5), (999999, gk)]) a w') ?_ ?_
 ·clear H; rintro a w' ⟨p_j5, c_j5, _, L_j5, rfl, h_j5, H⟩
  refine k_seq ?_
  replace G := bnd G; obtain ⟨j8, hj8, Gj8⟩ := G
  refine k_join (fun a w' => ∃ j8v, j8 = Sum.inr j8v ∧ ∃ (p_j7 : Option Addr) (c_j7 np_j7 : Nat) (L_j7 : List (Sl TInterval)), np_j7 = L_j7.length ∧ j8v = L_j7.map Sl.l ∧ Rep w.heap.size w 161 (ofL [(4, (sI (a0.length : Int))), (5, sS p_j7 np_j7 c_j7), (900054, nsK 22 37 2 en_TInterval p_j7 np_j7 c_j7 L_j7 L_j7), (999999, gk)]) a w') ?_ ?_
  ·clear H; rintro a w' ⟨j8v, rfl, p_j7, c_j7, _, L_j7, rfl, h_j7, H⟩; have G := Gj8; clear Gj8; dsimp only at G
   refine k_seq ?_
   replace G := bnd G; obtain ⟨j10, hj10, Gj10⟩ := G
   refine k_join (fun a w' => ∃ j10v, j10 = Sum.inr j10v ∧ ∃ (p_j9 : Option Addr) (c_j9 np_j9 : Nat) (L_j9 : List (Sl TInterval)), np_j9 = L_j9.length ∧ j10v = L_j9.map Sl.l ∧ Rep w.heap.size w 161 (ofL [(5, sS p_j9 np_j9 c_j9), (900056, owK 22 1 p_j9 np_j9 c_j9 (L_j9.flatMap enSl)), (900057, dnK fr E_S_TInterval.toPart L_j9), (999999, gk)]) a w') ?_ ?_
   ·clear H; rintro a w' ⟨j10v, rfl, p_j9, c_j9, _, L_j9, rfl, h_j9, H⟩; have G := Gj10; clear Gj10; dsimp only at G
    refine k_seq ?_
    refine k_rg mixed H (.v 160 (.slice p_j9 L_j9.length c_j9) <|
   .v 2 (.slice p_j9 L_j9.length c_j9) <|
   .v 3 (.bool true) <| .nil) fun u11 a w' H => ?_
    replace H := H.kp [2, 3, 900056, 900057, 999999]
    refine k_ret ?_
    obtain rfl := Option.some.inj G
    obtain ⟨g, o0, n0, d0⟩ : ∃ g : Gh, g.o 0 = p_j9 ∧ g.n 0 = c_j9 ∧ g.dl Sl.l gd_S_TInterval 0 j10v = L_j9 := ⟨⟨fun i => [c_j9].getD i 0, fun i => [p_j9].getD i none, fun i => ([⟨List (Sl TInterval), L_j9⟩] : List ((T : Type) × T)).getD i ⟨Unit, ()⟩⟩, rfl, rfl, dl_mk rfl h_j9⟩
    refine k_doneZ H (fun g => .tuple #[.slice (g.o 0) ((g.dl Sl.l gd_S_TInterval 0 j10v).length) (g.n 0), .bool true]) g [] [] (fun g => [fun _ => owK 22 1 (g.o 0) ((g.dl Sl.l gd_S_TInterval 0 j10v).length) (g.n 0) ((g.dl Sl.l gd_S_TInterval 0 j10v).flatMap enSl), fun fr => dnK fr E_S_TInterval.toPart (g.dl Sl.l gd_S_TInterval 0 j10v)]) fr [900056, 900057] [] (.tuple #[.slice p_j9 L_j9.length c_j9, .bool true]) [fun _ => owK 22 1 p_j9 L_j9.length c_j9 (L_j9.flatMap enSl), fun fr => dnK fr E_S_TInterval.toPart L_j9] (by simp only [o0, n0, d0]) (by simp only [o0, n0, d0]) hfr (.inl ⟨rfl, rfl⟩) (fams_cons fam_ow (fams_cons fam_dn fams_nil)) (by simp)
   ·have G := hj10; clear hj10
    refine k_seq ?_
    refine k_rg mixed H (.v 141 (vI (a0.length : Int)) <|
   .v 142 (vI 0) <| .nil) fun u12 a w' H => ?_
    replace H := H.kp [4, 5, 141, 142, 900054, 999999]
    refine k_block ?_
    replace H := H.denest (e := 22) (e2 := 37) (m := L_j7.length) (cap := c_j7) (p := p_j7) (L := L_j7) 900054 171 fr (by decide) en_TInterval_len (fun _ => rfl) hBf (by kernel_rfl) (by decide)
    replace H := H.move (K := owK 22 1 p_j7 L_j7.length c_j7 (L_j7.flatMap enSl)) 900054 900058 (by kernel_rfl) (by intro _ _ h; cases h)
    replace H := H.dup (K := dnK fr E_S_TInterval.toPart L_j7) 171 900059 (by kernel_rfl) (fun h => h) (by intro _ _ h; cases h)
    refine k_loopJ (fun m a w' => ∃ x13 : List (List TInterval), ∃ x14 : Int, matrix_Inverse.l15 k0 a0 j6 j8v m x13 x14 = some j10 ∧ ∃ (p_x13 : Option Addr) (c_x13 np_x13 : Nat) (L_x13 : List (Sl TInterval)), np_x13 = L_x13.length ∧ x13 = L_x13.map Sl.l ∧ Rep w.heap.size w 161 (ofL [(4, (sI (a0.length : Int))), (5, sS p_x13 np_x13 c_x13), (141, (sI (a0.length : Int))), (142, sI x14), (900058, owK 22 1 p_x13 np_x13 c_x13 (L_x13.flatMap enSl)), (900059, dnK fr E_S_TInterval.toPart L_x13), (999999, gk)]) a w') k0 ⟨_, _, G, p_j7, c_j7, L_j7.length, L_j7, rfl, h_j7, H.toL _ (by kernel_rfl)⟩ ?_
    clear G H
    rintro (_ | k) a w' ⟨x13, x14, G, p_x13, c_x13, _, L_x13, rfl, h_x13, H⟩
    ·exact absurd G (by unfold matrix_Inverse.l15; exact fun h => by cases h)
    ·unfold matrix_Inverse.l15 at G
     refine k_seq ?_
     refine k_rg mixed H (.v 143 (.bool (decide (x14 < (a0.length : Int)))) <| .nil) fun u16 a w' H => ?_
     replace H := H.kp [4, 5, 141, 142, 143, 900058, 900059, 999999]
     refine k_seq ?_
     refine k_cond H (by kernel_rfl) (t := decide (x14 < (a0.length : Int))) (by kernel_rfl) (fun c31 => ?_) (fun c31 => ?_)
     ·rw [if_pos c31] at G
      refine k_skip ?_
      refine k_seq ?_
      refine k_block ?_
      refine k_seq ?_
      refine k_rg mixed H (.v 144 (vI x14) <|
   .v 15 (vI x14) <| .nil) fun u17 a w' H => ?_
      replace H := H.kp [4, 5, 15, 141, 142, 900058, 900059, 999999]
      refine k_seq ?_
      replace G := gd G; obtain ⟨b19, G⟩ := G
      replace G := bnd G; obtain ⟨t20, ht20, G⟩ := G
      obtain ⟨p_t20, c_t20, y_t20⟩ := sl_get h_x13 ht20
      replace G := gd G; obtain ⟨b21, G⟩ := G
      replace G := gd G; obtain ⟨b22, G⟩ := G
      replace G := bnd G; obtain ⟨t23, ht23, G⟩ := G
      obtain ⟨p_t23, c_t23, y_t23⟩ := sl_get h_x13 ht23
      refine k_rg mixed H (.v 145 (.slice p_x13 L_x13.length c_x13) <|
   .v 146 (vI x14) <|
   .v 147 (.slice p_x13 L_x13.length c_x13) <|
   .v 148 (vI x14) <|
   .cons [149] (ok_valL [900058] (fun u18 => [owK 22 1 p_x13 L_x13.length c_x13 (L_x13.flatMap enSl)]) (fun u18 => .pointer (some ⟨hdB p_x13, hdO p_x13 + x14.toNat * 1, none⟩)) (fun u18 => true) [true, true] 149 (fun u18 w hg hF => ix_row (t := 27) (k := .i64) (i := x14) (p := p_x13) (n := L_x13.length) (cap := c_x13) (x := x13) (en := enSl) (owns_rowC (ow_of hF.1)).2 enSl_len (map_len h_x13) b19 (by kernel_rfl))) <|
   .cons [150] (ok_valL [900058] (fun u18 => [owK 22 1 p_x13 L_x13.length c_x13 (L_x13.flatMap enSl)]) (fun u18 => .slice p_t20 t20.length c_t20) (fun u18 => true) [true] 150 (fun u18 w hg hF => ld_row (en := enSl) (owns_rowC (ow_of hF.1)).2 enSl_len y_t20 0 1 [.slice p_t20 t20.length c_t20] rfl (by kernel_rfl))) <|
   .v 151 (vI (a0.length : Int)) <|
   .cons [152] (ok_valL [900059] (fun u18 => [dnK fr E_S_TInterval.toPart L_x13]) (fun u18 => .slice (viewP p_t20 (a0.length : Int).toNat 2 c_t20) ((t20.drop (a0.length : Int).toNat).length) (c_t20 - (a0.length : Int).toNat)) (fun u18 => true) [true, true] 152 (fun u18 w _ hF => run_of (by kernel_rfl) (run_low (t := 22) (sz := 2) (l := t20) (k := .i64) rfl b21))) <|
   .cons [153] (ok_valL [900058] (fun u18 => [owK 22 1 p_x13 L_x13.length c_x13 (L_x13.flatMap enSl)]) (fun u18 => .pointer (some ⟨hdB p_x13, hdO p_x13 + x14.toNat * 1, none⟩)) (fun u18 => true) [true, true] 153 (fun u18 w hg hF => ix_row (t := 27) (k := .i64) (i := x14) (p := p_x13) (n := L_x13.length) (cap := c_x13) (x := x13) (en := enSl) (owns_rowC (ow_of hF.1)).2 enSl_len (map_len h_x13) b22 (by kernel_rfl))) <|
   .cons [900058, 900058, 164] (ok_ownF [] [900059] (fun u18 => [dnK fr E_S_TInterval.toPart L_x13]) 900058 164 (fun u18 => owK 22 1 p_x13 L_x13.length c_x13 (L_x13.flatMap enSl)) none (fun u18 g => .nilFunc) (fun u18 g => owK 22 1 p_x13 L_x13.length c_x13 ((L_x13.set x14.toNat (⟨(viewP p_t20 (a0.length : Int).toNat 2 c_t20), (c_t20 - (a0.length : Int).toNat), (t20.drop (a0.length : Int).toNat)⟩ : Sl TInterval)).flatMap enSl)) (fun u18 g => dnK fr E_S_TInterval.toPart (L_x13.set x14.toNat (⟨(viewP p_t20 (a0.length : Int).toNat 2 c_t20), (c_t20 - (a0.length : Int).toNat), (t20.drop (a0.length : Int).toNat)⟩ : Sl TInterval))) (fun u18 w hF hK => tv_setF (el_storeN (en := enSl) (ow_of hK) enSl_len (y := (⟨(viewP p_t20 (a0.length : Int).toNat 2 c_t20), (c_t20 - (a0.length : Int).toNat), (t20.drop (a0.length : Int).toNat)⟩ : Sl TInterval)) (vs := [.slice (viewP p_t20 (a0.length : Int).toNat 2 c_t20) ((t20.drop (a0.length : Int).toNat).length) (c_t20 - (a0.length : Int).toNat)]) y_t23 0 (by simp) (by simp) rfl (by kernel_rfl)) (dn_set hF.1 (.head _) ⟨(RowC.low (en := en_TInterval) (show RowC _ 2 p_t20 t20.length c_t20 (t20.flatMap en_TInterval) from ((dn_of hF.1) _ (List.mem_of_getElem? y_t20)).1) en_TInterval_len b21), fun _ _ => trivial⟩ (fun j h => (h.elim (fun h => ff_of (.head _) (fun h => h) ⟨_, (List.mem_of_getElem? y_t20), (.inl (fpRow_low (by simp) h))⟩ (dn_fr hF.1 _ ⟨_, (List.mem_of_getElem? y_t20), (.inl (fpRow_low (by simp) h))⟩)) (fun ⟨_, _, hz⟩ => hz.elim)))))) <| .nil) fun u18 a w' H => ?_
      replace H := H.kp [4, 5, 15, 141, 142, 164, 900058, 999999]
      refine k_seq ?_
      replace G := gd G; obtain ⟨b25, G⟩ := G
      replace G := bnd G; obtain ⟨t26, ht26, G⟩ := G
      obtain ⟨p_t26, c_t26, y_t26⟩ := sl_get (map_set h_x13 x14.toNat (⟨(viewP p_t20 (a0.length : Int).toNat 2 c_t20), (c_t20 - (a0.length : Int).toNat), (t20.drop (a0.length : Int).toNat)⟩ : Sl TInterval)) ht26
      replace G := bnd G; obtain ⟨t27, ht27, G⟩ := G
      refine k_rg mixed H (.v 154 (.slice p_x13 L_x13.length c_x13) <|
   .v 155 (vI x14) <|
   .cons [156] (ok_valL [900058] (fun u24 => [owK 22 1 p_x13 L_x13.length c_x13 ((L_x13.set x14.toNat (⟨(viewP p_t20 (a0.length : Int).toNat 2 c_t20), (c_t20 - (a0.length : Int).toNat), (t20.drop (a0.length : Int).toNat)⟩ : Sl TInterval)).flatMap enSl)]) (fun u24 => .pointer (some ⟨hdB p_x13, hdO p_x13 + x14.toNat * 1, none⟩)) (fun u24 => true) [true, true] 156 (fun u24 w hg hF => ix_row (t := 27) (k := .i64) (i := x14) (p := p_x13) (n := L_x13.length) (cap := c_x13) (x := (x13.set x14.toNat (t20.drop (a0.length : Int).toNat))) (en := enSl) (owns_rowC (ow_of hF.1)).2 enSl_len (map_len (map_set h_x13 x14.toNat (⟨(viewP p_t20 (a0.length : Int).toNat 2 c_t20), (c_t20 - (a0.length : Int).toNat), (t20.drop (a0.length : Int).toNat)⟩ : Sl TInterval))) b25 (by kernel_rfl))) <|
   .cons [157] (ok_valL [900058] (fun u24 => [owK 22 1 p_x13 L_x13.length c_x13 ((L_x13.set x14.toNat (⟨(viewP p_t20 (a0.length : Int).toNat 2 c_t20), (c_t20 - (a0.length : Int).toNat), (t20.drop (a0.length : Int).toNat)⟩ : Sl TInterval)).flatMap enSl)]) (fun u24 => .slice p_t26 t26.length c_t26) (fun u24 => true) [true] 157 (fun u24 w hg hF => ld_row (en := enSl) (owns_rowC (ow_of hF.1)).2 enSl_len y_t26 0 1 [.slice p_t26 t26.length c_t26] rfl (by kernel_rfl))) <|
   .cons [158] (ok_callL [164] (fun u24 => [dnK fr E_S_TInterval.toPart (L_x13.set x14.toNat (⟨(viewP p_t20 (a0.length : Int).toNat 2 c_t20), (c_t20 - (a0.length : Int).toNat), (t20.drop (a0.length : Int).toNat)⟩ : Sl TInterval))]) 75 (fun u24 => #[.slice p_t26 t26.length c_t26, .func (.func 76) #[] #[]]) (.bool t27) 158 (fun u24 w hF => api_Interval_75_s76.calls k0 t26 p_t26 c_t26 t27 w  ⟨(rdA (show RowC _ 2 p_t26 t26.length c_t26 (t26.flatMap en_TInterval) from ((dn_of hF.1) _ (List.mem_of_getElem? y_t26)).1)), trivial⟩ ht27)) <| .nil) fun u24 a w' H => ?_
      replace H := H.kp [4, 5, 141, 142, 158, 164, 900058, 999999]
      refine k_cond H (by kernel_rfl) (t := t27) (by kernel_rfl) (fun c30 => ?_) (fun c30 => ?_)
      ·rw [if_pos c30] at G
       refine k_seq ?_
       refine k_rg mixed H (.v 2 (.slice none 0 0) <|
   .v 3 (.bool false) <| .nil) fun u28 a w' H => ?_
       replace H := H.kp [2, 3, 999999]
       refine k_ret ?_
       obtain rfl := Option.some.inj G
       replace G := Gj10
       obtain rfl := Option.some.inj G
       replace H := H.nil_row 165 22 1
       replace H := H.add0 166 (dnK fr E_S_TInterval.toPart ([] : List (Sl TInterval))) (by intro _ _ h; cases h) (dn_holds rdl_nil (fun j h => by obtain ⟨_, hy, _⟩ := h; cases hy)) (fun j h => by obtain ⟨_, hy, _⟩ := h; cases hy)
       obtain ⟨g, o0, n0, d0⟩ : ∃ g : Gh, g.o 0 = none ∧ g.n 0 = 0 ∧ g.dl Sl.l gd_S_TInterval 0 ([] : List (List TInterval)) = ([] : List (Sl TInterval)) := ⟨⟨fun i => [0].getD i 0, fun i => [none].getD i none, fun i => ([⟨List (Sl TInterval), ([] : List (Sl TInterval))⟩] : List ((T : Type) × T)).getD i ⟨Unit, ()⟩⟩, rfl, rfl, dl_mk rfl rfl⟩
       refine k_doneZ H (fun g => .tuple #[.slice (g.o 0) ((g.dl Sl.l gd_S_TInterval 0 ([] : List (List TInterval))).length) (g.n 0), .bool false]) g [] [] (fun g => [fun _ => owK 22 1 (g.o 0) ((g.dl Sl.l gd_S_TInterval 0 ([] : List (List TInterval))).length) (g.n 0) ((g.dl Sl.l gd_S_TInterval 0 ([] : List (List TInterval))).flatMap enSl), fun fr => dnK fr E_S_TInterval.toPart (g.dl Sl.l gd_S_TInterval 0 ([] : List (List TInterval)))]) fr [165, 166] [] (.tuple #[.slice none 0 0, .bool false]) [fun _ => owK 22 1 none 0 0 (([] : List (Sl TInterval)).flatMap enSl), fun fr => dnK fr E_S_TInterval.toPart ([] : List (Sl TInterval))] (by simp only [o0, n0, d0, List.length_set, List.length_cons, List.length_nil, Nat.zero_add, Nat.reduceAdd]) (by simp only [o0, n0, d0, List.length_set, List.length_cons, List.length_nil, Nat.zero_add, Nat.reduceAdd]) hfr (.inl ⟨rfl, rfl⟩) (fams_cons fam_ow (fams_cons fam_dn fams_nil)) (by simp)
      ·rw [if_neg (nt c30)] at G
       refine k_skip ?_
       refine k_rg mixed H (.v 159 (vI (w_i64 (x14 + 1))) <|
   .v 142 (vI (w_i64 (x14 + 1))) <| .nil) fun u29 a w' H => ?_
       replace H := H.kp [4, 5, 141, 142, 164, 900058, 999999]
       replace H := H.dup (K := dnK fr E_S_TInterval.toPart (L_x13.set x14.toNat (⟨(viewP p_t20 (a0.length : Int).toNat 2 c_t20), (c_t20 - (a0.length : Int).toNat), (t20.drop (a0.length : Int).toNat)⟩ : Sl TInterval))) 164 900059 (by kernel_rfl) (fun h => h) (by intro _ _ h; cases h)
       exact ⟨k, Nat.lt_succ_self k, _, _, G, p_x13, c_x13, L_x13.length, (L_x13.set x14.toNat (⟨(viewP p_t20 (a0.length : Int).toNat 2 c_t20), (c_t20 - (a0.length : Int).toNat), (t20.drop (a0.length : Int).toNat)⟩ : Sl TInterval)), by simp, (map_set h_x13 x14.toNat (⟨(viewP p_t20 (a0.length : Int).toNat 2 c_t20), (c_t20 - (a0.length : Int).toNat), (t20.drop (a0.length : Int).toNat)⟩ : Sl TInterval)), H.toL _ (by kernel_rfl)⟩
     ·rw [if_neg (nt c31)] at G
      refine k_exit rfl ?_
      obtain rfl := Option.some.inj G
      replace H := H.move (K := owK 22 1 p_x13 L_x13.length c_x13 (L_x13.flatMap enSl)) 900058 900056 (by kernel_rfl) (by intro _ _ h; cases h)
      replace H := H.dup (K := dnK fr E_S_TInterval.toPart L_x13) 900059 900057 (by kernel_rfl) (fun h => h) (by intro _ _ h; cases h)
      exact ⟨_, rfl, p_x13, c_x13, L_x13.length, L_x13, rfl, h_x13, H.toL _ (by kernel_rfl)⟩
  ·have G := hj8; clear hj8
   refine k_seq ?_
   refine k_rg mixed H (.v 39 (vI (a0.length : Int)) <|
   .v 40 (vI 0) <| .nil) fun u32 a w' H => ?_
   replace H := H.kp [4, 5, 39, 40, 900052, 999999]
   refine k_block ?_
   replace H := H.move (K := nsK 22 37 2 en_TInterval p_j5 L_j5.length c_j5 L_j5 L_j5) 900052 900060 (by kernel_rfl) (by intro _ _ h; cases h)
   refine k_loopJ (fun m a w' => ∃ x33 : List (List TInterval), ∃ x34 : Int, matrix_Inverse.l35 k0 a0 j6 m x33 x34 = some j8 ∧ ∃ (p_x33 : Option Addr) (c_x33 np_x33 : Nat) (L_x33 : List (Sl TInterval)), np_x33 = L_x33.length ∧ x33 = L_x33.map Sl.l ∧ Rep w.heap.size w 161 (ofL [(4, (sI (a0.length : Int))), (5, sS p_x33 np_x33 c_x33), (39, (sI (a0.length : Int))), (40, sI x34), (900060, nsK 22 37 2 en_TInterval p_x33 np_x33 c_x33 L_x33 L_x33), (999999, gk)]) a w') k0 ⟨_, _, G, p_j5, c_j5, L_j5.length, L_j5, rfl, h_j5, H.toL _ (by kernel_rfl)⟩ ?_
   clear G H
   rintro (_ | k) a w' ⟨x33, x34, G, p_x33, c_x33, _, L_x33, rfl, h_x33, H⟩
   ·exact absurd G (by unfold matrix_Inverse.l35; exact fun h => by cases h)
   ·unfold matrix_Inverse.l35 at G
    refine k_seq ?_
    refine k_rg mixed H (.v 41 (.bool (decide (x34 < (a0.length : Int)))) <| .nil) fun u36 a w' H => ?_
    replace H := H.kp [4, 5, 39, 40, 41, 900060, 999999]
    refine k_seq ?_
    refine k_cond H (by kernel_rfl) (t := decide (x34 < (a0.length : Int))) (by kernel_rfl) (fun c132 => ?_) (fun c132 => ?_)
    ·rw [if_pos c132] at G
     refine k_skip ?_
     refine k_seq ?_
     replace G := bnd G; obtain ⟨j38, hj38, Gj38⟩ := G
     refine k_join (fun a w' => ∃ j38v, j38 = Sum.inr j38v ∧ ∃ (p_j37 : Option Addr) (c_j37 np_j37 : Nat) (L_j37 : List (Sl TInterval)), np_j37 = L_j37.length ∧ j38v = L_j37.map Sl.l ∧ Rep w.heap.size w 161 (ofL [(4, (sI (a0.length : Int))), (5, sS p_j37 np_j37 c_j37), (39, (sI (a0.length : Int))), (40, sI x34), (900062, nsK 22 37 2 en_TInterval p_j37 np_j37 c_j37 L_j37 L_j37), (999999, gk)]) a w') ?_ ?_
     ·clear H; rintro a w' ⟨j38v, rfl, p_j37, c_j37, _, L_j37, rfl, h_j37, H⟩; have G := Gj38; clear Gj38; dsimp only at G
      refine k_rg mixed H (.v 140 (vI (w_i64 (x34 + 1))) <|
   .v 40 (vI (w_i64 (x34 + 1))) <| .nil) fun u39 a w' H => ?_
      replace H := H.kp [4, 5, 39, 40, 900062, 999999]
      replace H := H.move (K := nsK 22 37 2 en_TInterval p_j37 L_j37.length c_j37 L_j37 L_j37) 900062 900060 (by kernel_rfl) (by intro _ _ h; cases h)
      exact ⟨k, Nat.lt_succ_self k, _, _, G, p_j37, c_j37, L_j37.length, L_j37, rfl, h_j37, H.toL _ (by kernel_rfl)⟩
     ·have G := hj38; clear hj38
      refine k_block ?_
      refine k_seq ?_
      refine k_rg mixed H (.v 42 (vI x34) <|
   .v 8 (vI x34) <| .nil) fun u40 a w' H => ?_
      replace H := H.kp [4, 5, 8, 39, 40, 900060, 999999]
      refine k_seq ?_
      replace G := bnd G; obtain ⟨t42, ht42, G⟩ := G
      refine k_rg mixed H (.v 43 (.slice p_x33 L_x33.length c_x33) <|
   .v 44 (vI x34) <|
   .cons [45] (ok_callL [900060] (fun u41 => [nsK 22 37 2 en_TInterval p_x33 L_x33.length c_x33 L_x33 L_x33]) 71 (fun u41 => #[.slice p_x33 L_x33.length c_x33, vI x34]) (vI t42) 45 (fun u41 w hF => matrix_pivotRow.calls k0 x33 x34 p_x33 c_x33 L_x33 t42 w h_x33 ⟨(rdA (ns_of hF.1).row), (dnA (ns_of hF.1).all), trivial⟩ ht42)) <|
   .v 9 (vI t42) <| .nil) fun u41 a w' H => ?_
      replace H := H.kp [4, 5, 8, 9, 39, 40, 900060, 999999]
      refine k_seq ?_
      refine k_seq ?_
      refine k_rg mixed H (.v 46 (vI t42) <|
   .v 47 (.bool (decide (t42 < 0))) <| .nil) fun u43 a w' H => ?_
      replace H := H.kp [4, 5, 8, 9, 39, 40, 47, 900060, 999999]
      refine k_cond H (by kernel_rfl) (t := decide (t42 < 0)) (by kernel_rfl) (fun c131 => ?_) (fun c131 => ?_)
      ·rw [if_pos c131] at G
       refine k_seq ?_
       refine k_rg mixed H (.v 2 (.slice none 0 0) <|
   .v 3 (.bool false) <| .nil) fun u44 a w' H => ?_
       replace H := H.kp [2, 3, 999999]
       refine k_ret ?_
       obtain rfl := Option.some.inj G
       replace G := Gj38
       obtain rfl := Option.some.inj G
       replace G := Gj8
       obtain rfl := Option.some.inj G
       replace H := H.nil_row 176 22 1
       replace H := H.add0 177 (dnK fr E_S_TInterval.toPart ([] : List (Sl TInterval))) (by intro _ _ h; cases h) (dn_holds rdl_nil (fun j h => by obtain ⟨_, hy, _⟩ := h; cases hy)) (fun j h => by obtain ⟨_, hy, _⟩ := h; cases hy)
       obtain ⟨g, o0, n0, d0⟩ : ∃ g : Gh, g.o 0 = none ∧ g.n 0 = 0 ∧ g.dl Sl.l gd_S_TInterval 0 ([] : List (List TInterval)) = ([] : List (Sl TInterval)) := ⟨⟨fun i => [0].getD i 0, fun i => [none].getD i none, fun i => ([⟨List (Sl TInterval), ([] : List (Sl TInterval))⟩] : List ((T : Type) × T)).getD i ⟨Unit, ()⟩⟩, rfl, rfl, dl_mk rfl rfl⟩
       refine k_doneZ H (fun g => .tuple #[.slice (g.o 0) ((g.dl Sl.l gd_S_TInterval 0 ([] : List (List TInterval))).length) (g.n 0), .bool false]) g [] [] (fun g => [fun _ => owK 22 1 (g.o 0) ((g.dl Sl.l gd_S_TInterval 0 ([] : List (List TInterval))).length) (g.n 0) ((g.dl Sl.l gd_S_TInterval 0 ([] : List (List TInterval))).flatMap enSl), fun fr => dnK fr E_S_TInterval.toPart (g.dl Sl.l gd_S_TInterval 0 ([] : List (List TInterval)))]) fr [176, 177] [] (.tuple #[.slice none 0 0, .bool false]) [fun _ => owK 22 1 none 0 0 (([] : List (Sl TInterval)).flatMap enSl), fun fr => dnK fr E_S_TInterval.toPart ([] : List (Sl TInterval))] (by simp only [o0, n0, d0, List.length_set, List.length_cons, List.length_nil, Nat.zero_add, Nat.reduceAdd]) (by simp only [o0, n0, d0, List.length_set, List.length_cons, List.length_nil, Nat.zero_add, Nat.reduceAdd]) hfr (.inl ⟨rfl, rfl⟩) (fams_cons fam_ow (fams_cons fam_dn fams_nil)) (by simp)
      ·rw [if_neg (nt c131)] at G
       refine k_skip ?_
       refine k_seq ?_
       replace G := gd G; obtain ⟨b46, G⟩ := G
       replace G := bnd G; obtain ⟨t47, ht47, G⟩ := G
       obtain ⟨p_t47, c_t47, y_t47⟩ := sl_get h_x33 ht47
       have P48 := ptr_of (en := enSl) (l := L_x33) (ns_of (H.at (K := nsK 22 37 2 en_TInterval p_x33 L_x33.length c_x33 L_x33 L_x33) 900060 (by kernel_rfl))).row.2 enSl_len
       replace G := gd G; obtain ⟨b49, G⟩ := G
       replace G := bnd G; obtain ⟨t50, ht50, G⟩ := G
       obtain ⟨p_t50, c_t50, y_t50⟩ := sl_get h_x33 ht50
       replace G := gd G; obtain ⟨b51, G⟩ := G
       replace G := bnd G; obtain ⟨t52, ht52, G⟩ := G
       obtain ⟨p_t52, c_t52, y_t52⟩ := sl_get h_x33 ht52
       replace G := gd G; obtain ⟨b53, G⟩ := G
       replace G := bnd G; obtain ⟨t54, ht54, G⟩ := G
       obtain ⟨p_t54, c_t54, y_t54⟩ := sl_get (map_set h_x33 x34.toNat (⟨p_t47, c_t47, t47⟩ : Sl TInterval)) ht54
       refine k_rg mixed H (.v 48 (.slice p_x33 L_x33.length c_x33) <|
   .v 49 (vI x34) <|
   .v 50 (.slice p_x33 L_x33.length c_x33) <|
   .v 51 (vI t42) <|
   .v 52 (.slice p_x33 L_x33.length c_x33) <|
   .v 53 (vI t42) <|
   .cons [54] (ok_val (fun u45 => .pointer (some ⟨hdB p_x33, hdO p_x33 + t42.toNat * 1, none⟩)) 54 (hv := fun _ _ => ix_pure (t := 27) (k := .i64) (i := t42) (p := p_x33) (n := L_x33.length) (cap := c_x33) (x := x33) P48 (map_len h_x33) b46 (by kernel_rfl))) <|
   .cons [55] (ok_valL [900060] (fun u45 => [nsK 22 37 2 en_TInterval p_x33 L_x33.length c_x33 L_x33 L_x33]) (fun u45 => .slice p_t47 t47.length c_t47) (fun u45 => true) [true] 55 (fun u45 w hg hF => ld_row (en := enSl) (ns_of hF.1).row.2 enSl_len y_t47 0 1 [.slice p_t47 t47.length c_t47] rfl (by kernel_rfl))) <|
   .v 56 (.slice p_x33 L_x33.length c_x33) <|
   .v 57 (vI x34) <|
   .cons [58] (ok_val (fun u45 => .pointer (some ⟨hdB p_x33, hdO p_x33 + x34.toNat * 1, none⟩)) 58 (hv := fun _ _ => ix_pure (t := 27) (k := .i64) (i := x34) (p := p_x33) (n := L_x33.length) (cap := c_x33) (x := x33) P48 (map_len h_x33) b49 (by kernel_rfl))) <|
   .cons [59] (ok_valL [900060] (fun u45 => [nsK 22 37 2 en_TInterval p_x33 L_x33.length c_x33 L_x33 L_x33]) (fun u45 => .slice p_t50 t50.length c_t50) (fun u45 => true) [true] 59 (fun u45 w hg hF => ld_row (en := enSl) (ns_of hF.1).row.2 enSl_len y_t50 0 1 [.slice p_t50 t50.length c_t50] rfl (by kernel_rfl))) <|
   .cons [60] (ok_val (fun u45 => .pointer (some ⟨hdB p_x33, hdO p_x33 + x34.toNat * 1, none⟩)) 60 (hv := fun _ _ => ix_pure (t := 27) (k := .i64) (i := x34) (p := p_x33) (n := L_x33.length) (cap := c_x33) (x := x33) P48 (map_len h_x33) b51 (by kernel_rfl))) <|
   .cons [900060, 900060] (ok_own1 [] [] (fun u45 => []) 900060 (fun u45 => nsK 22 37 2 en_TInterval p_x33 L_x33.length c_x33 L_x33 L_x33) none (fun u45 g => .nilFunc) (fun u45 g => nsK 22 37 2 en_TInterval p_x33 L_x33.length c_x33 (L_x33.set x34.toNat (⟨p_t47, c_t47, t47⟩ : Sl TInterval)) L_x33) (fun u45 w hF hK => tn_hd hK (fun h => el_storeN (en := enSl) h enSl_len (y := (⟨p_t47, c_t47, t47⟩ : Sl TInterval)) (vs := [.slice p_t47 t47.length c_t47]) y_t52 0 (by simp) (by simp) rfl (by kernel_rfl)))) <|
   .cons [61] (ok_valL [900060] (fun u45 => [nsK 22 37 2 en_TInterval p_x33 L_x33.length c_x33 (L_x33.set x34.toNat (⟨p_t47, c_t47, t47⟩ : Sl TInterval)) L_x33]) (fun u45 => .pointer (some ⟨hdB p_x33, hdO p_x33 + t42.toNat * 1, none⟩)) (fun u45 => true) [true, true] 61 (fun u45 w hg hF => ix_row (t := 27) (k := .i64) (i := t42) (p := p_x33) (n := L_x33.length) (cap := c_x33) (x := (x33.set x34.toNat t47)) (en := enSl) (ns_of hF.1).row.2 enSl_len (map_len (map_set h_x33 x34.toNat (⟨p_t47, c_t47, t47⟩ : Sl TInterval))) b53 (by kernel_rfl))) <|
   .cons [900060, 900060] (ok_own1 [] [] (fun u45 => []) 900060 (fun u45 => nsK 22 37 2 en_TInterval p_x33 L_x33.length c_x33 (L_x33.set x34.toNat (⟨p_t47, c_t47, t47⟩ : Sl TInterval)) L_x33) none (fun u45 g => .nilFunc) (fun u45 g => nsK 22 37 2 en_TInterval p_x33 L_x33.length c_x33 ((L_x33.set x34.toNat (⟨p_t47, c_t47, t47⟩ : Sl TInterval)).set t42.toNat (⟨p_t50, c_t50, t50⟩ : Sl TInterval)) ((L_x33.set x34.toNat (⟨p_t47, c_t47, t47⟩ : Sl TInterval)).set t42.toNat (⟨p_t50, c_t50, t50⟩ : Sl TInterval))) (fun u45 w hF hK => tn_swap (L := L_x33) (b := (⟨p_t47, c_t47, t47⟩ : Sl TInterval)) (a := (⟨p_t50, c_t50, t50⟩ : Sl TInterval)) hK y_t50 y_t47 (fun h => el_storeN (en := enSl) h enSl_len (y := (⟨p_t50, c_t50, t50⟩ : Sl TInterval)) (vs := [.slice p_t50 t50.length c_t50]) y_t54 0 (by simp) (by simp) rfl (by kernel_rfl)))) <| .nil) fun u45 a w' H => ?_
       replace H := H.kp [4, 5, 8, 39, 40, 900060, 999999]
       refine k_seq ?_
       replace G := gd G; obtain ⟨b56, G⟩ := G
       replace G := bnd G; obtain ⟨t57, ht57, G⟩ := G
       obtain ⟨p_t57, c_t57, y_t57⟩ := sl_get (map_set (map_set h_x33 x34.toNat (⟨p_t47, c_t47, t47⟩ : Sl TInterval)) t42.toNat (⟨p_t50, c_t50, t50⟩ : Sl TInterval)) ht57
       replace G := gd G; obtain ⟨b58, G⟩ := G
       replace G := bnd G; obtain ⟨t59, ht59, G⟩ := G
       refine k_rg mixed H (.v 62 (.slice p_x33 L_x33.length c_x33) <|
   .v 63 (vI x34) <|
   .cons [64] (ok_valL [900060] (fun u55 => [nsK 22 37 2 en_TInterval p_x33 L_x33.length c_x33 ((L_x33.set x34.toNat (⟨p_t47, c_t47, t47⟩ : Sl TInterval)).set t42.toNat (⟨p_t50, c_t50, t50⟩ : Sl TInterval)) ((L_x33.set x34.toNat (⟨p_t47, c_t47, t47⟩ : Sl TInterval)).set t42.toNat (⟨p_t50, c_t50, t50⟩ : Sl TInterval))]) (fun u55 => .pointer (some ⟨hdB p_x33, hdO p_x33 + x34.toNat * 1, none⟩)) (fun u55 => true) [true, true] 64 (fun u55 w hg hF => ix_row (t := 27) (k := .i64) (i := x34) (p := p_x33) (n := L_x33.length) (cap := c_x33) (x := ((x33.set x34.toNat t47).set t42.toNat t50)) (en := enSl) (ns_of hF.1).row.2 enSl_len (map_len (map_set (map_set h_x33 x34.toNat (⟨p_t47, c_t47, t47⟩ : Sl TInterval)) t42.toNat (⟨p_t50, c_t50, t50⟩ : Sl TInterval))) b56 (by kernel_rfl))) <|
   .cons [65] (ok_valL [900060] (fun u55 => [nsK 22 37 2 en_TInterval p_x33 L_x33.length c_x33 ((L_x33.set x34.toNat (⟨p_t47, c_t47, t47⟩ : Sl TInterval)).set t42.toNat (⟨p_t50, c_t50, t50⟩ : Sl TInterval)) ((L_x33.set x34.toNat (⟨p_t47, c_t47, t47⟩ : Sl TInterval)).set t42.toNat (⟨p_t50, c_t50, t50⟩ : Sl TInterval))]) (fun u55 => .slice p_t57 t57.length c_t57) (fun u55 => true) [true] 65 (fun u55 w hg hF => ld_row (en := enSl) (ns_of hF.1).row.2 enSl_len y_t57 0 1 [.slice p_t57 t57.length c_t57] rfl (by kernel_rfl))) <|
   .v 66 (vI x34) <|
   .cons [67] (ok_valL [900060] (fun u55 => [nsK 22 37 2 en_TInterval p_x33 L_x33.length c_x33 ((L_x33.set x34.toNat (⟨p_t47, c_t47, t47⟩ : Sl TInterval)).set t42.toNat (⟨p_t50, c_t50, t50⟩ : Sl TInterval)) ((L_x33.set x34.toNat (⟨p_t47, c_t47, t47⟩ : Sl TInterval)).set t42.toNat (⟨p_t50, c_t50, t50⟩ : Sl TInterval))]) (fun u55 => .pointer (some ⟨hdB p_t57, hdO p_t57 + x34.toNat * 2, none⟩)) (fun u55 => true) [true, true] 67 (fun u55 w hg hF => ix_row (t := 22) (k := .i64) (i := x34) (p := p_t57) (n := t57.length) (cap := c_t57) (x := t57) (en := en_TInterval) ((ns_of hF.1).one y_t57).2 en_TInterval_len rfl b58 (by kernel_rfl))) <|
   .cons [68] (ok_valL [900060] (fun u55 => [nsK 22 37 2 en_TInterval p_x33 L_x33.length c_x33 ((L_x33.set x34.toNat (⟨p_t47, c_t47, t47⟩ : Sl TInterval)).set t42.toNat (⟨p_t50, c_t50, t50⟩ : Sl TInterval)) ((L_x33.set x34.toNat (⟨p_t47, c_t47, t47⟩ : Sl TInterval)).set t42.toNat (⟨p_t50, c_t50, t50⟩ : Sl TInterval))]) (fun u55 => .agg #[vI t59.Lo, vI t59.Hi]) (fun u55 => true) [true] 68 (fun u55 w hg hF => ld_row (en := en_TInterval) ((ns_of hF.1).one y_t57).2 en_TInterval_len ht59 0 2 [vI t59.Lo, vI t59.Hi] rfl (by kernel_rfl))) <|
   .cons [10, 178] (ok_new (fun b => vP b 0) (fun u55 => [vI 0, vI 0]) 37 10 178) <|
   .cons [178] (ok_as (u' := fun u55 => [(178, .blk ((u55 7).n 0) [vI t59.Lo, vI t59.Hi] 37)]) (ok_store 178 0 (fun u55 => ((u55 7).n 0)) (fun u55 => [vI 0, vI 0]) (fun u55 => [vI t59.Lo, vI t59.Hi]) 37) (fun _ => by kernel_rfl)) <| .nil) fun u55 a w' H => ?_
       replace H := H.kp [4, 5, 8, 10, 39, 40, 178, 900060, 999999]
       refine k_seq ?_
       replace G := bnd G; obtain ⟨j61, hj61, G⟩ := G
       refine k_join (fun a w' => ∃ (p_j60 : Option Addr) (c_j60 np_j60 : Nat) (L_j60 : List (Sl TInterval)), np_j60 = L_j60.length ∧ j61 = L_j60.map Sl.l ∧ Rep w.heap.size w 161 (ofL [(4, (sI (a0.length : Int))), (5, sS p_j60 np_j60 c_j60), (8, sI x34), (39, (sI (a0.length : Int))), (40, sI x34), (900064, nsK 22 37 2 en_TInterval p_j60 np_j60 c_j60 L_j60 L_j60), (999999, gk)]) a w') ?_ ?_
       ·clear H; rintro a w' ⟨p_j60, c_j60, _, L_j60, rfl, h_j60, H⟩
        refine k_seq ?_
        refine k_rg mixed H (.v 93 (vI (a0.length : Int)) <|
   .v 94 (vI 0) <| .nil) fun u62 a w' H => ?_
        replace H := H.kp [4, 5, 8, 39, 40, 93, 94, 900064, 999999]
        refine k_block ?_
        replace H := H.move (K := nsK 22 37 2 en_TInterval p_j60 L_j60.length c_j60 L_j60 L_j60) 900064 900066 (by kernel_rfl) (by intro _ _ h; cases h)
        refine k_loopJ (fun m a w' => ∃ x63 : List (List TInterval), ∃ x64 : Int, matrix_Inverse.l65 k0 a0 j6 x33 x34 t42 t47 t50 t52 t54 t57 t59 j61 m x63 x64 = some j38 ∧ ∃ (p_x63 : Option Addr) (c_x63 np_x63 : Nat) (L_x63 : List (Sl TInterval)), np_x63 = L_x63.length ∧ x63 = L_x63.map Sl.l ∧ Rep w.heap.size w 161 (ofL [(4, (sI (a0.length : Int))), (5, sS p_x63 np_x63 c_x63), (8, sI x34), (39, (sI (a0.length : Int))), (40, sI x34), (93, (sI (a0.length : Int))), (94, sI x64), (900066, nsK 22 37 2 en_TInterval p_x63 np_x63 c_x63 L_x63 L_x63), (999999, gk)]) a w') k0 ⟨_, _, G, p_j60, c_j60, L_j60.length, L_j60, rfl, h_j60, H.toL _ (by kernel_rfl)⟩ ?_
        clear G H
        rintro (_ | k) a w' ⟨x63, x64, G, p_x63, c_x63, _, L_x63, rfl, h_x63, H⟩
        ·exact absurd G (by unfold matrix_Inverse.l65; exact fun h => by cases h)
        ·unfold matrix_Inverse.l65 at G
         refine k_seq ?_
         refine k_rg mixed H (.v 95 (.bool (decide (x64 < (a0.length : Int)))) <| .nil) fun u66 a w' H => ?_
         replace H := H.kp [4, 5, 8, 39, 40, 93, 94, 95, 900066, 999999]
         refine k_seq ?_
         refine k_cond H (by kernel_rfl) (t := decide (x64 < (a0.length : Int))) (by kernel_rfl) (fun c107 => ?_) (fun c107 => ?_)
         ·rw [if_pos c107] at G
          refine k_skip ?_
          refine k_seq ?_
          replace G := bnd G; obtain ⟨j68, hj68, G⟩ := G
          refine k_join (fun a w' => ∃ (p_j67 : Option Addr) (c_j67 np_j67 : Nat) (L_j67 : List (Sl TInterval)), np_j67 = L_j67.length ∧ j68 = L_j67.map Sl.l ∧ Rep w.heap.size w 161 (ofL [(4, (sI (a0.length : Int))), (5, sS p_j67 np_j67 c_j67), (8, sI x34), (39, (sI (a0.length : Int))), (40, sI x34), (93, (sI (a0.length : Int))), (94, sI x64), (900068, nsK 22 37 2 en_TInterval p_j67 np_j67 c_j67 L_j67 L_j67), (999999, gk)]) a w') ?_ ?_
          ·clear H; rintro a w' ⟨p_j67, c_j67, _, L_j67, rfl, h_j67, H⟩
           refine k_rg mixed H (.v 139 (vI (w_i64 (x64 + 1))) <|
   .v 94 (vI (w_i64 (x64 + 1))) <| .nil) fun u69 a w' H => ?_
           replace H := H.kp [4, 5, 8, 39, 40, 93, 94, 900068, 999999]
           replace H := H.move (K := nsK 22 37 2 en_TInterval p_j67 L_j67.length c_j67 L_j67 L_j67) 900068 900066 (by kernel_rfl) (by intro _ _ h; cases h)
           exact ⟨k, Nat.lt_succ_self k, _, _, G, p_j67, c_j67, L_j67.length, L_j67, rfl, h_j67, H.toL _ (by kernel_rfl)⟩
          ·clear G; replace G := hj68; clear hj68
           refine k_block ?_
           refine k_seq ?_
           refine k_rg mixed H (.v 96 (vI x64) <|
   .v 12 (vI x64) <| .nil) fun u70 a w' H => ?_
           replace H := H.kp [4, 5, 8, 12, 39, 40, 93, 94, 900066, 999999]
           refine k_seq ?_
           refine k_seq ?_
           refine k_rg mixed H (.v 97 (vI x64) <|
   .v 98 (vI x34) <|
   .v 99 (.bool (x64 == x34)) <| .nil) fun u71 a w' H => ?_
           replace H := H.kp [4, 5, 8, 12, 39, 40, 93, 94, 99, 900066, 999999]
           refine k_cond H (by kernel_rfl) (t := (x64 == x34)) (by kernel_rfl) (fun c106 => ?_) (fun c106 => ?_)
           ·rw [if_pos c106] at G
            refine k_exit rfl ?_
            obtain rfl := Option.some.inj G
            replace H := H.move (K := nsK 22 37 2 en_TInterval p_x63 L_x63.length c_x63 L_x63 L_x63) 900066 900068 (by kernel_rfl) (by intro _ _ h; cases h)
            exact ⟨p_x63, c_x63, L_x63.length, L_x63, rfl, h_x63, H.toL _ (by kernel_rfl)⟩
           ·rw [if_neg (nt c106)] at G
            refine k_skip ?_
            refine k_seq ?_
            replace G := gd G; obtain ⟨b73, G⟩ := G
            replace G := bnd G; obtain ⟨t74, ht74, G⟩ := G
            obtain ⟨p_t74, c_t74, y_t74⟩ := sl_get h_x63 ht74
            replace G := gd G; obtain ⟨b75, G⟩ := G
            replace G := bnd G; obtain ⟨t76, ht76, G⟩ := G
            refine k_rg mixed H (.v 100 (.slice p_x63 L_x63.length c_x63) <|
   .v 101 (vI x64) <|
   .cons [102] (ok_valL [900066] (fun u72 => [nsK 22 37 2 en_TInterval p_x63 L_x63.length c_x63 L_x63 L_x63]) (fun u72 => .pointer (some ⟨hdB p_x63, hdO p_x63 + x64.toNat * 1, none⟩)) (fun u72 => true) [true, true] 102 (fun u72 w hg hF => ix_row (t := 27) (k := .i64) (i := x64) (p := p_x63) (n := L_x63.length) (cap := c_x63) (x := x63) (en := enSl) (ns_of hF.1).row.2 enSl_len (map_len h_x63) b73 (by kernel_rfl))) <|
   .cons [103] (ok_valL [900066] (fun u72 => [nsK 22 37 2 en_TInterval p_x63 L_x63.length c_x63 L_x63 L_x63]) (fun u72 => .slice p_t74 t74.length c_t74) (fun u72 => true) [true] 103 (fun u72 w hg hF => ld_row (en := enSl) (ns_of hF.1).row.2 enSl_len y_t74 0 1 [.slice p_t74 t74.length c_t74] rfl (by kernel_rfl))) <|
   .v 104 (vI x34) <|
   .cons [105] (ok_valL [900066] (fun u72 => [nsK 22 37 2 en_TInterval p_x63 L_x63.length c_x63 L_x63 L_x63]) (fun u72 => .pointer (some ⟨hdB p_t74, hdO p_t74 + x34.toNat * 2, none⟩)) (fun u72 => true) [true, true] 105 (fun u72 w hg hF => ix_row (t := 22) (k := .i64) (i := x34) (p := p_t74) (n := t74.length) (cap := c_t74) (x := t74) (en := en_TInterval) ((ns_of hF.1).one y_t74).2 en_TInterval_len rfl b75 (by kernel_rfl))) <|
   .cons [106] (ok_valL [900066] (fun u72 => [nsK 22 37 2 en_TInterval p_x63 L_x63.length c_x63 L_x63 L_x63]) (fun u72 => .agg #[vI t76.Lo, vI t76.Hi]) (fun u72 => true) [true] 106 (fun u72 w hg hF => ld_row (en := en_TInterval) ((ns_of hF.1).one y_t74).2 en_TInterval_len ht76 0 2 [vI t76.Lo, vI t76.Hi] rfl (by kernel_rfl))) <|
   .cons [13, 183] (ok_new (fun b => vP b 0) (fun u72 => [vI 0, vI 0]) 37 13 183) <|
   .cons [183] (ok_as (u' := fun u72 => [(183, .blk ((u72 7).n 0) [vI t76.Lo, vI t76.Hi] 37)]) (ok_store 183 0 (fun u72 => ((u72 7).n 0)) (fun u72 => [vI 0, vI 0]) (fun u72 => [vI t76.Lo, vI t76.Hi]) 37) (fun _ => by kernel_rfl)) <| .nil) fun u72 a w' H => ?_
            replace H := H.kp [4, 5, 8, 12, 13, 39, 40, 93, 94, 183, 900066, 999999]
            refine k_seq ?_
            replace G := gd G; obtain ⟨b78, G⟩ := G
            replace G := bnd G; obtain ⟨t79, ht79, G⟩ := G
            obtain ⟨p_t79, c_t79, y_t79⟩ := sl_get h_x63 ht79
            refine k_rg mixed H (.v 107 (.slice p_x63 L_x63.length c_x63) <|
   .v 108 (vI x64) <|
   .cons [109] (ok_valL [900066] (fun u77 => [nsK 22 37 2 en_TInterval p_x63 L_x63.length c_x63 L_x63 L_x63]) (fun u77 => .pointer (some ⟨hdB p_x63, hdO p_x63 + x64.toNat * 1, none⟩)) (fun u77 => true) [true, true] 109 (fun u77 w hg hF => ix_row (t := 27) (k := .i64) (i := x64) (p := p_x63) (n := L_x63.length) (cap := c_x63) (x := x63) (en := enSl) (ns_of hF.1).row.2 enSl_len (map_len h_x63) b78 (by kernel_rfl))) <|
   .cons [110] (ok_valL [900066] (fun u77 => [nsK 22 37 2 en_TInterval p_x63 L_x63.length c_x63 L_x63 L_x63]) (fun u77 => .slice p_t79 t79.length c_t79) (fun u77 => true) [true] 110 (fun u77 w hg hF => ld_row (en := enSl) (ns_of hF.1).row.2 enSl_len y_t79 0 1 [.slice p_t79 t79.length c_t79] rfl (by kernel_rfl))) <|
   .v 111 (vI (t79.length : Int)) <|
   .v 112 (vI 0) <| .nil) fun u77 a w' H => ?_
            replace H := H.kp [4, 5, 8, 12, 13, 39, 40, 93, 94, 111, 112, 183, 900066, 999999]
            refine k_block ?_
            replace H := H.move (K := nsK 22 37 2 en_TInterval p_x63 L_x63.length c_x63 L_x63 L_x63) 900066 900070 (by kernel_rfl) (by intro _ _ h; cases h)
            refine k_loopJ (fun m a w' => ∃ x80 : List (List TInterval), ∃ x81 : Int, matrix_Inverse.l82 k0 a0 j6 x33 x34 t42 t47 t50 t52 t54 t57 t59 j61 x63 x64 t74 t76 t79 m x80 x81 = some j68 ∧ ∃ (p_x80 : Option Addr) (c_x80 np_x80 : Nat) (L_x80 : List (Sl TInterval)), np_x80 = L_x80.length ∧ x80 = L_x80.map Sl.l ∧ Rep w.heap.size w 161 (ofL [(4, (sI (a0.length : Int))), (5, sS p_x80 np_x80 c_x80), (8, sI x34), (12, sI x64), (13, (sP ((u72 7).n 0) 0)), (39, (sI (a0.length : Int))), (40, sI x34), (93, (sI (a0.length : Int))), (94, sI x64), (111, (sI (t79.length : Int))), (112, sI x81), (183, .blk ((u72 7).n 0) [vI t76.Lo, vI t76.Hi] 37), (900070, nsK 22 37 2 en_TInterval p_x80 np_x80 c_x80 L_x80 L_x80), (999999, gk)]) a w') k0 ⟨_, _, G, p_x63, c_x63, L_x63.length, L_x63, rfl, h_x63, H.toL _ (by kernel_rfl)⟩ ?_
            clear G H
            rintro (_ | k) a w' ⟨x80, x81, G, p_x80, c_x80, _, L_x80, rfl, h_x80, H⟩
            ·exact absurd G (by unfold matrix_Inverse.l82; exact fun h => by cases h)
            ·unfold matrix_Inverse.l82 at G
             refine k_seq ?_
             refine k_rg mixed H (.v 113 (.bool (decide (x81 < (t79.length : Int)))) <| .nil) fun u83 a w' H => ?_
             replace H := H.kp [4, 5, 8, 12, 13, 39, 40, 93, 94, 111, 112, 113, 183, 900070, 999999]
             refine k_seq ?_
             refine k_cond H (by kernel_rfl) (t := decide (x81 < (t79.length : Int))) (by kernel_rfl) (fun c105 => ?_) (fun c105 => ?_)
             ·rw [if_pos c105] at G
              refine k_skip ?_
              refine k_seq ?_
              refine k_block ?_
              refine k_seq ?_
              refine k_rg mixed H (.v 114 (vI x81) <|
   .v 14 (vI x81) <| .nil) fun u84 a w' H => ?_
              replace H := H.kp [4, 5, 8, 12, 13, 14, 39, 40, 93, 94, 111, 112, 183, 900070, 999999]
              replace G := gd G; obtain ⟨b86, G⟩ := G
              replace G := bnd G; obtain ⟨t87, ht87, G⟩ := G
              obtain ⟨p_t87, c_t87, y_t87⟩ := sl_get h_x80 ht87
              have P88 := ptr_of (en := enSl) (l := L_x80) (ns_of (H.at (K := nsK 22 37 2 en_TInterval p_x80 L_x80.length c_x80 L_x80 L_x80) 900070 (by kernel_rfl))).row.2 enSl_len
              replace G := gd G; obtain ⟨b89, G⟩ := G
              replace G := bnd G; obtain ⟨t90, ht90, G⟩ := G
              obtain ⟨p_t90, c_t90, y_t90⟩ := sl_get h_x80 ht90
              replace G := gd G; obtain ⟨b91, G⟩ := G
              replace G := bnd G; obtain ⟨t92, ht92, G⟩ := G
              have P93 := ptr_of (en := en_TInterval) (l := t90) ((ns_of (H.at (K := nsK 22 37 2 en_TInterval p_x80 L_x80.length c_x80 L_x80 L_x80) 900070 (by kernel_rfl))).one y_t90).2 en_TInterval_len
              replace G := gd G; obtain ⟨b94, G⟩ := G
              replace G := bnd G; obtain ⟨t95, ht95, G⟩ := G
              obtain ⟨p_t95, c_t95, y_t95⟩ := sl_get h_x80 ht95
              replace G := gd G; obtain ⟨b96, G⟩ := G
              replace G := bnd G; obtain ⟨t97, ht97, G⟩ := G
              have P98 := ptr_of (en := en_TInterval) (l := t95) ((ns_of (H.at (K := nsK 22 37 2 en_TInterval p_x80 L_x80.length c_x80 L_x80 L_x80) 900070 (by kernel_rfl))).one y_t95).2 en_TInterval_len
              replace G := bnd G; obtain ⟨t99, ht99, G⟩ := G
              replace G := bnd G; obtain ⟨t100, ht100, G⟩ := G
              replace G := gd G; obtain ⟨b101, G⟩ := G
              replace G := bnd G; obtain ⟨t102, ht102, G⟩ := G
              have P103 := ptr_of (en := en_TInterval) (l := t87) ((ns_of (H.at (K := nsK 22 37 2 en_TInterval p_x80 L_x80.length c_x80 L_x80 L_x80) 900070 (by kernel_rfl))).one y_t87).2 en_TInterval_len
              refine k_rg mixed H (.v 115 (.slice p_x80 L_x80.length c_x80) <|
   .v 116 (vI x64) <|
   .cons [117] (ok_val (fun u85 => .pointer (some ⟨hdB p_x80, hdO p_x80 + x64.toNat * 1, none⟩)) 117 (hv := fun _ _ => ix_pure (t := 27) (k := .i64) (i := x64) (p := p_x80) (n := L_x80.length) (cap := c_x80) (x := x80) P88 (map_len h_x80) b86 (by kernel_rfl))) <|
   .cons [118] (ok_valL [900070] (fun u85 => [nsK 22 37 2 en_TInterval p_x80 L_x80.length c_x80 L_x80 L_x80]) (fun u85 => .slice p_t87 t87.length c_t87) (fun u85 => true) [true] 118 (fun u85 w hg hF => ld_row (en := enSl) (ns_of hF.1).row.2 enSl_len y_t87 0 1 [.slice p_t87 t87.length c_t87] rfl (by kernel_rfl))) <|
   .v 119 (vI x81) <|
   .v 120 (.slice p_x80 L_x80.length c_x80) <|
   .v 121 (vI x64) <|
   .cons [122] (ok_val (fun u85 => .pointer (some ⟨hdB p_x80, hdO p_x80 + x64.toNat * 1, none⟩)) 122 (hv := fun _ _ => ix_pure (t := 27) (k := .i64) (i := x64) (p := p_x80) (n := L_x80.length) (cap := c_x80) (x := x80) P88 (map_len h_x80) b89 (by kernel_rfl))) <|
   .cons [123] (ok_valL [900070] (fun u85 => [nsK 22 37 2 en_TInterval p_x80 L_x80.length c_x80 L_x80 L_x80]) (fun u85 => .slice p_t90 t90.length c_t90) (fun u85 => true) [true] 123 (fun u85 w hg hF => ld_row (en := enSl) (ns_of hF.1).row.2 enSl_len y_t90 0 1 [.slice p_t90 t90.length c_t90] rfl (by kernel_rfl))) <|
   .v 124 (vI x81) <|
   .cons [125] (ok_val (fun u85 => .pointer (some ⟨hdB p_t90, hdO p_t90 + x81.toNat * 2, none⟩)) 125 (hv := fun _ _ => ix_pure (t := 22) (k := .i64) (i := x81) (p := p_t90) (n := t90.length) (cap := c_t90) (x := t90) P93 rfl b91 (by kernel_rfl))) <|
   .cons [126] (ok_valL [900070] (fun u85 => [nsK 22 37 2 en_TInterval p_x80 L_x80.length c_x80 L_x80 L_x80]) (fun u85 => .agg #[vI t92.Lo, vI t92.Hi]) (fun u85 => true) [true] 126 (fun u85 w hg hF => ld_row (en := en_TInterval) ((ns_of hF.1).one y_t90).2 en_TInterval_len ht92 0 2 [vI t92.Lo, vI t92.Hi] rfl (by kernel_rfl))) <|
   .cons [127] (ok_ld (fun u85 => .agg #[vI t76.Lo, vI t76.Hi]) 127 183 0 2 (fun u85 => ((u72 7).n 0)) (fun u85 => [vI t76.Lo, vI t76.Hi]) 37) <|
   .v 128 (.slice p_x80 L_x80.length c_x80) <|
   .v 129 (vI x34) <|
   .cons [130] (ok_val (fun u85 => .pointer (some ⟨hdB p_x80, hdO p_x80 + x34.toNat * 1, none⟩)) 130 (hv := fun _ _ => ix_pure (t := 27) (k := .i64) (i := x34) (p := p_x80) (n := L_x80.length) (cap := c_x80) (x := x80) P88 (map_len h_x80) b94 (by kernel_rfl))) <|
   .cons [131] (ok_valL [900070] (fun u85 => [nsK 22 37 2 en_TInterval p_x80 L_x80.length c_x80 L_x80 L_x80]) (fun u85 => .slice p_t95 t95.length c_t95) (fun u85 => true) [true] 131 (fun u85 w hg hF => ld_row (en := enSl) (ns_of hF.1).row.2 enSl_len y_t95 0 1 [.slice p_t95 t95.length c_t95] rfl (by kernel_rfl))) <|
   .v 132 (vI x81) <|
   .cons [133] (ok_val (fun u85 => .pointer (some ⟨hdB p_t95, hdO p_t95 + x81.toNat * 2, none⟩)) 133 (hv := fun _ _ => ix_pure (t := 22) (k := .i64) (i := x81) (p := p_t95) (n := t95.length) (cap := c_t95) (x := t95) P98 rfl b96 (by kernel_rfl))) <|
   .cons [134] (ok_valL [900070] (fun u85 => [nsK 22 37 2 en_TInterval p_x80 L_x80.length c_x80 L_x80 L_x80]) (fun u85 => .agg #[vI t97.Lo, vI t97.Hi]) (fun u85 => true) [true] 134 (fun u85 w hg hF => ld_row (en := en_TInterval) ((ns_of hF.1).one y_t95).2 en_TInterval_len ht97 0 2 [vI t97.Lo, vI t97.Hi] rfl (by kernel_rfl))) <|
   .cons [135] (ok_callL [999999] (fun u85 => [gk]) 74 (fun u85 => #[.agg #[vI t76.Lo, vI t76.Hi], .agg #[vI t97.Lo, vI t97.Hi]]) (.agg #[vI t99.Lo, vI t99.Hi]) 135 (fun u85 w hF => interval_Mul.calls t76 t97  t99 w  (glob_of hF.1) ht99)) <|
   .cons [136] (ok_callv 73 (fun u85 => #[.agg #[vI t92.Lo, vI t92.Hi], .agg #[vI t99.Lo, vI t99.Hi]]) (.agg #[vI t100.Lo, vI t100.Hi]) 136 [] (fun u85 w _ => interval_Sub.calls t92 t99  t100 w  ht100)) <|
   .cons [137] (ok_val (fun u85 => .pointer (some ⟨hdB p_t87, hdO p_t87 + x81.toNat * 2, none⟩)) 137 (hv := fun _ _ => ix_pure (t := 22) (k := .i64) (i := x81) (p := p_t87) (n := t87.length) (cap := c_t87) (x := t87) P103 rfl b101 (by kernel_rfl))) <|
   .cons [900070, 900070] (ok_own1 [] [] (fun u85 => []) 900070 (fun u85 => nsK 22 37 2 en_TInterval p_x80 L_x80.length c_x80 L_x80 L_x80) none (fun u85 g => .nilFunc) (fun u85 g => nsK 22 37 2 en_TInterval p_x80 L_x80.length c_x80 (L_x80.set x64.toNat ⟨p_t87, c_t87, (t87.set x81.toNat t100)⟩) (L_x80.set x64.toNat ⟨p_t87, c_t87, (t87.set x81.toNat t100)⟩)) (fun u85 w hF hK => tn_el hK y_t87 (j := x81.toNat) (y := t100) (fun h => el_storeN h en_TInterval_len (vs := [vI t100.Lo, vI t100.Hi]) ht102 0 (by simp) (by simp) rfl (by kernel_rfl)))) <| .nil) fun u85 a w' H => ?_
              replace H := H.kp [4, 5, 8, 12, 13, 39, 40, 93, 94, 111, 112, 183, 900070, 999999]
              refine k_rg mixed H (.v 138 (vI (w_i64 (x81 + 1))) <|
   .v 112 (vI (w_i64 (x81 + 1))) <| .nil) fun u104 a w' H => ?_
              replace H := H.kp [4, 5, 8, 12, 13, 39, 40, 93, 94, 111, 112, 183, 900070, 999999]
              exact ⟨k, Nat.lt_succ_self k, _, _, G, p_x80, c_x80, L_x80.length, (L_x80.set x64.toNat ⟨p_t87, c_t87, (t87.set x81.toNat t100)⟩), by simp, (map_set h_x80 x64.toNat (⟨p_t87, c_t87, (t87.set x81.toNat t100)⟩ : Sl TInterval)), H.toL _ (by kernel_rfl)⟩
             ·rw [if_neg (nt c105)] at G
              refine k_exit rfl ?_
              obtain rfl := Option.some.inj G
              replace H := H.move (K := nsK 22 37 2 en_TInterval p_x80 L_x80.length c_x80 L_x80 L_x80) 900070 900068 (by kernel_rfl) (by intro _ _ h; cases h)
              exact ⟨p_x80, c_x80, L_x80.length, L_x80, rfl, h_x80, H.toL _ (by kernel_rfl)⟩
         ·rw [if_neg (nt c107)] at G
          refine k_exit rfl ?_
          obtain rfl := Option.some.inj G
          replace H := H.move (K := nsK 22 37 2 en_TInterval p_x63 L_x63.length c_x63 L_x63 L_x63) 900066 900062 (by kernel_rfl) (by intro _ _ h; cases h)
          exact ⟨_, rfl, p_x63, c_x63, L_x63.length, L_x63, rfl, h_x63, H.toL _ (by kernel_rfl)⟩
       ·clear G; replace G := hj61; clear hj61
        refine k_seq ?_
        replace G := gd G; obtain ⟨b109, G⟩ := G
        replace G := bnd G; obtain ⟨t110, ht110, G⟩ := G
        obtain ⟨p_t110, c_t110, y_t110⟩ := sl_get (map_set (map_set h_x33 x34.toNat (⟨p_t47, c_t47, t47⟩ : Sl TInterval)) t42.toNat (⟨p_t50, c_t50, t50⟩ : Sl TInterval)) ht110
        refine k_rg mixed H (.v 69 (.slice p_x33 L_x33.length c_x33) <|
   .v 70 (vI x34) <|
   .cons [71] (ok_valL [900060] (fun u108 => [nsK 22 37 2 en_TInterval p_x33 L_x33.length c_x33 ((L_x33.set x34.toNat (⟨p_t47, c_t47, t47⟩ : Sl TInterval)).set t42.toNat (⟨p_t50, c_t50, t50⟩ : Sl TInterval)) ((L_x33.set x34.toNat (⟨p_t47, c_t47, t47⟩ : Sl TInterval)).set t42.toNat (⟨p_t50, c_t50, t50⟩ : Sl TInterval))]) (fun u108 => .pointer (some ⟨hdB p_x33, hdO p_x33 + x34.toNat * 1, none⟩)) (fun u108 => true) [true, true] 71 (fun u108 w hg hF => ix_row (t := 27) (k := .i64) (i := x34) (p := p_x33) (n := L_x33.length) (cap := c_x33) (x := ((x33.set x34.toNat t47).set t42.toNat t50)) (en := enSl) (ns_of hF.1).row.2 enSl_len (map_len (map_set (map_set h_x33 x34.toNat (⟨p_t47, c_t47, t47⟩ : Sl TInterval)) t42.toNat (⟨p_t50, c_t50, t50⟩ : Sl TInterval))) b109 (by kernel_rfl))) <|
   .cons [72] (ok_valL [900060] (fun u108 => [nsK 22 37 2 en_TInterval p_x33 L_x33.length c_x33 ((L_x33.set x34.toNat (⟨p_t47, c_t47, t47⟩ : Sl TInterval)).set t42.toNat (⟨p_t50, c_t50, t50⟩ : Sl TInterval)) ((L_x33.set x34.toNat (⟨p_t47, c_t47, t47⟩ : Sl TInterval)).set t42.toNat (⟨p_t50, c_t50, t50⟩ : Sl TInterval))]) (fun u108 => .slice p_t110 t110.length c_t110) (fun u108 => true) [true] 72 (fun u108 w hg hF => ld_row (en := enSl) (ns_of hF.1).row.2 enSl_len y_t110 0 1 [.slice p_t110 t110.length c_t110] rfl (by kernel_rfl))) <|
   .v 73 (vI (t110.length : Int)) <|
   .v 74 (vI 0) <| .nil) fun u108 a w' H => ?_
        replace H := H.kp [4, 5, 8, 10, 39, 40, 73, 74, 178, 900060, 999999]
        refine k_block ?_
        replace H := H.move (K := nsK 22 37 2 en_TInterval p_x33 L_x33.length c_x33 ((L_x33.set x34.toNat (⟨p_t47, c_t47, t47⟩ : Sl TInterval)).set t42.toNat (⟨p_t50, c_t50, t50⟩ : Sl TInterval)) ((L_x33.set x34.toNat (⟨p_t47, c_t47, t47⟩ : Sl TInterval)).set t42.toNat (⟨p_t50, c_t50, t50⟩ : Sl TInterval))) 900060 900072 (by kernel_rfl) (by intro _ _ h; cases h)
        refine k_loopJ (fun m a w' => ∃ x111 : List (List TInterval), ∃ x112 : Int, matrix_Inverse.l113 k0 a0 j6 x33 x34 t42 t47 t50 t52 t54 t57 t59 t110 m x111 x112 = some j61 ∧ ∃ (p_x111 : Option Addr) (c_x111 np_x111 : Nat) (L_x111 : List (Sl TInterval)), np_x111 = L_x111.length ∧ x111 = L_x111.map Sl.l ∧ Rep w.heap.size w 161 (ofL [(4, (sI (a0.length : Int))), (5, sS p_x111 np_x111 c_x111), (8, sI x34), (10, (sP ((u55 7).n 0) 0)), (39, (sI (a0.length : Int))), (40, sI x34), (73, (sI (t110.length : Int))), (74, sI x112), (178, .blk ((u55 7).n 0) [vI t59.Lo, vI t59.Hi] 37), (900072, nsK 22 37 2 en_TInterval p_x111 np_x111 c_x111 L_x111 L_x111), (999999, gk)]) a w') k0 ⟨_, _, G, p_x33, c_x33, L_x33.length, ((L_x33.set x34.toNat (⟨p_t47, c_t47, t47⟩ : Sl TInterval)).set t42.toNat (⟨p_t50, c_t50, t50⟩ : Sl TInterval)), by simp, (map_set (map_set h_x33 x34.toNat (⟨p_t47, c_t47, t47⟩ : Sl TInterval)) t42.toNat (⟨p_t50, c_t50, t50⟩ : Sl TInterval)), H.toL _ (by kernel_rfl)⟩ ?_
        clear G H
        rintro (_ | k) a w' ⟨x111, x112, G, p_x111, c_x111, _, L_x111, rfl, h_x111, H⟩
        ·exact absurd G (by unfold matrix_Inverse.l113; exact fun h => by cases h)
        ·unfold matrix_Inverse.l113 at G
         refine k_seq ?_
         refine k_rg mixed H (.v 75 (.bool (decide (x112 < (t110.length : Int)))) <| .nil) fun u114 a w' H => ?_
         replace H := H.kp [4, 5, 8, 10, 39, 40, 73, 74, 75, 178, 900072, 999999]
         refine k_seq ?_
         refine k_cond H (by kernel_rfl) (t := decide (x112 < (t110.length : Int))) (by kernel_rfl) (fun c130 => ?_) (fun c130 => ?_)
         ·rw [if_pos c130] at G
          refine k_skip ?_
          refine k_seq ?_
          refine k_block ?_
          refine k_seq ?_
          refine k_rg mixed H (.v 76 (vI x112) <|
   .v 11 (vI x112) <| .nil) fun u115 a w' H => ?_
          replace H := H.kp [4, 5, 8, 10, 11, 39, 40, 73, 74, 178, 900072, 999999]
          replace G := gd G; obtain ⟨b117, G⟩ := G
          replace G := bnd G; obtain ⟨t118, ht118, G⟩ := G
          obtain ⟨p_t118, c_t118, y_t118⟩ := sl_get h_x111 ht118
          have P119 := ptr_of (en := enSl) (l := L_x111) (ns_of (H.at (K := nsK 22 37 2 en_TInterval p_x111 L_x111.length c_x111 L_x111 L_x111) 900072 (by kernel_rfl))).row.2 enSl_len
          replace G := gd G; obtain ⟨b120, G⟩ := G
          replace G := bnd G; obtain ⟨t121, ht121, G⟩ := G
          obtain ⟨p_t121, c_t121, y_t121⟩ := sl_get h_x111 ht121
          replace G := gd G; obtain ⟨b122, G⟩ := G
          replace G := bnd G; obtain ⟨t123, ht123, G⟩ := G
          have P124 := ptr_of (en := en_TInterval) (l := t121) ((ns_of (H.at (K := nsK 22 37 2 en_TInterval p_x111 L_x111.length c_x111 L_x111 L_x111) 900072 (by kernel_rfl))).one y_t121).2 en_TInterval_len
          replace G := bnd G; obtain ⟨t125, ht125, G⟩ := G
          replace G := gd G; obtain ⟨b126, G⟩ := G
          replace G := bnd G; obtain ⟨t127, ht127, G⟩ := G
          have P128 := ptr_of (en := en_TInterval) (l := t118) ((ns_of (H.at (K := nsK 22 37 2 en_TInterval p_x111 L_x111.length c_x111 L_x111 L_x111) 900072 (by kernel_rfl))).one y_t118).2 en_TInterval_len
          refine k_rg mixed H (.v 77 (.slice p_x111 L_x111.length c_x111) <|
   .v 78 (vI x34) <|
   .cons [79] (ok_val (fun u116 => .pointer (some ⟨hdB p_x111, hdO p_x111 + x34.toNat * 1, none⟩)) 79 (hv := fun _ _ => ix_pure (t := 27) (k := .i64) (i := x34) (p := p_x111) (n := L_x111.length) (cap := c_x111) (x := x111) P119 (map_len h_x111) b117 (by kernel_rfl))) <|
   .cons [80] (ok_valL [900072] (fun u116 => [nsK 22 37 2 en_TInterval p_x111 L_x111.length c_x111 L_x111 L_x111]) (fun u116 => .slice p_t118 t118.length c_t118) (fun u116 => true) [true] 80 (fun u116 w hg hF => ld_row (en := enSl) (ns_of hF.1).row.2 enSl_len y_t118 0 1 [.slice p_t118 t118.length c_t118] rfl (by kernel_rfl))) <|
   .v 81 (vI x112) <|
   .v 82 (.slice p_x111 L_x111.length c_x111) <|
   .v 83 (vI x34) <|
   .cons [84] (ok_val (fun u116 => .pointer (some ⟨hdB p_x111, hdO p_x111 + x34.toNat * 1, none⟩)) 84 (hv := fun _ _ => ix_pure (t := 27) (k := .i64) (i := x34) (p := p_x111) (n := L_x111.length) (cap := c_x111) (x := x111) P119 (map_len h_x111) b120 (by kernel_rfl))) <|
   .cons [85] (ok_valL [900072] (fun u116 => [nsK 22 37 2 en_TInterval p_x111 L_x111.length c_x111 L_x111 L_x111]) (fun u116 => .slice p_t121 t121.length c_t121) (fun u116 => true) [true] 85 (fun u116 w hg hF => ld_row (en := enSl) (ns_of hF.1).row.2 enSl_len y_t121 0 1 [.slice p_t121 t121.length c_t121] rfl (by kernel_rfl))) <|
   .v 86 (vI x112) <|
   .cons [87] (ok_val (fun u116 => .pointer (some ⟨hdB p_t121, hdO p_t121 + x112.toNat * 2, none⟩)) 87 (hv := fun _ _ => ix_pure (t := 22) (k := .i64) (i := x112) (p := p_t121) (n := t121.length) (cap := c_t121) (x := t121) P124 rfl b122 (by kernel_rfl))) <|
   .cons [88] (ok_valL [900072] (fun u116 => [nsK 22 37 2 en_TInterval p_x111 L_x111.length c_x111 L_x111 L_x111]) (fun u116 => .agg #[vI t123.Lo, vI t123.Hi]) (fun u116 => true) [true] 88 (fun u116 w hg hF => ld_row (en := en_TInterval) ((ns_of hF.1).one y_t121).2 en_TInterval_len ht123 0 2 [vI t123.Lo, vI t123.Hi] rfl (by kernel_rfl))) <|
   .cons [89] (ok_ld (fun u116 => .agg #[vI t59.Lo, vI t59.Hi]) 89 178 0 2 (fun u116 => ((u55 7).n 0)) (fun u116 => [vI t59.Lo, vI t59.Hi]) 37) <|
   .cons [90] (ok_callL [999999] (fun u116 => [gk]) 72 (fun u116 => #[.agg #[vI t123.Lo, vI t123.Hi], .agg #[vI t59.Lo, vI t59.Hi]]) (.agg #[vI t125.Lo, vI t125.Hi]) 90 (fun u116 w hF => interval_Div.calls t123 t59  t125 w  (glob_of hF.1) ht125)) <|
   .cons [91] (ok_val (fun u116 => .pointer (some ⟨hdB p_t118, hdO p_t118 + x112.toNat * 2, none⟩)) 91 (hv := fun _ _ => ix_pure (t := 22) (k := .i64) (i := x112) (p := p_t118) (n := t118.length) (cap := c_t118) (x := t118) P128 rfl b126 (by kernel_rfl))) <|
   .cons [900072, 900072] (ok_own1 [] [] (fun u116 => []) 900072 (fun u116 => nsK 22 37 2 en_TInterval p_x111 L_x111.length c_x111 L_x111 L_x111) none (fun u116 g => .nilFunc) (fun u116 g => nsK 22 37 2 en_TInterval p_x111 L_x111.length c_x111 (L_x111.set x34.toNat ⟨p_t118, c_t118, (t118.set x112.toNat t125)⟩) (L_x111.set x34.toNat ⟨p_t118, c_t118, (t118.set x112.toNat t125)⟩)) (fun u116 w hF hK => tn_el hK y_t118 (j := x112.toNat) (y := t125) (fun h => el_storeN h en_TInterval_len (vs := [vI t125.Lo, vI t125.Hi]) ht127 0 (by simp) (by simp) rfl (by kernel_rfl)))) <| .nil) fun u116 a w' H => ?_
          replace H := H.kp [4, 5, 8, 10, 39, 40, 73, 74, 178, 900072, 999999]
          refine k_rg mixed H (.v 92 (vI (w_i64 (x112 + 1))) <|
   .v 74 (vI (w_i64 (x112 + 1))) <| .nil) fun u129 a w' H => ?_
          replace H := H.kp [4, 5, 8, 10, 39, 40, 73, 74, 178, 900072, 999999]
          exact ⟨k, Nat.lt_succ_self k, _, _, G, p_x111, c_x111, L_x111.length, (L_x111.set x34.toNat ⟨p_t118, c_t118, (t118.set x112.toNat t125)⟩), by simp, (map_set h_x111 x34.toNat (⟨p_t118, c_t118, (t118.set x112.toNat t125)⟩ : Sl TInterval)), H.toL _ (by kernel_rfl)⟩
         ·rw [if_neg (nt c130)] at G
          refine k_exit rfl ?_
          obtain rfl := Option.some.inj G
          replace H := H.move (K := nsK 22 37 2 en_TInterval p_x111 L_x111.length c_x111 L_x111 L_x111) 900072 900064 (by kernel_rfl) (by intro _ _ h; cases h)
          exact ⟨p_x111, c_x111, L_x111.length, L_x111, rfl, h_x111, H.toL _ (by kernel_rfl)⟩
    ·rw [if_neg (nt c132)] at G
     refine k_exit rfl ?_
     obtain rfl := Option.some.inj G
     replace H := H.move (K := nsK 22 37 2 en_TInterval p_x33 L_x33.length c_x33 L_x33 L_x33) 900060 900054 (by kernel_rfl) (by intro _ _ h; cases h)
     exact ⟨_, rfl, p_x33, c_x33, L_x33.length, L_x33, rfl, h_x33, H.toL _ (by kernel_rfl)⟩
 ·clear G; replace G := hj6; clear hj6
  refine k_seq ?_
  replace G := bnd G; obtain ⟨t134, ht134, G⟩ := G
  refine k_rg mixed H (.v 20 (vI (a0.length : Int)) <|
   .cons [21, 204] (ok_callY false fr [] [] (fun u133 => []) [] (fun u133 => []) 25 (fun u133 => #[vI (a0.length : Int)]) (fun u133 => []) (fun u133 => []) (fun u133 g => .slice (g.o 0) ((g.dl Sl.l gd_S_TInterval 0 t134).length) (g.n 0)) (fun u133 g => [fun _ => nsK 22 37 2 en_TInterval (g.o 0) ((g.dl Sl.l gd_S_TInterval 0 t134).length) (g.n 0) (g.dl Sl.l gd_S_TInterval 0 t134) (g.dl Sl.l gd_S_TInterval 0 t134)]) [204] 21 (fun u133 w hB hF hM => matrix_Identity.calls k0 (a0.length : Int)  t134 w  ht134) (fun u133 w hF => ⟨trivial, trivial⟩) (fun u133 g => (fams_cons fam_ns fams_nil)) (.inr (fun u133 g => (famx_cons trivial (fun K h => by cases h)))) (fun h => by cases h)) <|
   .cons [22] (ok_valL [204] (fun u133 => [nsK 22 37 2 en_TInterval ((u133 1).o 0) (((u133 1).dl Sl.l gd_S_TInterval 0 t134).length) ((u133 1).n 0) ((u133 1).dl Sl.l gd_S_TInterval 0 t134) ((u133 1).dl Sl.l gd_S_TInterval 0 t134)]) (fun u133 => vI (t134.length : Int)) (fun u133 => true) [true] 22 (fun u133 w hg hF => run_lenN (((ns_of hF.1).row.2.len enSl_len (by decide)).trans (map_len (dl_er ergd_S_TInterval (u133 1) 0 t134)).symm) (by kernel_rfl))) <|
   .v 23 (vI 0) <| .nil) fun u133 a w' H => ?_
  replace H := H.kp [0, 4, 5, 21, 22, 23, 161, 162, 163, 204, 999999]
  refine k_block ?_
  replace H := H.move (K := nsK 22 37 2 en_TInterval ((u3 1).o 0) ((List.replicate (a0.length : Int).toNat (⟨none, 0, []⟩ : Sl TInterval)).length) ((u3 1).n 0) (List.replicate (a0.length : Int).toNat (⟨none, 0, []⟩ : Sl TInterval)) (List.replicate (a0.length : Int).toNat (⟨none, 0, []⟩ : Sl TInterval))) 163 900074 (by kernel_rfl) (by intro _ _ h; cases h)
  refine k_loopJ (fun m a w' => ∃ x135 : List (List TInterval), ∃ x136 : Int, matrix_Inverse.l137 k0 a0 t134 m x135 x136 = some j6 ∧ ∃ (p_x135 : Option Addr) (c_x135 np_x135 : Nat) (L_x135 : List (Sl TInterval)), np_x135 = L_x135.length ∧ x135 = L_x135.map Sl.l ∧ Rep w.heap.size w 161 (ofL [(0, sS p_a0 L_a0.length c_a0), (4, (sI (a0.length : Int))), (5, sS p_x135 np_x135 c_x135), (21, (sS ((u133 1).o 0) (((u133 1).dl Sl.l gd_S_TInterval 0 t134).length) ((u133 1).n 0))), (22, (sI (t134.length : Int))), (23, sI x136), (161, rdl anyF 1 p_a0 c_a0 L_a0 enSl), (162, dnK anyF E_S_TInterval.toPart L_a0), (204, nsK 22 37 2 en_TInterval ((u133 1).o 0) (((u133 1).dl Sl.l gd_S_TInterval 0 t134).length) ((u133 1).n 0) ((u133 1).dl Sl.l gd_S_TInterval 0 t134) ((u133 1).dl Sl.l gd_S_TInterval 0 t134)), (900074, nsK 22 37 2 en_TInterval p_x135 np_x135 c_x135 L_x135 L_x135), (999999, gk)]) a w') k0 ⟨_, _, G, ((u3 1).o 0), ((u3 1).n 0), (List.replicate (a0.length : Int).toNat (⟨none, 0, []⟩ : Sl TInterval)).length, (List.replicate (a0.length : Int).toNat (⟨none, 0, []⟩ : Sl TInterval)), rfl, (map_repl (a0.length : Int).toNat (⟨none, 0, []⟩ : Sl TInterval)), H.toL _ (by kernel_rfl)⟩ ?_
  clear G H
  rintro (_ | k) a w' ⟨x135, x136, G, p_x135, c_x135, _, L_x135, rfl, h_x135, H⟩
  ·exact absurd G (by unfold matrix_Inverse.l137; exact fun h => by cases h)
  ·unfold matrix_Inverse.l137 at G
   refine k_seq ?_
   refine k_rg mixed H (.v 24 (.bool (decide (x136 < (t134.length : Int)))) <| .nil) fun u138 a w' H => ?_
   replace H := H.kp [0, 4, 5, 21, 22, 23, 24, 161, 162, 204, 900074, 999999]
   refine k_seq ?_
   refine k_cond H (by kernel_rfl) (t := decide (x136 < (t134.length : Int))) (by kernel_rfl) (fun c149 => ?_) (fun c149 => ?_)
   ·rw [if_pos c149] at G
    refine k_skip ?_
    refine k_seq ?_
    refine k_block ?_
    refine k_seq ?_
    replace G := gd G; obtain ⟨b140, G⟩ := G
    replace G := bnd G; obtain ⟨t141, ht141, G⟩ := G
    obtain ⟨p_t141, c_t141, y_t141⟩ := sl_get (dl_er ergd_S_TInterval (u133 1) 0 t134) ht141
    refine k_rg mixed H (.v 25 (vI x136) <|
   .cons [26] (ok_valL [204] (fun u139 => [nsK 22 37 2 en_TInterval ((u133 1).o 0) (((u133 1).dl Sl.l gd_S_TInterval 0 t134).length) ((u133 1).n 0) ((u133 1).dl Sl.l gd_S_TInterval 0 t134) ((u133 1).dl Sl.l gd_S_TInterval 0 t134)]) (fun u139 => .pointer (some ⟨hdB ((u133 1).o 0), hdO ((u133 1).o 0) + x136.toNat * 1, none⟩)) (fun u139 => true) [true, true] 26 (fun u139 w hg hF => ix_row (t := 27) (k := .i64) (i := x136) (p := ((u133 1).o 0)) (n := ((u133 1).dl Sl.l gd_S_TInterval 0 t134).length) (cap := ((u133 1).n 0)) (x := t134) (en := enSl) (ns_of hF.1).row.2 enSl_len (map_len (dl_er ergd_S_TInterval (u133 1) 0 t134)) b140 (by kernel_rfl))) <|
   .cons [27] (ok_valL [204] (fun u139 => [nsK 22 37 2 en_TInterval ((u133 1).o 0) (((u133 1).dl Sl.l gd_S_TInterval 0 t134).length) ((u133 1).n 0) ((u133 1).dl Sl.l gd_S_TInterval 0 t134) ((u133 1).dl Sl.l gd_S_TInterval 0 t134)]) (fun u139 => .slice p_t141 t141.length c_t141) (fun u139 => true) [true] 27 (fun u139 w hg hF => ld_row (en := enSl) (ns_of hF.1).row.2 enSl_len y_t141 0 1 [.slice p_t141 t141.length c_t141] rfl (by kernel_rfl))) <|
   .v 6 (vI x136) <|
   .v 7 (.slice p_t141 t141.length c_t141) <| .nil) fun u139 a w' H => ?_
    replace H := H.kp [0, 4, 5, 6, 7, 21, 22, 23, 161, 162, 204, 900074, 999999]
    replace G := gd G; obtain ⟨b143, G⟩ := G
    replace G := bnd G; obtain ⟨t144, ht144, G⟩ := G
    obtain ⟨p_t144, c_t144, y_t144⟩ := sl_get h_a0 ht144
    replace G := bnd G; obtain ⟨t145, ht145, G⟩ := G
    replace G := gd G; obtain ⟨b146, G⟩ := G
    replace G := bnd G; obtain ⟨t147, ht147, G⟩ := G
    obtain ⟨p_t147, c_t147, y_t147⟩ := sl_get h_x135 ht147
    refine k_rg mixed H (.v 28 (.slice p_x135 L_x135.length c_x135) <|
   .v 29 (vI x136) <|
   .v 30 (.slice p_a0 L_a0.length c_a0) <|
   .v 31 (vI x136) <|
   .cons [32] (ok_valL [161] (fun u142 => [rdl anyF 1 p_a0 c_a0 L_a0 enSl]) (fun u142 => .pointer (some ⟨hdB p_a0, hdO p_a0 + x136.toNat * 1, none⟩)) (fun u142 => true) [true, true] 32 (fun u142 w hg hF => ix_row (t := 27) (k := .i64) (i := x136) (p := p_a0) (n := L_a0.length) (cap := c_a0) (x := a0) (en := enSl) (rdF_of hF.1).2 enSl_len (map_len h_a0) b143 (by kernel_rfl))) <|
   .cons [33] (ok_valL [161] (fun u142 => [rdl anyF 1 p_a0 c_a0 L_a0 enSl]) (fun u142 => .slice p_t144 t144.length c_t144) (fun u142 => true) [true] 33 (fun u142 w hg hF => ld_row (en := enSl) (rdF_of hF.1).2 enSl_len y_t144 0 1 [.slice p_t144 t144.length c_t144] rfl (by kernel_rfl))) <|
   .v 34 (.slice p_t141 t141.length c_t141) <|
   .cons [35, 205] (ok_blkrow 1 2 (ok_new (fun b => .slice (some ⟨b, 0, none⟩) 2 2) (fun u142 => [.slice p_t144 t144.length c_t144, .slice p_t141 t141.length c_t141]) 22 35 205) (fun _ => rfl) (by decide)) <|
   .cons [36, 206] (ok_callY false fr [7] [205, 162, 204] (fun u142 => [owK 22 1 (some ⟨((u142 7).n 0), 0, none⟩) 2 2 (([⟨p_t144, c_t144, t144⟩, ⟨p_t141, c_t141, t141⟩] : List (Sl TInterval)).flatMap enSl), dnK anyF E_S_TInterval.toPart L_a0, nsK 22 37 2 en_TInterval ((u133 1).o 0) (((u133 1).dl Sl.l gd_S_TInterval 0 t134).length) ((u133 1).n 0) ((u133 1).dl Sl.l gd_S_TInterval 0 t134) ((u133 1).dl Sl.l gd_S_TInterval 0 t134)]) [] (fun u142 => []) 70 (fun u142 => #[.slice (some ⟨((u142 7).n 0), 0, none⟩) 2 2]) (fun u142 => [rdF anyF 1 (some ⟨((u142 7).n 0), 0, none⟩) 2 2 (([⟨p_t144, c_t144, t144⟩, ⟨p_t141, c_t141, t141⟩] : List (Sl TInterval)).flatMap enSl), dnK anyF E_S_TInterval.toPart ([⟨p_t144, c_t144, t144⟩, ⟨p_t141, c_t141, t141⟩] : List (Sl TInterval))]) (fun u142 => []) (fun u142 g => .slice (g.o 0) t145.length (g.n 0)) (fun u142 g => [fun _ => owK 37 2 (g.o 0) t145.length (g.n 0) (t145.flatMap en_TInterval)]) [206] 36 (fun u142 w hB hF hM => api_Interval_70.calls k0 ([t144, t141] : List (List TInterval)) (some ⟨((u142 7).n 0), 0, none⟩) 2 ([⟨p_t144, c_t144, t144⟩, ⟨p_t141, c_t141, t141⟩] : List (Sl TInterval)) t145 w rfl hB ht145) (fun u142 w hF => ⟨⟨sub_rd0 (owns_rowC (ow_of hF.1)) (fun j h => ⟨_, (.head _), (fp_own h)⟩), sub_dn0 (E := E_S_TInterval.toPart) (L := ([⟨p_t144, c_t144, t144⟩, ⟨p_t141, c_t141, t141⟩] : List (Sl TInterval))) (rdl_cons ⟨(show RowC _ 2 p_t144 t144.length c_t144 (t144.flatMap en_TInterval) from ((dn_of hF.2.1) _ (List.mem_of_getElem? y_t144)).1), fun _ _ => trivial⟩ (rdl_cons ⟨((ns_of hF.2.2.1).one y_t141), fun _ _ => trivial⟩ rdl_nil)) (fun j => (fun h => (fpl_cons h).elim (fun h => (h.elim (fun h => ⟨_, (.tail _ (.head _)), ⟨_, (List.mem_of_getElem? y_t144), (.inl h)⟩⟩) (fun ⟨_, _, hz⟩ => hz.elim))) (fun h => (fpl_cons h).elim (fun h => (h.elim (fun h => ⟨_, (.tail _ (.tail _ (.head _))), (ns_fp1 y_t141 h)⟩) (fun ⟨_, _, hz⟩ => hz.elim))) (fun h => by obtain ⟨_, hy, _⟩ := h; cases hy)))), trivial⟩, trivial⟩) (fun u142 g => (fams_cons fam_ow fams_nil)) (.inr (fun u142 g => (famx_cons trivial (fun K h => by cases h)))) (fun h => by cases h) (hloc := fun u u' h => ⟨by first | rfl | simp only [h 7 (by decide)], by first | rfl | simp only [h 7 (by decide)], by first | rfl | simp only [h 7 (by decide)], by first | rfl | simp only [h 7 (by decide)], by first | rfl | simp only [h 7 (by decide)], by first | rfl | simp only [h 7 (by decide)]⟩)) <|
   .cons [37] (ok_valL [900074] (fun u142 => [nsK 22 37 2 en_TInterval p_x135 L_x135.length c_x135 L_x135 L_x135]) (fun u142 => .pointer (some ⟨hdB p_x135, hdO p_x135 + x136.toNat * 1, none⟩)) (fun u142 => true) [true, true] 37 (fun u142 w hg hF => ix_row (t := 27) (k := .i64) (i := x136) (p := p_x135) (n := L_x135.length) (cap := c_x135) (x := x135) (en := enSl) (ns_of hF.1).row.2 enSl_len (map_len h_x135) b146 (by kernel_rfl))) <|
   .cons [900074, 206, 900074] (ok_own2 [8] [] (fun u142 => []) 900074 206 (fun u142 => nsK 22 37 2 en_TInterval p_x135 L_x135.length c_x135 L_x135 L_x135) (fun u142 => owK 37 2 ((u142 8).o 0) t145.length ((u142 8).n 0) (t145.flatMap en_TInterval)) none (fun u142 g => .nilFunc) (fun u142 g => nsK 22 37 2 en_TInterval p_x135 L_x135.length c_x135 (L_x135.set x136.toNat (⟨((u142 8).o 0), ((u142 8).n 0), t145⟩ : Sl TInterval)) (L_x135.set x136.toNat (⟨((u142 8).o 0), ((u142 8).n 0), t145⟩ : Sl TInterval))) (fun u142 w hF hK hK2 hd => tn_take hK hK2 hd en_TInterval_len (by decide) (fun hn h => el_storeN (en := enSl) h enSl_len (y := (⟨((u142 8).o 0), ((u142 8).n 0), t145⟩ : Sl TInterval)) (vs := [.slice ((u142 8).o 0) t145.length ((u142 8).n 0)]) y_t147 0 (by simp) (by simp) rfl (by kernel_rfl))) (hloc := fun u u' h => ⟨by first | rfl | simp only [h 8 (by decide)], by first | rfl | simp only [h 8 (by decide)], by first | rfl | simp only [h 8 (by decide)], by first | rfl | simp only [h 8 (by decide)], by first | rfl | simp only [h 8 (by decide)]⟩)) <| .nil) fun u142 a w' H => ?_
    replace H := H.kp [0, 4, 5, 21, 22, 23, 161, 162, 204, 900074, 999999]
    refine k_rg mixed H (.v 38 (vI (w_i64 (x136 + 1))) <|
   .v 23 (vI (w_i64 (x136 + 1))) <| .nil) fun u148 a w' H => ?_
    replace H := H.kp [0, 4, 5, 21, 22, 23, 161, 162, 204, 900074, 999999]
    exact ⟨k, Nat.lt_succ_self k, _, _, G, p_x135, c_x135, L_x135.length, (L_x135.set x136.toNat (⟨((u142 8).o 0), ((u142 8).n 0), t145⟩ : Sl TInterval)), by simp, (map_set h_x135 x136.toNat (⟨((u142 8).o 0), ((u142 8).n 0), t145⟩ : Sl TInterval)), H.toL _ (by kernel_rfl)⟩
   ·rw [if_neg (nt c149)] at G
    refine k_exit rfl ?_
    obtain rfl := Option.some.inj G
    replace H := H.move (K := nsK 22 37 2 en_TInterval p_x135 L_x135.length c_x135 L_x135 L_x135) 900074 900052 (by kernel_rfl) (by intro _ _ h; cases h)
    exact ⟨p_x135, c_x135, L_x135.length, L_x135, rfl, h_x135, H.toL _ (by kernel_rfl)⟩
set_option maxHeartbeats 4000000 in
theorem armillaryref02_Number.calls (a0 : Int) (r : Bool) (w : World) (G : armillaryref02_Number a0 = some r) :
  Calls Tryd.prog 55 #[vI a0] w fun e w' => e = .returned (.bool r) ∧ Below w.heap.size w w' := by
 refine k_enter (args := [vI a0]) 9 Tryd.func55 rfl (by kernel_rfl) (by kernel_rfl) fun a H => ?_
 unfold armillaryref02_Number at G
 refine k_seq ?_
 refine k_rg mixed H (.v 2 (.bool false) <| .nil) fun u1 a w' H => ?_
 replace H := H.kp [0]
 refine k_seq ?_
 refine k_rg mixed H (.v 3 (vI a0) <|
   .v 4 (.bool (decide (a0 > (-2147483648)))) <|
   .v 5 (.bool (decide (a0 > (-2147483648)))) <|
   .cons [6] (ok_valg (fun u2 => vI a0) (fun u2 => ((decide (a0 > (-2147483648))) == true)) [true] 6) <|
   .cons [7] (ok_valg (fun u2 => .bool (decide (a0 < 2147483648))) (fun u2 => ((decide (a0 > (-2147483648))) == true)) [false, true] 7) <|
   .cons [8] (ok_and 5 7 (fun u2 => true) (fun u2 => true) (fun u2 => decide (a0 > (-2147483648))) (fun u2 => decide (a0 < 2147483648)) 8) <|
   .v 2 (.bool ((decide (a0 > (-2147483648))) && (decide (a0 < 2147483648)))) <| .nil) fun u2 a w' H => ?_
 replace H := H.kp [2]
 refine k_ret ?_
 obtain rfl := Option.some.inj G
 exact k_done0 H _ (by kernel_rfl) (by kernel_rfl)
set_option maxHeartbeats 4000000 in
theorem armillaryref02_Entire.calls (r : TInterval) (w : World) (G : armillaryref02_Entire = some r) :
  Calls Tryd.prog 80 #[] w fun e w' => e = .returned (.agg #[vI r.Lo, vI r.Hi]) ∧ Below w.heap.size w w' := by
 refine k_enter (args := []) 2 Tryd.func80 rfl (by kernel_rfl) (by kernel_rfl) fun a H => ?_
 unfold armillaryref02_Entire at G
 refine k_seq ?_
 refine k_rg mixed H (.cons [0, 2] (ok_new (fun b => vP b 0) (fun u1 => [vI 0, vI 0]) 37 0 2) <| .nil) fun u1 a w' H => ?_
 replace H := H.kp [0, 2]
 refine k_seq ?_
 refine k_rg mixed H (.v 1 (.agg #[vI (-2147483648), vI 2147483648]) <|
   .cons [2] (ok_as (u' := fun u2 => [(2, .blk ((u1 0).n 0) [vI (-2147483648), vI 2147483648] 37)]) (ok_store 2 0 (fun u2 => ((u1 0).n 0)) (fun u2 => [vI 0, vI 0]) (fun u2 => [vI (-2147483648), vI 2147483648]) 37) (fun _ => by kernel_rfl)) <| .nil) fun u2 a w' H => ?_
 replace H := H.kp [0, 2]
 refine k_ret ?_
 obtain rfl := Option.some.inj G
 exact k_done1 H _ 2 ((u1 0).n 0) [vI (-2147483648), vI 2147483648] 37 0 2 (by kernel_rfl) (by kernel_rfl) (by kernel_rfl) (by kernel_rfl)
set_option maxHeartbeats 4000000 in
theorem armillaryref02_New.calls (a0 : Int) (a1 : Int) (r : TInterval) (w : World) (G : armillaryref02_New a0 a1 = some r) :
  Calls Tryd.prog 79 #[vI a0, vI a1] w fun e w' => e = .returned (.agg #[vI r.Lo, vI r.Hi]) ∧ Below w.heap.size w w' := by
 refine k_enter (args := [vI a0, vI a1]) 17 Tryd.func79 rfl (by kernel_rfl) (by kernel_rfl) fun a H => ?_
 unfold armillaryref02_New at G
 refine k_seq ?_
 refine k_rg mixed H (.cons [4, 17] (ok_new (fun b => vP b 0) (fun u1 => [vI 0, vI 0]) 37 4 17) <| .nil) fun u1 a w' H => ?_
 replace H := H.kp [0, 1, 4, 17]
 refine k_seq ?_
 refine k_seq ?_
 replace G := bnd G; obtain ⟨t3, ht3, G⟩ := G
 replace G := bnd G; obtain ⟨t4, ht4, G⟩ := G
 refine k_rg mixed H (.v 5 (vI a0) <|
   .cons [6] (ok_callv 55 (fun u2 => #[vI a0]) (.bool t3) 6 [] (fun u2 w _ => armillaryref02_Number.calls a0  t3 w  ht3)) <|
   .v 7 (.bool (!t3)) <|
   .v 8 (.bool (!t3)) <|
   .cons [9] (ok_valg (fun u2 => vI a1) (fun u2 => ((!t3) == false)) [true] 9) <|
   .cons [10] (ok_call 55 (fun u2 => #[vI a1]) (.bool t4) (fun u2 => ((!t3) == false)) [true, false] 10 [] (fun u2 w hg _ => armillaryref02_Number.calls a1  t4 w  (ifp ht4 hg))) <|
   .cons [11] (ok_valg (fun u2 => .bool (!t4)) (fun u2 => ((!t3) == false)) [false] 11) <|
   .cons [12] (ok_or 8 11 (fun u2 => true) (fun u2 => true) (fun u2 => (!t3)) (fun u2 => (!t4)) 12) <| .nil) fun u2 a w' H => ?_
 replace H := H.kp [0, 1, 4, 12, 17]
 refine k_cond H (by kernel_rfl) (t := ((!t3) || (!t4))) (by kernel_rfl) (fun c8 => ?_) (fun c8 => ?_)
 ·rw [if_pos c8] at G
  refine k_seq ?_
  replace G := bnd G; obtain ⟨t6, ht6, G⟩ := G
  refine k_rg mixed H (.cons [13] (ok_callv 80 (fun u5 => #[]) (.agg #[vI t6.Lo, vI t6.Hi]) 13 [] (fun u5 w _ => armillaryref02_Entire.calls   t6 w  ht6)) <|
   .cons [17] (ok_as (u' := fun u5 => [(17, .blk ((u1 0).n 0) [vI t6.Lo, vI t6.Hi] 37)]) (ok_store 17 0 (fun u5 => ((u1 0).n 0)) (fun u5 => [vI 0, vI 0]) (fun u5 => [vI t6.Lo, vI t6.Hi]) 37) (fun _ => by kernel_rfl)) <| .nil) fun u5 a w' H => ?_
  replace H := H.kp [4, 17]
  refine k_ret ?_
  obtain rfl := Option.some.inj G
  exact k_done1 H _ 17 ((u1 0).n 0) [vI t6.Lo, vI t6.Hi] 37 0 2 (by kernel_rfl) (by kernel_rfl) (by kernel_rfl) (by kernel_rfl)
 ·rw [if_neg (nt c8)] at G
  refine k_skip ?_
  refine k_seq ?_
  refine k_rg mixed H (.v 14 (vI a0) <|
   .v 15 (vI a1) <|
   .v 16 (.agg #[vI a0, vI a1]) <|
   .cons [17] (ok_as (u' := fun u7 => [(17, .blk ((u1 0).n 0) [vI a0, vI a1] 37)]) (ok_store 17 0 (fun u7 => ((u1 0).n 0)) (fun u7 => [vI 0, vI 0]) (fun u7 => [vI a0, vI a1]) 37) (fun _ => by kernel_rfl)) <| .nil) fun u7 a w' H => ?_
  replace H := H.kp [4, 17]
  refine k_ret ?_
  obtain rfl := Option.some.inj G
  exact k_done1 H _ 17 ((u1 0).n 0) [vI a0, vI a1] 37 0 2 (by kernel_rfl) (by kernel_rfl) (by kernel_rfl) (by kernel_rfl)
set_option maxHeartbeats 4000000 in
theorem armillaryref02_Point.calls (a0 : Int) (r : TInterval) (w : World) (G : armillaryref02_Point a0 = some r) :
  Calls Tryd.prog 42 #[vI a0] w fun e w' => e = .returned (.agg #[vI r.Lo, vI r.Hi]) ∧ Below w.heap.size w w' := by
 refine k_enter (args := [vI a0]) 6 Tryd.func42 rfl (by kernel_rfl) (by kernel_rfl) fun a H => ?_
 unfold armillaryref02_Point at G
 refine k_seq ?_
 refine k_rg mixed H (.cons [2, 6] (ok_new (fun b => vP b 0) (fun u1 => [vI 0, vI 0]) 37 2 6) <| .nil) fun u1 a w' H => ?_
 replace H := H.kp [0, 2, 6]
 refine k_seq ?_
 replace G := bnd G; obtain ⟨t3, ht3, G⟩ := G
 refine k_rg mixed H (.v 3 (vI a0) <|
   .v 4 (vI a0) <|
   .cons [5] (ok_callv 79 (fun u2 => #[vI a0, vI a0]) (.agg #[vI t3.Lo, vI t3.Hi]) 5 [] (fun u2 w _ => armillaryref02_New.calls a0 a0  t3 w  ht3)) <|
   .cons [6] (ok_as (u' := fun u2 => [(6, .blk ((u1 0).n 0) [vI t3.Lo, vI t3.Hi] 37)]) (ok_store 6 0 (fun u2 => ((u1 0).n 0)) (fun u2 => [vI 0, vI 0]) (fun u2 => [vI t3.Lo, vI t3.Hi]) 37) (fun _ => by kernel_rfl)) <| .nil) fun u2 a w' H => ?_
 replace H := H.kp [2, 6]
 refine k_ret ?_
 obtain rfl := Option.some.inj G
 exact k_done1 H _ 6 ((u1 0).n 0) [vI t3.Lo, vI t3.Hi] 37 0 2 (by kernel_rfl) (by kernel_rfl) (by kernel_rfl) (by kernel_rfl)
set_option maxHeartbeats 4000000 in
theorem matrix_FromNumbers_1_m.calls (a0 : Int) (a1 : Int) (q0 : List (List Int)) (b_q0 : Nat) (p_q0 : Option Addr) (c_q0 : Nat) (L_q0 : List (Sl Int)) (r : TInterval) (w : World) (h_q0 : q0 = L_q0.map Sl.l) (hB : AllH [rdl anyF 1 p_q0 c_q0 L_q0 enSl, dnK anyF E_S_i64.toPart L_q0, bxK b_q0 [.slice p_q0 L_q0.length c_q0] 30] w) (G : matrix_FromNumbers_1_m a0 a1 q0 = some r) :
  Calls Tryd.prog 83 #[vI a0, vI a1, vP b_q0 0] w fun e w' => e = .returned (.agg #[vI r.Lo, vI r.Hi]) ∧ Below w.heap.size w w' := by
 obtain ⟨fr, hfr⟩ : ∃ fr : Nat → Prop, ∀ j, fr j := ⟨fun _ => True, fun _ => trivial⟩
 have hBf : ∀ j, w.heap.size ≤ j → fr j := fun j _ => hfr j
 refine k_enterF (args := [vI a0, vI a1, vP b_q0 0]) 14 [(15, rdl anyF 1 p_q0 c_q0 L_q0 enSl), (16, dnK anyF E_S_i64.toPart L_q0), (14, bxK b_q0 [.slice p_q0 L_q0.length c_q0] 30)] (by
  intro x hx
  simp only [List.mem_cons, List.not_mem_nil, or_false] at hx
  rcases hx with rfl | rfl | rfl
  ·exact rdF_fact (rdF_of hB.1) (fun _ _ => trivial) (by decide) _
  ·exact dn_fact (dn_of hB.2.1) (fun _ _ => trivial) _
  ·exact bx_fact (hB.2.2.1 w (agree.refl _ _)) _) Tryd.func83 rfl (by kernel_rfl) (by kernel_rfl) fun a H => ?_
 unfold matrix_FromNumbers_1_m at G
 refine k_seq ?_
 refine k_rg mixed H (.cons [5, 17] (ok_new (fun b => vP b 0) (fun u1 => [vI 0, vI 0]) 37 5 17) <| .nil) fun u1 a w' H => ?_
 replace H := H.kp [0, 1, 2, 5, 15, 16, 17, 14]
 refine k_seq ?_
 replace G := gd G; obtain ⟨b3, G⟩ := G
 replace G := bnd G; obtain ⟨t4, ht4, G⟩ := G
 obtain ⟨p_t4, c_t4, y_t4⟩ := sl_get h_q0 ht4
 replace G := gd G; obtain ⟨b5, G⟩ := G
 replace G := bnd G; obtain ⟨t6, ht6, G⟩ := G
 replace G := bnd G; obtain ⟨t7, ht7, G⟩ := G
 refine k_rg mixed H (.cons [6] (ok_ldK (fun u2 => .slice p_q0 L_q0.length c_q0) 6 14 (bxK b_q0 [.slice p_q0 L_q0.length c_q0] 30) b_q0 0 1 [.slice p_q0 L_q0.length c_q0] (fun w h => bx_of h)) <|
   .v 7 (vI a0) <|
   .cons [8] (ok_valL [15] (fun u2 => [rdl anyF 1 p_q0 c_q0 L_q0 enSl]) (fun u2 => .pointer (some ⟨hdB p_q0, hdO p_q0 + a0.toNat * 1, none⟩)) (fun u2 => true) [true, true] 8 (fun u2 w hg hF => ix_row (t := 30) (k := .i64) (i := a0) (p := p_q0) (n := L_q0.length) (cap := c_q0) (x := q0) (en := enSl) (rdF_of hF.1).2 enSl_len (map_len h_q0) b3 (by kernel_rfl))) <|
   .cons [9] (ok_valL [15] (fun u2 => [rdl anyF 1 p_q0 c_q0 L_q0 enSl]) (fun u2 => .slice p_t4 t4.length c_t4) (fun u2 => true) [true] 9 (fun u2 w hg hF => ld_row (en := enSl) (rdF_of hF.1).2 enSl_len y_t4 0 1 [.slice p_t4 t4.length c_t4] rfl (by kernel_rfl))) <|
   .v 10 (vI a1) <|
   .cons [11] (ok_valL [16] (fun u2 => [dnK anyF E_S_i64.toPart L_q0]) (fun u2 => .pointer (some ⟨hdB p_t4, hdO p_t4 + a1.toNat * 1, none⟩)) (fun u2 => true) [true, true] 11 (fun u2 w hg hF => ix_row (t := 32) (k := .i64) (i := a1) (p := p_t4) (n := t4.length) (cap := c_t4) (x := t4) (en := en_i64) (show RowC _ 1 p_t4 t4.length c_t4 (t4.flatMap en_i64) from ((dn_of hF.1) _ (List.mem_of_getElem? y_t4)).1).2 en_i64_len rfl b5 (by kernel_rfl))) <|
   .cons [12] (ok_valL [16] (fun u2 => [dnK anyF E_S_i64.toPart L_q0]) (fun u2 => vI t6) (fun u2 => true) [true] 12 (fun u2 w hg hF => ld_row (en := en_i64) (show RowC _ 1 p_t4 t4.length c_t4 (t4.flatMap en_i64) from ((dn_of hF.1) _ (List.mem_of_getElem? y_t4)).1).2 en_i64_len ht6 0 1 [vI t6] rfl (by kernel_rfl))) <|
   .cons [13] (ok_callv 64 (fun u2 => #[vI t6]) (.agg #[vI t7.Lo, vI t7.Hi]) 13 [] (fun u2 w _ => interval_Point.calls t6  t7 w  ht7)) <|
   .cons [17] (ok_as (u' := fun u2 => [(17, .blk ((u1 0).n 0) [vI t7.Lo, vI t7.Hi] 37)]) (ok_store 17 0 (fun u2 => ((u1 0).n 0)) (fun u2 => [vI 0, vI 0]) (fun u2 => [vI t7.Lo, vI t7.Hi]) 37) (fun _ => by kernel_rfl)) <| .nil) fun u2 a w' H => ?_
 replace H := H.kp [5, 15, 16, 17, 14]
 refine k_ret ?_
 obtain rfl := Option.some.inj G
 exact k_done1 H _ 17 ((u1 0).n 0) [vI t7.Lo, vI t7.Hi] 37 0 2 (by kernel_rfl) (by kernel_rfl) (by kernel_rfl) (by kernel_rfl)
set_option maxHeartbeats 4000000 in
theorem api_Interval_56_s83.calls (k0 : Nat) (a0 : Int) (a1_0 : List (List Int)) (b_a1_0 : Nat) (p_a1_0 : Option Addr) (c_a1_0 : Nat) (L_a1_0 : List (Sl Int)) (r : List (List TInterval)) (w : World) (h_a1_0 : a1_0 = L_a1_0.map Sl.l) (hB : AllH [rdl anyF 1 p_a1_0 c_a1_0 L_a1_0 enSl, dnK anyF E_S_i64.toPart L_a1_0, bxK b_a1_0 [.slice p_a1_0 L_a1_0.length c_a1_0] 30] w) (G : api_Interval_56_s83 k0 a0 a1_0 = some r) :
  Calls Tryd.prog 56 #[vI a0, .func (.func 83) #[] #[vP b_a1_0 0]] w fun e w' => ∃ g : Gh, e = .returned (.slice (g.o 0) ((g.dl Sl.l gd_S_TInterval 0 r).length) (g.n 0)) ∧ But (fpK []) w w' ∧ OutOK w.heap.size (fpK []) (frI w.heap.size []) [fun _ => nsK 22 37 2 en_TInterval (g.o 0) ((g.dl Sl.l gd_S_TInterval 0 r).length) (g.n 0) (g.dl Sl.l gd_S_TInterval 0 r) (g.dl Sl.l gd_S_TInterval 0 r)] w' := by
 obtain ⟨fr, hfr⟩ : ∃ fr : Nat → Prop, fr = frI w.heap.size [] := ⟨_, rfl⟩
 have hBf : ∀ j, w.heap.size ≤ j → fr j := fun j h => by rw [hfr]; exact .inl h
 refine k_enterF (args := [vI a0, .func (.func 83) #[] #[vP b_a1_0 0]]) 34 [(35, rdl anyF 1 p_a1_0 c_a1_0 L_a1_0 enSl), (36, dnK anyF E_S_i64.toPart L_a1_0), (34, bxK b_a1_0 [.slice p_a1_0 L_a1_0.length c_a1_0] 30)] (by
  intro x hx
  simp only [List.mem_cons, List.not_mem_nil, or_false] at hx
  rcases hx with rfl | rfl | rfl
  ·exact rdF_fact (rdF_of hB.1) (fun _ _ => trivial) (by decide) _
  ·exact dn_fact (dn_of hB.2.1) (fun _ _ => trivial) _
  ·exact bx_fact (hB.2.2.1 w (agree.refl _ _)) _) Tryd.func56 rfl (by kernel_rfl) (by kernel_rfl) fun a H => ?_
 unfold api_Interval_56_s83 at G
 refine k_seq ?_
 refine k_rg mixed H (.v 4 (.slice none 0 0) <| .nil) fun u1 a w' H => ?_
 replace H := H.kp [0, 1, 35, 36, 34]
 refine k_seq ?_
 replace G := gd G; obtain ⟨b3, G⟩ := G
 refine k_rg mixed H (.v 8 (vI a0) <|
   .cons [9, 37] (ok_nest0 37 2 en_TInterval (ok_rowL [] (fun u2 => []) 22 1 (List.replicate a0.toNat (⟨none, 0, []⟩ : Sl TInterval)).length ((List.replicate a0.toNat (⟨none, 0, []⟩ : Sl TInterval)).flatMap enSl) 9 37 (fun _ => .none) (fun u2 w hF => run_make_row (t := 27) (k := .i64) (m := a0) (en := enSl) (z := (⟨none, 0, []⟩ : Sl TInterval)) enSl_len inf22 rfl b3 (by kernel_rfl)) (fun _ => .inl rfl)) repl_nil) <|
   .cons [5] (ok_val (fun u2 => .slice ((u2 1).o 0) ((List.replicate a0.toNat (⟨none, 0, []⟩ : Sl TInterval)).length) ((u2 1).n 0)) 5) <| .nil) fun u2 a w' H => ?_
 replace H := H.kp [0, 1, 5, 35, 36, 37, 34]
 refine k_seq ?_
 replace G := bnd G; obtain ⟨j5, hj5, G⟩ := G
 refine k_join (fun a w' => ∃ (p_j4 : Option Addr) (c_j4 np_j4 : Nat) (L_j4 : List (Sl TInterval)), np_j4 = L_j4.length ∧ j5 = L_j4.map Sl.l ∧ Rep w.heap.size w 34 (ofL [(5, sS p_j4 np_j4 c_j4), (35, rdl anyF 1 p_a1_0 c_a1_0 L_a1_0 enSl), (36, dnK anyF E_S_i64.toPart L_a1_0), (900076, nsK 22 37 2 en_TInterval p_j4 np_j4 c_j4 L_j4 L_j4), (34, bxK b_a1_0 [.slice p_a1_0 L_a1_0.length c_a1_0] 30)]) a w') ?_ ?_
 ·clear H; rintro a w' ⟨p_j4, c_j4, _, L_j4, rfl, h_j4, H⟩
  refine k_seq ?_
  refine k_rg mixed H (.v 33 (.slice p_j4 L_j4.length c_j4) <|
   .v 4 (.slice p_j4 L_j4.length c_j4) <| .nil) fun u6 a w' H => ?_
  replace H := H.kp [4, 35, 36, 900076, 34]
  refine k_ret ?_
  obtain rfl := Option.some.inj G
  obtain ⟨g, o0, n0, d0⟩ : ∃ g : Gh, g.o 0 = p_j4 ∧ g.n 0 = c_j4 ∧ g.dl Sl.l gd_S_TInterval 0 j5 = L_j4 := ⟨⟨fun i => [c_j4].getD i 0, fun i => [p_j4].getD i none, fun i => ([⟨List (Sl TInterval), L_j4⟩] : List ((T : Type) × T)).getD i ⟨Unit, ()⟩⟩, rfl, rfl, dl_mk rfl h_j4⟩
  refine k_doneZ H (fun g => .slice (g.o 0) ((g.dl Sl.l gd_S_TInterval 0 j5).length) (g.n 0)) g [] [] (fun g => [fun _ => nsK 22 37 2 en_TInterval (g.o 0) ((g.dl Sl.l gd_S_TInterval 0 j5).length) (g.n 0) (g.dl Sl.l gd_S_TInterval 0 j5) (g.dl Sl.l gd_S_TInterval 0 j5)]) fr [900076] [] (.slice p_j4 L_j4.length c_j4) [fun _ => nsK 22 37 2 en_TInterval p_j4 L_j4.length c_j4 L_j4 L_j4] (by simp only [o0, n0, d0]) (by simp only [o0, n0, d0]) hfr (.inl ⟨rfl, rfl⟩) (fams_cons fam_ns fams_nil) (by simp)
 ·clear G; replace G := hj5; clear hj5
  refine k_seq ?_
  refine k_rg mixed H (.v 10 (vI a0) <|
   .v 11 (vI 0) <| .nil) fun u7 a w' H => ?_
  replace H := H.kp [0, 1, 5, 10, 11, 35, 36, 37, 34]
  refine k_block ?_
  replace H := H.move (K := nsK 22 37 2 en_TInterval ((u2 1).o 0) ((List.replicate a0.toNat (⟨none, 0, []⟩ : Sl TInterval)).length) ((u2 1).n 0) (List.replicate a0.toNat (⟨none, 0, []⟩ : Sl TInterval)) (List.replicate a0.toNat (⟨none, 0, []⟩ : Sl TInterval))) 37 900078 (by kernel_rfl) (by intro _ _ h; cases h)
  refine k_loopJ (fun m a w' => ∃ x8 : List (List TInterval), ∃ x9 : Int, api_Interval_56_s83.l10 k0 a0 a1_0 m x8 x9 = some j5 ∧ ∃ (p_x8 : Option Addr) (c_x8 np_x8 : Nat) (L_x8 : List (Sl TInterval)), np_x8 = L_x8.length ∧ x8 = L_x8.map Sl.l ∧ Rep w.heap.size w 34 (ofL [(0, sI a0), (1, .slot true (.func (.func 83) #[] #[vP b_a1_0 0])), (5, sS p_x8 np_x8 c_x8), (10, sI a0), (11, sI x9), (35, rdl anyF 1 p_a1_0 c_a1_0 L_a1_0 enSl), (36, dnK anyF E_S_i64.toPart L_a1_0), (900078, nsK 22 37 2 en_TInterval p_x8 np_x8 c_x8 L_x8 L_x8), (34, bxK b_a1_0 [.slice p_a1_0 L_a1_0.length c_a1_0] 30)]) a w') k0 ⟨_, _, G, ((u2 1).o 0), ((u2 1).n 0), (List.replicate a0.toNat (⟨none, 0, []⟩ : Sl TInterval)).length, (List.replicate a0.toNat (⟨none, 0, []⟩ : Sl TInterval)), rfl, (map_repl a0.toNat (⟨none, 0, []⟩ : Sl TInterval)), H.toL _ (by kernel_rfl)⟩ ?_
  clear G H
  rintro (_ | k) a w' ⟨x8, x9, G, p_x8, c_x8, _, L_x8, rfl, h_x8, H⟩
  ·exact absurd G (by unfold api_Interval_56_s83.l10; exact fun h => by cases h)
  ·unfold api_Interval_56_s83.l10 at G
   refine k_seq ?_
   refine k_rg mixed H (.v 12 (.bool (decide (x9 < a0))) <| .nil) fun u11 a w' H => ?_
   replace H := H.kp [0, 1, 5, 10, 11, 12, 35, 36, 900078, 34]
   refine k_seq ?_
   refine k_cond H (by kernel_rfl) (t := decide (x9 < a0)) (by kernel_rfl) (fun c32 => ?_) (fun c32 => ?_)
   ·rw [if_pos c32] at G
    refine k_skip ?_
    refine k_seq ?_
    replace G := bnd G; obtain ⟨j13, hj13, G⟩ := G
    refine k_join (fun a w' => ∃ (p_j12 : Option Addr) (c_j12 np_j12 : Nat) (L_j12 : List (Sl TInterval)), np_j12 = L_j12.length ∧ j13 = L_j12.map Sl.l ∧ Rep w.heap.size w 34 (ofL [(0, sI a0), (1, .slot true (.func (.func 83) #[] #[vP b_a1_0 0])), (5, sS p_j12 np_j12 c_j12), (10, sI a0), (11, sI x9), (35, rdl anyF 1 p_a1_0 c_a1_0 L_a1_0 enSl), (36, dnK anyF E_S_i64.toPart L_a1_0), (900080, nsK 22 37 2 en_TInterval p_j12 np_j12 c_j12 L_j12 L_j12), (34, bxK b_a1_0 [.slice p_a1_0 L_a1_0.length c_a1_0] 30)]) a w') ?_ ?_
    ·clear H; rintro a w' ⟨p_j12, c_j12, _, L_j12, rfl, h_j12, H⟩
     refine k_rg mixed H (.v 32 (vI (w_i64 (x9 + 1))) <|
   .v 11 (vI (w_i64 (x9 + 1))) <| .nil) fun u14 a w' H => ?_
     replace H := H.kp [0, 1, 5, 10, 11, 35, 36, 900080, 34]
     replace H := H.move (K := nsK 22 37 2 en_TInterval p_j12 L_j12.length c_j12 L_j12 L_j12) 900080 900078 (by kernel_rfl) (by intro _ _ h; cases h)
     exact ⟨k, Nat.lt_succ_self k, _, _, G, p_j12, c_j12, L_j12.length, L_j12, rfl, h_j12, H.toL _ (by kernel_rfl)⟩
    ·clear G; replace G := hj13; clear hj13
     refine k_block ?_
     refine k_seq ?_
     refine k_rg mixed H (.v 13 (vI x9) <|
   .v 6 (vI x9) <| .nil) fun u15 a w' H => ?_
     replace H := H.kp [0, 1, 5, 6, 10, 11, 35, 36, 900078, 34]
     refine k_seq ?_
     refine k_rg mixed H (.v 14 (vI a0) <|
   .v 15 (vI 0) <| .nil) fun u16 a w' H => ?_
     replace H := H.kp [0, 1, 5, 6, 10, 11, 14, 15, 35, 36, 900078, 34]
     refine k_block ?_
     replace H := H.move (K := nsK 22 37 2 en_TInterval p_x8 L_x8.length c_x8 L_x8 L_x8) 900078 900082 (by kernel_rfl) (by intro _ _ h; cases h)
     refine k_loopJ (fun m a w' => ∃ x17 : List (List TInterval), ∃ x18 : Int, api_Interval_56_s83.l19 k0 a0 a1_0 x8 x9 m x17 x18 = some j13 ∧ ∃ (p_x17 : Option Addr) (c_x17 np_x17 : Nat) (L_x17 : List (Sl TInterval)), np_x17 = L_x17.length ∧ x17 = L_x17.map Sl.l ∧ Rep w.heap.size w 34 (ofL [(0, sI a0), (1, .slot true (.func (.func 83) #[] #[vP b_a1_0 0])), (5, sS p_x17 np_x17 c_x17), (6, sI x9), (10, sI a0), (11, sI x9), (14, sI a0), (15, sI x18), (35, rdl anyF 1 p_a1_0 c_a1_0 L_a1_0 enSl), (36, dnK anyF E_S_i64.toPart L_a1_0), (900082, nsK 22 37 2 en_TInterval p_x17 np_x17 c_x17 L_x17 L_x17), (34, bxK b_a1_0 [.slice p_a1_0 L_a1_0.length c_a1_0] 30)]) a w') k0 ⟨_, _, G, p_x8, c_x8, L_x8.length, L_x8, rfl, h_x8, H.toL _ (by kernel_rfl)⟩ ?_
     clear G H
     rintro (_ | k) a w' ⟨x17, x18, G, p_x17, c_x17, _, L_x17, rfl, h_x17, H⟩
     ·exact absurd G (by unfold api_Interval_56_s83.l19; exact fun h => by cases h)
     ·unfold api_Interval_56_s83.l19 at G
      refine k_seq ?_
      refine k_rg mixed H (.v 16 (.bool (decide (x18 < a0))) <| .nil) fun u20 a w' H => ?_
      replace H := H.kp [0, 1, 5, 6, 10, 11, 14, 15, 16, 35, 36, 900082, 34]
      refine k_seq ?_
      refine k_cond H (by kernel_rfl) (t := decide (x18 < a0)) (by kernel_rfl) (fun c31 => ?_) (fun c31 => ?_)
      ·rw [if_pos c31] at G
       refine k_skip ?_
       refine k_seq ?_
       refine k_block ?_
       refine k_seq ?_
       refine k_rg mixed H (.v 17 (vI x18) <|
   .v 7 (vI x18) <| .nil) fun u21 a w' H => ?_
       replace H := H.kp [0, 1, 5, 6, 7, 10, 11, 14, 15, 35, 36, 900082, 34]
       replace G := gd G; obtain ⟨b23, G⟩ := G
       replace G := bnd G; obtain ⟨t24, ht24, G⟩ := G
       obtain ⟨p_t24, c_t24, y_t24⟩ := sl_get h_x17 ht24
       have P25 := ptr_of (en := enSl) (l := L_x17) (ns_of (H.at (K := nsK 22 37 2 en_TInterval p_x17 L_x17.length c_x17 L_x17 L_x17) 900082 (by kernel_rfl))).row.2 enSl_len
       replace G := bnd G; obtain ⟨t26, ht26, G⟩ := G
       replace G := gd G; obtain ⟨b27, G⟩ := G
       replace G := gd G; obtain ⟨b28, G⟩ := G
       replace G := bnd G; obtain ⟨t29, ht29, G⟩ := G
       obtain ⟨p_t29, c_t29, y_t29⟩ := sl_get h_x17 ht29
       refine k_rg mixed H (.v 18 (.slice p_x17 L_x17.length c_x17) <|
   .v 19 (vI x9) <|
   .v 20 (.slice p_x17 L_x17.length c_x17) <|
   .v 21 (vI x9) <|
   .cons [22] (ok_val (fun u22 => .pointer (some ⟨hdB p_x17, hdO p_x17 + x9.toNat * 1, none⟩)) 22 (hv := fun _ _ => ix_pure (t := 27) (k := .i64) (i := x9) (p := p_x17) (n := L_x17.length) (cap := c_x17) (x := x17) P25 (map_len h_x17) b23 (by kernel_rfl))) <|
   .cons [23] (ok_valL [900082] (fun u22 => [nsK 22 37 2 en_TInterval p_x17 L_x17.length c_x17 L_x17 L_x17]) (fun u22 => .slice p_t24 t24.length c_t24) (fun u22 => true) [true] 23 (fun u22 w hg hF => ld_row (en := enSl) (ns_of hF.1).row.2 enSl_len y_t24 0 1 [.slice p_t24 t24.length c_t24] rfl (by kernel_rfl))) <|
   .v 24 (.func (.func 83) #[] #[vP b_a1_0 0]) <|
   .v 25 (vI x9) <|
   .v 26 (vI x18) <|
   .cons [27] (ok_callL [35, 36, 34] (fun u22 => [rdl anyF 1 p_a1_0 c_a1_0 L_a1_0 enSl, dnK anyF E_S_i64.toPart L_a1_0, bxK b_a1_0 [.slice p_a1_0 L_a1_0.length c_a1_0] 30]) 83 (fun u22 => #[vI x9, vI x18, vP b_a1_0 0]) (.agg #[vI t26.Lo, vI t26.Hi]) 27 (fun u22 w hF => matrix_FromNumbers_1_m.calls x9 x18 a1_0 b_a1_0 p_a1_0 c_a1_0 L_a1_0 t26 w h_a1_0 ⟨(rdA (rdF_of hF.1)), (dnA (dn_of hF.2.1)), (bx_fact (hF.2.2.1 w (agree.refl _ _)) 0).2.1, trivial⟩ ht26)) <|
   .cons [28, 40] (ok_new (fun b => .slice (some ⟨b, 0, none⟩) 1 1) (fun u22 => [vI t26.Lo, vI t26.Hi]) 37 28 40) <|
   .cons [29, 900082, 900082] (ok_own1 [10] [40] (fun u22 => [.blk ((u22 10).n 0) [vI t26.Lo, vI t26.Hi] 37]) 900082 (fun u22 => nsK 22 37 2 en_TInterval p_x17 L_x17.length c_x17 L_x17 L_x17) (some 29) (fun u22 g => .slice (g.o 0) (t24 ++ [t26]).length (g.n 0)) (fun u22 g => nsK 22 37 2 en_TInterval p_x17 L_x17.length c_x17 L_x17 (L_x17.set x9.toNat (⟨(g.o 0), (g.n 0), (t24 ++ [t26])⟩ : Sl TInterval))) (fun u22 w hF hK => tn_app hK y_t24 (l' := (t24 ++ [t26])) (fun h => run_app_rowN (t := 22) (ty := 22) (en := en_TInterval) en_TInterval_len inf37 h hF.1 (news := [t26]) rfl (by simp) (by kernel_rfl) b27)) (hloc := fun u u' h => ⟨by first | rfl | simp only [h 10 (by decide)], by first | rfl | simp only [h 10 (by decide)], by first | rfl | simp only [h 10 (by decide)], by first | rfl | simp only [h 10 (by decide)]⟩)) <|
   .cons [30] (ok_val (fun u22 => .pointer (some ⟨hdB p_x17, hdO p_x17 + x9.toNat * 1, none⟩)) 30 (hv := fun _ _ => ix_pure (t := 27) (k := .i64) (i := x9) (p := p_x17) (n := L_x17.length) (cap := c_x17) (x := x17) P25 (map_len h_x17) b28 (by kernel_rfl))) <|
   .cons [900082, 900082] (ok_own1 [11] [] (fun u22 => []) 900082 (fun u22 => nsK 22 37 2 en_TInterval p_x17 L_x17.length c_x17 L_x17 (L_x17.set x9.toNat (⟨((u22 11).o 0), ((u22 11).n 0), (t24 ++ [t26])⟩ : Sl TInterval))) none (fun u22 g => .nilFunc) (fun u22 g => nsK 22 37 2 en_TInterval p_x17 L_x17.length c_x17 (L_x17.set x9.toNat (⟨((u22 11).o 0), ((u22 11).n 0), (t24 ++ [t26])⟩ : Sl TInterval)) (L_x17.set x9.toNat (⟨((u22 11).o 0), ((u22 11).n 0), (t24 ++ [t26])⟩ : Sl TInterval))) (fun u22 w hF hK => tn_hd hK (fun h => el_storeN (en := enSl) h enSl_len (y := (⟨((u22 11).o 0), ((u22 11).n 0), (t24 ++ [t26])⟩ : Sl TInterval)) (vs := [.slice ((u22 11).o 0) ((t24 ++ [t26]).length) ((u22 11).n 0)]) y_t29 0 (by simp) (by simp) rfl (by kernel_rfl))) (hloc := fun u u' h => ⟨by first | rfl | simp only [h 11 (by decide)], by first | rfl | simp only [h 11 (by decide)], by first | rfl | simp only [h 11 (by decide)], by first | rfl | simp only [h 11 (by decide)]⟩)) <| .nil) fun u22 a w' H => ?_
       replace H := H.kp [0, 1, 5, 6, 10, 11, 14, 15, 35, 36, 900082, 34]
       refine k_rg mixed H (.v 31 (vI (w_i64 (x18 + 1))) <|
   .v 15 (vI (w_i64 (x18 + 1))) <| .nil) fun u30 a w' H => ?_
       replace H := H.kp [0, 1, 5, 6, 10, 11, 14, 15, 35, 36, 900082, 34]
       exact ⟨k, Nat.lt_succ_self k, _, _, G, p_x17, c_x17, L_x17.length, (L_x17.set x9.toNat (⟨((u22 11).o 0), ((u22 11).n 0), (t24 ++ [t26])⟩ : Sl TInterval)), by simp, (map_set h_x17 x9.toNat (⟨((u22 11).o 0), ((u22 11).n 0), (t24 ++ [t26])⟩ : Sl TInterval)), H.toL _ (by kernel_rfl)⟩
      ·rw [if_neg (nt c31)] at G
       refine k_exit rfl ?_
       obtain rfl := Option.some.inj G
       replace H := H.move (K := nsK 22 37 2 en_TInterval p_x17 L_x17.length c_x17 L_x17 L_x17) 900082 900080 (by kernel_rfl) (by intro _ _ h; cases h)
       exact ⟨p_x17, c_x17, L_x17.length, L_x17, rfl, h_x17, H.toL _ (by kernel_rfl)⟩
   ·rw [if_neg (nt c32)] at G
    refine k_exit rfl ?_
    obtain rfl := Option.some.inj G
    replace H := H.move (K := nsK 22 37 2 en_TInterval p_x8 L_x8.length c_x8 L_x8 L_x8) 900078 900076 (by kernel_rfl) (by intro _ _ h; cases h)
    exact ⟨p_x8, c_x8, L_x8.length, L_x8, rfl, h_x8, H.toL _ (by kernel_rfl)⟩
set_option maxHeartbeats 4000000 in
theorem matrix_FromNumbers.calls (k0 : Nat) (a0 : List (List Int)) (p_a0 : Option Addr) (c_a0 : Nat) (L_a0 : List (Sl Int)) (r : List (List TInterval)) (w : World) (h_a0 : a0 = L_a0.map Sl.l) (hB : AllH [rdl anyF 1 p_a0 c_a0 L_a0 enSl, dnK anyF E_S_i64.toPart L_a0] w) (G : matrix_FromNumbers k0 a0 = some r) :
  Calls Tryd.prog 45 #[.slice p_a0 L_a0.length c_a0] w fun e w' => ∃ g : Gh, e = .returned (.slice (g.o 0) ((g.dl Sl.l gd_S_TInterval 0 r).length) (g.n 0)) ∧ But (fpK []) w w' ∧ OutOK w.heap.size (fpK []) (frI w.heap.size []) [fun _ => nsK 22 37 2 en_TInterval (g.o 0) ((g.dl Sl.l gd_S_TInterval 0 r).length) (g.n 0) (g.dl Sl.l gd_S_TInterval 0 r) (g.dl Sl.l gd_S_TInterval 0 r)] w' := by
 obtain ⟨fr, hfr⟩ : ∃ fr : Nat → Prop, fr = frI w.heap.size [] := ⟨_, rfl⟩
 have hBf : ∀ j, w.heap.size ≤ j → fr j := fun j h => by rw [hfr]; exact .inl h
 refine k_enterF (args := [.slice p_a0 L_a0.length c_a0]) 7 [(7, rdl anyF 1 p_a0 c_a0 L_a0 enSl), (8, dnK anyF E_S_i64.toPart L_a0)] (by
  intro x hx
  simp only [List.mem_cons, List.not_mem_nil, or_false] at hx
  rcases hx with rfl | rfl
  ·exact rdF_fact (rdF_of hB.1) (fun _ _ => trivial) (by decide) _
  ·exact dn_fact (dn_of hB.2.1) (fun _ _ => trivial) _) Tryd.func45 rfl (by kernel_rfl) (by kernel_rfl) fun a H => ?_
 unfold matrix_FromNumbers at G
 refine k_seq ?_
 refine k_rg mixed H (.cons [1, 9] (ok_new (fun b => vP b 0) (fun u1 => [.slice p_a0 L_a0.length c_a0]) 30 1 9) <|
   .v 2 (.slice none 0 0) <| .nil) fun u1 a w' H => ?_
 replace H := H.kp [1, 7, 8, 9]
 refine k_seq ?_
 replace G := bnd G; obtain ⟨t3, ht3, G⟩ := G
 refine k_rg mixed H (.cons [3] (ok_ld (fun u2 => .slice p_a0 L_a0.length c_a0) 3 9 0 1 (fun u2 => ((u1 0).n 0)) (fun u2 => [.slice p_a0 L_a0.length c_a0]) 30) <|
   .cons [4] (ok_valL [7] (fun u2 => [rdl anyF 1 p_a0 c_a0 L_a0 enSl]) (fun u2 => vI (a0.length : Int)) (fun u2 => true) [true] 4 (fun u2 w hg hF => run_lenN (((rdF_of hF.1).2.len enSl_len (by decide)).trans (map_len h_a0).symm) (by kernel_rfl))) <|
   .v 5 (.func (.func 83) #[] #[vP ((u1 0).n 0) 0]) <|
   .cons [6, 10] (ok_callY false fr [] [7, 8, 9] (fun u2 => [rdl anyF 1 p_a0 c_a0 L_a0 enSl, dnK anyF E_S_i64.toPart L_a0, .blk ((u1 0).n 0) [.slice p_a0 L_a0.length c_a0] 30]) [] (fun u2 => []) 56 (fun u2 => #[vI (a0.length : Int), .func (.func 83) #[] #[vP ((u1 0).n 0) 0]]) (fun u2 => [rdl anyF 1 p_a0 c_a0 L_a0 enSl, dnK anyF E_S_i64.toPart L_a0, bxK ((u1 0).n 0) [.slice p_a0 L_a0.length c_a0] 30]) (fun u2 => []) (fun u2 g => .slice (g.o 0) ((g.dl Sl.l gd_S_TInterval 0 t3).length) (g.n 0)) (fun u2 g => [fun _ => nsK 22 37 2 en_TInterval (g.o 0) ((g.dl Sl.l gd_S_TInterval 0 t3).length) (g.n 0) (g.dl Sl.l gd_S_TInterval 0 t3) (g.dl Sl.l gd_S_TInterval 0 t3)]) [10] 6 (fun u2 w hB hF hM => api_Interval_56_s83.calls k0 (a0.length : Int) a0 ((u1 0).n 0) p_a0 c_a0 L_a0 t3 w h_a0 hB ht3) (fun u2 w hF => ⟨⟨sub_rd0 (rdF_of hF.1) (fun j h => ⟨_, (.head _), h⟩), sub_dn0 (dn_of hF.2.1) (fun j h => ⟨_, (.tail _ (.head _)), h⟩), sub_bx hF.2.2.1 (.tail _ (.tail _ (.head _))) rfl, trivial⟩, trivial⟩) (fun u2 g => (fams_cons fam_ns fams_nil)) (.inr (fun u2 g => (famx_cons trivial (fun K h => by cases h)))) (fun h => by cases h)) <|
   .cons [2] (ok_val (fun u2 => .slice ((u2 3).o 0) (((u2 3).dl Sl.l gd_S_TInterval 0 t3).length) ((u2 3).n 0)) 2) <| .nil) fun u2 a w' H => ?_
 replace H := H.kp [2, 10]
 refine k_ret ?_
 obtain rfl := Option.some.inj G
 obtain ⟨g, o0, n0, d0⟩ : ∃ g : Gh, g.o 0 = ((u2 3).o 0) ∧ g.n 0 = ((u2 3).n 0) ∧ g.dl Sl.l gd_S_TInterval 0 t3 = ((u2 3).dl Sl.l gd_S_TInterval 0 t3) := ⟨⟨fun i => [((u2 3).n 0)].getD i 0, fun i => [((u2 3).o 0)].getD i none, fun i => ([⟨List (Sl TInterval), ((u2 3).dl Sl.l gd_S_TInterval 0 t3)⟩] : List ((T : Type) × T)).getD i ⟨Unit, ()⟩⟩, rfl, rfl, dl_mk rfl (dl_er ergd_S_TInterval (u2 3) 0 t3)⟩
 refine k_doneZ H (fun g => .slice (g.o 0) ((g.dl Sl.l gd_S_TInterval 0 t3).length) (g.n 0)) g [] [] (fun g => [fun _ => nsK 22 37 2 en_TInterval (g.o 0) ((g.dl Sl.l gd_S_TInterval 0 t3).length) (g.n 0) (g.dl Sl.l gd_S_TInterval 0 t3) (g.dl Sl.l gd_S_TInterval 0 t3)]) fr [10] [] (.slice ((u2 3).o 0) (((u2 3).dl Sl.l gd_S_TInterval 0 t3).length) ((u2 3).n 0)) [fun _ => nsK 22 37 2 en_TInterval ((u2 3).o 0) (((u2 3).dl Sl.l gd_S_TInterval 0 t3).length) ((u2 3).n 0) ((u2 3).dl Sl.l gd_S_TInterval 0 t3) ((u2 3).dl Sl.l gd_S_TInterval 0 t3)] (by simp only [o0, n0, d0]) (by simp only [o0, n0, d0]) hfr (.inl ⟨rfl, rfl⟩) (fams_cons fam_ns fams_nil) (by simp)
set_option maxHeartbeats 4000000 in
theorem armillarylaw04_square.calls (a0 : Int) (a1 : Int) (a2 : Int) (a3 : Int) (r : List (List Int)) (w : World) (G : armillarylaw04_square a0 a1 a2 a3 = some r) :
  Calls Tryd.prog 46 #[vI a0, vI a1, vI a2, vI a3] w fun e w' => ∃ g : Gh, e = .returned (.slice (g.o 0) ((g.dl Sl.l gd_S_i64 0 r).length) (g.n 0)) ∧ But (fpK []) w w' ∧ OutOK w.heap.size (fpK []) (frI w.heap.size []) [fun _ => nsK 32 2 1 en_i64 (g.o 0) ((g.dl Sl.l gd_S_i64 0 r).length) (g.n 0) (g.dl Sl.l gd_S_i64 0 r) (g.dl Sl.l gd_S_i64 0 r)] w' := by
 obtain ⟨fr, hfr⟩ : ∃ fr : Nat → Prop, fr = frI w.heap.size [] := ⟨_, rfl⟩
 have hBf : ∀ j, w.heap.size ≤ j → fr j := fun j h => by rw [hfr]; exact .inl h
 refine k_enter (args := [vI a0, vI a1, vI a2, vI a3]) 20 Tryd.func46 rfl (by kernel_rfl) (by kernel_rfl) fun a H => ?_
 unfold armillarylaw04_square at G
 refine k_seq ?_
 refine k_rg mixed H (.v 8 (.slice none 0 0) <| .nil) fun u1 a w' H => ?_
 replace H := H.kp [0, 1, 2, 3]
 refine k_seq ?_
 refine k_rg mixed H (.v 9 (vI a0) <|
   .v 10 (vI (w_i64 (a0 * 65536))) <|
   .v 11 (vI a1) <|
   .v 12 (vI (w_i64 (a1 * 65536))) <|
   .cons [13, 20] (ok_new (fun b => .slice (some ⟨b, 0, none⟩) 2 2) (fun u2 => [vI (w_i64 (a0 * 65536)), vI (w_i64 (a1 * 65536))]) 2 13 20) <|
   .v 14 (vI a2) <|
   .v 15 (vI (w_i64 (a2 * 65536))) <|
   .v 16 (vI a3) <|
   .v 17 (vI (w_i64 (a3 * 65536))) <|
   .cons [18, 21] (ok_new (fun b => .slice (some ⟨b, 0, none⟩) 2 2) (fun u2 => [vI (w_i64 (a2 * 65536)), vI (w_i64 (a3 * 65536))]) 2 18 21) <|
   .cons [19, 22] (ok_new (fun b => .slice (some ⟨b, 0, none⟩) 2 2) (fun u2 => [.slice (some ⟨((u2 4).n 0), 0, none⟩) 2 2, .slice (some ⟨((u2 9).n 0), 0, none⟩) 2 2]) 32 19 22) <|
   .cons [8] (ok_val (fun u2 => .slice (some ⟨((u2 10).n 0), 0, none⟩) 2 2) 8) <| .nil) fun u2 a w' H => ?_
 replace H := H.kp [8, 20, 21, 22]
 refine k_ret ?_
 obtain rfl := Option.some.inj G
 replace H := H.blk_row 20 ((u2 4).n 0) [vI (w_i64 (a0 * 65536)), vI (w_i64 (a1 * 65536))] 2 1 2 (by kernel_rfl) (by kernel_rfl) (by decide)
 replace H := H.blk_row 21 ((u2 9).n 0) [vI (w_i64 (a2 * 65536)), vI (w_i64 (a3 * 65536))] 2 1 2 (by kernel_rfl) (by kernel_rfl) (by decide)
 replace H := H.blk_row 22 ((u2 10).n 0) [.slice (some ⟨((u2 4).n 0), 0, none⟩) 2 2, .slice (some ⟨((u2 9).n 0), 0, none⟩) 2 2] 32 1 2 (by kernel_rfl) (by kernel_rfl) (by decide)
 replace H := H.nestOpen (e := 32) (m := 2) (cap := 2) (p := (some ⟨((u2 10).n 0), 0, none⟩)) (H := ([⟨(some ⟨((u2 4).n 0), 0, none⟩), 2, ([w_i64 (a0 * 65536), w_i64 (a1 * 65536)] : List Int)⟩, ⟨(some ⟨((u2 9).n 0), 0, none⟩), 2, ([w_i64 (a2 * 65536), w_i64 (a3 * 65536)] : List Int)⟩] : List (Sl Int))) 22 2 1 en_i64 (by kernel_rfl)
 replace H := H.nestTake (e := 32) (e2 := 2) (m := 2) (cap := 2) (p := (some ⟨((u2 10).n 0), 0, none⟩)) (H := ([⟨(some ⟨((u2 4).n 0), 0, none⟩), 2, ([w_i64 (a0 * 65536), w_i64 (a1 * 65536)] : List Int)⟩, ⟨(some ⟨((u2 9).n 0), 0, none⟩), 2, ([w_i64 (a2 * 65536), w_i64 (a3 * 65536)] : List Int)⟩] : List (Sl Int))) (L := ([] : List (Sl Int))) (n2 := 2) (c := 2) (q := (some ⟨((u2 4).n 0), 0, none⟩)) (en := en_i64) (l := ([w_i64 (a0 * 65536), w_i64 (a1 * 65536)] : List Int)) 22 20 (by kernel_rfl) (by kernel_rfl) (by rfl) en_i64_len (by decide)
 replace H := H.nestTake (e := 32) (e2 := 2) (m := 2) (cap := 2) (p := (some ⟨((u2 10).n 0), 0, none⟩)) (H := ([⟨(some ⟨((u2 4).n 0), 0, none⟩), 2, ([w_i64 (a0 * 65536), w_i64 (a1 * 65536)] : List Int)⟩, ⟨(some ⟨((u2 9).n 0), 0, none⟩), 2, ([w_i64 (a2 * 65536), w_i64 (a3 * 65536)] : List Int)⟩] : List (Sl Int))) (L := (([] : List (Sl Int)) ++ [⟨(some ⟨((u2 4).n 0), 0, none⟩), 2, ([w_i64 (a0 * 65536), w_i64 (a1 * 65536)] : List Int)⟩])) (n2 := 2) (c := 2) (q := (some ⟨((u2 9).n 0), 0, none⟩)) (en := en_i64) (l := ([w_i64 (a2 * 65536), w_i64 (a3 * 65536)] : List Int)) 22 21 (by kernel_rfl) (by kernel_rfl) (by rfl) en_i64_len (by decide)
 obtain ⟨g, o0, n0, d0⟩ : ∃ g : Gh, g.o 0 = (some ⟨((u2 10).n 0), 0, none⟩) ∧ g.n 0 = 2 ∧ g.dl Sl.l gd_S_i64 0 ([([w_i64 (a0 * 65536), w_i64 (a1 * 65536)] : List Int), ([w_i64 (a2 * 65536), w_i64 (a3 * 65536)] : List Int)] : List (List Int)) = ([⟨(some ⟨((u2 4).n 0), 0, none⟩), 2, ([w_i64 (a0 * 65536), w_i64 (a1 * 65536)] : List Int)⟩, ⟨(some ⟨((u2 9).n 0), 0, none⟩), 2, ([w_i64 (a2 * 65536), w_i64 (a3 * 65536)] : List Int)⟩] : List (Sl Int)) := ⟨⟨fun i => [2].getD i 0, fun i => [(some ⟨((u2 10).n 0), 0, none⟩)].getD i none, fun i => ([⟨List (Sl Int), ([⟨(some ⟨((u2 4).n 0), 0, none⟩), 2, ([w_i64 (a0 * 65536), w_i64 (a1 * 65536)] : List Int)⟩, ⟨(some ⟨((u2 9).n 0), 0, none⟩), 2, ([w_i64 (a2 * 65536), w_i64 (a3 * 65536)] : List Int)⟩] : List (Sl Int))⟩] : List ((T : Type) × T)).getD i ⟨Unit, ()⟩⟩, rfl, rfl, dl_mk rfl rfl⟩
 refine k_doneZ H (fun g => .slice (g.o 0) ((g.dl Sl.l gd_S_i64 0 ([([w_i64 (a0 * 65536), w_i64 (a1 * 65536)] : List Int), ([w_i64 (a2 * 65536), w_i64 (a3 * 65536)] : List Int)] : List (List Int))).length) (g.n 0)) g [] [] (fun g => [fun _ => nsK 32 2 1 en_i64 (g.o 0) ((g.dl Sl.l gd_S_i64 0 ([([w_i64 (a0 * 65536), w_i64 (a1 * 65536)] : List Int), ([w_i64 (a2 * 65536), w_i64 (a3 * 65536)] : List Int)] : List (List Int))).length) (g.n 0) (g.dl Sl.l gd_S_i64 0 ([([w_i64 (a0 * 65536), w_i64 (a1 * 65536)] : List Int), ([w_i64 (a2 * 65536), w_i64 (a3 * 65536)] : List Int)] : List (List Int))) (g.dl Sl.l gd_S_i64 0 ([([w_i64 (a0 * 65536), w_i64 (a1 * 65536)] : List Int), ([w_i64 (a2 * 65536), w_i64 (a3 * 65536)] : List Int)] : List (List Int)))]) fr [22] [] (.slice (some ⟨((u2 10).n 0), 0, none⟩) 2 2) [fun _ => nsK 32 2 1 en_i64 (some ⟨((u2 10).n 0), 0, none⟩) 2 2 ([⟨(some ⟨((u2 4).n 0), 0, none⟩), 2, ([w_i64 (a0 * 65536), w_i64 (a1 * 65536)] : List Int)⟩, ⟨(some ⟨((u2 9).n 0), 0, none⟩), 2, ([w_i64 (a2 * 65536), w_i64 (a3 * 65536)] : List Int)⟩] : List (Sl Int)) ([⟨(some ⟨((u2 4).n 0), 0, none⟩), 2, ([w_i64 (a0 * 65536), w_i64 (a1 * 65536)] : List Int)⟩, ⟨(some ⟨((u2 9).n 0), 0, none⟩), 2, ([w_i64 (a2 * 65536), w_i64 (a3 * 65536)] : List Int)⟩] : List (Sl Int))] (by simp only [o0, n0, d0, List.length_set, List.length_cons, List.length_nil, Nat.zero_add, Nat.reduceAdd]) (by simp only [o0, n0, d0, List.length_set, List.length_cons, List.length_nil, Nat.zero_add, Nat.reduceAdd]) hfr (.inl ⟨rfl, rfl⟩) (fams_cons fam_ns fams_nil) (by simp)
set_option maxHeartbeats 4000000 in
theorem interval_Mid.calls (a0 : TInterval) (r : Int) (w : World) (G : interval_Mid a0 = some r) :
  Calls Tryd.prog 85 #[.agg #[vI a0.Lo, vI a0.Hi]] w fun e w' => e = .returned (vI r) ∧ Below w.heap.size w w' := by
 refine k_enter (args := [.agg #[vI a0.Lo, vI a0.Hi]]) 9 Tryd.func85 rfl (by kernel_rfl) (by kernel_rfl) fun a H => ?_
 unfold interval_Mid at G
 refine k_seq ?_
 refine k_rg mixed H (.cons [1, 9] (ok_new (fun b => vP b 0) (fun u1 => [vI a0.Lo, vI a0.Hi]) 37 1 9) <|
   .v 2 (vI 0) <| .nil) fun u1 a w' H => ?_
 replace H := H.kp [1, 9]
 refine k_seq ?_
 refine k_rg mixed H (.v 3 (vP ((u1 0).n 0) 0) <|
   .cons [4] (ok_ld (fun u2 => vI a0.Lo) 4 9 0 1 (fun u2 => ((u1 0).n 0)) (fun u2 => [vI a0.Lo, vI a0.Hi]) 37) <|
   .v 5 (vP ((u1 0).n 0) 1) <|
   .cons [6] (ok_ld (fun u2 => vI a0.Hi) 6 9 1 1 (fun u2 => ((u1 0).n 0)) (fun u2 => [vI a0.Lo, vI a0.Hi]) 37) <|
   .v 7 (vI (w_i64 (a0.Lo + a0.Hi))) <|
   .v 8 (vI (Int.fdiv (w_i64 (a0.Lo + a0.Hi)) 2)) <|
   .v 2 (vI (Int.fdiv (w_i64 (a0.Lo + a0.Hi)) 2)) <| .nil) fun u2 a w' H => ?_
 replace H := H.kp [2]
 refine k_ret ?_
 obtain rfl := Option.some.inj G
 exact k_done0 H _ (by kernel_rfl) (by kernel_rfl)
set_option maxHeartbeats 4000000 in
theorem matrix_Mid_1_m.calls (a0 : Int) (a1 : Int) (q0 : List (List TInterval)) (b_q0 : Nat) (p_q0 : Option Addr) (c_q0 : Nat) (L_q0 : List (Sl TInterval)) (r : Int) (w : World) (h_q0 : q0 = L_q0.map Sl.l) (hB : AllH [rdl anyF 1 p_q0 c_q0 L_q0 enSl, dnK anyF E_S_TInterval.toPart L_q0, bxK b_q0 [.slice p_q0 L_q0.length c_q0] 27] w) (G : matrix_Mid_1_m a0 a1 q0 = some r) :
  Calls Tryd.prog 84 #[vI a0, vI a1, vP b_q0 0] w fun e w' => e = .returned (vI r) ∧ Below w.heap.size w w' := by
 obtain ⟨fr, hfr⟩ : ∃ fr : Nat → Prop, ∀ j, fr j := ⟨fun _ => True, fun _ => trivial⟩
 have hBf : ∀ j, w.heap.size ≤ j → fr j := fun j _ => hfr j
 refine k_enterF (args := [vI a0, vI a1, vP b_q0 0]) 14 [(15, rdl anyF 1 p_q0 c_q0 L_q0 enSl), (16, dnK anyF E_S_TInterval.toPart L_q0), (14, bxK b_q0 [.slice p_q0 L_q0.length c_q0] 27)] (by
  intro x hx
  simp only [List.mem_cons, List.not_mem_nil, or_false] at hx
  rcases hx with rfl | rfl | rfl
  ·exact rdF_fact (rdF_of hB.1) (fun _ _ => trivial) (by decide) _
  ·exact dn_fact (dn_of hB.2.1) (fun _ _ => trivial) _
  ·exact bx_fact (hB.2.2.1 w (agree.refl _ _)) _) Tryd.func84 rfl (by kernel_rfl) (by kernel_rfl) fun a H => ?_
 unfold matrix_Mid_1_m at G
 refine k_seq ?_
 refine k_rg mixed H (.v 5 (vI 0) <| .nil) fun u1 a w' H => ?_
 replace H := H.kp [0, 1, 2, 15, 16, 14]
 refine k_seq ?_
 replace G := gd G; obtain ⟨b3, G⟩ := G
 replace G := bnd G; obtain ⟨t4, ht4, G⟩ := G
 obtain ⟨p_t4, c_t4, y_t4⟩ := sl_get h_q0 ht4
 replace G := gd G; obtain ⟨b5, G⟩ := G
 replace G := bnd G; obtain ⟨t6, ht6, G⟩ := G
 replace G := bnd G; obtain ⟨t7, ht7, G⟩ := G
 refine k_rg mixed H (.cons [6] (ok_ldK (fun u2 => .slice p_q0 L_q0.length c_q0) 6 14 (bxK b_q0 [.slice p_q0 L_q0.length c_q0] 27) b_q0 0 1 [.slice p_q0 L_q0.length c_q0] (fun w h => bx_of h)) <|
   .v 7 (vI a0) <|
   .cons [8] (ok_valL [15] (fun u2 => [rdl anyF 1 p_q0 c_q0 L_q0 enSl]) (fun u2 => .pointer (some ⟨hdB p_q0, hdO p_q0 + a0.toNat * 1, none⟩)) (fun u2 => true) [true, true] 8 (fun u2 w hg hF => ix_row (t := 27) (k := .i64) (i := a0) (p := p_q0) (n := L_q0.length) (cap := c_q0) (x := q0) (en := enSl) (rdF_of hF.1).2 enSl_len (map_len h_q0) b3 (by kernel_rfl))) <|
   .cons [9] (ok_valL [15] (fun u2 => [rdl anyF 1 p_q0 c_q0 L_q0 enSl]) (fun u2 => .slice p_t4 t4.length c_t4) (fun u2 => true) [true] 9 (fun u2 w hg hF => ld_row (en := enSl) (rdF_of hF.1).2 enSl_len y_t4 0 1 [.slice p_t4 t4.length c_t4] rfl (by kernel_rfl))) <|
   .v 10 (vI a1) <|
   .cons [11] (ok_valL [16] (fun u2 => [dnK anyF E_S_TInterval.toPart L_q0]) (fun u2 => .pointer (some ⟨hdB p_t4, hdO p_t4 + a1.toNat * 2, none⟩)) (fun u2 => true) [true, true] 11 (fun u2 w hg hF => ix_row (t := 22) (k := .i64) (i := a1) (p := p_t4) (n := t4.length) (cap := c_t4) (x := t4) (en := en_TInterval) (show RowC _ 2 p_t4 t4.length c_t4 (t4.flatMap en_TInterval) from ((dn_of hF.1) _ (List.mem_of_getElem? y_t4)).1).2 en_TInterval_len rfl b5 (by kernel_rfl))) <|
   .cons [12] (ok_valL [16] (fun u2 => [dnK anyF E_S_TInterval.toPart L_q0]) (fun u2 => .agg #[vI t6.Lo, vI t6.Hi]) (fun u2 => true) [true] 12 (fun u2 w hg hF => ld_row (en := en_TInterval) (show RowC _ 2 p_t4 t4.length c_t4 (t4.flatMap en_TInterval) from ((dn_of hF.1) _ (List.mem_of_getElem? y_t4)).1).2 en_TInterval_len ht6 0 2 [vI t6.Lo, vI t6.Hi] rfl (by kernel_rfl))) <|
   .cons [13] (ok_callv 85 (fun u2 => #[.agg #[vI t6.Lo, vI t6.Hi]]) (vI t7) 13 [] (fun u2 w _ => interval_Mid.calls t6  t7 w  ht7)) <|
   .v 5 (vI t7) <| .nil) fun u2 a w' H => ?_
 replace H := H.kp [5, 15, 16, 14]
 refine k_ret ?_
 obtain rfl := Option.some.inj G
 exact k_done0 H _ (by kernel_rfl) (by kernel_rfl)
set_option maxHeartbeats 4000000 in
theorem matrix_build_int64_s84.calls (k0 : Nat) (a0 : Int) (a1_0 : List (List TInterval)) (b_a1_0 : Nat) (p_a1_0 : Option Addr) (c_a1_0 : Nat) (L_a1_0 : List (Sl TInterval)) (r : List (List Int)) (w : World) (h_a1_0 : a1_0 = L_a1_0.map Sl.l) (hB : AllH [rdl anyF 1 p_a1_0 c_a1_0 L_a1_0 enSl, dnK anyF E_S_TInterval.toPart L_a1_0, bxK b_a1_0 [.slice p_a1_0 L_a1_0.length c_a1_0] 27] w) (G : matrix_build_int64_s84 k0 a0 a1_0 = some r) :
  Calls Tryd.prog 67 #[vI a0, .func (.func 84) #[] #[vP b_a1_0 0]] w fun e w' => ∃ g : Gh, e = .returned (.slice (g.o 0) ((g.dl Sl.l gd_S_i64 0 r).length) (g.n 0)) ∧ But (fpK []) w w' ∧ OutOK w.heap.size (fpK []) (frI w.heap.size []) [fun _ => nsK 32 2 1 en_i64 (g.o 0) ((g.dl Sl.l gd_S_i64 0 r).length) (g.n 0) (g.dl Sl.l gd_S_i64 0 r) (g.dl Sl.l gd_S_i64 0 r)] w' := by
 obtain ⟨fr, hfr⟩ : ∃ fr : Nat → Prop, fr = frI w.heap.size [] := ⟨_, rfl⟩
 have hBf : ∀ j, w.heap.size ≤ j → fr j := fun j h => by rw [hfr]; exact .inl h
 refine k_enterF (args := [vI a0, .func (.func 84) #[] #[vP b_a1_0 0]]) 34 [(35, rdl anyF 1 p_a1_0 c_a1_0 L_a1_0 enSl), (36, dnK anyF E_S_TInterval.toPart L_a1_0), (34, bxK b_a1_0 [.slice p_a1_0 L_a1_0.length c_a1_0] 27)] (by
  intro x hx
  simp only [List.mem_cons, List.not_mem_nil, or_false] at hx
  rcases hx with rfl | rfl | rfl
  ·exact rdF_fact (rdF_of hB.1) (fun _ _ => trivial) (by decide) _
  ·exact dn_fact (dn_of hB.2.1) (fun _ _ => trivial) _
  ·exact bx_fact (hB.2.2.1 w (agree.refl _ _)) _) Tryd.func67 rfl (by kernel_rfl) (by kernel_rfl) fun a H => ?_
 unfold matrix_build_int64_s84 at G
 refine k_seq ?_
 refine k_rg mixed H (.v 4 (.slice none 0 0) <| .nil) fun u1 a w' H => ?_
 replace H := H.kp [0, 1, 35, 36, 34]
 refine k_seq ?_
 replace G := gd G; obtain ⟨b3, G⟩ := G
 refine k_rg mixed H (.v 8 (vI a0) <|
   .cons [9, 37] (ok_nest0 2 1 en_i64 (ok_rowL [] (fun u2 => []) 32 1 (List.replicate a0.toNat (⟨none, 0, []⟩ : Sl Int)).length ((List.replicate a0.toNat (⟨none, 0, []⟩ : Sl Int)).flatMap enSl) 9 37 (fun _ => .none) (fun u2 w hF => run_make_row (t := 30) (k := .i64) (m := a0) (en := enSl) (z := (⟨none, 0, []⟩ : Sl Int)) enSl_len inf32 rfl b3 (by kernel_rfl)) (fun _ => .inl rfl)) repl_nil) <|
   .cons [5] (ok_val (fun u2 => .slice ((u2 1).o 0) ((List.replicate a0.toNat (⟨none, 0, []⟩ : Sl Int)).length) ((u2 1).n 0)) 5) <| .nil) fun u2 a w' H => ?_
 replace H := H.kp [0, 1, 5, 35, 36, 37, 34]
 refine k_seq ?_
 replace G := bnd G; obtain ⟨j5, hj5, G⟩ := G
 refine k_join (fun a w' => ∃ (p_j4 : Option Addr) (c_j4 np_j4 : Nat) (L_j4 : List (Sl Int)), np_j4 = L_j4.length ∧ j5 = L_j4.map Sl.l ∧ Rep w.heap.size w 34 (ofL [(5, sS p_j4 np_j4 c_j4), (35, rdl anyF 1 p_a1_0 c_a1_0 L_a1_0 enSl), (36, dnK anyF E_S_TInterval.toPart L_a1_0), (900084, nsK 32 2 1 en_i64 p_j4 np_j4 c_j4 L_j4 L_j4), (34, bxK b_a1_0 [.slice p_a1_0 L_a1_0.length c_a1_0] 27)]) a w') ?_ ?_
 ·clear H; rintro a w' ⟨p_j4, c_j4, _, L_j4, rfl, h_j4, H⟩
  refine k_seq ?_
  refine k_rg mixed H (.v 33 (.slice p_j4 L_j4.length c_j4) <|
   .v 4 (.slice p_j4 L_j4.length c_j4) <| .nil) fun u6 a w' H => ?_
  replace H := H.kp [4, 35, 36, 900084, 34]
  refine k_ret ?_
  obtain rfl := Option.some.inj G
  obtain ⟨g, o0, n0, d0⟩ : ∃ g : Gh, g.o 0 = p_j4 ∧ g.n 0 = c_j4 ∧ g.dl Sl.l gd_S_i64 0 j5 = L_j4 := ⟨⟨fun i => [c_j4].getD i 0, fun i => [p_j4].getD i none, fun i => ([⟨List (Sl Int), L_j4⟩] : List ((T : Type) × T)).getD i ⟨Unit, ()⟩⟩, rfl, rfl, dl_mk rfl h_j4⟩
  refine k_doneZ H (fun g => .slice (g.o 0) ((g.dl Sl.l gd_S_i64 0 j5).length) (g.n 0)) g [] [] (fun g => [fun _ => nsK 32 2 1 en_i64 (g.o 0) ((g.dl Sl.l gd_S_i64 0 j5).length) (g.n 0) (g.dl Sl.l gd_S_i64 0 j5) (g.dl Sl.l gd_S_i64 0 j5)]) fr [900084] [] (.slice p_j4 L_j4.length c_j4) [fun _ => nsK 32 2 1 en_i64 p_j4 L_j4.length c_j4 L_j4 L_j4] (by simp only [o0, n0, d0]) (by simp only [o0, n0, d0]) hfr (.inl ⟨rfl, rfl⟩) (fams_cons fam_ns fams_nil) (by simp)
 ·clear G; replace G := hj5; clear hj5
  refine k_seq ?_
  refine k_rg mixed H (.v 10 (vI a0) <|
   .v 11 (vI 0) <| .nil) fun u7 a w' H => ?_
  replace H := H.kp [0, 1, 5, 10, 11, 35, 36, 37, 34]
  refine k_block ?_
  replace H := H.move (K := nsK 32 2 1 en_i64 ((u2 1).o 0) ((List.replicate a0.toNat (⟨none, 0, []⟩ : Sl Int)).length) ((u2 1).n 0) (List.replicate a0.toNat (⟨none, 0, []⟩ : Sl Int)) (List.replicate a0.toNat (⟨none, 0, []⟩ : Sl Int))) 37 900086 (by kernel_rfl) (by intro _ _ h; cases h)
  refine k_loopJ (fun m a w' => ∃ x8 : List (List Int), ∃ x9 : Int, matrix_build_int64_s84.l10 k0 a0 a1_0 m x8 x9 = some j5 ∧ ∃ (p_x8 : Option Addr) (c_x8 np_x8 : Nat) (L_x8 : List (Sl Int)), np_x8 = L_x8.length ∧ x8 = L_x8.map Sl.l ∧ Rep w.heap.size w 34 (ofL [(0, sI a0), (1, .slot true (.func (.func 84) #[] #[vP b_a1_0 0])), (5, sS p_x8 np_x8 c_x8), (10, sI a0), (11, sI x9), (35, rdl anyF 1 p_a1_0 c_a1_0 L_a1_0 enSl), (36, dnK anyF E_S_TInterval.toPart L_a1_0), (900086, nsK 32 2 1 en_i64 p_x8 np_x8 c_x8 L_x8 L_x8), (34, bxK b_a1_0 [.slice p_a1_0 L_a1_0.length c_a1_0] 27)]) a w') k0 ⟨_, _, G, ((u2 1).o 0), ((u2 1).n 0), (List.replicate a0.toNat (⟨none, 0, []⟩ : Sl Int)).length, (List.replicate a0.toNat (⟨none, 0, []⟩ : Sl Int)), rfl, (map_repl a0.toNat (⟨none, 0, []⟩ : Sl Int)), H.toL _ (by kernel_rfl)⟩ ?_
  clear G H
  rintro (_ | k) a w' ⟨x8, x9, G, p_x8, c_x8, _, L_x8, rfl, h_x8, H⟩
  ·exact absurd G (by unfold matrix_build_int64_s84.l10; exact fun h => by cases h)
  ·unfold matrix_build_int64_s84.l10 at G
   refine k_seq ?_
   refine k_rg mixed H (.v 12 (.bool (decide (x9 < a0))) <| .nil) fun u11 a w' H => ?_
   replace H := H.kp [0, 1, 5, 10, 11, 12, 35, 36, 900086, 34]
   refine k_seq ?_
   refine k_cond H (by kernel_rfl) (t := decide (x9 < a0)) (by kernel_rfl) (fun c32 => ?_) (fun c32 => ?_)
   ·rw [if_pos c32] at G
    refine k_skip ?_
    refine k_seq ?_
    replace G := bnd G; obtain ⟨j13, hj13, G⟩ := G
    refine k_join (fun a w' => ∃ (p_j12 : Option Addr) (c_j12 np_j12 : Nat) (L_j12 : List (Sl Int)), np_j12 = L_j12.length ∧ j13 = L_j12.map Sl.l ∧ Rep w.heap.size w 34 (ofL [(0, sI a0), (1, .slot true (.func (.func 84) #[] #[vP b_a1_0 0])), (5, sS p_j12 np_j12 c_j12), (10, sI a0), (11, sI x9), (35, rdl anyF 1 p_a1_0 c_a1_0 L_a1_0 enSl), (36, dnK anyF E_S_TInterval.toPart L_a1_0), (900088, nsK 32 2 1 en_i64 p_j12 np_j12 c_j12 L_j12 L_j12), (34, bxK b_a1_0 [.slice p_a1_0 L_a1_0.length c_a1_0] 27)]) a w') ?_ ?_
    ·clear H; rintro a w' ⟨p_j12, c_j12, _, L_j12, rfl, h_j12, H⟩
     refine k_rg mixed H (.v 32 (vI (w_i64 (x9 + 1))) <|
   .v 11 (vI (w_i64 (x9 + 1))) <| .nil) fun u14 a w' H => ?_
     replace H := H.kp [0, 1, 5, 10, 11, 35, 36, 900088, 34]
     replace H := H.move (K := nsK 32 2 1 en_i64 p_j12 L_j12.length c_j12 L_j12 L_j12) 900088 900086 (by kernel_rfl) (by intro _ _ h; cases h)
     exact ⟨k, Nat.lt_succ_self k, _, _, G, p_j12, c_j12, L_j12.length, L_j12, rfl, h_j12, H.toL _ (by kernel_rfl)⟩
    ·clear G; replace G := hj13; clear hj13
     refine k_block ?_
     refine k_seq ?_
     refine k_rg mixed H (.v 13 (vI x9) <|
   .v 6 (vI x9) <| .nil) fun u15 a w' H => ?_
     replace H := H.kp [0, 1, 5, 6, 10, 11, 35, 36, 900086, 34]
     refine k_seq ?_
     refine k_rg mixed H (.v 14 (vI a0) <|
   .v 15 (vI 0) <| .nil) fun u16 a w' H => ?_
     replace H := H.kp [0, 1, 5, 6, 10, 11, 14, 15, 35, 36, 900086, 34]
     refine k_block ?_
     replace H := H.move (K := nsK 32 2 1 en_i64 p_x8 L_x8.length c_x8 L_x8 L_x8) 900086 900090 (by kernel_rfl) (by intro _ _ h; cases h)
     refine k_loopJ (fun m a w' => ∃ x17 : List (List Int), ∃ x18 : Int, matrix_build_int64_s84.l19 k0 a0 a1_0 x8 x9 m x17 x18 = some j13 ∧ ∃ (p_x17 : Option Addr) (c_x17 np_x17 : Nat) (L_x17 : List (Sl Int)), np_x17 = L_x17.length ∧ x17 = L_x17.map Sl.l ∧ Rep w.heap.size w 34 (ofL [(0, sI a0), (1, .slot true (.func (.func 84) #[] #[vP b_a1_0 0])), (5, sS p_x17 np_x17 c_x17), (6, sI x9), (10, sI a0), (11, sI x9), (14, sI a0), (15, sI x18), (35, rdl anyF 1 p_a1_0 c_a1_0 L_a1_0 enSl), (36, dnK anyF E_S_TInterval.toPart L_a1_0), (900090, nsK 32 2 1 en_i64 p_x17 np_x17 c_x17 L_x17 L_x17), (34, bxK b_a1_0 [.slice p_a1_0 L_a1_0.length c_a1_0] 27)]) a w') k0 ⟨_, _, G, p_x8, c_x8, L_x8.length, L_x8, rfl, h_x8, H.toL _ (by kernel_rfl)⟩ ?_
     clear G H
     rintro (_ | k) a w' ⟨x17, x18, G, p_x17, c_x17, _, L_x17, rfl, h_x17, H⟩
     ·exact absurd G (by unfold matrix_build_int64_s84.l19; exact fun h => by cases h)
     ·unfold matrix_build_int64_s84.l19 at G
      refine k_seq ?_
      refine k_rg mixed H (.v 16 (.bool (decide (x18 < a0))) <| .nil) fun u20 a w' H => ?_
      replace H := H.kp [0, 1, 5, 6, 10, 11, 14, 15, 16, 35, 36, 900090, 34]
      refine k_seq ?_
      refine k_cond H (by kernel_rfl) (t := decide (x18 < a0)) (by kernel_rfl) (fun c31 => ?_) (fun c31 => ?_)
      ·rw [if_pos c31] at G
       refine k_skip ?_
       refine k_seq ?_
       refine k_block ?_
       refine k_seq ?_
       refine k_rg mixed H (.v 17 (vI x18) <|
   .v 7 (vI x18) <| .nil) fun u21 a w' H => ?_
       replace H := H.kp [0, 1, 5, 6, 7, 10, 11, 14, 15, 35, 36, 900090, 34]
       replace G := gd G; obtain ⟨b23, G⟩ := G
       replace G := bnd G; obtain ⟨t24, ht24, G⟩ := G
       obtain ⟨p_t24, c_t24, y_t24⟩ := sl_get h_x17 ht24
       have P25 := ptr_of (en := enSl) (l := L_x17) (ns_of (H.at (K := nsK 32 2 1 en_i64 p_x17 L_x17.length c_x17 L_x17 L_x17) 900090 (by kernel_rfl))).row.2 enSl_len
       replace G := bnd G; obtain ⟨t26, ht26, G⟩ := G
       replace G := gd G; obtain ⟨b27, G⟩ := G
       replace G := gd G; obtain ⟨b28, G⟩ := G
       replace G := bnd G; obtain ⟨t29, ht29, G⟩ := G
       obtain ⟨p_t29, c_t29, y_t29⟩ := sl_get h_x17 ht29
       refine k_rg mixed H (.v 18 (.slice p_x17 L_x17.length c_x17) <|
   .v 19 (vI x9) <|
   .v 20 (.slice p_x17 L_x17.length c_x17) <|
   .v 21 (vI x9) <|
   .cons [22] (ok_val (fun u22 => .pointer (some ⟨hdB p_x17, hdO p_x17 + x9.toNat * 1, none⟩)) 22 (hv := fun _ _ => ix_pure (t := 30) (k := .i64) (i := x9) (p := p_x17) (n := L_x17.length) (cap := c_x17) (x := x17) P25 (map_len h_x17) b23 (by kernel_rfl))) <|
   .cons [23] (ok_valL [900090] (fun u22 => [nsK 32 2 1 en_i64 p_x17 L_x17.length c_x17 L_x17 L_x17]) (fun u22 => .slice p_t24 t24.length c_t24) (fun u22 => true) [true] 23 (fun u22 w hg hF => ld_row (en := enSl) (ns_of hF.1).row.2 enSl_len y_t24 0 1 [.slice p_t24 t24.length c_t24] rfl (by kernel_rfl))) <|
   .v 24 (.func (.func 84) #[] #[vP b_a1_0 0]) <|
   .v 25 (vI x9) <|
   .v 26 (vI x18) <|
   .cons [27] (ok_callL [35, 36, 34] (fun u22 => [rdl anyF 1 p_a1_0 c_a1_0 L_a1_0 enSl, dnK anyF E_S_TInterval.toPart L_a1_0, bxK b_a1_0 [.slice p_a1_0 L_a1_0.length c_a1_0] 27]) 84 (fun u22 => #[vI x9, vI x18, vP b_a1_0 0]) (vI t26) 27 (fun u22 w hF => matrix_Mid_1_m.calls x9 x18 a1_0 b_a1_0 p_a1_0 c_a1_0 L_a1_0 t26 w h_a1_0 ⟨(rdA (rdF_of hF.1)), (dnA (dn_of hF.2.1)), (bx_fact (hF.2.2.1 w (agree.refl _ _)) 0).2.1, trivial⟩ ht26)) <|
   .cons [28, 40] (ok_new (fun b => .slice (some ⟨b, 0, none⟩) 1 1) (fun u22 => [vI t26]) 2 28 40) <|
   .cons [29, 900090, 900090] (ok_own1 [10] [40] (fun u22 => [.blk ((u22 10).n 0) [vI t26] 2]) 900090 (fun u22 => nsK 32 2 1 en_i64 p_x17 L_x17.length c_x17 L_x17 L_x17) (some 29) (fun u22 g => .slice (g.o 0) (t24 ++ [t26]).length (g.n 0)) (fun u22 g => nsK 32 2 1 en_i64 p_x17 L_x17.length c_x17 L_x17 (L_x17.set x9.toNat (⟨(g.o 0), (g.n 0), (t24 ++ [t26])⟩ : Sl Int))) (fun u22 w hF hK => tn_app hK y_t24 (l' := (t24 ++ [t26])) (fun h => run_app_rowN (t := 32) (ty := 32) (en := en_i64) en_i64_len inf2 h hF.1 (news := [t26]) rfl (by simp) (by kernel_rfl) b27)) (hloc := fun u u' h => ⟨by first | rfl | simp only [h 10 (by decide)], by first | rfl | simp only [h 10 (by decide)], by first | rfl | simp only [h 10 (by decide)], by first | rfl | simp only [h 10 (by decide)]⟩)) <|
   .cons [30] (ok_val (fun u22 => .pointer (some ⟨hdB p_x17, hdO p_x17 + x9.toNat * 1, none⟩)) 30 (hv := fun _ _ => ix_pure (t := 30) (k := .i64) (i := x9) (p := p_x17) (n := L_x17.length) (cap := c_x17) (x := x17) P25 (map_len h_x17) b28 (by kernel_rfl))) <|
   .cons [900090, 900090] (ok_own1 [11] [] (fun u22 => []) 900090 (fun u22 => nsK 32 2 1 en_i64 p_x17 L_x17.length c_x17 L_x17 (L_x17.set x9.toNat (⟨((u22 11).o 0), ((u22 11).n 0), (t24 ++ [t26])⟩ : Sl Int))) none (fun u22 g => .nilFunc) (fun u22 g => nsK 32 2 1 en_i64 p_x17 L_x17.length c_x17 (L_x17.set x9.toNat (⟨((u22 11).o 0), ((u22 11).n 0), (t24 ++ [t26])⟩ : Sl Int)) (L_x17.set x9.toNat (⟨((u22 11).o 0), ((u22 11).n 0), (t24 ++ [t26])⟩ : Sl Int))) (fun u22 w hF hK => tn_hd hK (fun h => el_storeN (en := enSl) h enSl_len (y := (⟨((u22 11).o 0), ((u22 11).n 0), (t24 ++ [t26])⟩ : Sl Int)) (vs := [.slice ((u22 11).o 0) ((t24 ++ [t26]).length) ((u22 11).n 0)]) y_t29 0 (by simp) (by simp) rfl (by kernel_rfl))) (hloc := fun u u' h => ⟨by first | rfl | simp only [h 11 (by decide)], by first | rfl | simp only [h 11 (by decide)], by first | rfl | simp only [h 11 (by decide)], by first | rfl | simp only [h 11 (by decide)]⟩)) <| .nil) fun u22 a w' H => ?_
       replace H := H.kp [0, 1, 5, 6, 10, 11, 14, 15, 35, 36, 900090, 34]
       refine k_rg mixed H (.v 31 (vI (w_i64 (x18 + 1))) <|
   .v 15 (vI (w_i64 (x18 + 1))) <| .nil) fun u30 a w' H => ?_
       replace H := H.kp [0, 1, 5, 6, 10, 11, 14, 15, 35, 36, 900090, 34]
       exact ⟨k, Nat.lt_succ_self k, _, _, G, p_x17, c_x17, L_x17.length, (L_x17.set x9.toNat (⟨((u22 11).o 0), ((u22 11).n 0), (t24 ++ [t26])⟩ : Sl Int)), by simp, (map_set h_x17 x9.toNat (⟨((u22 11).o 0), ((u22 11).n 0), (t24 ++ [t26])⟩ : Sl Int)), H.toL _ (by kernel_rfl)⟩
      ·rw [if_neg (nt c31)] at G
       refine k_exit rfl ?_
       obtain rfl := Option.some.inj G
       replace H := H.move (K := nsK 32 2 1 en_i64 p_x17 L_x17.length c_x17 L_x17 L_x17) 900090 900088 (by kernel_rfl) (by intro _ _ h; cases h)
       exact ⟨p_x17, c_x17, L_x17.length, L_x17, rfl, h_x17, H.toL _ (by kernel_rfl)⟩
   ·rw [if_neg (nt c32)] at G
    refine k_exit rfl ?_
    obtain rfl := Option.some.inj G
    replace H := H.move (K := nsK 32 2 1 en_i64 p_x8 L_x8.length c_x8 L_x8 L_x8) 900086 900084 (by kernel_rfl) (by intro _ _ h; cases h)
    exact ⟨p_x8, c_x8, L_x8.length, L_x8, rfl, h_x8, H.toL _ (by kernel_rfl)⟩
set_option maxHeartbeats 4000000 in
theorem matrix_Mid.calls (k0 : Nat) (a0 : List (List TInterval)) (p_a0 : Option Addr) (c_a0 : Nat) (L_a0 : List (Sl TInterval)) (r : List (List Int)) (w : World) (h_a0 : a0 = L_a0.map Sl.l) (hB : AllH [rdl anyF 1 p_a0 c_a0 L_a0 enSl, dnK anyF E_S_TInterval.toPart L_a0] w) (G : matrix_Mid k0 a0 = some r) :
  Calls Tryd.prog 47 #[.slice p_a0 L_a0.length c_a0] w fun e w' => ∃ g : Gh, e = .returned (.slice (g.o 0) ((g.dl Sl.l gd_S_i64 0 r).length) (g.n 0)) ∧ But (fpK []) w w' ∧ OutOK w.heap.size (fpK []) (frI w.heap.size []) [fun _ => nsK 32 2 1 en_i64 (g.o 0) ((g.dl Sl.l gd_S_i64 0 r).length) (g.n 0) (g.dl Sl.l gd_S_i64 0 r) (g.dl Sl.l gd_S_i64 0 r)] w' := by
 obtain ⟨fr, hfr⟩ : ∃ fr : Nat → Prop, fr = frI w.heap.size [] := ⟨_, rfl⟩
 have hBf : ∀ j, w.heap.size ≤ j → fr j := fun j h => by rw [hfr]; exact .inl h
 refine k_enterF (args := [.slice p_a0 L_a0.length c_a0]) 7 [(7, rdl anyF 1 p_a0 c_a0 L_a0 enSl), (8, dnK anyF E_S_TInterval.toPart L_a0)] (by
  intro x hx
  simp only [List.mem_cons, List.not_mem_nil, or_false] at hx
  rcases hx with rfl | rfl
  ·exact rdF_fact (rdF_of hB.1) (fun _ _ => trivial) (by decide) _
  ·exact dn_fact (dn_of hB.2.1) (fun _ _ => trivial) _) Tryd.func47 rfl (by kernel_rfl) (by kernel_rfl) fun a H => ?_
 unfold matrix_Mid at G
 refine k_seq ?_
 refine k_rg mixed H (.cons [1, 9] (ok_new (fun b => vP b 0) (fun u1 => [.slice p_a0 L_a0.length c_a0]) 27 1 9) <|
   .v 2 (.slice none 0 0) <| .nil) fun u1 a w' H => ?_
 replace H := H.kp [1, 7, 8, 9]
 refine k_seq ?_
 replace G := bnd G; obtain ⟨t3, ht3, G⟩ := G
 refine k_rg mixed H (.cons [3] (ok_ld (fun u2 => .slice p_a0 L_a0.length c_a0) 3 9 0 1 (fun u2 => ((u1 0).n 0)) (fun u2 => [.slice p_a0 L_a0.length c_a0]) 27) <|
   .cons [4] (ok_valL [7] (fun u2 => [rdl anyF 1 p_a0 c_a0 L_a0 enSl]) (fun u2 => vI (a0.length : Int)) (fun u2 => true) [true] 4 (fun u2 w hg hF => run_lenN (((rdF_of hF.1).2.len enSl_len (by decide)).trans (map_len h_a0).symm) (by kernel_rfl))) <|
   .v 5 (.func (.func 84) #[] #[vP ((u1 0).n 0) 0]) <|
   .cons [6, 10] (ok_callY false fr [] [7, 8, 9] (fun u2 => [rdl anyF 1 p_a0 c_a0 L_a0 enSl, dnK anyF E_S_TInterval.toPart L_a0, .blk ((u1 0).n 0) [.slice p_a0 L_a0.length c_a0] 27]) [] (fun u2 => []) 67 (fun u2 => #[vI (a0.length : Int), .func (.func 84) #[] #[vP ((u1 0).n 0) 0]]) (fun u2 => [rdl anyF 1 p_a0 c_a0 L_a0 enSl, dnK anyF E_S_TInterval.toPart L_a0, bxK ((u1 0).n 0) [.slice p_a0 L_a0.length c_a0] 27]) (fun u2 => []) (fun u2 g => .slice (g.o 0) ((g.dl Sl.l gd_S_i64 0 t3).length) (g.n 0)) (fun u2 g => [fun _ => nsK 32 2 1 en_i64 (g.o 0) ((g.dl Sl.l gd_S_i64 0 t3).length) (g.n 0) (g.dl Sl.l gd_S_i64 0 t3) (g.dl Sl.l gd_S_i64 0 t3)]) [10] 6 (fun u2 w hB hF hM => matrix_build_int64_s84.calls k0 (a0.length : Int) a0 ((u1 0).n 0) p_a0 c_a0 L_a0 t3 w h_a0 hB ht3) (fun u2 w hF => ⟨⟨sub_rd0 (rdF_of hF.1) (fun j h => ⟨_, (.head _), h⟩), sub_dn0 (dn_of hF.2.1) (fun j h => ⟨_, (.tail _ (.head _)), h⟩), sub_bx hF.2.2.1 (.tail _ (.tail _ (.head _))) rfl, trivial⟩, trivial⟩) (fun u2 g => (fams_cons fam_ns fams_nil)) (.inr (fun u2 g => (famx_cons trivial (fun K h => by cases h)))) (fun h => by cases h)) <|
   .cons [2] (ok_val (fun u2 => .slice ((u2 3).o 0) (((u2 3).dl Sl.l gd_S_i64 0 t3).length) ((u2 3).n 0)) 2) <| .nil) fun u2 a w' H => ?_
 replace H := H.kp [2, 10]
 refine k_ret ?_
 obtain rfl := Option.some.inj G
 obtain ⟨g, o0, n0, d0⟩ : ∃ g : Gh, g.o 0 = ((u2 3).o 0) ∧ g.n 0 = ((u2 3).n 0) ∧ g.dl Sl.l gd_S_i64 0 t3 = ((u2 3).dl Sl.l gd_S_i64 0 t3) := ⟨⟨fun i => [((u2 3).n 0)].getD i 0, fun i => [((u2 3).o 0)].getD i none, fun i => ([⟨List (Sl Int), ((u2 3).dl Sl.l gd_S_i64 0 t3)⟩] : List ((T : Type) × T)).getD i ⟨Unit, ()⟩⟩, rfl, rfl, dl_mk rfl (dl_er ergd_S_i64 (u2 3) 0 t3)⟩
 refine k_doneZ H (fun g => .slice (g.o 0) ((g.dl Sl.l gd_S_i64 0 t3).length) (g.n 0)) g [] [] (fun g => [fun _ => nsK 32 2 1 en_i64 (g.o 0) ((g.dl Sl.l gd_S_i64 0 t3).length) (g.n 0) (g.dl Sl.l gd_S_i64 0 t3) (g.dl Sl.l gd_S_i64 0 t3)]) fr [10] [] (.slice ((u2 3).o 0) (((u2 3).dl Sl.l gd_S_i64 0 t3).length) ((u2 3).n 0)) [fun _ => nsK 32 2 1 en_i64 ((u2 3).o 0) (((u2 3).dl Sl.l gd_S_i64 0 t3).length) ((u2 3).n 0) ((u2 3).dl Sl.l gd_S_i64 0 t3) ((u2 3).dl Sl.l gd_S_i64 0 t3)] (by simp only [o0, n0, d0]) (by simp only [o0, n0, d0]) hfr (.inl ⟨rfl, rfl⟩) (fams_cons fam_ns fams_nil) (by simp)
set_option maxHeartbeats 4000000 in
theorem fixed_Valid.calls (a0 : Int) (r : Bool) (w : World) (G : fixed_Valid a0 = some r) :
  Calls Tryd.prog 106 #[vI a0] w fun e w' => e = .returned (.bool r) ∧ Below w.heap.size w w' := by
 refine k_enter (args := [vI a0]) 9 Tryd.func106 rfl (by kernel_rfl) (by kernel_rfl) fun a H => ?_
 unfold fixed_Valid at G
 refine k_seq ?_
 refine k_rg mixed H (.v 2 (.bool false) <| .nil) fun u1 a w' H => ?_
 replace H := H.kp [0]
 refine k_seq ?_
 refine k_rg mixed H (.v 3 (vI a0) <|
   .v 4 (.bool (decide ((-2147483648) < a0))) <|
   .v 5 (.bool (decide ((-2147483648) < a0))) <|
   .cons [6] (ok_valg (fun u2 => vI a0) (fun u2 => ((decide ((-2147483648) < a0)) == true)) [true] 6) <|
   .cons [7] (ok_valg (fun u2 => .bool (decide (a0 < 2147483648))) (fun u2 => ((decide ((-2147483648) < a0)) == true)) [false, true] 7) <|
   .cons [8] (ok_and 5 7 (fun u2 => true) (fun u2 => true) (fun u2 => decide ((-2147483648) < a0)) (fun u2 => decide (a0 < 2147483648)) 8) <|
   .v 2 (.bool ((decide ((-2147483648) < a0)) && (decide (a0 < 2147483648)))) <| .nil) fun u2 a w' H => ?_
 replace H := H.kp [2]
 refine k_ret ?_
 obtain rfl := Option.some.inj G
 exact k_done0 H _ (by kernel_rfl) (by kernel_rfl)
set_option maxHeartbeats 4000000 in
theorem interval_Valid.calls (a0 : TInterval) (r : Bool) (w : World) (G : interval_Valid a0 = some r) :
  Calls Tryd.prog 87 #[.agg #[vI a0.Lo, vI a0.Hi]] w fun e w' => e = .returned (.bool r) ∧ Below w.heap.size w w' := by
 refine k_enter (args := [.agg #[vI a0.Lo, vI a0.Hi]]) 22 Tryd.func87 rfl (by kernel_rfl) (by kernel_rfl) fun a H => ?_
 unfold interval_Valid at G
 refine k_seq ?_
 refine k_rg mixed H (.cons [1, 22] (ok_new (fun b => vP b 0) (fun u1 => [vI a0.Lo, vI a0.Hi]) 37 1 22) <|
   .v 2 (.bool false) <| .nil) fun u1 a w' H => ?_
 replace H := H.kp [1, 22]
 refine k_seq ?_
 replace G := bnd G; obtain ⟨t3, ht3, G⟩ := G
 replace G := bnd G; obtain ⟨t4, ht4, G⟩ := G
 replace G := bnd G; obtain ⟨t5, ht5, G⟩ := G
 refine k_rg mixed H (.cons [3] (ok_ld (fun u2 => .agg #[vI a0.Lo, vI a0.Hi]) 3 22 0 2 (fun u2 => ((u1 0).n 0)) (fun u2 => [vI a0.Lo, vI a0.Hi]) 37) <|
   .cons [4] (ok_callv 76 (fun u2 => #[.agg #[vI a0.Lo, vI a0.Hi]]) (.bool t3) 4 [] (fun u2 w _ => interval_IsEntire.calls a0  t3 w  ht3)) <|
   .v 5 (.bool t3) <|
   .cons [6] (ok_valg (fun u2 => vP ((u1 0).n 0) 0) (fun u2 => (t3 == false)) [true] 6) <|
   .cons [7] (ok_ldg (fun u2 => vI a0.Lo) (fun u2 => (t3 == false)) [false] 7 22 0 1 (fun u2 => ((u1 0).n 0)) (fun u2 => [vI a0.Lo, vI a0.Hi]) 37) <|
   .cons [8] (ok_call 106 (fun u2 => #[vI a0.Lo]) (.bool t4) (fun u2 => (t3 == false)) [true, false] 8 [] (fun u2 w hg _ => fixed_Valid.calls a0.Lo  t4 w  (ifp ht4 hg))) <|
   .cons [9] (ok_valg (fun u2 => .bool t4) (fun u2 => (t3 == false)) [false] 9) <|
   .cons [10] (ok_valg (fun u2 => vP ((u1 0).n 0) 1) (fun u2 => ((t3 == false) && (t4 == true))) [true] 10) <|
   .cons [11] (ok_ldg (fun u2 => vI a0.Hi) (fun u2 => ((t3 == false) && (t4 == true))) [false] 11 22 1 1 (fun u2 => ((u1 0).n 0)) (fun u2 => [vI a0.Lo, vI a0.Hi]) 37) <|
   .cons [12] (ok_call 106 (fun u2 => #[vI a0.Hi]) (.bool t5) (fun u2 => ((t3 == false) && (t4 == true))) [true, false] 12 [] (fun u2 w hg _ => fixed_Valid.calls a0.Hi  t5 w  (ifp ht5 hg))) <|
   .cons [13] (ok_and 9 12 (fun u2 => (t3 == false)) (fun u2 => (t3 == false)) (fun u2 => t4) (fun u2 => t5) 13) <|
   .cons [14] (ok_valg (fun u2 => .bool (t4 && t5)) (fun u2 => (t3 == false)) [false] 14) <|
   .cons [15] (ok_valg (fun u2 => vP ((u1 0).n 0) 0) (fun u2 => ((t3 == false) && ((t4 && t5) == true))) [true] 15) <|
   .cons [16] (ok_ldg (fun u2 => vI a0.Lo) (fun u2 => ((t3 == false) && ((t4 && t5) == true))) [false] 16 22 0 1 (fun u2 => ((u1 0).n 0)) (fun u2 => [vI a0.Lo, vI a0.Hi]) 37) <|
   .cons [17] (ok_valg (fun u2 => vP ((u1 0).n 0) 1) (fun u2 => ((t3 == false) && ((t4 && t5) == true))) [true] 17) <|
   .cons [18] (ok_ldg (fun u2 => vI a0.Hi) (fun u2 => ((t3 == false) && ((t4 && t5) == true))) [false] 18 22 1 1 (fun u2 => ((u1 0).n 0)) (fun u2 => [vI a0.Lo, vI a0.Hi]) 37) <|
   .cons [19] (ok_valg (fun u2 => .bool (decide (a0.Lo ≤ a0.Hi))) (fun u2 => ((t3 == false) && ((t4 && t5) == true))) [false, false] 19) <|
   .cons [20] (ok_and 14 19 (fun u2 => (t3 == false)) (fun u2 => (t3 == false)) (fun u2 => (t4 && t5)) (fun u2 => decide (a0.Lo ≤ a0.Hi)) 20) <|
   .cons [21] (ok_or 5 20 (fun u2 => true) (fun u2 => true) (fun u2 => t3) (fun u2 => ((t4 && t5) && (decide (a0.Lo ≤ a0.Hi)))) 21) <|
   .v 2 (.bool (t3 || ((t4 && t5) && (decide (a0.Lo ≤ a0.Hi))))) <| .nil) fun u2 a w' H => ?_
 replace H := H.kp [2]
 refine k_ret ?_
 obtain rfl := Option.some.inj G
 exact k_done0 H _ (by kernel_rfl) (by kernel_rfl)
set_option maxHeartbeats 4000000 in
theorem matrix_Valid_1.calls (a0 : TInterval) (r : Bool) (w : World) (G : matrix_Valid_1 a0 = some r) :
  Calls Tryd.prog 86 #[.agg #[vI a0.Lo, vI a0.Hi]] w fun e w' => e = .returned (.bool r) ∧ Below w.heap.size w w' := by
 refine k_enter (args := [.agg #[vI a0.Lo, vI a0.Hi]]) 6 Tryd.func86 rfl (by kernel_rfl) (by kernel_rfl) fun a H => ?_
 unfold matrix_Valid_1 at G
 refine k_seq ?_
 refine k_rg mixed H (.cons [1, 6] (ok_new (fun b => vP b 0) (fun u1 => [vI a0.Lo, vI a0.Hi]) 37 1 6) <|
   .v 2 (.bool false) <| .nil) fun u1 a w' H => ?_
 replace H := H.kp [1, 6]
 refine k_seq ?_
 replace G := bnd G; obtain ⟨t3, ht3, G⟩ := G
 refine k_rg mixed H (.cons [3] (ok_ld (fun u2 => .agg #[vI a0.Lo, vI a0.Hi]) 3 6 0 2 (fun u2 => ((u1 0).n 0)) (fun u2 => [vI a0.Lo, vI a0.Hi]) 37) <|
   .cons [4] (ok_callv 87 (fun u2 => #[.agg #[vI a0.Lo, vI a0.Hi]]) (.bool t3) 4 [] (fun u2 w _ => interval_Valid.calls a0  t3 w  ht3)) <|
   .v 5 (.bool (!t3)) <|
   .v 2 (.bool (!t3)) <| .nil) fun u2 a w' H => ?_
 replace H := H.kp [2]
 refine k_ret ?_
 obtain rfl := Option.some.inj G
 exact k_done0 H _ (by kernel_rfl) (by kernel_rfl)
set_option maxHeartbeats 4000000 in
theorem api_Interval_105_s86.calls (k0 : Nat) (a0 : List TInterval) (p_a0 : Option Addr) (c_a0 : Nat) (r : Int) (w : World) (hB : AllH [rdl anyF 2 p_a0 c_a0 a0 en_TInterval] w) (G : api_Interval_105_s86 k0 a0 = some r) :
  Calls Tryd.prog 105 #[.slice p_a0 a0.length c_a0, .func (.func 86) #[] #[]] w fun e w' => e = .returned (vI r) ∧ Below w.heap.size w w' := by
 obtain ⟨fr, hfr⟩ : ∃ fr : Nat → Prop, ∀ j, fr j := ⟨fun _ => True, fun _ => trivial⟩
 have hBf : ∀ j, w.heap.size ≤ j → fr j := fun j _ => hfr j
 refine k_enterF (args := [.slice p_a0 a0.length c_a0, .func (.func 86) #[] #[]]) 19 [(19, rdl anyF 2 p_a0 c_a0 a0 en_TInterval)] (by
  intro x hx
  simp only [List.mem_cons, List.not_mem_nil, or_false] at hx
  rcases hx with rfl
  exact rdF_fact (rdF_of hB.1) (fun _ _ => trivial) (by decide) _) Tryd.func105 rfl (by kernel_rfl) (by kernel_rfl) fun a H => ?_
 unfold api_Interval_105_s86 at G
 refine k_seq ?_
 refine k_rg mixed H (.v 4 (vI 0) <| .nil) fun u1 a w' H => ?_
 replace H := H.kp [0, 1, 19]
 refine k_seq ?_
 replace G := bnd G; obtain ⟨j2, hj2, Gj2⟩ := G
 refine k_join (fun a w' => ∃ j2v, j2 = Sum.inr j2v ∧ Rep w.heap.size w 19 (ofL []) a w') ?_ ?_
 ·clear H; rintro a w' ⟨j2v, rfl, H⟩; have G := Gj2; clear Gj2; dsimp only at G
  refine k_seq ?_
  refine k_rg mixed H (.v 4 (vI (-1)) <| .nil) fun u3 a w' H => ?_
  replace H := H.kp [4]
  refine k_ret ?_
  obtain rfl := Option.some.inj G
  exact k_done0 H _ (by kernel_rfl) (by kernel_rfl)
 ·have G := hj2; clear hj2
  refine k_seq ?_
  refine k_rg mixed H (.v 6 (.slice p_a0 a0.length c_a0) <|
   .v 7 (vI (a0.length : Int)) <|
   .v 8 (vI 0) <| .nil) fun u4 a w' H => ?_
  replace H := H.kp [0, 1, 7, 8, 19]
  refine k_block ?_
  refine k_loopJ (fun m a w' => ∃ x5 : Int, api_Interval_105_s86.l6 k0 a0 m x5 = some j2 ∧ Rep w.heap.size w 19 (ofL [(0, sS p_a0 a0.length c_a0), (1, .slot true (.func (.func 86) #[] #[])), (7, (sI (a0.length : Int))), (8, sI x5), (19, rdl anyF 2 p_a0 c_a0 a0 en_TInterval)]) a w') k0 ⟨_, G, H.toL _ (by kernel_rfl)⟩ ?_
  clear G H
  rintro (_ | k) a w' ⟨x5, G, H⟩
  ·exact absurd G (by unfold api_Interval_105_s86.l6; exact fun h => by cases h)
  ·unfold api_Interval_105_s86.l6 at G
   refine k_seq ?_
   refine k_rg mixed H (.v 9 (.bool (decide (x5 < (a0.length : Int)))) <| .nil) fun u7 a w' H => ?_
   replace H := H.kp [0, 1, 7, 8, 9, 19]
   refine k_seq ?_
   refine k_cond H (by kernel_rfl) (t := decide (x5 < (a0.length : Int))) (by kernel_rfl) (fun c16 => ?_) (fun c16 => ?_)
   ·rw [if_pos c16] at G
    refine k_skip ?_
    refine k_seq ?_
    refine k_block ?_
    refine k_seq ?_
    refine k_rg mixed H (.v 10 (vI x5) <|
   .v 5 (vI x5) <| .nil) fun u8 a w' H => ?_
    replace H := H.kp [0, 1, 5, 7, 8, 19]
    refine k_seq ?_
    replace G := gd G; obtain ⟨b10, G⟩ := G
    replace G := bnd G; obtain ⟨t11, ht11, G⟩ := G
    replace G := bnd G; obtain ⟨t12, ht12, G⟩ := G
    refine k_rg mixed H (.v 11 (.func (.func 86) #[] #[]) <|
   .v 12 (.slice p_a0 a0.length c_a0) <|
   .v 13 (vI x5) <|
   .cons [14] (ok_valL [19] (fun u9 => [rdl anyF 2 p_a0 c_a0 a0 en_TInterval]) (fun u9 => .pointer (some ⟨hdB p_a0, hdO p_a0 + x5.toNat * 2, none⟩)) (fun u9 => true) [true, true] 14 (fun u9 w hg hF => ix_row (t := 22) (k := .i64) (i := x5) (p := p_a0) (n := a0.length) (cap := c_a0) (x := a0) (en := en_TInterval) (rdF_of hF.1).2 en_TInterval_len rfl b10 (by kernel_rfl))) <|
   .cons [15] (ok_valL [19] (fun u9 => [rdl anyF 2 p_a0 c_a0 a0 en_TInterval]) (fun u9 => .agg #[vI t11.Lo, vI t11.Hi]) (fun u9 => true) [true] 15 (fun u9 w hg hF => ld_row (en := en_TInterval) (rdF_of hF.1).2 en_TInterval_len ht11 0 2 [vI t11.Lo, vI t11.Hi] rfl (by kernel_rfl))) <|
   .cons [16] (ok_callv 86 (fun u9 => #[.agg #[vI t11.Lo, vI t11.Hi]]) (.bool t12) 16 [] (fun u9 w _ => matrix_Valid_1.calls t11  t12 w  ht12)) <| .nil) fun u9 a w' H => ?_
    replace H := H.kp [0, 1, 5, 7, 8, 16, 19]
    refine k_cond H (by kernel_rfl) (t := t12) (by kernel_rfl) (fun c15 => ?_) (fun c15 => ?_)
    ·rw [if_pos c15] at G
     refine k_seq ?_
     refine k_rg mixed H (.v 17 (vI x5) <|
   .v 4 (vI x5) <| .nil) fun u13 a w' H => ?_
     replace H := H.kp [4]
     refine k_ret ?_
     obtain rfl := Option.some.inj G
     replace G := Gj2
     obtain rfl := Option.some.inj G
     exact k_done0 H _ (by kernel_rfl) (by kernel_rfl)
    ·rw [if_neg (nt c15)] at G
     refine k_skip ?_
     refine k_rg mixed H (.v 18 (vI (w_i64 (x5 + 1))) <|
   .v 8 (vI (w_i64 (x5 + 1))) <| .nil) fun u14 a w' H => ?_
     replace H := H.kp [0, 1, 7, 8, 19]
     exact ⟨k, Nat.lt_succ_self k, _, G, H.toL _ (by kernel_rfl)⟩
   ·rw [if_neg (nt c16)] at G
    refine k_exit rfl ?_
    obtain rfl := Option.some.inj G
    exact ⟨_, rfl, H.toL _ (by kernel_rfl)⟩
set_option maxHeartbeats 4000000 in
theorem api_Interval_75_s86.calls (k0 : Nat) (a0 : List TInterval) (p_a0 : Option Addr) (c_a0 : Nat) (r : Bool) (w : World) (hB : AllH [rdl anyF 2 p_a0 c_a0 a0 en_TInterval] w) (G : api_Interval_75_s86 k0 a0 = some r) :
  Calls Tryd.prog 75 #[.slice p_a0 a0.length c_a0, .func (.func 86) #[] #[]] w fun e w' => e = .returned (.bool r) ∧ Below w.heap.size w w' := by
 obtain ⟨fr, hfr⟩ : ∃ fr : Nat → Prop, ∀ j, fr j := ⟨fun _ => True, fun _ => trivial⟩
 have hBf : ∀ j, w.heap.size ≤ j → fr j := fun j _ => hfr j
 refine k_enterF (args := [.slice p_a0 a0.length c_a0, .func (.func 86) #[] #[]]) 9 [(9, rdl anyF 2 p_a0 c_a0 a0 en_TInterval)] (by
  intro x hx
  simp only [List.mem_cons, List.not_mem_nil, or_false] at hx
  rcases hx with rfl
  exact rdF_fact (rdF_of hB.1) (fun _ _ => trivial) (by decide) _) Tryd.func75 rfl (by kernel_rfl) (by kernel_rfl) fun a H => ?_
 unfold api_Interval_75_s86 at G
 refine k_seq ?_
 refine k_rg mixed H (.v 4 (.bool false) <| .nil) fun u1 a w' H => ?_
 replace H := H.kp [0, 1, 9]
 refine k_seq ?_
 replace G := bnd G; obtain ⟨t3, ht3, G⟩ := G
 refine k_rg mixed H (.v 5 (.slice p_a0 a0.length c_a0) <|
   .v 6 (.func (.func 86) #[] #[]) <|
   .cons [7] (ok_callL [9] (fun u2 => [rdl anyF 2 p_a0 c_a0 a0 en_TInterval]) 105 (fun u2 => #[.slice p_a0 a0.length c_a0, .func (.func 86) #[] #[]]) (vI t3) 7 (fun u2 w hF => api_Interval_105_s86.calls k0 a0 p_a0 c_a0 t3 w  ⟨(rdA (rdF_of hF.1)), trivial⟩ ht3)) <|
   .v 8 (.bool (decide (t3 ≥ 0))) <|
   .v 4 (.bool (decide (t3 ≥ 0))) <| .nil) fun u2 a w' H => ?_
 replace H := H.kp [4]
 refine k_ret ?_
 obtain rfl := Option.some.inj G
 exact k_done0 H _ (by kernel_rfl) (by kernel_rfl)
set_option maxHeartbeats 4000000 in
theorem matrix_Valid.calls (k0 : Nat) (a0 : List (List TInterval)) (p_a0 : Option Addr) (c_a0 : Nat) (L_a0 : List (Sl TInterval)) (r : Bool) (w : World) (h_a0 : a0 = L_a0.map Sl.l) (hB : AllH [rdl anyF 1 p_a0 c_a0 L_a0 enSl, dnK anyF E_S_TInterval.toPart L_a0] w) (G : matrix_Valid k0 a0 = some r) :
  Calls Tryd.prog 48 #[.slice p_a0 L_a0.length c_a0] w fun e w' => e = .returned (.bool r) ∧ Below w.heap.size w w' := by
 obtain ⟨fr, hfr⟩ : ∃ fr : Nat → Prop, ∀ j, fr j := ⟨fun _ => True, fun _ => trivial⟩
 have hBf : ∀ j, w.heap.size ≤ j → fr j := fun j _ => hfr j
 refine k_enterF (args := [.slice p_a0 L_a0.length c_a0]) 29 [(29, rdl anyF 1 p_a0 c_a0 L_a0 enSl), (30, dnK anyF E_S_TInterval.toPart L_a0)] (by
  intro x hx
  simp only [List.mem_cons, List.not_mem_nil, or_false] at hx
  rcases hx with rfl | rfl
  ·exact rdF_fact (rdF_of hB.1) (fun _ _ => trivial) (by decide) _
  ·exact dn_fact (dn_of hB.2.1) (fun _ _ => trivial) _) Tryd.func48 rfl (by kernel_rfl) (by kernel_rfl) fun a H => ?_
 unfold matrix_Valid at G
 refine k_seq ?_
 refine k_rg mixed H (.v 2 (.bool false) <| .nil) fun u1 a w' H => ?_
 replace H := H.kp [0, 29, 30]
 refine k_seq ?_
 refine k_rg mixed H (.v 6 (.slice p_a0 L_a0.length c_a0) <|
   .cons [7] (ok_valL [29] (fun u2 => [rdl anyF 1 p_a0 c_a0 L_a0 enSl]) (fun u2 => vI (a0.length : Int)) (fun u2 => true) [true] 7 (fun u2 w hg hF => run_lenN (((rdF_of hF.1).2.len enSl_len (by decide)).trans (map_len h_a0).symm) (by kernel_rfl))) <|
   .v 3 (vI (a0.length : Int)) <| .nil) fun u2 a w' H => ?_
 replace H := H.kp [0, 3, 29, 30]
 refine k_seq ?_
 refine k_seq ?_
 refine k_rg mixed H (.v 8 (vI (a0.length : Int)) <|
   .v 9 (.bool (decide ((a0.length : Int) < 1))) <|
   .v 10 (.bool (decide ((a0.length : Int) < 1))) <|
   .cons [11] (ok_valg (fun u3 => vI (a0.length : Int)) (fun u3 => ((decide ((a0.length : Int) < 1)) == false)) [true] 11) <|
   .cons [12] (ok_valg (fun u3 => .bool (decide ((a0.length : Int) > 6))) (fun u3 => ((decide ((a0.length : Int) < 1)) == false)) [false, true] 12) <|
   .cons [13] (ok_or 10 12 (fun u3 => true) (fun u3 => true) (fun u3 => decide ((a0.length : Int) < 1)) (fun u3 => decide ((a0.length : Int) > 6)) 13) <| .nil) fun u3 a w' H => ?_
 replace H := H.kp [0, 3, 13, 29, 30]
 refine k_cond H (by kernel_rfl) (t := ((decide ((a0.length : Int) < 1)) || (decide ((a0.length : Int) > 6)))) (by kernel_rfl) (fun c20 => ?_) (fun c20 => ?_)
 ·rw [if_pos c20] at G
  refine k_seq ?_
  refine k_rg mixed H (.v 2 (.bool false) <| .nil) fun u4 a w' H => ?_
  replace H := H.kp [2]
  refine k_ret ?_
  obtain rfl := Option.some.inj G
  exact k_done0 H _ (by kernel_rfl) (by kernel_rfl)
 ·rw [if_neg (nt c20)] at G
  refine k_skip ?_
  refine k_seq ?_
  replace G := bnd G; obtain ⟨j5, hj5, Gj5⟩ := G
  refine k_join (fun a w' => ∃ j5v, j5 = Sum.inr j5v ∧ Rep w.heap.size w 29 (ofL []) a w') ?_ ?_
  ·clear H; rintro a w' ⟨j5v, rfl, H⟩; have G := Gj5; clear Gj5; dsimp only at G
   refine k_seq ?_
   refine k_rg mixed H (.v 2 (.bool true) <| .nil) fun u6 a w' H => ?_
   replace H := H.kp [2]
   refine k_ret ?_
   obtain rfl := Option.some.inj G
   exact k_done0 H _ (by kernel_rfl) (by kernel_rfl)
  ·have G := hj5; clear hj5
   refine k_seq ?_
   refine k_rg mixed H (.v 14 (.slice p_a0 L_a0.length c_a0) <|
   .cons [15] (ok_valL [29] (fun u7 => [rdl anyF 1 p_a0 c_a0 L_a0 enSl]) (fun u7 => vI (a0.length : Int)) (fun u7 => true) [true] 15 (fun u7 w hg hF => run_lenN (((rdF_of hF.1).2.len enSl_len (by decide)).trans (map_len h_a0).symm) (by kernel_rfl))) <|
   .v 16 (vI 0) <| .nil) fun u7 a w' H => ?_
   replace H := H.kp [3, 14, 15, 16, 29, 30]
   refine k_block ?_
   refine k_loopJ (fun m a w' => ∃ x8 : Int, matrix_Valid.l9 k0 a0 m x8 = some j5 ∧ Rep w.heap.size w 29 (ofL [(3, (sI (a0.length : Int))), (14, sS p_a0 L_a0.length c_a0), (15, (sI (a0.length : Int))), (16, sI x8), (29, rdl anyF 1 p_a0 c_a0 L_a0 enSl), (30, dnK anyF E_S_TInterval.toPart L_a0)]) a w') k0 ⟨_, G, H.toL _ (by kernel_rfl)⟩ ?_
   clear G H
   rintro (_ | k) a w' ⟨x8, G, H⟩
   ·exact absurd G (by unfold matrix_Valid.l9; exact fun h => by cases h)
   ·unfold matrix_Valid.l9 at G
    refine k_seq ?_
    refine k_rg mixed H (.v 17 (.bool (decide (x8 < (a0.length : Int)))) <| .nil) fun u10 a w' H => ?_
    replace H := H.kp [3, 14, 15, 16, 17, 29, 30]
    refine k_seq ?_
    refine k_cond H (by kernel_rfl) (t := decide (x8 < (a0.length : Int))) (by kernel_rfl) (fun c19 => ?_) (fun c19 => ?_)
    ·rw [if_pos c19] at G
     refine k_skip ?_
     refine k_seq ?_
     refine k_block ?_
     refine k_seq ?_
     replace G := gd G; obtain ⟨b12, G⟩ := G
     replace G := bnd G; obtain ⟨t13, ht13, G⟩ := G
     obtain ⟨p_t13, c_t13, y_t13⟩ := sl_get h_a0 ht13
     refine k_rg mixed H (.cons [18] (ok_valL [29] (fun u11 => [rdl anyF 1 p_a0 c_a0 L_a0 enSl]) (fun u11 => .pointer (some ⟨hdB p_a0, hdO p_a0 + x8.toNat * 1, none⟩)) (fun u11 => true) [true, true] 18 (fun u11 w hg hF => ix_row (t := 27) (k := .i64) (i := x8) (p := p_a0) (n := L_a0.length) (cap := c_a0) (x := a0) (en := enSl) (rdF_of hF.1).2 enSl_len (map_len h_a0) b12 (by kernel_rfl))) <|
   .cons [19] (ok_valL [29] (fun u11 => [rdl anyF 1 p_a0 c_a0 L_a0 enSl]) (fun u11 => .slice p_t13 t13.length c_t13) (fun u11 => true) [true] 19 (fun u11 w hg hF => ld_row (en := enSl) (rdF_of hF.1).2 enSl_len y_t13 0 1 [.slice p_t13 t13.length c_t13] rfl (by kernel_rfl))) <|
   .v 5 (.slice p_t13 t13.length c_t13) <| .nil) fun u11 a w' H => ?_
     replace H := H.kp [3, 5, 14, 15, 16, 29, 30]
     refine k_seq ?_
     replace G := bnd G; obtain ⟨t15, ht15, G⟩ := G
     refine k_rg mixed H (.v 20 (.slice p_t13 t13.length c_t13) <|
   .v 21 (vI (t13.length : Int)) <|
   .v 22 (vI (a0.length : Int)) <|
   .v 23 (.bool ((t13.length : Int) != (a0.length : Int))) <|
   .v 24 (.bool ((t13.length : Int) != (a0.length : Int))) <|
   .cons [25] (ok_valg (fun u14 => .slice p_t13 t13.length c_t13) (fun u14 => (((t13.length : Int) != (a0.length : Int)) == false)) [true] 25) <|
   .cons [26] (ok_callLg [30] (fun u14 => [dnK anyF E_S_TInterval.toPart L_a0]) 75 (fun u14 => #[.slice p_t13 t13.length c_t13, .func (.func 86) #[] #[]]) (.bool t15) (fun u14 => (((t13.length : Int) != (a0.length : Int)) == false)) [true, false, true] 26 (fun u14 w hg hF => api_Interval_75_s86.calls k0 t13 p_t13 c_t13 t15 w  ⟨(rdA (show RowC _ 2 p_t13 t13.length c_t13 (t13.flatMap en_TInterval) from ((dn_of hF.1) _ (List.mem_of_getElem? y_t13)).1)), trivial⟩ (ifp ht15 hg))) <|
   .cons [27] (ok_or 24 26 (fun u14 => true) (fun u14 => true) (fun u14 => ((t13.length : Int) != (a0.length : Int))) (fun u14 => t15) 27) <| .nil) fun u14 a w' H => ?_
     replace H := H.kp [3, 14, 15, 16, 25, 26, 27, 29, 30]
     refine k_cond H (by kernel_rfl) (t := (((t13.length : Int) != (a0.length : Int)) || t15)) (by kernel_rfl) (fun c18 => ?_) (fun c18 => ?_)
     ·rw [if_pos c18] at G
      refine k_seq ?_
      refine k_rg mixed H (.v 2 (.bool false) <| .nil) fun u16 a w' H => ?_
      replace H := H.kp [2]
      refine k_ret ?_
      obtain rfl := Option.some.inj G
      replace G := Gj5
      obtain rfl := Option.some.inj G
      exact k_done0 H _ (by kernel_rfl) (by kernel_rfl)
     ·rw [if_neg (nt c18)] at G
      refine k_skip ?_
      refine k_rg mixed H (.v 28 (vI (w_i64 (x8 + 1))) <|
   .v 16 (vI (w_i64 (x8 + 1))) <| .nil) fun u17 a w' H => ?_
      replace H := H.kp [3, 14, 15, 16, 25, 26, 29, 30]
      exact ⟨k, Nat.lt_succ_self k, _, G, H.toL _ (by kernel_rfl)⟩
    ·rw [if_neg (nt c19)] at G
     refine k_exit rfl ?_
     obtain rfl := Option.some.inj G
     exact ⟨_, rfl, H.toL _ (by kernel_rfl)⟩
set_option maxHeartbeats 4000000 in
theorem armillarylaw04_sanity.calls (k0 : Nat)  (r : Bool) (w : World) (hg : Glob w) (G : armillarylaw04_sanity k0 = some r) :
  Calls Tryd.prog 11 #[] w fun e w' => e = .returned (.bool r) ∧ Below w.heap.size w w' := by
 obtain ⟨fr, hfr⟩ : ∃ fr : Nat → Prop, ∀ j, fr j := ⟨fun _ => True, fun _ => trivial⟩
 have hBf : ∀ j, w.heap.size ≤ j → fr j := fun j _ => hfr j
 refine k_enterG (args := []) 186 999999 globFp Glob (glob_local hg) (glob_in hg) Tryd.func11 rfl (by kernel_rfl) (by kernel_rfl) fun a H => ?_
 unfold armillarylaw04_sanity at G
 refine k_seq ?_
 refine k_rg mixed H (.v 0 (.bool false) <| .nil) fun u1 a w' H => ?_
 replace H := H.kp [999999]
 refine k_seq ?_
 replace G := bnd G; obtain ⟨t3, ht3, G⟩ := G
 replace G := bnd G; obtain ⟨t4, ht4, G⟩ := G
 replace G := bnd G; obtain ⟨t5, ht5, G⟩ := G
 refine k_rg mixed H (.cons [12, 186] (ok_callY false fr [] [] (fun u2 => []) [] (fun u2 => []) 46 (fun u2 => #[vI 1, vI 2, vI 0, vI 1]) (fun u2 => []) (fun u2 => []) (fun u2 g => .slice (g.o 0) ((g.dl Sl.l gd_S_i64 0 t3).length) (g.n 0)) (fun u2 g => [fun _ => nsK 32 2 1 en_i64 (g.o 0) ((g.dl Sl.l gd_S_i64 0 t3).length) (g.n 0) (g.dl Sl.l gd_S_i64 0 t3) (g.dl Sl.l gd_S_i64 0 t3)]) [186] 12 (fun u2 w hB hF hM => armillarylaw04_square.calls 1 2 0 1  t3 w  ht3) (fun u2 w hF => ⟨trivial, trivial⟩) (fun u2 g => (fams_cons fam_ns fams_nil)) (.inr (fun u2 g => (famx_cons trivial (fun K h => by cases h)))) (fun h => by cases h)) <|
   .cons [13, 187] (ok_callY false fr [0] [186] (fun u2 => [nsK 32 2 1 en_i64 ((u2 0).o 0) (((u2 0).dl Sl.l gd_S_i64 0 t3).length) ((u2 0).n 0) ((u2 0).dl Sl.l gd_S_i64 0 t3) ((u2 0).dl Sl.l gd_S_i64 0 t3)]) [] (fun u2 => []) 45 (fun u2 => #[.slice ((u2 0).o 0) (((u2 0).dl Sl.l gd_S_i64 0 t3).length) ((u2 0).n 0)]) (fun u2 => [rdF anyF 1 ((u2 0).o 0) (((u2 0).dl Sl.l gd_S_i64 0 t3).length) ((u2 0).n 0) (((u2 0).dl Sl.l gd_S_i64 0 t3).flatMap enSl), dnK anyF E_S_i64.toPart ((u2 0).dl Sl.l gd_S_i64 0 t3)]) (fun u2 => []) (fun u2 g => .slice (g.o 0) ((g.dl Sl.l gd_S_TInterval 0 t4).length) (g.n 0)) (fun u2 g => [fun _ => nsK 22 37 2 en_TInterval (g.o 0) ((g.dl Sl.l gd_S_TInterval 0 t4).length) (g.n 0) (g.dl Sl.l gd_S_TInterval 0 t4) (g.dl Sl.l gd_S_TInterval 0 t4)]) [187] 13 (fun u2 w hB hF hM => matrix_FromNumbers.calls k0 t3 ((u2 0).o 0) ((u2 0).n 0) ((u2 0).dl Sl.l gd_S_i64 0 t3) t4 w (dl_er ergd_S_i64 (u2 0) 0 t3) hB ht4) (fun u2 w hF => ⟨⟨sub_rd0 (ns_of hF.1).row (fun j h => ⟨_, (.head _), (ns_fpH h)⟩), sub_dn0 (ns_of hF.1).all (fun j h => ⟨_, (.head _), (ns_fpA h)⟩), trivial⟩, trivial⟩) (fun u2 g => (fams_cons fam_ns fams_nil)) (.inr (fun u2 g => (famx_cons trivial (fun K h => by cases h)))) (fun h => by cases h) (hloc := fun u u' h => ⟨by first | rfl | simp only [h 0 (by decide)], by first | rfl | simp only [h 0 (by decide)], by first | rfl | simp only [h 0 (by decide)], by first | rfl | simp only [h 0 (by decide)], by first | rfl | simp only [h 0 (by decide)], by first | rfl | simp only [h 0 (by decide)]⟩)) <|
   .cons [14] (ok_callv 42 (fun u2 => #[vI 65536]) (.agg #[vI t5.Lo, vI t5.Hi]) 14 [] (fun u2 w _ => armillaryref02_Point.calls 65536  t5 w  ht5)) <|
   .cons [2, 188] (ok_new (fun b => vP b 0) (fun u2 => [vI 0, vI 0]) 37 2 188) <|
   .cons [1] (ok_val (fun u2 => .slice ((u2 1).o 0) (((u2 1).dl Sl.l gd_S_TInterval 0 t4).length) ((u2 1).n 0)) 1) <|
   .cons [188] (ok_as (u' := fun u2 => [(188, .blk ((u2 3).n 0) [vI t5.Lo, vI t5.Hi] 37)]) (ok_store 188 0 (fun u2 => ((u2 3).n 0)) (fun u2 => [vI 0, vI 0]) (fun u2 => [vI t5.Lo, vI t5.Hi]) 37) (fun _ => by kernel_rfl)) <| .nil) fun u2 a w' H => ?_
 replace H := H.kp [1, 2, 187, 188, 999999]
 refine k_seq ?_
 replace G := bnd G; obtain ⟨t7, ht7, G⟩ := G
 refine k_rg mixed H (.v 15 (.slice ((u2 1).o 0) (((u2 1).dl Sl.l gd_S_TInterval 0 t4).length) ((u2 1).n 0)) <|
   .cons [16] (ok_ld (fun u6 => .agg #[vI t5.Lo, vI t5.Hi]) 16 188 0 2 (fun u6 => ((u2 3).n 0)) (fun u6 => [vI t5.Lo, vI t5.Hi]) 37) <|
   .cons [17] (ok_ld (fun u6 => .agg #[vI t5.Lo, vI t5.Hi]) 17 188 0 2 (fun u6 => ((u2 3).n 0)) (fun u6 => [vI t5.Lo, vI t5.Hi]) 37) <|
   .cons [18, 189] (ok_blkrow 2 2 (ok_new (fun b => .slice (some ⟨b, 0, none⟩) 2 2) (fun u6 => [vI t5.Lo, vI t5.Hi, vI t5.Lo, vI t5.Hi]) 37 18 189) (fun _ => rfl) (by decide)) <|
   .cons [19, 190] (ok_callY false fr [3] [187, 189, 999999] (fun u6 => [nsK 22 37 2 en_TInterval ((u2 1).o 0) (((u2 1).dl Sl.l gd_S_TInterval 0 t4).length) ((u2 1).n 0) ((u2 1).dl Sl.l gd_S_TInterval 0 t4) ((u2 1).dl Sl.l gd_S_TInterval 0 t4), owK 37 2 (some ⟨((u6 3).n 0), 0, none⟩) 2 2 (([t5, t5] : List TInterval).flatMap en_TInterval), gk]) [] (fun u6 => []) 15 (fun u6 => #[.slice ((u2 1).o 0) (((u2 1).dl Sl.l gd_S_TInterval 0 t4).length) ((u2 1).n 0), .slice (some ⟨((u6 3).n 0), 0, none⟩) 2 2]) (fun u6 => [rdF anyF 1 ((u2 1).o 0) (((u2 1).dl Sl.l gd_S_TInterval 0 t4).length) ((u2 1).n 0) (((u2 1).dl Sl.l gd_S_TInterval 0 t4).flatMap enSl), dnK anyF E_S_TInterval.toPart ((u2 1).dl Sl.l gd_S_TInterval 0 t4), rdF anyF 2 (some ⟨((u6 3).n 0), 0, none⟩) 2 2 (([t5, t5] : List TInterval).flatMap en_TInterval), gk]) (fun u6 => []) (fun u6 g => .slice (g.o 0) t7.length (g.n 0)) (fun u6 g => [fun _ => owK 37 2 (g.o 0) t7.length (g.n 0) (t7.flatMap en_TInterval)]) [190] 19 (fun u6 w hB hF hM => matrix_Apply.calls k0 t4 ([t5, t5] : List TInterval) ((u2 1).o 0) ((u2 1).n 0) ((u2 1).dl Sl.l gd_S_TInterval 0 t4) (some ⟨((u6 3).n 0), 0, none⟩) 2 t7 w (dl_er ergd_S_TInterval (u2 1) 0 t4) hB ht7) (fun u6 w hF => ⟨⟨sub_rd0 (ns_of hF.1).row (fun j h => ⟨_, (.head _), (ns_fpH h)⟩), sub_dn0 (ns_of hF.1).all (fun j h => ⟨_, (.head _), (ns_fpA h)⟩), sub_rd0 (owns_rowC (ow_of hF.2.1)) (fun j h => ⟨_, (.tail _ (.head _)), (fp_own h)⟩), sub_k hF.2.2.1 (.tail _ (.tail _ (.head _))), trivial⟩, trivial⟩) (fun u6 g => (fams_cons fam_ow fams_nil)) (.inr (fun u6 g => (famx_cons trivial (fun K h => by cases h)))) (fun h => by cases h) (hloc := fun u u' h => ⟨by first | rfl | simp only [h 3 (by decide)], by first | rfl | simp only [h 3 (by decide)], by first | rfl | simp only [h 3 (by decide)], by first | rfl | simp only [h 3 (by decide)], by first | rfl | simp only [h 3 (by decide)], by first | rfl | simp only [h 3 (by decide)]⟩)) <|
   .cons [3] (ok_val (fun u6 => .slice ((u6 4).o 0) t7.length ((u6 4).n 0)) 3) <| .nil) fun u6 a w' H => ?_
 replace H := H.kp [1, 2, 3, 187, 188, 190, 999999]
 refine k_seq ?_
 replace G := bnd G; obtain ⟨t9, ht9, G⟩ := G
 replace G := bnd G; obtain ⟨t10, ht10, G⟩ := G
 refine k_rg mixed H (.cons [20, 191] (ok_callY false fr [] [] (fun u8 => []) [] (fun u8 => []) 46 (fun u8 => #[vI 1, vI 1, vI 0, vI 1]) (fun u8 => []) (fun u8 => []) (fun u8 g => .slice (g.o 0) ((g.dl Sl.l gd_S_i64 0 t9).length) (g.n 0)) (fun u8 g => [fun _ => nsK 32 2 1 en_i64 (g.o 0) ((g.dl Sl.l gd_S_i64 0 t9).length) (g.n 0) (g.dl Sl.l gd_S_i64 0 t9) (g.dl Sl.l gd_S_i64 0 t9)]) [191] 20 (fun u8 w hB hF hM => armillarylaw04_square.calls 1 1 0 1  t9 w  ht9) (fun u8 w hF => ⟨trivial, trivial⟩) (fun u8 g => (fams_cons fam_ns fams_nil)) (.inr (fun u8 g => (famx_cons trivial (fun K h => by cases h)))) (fun h => by cases h)) <|
   .cons [21, 192] (ok_callY false fr [0] [191] (fun u8 => [nsK 32 2 1 en_i64 ((u8 0).o 0) (((u8 0).dl Sl.l gd_S_i64 0 t9).length) ((u8 0).n 0) ((u8 0).dl Sl.l gd_S_i64 0 t9) ((u8 0).dl Sl.l gd_S_i64 0 t9)]) [] (fun u8 => []) 30 (fun u8 => #[.slice ((u8 0).o 0) (((u8 0).dl Sl.l gd_S_i64 0 t9).length) ((u8 0).n 0)]) (fun u8 => [rdF anyF 1 ((u8 0).o 0) (((u8 0).dl Sl.l gd_S_i64 0 t9).length) ((u8 0).n 0) (((u8 0).dl Sl.l gd_S_i64 0 t9).flatMap enSl), dnK anyF E_S_i64.toPart ((u8 0).dl Sl.l gd_S_i64 0 t9)]) (fun u8 => []) (fun u8 g => .slice (g.o 0) ((g.dl Sl.l gd_S_i64 0 t10).length) (g.n 0)) (fun u8 g => [fun _ => nsK 32 2 1 en_i64 (g.o 0) ((g.dl Sl.l gd_S_i64 0 t10).length) (g.n 0) (g.dl Sl.l gd_S_i64 0 t10) (g.dl Sl.l gd_S_i64 0 t10)]) [192] 21 (fun u8 w hB hF hM => matrix_Orthogonalize.calls k0 t9 ((u8 0).o 0) ((u8 0).n 0) ((u8 0).dl Sl.l gd_S_i64 0 t9) t10 w (dl_er ergd_S_i64 (u8 0) 0 t9) hB ht10) (fun u8 w hF => ⟨⟨sub_rd0 (ns_of hF.1).row (fun j h => ⟨_, (.head _), (ns_fpH h)⟩), sub_dn0 (ns_of hF.1).all (fun j h => ⟨_, (.head _), (ns_fpA h)⟩), trivial⟩, trivial⟩) (fun u8 g => (fams_cons fam_ns fams_nil)) (.inr (fun u8 g => (famx_cons trivial (fun K h => by cases h)))) (fun h => by cases h) (hloc := fun u u' h => ⟨by first | rfl | simp only [h 0 (by decide)], by first | rfl | simp only [h 0 (by decide)], by first | rfl | simp only [h 0 (by decide)], by first | rfl | simp only [h 0 (by decide)], by first | rfl | simp only [h 0 (by decide)], by first | rfl | simp only [h 0 (by decide)]⟩)) <|
   .cons [4] (ok_val (fun u8 => .slice ((u8 1).o 0) (((u8 1).dl Sl.l gd_S_i64 0 t10).length) ((u8 1).n 0)) 4) <| .nil) fun u8 a w' H => ?_
 replace H := H.kp [1, 2, 3, 4, 187, 188, 190, 192, 999999]
 refine k_seq ?_
 replace G := bnd G; obtain ⟨t12, ht12, G⟩ := G
 replace G := bnd G; obtain ⟨t13, ht13, G⟩ := G
 replace G := bnd G; obtain ⟨t14, ht14, G⟩ := G
 refine k_rg mixed H (.cons [23, 193] (ok_callY false fr [] [] (fun u11 => []) [] (fun u11 => []) 46 (fun u11 => #[vI 2, vI 0, vI 0, vI 4]) (fun u11 => []) (fun u11 => []) (fun u11 g => .slice (g.o 0) ((g.dl Sl.l gd_S_i64 0 t12).length) (g.n 0)) (fun u11 g => [fun _ => nsK 32 2 1 en_i64 (g.o 0) ((g.dl Sl.l gd_S_i64 0 t12).length) (g.n 0) (g.dl Sl.l gd_S_i64 0 t12) (g.dl Sl.l gd_S_i64 0 t12)]) [193] 23 (fun u11 w hB hF hM => armillarylaw04_square.calls 2 0 0 4  t12 w  ht12) (fun u11 w hF => ⟨trivial, trivial⟩) (fun u11 g => (fams_cons fam_ns fams_nil)) (.inr (fun u11 g => (famx_cons trivial (fun K h => by cases h)))) (fun h => by cases h)) <|
   .cons [24, 194] (ok_callY false fr [0] [193] (fun u11 => [nsK 32 2 1 en_i64 ((u11 0).o 0) (((u11 0).dl Sl.l gd_S_i64 0 t12).length) ((u11 0).n 0) ((u11 0).dl Sl.l gd_S_i64 0 t12) ((u11 0).dl Sl.l gd_S_i64 0 t12)]) [] (fun u11 => []) 45 (fun u11 => #[.slice ((u11 0).o 0) (((u11 0).dl Sl.l gd_S_i64 0 t12).length) ((u11 0).n 0)]) (fun u11 => [rdF anyF 1 ((u11 0).o 0) (((u11 0).dl Sl.l gd_S_i64 0 t12).length) ((u11 0).n 0) (((u11 0).dl Sl.l gd_S_i64 0 t12).flatMap enSl), dnK anyF E_S_i64.toPart ((u11 0).dl Sl.l gd_S_i64 0 t12)]) (fun u11 => []) (fun u11 g => .slice (g.o 0) ((g.dl Sl.l gd_S_TInterval 0 t13).length) (g.n 0)) (fun u11 g => [fun _ => nsK 22 37 2 en_TInterval (g.o 0) ((g.dl Sl.l gd_S_TInterval 0 t13).length) (g.n 0) (g.dl Sl.l gd_S_TInterval 0 t13) (g.dl Sl.l gd_S_TInterval 0 t13)]) [194] 24 (fun u11 w hB hF hM => matrix_FromNumbers.calls k0 t12 ((u11 0).o 0) ((u11 0).n 0) ((u11 0).dl Sl.l gd_S_i64 0 t12) t13 w (dl_er ergd_S_i64 (u11 0) 0 t12) hB ht13) (fun u11 w hF => ⟨⟨sub_rd0 (ns_of hF.1).row (fun j h => ⟨_, (.head _), (ns_fpH h)⟩), sub_dn0 (ns_of hF.1).all (fun j h => ⟨_, (.head _), (ns_fpA h)⟩), trivial⟩, trivial⟩) (fun u11 g => (fams_cons fam_ns fams_nil)) (.inr (fun u11 g => (famx_cons trivial (fun K h => by cases h)))) (fun h => by cases h) (hloc := fun u u' h => ⟨by first | rfl | simp only [h 0 (by decide)], by first | rfl | simp only [h 0 (by decide)], by first | rfl | simp only [h 0 (by decide)], by first | rfl | simp only [h 0 (by decide)], by first | rfl | simp only [h 0 (by decide)], by first | rfl | simp only [h 0 (by decide)]⟩)) <|
   .cons [25, 195, 196] (ok_callY true fr [1] [194, 999999] (fun u11 => [nsK 22 37 2 en_TInterval ((u11 1).o 0) (((u11 1).dl Sl.l gd_S_TInterval 0 t13).length) ((u11 1).n 0) ((u11 1).dl Sl.l gd_S_TInterval 0 t13) ((u11 1).dl Sl.l gd_S_TInterval 0 t13), gk]) [] (fun u11 => []) 35 (fun u11 => #[.slice ((u11 1).o 0) (((u11 1).dl Sl.l gd_S_TInterval 0 t13).length) ((u11 1).n 0)]) (fun u11 => [rdF anyF 1 ((u11 1).o 0) (((u11 1).dl Sl.l gd_S_TInterval 0 t13).length) ((u11 1).n 0) (((u11 1).dl Sl.l gd_S_TInterval 0 t13).flatMap enSl), dnK anyF E_S_TInterval.toPart ((u11 1).dl Sl.l gd_S_TInterval 0 t13), gk]) (fun u11 => []) (fun u11 g => .tuple #[.slice (g.o 0) ((g.dl Sl.l gd_S_TInterval 0 t14.1).length) (g.n 0), .bool t14.2]) (fun u11 g => [fun _ => owK 22 1 (g.o 0) ((g.dl Sl.l gd_S_TInterval 0 t14.1).length) (g.n 0) ((g.dl Sl.l gd_S_TInterval 0 t14.1).flatMap enSl), fun fr => dnK fr E_S_TInterval.toPart (g.dl Sl.l gd_S_TInterval 0 t14.1)]) [195, 196] 25 (fun u11 w hB hF hM => matrix_Inverse.calls k0 t13 ((u11 1).o 0) ((u11 1).n 0) ((u11 1).dl Sl.l gd_S_TInterval 0 t13) t14 w (dl_er ergd_S_TInterval (u11 1) 0 t13) hB ht14) (fun u11 w hF => ⟨⟨sub_rd0 (ns_of hF.1).row (fun j h => ⟨_, (.head _), (ns_fpH h)⟩), sub_dn0 (ns_of hF.1).all (fun j h => ⟨_, (.head _), (ns_fpA h)⟩), sub_k hF.2.1 (.tail _ (.head _)), trivial⟩, trivial⟩) (fun u11 g => (fams_cons fam_ow (fams_cons fam_dn fams_nil))) (.inl rfl) (fun _ => hBf) (hloc := fun u u' h => ⟨by first | rfl | simp only [h 1 (by decide)], by first | rfl | simp only [h 1 (by decide)], by first | rfl | simp only [h 1 (by decide)], by first | rfl | simp only [h 1 (by decide)], by first | rfl | simp only [h 1 (by decide)], by first | rfl | simp only [h 1 (by decide)]⟩)) <|
   .cons [22] (ok_val (fun u11 => .tuple #[.slice ((u11 2).o 0) (((u11 2).dl Sl.l gd_S_TInterval 0 t14.1).length) ((u11 2).n 0), .bool t14.2]) 22) <|
   .cons [26] (ok_val (fun u11 => .slice ((u11 2).o 0) (((u11 2).dl Sl.l gd_S_TInterval 0 t14.1).length) ((u11 2).n 0)) 26) <|
   .v 27 (.bool t14.2) <|
   .cons [5] (ok_val (fun u11 => .slice ((u11 2).o 0) (((u11 2).dl Sl.l gd_S_TInterval 0 t14.1).length) ((u11 2).n 0)) 5) <|
   .v 6 (.bool t14.2) <| .nil) fun u11 a w' H => ?_
 replace H := H.kp [1, 2, 3, 4, 5, 6, 187, 188, 190, 192, 195, 196, 999999]
 refine k_seq ?_
 replace G := bnd G; obtain ⟨t16, ht16, G⟩ := G
 replace G := bnd G; obtain ⟨t17, ht17, G⟩ := G
 replace G := bnd G; obtain ⟨t18, ht18, G⟩ := G
 refine k_rg mixed H (.cons [29, 197] (ok_callY false fr [] [] (fun u15 => []) [] (fun u15 => []) 46 (fun u15 => #[vI 1, vI 1, vI 1, vI 1]) (fun u15 => []) (fun u15 => []) (fun u15 g => .slice (g.o 0) ((g.dl Sl.l gd_S_i64 0 t16).length) (g.n 0)) (fun u15 g => [fun _ => nsK 32 2 1 en_i64 (g.o 0) ((g.dl Sl.l gd_S_i64 0 t16).length) (g.n 0) (g.dl Sl.l gd_S_i64 0 t16) (g.dl Sl.l gd_S_i64 0 t16)]) [197] 29 (fun u15 w hB hF hM => armillarylaw04_square.calls 1 1 1 1  t16 w  ht16) (fun u15 w hF => ⟨trivial, trivial⟩) (fun u15 g => (fams_cons fam_ns fams_nil)) (.inr (fun u15 g => (famx_cons trivial (fun K h => by cases h)))) (fun h => by cases h)) <|
   .cons [30, 198] (ok_callY false fr [0] [197] (fun u15 => [nsK 32 2 1 en_i64 ((u15 0).o 0) (((u15 0).dl Sl.l gd_S_i64 0 t16).length) ((u15 0).n 0) ((u15 0).dl Sl.l gd_S_i64 0 t16) ((u15 0).dl Sl.l gd_S_i64 0 t16)]) [] (fun u15 => []) 45 (fun u15 => #[.slice ((u15 0).o 0) (((u15 0).dl Sl.l gd_S_i64 0 t16).length) ((u15 0).n 0)]) (fun u15 => [rdF anyF 1 ((u15 0).o 0) (((u15 0).dl Sl.l gd_S_i64 0 t16).length) ((u15 0).n 0) (((u15 0).dl Sl.l gd_S_i64 0 t16).flatMap enSl), dnK anyF E_S_i64.toPart ((u15 0).dl Sl.l gd_S_i64 0 t16)]) (fun u15 => []) (fun u15 g => .slice (g.o 0) ((g.dl Sl.l gd_S_TInterval 0 t17).length) (g.n 0)) (fun u15 g => [fun _ => nsK 22 37 2 en_TInterval (g.o 0) ((g.dl Sl.l gd_S_TInterval 0 t17).length) (g.n 0) (g.dl Sl.l gd_S_TInterval 0 t17) (g.dl Sl.l gd_S_TInterval 0 t17)]) [198] 30 (fun u15 w hB hF hM => matrix_FromNumbers.calls k0 t16 ((u15 0).o 0) ((u15 0).n 0) ((u15 0).dl Sl.l gd_S_i64 0 t16) t17 w (dl_er ergd_S_i64 (u15 0) 0 t16) hB ht17) (fun u15 w hF => ⟨⟨sub_rd0 (ns_of hF.1).row (fun j h => ⟨_, (.head _), (ns_fpH h)⟩), sub_dn0 (ns_of hF.1).all (fun j h => ⟨_, (.head _), (ns_fpA h)⟩), trivial⟩, trivial⟩) (fun u15 g => (fams_cons fam_ns fams_nil)) (.inr (fun u15 g => (famx_cons trivial (fun K h => by cases h)))) (fun h => by cases h) (hloc := fun u u' h => ⟨by first | rfl | simp only [h 0 (by decide)], by first | rfl | simp only [h 0 (by decide)], by first | rfl | simp only [h 0 (by decide)], by first | rfl | simp only [h 0 (by decide)], by first | rfl | simp only [h 0 (by decide)], by first | rfl | simp only [h 0 (by decide)]⟩)) <|
   .cons [31, 199, 200] (ok_callY true fr [1] [198, 999999] (fun u15 => [nsK 22 37 2 en_TInterval ((u15 1).o 0) (((u15 1).dl Sl.l gd_S_TInterval 0 t17).length) ((u15 1).n 0) ((u15 1).dl Sl.l gd_S_TInterval 0 t17) ((u15 1).dl Sl.l gd_S_TInterval 0 t17), gk]) [] (fun u15 => []) 35 (fun u15 => #[.slice ((u15 1).o 0) (((u15 1).dl Sl.l gd_S_TInterval 0 t17).length) ((u15 1).n 0)]) (fun u15 => [rdF anyF 1 ((u15 1).o 0) (((u15 1).dl Sl.l gd_S_TInterval 0 t17).length) ((u15 1).n 0) (((u15 1).dl Sl.l gd_S_TInterval 0 t17).flatMap enSl), dnK anyF E_S_TInterval.toPart ((u15 1).dl Sl.l gd_S_TInterval 0 t17), gk]) (fun u15 => []) (fun u15 g => .tuple #[.slice (g.o 0) ((g.dl Sl.l gd_S_TInterval 0 t18.1).length) (g.n 0), .bool t18.2]) (fun u15 g => [fun _ => owK 22 1 (g.o 0) ((g.dl Sl.l gd_S_TInterval 0 t18.1).length) (g.n 0) ((g.dl Sl.l gd_S_TInterval 0 t18.1).flatMap enSl), fun fr => dnK fr E_S_TInterval.toPart (g.dl Sl.l gd_S_TInterval 0 t18.1)]) [199, 200] 31 (fun u15 w hB hF hM => matrix_Inverse.calls k0 t17 ((u15 1).o 0) ((u15 1).n 0) ((u15 1).dl Sl.l gd_S_TInterval 0 t17) t18 w (dl_er ergd_S_TInterval (u15 1) 0 t17) hB ht18) (fun u15 w hF => ⟨⟨sub_rd0 (ns_of hF.1).row (fun j h => ⟨_, (.head _), (ns_fpH h)⟩), sub_dn0 (ns_of hF.1).all (fun j h => ⟨_, (.head _), (ns_fpA h)⟩), sub_k hF.2.1 (.tail _ (.head _)), trivial⟩, trivial⟩) (fun u15 g => (fams_cons fam_ow (fams_cons fam_dn fams_nil))) (.inl rfl) (fun _ => hBf) (hloc := fun u u' h => ⟨by first | rfl | simp only [h 1 (by decide)], by first | rfl | simp only [h 1 (by decide)], by first | rfl | simp only [h 1 (by decide)], by first | rfl | simp only [h 1 (by decide)], by first | rfl | simp only [h 1 (by decide)], by first | rfl | simp only [h 1 (by decide)]⟩)) <|
   .cons [28] (ok_val (fun u15 => .tuple #[.slice ((u15 2).o 0) (((u15 2).dl Sl.l gd_S_TInterval 0 t18.1).length) ((u15 2).n 0), .bool t18.2]) 28) <|
   .cons [32] (ok_val (fun u15 => .slice ((u15 2).o 0) (((u15 2).dl Sl.l gd_S_TInterval 0 t18.1).length) ((u15 2).n 0)) 32) <|
   .v 33 (.bool t18.2) <|
   .cons [7] (ok_val (fun u15 => .slice ((u15 2).o 0) (((u15 2).dl Sl.l gd_S_TInterval 0 t18.1).length) ((u15 2).n 0)) 7) <|
   .v 8 (.bool t18.2) <| .nil) fun u15 a w' H => ?_
 replace H := H.kp [1, 2, 3, 4, 5, 6, 8, 187, 188, 190, 192, 195, 196, 999999]
 refine k_seq ?_
 replace G := bnd G; obtain ⟨t20, ht20, G⟩ := G
 refine k_rg mixed H (.v 34 (.slice ((u2 1).o 0) (((u2 1).dl Sl.l gd_S_TInterval 0 t4).length) ((u2 1).n 0)) <|
   .v 35 (.slice ((u2 1).o 0) (((u2 1).dl Sl.l gd_S_TInterval 0 t4).length) ((u2 1).n 0)) <|
   .cons [36, 201] (ok_callY false fr [] [187, 999999] (fun u19 => [nsK 22 37 2 en_TInterval ((u2 1).o 0) (((u2 1).dl Sl.l gd_S_TInterval 0 t4).length) ((u2 1).n 0) ((u2 1).dl Sl.l gd_S_TInterval 0 t4) ((u2 1).dl Sl.l gd_S_TInterval 0 t4), gk]) [] (fun u19 => []) 19 (fun u19 => #[.slice ((u2 1).o 0) (((u2 1).dl Sl.l gd_S_TInterval 0 t4).length) ((u2 1).n 0), .slice ((u2 1).o 0) (((u2 1).dl Sl.l gd_S_TInterval 0 t4).length) ((u2 1).n 0)]) (fun u19 => [rdF anyF 1 ((u2 1).o 0) (((u2 1).dl Sl.l gd_S_TInterval 0 t4).length) ((u2 1).n 0) (((u2 1).dl Sl.l gd_S_TInterval 0 t4).flatMap enSl), dnK anyF E_S_TInterval.toPart ((u2 1).dl Sl.l gd_S_TInterval 0 t4), rdF anyF 1 ((u2 1).o 0) (((u2 1).dl Sl.l gd_S_TInterval 0 t4).length) ((u2 1).n 0) (((u2 1).dl Sl.l gd_S_TInterval 0 t4).flatMap enSl), dnK anyF E_S_TInterval.toPart ((u2 1).dl Sl.l gd_S_TInterval 0 t4), gk]) (fun u19 => []) (fun u19 g => .slice (g.o 0) ((g.dl Sl.l gd_S_TInterval 0 t20).length) (g.n 0)) (fun u19 g => [fun _ => nsK 22 37 2 en_TInterval (g.o 0) ((g.dl Sl.l gd_S_TInterval 0 t20).length) (g.n 0) (g.dl Sl.l gd_S_TInterval 0 t20) (g.dl Sl.l gd_S_TInterval 0 t20)]) [201] 36 (fun u19 w hB hF hM => matrix_Mul.calls k0 t4 t4 ((u2 1).o 0) ((u2 1).n 0) ((u2 1).dl Sl.l gd_S_TInterval 0 t4) ((u2 1).o 0) ((u2 1).n 0) ((u2 1).dl Sl.l gd_S_TInterval 0 t4) t20 w (dl_er ergd_S_TInterval (u2 1) 0 t4) (dl_er ergd_S_TInterval (u2 1) 0 t4) hB ht20) (fun u19 w hF => ⟨⟨sub_rd0 (ns_of hF.1).row (fun j h => ⟨_, (.head _), (ns_fpH h)⟩), sub_dn0 (ns_of hF.1).all (fun j h => ⟨_, (.head _), (ns_fpA h)⟩), sub_rd0 (ns_of hF.1).row (fun j h => ⟨_, (.head _), (ns_fpH h)⟩), sub_dn0 (ns_of hF.1).all (fun j h => ⟨_, (.head _), (ns_fpA h)⟩), sub_k hF.2.1 (.tail _ (.head _)), trivial⟩, trivial⟩) (fun u19 g => (fams_cons fam_ns fams_nil)) (.inr (fun u19 g => (famx_cons trivial (fun K h => by cases h)))) (fun h => by cases h)) <|
   .cons [9] (ok_val (fun u19 => .slice ((u19 2).o 0) (((u19 2).dl Sl.l gd_S_TInterval 0 t20).length) ((u19 2).n 0)) 9) <| .nil) fun u19 a w' H => ?_
 replace H := H.kp [1, 2, 3, 4, 5, 6, 8, 9, 187, 188, 190, 192, 195, 196, 201, 999999]
 refine k_seq ?_
 replace G := bnd G; obtain ⟨t22, ht22, G⟩ := G
 refine k_rg mixed H (.v 37 (.slice ((u2 1).o 0) (((u2 1).dl Sl.l gd_S_TInterval 0 t4).length) ((u2 1).n 0)) <|
   .cons [38, 202] (ok_callY false fr [] [187] (fun u21 => [nsK 22 37 2 en_TInterval ((u2 1).o 0) (((u2 1).dl Sl.l gd_S_TInterval 0 t4).length) ((u2 1).n 0) ((u2 1).dl Sl.l gd_S_TInterval 0 t4) ((u2 1).dl Sl.l gd_S_TInterval 0 t4)]) [] (fun u21 => []) 27 (fun u21 => #[.slice ((u2 1).o 0) (((u2 1).dl Sl.l gd_S_TInterval 0 t4).length) ((u2 1).n 0)]) (fun u21 => [rdF anyF 1 ((u2 1).o 0) (((u2 1).dl Sl.l gd_S_TInterval 0 t4).length) ((u2 1).n 0) (((u2 1).dl Sl.l gd_S_TInterval 0 t4).flatMap enSl), dnK anyF E_S_TInterval.toPart ((u2 1).dl Sl.l gd_S_TInterval 0 t4)]) (fun u21 => []) (fun u21 g => .slice (g.o 0) ((g.dl Sl.l gd_S_TInterval 0 t22).length) (g.n 0)) (fun u21 g => [fun _ => nsK 22 37 2 en_TInterval (g.o 0) ((g.dl Sl.l gd_S_TInterval 0 t22).length) (g.n 0) (g.dl Sl.l gd_S_TInterval 0 t22) (g.dl Sl.l gd_S_TInterval 0 t22)]) [202] 38 (fun u21 w hB hF hM => matrix_Transpose.calls k0 t4 ((u2 1).o 0) ((u2 1).n 0) ((u2 1).dl Sl.l gd_S_TInterval 0 t4) t22 w (dl_er ergd_S_TInterval (u2 1) 0 t4) hB ht22) (fun u21 w hF => ⟨⟨sub_rd0 (ns_of hF.1).row (fun j h => ⟨_, (.head _), (ns_fpH h)⟩), sub_dn0 (ns_of hF.1).all (fun j h => ⟨_, (.head _), (ns_fpA h)⟩), trivial⟩, trivial⟩) (fun u21 g => (fams_cons fam_ns fams_nil)) (.inr (fun u21 g => (famx_cons trivial (fun K h => by cases h)))) (fun h => by cases h)) <|
   .cons [10] (ok_val (fun u21 => .slice ((u21 1).o 0) (((u21 1).dl Sl.l gd_S_TInterval 0 t22).length) ((u21 1).n 0)) 10) <| .nil) fun u21 a w' H => ?_
 replace H := H.kp [1, 2, 3, 4, 5, 6, 8, 9, 10, 187, 188, 190, 192, 195, 196, 201, 202, 999999]
 refine k_seq ?_
 replace G := bnd G; obtain ⟨t24, ht24, G⟩ := G
 refine k_rg mixed H (.v 39 (.agg #[vI (-3), vI 0]) <|
   .cons [40, 203] (ok_blkrow 2 1 (ok_new (fun b => .slice (some ⟨b, 0, none⟩) 1 1) (fun u23 => [vI (-3), vI 0]) 37 40 203) (fun _ => rfl) (by decide)) <|
   .cons [41, 204] (ok_blkrow 1 1 (ok_new (fun b => .slice (some ⟨b, 0, none⟩) 1 1) (fun u23 => [.slice (some ⟨((u23 1).n 0), 0, none⟩) 1 1]) 22 41 204) (fun _ => rfl) (by decide)) <|
   .cons [42, 205] (ok_callY false fr [1, 2] [204, 203] (fun u23 => [owK 22 1 (some ⟨((u23 2).n 0), 0, none⟩) 1 1 (([⟨(some ⟨((u23 1).n 0), 0, none⟩), 1, ([(⟨(-3), 0⟩ : TInterval)] : List TInterval)⟩] : List (Sl TInterval)).flatMap enSl), owK 37 2 (some ⟨((u23 1).n 0), 0, none⟩) 1 1 (([(⟨(-3), 0⟩ : TInterval)] : List TInterval).flatMap en_TInterval)]) [] (fun u23 => []) 47 (fun u23 => #[.slice (some ⟨((u23 2).n 0), 0, none⟩) 1 1]) (fun u23 => [rdF anyF 1 (some ⟨((u23 2).n 0), 0, none⟩) 1 1 (([⟨(some ⟨((u23 1).n 0), 0, none⟩), 1, ([(⟨(-3), 0⟩ : TInterval)] : List TInterval)⟩] : List (Sl TInterval)).flatMap enSl), dnK anyF E_S_TInterval.toPart ([⟨(some ⟨((u23 1).n 0), 0, none⟩), 1, ([(⟨(-3), 0⟩ : TInterval)] : List TInterval)⟩] : List (Sl TInterval))]) (fun u23 => []) (fun u23 g => .slice (g.o 0) ((g.dl Sl.l gd_S_i64 0 t24).length) (g.n 0)) (fun u23 g => [fun _ => nsK 32 2 1 en_i64 (g.o 0) ((g.dl Sl.l gd_S_i64 0 t24).length) (g.n 0) (g.dl Sl.l gd_S_i64 0 t24) (g.dl Sl.l gd_S_i64 0 t24)]) [205] 42 (fun u23 w hB hF hM => matrix_Mid.calls k0 ([([(⟨(-3), 0⟩ : TInterval)] : List TInterval)] : List (List TInterval)) (some ⟨((u23 2).n 0), 0, none⟩) 1 ([⟨(some ⟨((u23 1).n 0), 0, none⟩), 1, ([(⟨(-3), 0⟩ : TInterval)] : List TInterval)⟩] : List (Sl TInterval)) t24 w rfl hB ht24) (fun u23 w hF => ⟨⟨sub_rd0 (owns_rowC (ow_of hF.1)) (fun j h => ⟨_, (.head _), (fp_own h)⟩), sub_dn0 (E := E_S_TInterval.toPart) (L := ([⟨(some ⟨((u23 1).n 0), 0, none⟩), 1, ([(⟨(-3), 0⟩ : TInterval)] : List TInterval)⟩] : List (Sl TInterval))) (rdl_cons ⟨(owns_rowC (ow_of hF.2.1)), fun _ _ => trivial⟩ rdl_nil) (fun j => (fun h => (fpl_cons h).elim (fun h => (h.elim (fun h => ⟨_, (.tail _ (.head _)), (fp_own h)⟩) (fun ⟨_, _, hz⟩ => hz.elim))) (fun h => by obtain ⟨_, hy, _⟩ := h; cases hy))), trivial⟩, trivial⟩) (fun u23 g => (fams_cons fam_ns fams_nil)) (.inr (fun u23 g => (famx_cons trivial (fun K h => by cases h)))) (fun h => by cases h) (hloc := fun u u' h => ⟨by first | rfl | simp only [h 1 (by decide), h 2 (by decide)], by first | rfl | simp only [h 1 (by decide), h 2 (by decide)], by first | rfl | simp only [h 1 (by decide), h 2 (by decide)], by first | rfl | simp only [h 1 (by decide), h 2 (by decide)], by first | rfl | simp only [h 1 (by decide), h 2 (by decide)], by first | rfl | simp only [h 1 (by decide), h 2 (by decide)]⟩)) <|
   .cons [11] (ok_val (fun u23 => .slice ((u23 3).o 0) (((u23 3).dl Sl.l gd_S_i64 0 t24).length) ((u23 3).n 0)) 11) <| .nil) fun u23 a w' H => ?_
 replace H := H.toM [(1, (sS ((u2 1).o 0) (((u2 1).dl Sl.l gd_S_TInterval 0 t4).length) ((u2 1).n 0))), (2, (sP ((u2 3).n 0) 0)), (3, (sS ((u6 4).o 0) t7.length ((u6 4).n 0))), (4, (sS ((u8 1).o 0) (((u8 1).dl Sl.l gd_S_i64 0 t10).length) ((u8 1).n 0))), (5, (sS ((u11 2).o 0) (((u11 2).dl Sl.l gd_S_TInterval 0 t14.1).length) ((u11 2).n 0))), (6, sB t14.2), (8, sB t18.2), (9, (sS ((u19 2).o 0) (((u19 2).dl Sl.l gd_S_TInterval 0 t20).length) ((u19 2).n 0))), (10, (sS ((u21 1).o 0) (((u21 1).dl Sl.l gd_S_TInterval 0 t22).length) ((u21 1).n 0))), (11, (sS ((u23 3).o 0) (((u23 3).dl Sl.l gd_S_i64 0 t24).length) ((u23 3).n 0))), (187, nsK 22 37 2 en_TInterval ((u2 1).o 0) (((u2 1).dl Sl.l gd_S_TInterval 0 t4).length) ((u2 1).n 0) ((u2 1).dl Sl.l gd_S_TInterval 0 t4) ((u2 1).dl Sl.l gd_S_TInterval 0 t4)), (188, .blk ((u2 3).n 0) [vI t5.Lo, vI t5.Hi] 37), (190, owK 37 2 ((u6 4).o 0) t7.length ((u6 4).n 0) (t7.flatMap en_TInterval)), (192, nsK 32 2 1 en_i64 ((u8 1).o 0) (((u8 1).dl Sl.l gd_S_i64 0 t10).length) ((u8 1).n 0) ((u8 1).dl Sl.l gd_S_i64 0 t10) ((u8 1).dl Sl.l gd_S_i64 0 t10)), (195, owK 22 1 ((u11 2).o 0) (((u11 2).dl Sl.l gd_S_TInterval 0 t14.1).length) ((u11 2).n 0) (((u11 2).dl Sl.l gd_S_TInterval 0 t14.1).flatMap enSl)), (196, dnK fr E_S_TInterval.toPart ((u11 2).dl Sl.l gd_S_TInterval 0 t14.1)), (201, nsK 22 37 2 en_TInterval ((u19 2).o 0) (((u19 2).dl Sl.l gd_S_TInterval 0 t20).length) ((u19 2).n 0) ((u19 2).dl Sl.l gd_S_TInterval 0 t20) ((u19 2).dl Sl.l gd_S_TInterval 0 t20)), (202, nsK 22 37 2 en_TInterval ((u21 1).o 0) (((u21 1).dl Sl.l gd_S_TInterval 0 t22).length) ((u21 1).n 0) ((u21 1).dl Sl.l gd_S_TInterval 0 t22) ((u21 1).dl Sl.l gd_S_TInterval 0 t22)), (205, nsK 32 2 1 en_i64 ((u23 3).o 0) (((u23 3).dl Sl.l gd_S_i64 0 t24).length) ((u23 3).n 0) ((u23 3).dl Sl.l gd_S_i64 0 t24) ((u23 3).dl Sl.l gd_S_i64 0 t24)), (999999, gk)]
 refine k_seq ?_
 refine k_seq ?_
 replace G := gd G; obtain ⟨b26, G⟩ := G
 replace G := gd G; obtain ⟨b27, G⟩ := G
 replace G := bnd G; obtain ⟨t28, ht28, G⟩ := G
 obtain ⟨p_t28, c_t28, y_t28⟩ := sl_get (dl_er ergd_S_i64 (u8 1) 0 t10) ht28
 replace G := gd G; obtain ⟨b29, G⟩ := G
 replace G := gd G; obtain ⟨b30, G⟩ := G
 replace G := bnd G; obtain ⟨t31, ht31, G⟩ := G
 obtain ⟨p_t31, c_t31, y_t31⟩ := sl_get (dl_er ergd_S_i64 (u8 1) 0 t10) ht31
 replace G := gd G; obtain ⟨b32, G⟩ := G
 replace G := gd G; obtain ⟨b33, G⟩ := G
 replace G := bnd G; obtain ⟨t34, ht34, G⟩ := G
 obtain ⟨p_t34, c_t34, y_t34⟩ := sl_get (dl_er ergd_S_i64 (u23 3) 0 t24) ht34
 refine k_rg mixed H (.v 43 (.slice ((u8 1).o 0) (((u8 1).dl Sl.l gd_S_i64 0 t10).length) ((u8 1).n 0)) <|
   .cons [44] (ok_valL [192] (fun u25 => [nsK 32 2 1 en_i64 ((u8 1).o 0) (((u8 1).dl Sl.l gd_S_i64 0 t10).length) ((u8 1).n 0) ((u8 1).dl Sl.l gd_S_i64 0 t10) ((u8 1).dl Sl.l gd_S_i64 0 t10)]) (fun u25 => vI (t10.length : Int)) (fun u25 => true) [true] 44 (fun u25 w hg hF => run_lenN (((ns_of hF.1).row.2.len enSl_len (by decide)).trans (map_len (dl_er ergd_S_i64 (u8 1) 0 t10)).symm) (by kernel_rfl))) <|
   .v 45 (.bool ((t10.length : Int) != 2)) <|
   .cons [46] (ok_as (u' := fun u25 => [(46, sB false)]) (ok_val (fun u25 => .bool ((t10.length : Int) != 2)) 46) (fun _ => by rw [b26])) <|
   .cons [47] (ok_gd (ok_val (fun u25 => .slice ((u8 1).o 0) (((u8 1).dl Sl.l gd_S_i64 0 t10).length) ((u8 1).n 0)) 47) (by intro _; kernel_rfl)) <|
   .cons [48] (ok_gd (ok_valL [192] (fun u25 => [nsK 32 2 1 en_i64 ((u8 1).o 0) (((u8 1).dl Sl.l gd_S_i64 0 t10).length) ((u8 1).n 0) ((u8 1).dl Sl.l gd_S_i64 0 t10) ((u8 1).dl Sl.l gd_S_i64 0 t10)]) (fun u25 => .pointer (some ⟨hdB ((u8 1).o 0), hdO ((u8 1).o 0) + ((0 : Int).toNat) * 1, none⟩)) (fun u25 => true) [true, true] 48 (fun u25 w hg hF => ix_row (t := 30) (k := .i64) (i := (0 : Int)) (p := ((u8 1).o 0)) (n := ((u8 1).dl Sl.l gd_S_i64 0 t10).length) (cap := ((u8 1).n 0)) (x := t10) (en := enSl) (ns_of hF.1).row.2 enSl_len (map_len (dl_er ergd_S_i64 (u8 1) 0 t10)) b27 (by kernel_rfl))) (by intro _; kernel_rfl)) <|
   .cons [49] (ok_gd (ok_valL [192] (fun u25 => [nsK 32 2 1 en_i64 ((u8 1).o 0) (((u8 1).dl Sl.l gd_S_i64 0 t10).length) ((u8 1).n 0) ((u8 1).dl Sl.l gd_S_i64 0 t10) ((u8 1).dl Sl.l gd_S_i64 0 t10)]) (fun u25 => .slice p_t28 t28.length c_t28) (fun u25 => true) [true] 49 (fun u25 w hg hF => ld_row (en := enSl) (ns_of hF.1).row.2 enSl_len y_t28 0 1 [.slice p_t28 t28.length c_t28] rfl (by kernel_rfl))) (by intro _; kernel_rfl)) <|
   .cons [50] (ok_gd (ok_val (fun u25 => vI (t28.length : Int)) 50) (by intro _; kernel_rfl)) <|
   .cons [51] (ok_gd (ok_val (fun u25 => .bool ((t28.length : Int) != 2)) 51) (by intro _; kernel_rfl)) <|
   .cons [52] (ok_pickK (fun u25 => .bool ((t28.length : Int) != 2)) 52) <|
   .cons [53] (ok_as (u' := fun u25 => [(53, sB false)]) (ok_val (fun u25 => .bool ((t28.length : Int) != 2)) 53) (fun _ => by rw [b29])) <|
   .cons [54] (ok_gd (ok_val (fun u25 => .slice ((u8 1).o 0) (((u8 1).dl Sl.l gd_S_i64 0 t10).length) ((u8 1).n 0)) 54) (by intro _; kernel_rfl)) <|
   .cons [55] (ok_gd (ok_valL [192] (fun u25 => [nsK 32 2 1 en_i64 ((u8 1).o 0) (((u8 1).dl Sl.l gd_S_i64 0 t10).length) ((u8 1).n 0) ((u8 1).dl Sl.l gd_S_i64 0 t10) ((u8 1).dl Sl.l gd_S_i64 0 t10)]) (fun u25 => .pointer (some ⟨hdB ((u8 1).o 0), hdO ((u8 1).o 0) + ((1 : Int).toNat) * 1, none⟩)) (fun u25 => true) [true, true] 55 (fun u25 w hg hF => ix_row (t := 30) (k := .i64) (i := (1 : Int)) (p := ((u8 1).o 0)) (n := ((u8 1).dl Sl.l gd_S_i64 0 t10).length) (cap := ((u8 1).n 0)) (x := t10) (en := enSl) (ns_of hF.1).row.2 enSl_len (map_len (dl_er ergd_S_i64 (u8 1) 0 t10)) b30 (by kernel_rfl))) (by intro _; kernel_rfl)) <|
   .cons [56] (ok_gd (ok_valL [192] (fun u25 => [nsK 32 2 1 en_i64 ((u8 1).o 0) (((u8 1).dl Sl.l gd_S_i64 0 t10).length) ((u8 1).n 0) ((u8 1).dl Sl.l gd_S_i64 0 t10) ((u8 1).dl Sl.l gd_S_i64 0 t10)]) (fun u25 => .slice p_t31 t31.length c_t31) (fun u25 => true) [true] 56 (fun u25 w hg hF => ld_row (en := enSl) (ns_of hF.1).row.2 enSl_len y_t31 0 1 [.slice p_t31 t31.length c_t31] rfl (by kernel_rfl))) (by intro _; kernel_rfl)) <|
   .cons [57] (ok_gd (ok_val (fun u25 => vI (t31.length : Int)) 57) (by intro _; kernel_rfl)) <|
   .cons [58] (ok_gd (ok_val (fun u25 => .bool ((t31.length : Int) != 2)) 58) (by intro _; kernel_rfl)) <|
   .cons [59] (ok_pickK (fun u25 => .bool ((t31.length : Int) != 2)) 59) <|
   .v 60 (.bool ((t31.length : Int) != 2)) <|
   .cons [61] (ok_valg (fun u25 => .slice ((u23 3).o 0) (((u23 3).dl Sl.l gd_S_i64 0 t24).length) ((u23 3).n 0)) (fun u25 => (((t31.length : Int) != 2) == false)) [true] 61) <|
   .cons [62] (ok_valL [205] (fun u25 => [nsK 32 2 1 en_i64 ((u23 3).o 0) (((u23 3).dl Sl.l gd_S_i64 0 t24).length) ((u23 3).n 0) ((u23 3).dl Sl.l gd_S_i64 0 t24) ((u23 3).dl Sl.l gd_S_i64 0 t24)]) (fun u25 => vI (t24.length : Int)) (fun u25 => (((t31.length : Int) != 2) == false)) [false] 62 (fun u25 w hg hF => run_lenN (((ns_of hF.1).row.2.len enSl_len (by decide)).trans (map_len (dl_er ergd_S_i64 (u23 3) 0 t24)).symm) (by kernel_rfl))) <|
   .cons [63] (ok_valg (fun u25 => .bool ((t24.length : Int) != 1)) (fun u25 => (((t31.length : Int) != 2) == false)) [false, true] 63) <|
   .cons [64] (ok_or 60 63 (fun u25 => true) (fun u25 => true) (fun u25 => ((t31.length : Int) != 2)) (fun u25 => ((t24.length : Int) != 1)) 64) <|
   .cons [65] (ok_as (u' := fun u25 => [(65, sB false)]) (ok_val (fun u25 => .bool (((t31.length : Int) != 2) || ((t24.length : Int) != 1))) 65) (fun _ => by rw [b32])) <|
   .cons [66] (ok_gd (ok_val (fun u25 => .slice ((u23 3).o 0) (((u23 3).dl Sl.l gd_S_i64 0 t24).length) ((u23 3).n 0)) 66) (by intro _; kernel_rfl)) <|
   .cons [67] (ok_gd (ok_valL [205] (fun u25 => [nsK 32 2 1 en_i64 ((u23 3).o 0) (((u23 3).dl Sl.l gd_S_i64 0 t24).length) ((u23 3).n 0) ((u23 3).dl Sl.l gd_S_i64 0 t24) ((u23 3).dl Sl.l gd_S_i64 0 t24)]) (fun u25 => .pointer (some ⟨hdB ((u23 3).o 0), hdO ((u23 3).o 0) + ((0 : Int).toNat) * 1, none⟩)) (fun u25 => true) [true, true] 67 (fun u25 w hg hF => ix_row (t := 30) (k := .i64) (i := (0 : Int)) (p := ((u23 3).o 0)) (n := ((u23 3).dl Sl.l gd_S_i64 0 t24).length) (cap := ((u23 3).n 0)) (x := t24) (en := enSl) (ns_of hF.1).row.2 enSl_len (map_len (dl_er ergd_S_i64 (u23 3) 0 t24)) b33 (by kernel_rfl))) (by intro _; kernel_rfl)) <|
   .cons [68] (ok_gd (ok_valL [205] (fun u25 => [nsK 32 2 1 en_i64 ((u23 3).o 0) (((u23 3).dl Sl.l gd_S_i64 0 t24).length) ((u23 3).n 0) ((u23 3).dl Sl.l gd_S_i64 0 t24) ((u23 3).dl Sl.l gd_S_i64 0 t24)]) (fun u25 => .slice p_t34 t34.length c_t34) (fun u25 => true) [true] 68 (fun u25 w hg hF => ld_row (en := enSl) (ns_of hF.1).row.2 enSl_len y_t34 0 1 [.slice p_t34 t34.length c_t34] rfl (by kernel_rfl))) (by intro _; kernel_rfl)) <|
   .cons [69] (ok_gd (ok_val (fun u25 => vI (t34.length : Int)) 69) (by intro _; kernel_rfl)) <|
   .cons [70] (ok_gd (ok_val (fun u25 => .bool ((t34.length : Int) != 1)) 70) (by intro _; kernel_rfl)) <|
   .cons [71] (ok_pickK (fun u25 => .bool ((t34.length : Int) != 1)) 71) <| .nil) fun u25 a w' H => ?_
 replace H := H.kp [1, 2, 3, 4, 5, 6, 8, 9, 10, 11, 71, 187, 188, 190, 192, 195, 196, 201, 202, 205, 999999]
 refine k_cond H (by kernel_rfl) (t := ((t34.length : Int) != 1)) (by kernel_rfl) (fun c99 => ?_) (fun c99 => ?_)
 ·rw [if_pos c99] at G
  refine k_seq ?_
  refine k_rg mixed H (.v 0 (.bool false) <| .nil) fun u35 a w' H => ?_
  replace H := H.kp [0, 999999]
  refine k_ret ?_
  obtain rfl := Option.some.inj G
  exact k_done0 H _ (by kernel_rfl) (by kernel_rfl)
 ·rw [if_neg (nt c99)] at G
  refine k_skip ?_
  refine k_seq ?_
  replace G := bnd G; obtain ⟨t37, ht37, G⟩ := G
  replace G := bnd G; obtain ⟨t38, ht38, G⟩ := G
  replace G := gd G; obtain ⟨b39, G⟩ := G
  replace G := bnd G; obtain ⟨t40, ht40, G⟩ := G
  replace G := gd G; obtain ⟨b41, G⟩ := G
  replace G := bnd G; obtain ⟨t42, ht42, G⟩ := G
  replace G := gd G; obtain ⟨b43, G⟩ := G
  replace G := bnd G; obtain ⟨t44, ht44, G⟩ := G
  replace G := bnd G; obtain ⟨t45, ht45, G⟩ := G
  replace G := gd G; obtain ⟨b46, G⟩ := G
  replace G := gd G; obtain ⟨b47, G⟩ := G
  replace G := bnd G; obtain ⟨t48, ht48, G⟩ := G
  obtain ⟨p_t48, c_t48, y_t48⟩ := sl_get (dl_er ergd_S_i64 (u8 1) 0 t10) ht48
  have P49 := ptr_of (en := enSl) (l := ((u8 1).dl Sl.l gd_S_i64 0 t10)) (ns_of (H.at (K := nsK 32 2 1 en_i64 ((u8 1).o 0) (((u8 1).dl Sl.l gd_S_i64 0 t10).length) ((u8 1).n 0) ((u8 1).dl Sl.l gd_S_i64 0 t10) ((u8 1).dl Sl.l gd_S_i64 0 t10)) 192 (by kernel_rfl))).row.2 enSl_len
  replace G := gd G; obtain ⟨b50, G⟩ := G
  replace G := bnd G; obtain ⟨t51, ht51, G⟩ := G
  have P52 := ptr_of (en := en_i64) (l := t48) ((ns_of (H.at (K := nsK 32 2 1 en_i64 ((u8 1).o 0) (((u8 1).dl Sl.l gd_S_i64 0 t10).length) ((u8 1).n 0) ((u8 1).dl Sl.l gd_S_i64 0 t10) ((u8 1).dl Sl.l gd_S_i64 0 t10)) 192 (by kernel_rfl))).one y_t48).2 en_i64_len
  replace G := gd G; obtain ⟨b53, G⟩ := G
  replace G := gd G; obtain ⟨b54, G⟩ := G
  replace G := bnd G; obtain ⟨t55, ht55, G⟩ := G
  obtain ⟨p_t55, c_t55, y_t55⟩ := sl_get (dl_er ergd_S_i64 (u8 1) 0 t10) ht55
  replace G := gd G; obtain ⟨b56, G⟩ := G
  replace G := bnd G; obtain ⟨t57, ht57, G⟩ := G
  have P58 := ptr_of (en := en_i64) (l := t55) ((ns_of (H.at (K := nsK 32 2 1 en_i64 ((u8 1).o 0) (((u8 1).dl Sl.l gd_S_i64 0 t10).length) ((u8 1).n 0) ((u8 1).dl Sl.l gd_S_i64 0 t10) ((u8 1).dl Sl.l gd_S_i64 0 t10)) 192 (by kernel_rfl))).one y_t55).2 en_i64_len
  replace G := gd G; obtain ⟨b59, G⟩ := G
  replace G := gd G; obtain ⟨b60, G⟩ := G
  replace G := bnd G; obtain ⟨t61, ht61, G⟩ := G
  obtain ⟨p_t61, c_t61, y_t61⟩ := sl_get (dl_er ergd_S_i64 (u8 1) 0 t10) ht61
  replace G := gd G; obtain ⟨b62, G⟩ := G
  replace G := bnd G; obtain ⟨t63, ht63, G⟩ := G
  have P64 := ptr_of (en := en_i64) (l := t61) ((ns_of (H.at (K := nsK 32 2 1 en_i64 ((u8 1).o 0) (((u8 1).dl Sl.l gd_S_i64 0 t10).length) ((u8 1).n 0) ((u8 1).dl Sl.l gd_S_i64 0 t10) ((u8 1).dl Sl.l gd_S_i64 0 t10)) 192 (by kernel_rfl))).one y_t61).2 en_i64_len
  replace G := gd G; obtain ⟨b65, G⟩ := G
  replace G := gd G; obtain ⟨b66, G⟩ := G
  replace G := bnd G; obtain ⟨t67, ht67, G⟩ := G
  obtain ⟨p_t67, c_t67, y_t67⟩ := sl_get (dl_er ergd_S_i64 (u8 1) 0 t10) ht67
  replace G := gd G; obtain ⟨b68, G⟩ := G
  replace G := bnd G; obtain ⟨t69, ht69, G⟩ := G
  have P70 := ptr_of (en := en_i64) (l := t67) ((ns_of (H.at (K := nsK 32 2 1 en_i64 ((u8 1).o 0) (((u8 1).dl Sl.l gd_S_i64 0 t10).length) ((u8 1).n 0) ((u8 1).dl Sl.l gd_S_i64 0 t10) ((u8 1).dl Sl.l gd_S_i64 0 t10)) 192 (by kernel_rfl))).one y_t67).2 en_i64_len
  replace G := gd G; obtain ⟨b71, G⟩ := G
  replace G := bnd G; obtain ⟨t72, ht72, G⟩ := G
  replace G := bnd G; obtain ⟨t73, ht73, G⟩ := G
  replace G := bnd G; obtain ⟨t74, ht74, G⟩ := G
  replace G := gd G; obtain ⟨b75, G⟩ := G
  replace G := bnd G; obtain ⟨t76, ht76, G⟩ := G
  replace G := bnd G; obtain ⟨t77, ht77, G⟩ := G
  replace G := bnd G; obtain ⟨t78, ht78, G⟩ := G
  replace G := gd G; obtain ⟨b79, G⟩ := G
  replace G := bnd G; obtain ⟨t80, ht80, G⟩ := G
  replace G := bnd G; obtain ⟨t81, ht81, G⟩ := G
  replace G := bnd G; obtain ⟨t82, ht82, G⟩ := G
  replace G := gd G; obtain ⟨b83, G⟩ := G
  replace G := gd G; obtain ⟨b84, G⟩ := G
  replace G := bnd G; obtain ⟨t85, ht85, G⟩ := G
  obtain ⟨p_t85, c_t85, y_t85⟩ := sl_get (dl_er ergd_S_i64 (u23 3) 0 t24) ht85
  have P86 := ptr_of (en := enSl) (l := ((u23 3).dl Sl.l gd_S_i64 0 t24)) (ns_of (H.at (K := nsK 32 2 1 en_i64 ((u23 3).o 0) (((u23 3).dl Sl.l gd_S_i64 0 t24).length) ((u23 3).n 0) ((u23 3).dl Sl.l gd_S_i64 0 t24) ((u23 3).dl Sl.l gd_S_i64 0 t24)) 205 (by kernel_rfl))).row.2 enSl_len
  replace G := gd G; obtain ⟨b87, G⟩ := G
  replace G := bnd G; obtain ⟨t88, ht88, G⟩ := G
  have P89 := ptr_of (en := en_i64) (l := t85) ((ns_of (H.at (K := nsK 32 2 1 en_i64 ((u23 3).o 0) (((u23 3).dl Sl.l gd_S_i64 0 t24).length) ((u23 3).n 0) ((u23 3).dl Sl.l gd_S_i64 0 t24) ((u23 3).dl Sl.l gd_S_i64 0 t24)) 205 (by kernel_rfl))).one y_t85).2 en_i64_len
  replace G := gd G; obtain ⟨b90, G⟩ := G
  replace G := bnd G; obtain ⟨t91, ht91, G⟩ := G
  replace G := bnd G; obtain ⟨t92, ht92, G⟩ := G
  replace G := bnd G; obtain ⟨t93, ht93, G⟩ := G
  replace G := bnd G; obtain ⟨t94, ht94, G⟩ := G
  replace G := gd G; obtain ⟨b95, G⟩ := G
  replace G := bnd G; obtain ⟨t96, ht96, G⟩ := G
  replace G := gd G; obtain ⟨b97, G⟩ := G
  replace G := bnd G; obtain ⟨t98, ht98, G⟩ := G
  refine k_regT mixed H (.v 72 (.slice ((u2 1).o 0) (((u2 1).dl Sl.l gd_S_TInterval 0 t4).length) ((u2 1).n 0)) <|
   .cons [73] (ok_callL [187] (fun u36 => [nsK 22 37 2 en_TInterval ((u2 1).o 0) (((u2 1).dl Sl.l gd_S_TInterval 0 t4).length) ((u2 1).n 0) ((u2 1).dl Sl.l gd_S_TInterval 0 t4) ((u2 1).dl Sl.l gd_S_TInterval 0 t4)]) 48 (fun u36 => #[.slice ((u2 1).o 0) (((u2 1).dl Sl.l gd_S_TInterval 0 t4).length) ((u2 1).n 0)]) (.bool t37) 73 (fun u36 w hF => matrix_Valid.calls k0 t4 ((u2 1).o 0) ((u2 1).n 0) ((u2 1).dl Sl.l gd_S_TInterval 0 t4) t37 w (dl_er ergd_S_TInterval (u2 1) 0 t4) ⟨(rdA (ns_of hF.1).row), (dnA (ns_of hF.1).all), trivial⟩ ht37)) <|
   .v 74 (.bool t37) <|
   .cons [75] (ok_call 48 (fun u36 => #[.slice none 0 0]) (.bool t38) (fun u36 => (t37 == true)) [true, true] 75 [] (fun u36 w hg _ => matrix_Valid.calls k0 ([] : List (List TInterval)) none 0 ([] : List (Sl TInterval)) t38 w rfl ⟨(rdA (rowC_nil (T := (Sl TInterval)) (en := enSl))), (dnA rdl_nil), trivial⟩ (ifp ht38 hg))) <|
   .cons [76] (ok_valg (fun u36 => .bool (!t38)) (fun u36 => (t37 == true)) [false] 76) <|
   .cons [77] (ok_and 74 76 (fun u36 => true) (fun u36 => true) (fun u36 => t37) (fun u36 => (!t38)) 77) <|
   .cons [78] (ok_as (u' := fun u36 => [(78, sB true)]) (ok_val (fun u36 => .bool (t37 && (!t38))) 78) (fun _ => by rw [b39])) <|
   .cons [79] (ok_gd (ok_ld (fun u36 => .agg #[vI t5.Lo, vI t5.Hi]) 79 188 0 2 (fun u36 => ((u2 3).n 0)) (fun u36 => [vI t5.Lo, vI t5.Hi]) 37) (by intro _; kernel_rfl)) <|
   .cons [80] (ok_gd (ok_ld (fun u36 => .agg #[vI t5.Lo, vI t5.Hi]) 80 188 0 2 (fun u36 => ((u2 3).n 0)) (fun u36 => [vI t5.Lo, vI t5.Hi]) 37) (by intro _; kernel_rfl)) <|
   .cons [81, 206] (ok_gd (ok_blkrow 2 2 (ok_new (fun b => .slice (some ⟨b, 0, none⟩) 2 2) (fun u36 => [vI t5.Lo, vI t5.Hi, vI t5.Lo, vI t5.Hi]) 37 81 206) (fun _ => rfl) (by decide)) (by intro _; kernel_rfl)) <|
   .cons [82, 207] (ok_gd (ok_blkrow 1 1 (ok_new (fun b => .slice (some ⟨b, 0, none⟩) 1 1) (fun u36 => [.slice (some ⟨((u36 9).n 0), 0, none⟩) 2 2]) 22 82 207) (fun _ => rfl) (by decide)) (by intro _; kernel_rfl)) <|
   .cons [83] (ok_gd (ok_callL [207, 206] (fun u36 => [owK 22 1 (some ⟨((u36 10).n 0), 0, none⟩) 1 1 (([⟨(some ⟨((u36 9).n 0), 0, none⟩), 2, ([t5, t5] : List TInterval)⟩] : List (Sl TInterval)).flatMap enSl), owK 37 2 (some ⟨((u36 9).n 0), 0, none⟩) 2 2 (([t5, t5] : List TInterval).flatMap en_TInterval)]) 48 (fun u36 => #[.slice (some ⟨((u36 10).n 0), 0, none⟩) 1 1]) (.bool t40) 83 (fun u36 w hF => matrix_Valid.calls k0 ([([t5, t5] : List TInterval)] : List (List TInterval)) (some ⟨((u36 10).n 0), 0, none⟩) 1 ([⟨(some ⟨((u36 9).n 0), 0, none⟩), 2, ([t5, t5] : List TInterval)⟩] : List (Sl TInterval)) t40 w rfl ⟨(rdA (owns_rowC (ow_of hF.1))), (dnA (E := E_S_TInterval.toPart) (L := ([⟨(some ⟨((u36 9).n 0), 0, none⟩), 2, ([t5, t5] : List TInterval)⟩] : List (Sl TInterval))) (rdl_cons ⟨(owns_rowC (ow_of hF.2.1)), fun _ _ => trivial⟩ rdl_nil)), trivial⟩ ht40)) (by intro _; kernel_rfl)) <|
   .cons [84] (ok_gd (ok_val (fun u36 => .bool (!t40)) 84) (by intro _; kernel_rfl)) <|
   .cons [85] (ok_pickK (fun u36 => .bool (!t40)) 85) <|
   .cons [86] (ok_as (u' := fun u36 => [(86, sB true)]) (ok_val (fun u36 => .bool (!t40)) 86) (fun _ => by rw [b41])) <|
   .cons [87] (ok_gd (ok_val (fun u36 => .agg #[vI 2, vI 1]) 87) (by intro _; kernel_rfl)) <|
   .cons [88, 208] (ok_gd (ok_blkrow 2 1 (ok_new (fun b => .slice (some ⟨b, 0, none⟩) 1 1) (fun u36 => [vI 2, vI 1]) 37 88 208) (fun _ => rfl) (by decide)) (by intro _; kernel_rfl)) <|
   .cons [89, 209] (ok_gd (ok_blkrow 1 1 (ok_new (fun b => .slice (some ⟨b, 0, none⟩) 1 1) (fun u36 => [.slice (some ⟨((u36 16).n 0), 0, none⟩) 1 1]) 22 89 209) (fun _ => rfl) (by decide)) (by intro _; kernel_rfl)) <|
   .cons [90] (ok_gd (ok_callL [209, 208] (fun u36 => [owK 22 1 (some ⟨((u36 17).n 0), 0, none⟩) 1 1 (([⟨(some ⟨((u36 16).n 0), 0, none⟩), 1, ([(⟨2, 1⟩ : TInterval)] : List TInterval)⟩] : List (Sl TInterval)).flatMap enSl), owK 37 2 (some ⟨((u36 16).n 0), 0, none⟩) 1 1 (([(⟨2, 1⟩ : TInterval)] : List TInterval).flatMap en_TInterval)]) 48 (fun u36 => #[.slice (some ⟨((u36 17).n 0), 0, none⟩) 1 1]) (.bool t42) 90 (fun u36 w hF => matrix_Valid.calls k0 ([([(⟨2, 1⟩ : TInterval)] : List TInterval)] : List (List TInterval)) (some ⟨((u36 17).n 0), 0, none⟩) 1 ([⟨(some ⟨((u36 16).n 0), 0, none⟩), 1, ([(⟨2, 1⟩ : TInterval)] : List TInterval)⟩] : List (Sl TInterval)) t42 w rfl ⟨(rdA (owns_rowC (ow_of hF.1))), (dnA (E := E_S_TInterval.toPart) (L := ([⟨(some ⟨((u36 16).n 0), 0, none⟩), 1, ([(⟨2, 1⟩ : TInterval)] : List TInterval)⟩] : List (Sl TInterval))) (rdl_cons ⟨(owns_rowC (ow_of hF.2.1)), fun _ _ => trivial⟩ rdl_nil)), trivial⟩ ht42)) (by intro _; kernel_rfl)) <|
   .cons [91] (ok_gd (ok_val (fun u36 => .bool (!t42)) 91) (by intro _; kernel_rfl)) <|
   .cons [92] (ok_pickK (fun u36 => .bool (!t42)) 92) <|
   .cons [93] (ok_as (u' := fun u36 => [(93, sB true)]) (ok_val (fun u36 => .bool (!t42)) 93) (fun _ => by rw [b43])) <|
   .cons [94] (ok_gd (ok_val (fun u36 => .slice ((u6 4).o 0) t7.length ((u6 4).n 0)) 94) (by intro _; kernel_rfl)) <|
   .cons [95] (ok_gd (ok_callv 42 (fun u36 => #[vI 196608]) (.agg #[vI t44.Lo, vI t44.Hi]) 95 [] (fun u36 w _ => armillaryref02_Point.calls 196608  t44 w  ht44)) (by intro _; kernel_rfl)) <|
   .cons [96] (ok_gd (ok_ld (fun u36 => .agg #[vI t5.Lo, vI t5.Hi]) 96 188 0 2 (fun u36 => ((u2 3).n 0)) (fun u36 => [vI t5.Lo, vI t5.Hi]) 37) (by intro _; kernel_rfl)) <|
   .cons [97, 210] (ok_gd (ok_blkrow 2 2 (ok_new (fun b => .slice (some ⟨b, 0, none⟩) 2 2) (fun u36 => [vI t44.Lo, vI t44.Hi, vI t5.Lo, vI t5.Hi]) 37 97 210) (fun _ => rfl) (by decide)) (by intro _; kernel_rfl)) <|
   .cons [98] (ok_gd (ok_callL [190, 210] (fun u36 => [owK 37 2 ((u6 4).o 0) t7.length ((u6 4).n 0) (t7.flatMap en_TInterval), owK 37 2 (some ⟨((u36 25).n 0), 0, none⟩) 2 2 (([t44, t5] : List TInterval).flatMap en_TInterval)]) 28 (fun u36 => #[.slice ((u6 4).o 0) t7.length ((u6 4).n 0), .slice (some ⟨((u36 25).n 0), 0, none⟩) 2 2]) (.bool t45) 98 (fun u36 w hF => armillaryref03_Same.calls k0 t7 ([t44, t5] : List TInterval) ((u6 4).o 0) ((u6 4).n 0) (some ⟨((u36 25).n 0), 0, none⟩) 2 t45 w  ⟨(rdA (owns_rowC (ow_of hF.1))), (rdA (owns_rowC (ow_of hF.2.1))), trivial⟩ ht45)) (by intro _; kernel_rfl)) <|
   .cons [99] (ok_pickK (fun u36 => .bool t45) 99) <|
   .cons [100] (ok_as (u' := fun u36 => [(100, sB true)]) (ok_val (fun u36 => .bool t45) 100) (fun _ => by rw [b46])) <|
   .cons [101] (ok_gd (ok_val (fun u36 => .slice ((u8 1).o 0) (((u8 1).dl Sl.l gd_S_i64 0 t10).length) ((u8 1).n 0)) 101) (by intro _; kernel_rfl)) <|
   .cons [102] (ok_gd (ok_val (fun u36 => .pointer (some ⟨hdB ((u8 1).o 0), hdO ((u8 1).o 0) + ((0 : Int).toNat) * 1, none⟩)) 102 (hv := fun _ _ => ix_pure (t := 30) (k := .i64) (i := (0 : Int)) (p := ((u8 1).o 0)) (n := ((u8 1).dl Sl.l gd_S_i64 0 t10).length) (cap := ((u8 1).n 0)) (x := t10) P49 (map_len (dl_er ergd_S_i64 (u8 1) 0 t10)) b47 (by kernel_rfl))) (by intro _; kernel_rfl)) <|
   .cons [103] (ok_gd (ok_valL [192] (fun u36 => [nsK 32 2 1 en_i64 ((u8 1).o 0) (((u8 1).dl Sl.l gd_S_i64 0 t10).length) ((u8 1).n 0) ((u8 1).dl Sl.l gd_S_i64 0 t10) ((u8 1).dl Sl.l gd_S_i64 0 t10)]) (fun u36 => .slice p_t48 t48.length c_t48) (fun u36 => true) [true] 103 (fun u36 w hg hF => ld_row (en := enSl) (ns_of hF.1).row.2 enSl_len y_t48 0 1 [.slice p_t48 t48.length c_t48] rfl (by kernel_rfl))) (by intro _; kernel_rfl)) <|
   .cons [104] (ok_gd (ok_val (fun u36 => .pointer (some ⟨hdB p_t48, hdO p_t48 + ((0 : Int).toNat) * 1, none⟩)) 104 (hv := fun _ _ => ix_pure (t := 32) (k := .i64) (i := (0 : Int)) (p := p_t48) (n := t48.length) (cap := c_t48) (x := t48) P52 rfl b50 (by kernel_rfl))) (by intro _; kernel_rfl)) <|
   .cons [105] (ok_gd (ok_valL [192] (fun u36 => [nsK 32 2 1 en_i64 ((u8 1).o 0) (((u8 1).dl Sl.l gd_S_i64 0 t10).length) ((u8 1).n 0) ((u8 1).dl Sl.l gd_S_i64 0 t10) ((u8 1).dl Sl.l gd_S_i64 0 t10)]) (fun u36 => vI t51) (fun u36 => true) [true] 105 (fun u36 w hg hF => ld_row (en := en_i64) ((ns_of hF.1).one y_t48).2 en_i64_len ht51 0 1 [vI t51] rfl (by kernel_rfl))) (by intro _; kernel_rfl)) <|
   .cons [106] (ok_gd (ok_val (fun u36 => .bool (t51 == 65536)) 106) (by intro _; kernel_rfl)) <|
   .cons [107] (ok_pickK (fun u36 => .bool (t51 == 65536)) 107) <|
   .cons [108] (ok_as (u' := fun u36 => [(108, sB true)]) (ok_val (fun u36 => .bool (t51 == 65536)) 108) (fun _ => by rw [b53])) <|
   .cons [109] (ok_gd (ok_val (fun u36 => .slice ((u8 1).o 0) (((u8 1).dl Sl.l gd_S_i64 0 t10).length) ((u8 1).n 0)) 109) (by intro _; kernel_rfl)) <|
   .cons [110] (ok_gd (ok_val (fun u36 => .pointer (some ⟨hdB ((u8 1).o 0), hdO ((u8 1).o 0) + ((0 : Int).toNat) * 1, none⟩)) 110 (hv := fun _ _ => ix_pure (t := 30) (k := .i64) (i := (0 : Int)) (p := ((u8 1).o 0)) (n := ((u8 1).dl Sl.l gd_S_i64 0 t10).length) (cap := ((u8 1).n 0)) (x := t10) P49 (map_len (dl_er ergd_S_i64 (u8 1) 0 t10)) b54 (by kernel_rfl))) (by intro _; kernel_rfl)) <|
   .cons [111] (ok_gd (ok_valL [192] (fun u36 => [nsK 32 2 1 en_i64 ((u8 1).o 0) (((u8 1).dl Sl.l gd_S_i64 0 t10).length) ((u8 1).n 0) ((u8 1).dl Sl.l gd_S_i64 0 t10) ((u8 1).dl Sl.l gd_S_i64 0 t10)]) (fun u36 => .slice p_t55 t55.length c_t55) (fun u36 => true) [true] 111 (fun u36 w hg hF => ld_row (en := enSl) (ns_of hF.1).row.2 enSl_len y_t55 0 1 [.slice p_t55 t55.length c_t55] rfl (by kernel_rfl))) (by intro _; kernel_rfl)) <|
   .cons [112] (ok_gd (ok_val (fun u36 => .pointer (some ⟨hdB p_t55, hdO p_t55 + ((1 : Int).toNat) * 1, none⟩)) 112 (hv := fun _ _ => ix_pure (t := 32) (k := .i64) (i := (1 : Int)) (p := p_t55) (n := t55.length) (cap := c_t55) (x := t55) P58 rfl b56 (by kernel_rfl))) (by intro _; kernel_rfl)) <|
   .cons [113] (ok_gd (ok_valL [192] (fun u36 => [nsK 32 2 1 en_i64 ((u8 1).o 0) (((u8 1).dl Sl.l gd_S_i64 0 t10).length) ((u8 1).n 0) ((u8 1).dl Sl.l gd_S_i64 0 t10) ((u8 1).dl Sl.l gd_S_i64 0 t10)]) (fun u36 => vI t57) (fun u36 => true) [true] 113 (fun u36 w hg hF => ld_row (en := en_i64) ((ns_of hF.1).one y_t55).2 en_i64_len ht57 0 1 [vI t57] rfl (by kernel_rfl))) (by intro _; kernel_rfl)) <|
   .cons [114] (ok_gd (ok_val (fun u36 => .bool (t57 == 0)) 114) (by intro _; kernel_rfl)) <|
   .cons [115] (ok_pickK (fun u36 => .bool (t57 == 0)) 115) <|
   .cons [116] (ok_as (u' := fun u36 => [(116, sB true)]) (ok_val (fun u36 => .bool (t57 == 0)) 116) (fun _ => by rw [b59])) <|
   .cons [117] (ok_gd (ok_val (fun u36 => .slice ((u8 1).o 0) (((u8 1).dl Sl.l gd_S_i64 0 t10).length) ((u8 1).n 0)) 117) (by intro _; kernel_rfl)) <|
   .cons [118] (ok_gd (ok_val (fun u36 => .pointer (some ⟨hdB ((u8 1).o 0), hdO ((u8 1).o 0) + ((1 : Int).toNat) * 1, none⟩)) 118 (hv := fun _ _ => ix_pure (t := 30) (k := .i64) (i := (1 : Int)) (p := ((u8 1).o 0)) (n := ((u8 1).dl Sl.l gd_S_i64 0 t10).length) (cap := ((u8 1).n 0)) (x := t10) P49 (map_len (dl_er ergd_S_i64 (u8 1) 0 t10)) b60 (by kernel_rfl))) (by intro _; kernel_rfl)) <|
   .cons [119] (ok_gd (ok_valL [192] (fun u36 => [nsK 32 2 1 en_i64 ((u8 1).o 0) (((u8 1).dl Sl.l gd_S_i64 0 t10).length) ((u8 1).n 0) ((u8 1).dl Sl.l gd_S_i64 0 t10) ((u8 1).dl Sl.l gd_S_i64 0 t10)]) (fun u36 => .slice p_t61 t61.length c_t61) (fun u36 => true) [true] 119 (fun u36 w hg hF => ld_row (en := enSl) (ns_of hF.1).row.2 enSl_len y_t61 0 1 [.slice p_t61 t61.length c_t61] rfl (by kernel_rfl))) (by intro _; kernel_rfl)) <|
   .cons [120] (ok_gd (ok_val (fun u36 => .pointer (some ⟨hdB p_t61, hdO p_t61 + ((0 : Int).toNat) * 1, none⟩)) 120 (hv := fun _ _ => ix_pure (t := 32) (k := .i64) (i := (0 : Int)) (p := p_t61) (n := t61.length) (cap := c_t61) (x := t61) P64 rfl b62 (by kernel_rfl))) (by intro _; kernel_rfl)) <|
   .cons [121] (ok_gd (ok_valL [192] (fun u36 => [nsK 32 2 1 en_i64 ((u8 1).o 0) (((u8 1).dl Sl.l gd_S_i64 0 t10).length) ((u8 1).n 0) ((u8 1).dl Sl.l gd_S_i64 0 t10) ((u8 1).dl Sl.l gd_S_i64 0 t10)]) (fun u36 => vI t63) (fun u36 => true) [true] 121 (fun u36 w hg hF => ld_row (en := en_i64) ((ns_of hF.1).one y_t61).2 en_i64_len ht63 0 1 [vI t63] rfl (by kernel_rfl))) (by intro _; kernel_rfl)) <|
   .cons [122] (ok_gd (ok_val (fun u36 => .bool (t63 == 0)) 122) (by intro _; kernel_rfl)) <|
   .cons [123] (ok_pickK (fun u36 => .bool (t63 == 0)) 123) <|
   .cons [124] (ok_as (u' := fun u36 => [(124, sB true)]) (ok_val (fun u36 => .bool (t63 == 0)) 124) (fun _ => by rw [b65])) <|
   .cons [125] (ok_gd (ok_val (fun u36 => .slice ((u8 1).o 0) (((u8 1).dl Sl.l gd_S_i64 0 t10).length) ((u8 1).n 0)) 125) (by intro _; kernel_rfl)) <|
   .cons [126] (ok_gd (ok_val (fun u36 => .pointer (some ⟨hdB ((u8 1).o 0), hdO ((u8 1).o 0) + ((1 : Int).toNat) * 1, none⟩)) 126 (hv := fun _ _ => ix_pure (t := 30) (k := .i64) (i := (1 : Int)) (p := ((u8 1).o 0)) (n := ((u8 1).dl Sl.l gd_S_i64 0 t10).length) (cap := ((u8 1).n 0)) (x := t10) P49 (map_len (dl_er ergd_S_i64 (u8 1) 0 t10)) b66 (by kernel_rfl))) (by intro _; kernel_rfl)) <|
   .cons [127] (ok_gd (ok_valL [192] (fun u36 => [nsK 32 2 1 en_i64 ((u8 1).o 0) (((u8 1).dl Sl.l gd_S_i64 0 t10).length) ((u8 1).n 0) ((u8 1).dl Sl.l gd_S_i64 0 t10) ((u8 1).dl Sl.l gd_S_i64 0 t10)]) (fun u36 => .slice p_t67 t67.length c_t67) (fun u36 => true) [true] 127 (fun u36 w hg hF => ld_row (en := enSl) (ns_of hF.1).row.2 enSl_len y_t67 0 1 [.slice p_t67 t67.length c_t67] rfl (by kernel_rfl))) (by intro _; kernel_rfl)) <|
   .cons [128] (ok_gd (ok_val (fun u36 => .pointer (some ⟨hdB p_t67, hdO p_t67 + ((1 : Int).toNat) * 1, none⟩)) 128 (hv := fun _ _ => ix_pure (t := 32) (k := .i64) (i := (1 : Int)) (p := p_t67) (n := t67.length) (cap := c_t67) (x := t67) P70 rfl b68 (by kernel_rfl))) (by intro _; kernel_rfl)) <|
   .cons [129] (ok_gd (ok_valL [192] (fun u36 => [nsK 32 2 1 en_i64 ((u8 1).o 0) (((u8 1).dl Sl.l gd_S_i64 0 t10).length) ((u8 1).n 0) ((u8 1).dl Sl.l gd_S_i64 0 t10) ((u8 1).dl Sl.l gd_S_i64 0 t10)]) (fun u36 => vI t69) (fun u36 => true) [true] 129 (fun u36 w hg hF => ld_row (en := en_i64) ((ns_of hF.1).one y_t67).2 en_i64_len ht69 0 1 [vI t69] rfl (by kernel_rfl))) (by intro _; kernel_rfl)) <|
   .cons [130] (ok_gd (ok_val (fun u36 => .bool (t69 == 65536)) 130) (by intro _; kernel_rfl)) <|
   .cons [131] (ok_pickK (fun u36 => .bool (t69 == 65536)) 131) <|
   .cons [132] (ok_as (u' := fun u36 => [(132, sB true)]) (ok_val (fun u36 => .bool (t69 == 65536)) 132) (fun _ => by rw [b71])) <|
   .cons [133] (ok_gd (ok_val (fun u36 => .slice ((u11 2).o 0) (((u11 2).dl Sl.l gd_S_TInterval 0 t14.1).length) ((u11 2).n 0)) 133) (by intro _; kernel_rfl)) <|
   .cons [134] (ok_gd (ok_callv 42 (fun u36 => #[vI 32768]) (.agg #[vI t72.Lo, vI t72.Hi]) 134 [] (fun u36 w _ => armillaryref02_Point.calls 32768  t72 w  ht72)) (by intro _; kernel_rfl)) <|
   .cons [135] (ok_gd (ok_val (fun u36 => .agg #[vI 0, vI 0]) 135) (by intro _; kernel_rfl)) <|
   .cons [136, 211] (ok_gd (ok_blkrow 2 2 (ok_new (fun b => .slice (some ⟨b, 0, none⟩) 2 2) (fun u36 => [vI t72.Lo, vI t72.Hi, vI 0, vI 0]) 37 136 211) (fun _ => rfl) (by decide)) (by intro _; kernel_rfl)) <|
   .cons [137] (ok_gd (ok_val (fun u36 => .agg #[vI 0, vI 0]) 137) (by intro _; kernel_rfl)) <|
   .cons [138] (ok_gd (ok_callv 42 (fun u36 => #[vI 16384]) (.agg #[vI t73.Lo, vI t73.Hi]) 138 [] (fun u36 w _ => armillaryref02_Point.calls 16384  t73 w  ht73)) (by intro _; kernel_rfl)) <|
   .cons [139, 212] (ok_gd (ok_blkrow 2 2 (ok_new (fun b => .slice (some ⟨b, 0, none⟩) 2 2) (fun u36 => [vI 0, vI 0, vI t73.Lo, vI t73.Hi]) 37 139 212) (fun _ => rfl) (by decide)) (by intro _; kernel_rfl)) <|
   .cons [140, 213] (ok_gd (ok_blkrow 1 2 (ok_new (fun b => .slice (some ⟨b, 0, none⟩) 2 2) (fun u36 => [.slice (some ⟨((u36 64).n 0), 0, none⟩) 2 2, .slice (some ⟨((u36 67).n 0), 0, none⟩) 2 2]) 22 140 213) (fun _ => rfl) (by decide)) (by intro _; kernel_rfl)) <|
   .cons [141] (ok_gd (ok_callL [195, 196, 213, 211, 212] (fun u36 => [owK 22 1 ((u11 2).o 0) (((u11 2).dl Sl.l gd_S_TInterval 0 t14.1).length) ((u11 2).n 0) (((u11 2).dl Sl.l gd_S_TInterval 0 t14.1).flatMap enSl), dnK fr E_S_TInterval.toPart ((u11 2).dl Sl.l gd_S_TInterval 0 t14.1), owK 22 1 (some ⟨((u36 68).n 0), 0, none⟩) 2 2 (([⟨(some ⟨((u36 64).n 0), 0, none⟩), 2, ([t72, (⟨0, 0⟩ : TInterval)] : List TInterval)⟩, ⟨(some ⟨((u36 67).n 0), 0, none⟩), 2, ([(⟨0, 0⟩ : TInterval), t73] : List TInterval)⟩] : List (Sl TInterval)).flatMap enSl), owK 37 2 (some ⟨((u36 64).n 0), 0, none⟩) 2 2 (([t72, (⟨0, 0⟩ : TInterval)] : List TInterval).flatMap en_TInterval), owK 37 2 (some ⟨((u36 67).n 0), 0, none⟩) 2 2 (([(⟨0, 0⟩ : TInterval), t73] : List TInterval).flatMap en_TInterval)]) 26 (fun u36 => #[.slice ((u11 2).o 0) (((u11 2).dl Sl.l gd_S_TInterval 0 t14.1).length) ((u11 2).n 0), .slice (some ⟨((u36 68).n 0), 0, none⟩) 2 2]) (.bool t74) 141 (fun u36 w hF => armillaryref04_Same.calls k0 t14.1 ([([t72, (⟨0, 0⟩ : TInterval)] : List TInterval), ([(⟨0, 0⟩ : TInterval), t73] : List TInterval)] : List (List TInterval)) ((u11 2).o 0) ((u11 2).n 0) ((u11 2).dl Sl.l gd_S_TInterval 0 t14.1) (some ⟨((u36 68).n 0), 0, none⟩) 2 ([⟨(some ⟨((u36 64).n 0), 0, none⟩), 2, ([t72, (⟨0, 0⟩ : TInterval)] : List TInterval)⟩, ⟨(some ⟨((u36 67).n 0), 0, none⟩), 2, ([(⟨0, 0⟩ : TInterval), t73] : List TInterval)⟩] : List (Sl TInterval)) t74 w (dl_er ergd_S_TInterval (u11 2) 0 t14.1) rfl ⟨(rdA (owns_rowC (ow_of hF.1))), (dnA (dn_of hF.2.1)), (rdA (owns_rowC (ow_of hF.2.2.1))), (dnA (E := E_S_TInterval.toPart) (L := ([⟨(some ⟨((u36 64).n 0), 0, none⟩), 2, ([t72, (⟨0, 0⟩ : TInterval)] : List TInterval)⟩, ⟨(some ⟨((u36 67).n 0), 0, none⟩), 2, ([(⟨0, 0⟩ : TInterval), t73] : List TInterval)⟩] : List (Sl TInterval))) (rdl_cons ⟨(owns_rowC (ow_of hF.2.2.2.1)), fun _ _ => trivial⟩ (rdl_cons ⟨(owns_rowC (ow_of hF.2.2.2.2.1)), fun _ _ => trivial⟩ rdl_nil))), trivial⟩ ht74)) (by intro _; kernel_rfl)) <|
   .cons [142] (ok_pickK (fun u36 => .bool t74) 142) <|
   .v 143 (.bool t74) <|
   .cons [144] (ok_valg (fun u36 => .bool t14.2) (fun u36 => (t74 == true)) [true] 144) <|
   .cons [145] (ok_and 143 144 (fun u36 => true) (fun u36 => true) (fun u36 => t74) (fun u36 => t14.2) 145) <|
   .v 146 (.bool (t74 && t14.2)) <|
   .cons [147] (ok_valg (fun u36 => .bool t18.2) (fun u36 => ((t74 && t14.2) == true)) [true] 147) <|
   .cons [148] (ok_valg (fun u36 => .bool (!t18.2)) (fun u36 => ((t74 && t14.2) == true)) [false] 148) <|
   .cons [149] (ok_and 146 148 (fun u36 => true) (fun u36 => true) (fun u36 => (t74 && t14.2)) (fun u36 => (!t18.2)) 149) <|
   .cons [150] (ok_as (u' := fun u36 => [(150, sB true)]) (ok_val (fun u36 => .bool ((t74 && t14.2) && (!t18.2))) 150) (fun _ => by rw [b75])) <|
   .cons [151] (ok_gd (ok_val (fun u36 => .slice ((u19 2).o 0) (((u19 2).dl Sl.l gd_S_TInterval 0 t20).length) ((u19 2).n 0)) 151) (by intro _; kernel_rfl)) <|
   .cons [152, 214] (ok_gd (ok_callY false fr [] [] (fun u36 => []) [] (fun u36 => []) 46 (fun u36 => #[vI 1, vI 4, vI 0, vI 1]) (fun u36 => []) (fun u36 => []) (fun u36 g => .slice (g.o 0) ((g.dl Sl.l gd_S_i64 0 t76).length) (g.n 0)) (fun u36 g => [fun _ => nsK 32 2 1 en_i64 (g.o 0) ((g.dl Sl.l gd_S_i64 0 t76).length) (g.n 0) (g.dl Sl.l gd_S_i64 0 t76) (g.dl Sl.l gd_S_i64 0 t76)]) [214] 152 (fun u36 w hB hF hM => armillarylaw04_square.calls 1 4 0 1  t76 w  ht76) (fun u36 w hF => ⟨trivial, trivial⟩) (fun u36 g => (fams_cons fam_ns fams_nil)) (.inr (fun u36 g => (famx_cons trivial (fun K h => by cases h)))) (fun h => by cases h)) (by intro _; kernel_rfl)) <|
   .cons [153, 215] (ok_gd (ok_callY false fr [80] [214] (fun u36 => [nsK 32 2 1 en_i64 ((u36 80).o 0) (((u36 80).dl Sl.l gd_S_i64 0 t76).length) ((u36 80).n 0) ((u36 80).dl Sl.l gd_S_i64 0 t76) ((u36 80).dl Sl.l gd_S_i64 0 t76)]) [] (fun u36 => []) 45 (fun u36 => #[.slice ((u36 80).o 0) (((u36 80).dl Sl.l gd_S_i64 0 t76).length) ((u36 80).n 0)]) (fun u36 => [rdF anyF 1 ((u36 80).o 0) (((u36 80).dl Sl.l gd_S_i64 0 t76).length) ((u36 80).n 0) (((u36 80).dl Sl.l gd_S_i64 0 t76).flatMap enSl), dnK anyF E_S_i64.toPart ((u36 80).dl Sl.l gd_S_i64 0 t76)]) (fun u36 => []) (fun u36 g => .slice (g.o 0) ((g.dl Sl.l gd_S_TInterval 0 t77).length) (g.n 0)) (fun u36 g => [fun _ => nsK 22 37 2 en_TInterval (g.o 0) ((g.dl Sl.l gd_S_TInterval 0 t77).length) (g.n 0) (g.dl Sl.l gd_S_TInterval 0 t77) (g.dl Sl.l gd_S_TInterval 0 t77)]) [215] 153 (fun u36 w hB hF hM => matrix_FromNumbers.calls k0 t76 ((u36 80).o 0) ((u36 80).n 0) ((u36 80).dl Sl.l gd_S_i64 0 t76) t77 w (dl_er ergd_S_i64 (u36 80) 0 t76) hB ht77) (fun u36 w hF => ⟨⟨sub_rd0 (ns_of hF.1).row (fun j h => ⟨_, (.head _), (ns_fpH h)⟩), sub_dn0 (ns_of hF.1).all (fun j h => ⟨_, (.head _), (ns_fpA h)⟩), trivial⟩, trivial⟩) (fun u36 g => (fams_cons fam_ns fams_nil)) (.inr (fun u36 g => (famx_cons trivial (fun K h => by cases h)))) (fun h => by cases h) (hloc := fun u u' h => ⟨by first | rfl | simp only [h 80 (by decide)], by first | rfl | simp only [h 80 (by decide)], by first | rfl | simp only [h 80 (by decide)], by first | rfl | simp only [h 80 (by decide)], by first | rfl | simp only [h 80 (by decide)], by first | rfl | simp only [h 80 (by decide)]⟩)) (by intro _; kernel_rfl)) <|
   .cons [154] (ok_gd (ok_callL [201, 215] (fun u36 => [nsK 22 37 2 en_TInterval ((u19 2).o 0) (((u19 2).dl Sl.l gd_S_TInterval 0 t20).length) ((u19 2).n 0) ((u19 2).dl Sl.l gd_S_TInterval 0 t20) ((u19 2).dl Sl.l gd_S_TInterval 0 t20), nsK 22 37 2 en_TInterval ((u36 81).o 0) (((u36 81).dl Sl.l gd_S_TInterval 0 t77).length) ((u36 81).n 0) ((u36 81).dl Sl.l gd_S_TInterval 0 t77) ((u36 81).dl Sl.l gd_S_TInterval 0 t77)]) 26 (fun u36 => #[.slice ((u19 2).o 0) (((u19 2).dl Sl.l gd_S_TInterval 0 t20).length) ((u19 2).n 0), .slice ((u36 81).o 0) (((u36 81).dl Sl.l gd_S_TInterval 0 t77).length) ((u36 81).n 0)]) (.bool t78) 154 (fun u36 w hF => armillaryref04_Same.calls k0 t20 t77 ((u19 2).o 0) ((u19 2).n 0) ((u19 2).dl Sl.l gd_S_TInterval 0 t20) ((u36 81).o 0) ((u36 81).n 0) ((u36 81).dl Sl.l gd_S_TInterval 0 t77) t78 w (dl_er ergd_S_TInterval (u19 2) 0 t20) (dl_er ergd_S_TInterval (u36 81) 0 t77) ⟨(rdA (ns_of hF.1).row), (dnA (ns_of hF.1).all), (rdA (ns_of hF.2.1).row), (dnA (ns_of hF.2.1).all), trivial⟩ ht78)) (by intro _; kernel_rfl)) <|
   .cons [155] (ok_pickK (fun u36 => .bool t78) 155) <|
   .cons [156] (ok_as (u' := fun u36 => [(156, sB true)]) (ok_val (fun u36 => .bool t78) 156) (fun _ => by rw [b79])) <|
   .cons [157] (ok_gd (ok_val (fun u36 => .slice ((u21 1).o 0) (((u21 1).dl Sl.l gd_S_TInterval 0 t22).length) ((u21 1).n 0)) 157) (by intro _; kernel_rfl)) <|
   .cons [158, 216] (ok_gd (ok_callY false fr [] [] (fun u36 => []) [] (fun u36 => []) 46 (fun u36 => #[vI 1, vI 0, vI 2, vI 1]) (fun u36 => []) (fun u36 => []) (fun u36 g => .slice (g.o 0) ((g.dl Sl.l gd_S_i64 0 t80).length) (g.n 0)) (fun u36 g => [fun _ => nsK 32 2 1 en_i64 (g.o 0) ((g.dl Sl.l gd_S_i64 0 t80).length) (g.n 0) (g.dl Sl.l gd_S_i64 0 t80) (g.dl Sl.l gd_S_i64 0 t80)]) [216] 158 (fun u36 w hB hF hM => armillarylaw04_square.calls 1 0 2 1  t80 w  ht80) (fun u36 w hF => ⟨trivial, trivial⟩) (fun u36 g => (fams_cons fam_ns fams_nil)) (.inr (fun u36 g => (famx_cons trivial (fun K h => by cases h)))) (fun h => by cases h)) (by intro _; kernel_rfl)) <|
   .cons [159, 217] (ok_gd (ok_callY false fr [86] [216] (fun u36 => [nsK 32 2 1 en_i64 ((u36 86).o 0) (((u36 86).dl Sl.l gd_S_i64 0 t80).length) ((u36 86).n 0) ((u36 86).dl Sl.l gd_S_i64 0 t80) ((u36 86).dl Sl.l gd_S_i64 0 t80)]) [] (fun u36 => []) 45 (fun u36 => #[.slice ((u36 86).o 0) (((u36 86).dl Sl.l gd_S_i64 0 t80).length) ((u36 86).n 0)]) (fun u36 => [rdF anyF 1 ((u36 86).o 0) (((u36 86).dl Sl.l gd_S_i64 0 t80).length) ((u36 86).n 0) (((u36 86).dl Sl.l gd_S_i64 0 t80).flatMap enSl), dnK anyF E_S_i64.toPart ((u36 86).dl Sl.l gd_S_i64 0 t80)]) (fun u36 => []) (fun u36 g => .slice (g.o 0) ((g.dl Sl.l gd_S_TInterval 0 t81).length) (g.n 0)) (fun u36 g => [fun _ => nsK 22 37 2 en_TInterval (g.o 0) ((g.dl Sl.l gd_S_TInterval 0 t81).length) (g.n 0) (g.dl Sl.l gd_S_TInterval 0 t81) (g.dl Sl.l gd_S_TInterval 0 t81)]) [217] 159 (fun u36 w hB hF hM => matrix_FromNumbers.calls k0 t80 ((u36 86).o 0) ((u36 86).n 0) ((u36 86).dl Sl.l gd_S_i64 0 t80) t81 w (dl_er ergd_S_i64 (u36 86) 0 t80) hB ht81) (fun u36 w hF => ⟨⟨sub_rd0 (ns_of hF.1).row (fun j h => ⟨_, (.head _), (ns_fpH h)⟩), sub_dn0 (ns_of hF.1).all (fun j h => ⟨_, (.head _), (ns_fpA h)⟩), trivial⟩, trivial⟩) (fun u36 g => (fams_cons fam_ns fams_nil)) (.inr (fun u36 g => (famx_cons trivial (fun K h => by cases h)))) (fun h => by cases h) (hloc := fun u u' h => ⟨by first | rfl | simp only [h 86 (by decide)], by first | rfl | simp only [h 86 (by decide)], by first | rfl | simp only [h 86 (by decide)], by first | rfl | simp only [h 86 (by decide)], by first | rfl | simp only [h 86 (by decide)], by first | rfl | simp only [h 86 (by decide)]⟩)) (by intro _; kernel_rfl)) <|
   .cons [160] (ok_gd (ok_callL [202, 217] (fun u36 => [nsK 22 37 2 en_TInterval ((u21 1).o 0) (((u21 1).dl Sl.l gd_S_TInterval 0 t22).length) ((u21 1).n 0) ((u21 1).dl Sl.l gd_S_TInterval 0 t22) ((u21 1).dl Sl.l gd_S_TInterval 0 t22), nsK 22 37 2 en_TInterval ((u36 87).o 0) (((u36 87).dl Sl.l gd_S_TInterval 0 t81).length) ((u36 87).n 0) ((u36 87).dl Sl.l gd_S_TInterval 0 t81) ((u36 87).dl Sl.l gd_S_TInterval 0 t81)]) 26 (fun u36 => #[.slice ((u21 1).o 0) (((u21 1).dl Sl.l gd_S_TInterval 0 t22).length) ((u21 1).n 0), .slice ((u36 87).o 0) (((u36 87).dl Sl.l gd_S_TInterval 0 t81).length) ((u36 87).n 0)]) (.bool t82) 160 (fun u36 w hF => armillaryref04_Same.calls k0 t22 t81 ((u21 1).o 0) ((u21 1).n 0) ((u21 1).dl Sl.l gd_S_TInterval 0 t22) ((u36 87).o 0) ((u36 87).n 0) ((u36 87).dl Sl.l gd_S_TInterval 0 t81) t82 w (dl_er ergd_S_TInterval (u21 1) 0 t22) (dl_er ergd_S_TInterval (u36 87) 0 t81) ⟨(rdA (ns_of hF.1).row), (dnA (ns_of hF.1).all), (rdA (ns_of hF.2.1).row), (dnA (ns_of hF.2.1).all), trivial⟩ ht82)) (by intro _; kernel_rfl)) <|
   .cons [161] (ok_pickK (fun u36 => .bool t82) 161) <|
   .cons [162] (ok_as (u' := fun u36 => [(162, sB true)]) (ok_val (fun u36 => .bool t82) 162) (fun _ => by rw [b83])) <|
   .cons [163] (ok_gd (ok_val (fun u36 => .slice ((u23 3).o 0) (((u23 3).dl Sl.l gd_S_i64 0 t24).length) ((u23 3).n 0)) 163) (by intro _; kernel_rfl)) <|
   .cons [164] (ok_gd (ok_val (fun u36 => .pointer (some ⟨hdB ((u23 3).o 0), hdO ((u23 3).o 0) + ((0 : Int).toNat) * 1, none⟩)) 164 (hv := fun _ _ => ix_pure (t := 30) (k := .i64) (i := (0 : Int)) (p := ((u23 3).o 0)) (n := ((u23 3).dl Sl.l gd_S_i64 0 t24).length) (cap := ((u23 3).n 0)) (x := t24) P86 (map_len (dl_er ergd_S_i64 (u23 3) 0 t24)) b84 (by kernel_rfl))) (by intro _; kernel_rfl)) <|
   .cons [165] (ok_gd (ok_valL [205] (fun u36 => [nsK 32 2 1 en_i64 ((u23 3).o 0) (((u23 3).dl Sl.l gd_S_i64 0 t24).length) ((u23 3).n 0) ((u23 3).dl Sl.l gd_S_i64 0 t24) ((u23 3).dl Sl.l gd_S_i64 0 t24)]) (fun u36 => .slice p_t85 t85.length c_t85) (fun u36 => true) [true] 165 (fun u36 w hg hF => ld_row (en := enSl) (ns_of hF.1).row.2 enSl_len y_t85 0 1 [.slice p_t85 t85.length c_t85] rfl (by kernel_rfl))) (by intro _; kernel_rfl)) <|
   .cons [166] (ok_gd (ok_val (fun u36 => .pointer (some ⟨hdB p_t85, hdO p_t85 + ((0 : Int).toNat) * 1, none⟩)) 166 (hv := fun _ _ => ix_pure (t := 32) (k := .i64) (i := (0 : Int)) (p := p_t85) (n := t85.length) (cap := c_t85) (x := t85) P89 rfl b87 (by kernel_rfl))) (by intro _; kernel_rfl)) <|
   .cons [167] (ok_gd (ok_valL [205] (fun u36 => [nsK 32 2 1 en_i64 ((u23 3).o 0) (((u23 3).dl Sl.l gd_S_i64 0 t24).length) ((u23 3).n 0) ((u23 3).dl Sl.l gd_S_i64 0 t24) ((u23 3).dl Sl.l gd_S_i64 0 t24)]) (fun u36 => vI t88) (fun u36 => true) [true] 167 (fun u36 w hg hF => ld_row (en := en_i64) ((ns_of hF.1).one y_t85).2 en_i64_len ht88 0 1 [vI t88] rfl (by kernel_rfl))) (by intro _; kernel_rfl)) <|
   .cons [168] (ok_gd (ok_val (fun u36 => .bool (t88 == (-2))) 168) (by intro _; kernel_rfl)) <|
   .cons [169] (ok_pickK (fun u36 => .bool (t88 == (-2))) 169) <|
   .cons [170] (ok_as (u' := fun u36 => [(170, sB true)]) (ok_val (fun u36 => .bool (t88 == (-2))) 170) (fun _ => by rw [b90])) <|
   .cons [171, 218] (ok_gd (ok_callY false fr [] [] (fun u36 => []) [] (fun u36 => []) 25 (fun u36 => #[vI 2]) (fun u36 => []) (fun u36 => []) (fun u36 g => .slice (g.o 0) ((g.dl Sl.l gd_S_TInterval 0 t91).length) (g.n 0)) (fun u36 g => [fun _ => nsK 22 37 2 en_TInterval (g.o 0) ((g.dl Sl.l gd_S_TInterval 0 t91).length) (g.n 0) (g.dl Sl.l gd_S_TInterval 0 t91) (g.dl Sl.l gd_S_TInterval 0 t91)]) [218] 171 (fun u36 w hB hF hM => matrix_Identity.calls k0 2  t91 w  ht91) (fun u36 w hF => ⟨trivial, trivial⟩) (fun u36 g => (fams_cons fam_ns fams_nil)) (.inr (fun u36 g => (famx_cons trivial (fun K h => by cases h)))) (fun h => by cases h)) (by intro _; kernel_rfl)) <|
   .cons [172, 219] (ok_gd (ok_callY false fr [] [] (fun u36 => []) [] (fun u36 => []) 46 (fun u36 => #[vI 1, vI 0, vI 0, vI 1]) (fun u36 => []) (fun u36 => []) (fun u36 g => .slice (g.o 0) ((g.dl Sl.l gd_S_i64 0 t92).length) (g.n 0)) (fun u36 g => [fun _ => nsK 32 2 1 en_i64 (g.o 0) ((g.dl Sl.l gd_S_i64 0 t92).length) (g.n 0) (g.dl Sl.l gd_S_i64 0 t92) (g.dl Sl.l gd_S_i64 0 t92)]) [219] 172 (fun u36 w hB hF hM => armillarylaw04_square.calls 1 0 0 1  t92 w  ht92) (fun u36 w hF => ⟨trivial, trivial⟩) (fun u36 g => (fams_cons fam_ns fams_nil)) (.inr (fun u36 g => (famx_cons trivial (fun K h => by cases h)))) (fun h => by cases h)) (by intro _; kernel_rfl)) <|
   .cons [173, 220] (ok_gd (ok_callY false fr [100] [219] (fun u36 => [nsK 32 2 1 en_i64 ((u36 100).o 0) (((u36 100).dl Sl.l gd_S_i64 0 t92).length) ((u36 100).n 0) ((u36 100).dl Sl.l gd_S_i64 0 t92) ((u36 100).dl Sl.l gd_S_i64 0 t92)]) [] (fun u36 => []) 45 (fun u36 => #[.slice ((u36 100).o 0) (((u36 100).dl Sl.l gd_S_i64 0 t92).length) ((u36 100).n 0)]) (fun u36 => [rdF anyF 1 ((u36 100).o 0) (((u36 100).dl Sl.l gd_S_i64 0 t92).length) ((u36 100).n 0) (((u36 100).dl Sl.l gd_S_i64 0 t92).flatMap enSl), dnK anyF E_S_i64.toPart ((u36 100).dl Sl.l gd_S_i64 0 t92)]) (fun u36 => []) (fun u36 g => .slice (g.o 0) ((g.dl Sl.l gd_S_TInterval 0 t93).length) (g.n 0)) (fun u36 g => [fun _ => nsK 22 37 2 en_TInterval (g.o 0) ((g.dl Sl.l gd_S_TInterval 0 t93).length) (g.n 0) (g.dl Sl.l gd_S_TInterval 0 t93) (g.dl Sl.l gd_S_TInterval 0 t93)]) [220] 173 (fun u36 w hB hF hM => matrix_FromNumbers.calls k0 t92 ((u36 100).o 0) ((u36 100).n 0) ((u36 100).dl Sl.l gd_S_i64 0 t92) t93 w (dl_er ergd_S_i64 (u36 100) 0 t92) hB ht93) (fun u36 w hF => ⟨⟨sub_rd0 (ns_of hF.1).row (fun j h => ⟨_, (.head _), (ns_fpH h)⟩), sub_dn0 (ns_of hF.1).all (fun j h => ⟨_, (.head _), (ns_fpA h)⟩), trivial⟩, trivial⟩) (fun u36 g => (fams_cons fam_ns fams_nil)) (.inr (fun u36 g => (famx_cons trivial (fun K h => by cases h)))) (fun h => by cases h) (hloc := fun u u' h => ⟨by first | rfl | simp only [h 100 (by decide)], by first | rfl | simp only [h 100 (by decide)], by first | rfl | simp only [h 100 (by decide)], by first | rfl | simp only [h 100 (by decide)], by first | rfl | simp only [h 100 (by decide)], by first | rfl | simp only [h 100 (by decide)]⟩)) (by intro _; kernel_rfl)) <|
   .cons [174] (ok_gd (ok_callL [218, 220] (fun u36 => [nsK 22 37 2 en_TInterval ((u36 99).o 0) (((u36 99).dl Sl.l gd_S_TInterval 0 t91).length) ((u36 99).n 0) ((u36 99).dl Sl.l gd_S_TInterval 0 t91) ((u36 99).dl Sl.l gd_S_TInterval 0 t91), nsK 22 37 2 en_TInterval ((u36 101).o 0) (((u36 101).dl Sl.l gd_S_TInterval 0 t93).length) ((u36 101).n 0) ((u36 101).dl Sl.l gd_S_TInterval 0 t93) ((u36 101).dl Sl.l gd_S_TInterval 0 t93)]) 26 (fun u36 => #[.slice ((u36 99).o 0) (((u36 99).dl Sl.l gd_S_TInterval 0 t91).length) ((u36 99).n 0), .slice ((u36 101).o 0) (((u36 101).dl Sl.l gd_S_TInterval 0 t93).length) ((u36 101).n 0)]) (.bool t94) 174 (fun u36 w hF => armillaryref04_Same.calls k0 t91 t93 ((u36 99).o 0) ((u36 99).n 0) ((u36 99).dl Sl.l gd_S_TInterval 0 t91) ((u36 101).o 0) ((u36 101).n 0) ((u36 101).dl Sl.l gd_S_TInterval 0 t93) t94 w (dl_er ergd_S_TInterval (u36 99) 0 t91) (dl_er ergd_S_TInterval (u36 101) 0 t93) ⟨(rdA (ns_of hF.1).row), (dnA (ns_of hF.1).all), (rdA (ns_of hF.2.1).row), (dnA (ns_of hF.2.1).all), trivial⟩ ht94)) (by intro _; kernel_rfl)) <|
   .cons [175] (ok_pickK (fun u36 => .bool t94) 175) <|
   .cons [176] (ok_as (u' := fun u36 => [(176, sB true)]) (ok_val (fun u36 => .bool t94) 176) (fun _ => by rw [b95])) <|
   .cons [177, 221] (ok_gd (ok_callY false fr [] [] (fun u36 => []) [] (fun u36 => []) 25 (fun u36 => #[vI 0]) (fun u36 => []) (fun u36 => []) (fun u36 g => .slice (g.o 0) ((g.dl Sl.l gd_S_TInterval 0 t96).length) (g.n 0)) (fun u36 g => [fun _ => nsK 22 37 2 en_TInterval (g.o 0) ((g.dl Sl.l gd_S_TInterval 0 t96).length) (g.n 0) (g.dl Sl.l gd_S_TInterval 0 t96) (g.dl Sl.l gd_S_TInterval 0 t96)]) [221] 177 (fun u36 w hB hF hM => matrix_Identity.calls k0 0  t96 w  ht96) (fun u36 w hF => ⟨trivial, trivial⟩) (fun u36 g => (fams_cons fam_ns fams_nil)) (.inr (fun u36 g => (famx_cons trivial (fun K h => by cases h)))) (fun h => by cases h)) (by intro _; kernel_rfl)) <|
   .cons [178] (ok_gd (ok_valL [221] (fun u36 => [nsK 22 37 2 en_TInterval ((u36 105).o 0) (((u36 105).dl Sl.l gd_S_TInterval 0 t96).length) ((u36 105).n 0) ((u36 105).dl Sl.l gd_S_TInterval 0 t96) ((u36 105).dl Sl.l gd_S_TInterval 0 t96)]) (fun u36 => vI (t96.length : Int)) (fun u36 => true) [true] 178 (fun u36 w hg hF => run_lenN (((ns_of hF.1).row.2.len enSl_len (by decide)).trans (map_len (dl_er ergd_S_TInterval (u36 105) 0 t96)).symm) (by kernel_rfl))) (by intro _; kernel_rfl)) <|
   .cons [179] (ok_gd (ok_val (fun u36 => .bool ((t96.length : Int) == 0)) 179) (by intro _; kernel_rfl)) <|
   .cons [180] (ok_pickK (fun u36 => .bool ((t96.length : Int) == 0)) 180) <|
   .cons [181] (ok_as (u' := fun u36 => [(181, sB true)]) (ok_val (fun u36 => .bool ((t96.length : Int) == 0)) 181) (fun _ => by rw [b97])) <|
   .cons [182, 222] (ok_gd (ok_callY false fr [] [] (fun u36 => []) [] (fun u36 => []) 25 (fun u36 => #[vI 7]) (fun u36 => []) (fun u36 => []) (fun u36 g => .slice (g.o 0) ((g.dl Sl.l gd_S_TInterval 0 t98).length) (g.n 0)) (fun u36 g => [fun _ => nsK 22 37 2 en_TInterval (g.o 0) ((g.dl Sl.l gd_S_TInterval 0 t98).length) (g.n 0) (g.dl Sl.l gd_S_TInterval 0 t98) (g.dl Sl.l gd_S_TInterval 0 t98)]) [222] 182 (fun u36 w hB hF hM => matrix_Identity.calls k0 7  t98 w  ht98) (fun u36 w hF => ⟨trivial, trivial⟩) (fun u36 g => (fams_cons fam_ns fams_nil)) (.inr (fun u36 g => (famx_cons trivial (fun K h => by cases h)))) (fun h => by cases h)) (by intro _; kernel_rfl)) <|
   .cons [183] (ok_gd (ok_valL [222] (fun u36 => [nsK 22 37 2 en_TInterval ((u36 110).o 0) (((u36 110).dl Sl.l gd_S_TInterval 0 t98).length) ((u36 110).n 0) ((u36 110).dl Sl.l gd_S_TInterval 0 t98) ((u36 110).dl Sl.l gd_S_TInterval 0 t98)]) (fun u36 => vI (t98.length : Int)) (fun u36 => true) [true] 183 (fun u36 w hg hF => run_lenN (((ns_of hF.1).row.2.len enSl_len (by decide)).trans (map_len (dl_er ergd_S_TInterval (u36 110) 0 t98)).symm) (by kernel_rfl))) (by intro _; kernel_rfl)) <|
   .cons [184] (ok_gd (ok_val (fun u36 => .bool ((t98.length : Int) == 0)) 184) (by intro _; kernel_rfl)) <|
   .cons [185] (ok_pickK (fun u36 => .bool ((t98.length : Int) == 0)) 185) <|
   .v 0 (.bool ((t98.length : Int) == 0)) <| .nil) (by kernel_rfl) fun u36 a w' H => ?_
  replace H := H.kp [0, 999999]
  refine k_ret ?_
  obtain rfl := Option.some.inj G
  exact k_done0 H _ (by kernel_rfl) (by kernel_rfl)
set_option maxHeartbeats 4000000 in
theorem armillaryref04_Dim.calls (a0 : Int) (r : Int) (w : World) (G : armillaryref04_Dim a0 = some r) :
  Calls Tryd.prog 29 #[.int .u8 a0] w fun e w' => e = .returned (vI r) ∧ Below w.heap.size w w' := by
 refine k_enter (args := [.int .u8 a0]) 7 Tryd.func29 rfl (by kernel_rfl) (by kernel_rfl) fun a H => ?_
 unfold armillaryref04_Dim at G
 refine k_seq ?_
 refine k_rg mixed H (.v 2 (vI 0) <| .nil) fun u1 a w' H => ?_
 replace H := H.kp [0]
 refine k_seq ?_
 refine k_rg mixed H (.v 3 (.int .u8 a0) <|
   .v 4 (vI (w_i64 a0)) <|
   .v 5 (vI (Int.tmod (w_i64 a0) 4)) <|
   .v 6 (vI (w_i64 (1 + (Int.tmod (w_i64 a0) 4)))) <|
   .v 2 (vI (w_i64 (1 + (Int.tmod (w_i64 a0) 4)))) <| .nil) fun u2 a w' H => ?_
 replace H := H.kp [2]
 refine k_ret ?_
 obtain rfl := Option.some.inj G
 exact k_done0 H _ (by kernel_rfl) (by kernel_rfl)
end Go.Proofs.YtglcmhldonkfdaaDoor
