/- Each function of the program answers as the plain Lean function of its name (part 2). Printed by a program of this session. -/
import Derived.Test.YtbpgobecpmjaeaaDoorFn1
set_option linter.unusedVariables false
set_option linter.unusedSimpArgs false
set_option maxRecDepth 100000
namespace Go.Proofs.YtbpgobecpmjaeaaDoor
open Go Go.RowKit Go.Sx Go.Proofs
set_option maxHeartbeats 4000000 in
theorem tape_Decompile.calls (k0 : Nat) (a0 : TTape) (p_a0_L : Option Addr) (c_a0_L : Nat) (p_a0_Out : Option Addr) (c_a0_Out : Nat) (r : List (List TNode)) (w : World) (hB : AllH [rdl anyF 5 p_a0_L c_a0_L a0.L en_TInstruction, rdl anyF 1 p_a0_Out c_a0_Out a0.Out en_i64, gk] w) (G : tape_Decompile k0 a0 = some r) :
  Calls Tryd.prog 17 #[.agg #[vI a0.N, .slice p_a0_L a0.L.length c_a0_L, .slice p_a0_Out a0.Out.length c_a0_Out]] w fun e w' => ∃ g : Gh, e = .returned (.slice (g.o 0) ((g.dl Sl.l gd_S_TNode 0 r).length) (g.n 0)) ∧ But (fpK []) w w' ∧ OutOK w.heap.size (fpK []) (frI w.heap.size []) [fun _ => nsK 48 47 4 en_TNode (g.o 0) ((g.dl Sl.l gd_S_TNode 0 r).length) (g.n 0) (g.dl Sl.l gd_S_TNode 0 r) (g.dl Sl.l gd_S_TNode 0 r)] w' := by
 obtain ⟨fr, hfr⟩ : ∃ fr : Nat → Prop, fr = frI w.heap.size [] := ⟨_, rfl⟩
 have hBf : ∀ j, w.heap.size ≤ j → fr j := fun j h => by rw [hfr]; exact .inl h
 refine k_enterF (args := [.agg #[vI a0.N, .slice p_a0_L a0.L.length c_a0_L, .slice p_a0_Out a0.Out.length c_a0_Out]]) 90 [(90, rdl anyF 5 p_a0_L c_a0_L a0.L en_TInstruction), (91, rdl anyF 1 p_a0_Out c_a0_Out a0.Out en_i64), (999999, gk)] (by
  intro x hx
  simp only [List.mem_cons, List.not_mem_nil, or_false] at hx
  rcases hx with rfl | rfl | rfl
  ·exact rdF_fact (rdF_of hB.1) (fun _ _ => trivial) (by decide) _
  ·exact rdF_fact (rdF_of hB.2.1) (fun _ _ => trivial) (by decide) _
  ·exact ⟨⟨_, _, rfl⟩, hB.2.2.1, glob_in (glob_of hB.2.2.1)⟩) Tryd.func17 rfl (by kernel_rfl) (by kernel_rfl) fun a H => ?_
 unfold tape_Decompile at G
 refine k_seq ?_
 refine k_rg mixed H (.cons [1, 92] (ok_new (fun b => vP b 0) (fun u1 => [vI a0.N, .slice p_a0_L a0.L.length c_a0_L, .slice p_a0_Out a0.Out.length c_a0_Out]) 25 1 92) <|
   .v 2 (.slice none 0 0) <| .nil) fun u1 a w' H => ?_
 replace H := H.kp [1, 90, 91, 92, 999999]
 refine k_seq ?_
 replace G := gd G; obtain ⟨b3, G⟩ := G
 refine k_rg mixed H (.v 10 (vP ((u1 0).n 0) 1) <|
   .cons [11] (ok_ld (fun u2 => .slice p_a0_L a0.L.length c_a0_L) 11 92 1 1 (fun u2 => ((u1 0).n 0)) (fun u2 => [vI a0.N, .slice p_a0_L a0.L.length c_a0_L, .slice p_a0_Out a0.Out.length c_a0_Out]) 25) <|
   .v 12 (vI (a0.L.length : Int)) <|
   .cons [13, 93] (ok_rowL [] (fun u2 => []) 3 1 (List.replicate (a0.L.length : Int).toNat (0 : Int)).length ((List.replicate (a0.L.length : Int).toNat (0 : Int)).flatMap en_i64) 13 93 (fun _ => .none) (fun u2 w hF => run_make_row (t := 23) (k := .i64) (m := (a0.L.length : Int)) (en := en_i64) (z := (0 : Int)) en_i64_len inf3 rfl b3 (by kernel_rfl)) (fun _ => .inl rfl)) <|
   .cons [3] (ok_val (fun u2 => .slice ((u2 3).o 0) ((List.replicate (a0.L.length : Int).toNat (0 : Int)).length) ((u2 3).n 0)) 3) <| .nil) fun u2 a w' H => ?_
 replace H := H.kp [1, 3, 90, 91, 92, 93, 999999]
 refine k_seq ?_
 replace G := bnd G; obtain ⟨j5, hj5, G⟩ := G
 refine k_join (fun a w' => ∃ (p_j4 : Option Addr) (c_j4 np_j4 : Nat), np_j4 = j5.length ∧ Rep w.heap.size w 90 (ofL [(1, (sP ((u1 0).n 0) 0)), (3, sS p_j4 np_j4 c_j4), (90, rdl anyF 5 p_a0_L c_a0_L a0.L en_TInstruction), (91, rdl anyF 1 p_a0_Out c_a0_Out a0.Out en_i64), (92, .blk ((u1 0).n 0) [vI a0.N, .slice p_a0_L a0.L.length c_a0_L, .slice p_a0_Out a0.Out.length c_a0_Out] 25), (900029, owK 3 1 p_j4 np_j4 c_j4 (j5.flatMap en_i64)), (999999, gk)]) a w') ?_ ?_
 ·clear H; rintro a w' ⟨p_j4, c_j4, _, rfl, H⟩
  refine k_seq ?_
  refine k_rg mixed H (.cons [6, 94] (ok_new (fun b => vP b 0) (fun u6 => [.nilFunc]) 79 6 94) <| .nil) fun u6 a w' H => ?_
  replace H := H.kp [1, 3, 6, 90, 91, 92, 94, 900029, 999999]
  refine k_seq ?_
  refine k_rg mixed H (.v 64 (.func (.func 37) #[] #[vP ((u1 0).n 0) 0, vP ((u6 0).n 0) 0]) <|
   .cons [94] (ok_as (u' := fun u7 => [(94, .blk ((u6 0).n 0) [.func (.func 37) #[] #[vP ((u1 0).n 0) 0, vP ((u6 0).n 0) 0]] 79)]) (ok_store 94 0 (fun u7 => ((u6 0).n 0)) (fun u7 => [.nilFunc]) (fun u7 => [.func (.func 37) #[] #[vP ((u1 0).n 0) 0, vP ((u6 0).n 0) 0]]) 79) (fun _ => by kernel_rfl)) <| .nil) fun u7 a w' H => ?_
  replace H := H.kp [1, 3, 6, 90, 91, 92, 94, 900029, 999999]
  refine k_seq ?_
  replace G := gd G; obtain ⟨b9, G⟩ := G
  refine k_rg mixed H (.v 65 (vP ((u1 0).n 0) 2) <|
   .cons [66] (ok_ld (fun u8 => .slice p_a0_Out a0.Out.length c_a0_Out) 66 92 2 1 (fun u8 => ((u1 0).n 0)) (fun u8 => [vI a0.N, .slice p_a0_L a0.L.length c_a0_L, .slice p_a0_Out a0.Out.length c_a0_Out]) 25) <|
   .v 67 (vI (a0.Out.length : Int)) <|
   .cons [68, 95] (ok_nest0 47 4 en_TNode (ok_rowL [] (fun u8 => []) 48 1 (List.replicate (a0.Out.length : Int).toNat (⟨none, 0, []⟩ : Sl TNode)).length ((List.replicate (a0.Out.length : Int).toNat (⟨none, 0, []⟩ : Sl TNode)).flatMap enSl) 68 95 (fun _ => .none) (fun u8 w hF => run_make_row (t := 36) (k := .i64) (m := (a0.Out.length : Int)) (en := enSl) (z := (⟨none, 0, []⟩ : Sl TNode)) enSl_len inf48 rfl b9 (by kernel_rfl)) (fun _ => .inl rfl)) repl_nil) <|
   .cons [7] (ok_val (fun u8 => .slice ((u8 3).o 0) ((List.replicate (a0.Out.length : Int).toNat (⟨none, 0, []⟩ : Sl TNode)).length) ((u8 3).n 0)) 7) <| .nil) fun u8 a w' H => ?_
  replace H := H.kp [1, 3, 6, 7, 90, 91, 92, 94, 95, 900029, 999999]
  refine k_seq ?_
  replace G := bnd G; obtain ⟨j11, hj11, G⟩ := G
  refine k_join (fun a w' => ∃ (p_j10 : Option Addr) (c_j10 np_j10 : Nat) (L_j10 : List (Sl TNode)), np_j10 = L_j10.length ∧ j11 = L_j10.map Sl.l ∧ Rep w.heap.size w 90 (ofL [(7, sS p_j10 np_j10 c_j10), (900030, nsK 48 47 4 en_TNode p_j10 np_j10 c_j10 L_j10 L_j10), (999999, gk)]) a w') ?_ ?_
  ·clear H; rintro a w' ⟨p_j10, c_j10, _, L_j10, rfl, h_j10, H⟩
   refine k_seq ?_
   refine k_rg mixed H (.v 89 (.slice p_j10 L_j10.length c_j10) <|
   .v 2 (.slice p_j10 L_j10.length c_j10) <| .nil) fun u12 a w' H => ?_
   replace H := H.kp [2, 900030, 999999]
   refine k_ret ?_
   obtain rfl := Option.some.inj G
   obtain ⟨g, o0, n0, d0⟩ : ∃ g : Gh, g.o 0 = p_j10 ∧ g.n 0 = c_j10 ∧ g.dl Sl.l gd_S_TNode 0 j11 = L_j10 := ⟨⟨fun i => [c_j10].getD i 0, fun i => [p_j10].getD i none, fun i => ([⟨List (Sl TNode), L_j10⟩] : List ((T : Type) × T)).getD i ⟨Unit, ()⟩⟩, rfl, rfl, dl_mk rfl h_j10⟩
   refine k_doneZ H (fun g => .slice (g.o 0) ((g.dl Sl.l gd_S_TNode 0 j11).length) (g.n 0)) g [] [] (fun g => [fun _ => nsK 48 47 4 en_TNode (g.o 0) ((g.dl Sl.l gd_S_TNode 0 j11).length) (g.n 0) (g.dl Sl.l gd_S_TNode 0 j11) (g.dl Sl.l gd_S_TNode 0 j11)]) fr [900030] [] (.slice p_j10 L_j10.length c_j10) [fun _ => nsK 48 47 4 en_TNode p_j10 L_j10.length c_j10 L_j10 L_j10] (by simp only [o0, n0, d0]) (by simp only [o0, n0, d0]) hfr (.inl ⟨rfl, rfl⟩) (fams_cons fam_ns fams_nil) (by simp)
  ·clear G; replace G := hj11; clear hj11
   refine k_seq ?_
   refine k_rg mixed H (.v 69 (vP ((u1 0).n 0) 2) <|
   .cons [70] (ok_ld (fun u13 => .slice p_a0_Out a0.Out.length c_a0_Out) 70 92 2 1 (fun u13 => ((u1 0).n 0)) (fun u13 => [vI a0.N, .slice p_a0_L a0.L.length c_a0_L, .slice p_a0_Out a0.Out.length c_a0_Out]) 25) <|
   .v 71 (vI (a0.Out.length : Int)) <|
   .v 72 (vI 0) <| .nil) fun u13 a w' H => ?_
   replace H := H.kp [3, 6, 7, 70, 71, 72, 90, 91, 92, 94, 95, 900029, 999999]
   refine k_block ?_
   replace H := H.move (K := nsK 48 47 4 en_TNode ((u8 3).o 0) ((List.replicate (a0.Out.length : Int).toNat (⟨none, 0, []⟩ : Sl TNode)).length) ((u8 3).n 0) (List.replicate (a0.Out.length : Int).toNat (⟨none, 0, []⟩ : Sl TNode)) (List.replicate (a0.Out.length : Int).toNat (⟨none, 0, []⟩ : Sl TNode))) 95 900032 (by kernel_rfl) (by intro _ _ h; cases h)
   refine k_loopJ (fun m a w' => ∃ x14 : List (List TNode), ∃ x15 : Int, tape_Decompile.l16 k0 a0 j5 m x14 x15 = some j11 ∧ ∃ (p_x14 : Option Addr) (c_x14 np_x14 : Nat) (L_x14 : List (Sl TNode)), np_x14 = L_x14.length ∧ x14 = L_x14.map Sl.l ∧ Rep w.heap.size w 90 (ofL [(3, sS p_j4 j5.length c_j4), (6, (sP ((u6 0).n 0) 0)), (7, sS p_x14 np_x14 c_x14), (70, sS p_a0_Out a0.Out.length c_a0_Out), (71, (sI (a0.Out.length : Int))), (72, sI x15), (90, rdl anyF 5 p_a0_L c_a0_L a0.L en_TInstruction), (91, rdl anyF 1 p_a0_Out c_a0_Out a0.Out en_i64), (92, .blk ((u1 0).n 0) [vI a0.N, .slice p_a0_L a0.L.length c_a0_L, .slice p_a0_Out a0.Out.length c_a0_Out] 25), (94, .blk ((u6 0).n 0) [.func (.func 37) #[] #[vP ((u1 0).n 0) 0, vP ((u6 0).n 0) 0]] 79), (900029, owK 3 1 p_j4 j5.length c_j4 (j5.flatMap en_i64)), (900032, nsK 48 47 4 en_TNode p_x14 np_x14 c_x14 L_x14 L_x14), (999999, gk)]) a w') k0 ⟨_, _, G, ((u8 3).o 0), ((u8 3).n 0), (List.replicate (a0.Out.length : Int).toNat (⟨none, 0, []⟩ : Sl TNode)).length, (List.replicate (a0.Out.length : Int).toNat (⟨none, 0, []⟩ : Sl TNode)), rfl, (map_repl (a0.Out.length : Int).toNat (⟨none, 0, []⟩ : Sl TNode)), H.toL _ (by kernel_rfl)⟩ ?_
   clear G H
   rintro (_ | k) a w' ⟨x14, x15, G, p_x14, c_x14, _, L_x14, rfl, h_x14, H⟩
   ·exact absurd G (by unfold tape_Decompile.l16; exact fun h => by cases h)
   ·unfold tape_Decompile.l16 at G
    refine k_seq ?_
    refine k_rg mixed H (.v 73 (.bool (decide (x15 < (a0.Out.length : Int)))) <| .nil) fun u17 a w' H => ?_
    replace H := H.kp [3, 6, 7, 70, 71, 72, 73, 90, 91, 92, 94, 900029, 900032, 999999]
    refine k_seq ?_
    refine k_cond H (by kernel_rfl) (t := decide (x15 < (a0.Out.length : Int))) (by kernel_rfl) (fun c32 => ?_) (fun c32 => ?_)
    ·rw [if_pos c32] at G
     refine k_skip ?_
     refine k_seq ?_
     replace G := bnd G; obtain ⟨j19, hj19, G⟩ := G
     refine k_join (fun a w' => ∃ (p_j18 : Option Addr) (c_j18 np_j18 : Nat) (L_j18 : List (Sl TNode)), np_j18 = L_j18.length ∧ j19 = L_j18.map Sl.l ∧ Rep w.heap.size w 90 (ofL [(3, sS p_j4 j5.length c_j4), (6, (sP ((u6 0).n 0) 0)), (7, sS p_j18 np_j18 c_j18), (70, sS p_a0_Out a0.Out.length c_a0_Out), (71, (sI (a0.Out.length : Int))), (72, sI x15), (90, rdl anyF 5 p_a0_L c_a0_L a0.L en_TInstruction), (91, rdl anyF 1 p_a0_Out c_a0_Out a0.Out en_i64), (92, .blk ((u1 0).n 0) [vI a0.N, .slice p_a0_L a0.L.length c_a0_L, .slice p_a0_Out a0.Out.length c_a0_Out] 25), (94, .blk ((u6 0).n 0) [.func (.func 37) #[] #[vP ((u1 0).n 0) 0, vP ((u6 0).n 0) 0]] 79), (900029, owK 3 1 p_j4 j5.length c_j4 (j5.flatMap en_i64)), (900034, nsK 48 47 4 en_TNode p_j18 np_j18 c_j18 L_j18 L_j18), (999999, gk)]) a w') ?_ ?_
     ·clear H; rintro a w' ⟨p_j18, c_j18, _, L_j18, rfl, h_j18, H⟩
      refine k_rg mixed H (.v 88 (vI (w_i64 (x15 + 1))) <|
   .v 72 (vI (w_i64 (x15 + 1))) <| .nil) fun u20 a w' H => ?_
      replace H := H.kp [3, 6, 7, 70, 71, 72, 90, 91, 92, 94, 900029, 900034, 999999]
      replace H := H.move (K := nsK 48 47 4 en_TNode p_j18 L_j18.length c_j18 L_j18 L_j18) 900034 900032 (by kernel_rfl) (by intro _ _ h; cases h)
      exact ⟨k, Nat.lt_succ_self k, _, _, G, p_j18, c_j18, L_j18.length, L_j18, rfl, h_j18, H.toL _ (by kernel_rfl)⟩
     ·clear G; replace G := hj19; clear hj19
      refine k_block ?_
      refine k_seq ?_
      replace G := gd G; obtain ⟨b22, G⟩ := G
      replace G := bnd G; obtain ⟨t23, ht23, G⟩ := G
      refine k_rg mixed H (.v 74 (vI x15) <|
   .cons [75] (ok_valL [91] (fun u21 => [rdl anyF 1 p_a0_Out c_a0_Out a0.Out en_i64]) (fun u21 => .pointer (some ⟨hdB p_a0_Out, hdO p_a0_Out + x15.toNat * 1, none⟩)) (fun u21 => true) [true, true] 75 (fun u21 w hg hF => ix_row (t := 23) (k := .i64) (i := x15) (p := p_a0_Out) (n := a0.Out.length) (cap := c_a0_Out) (x := a0.Out) (en := en_i64) (rdF_of hF.1).2 en_i64_len rfl b22 (by kernel_rfl))) <|
   .cons [76] (ok_valL [91] (fun u21 => [rdl anyF 1 p_a0_Out c_a0_Out a0.Out en_i64]) (fun u21 => vI t23) (fun u21 => true) [true] 76 (fun u21 w hg hF => ld_row (en := en_i64) (rdF_of hF.1).2 en_i64_len ht23 0 1 [vI t23] rfl (by kernel_rfl))) <|
   .v 8 (vI x15) <|
   .v 9 (vI t23) <| .nil) fun u21 a w' H => ?_
      replace H := H.kp [3, 6, 7, 8, 9, 70, 71, 72, 90, 91, 92, 94, 900029, 900032, 999999]
      refine k_seq ?_
      replace G := gd G; obtain ⟨b25, G⟩ := G
      replace G := bnd G; obtain ⟨t26, ht26, G⟩ := G
      refine k_rg mixed H (.v 77 (.slice p_j4 j5.length c_j4) <|
   .v 78 (vI t23) <|
   .cons [79] (ok_valL [900029] (fun u24 => [owK 3 1 p_j4 j5.length c_j4 (j5.flatMap en_i64)]) (fun u24 => .pointer (some ⟨hdB p_j4, hdO p_j4 + t23.toNat * 1, none⟩)) (fun u24 => true) [true, true] 79 (fun u24 w hg hF => ix_row (t := 23) (k := .i64) (i := t23) (p := p_j4) (n := j5.length) (cap := c_j4) (x := j5) (en := en_i64) (owns_rowC (ow_of hF.1)).2 en_i64_len rfl b25 (by kernel_rfl))) <|
   .cons [80] (ok_valL [900029] (fun u24 => [owK 3 1 p_j4 j5.length c_j4 (j5.flatMap en_i64)]) (fun u24 => vI t26) (fun u24 => true) [true] 80 (fun u24 w hg hF => ld_row (en := en_i64) (owns_rowC (ow_of hF.1)).2 en_i64_len ht26 0 1 [vI t26] rfl (by kernel_rfl))) <|
   .v 81 (.bool (decide (t26 ≤ 200))) <| .nil) fun u24 a w' H => ?_
      replace H := H.kp [3, 6, 7, 8, 9, 70, 71, 72, 81, 90, 91, 92, 94, 900029, 900032, 999999]
      refine k_cond H (by kernel_rfl) (t := decide (t26 ≤ 200)) (by kernel_rfl) (fun c31 => ?_) (fun c31 => ?_)
      ·rw [if_pos c31] at G
       replace H := H.nil_row 98 47 4
       replace G := bnd G; obtain ⟨t28, ht28, G⟩ := G
       replace G := gd G; obtain ⟨b29, G⟩ := G
       replace G := bnd G; obtain ⟨t30, ht30, G⟩ := G
       obtain ⟨p_t30, c_t30, y_t30⟩ := sl_get h_x14 ht30
       refine k_rg mixed H (.v 82 (.slice p_x14 L_x14.length c_x14) <|
   .v 83 (vI x15) <|
   .cons [84] (ok_ld (fun u27 => .func (.func 37) #[] #[vP ((u1 0).n 0) 0, vP ((u6 0).n 0) 0]) 84 94 0 1 (fun u27 => ((u6 0).n 0)) (fun u27 => [.func (.func 37) #[] #[vP ((u1 0).n 0) 0, vP ((u6 0).n 0) 0]]) 79) <|
   .v 85 (vI t23) <|
   .cons [86, 98, 99] (ok_callY false fr [] [90, 91, 92, 94, 999999] (fun u27 => [rdl anyF 5 p_a0_L c_a0_L a0.L en_TInstruction, rdl anyF 1 p_a0_Out c_a0_Out a0.Out en_i64, .blk ((u1 0).n 0) [vI a0.N, .slice p_a0_L a0.L.length c_a0_L, .slice p_a0_Out a0.Out.length c_a0_Out] 25, .blk ((u6 0).n 0) [.func (.func 37) #[] #[vP ((u1 0).n 0) 0, vP ((u6 0).n 0) 0]] 79, gk]) [98] (fun u27 => [owK 47 4 none 0 0 (([] : List TNode).flatMap en_TNode)]) 37 (fun u27 => #[.slice none 0 0, vI t23, vP ((u1 0).n 0) 0, vP ((u6 0).n 0) 0]) (fun u27 => [rdl anyF 5 p_a0_L c_a0_L a0.L en_TInstruction, rdl anyF 1 p_a0_Out c_a0_Out a0.Out en_i64, bxK ((u1 0).n 0) [vI a0.N, .slice p_a0_L a0.L.length c_a0_L, .slice p_a0_Out a0.Out.length c_a0_Out] 25, bxK ((u6 0).n 0) [.func (.func 37) #[] #[vP ((u1 0).n 0) 0, vP ((u6 0).n 0) 0]] 79, gk]) (fun u27 => []) (fun u27 g => .slice (g.o 0) t28.length (g.n 0)) (fun u27 g => [fun _ => owK 47 4 (g.o 0) t28.length (g.n 0) (t28.flatMap en_TNode)]) [99] 86 (fun u27 w hB hF hM => tape_Decompile_1_m.calls k0 ([] : List TNode) t23 (⟨a0.N, a0.L, a0.Out⟩ : TTape) none 0 ((u1 0).n 0) p_a0_L c_a0_L p_a0_Out c_a0_Out ((u6 0).n 0) t28 w  hB hM ht28) (fun u27 w hF => ⟨⟨sub_rd0 (rdF_of hF.1) (fun j h => ⟨_, (.head _), h⟩), sub_rd0 (rdF_of hF.2.1) (fun j h => ⟨_, (.tail _ (.head _)), h⟩), sub_bx hF.2.2.1 (.tail _ (.tail _ (.head _))) rfl, sub_bx hF.2.2.2.1 (.tail _ (.tail _ (.tail _ (.head _)))) rfl, sub_k hF.2.2.2.2.1 (.tail _ (.tail _ (.tail _ (.tail _ (.head _))))), trivial⟩, trivial⟩) (fun u27 g => (fams_cons fam_ow fams_nil)) (.inr (fun u27 g => (famx_cons trivial (fun K h => by cases h)))) (fun h => by cases h)) <|
   .cons [87] (ok_valL [900032] (fun u27 => [nsK 48 47 4 en_TNode p_x14 L_x14.length c_x14 L_x14 L_x14]) (fun u27 => .pointer (some ⟨hdB p_x14, hdO p_x14 + x15.toNat * 1, none⟩)) (fun u27 => true) [true, true] 87 (fun u27 w hg hF => ix_row (t := 36) (k := .i64) (i := x15) (p := p_x14) (n := L_x14.length) (cap := c_x14) (x := x14) (en := enSl) (ns_of hF.1).row.2 enSl_len (map_len h_x14) b29 (by kernel_rfl))) <|
   .cons [900032, 99, 900032] (ok_own2 [4] [] (fun u27 => []) 900032 99 (fun u27 => nsK 48 47 4 en_TNode p_x14 L_x14.length c_x14 L_x14 L_x14) (fun u27 => owK 47 4 ((u27 4).o 0) t28.length ((u27 4).n 0) (t28.flatMap en_TNode)) none (fun u27 g => .nilFunc) (fun u27 g => nsK 48 47 4 en_TNode p_x14 L_x14.length c_x14 (L_x14.set x15.toNat (⟨((u27 4).o 0), ((u27 4).n 0), t28⟩ : Sl TNode)) (L_x14.set x15.toNat (⟨((u27 4).o 0), ((u27 4).n 0), t28⟩ : Sl TNode))) (fun u27 w hF hK hK2 hd => tn_take hK hK2 hd en_TNode_len (by decide) (fun hn h => el_storeN (en := enSl) h enSl_len (y := (⟨((u27 4).o 0), ((u27 4).n 0), t28⟩ : Sl TNode)) (vs := [.slice ((u27 4).o 0) t28.length ((u27 4).n 0)]) y_t30 0 (by simp) (by simp) rfl (by kernel_rfl))) (hloc := fun u u' h => ⟨by first | rfl | simp only [h 4 (by decide)], by first | rfl | simp only [h 4 (by decide)], by first | rfl | simp only [h 4 (by decide)], by first | rfl | simp only [h 4 (by decide)], by first | rfl | simp only [h 4 (by decide)]⟩)) <| .nil) fun u27 a w' H => ?_
       replace H := H.kp [3, 6, 7, 70, 71, 72, 90, 91, 92, 94, 900029, 900032, 999999]
       obtain rfl := Option.some.inj G
       replace H := H.move (K := nsK 48 47 4 en_TNode p_x14 L_x14.length c_x14 (L_x14.set x15.toNat (⟨((u27 4).o 0), ((u27 4).n 0), t28⟩ : Sl TNode)) (L_x14.set x15.toNat (⟨((u27 4).o 0), ((u27 4).n 0), t28⟩ : Sl TNode))) 900032 900034 (by kernel_rfl) (by intro _ _ h; cases h)
       exact ⟨p_x14, c_x14, L_x14.length, (L_x14.set x15.toNat (⟨((u27 4).o 0), ((u27 4).n 0), t28⟩ : Sl TNode)), by simp, (map_set h_x14 x15.toNat (⟨((u27 4).o 0), ((u27 4).n 0), t28⟩ : Sl TNode)), H.toL _ (by kernel_rfl)⟩
      ·rw [if_neg (nt c31)] at G
       refine k_skip ?_
       obtain rfl := Option.some.inj G
       replace H := H.move (K := nsK 48 47 4 en_TNode p_x14 L_x14.length c_x14 L_x14 L_x14) 900032 900034 (by kernel_rfl) (by intro _ _ h; cases h)
       exact ⟨p_x14, c_x14, L_x14.length, L_x14, rfl, h_x14, H.toL _ (by kernel_rfl)⟩
    ·rw [if_neg (nt c32)] at G
     refine k_exit rfl ?_
     obtain rfl := Option.some.inj G
     replace H := H.move (K := nsK 48 47 4 en_TNode p_x14 L_x14.length c_x14 L_x14 L_x14) 900032 900030 (by kernel_rfl) (by intro _ _ h; cases h)
     exact ⟨p_x14, c_x14, L_x14.length, L_x14, rfl, h_x14, H.toL _ (by kernel_rfl)⟩
 ·clear G; replace G := hj5; clear hj5
  refine k_seq ?_
  refine k_rg mixed H (.v 14 (vP ((u1 0).n 0) 1) <|
   .cons [15] (ok_ld (fun u33 => .slice p_a0_L a0.L.length c_a0_L) 15 92 1 1 (fun u33 => ((u1 0).n 0)) (fun u33 => [vI a0.N, .slice p_a0_L a0.L.length c_a0_L, .slice p_a0_Out a0.Out.length c_a0_Out]) 25) <|
   .v 16 (vI (a0.L.length : Int)) <|
   .v 17 (vI 0) <| .nil) fun u33 a w' H => ?_
  replace H := H.kp [1, 3, 15, 16, 17, 90, 91, 92, 93, 999999]
  refine k_block ?_
  replace H := H.move (K := owK 3 1 ((u2 3).o 0) ((List.replicate (a0.L.length : Int).toNat (0 : Int)).length) ((u2 3).n 0) ((List.replicate (a0.L.length : Int).toNat (0 : Int)).flatMap en_i64)) 93 900036 (by kernel_rfl) (by intro _ _ h; cases h)
  refine k_loopJ (fun m a w' => ∃ x34 : List Int, ∃ x35 : Int, tape_Decompile.l36 k0 a0 m x34 x35 = some j5 ∧ ∃ (p_x34 : Option Addr) (c_x34 np_x34 : Nat), np_x34 = x34.length ∧ Rep w.heap.size w 90 (ofL [(1, (sP ((u1 0).n 0) 0)), (3, sS p_x34 np_x34 c_x34), (15, sS p_a0_L a0.L.length c_a0_L), (16, (sI (a0.L.length : Int))), (17, sI x35), (90, rdl anyF 5 p_a0_L c_a0_L a0.L en_TInstruction), (91, rdl anyF 1 p_a0_Out c_a0_Out a0.Out en_i64), (92, .blk ((u1 0).n 0) [vI a0.N, .slice p_a0_L a0.L.length c_a0_L, .slice p_a0_Out a0.Out.length c_a0_Out] 25), (900036, owK 3 1 p_x34 np_x34 c_x34 (x34.flatMap en_i64)), (999999, gk)]) a w') k0 ⟨_, _, G, ((u2 3).o 0), ((u2 3).n 0), (List.replicate (a0.L.length : Int).toNat (0 : Int)).length, rfl, H.toL _ (by kernel_rfl)⟩ ?_
  clear G H
  rintro (_ | k) a w' ⟨x34, x35, G, p_x34, c_x34, _, rfl, H⟩
  ·exact absurd G (by unfold tape_Decompile.l36; exact fun h => by cases h)
  ·unfold tape_Decompile.l36 at G
   refine k_seq ?_
   refine k_rg mixed H (.v 18 (.bool (decide (x35 < (a0.L.length : Int)))) <| .nil) fun u37 a w' H => ?_
   replace H := H.kp [1, 3, 15, 16, 17, 18, 90, 91, 92, 900036, 999999]
   refine k_seq ?_
   refine k_cond H (by kernel_rfl) (t := decide (x35 < (a0.L.length : Int))) (by kernel_rfl) (fun c76 => ?_) (fun c76 => ?_)
   ·rw [if_pos c76] at G
    refine k_skip ?_
    refine k_seq ?_
    refine k_block ?_
    refine k_seq ?_
    replace G := gd G; obtain ⟨b39, G⟩ := G
    replace G := bnd G; obtain ⟨t40, ht40, G⟩ := G
    refine k_rg mixed H (.v 19 (vI x35) <|
   .cons [20] (ok_valL [90] (fun u38 => [rdl anyF 5 p_a0_L c_a0_L a0.L en_TInstruction]) (fun u38 => .pointer (some ⟨hdB p_a0_L, hdO p_a0_L + x35.toNat * 5, none⟩)) (fun u38 => true) [true, true] 20 (fun u38 w hg hF => ix_row (t := 22) (k := .i64) (i := x35) (p := p_a0_L) (n := a0.L.length) (cap := c_a0_L) (x := a0.L) (en := en_TInstruction) (rdF_of hF.1).2 en_TInstruction_len rfl b39 (by kernel_rfl))) <|
   .cons [21] (ok_valL [90] (fun u38 => [rdl anyF 5 p_a0_L c_a0_L a0.L en_TInstruction]) (fun u38 => .agg #[vI t40.Op, vI t40.A, vI t40.B, vI t40.C.Lo, vI t40.C.Hi]) (fun u38 => true) [true] 21 (fun u38 w hg hF => ld_row (en := en_TInstruction) (rdF_of hF.1).2 en_TInstruction_len ht40 0 5 [vI t40.Op, vI t40.A, vI t40.B, vI t40.C.Lo, vI t40.C.Hi] rfl (by kernel_rfl))) <|
   .cons [5, 108] (ok_new (fun b => vP b 0) (fun u38 => [vI 0, vI 0, vI 0, vI 0, vI 0]) 50 5 108) <|
   .v 4 (vI x35) <|
   .cons [108] (ok_as (u' := fun u38 => [(108, .blk ((u38 3).n 0) [vI t40.Op, vI t40.A, vI t40.B, vI t40.C.Lo, vI t40.C.Hi] 50)]) (ok_store 108 0 (fun u38 => ((u38 3).n 0)) (fun u38 => [vI 0, vI 0, vI 0, vI 0, vI 0]) (fun u38 => [vI t40.Op, vI t40.A, vI t40.B, vI t40.C.Lo, vI t40.C.Hi]) 50) (fun _ => by kernel_rfl)) <| .nil) fun u38 a w' H => ?_
    replace H := H.kp [1, 3, 4, 5, 15, 16, 17, 90, 91, 92, 108, 900036, 999999]
    refine k_seq ?_
    replace G := gd G; obtain ⟨b42, G⟩ := G
    replace G := bnd G; obtain ⟨t43, ht43, G⟩ := G
    refine k_rg mixed H (.v 22 (.slice p_x34 x34.length c_x34) <|
   .v 23 (vI x35) <|
   .cons [24] (ok_valL [900036] (fun u41 => [owK 3 1 p_x34 x34.length c_x34 (x34.flatMap en_i64)]) (fun u41 => .pointer (some ⟨hdB p_x34, hdO p_x34 + x35.toNat * 1, none⟩)) (fun u41 => true) [true, true] 24 (fun u41 w hg hF => ix_row (t := 23) (k := .i64) (i := x35) (p := p_x34) (n := x34.length) (cap := c_x34) (x := x34) (en := en_i64) (owns_rowC (ow_of hF.1)).2 en_i64_len rfl b42 (by kernel_rfl))) <|
   .cons [900036, 900036] (ok_own1 [] [] (fun u41 => []) 900036 (fun u41 => owK 3 1 p_x34 x34.length c_x34 (x34.flatMap en_i64)) none (fun u41 g => .nilFunc) (fun u41 g => owK 3 1 p_x34 x34.length c_x34 ((x34.set x35.toNat 1).flatMap en_i64)) (fun u41 w hF hK => tv_set (el_storeN (ow_of hK) en_i64_len (y := 1) (vs := [vI 1]) ht43 0 (by simp) (by simp) rfl (by kernel_rfl)))) <| .nil) fun u41 a w' H => ?_
    replace H := H.kp [1, 3, 4, 5, 15, 16, 17, 90, 91, 92, 108, 900036, 999999]
    refine k_seq ?_
    replace G := bnd G; obtain ⟨j45, hj45, G⟩ := G
    refine k_join (fun a w' => ∃ (p_j44 : Option Addr) (c_j44 np_j44 : Nat), np_j44 = j45.length ∧ Rep w.heap.size w 90 (ofL [(1, (sP ((u1 0).n 0) 0)), (3, sS p_j44 np_j44 c_j44), (4, sI x35), (5, (sP ((u38 3).n 0) 0)), (15, sS p_a0_L a0.L.length c_a0_L), (16, (sI (a0.L.length : Int))), (17, sI x35), (90, rdl anyF 5 p_a0_L c_a0_L a0.L en_TInstruction), (91, rdl anyF 1 p_a0_Out c_a0_Out a0.Out en_i64), (92, .blk ((u1 0).n 0) [vI a0.N, .slice p_a0_L a0.L.length c_a0_L, .slice p_a0_Out a0.Out.length c_a0_Out] 25), (108, .blk ((u38 3).n 0) [vI t40.Op, vI t40.A, vI t40.B, vI t40.C.Lo, vI t40.C.Hi] 50), (900037, owK 3 1 p_j44 np_j44 c_j44 (j45.flatMap en_i64)), (999999, gk)]) a w') ?_ ?_
    ·clear H; rintro a w' ⟨p_j44, c_j44, _, rfl, H⟩
     refine k_seq ?_
     replace G := bnd G; obtain ⟨j47, hj47, G⟩ := G
     refine k_join (fun a w' => ∃ (p_j46 : Option Addr) (c_j46 np_j46 : Nat), np_j46 = j47.length ∧ Rep w.heap.size w 90 (ofL [(1, (sP ((u1 0).n 0) 0)), (3, sS p_j46 np_j46 c_j46), (4, sI x35), (15, sS p_a0_L a0.L.length c_a0_L), (16, (sI (a0.L.length : Int))), (17, sI x35), (90, rdl anyF 5 p_a0_L c_a0_L a0.L en_TInstruction), (91, rdl anyF 1 p_a0_Out c_a0_Out a0.Out en_i64), (92, .blk ((u1 0).n 0) [vI a0.N, .slice p_a0_L a0.L.length c_a0_L, .slice p_a0_Out a0.Out.length c_a0_Out] 25), (900038, owK 3 1 p_j46 np_j46 c_j46 (j47.flatMap en_i64)), (999999, gk)]) a w') ?_ ?_
     ·clear H; rintro a w' ⟨p_j46, c_j46, _, rfl, H⟩
      replace G := gd G; obtain ⟨b49, G⟩ := G
      replace G := bnd G; obtain ⟨t50, ht50, G⟩ := G
      replace G := gd G; obtain ⟨b51, G⟩ := G
      replace G := bnd G; obtain ⟨t52, ht52, G⟩ := G
      refine k_rg mixed H (.v 55 (.slice p_j46 j47.length c_j46) <|
   .v 56 (vI x35) <|
   .v 57 (.slice p_j46 j47.length c_j46) <|
   .v 58 (vI x35) <|
   .cons [59] (ok_valL [900038] (fun u48 => [owK 3 1 p_j46 j47.length c_j46 (j47.flatMap en_i64)]) (fun u48 => .pointer (some ⟨hdB p_j46, hdO p_j46 + x35.toNat * 1, none⟩)) (fun u48 => true) [true, true] 59 (fun u48 w hg hF => ix_row (t := 23) (k := .i64) (i := x35) (p := p_j46) (n := j47.length) (cap := c_j46) (x := j47) (en := en_i64) (owns_rowC (ow_of hF.1)).2 en_i64_len rfl b49 (by kernel_rfl))) <|
   .cons [60] (ok_valL [900038] (fun u48 => [owK 3 1 p_j46 j47.length c_j46 (j47.flatMap en_i64)]) (fun u48 => vI t50) (fun u48 => true) [true] 60 (fun u48 w hg hF => ld_row (en := en_i64) (owns_rowC (ow_of hF.1)).2 en_i64_len ht50 0 1 [vI t50] rfl (by kernel_rfl))) <|
   .v 61 (vI (mn t50 201)) <|
   .cons [62] (ok_valL [900038] (fun u48 => [owK 3 1 p_j46 j47.length c_j46 (j47.flatMap en_i64)]) (fun u48 => .pointer (some ⟨hdB p_j46, hdO p_j46 + x35.toNat * 1, none⟩)) (fun u48 => true) [true, true] 62 (fun u48 w hg hF => ix_row (t := 23) (k := .i64) (i := x35) (p := p_j46) (n := j47.length) (cap := c_j46) (x := j47) (en := en_i64) (owns_rowC (ow_of hF.1)).2 en_i64_len rfl b51 (by kernel_rfl))) <|
   .cons [900038, 900038] (ok_own1 [] [] (fun u48 => []) 900038 (fun u48 => owK 3 1 p_j46 j47.length c_j46 (j47.flatMap en_i64)) none (fun u48 g => .nilFunc) (fun u48 g => owK 3 1 p_j46 j47.length c_j46 ((j47.set x35.toNat (mn t50 201)).flatMap en_i64)) (fun u48 w hF hK => tv_set (el_storeN (ow_of hK) en_i64_len (y := mn t50 201) (vs := [vI (mn t50 201)]) ht52 0 (by simp) (by simp) rfl (by kernel_rfl)))) <| .nil) fun u48 a w' H => ?_
      replace H := H.kp [1, 3, 15, 16, 17, 90, 91, 92, 900038, 999999]
      refine k_rg mixed H (.v 63 (vI (w_i64 (x35 + 1))) <|
   .v 17 (vI (w_i64 (x35 + 1))) <| .nil) fun u53 a w' H => ?_
      replace H := H.kp [1, 3, 15, 16, 17, 90, 91, 92, 900038, 999999]
      replace H := H.move (K := owK 3 1 p_j46 j47.length c_j46 ((j47.set x35.toNat (mn t50 201)).flatMap en_i64)) 900038 900036 (by kernel_rfl) (by intro _ _ h; cases h)
      exact ⟨k, Nat.lt_succ_self k, _, _, G, p_j46, c_j46, j47.length, by simp, H.toL _ (by kernel_rfl)⟩
     ·clear G; replace G := hj47; clear hj47
      refine k_seq ?_
      replace G := bnd G; obtain ⟨t55, ht55, G⟩ := G
      refine k_rg mixed H (.v 40 (vP ((u38 3).n 0) 0) <|
   .cons [41] (ok_ld (fun u54 => vI t40.Op) 41 108 0 1 (fun u54 => ((u38 3).n 0)) (fun u54 => [vI t40.Op, vI t40.A, vI t40.B, vI t40.C.Lo, vI t40.C.Hi]) 50) <|
   .cons [42] (ok_callL [999999] (fun u54 => [gk]) 34 (fun u54 => #[vI t40.Op]) (vI t55) 42 (fun u54 w hF => tape_arity.calls k0 t40.Op  t55 w  (glob_of hF.1) ht55)) <|
   .v 43 (.bool (decide (t55 > 1))) <| .nil) fun u54 a w' H => ?_
      replace H := H.kp [1, 3, 4, 5, 15, 16, 17, 43, 90, 91, 92, 108, 900037, 999999]
      refine k_cond H (by kernel_rfl) (t := decide (t55 > 1)) (by kernel_rfl) (fun c64 => ?_) (fun c64 => ?_)
      ·rw [if_pos c64] at G
       replace G := gd G; obtain ⟨b57, G⟩ := G
       replace G := bnd G; obtain ⟨t58, ht58, G⟩ := G
       have P59 := ptr_of (en := en_i64) (l := j45) (owns_rowC (ow_of (H.at (K := owK 3 1 p_j44 j45.length c_j44 (j45.flatMap en_i64)) 900037 (by kernel_rfl)))).2 en_i64_len
       replace G := gd G; obtain ⟨b60, G⟩ := G
       replace G := bnd G; obtain ⟨t61, ht61, G⟩ := G
       replace G := gd G; obtain ⟨b62, G⟩ := G
       replace G := bnd G; obtain ⟨t63, ht63, G⟩ := G
       refine k_rg mixed H (.v 44 (.slice p_j44 j45.length c_j44) <|
   .v 45 (vI x35) <|
   .cons [46] (ok_val (fun u56 => .pointer (some ⟨hdB p_j44, hdO p_j44 + x35.toNat * 1, none⟩)) 46 (hv := fun _ _ => ix_pure (t := 23) (k := .i64) (i := x35) (p := p_j44) (n := j45.length) (cap := c_j44) (x := j45) P59 rfl b57 (by kernel_rfl))) <|
   .cons [47] (ok_valL [900037] (fun u56 => [owK 3 1 p_j44 j45.length c_j44 (j45.flatMap en_i64)]) (fun u56 => vI t58) (fun u56 => true) [true] 47 (fun u56 w hg hF => ld_row (en := en_i64) (owns_rowC (ow_of hF.1)).2 en_i64_len ht58 0 1 [vI t58] rfl (by kernel_rfl))) <|
   .v 48 (.slice p_j44 j45.length c_j44) <|
   .v 49 (vP ((u38 3).n 0) 2) <|
   .cons [50] (ok_ld (fun u56 => vI t40.B) 50 108 2 1 (fun u56 => ((u38 3).n 0)) (fun u56 => [vI t40.Op, vI t40.A, vI t40.B, vI t40.C.Lo, vI t40.C.Hi]) 50) <|
   .cons [51] (ok_val (fun u56 => .pointer (some ⟨hdB p_j44, hdO p_j44 + t40.B.toNat * 1, none⟩)) 51 (hv := fun _ _ => ix_pure (t := 23) (k := .i64) (i := t40.B) (p := p_j44) (n := j45.length) (cap := c_j44) (x := j45) P59 rfl b60 (by kernel_rfl))) <|
   .cons [52] (ok_valL [900037] (fun u56 => [owK 3 1 p_j44 j45.length c_j44 (j45.flatMap en_i64)]) (fun u56 => vI t61) (fun u56 => true) [true] 52 (fun u56 w hg hF => ld_row (en := en_i64) (owns_rowC (ow_of hF.1)).2 en_i64_len ht61 0 1 [vI t61] rfl (by kernel_rfl))) <|
   .v 53 (vI (w_i64 (t58 + t61))) <|
   .cons [54] (ok_val (fun u56 => .pointer (some ⟨hdB p_j44, hdO p_j44 + x35.toNat * 1, none⟩)) 54 (hv := fun _ _ => ix_pure (t := 23) (k := .i64) (i := x35) (p := p_j44) (n := j45.length) (cap := c_j44) (x := j45) P59 rfl b62 (by kernel_rfl))) <|
   .cons [900037, 900037] (ok_own1 [] [] (fun u56 => []) 900037 (fun u56 => owK 3 1 p_j44 j45.length c_j44 (j45.flatMap en_i64)) none (fun u56 g => .nilFunc) (fun u56 g => owK 3 1 p_j44 j45.length c_j44 ((j45.set x35.toNat (w_i64 (t58 + t61))).flatMap en_i64)) (fun u56 w hF hK => tv_set (el_storeN (ow_of hK) en_i64_len (y := w_i64 (t58 + t61)) (vs := [vI (w_i64 (t58 + t61))]) ht63 0 (by simp) (by simp) rfl (by kernel_rfl)))) <| .nil) fun u56 a w' H => ?_
       replace H := H.kp [1, 3, 4, 15, 16, 17, 90, 91, 92, 900037, 999999]
       obtain rfl := Option.some.inj G
       replace H := H.move (K := owK 3 1 p_j44 j45.length c_j44 ((j45.set x35.toNat (w_i64 (t58 + t61))).flatMap en_i64)) 900037 900038 (by kernel_rfl) (by intro _ _ h; cases h)
       exact ⟨p_j44, c_j44, j45.length, by simp, H.toL _ (by kernel_rfl)⟩
      ·rw [if_neg (nt c64)] at G
       refine k_skip ?_
       obtain rfl := Option.some.inj G
       replace H := H.move (K := owK 3 1 p_j44 j45.length c_j44 (j45.flatMap en_i64)) 900037 900038 (by kernel_rfl) (by intro _ _ h; cases h)
       exact ⟨p_j44, c_j44, j45.length, rfl, H.toL _ (by kernel_rfl)⟩
    ·clear G; replace G := hj45; clear hj45
     refine k_seq ?_
     replace G := bnd G; obtain ⟨t66, ht66, G⟩ := G
     refine k_rg mixed H (.v 25 (vP ((u38 3).n 0) 0) <|
   .cons [26] (ok_ld (fun u65 => vI t40.Op) 26 108 0 1 (fun u65 => ((u38 3).n 0)) (fun u65 => [vI t40.Op, vI t40.A, vI t40.B, vI t40.C.Lo, vI t40.C.Hi]) 50) <|
   .cons [27] (ok_callL [999999] (fun u65 => [gk]) 34 (fun u65 => #[vI t40.Op]) (vI t66) 27 (fun u65 w hF => tape_arity.calls k0 t40.Op  t66 w  (glob_of hF.1) ht66)) <|
   .v 28 (.bool (decide (t66 > 0))) <| .nil) fun u65 a w' H => ?_
     replace H := H.kp [1, 3, 4, 5, 15, 16, 17, 28, 90, 91, 92, 108, 900036, 999999]
     refine k_cond H (by kernel_rfl) (t := decide (t66 > 0)) (by kernel_rfl) (fun c75 => ?_) (fun c75 => ?_)
     ·rw [if_pos c75] at G
      replace G := gd G; obtain ⟨b68, G⟩ := G
      replace G := bnd G; obtain ⟨t69, ht69, G⟩ := G
      have P70 := ptr_of (en := en_i64) (l := (x34.set x35.toNat 1)) (owns_rowC (ow_of (H.at (K := owK 3 1 p_x34 x34.length c_x34 ((x34.set x35.toNat 1).flatMap en_i64)) 900036 (by kernel_rfl)))).2 en_i64_len
      replace G := gd G; obtain ⟨b71, G⟩ := G
      replace G := bnd G; obtain ⟨t72, ht72, G⟩ := G
      replace G := gd G; obtain ⟨b73, G⟩ := G
      replace G := bnd G; obtain ⟨t74, ht74, G⟩ := G
      refine k_rg mixed H (.v 29 (.slice p_x34 x34.length c_x34) <|
   .v 30 (vI x35) <|
   .cons [31] (ok_val (fun u67 => .pointer (some ⟨hdB p_x34, hdO p_x34 + x35.toNat * 1, none⟩)) 31 (hv := fun _ _ => ix_pure (t := 23) (k := .i64) (i := x35) (p := p_x34) (n := x34.length) (cap := c_x34) (x := (x34.set x35.toNat 1)) P70 rfl b68 (by kernel_rfl))) <|
   .cons [32] (ok_valL [900036] (fun u67 => [owK 3 1 p_x34 x34.length c_x34 ((x34.set x35.toNat 1).flatMap en_i64)]) (fun u67 => vI t69) (fun u67 => true) [true] 32 (fun u67 w hg hF => ld_row (en := en_i64) (owns_rowC (ow_of hF.1)).2 en_i64_len ht69 0 1 [vI t69] rfl (by kernel_rfl))) <|
   .v 33 (.slice p_x34 x34.length c_x34) <|
   .v 34 (vP ((u38 3).n 0) 1) <|
   .cons [35] (ok_ld (fun u67 => vI t40.A) 35 108 1 1 (fun u67 => ((u38 3).n 0)) (fun u67 => [vI t40.Op, vI t40.A, vI t40.B, vI t40.C.Lo, vI t40.C.Hi]) 50) <|
   .cons [36] (ok_val (fun u67 => .pointer (some ⟨hdB p_x34, hdO p_x34 + t40.A.toNat * 1, none⟩)) 36 (hv := fun _ _ => ix_pure (t := 23) (k := .i64) (i := t40.A) (p := p_x34) (n := x34.length) (cap := c_x34) (x := (x34.set x35.toNat 1)) P70 rfl b71 (by kernel_rfl))) <|
   .cons [37] (ok_valL [900036] (fun u67 => [owK 3 1 p_x34 x34.length c_x34 ((x34.set x35.toNat 1).flatMap en_i64)]) (fun u67 => vI t72) (fun u67 => true) [true] 37 (fun u67 w hg hF => ld_row (en := en_i64) (owns_rowC (ow_of hF.1)).2 en_i64_len ht72 0 1 [vI t72] rfl (by kernel_rfl))) <|
   .v 38 (vI (w_i64 (t69 + t72))) <|
   .cons [39] (ok_val (fun u67 => .pointer (some ⟨hdB p_x34, hdO p_x34 + x35.toNat * 1, none⟩)) 39 (hv := fun _ _ => ix_pure (t := 23) (k := .i64) (i := x35) (p := p_x34) (n := x34.length) (cap := c_x34) (x := (x34.set x35.toNat 1)) P70 rfl b73 (by kernel_rfl))) <|
   .cons [900036, 900036] (ok_own1 [] [] (fun u67 => []) 900036 (fun u67 => owK 3 1 p_x34 x34.length c_x34 ((x34.set x35.toNat 1).flatMap en_i64)) none (fun u67 g => .nilFunc) (fun u67 g => owK 3 1 p_x34 x34.length c_x34 (((x34.set x35.toNat 1).set x35.toNat (w_i64 (t69 + t72))).flatMap en_i64)) (fun u67 w hF hK => tv_set (el_storeN (ow_of hK) en_i64_len (y := w_i64 (t69 + t72)) (vs := [vI (w_i64 (t69 + t72))]) ht74 0 (by simp) (by simp) rfl (by kernel_rfl)))) <| .nil) fun u67 a w' H => ?_
      replace H := H.kp [1, 3, 4, 5, 15, 16, 17, 90, 91, 92, 108, 900036, 999999]
      obtain rfl := Option.some.inj G
      replace H := H.move (K := owK 3 1 p_x34 x34.length c_x34 (((x34.set x35.toNat 1).set x35.toNat (w_i64 (t69 + t72))).flatMap en_i64)) 900036 900037 (by kernel_rfl) (by intro _ _ h; cases h)
      exact ⟨p_x34, c_x34, x34.length, by simp, H.toL _ (by kernel_rfl)⟩
     ·rw [if_neg (nt c75)] at G
      refine k_skip ?_
      obtain rfl := Option.some.inj G
      replace H := H.move (K := owK 3 1 p_x34 x34.length c_x34 ((x34.set x35.toNat 1).flatMap en_i64)) 900036 900037 (by kernel_rfl) (by intro _ _ h; cases h)
      exact ⟨p_x34, c_x34, x34.length, by simp, H.toL _ (by kernel_rfl)⟩
   ·rw [if_neg (nt c76)] at G
    refine k_exit rfl ?_
    obtain rfl := Option.some.inj G
    replace H := H.move (K := owK 3 1 p_x34 x34.length c_x34 (x34.flatMap en_i64)) 900036 900029 (by kernel_rfl) (by intro _ _ h; cases h)
    exact ⟨p_x34, c_x34, x34.length, rfl, H.toL _ (by kernel_rfl)⟩
set_option maxHeartbeats 4000000 in
theorem armillaryref02_IsEntire.calls (a0 : TInterval) (r : Bool) (w : World) (G : armillaryref02_IsEntire a0 = some r) :
  Calls Tryd.prog 18 #[.agg #[vI a0.Lo, vI a0.Hi]] w fun e w' => e = .returned (.bool r) ∧ Below w.heap.size w w' := by
 refine k_enter (args := [.agg #[vI a0.Lo, vI a0.Hi]]) 11 Tryd.func18 rfl (by kernel_rfl) (by kernel_rfl) fun a H => ?_
 unfold armillaryref02_IsEntire at G
 refine k_seq ?_
 refine k_rg mixed H (.cons [1, 11] (ok_new (fun b => vP b 0) (fun u1 => [vI a0.Lo, vI a0.Hi]) 28 1 11) <|
   .v 2 (.bool false) <| .nil) fun u1 a w' H => ?_
 replace H := H.kp [1, 11]
 refine k_seq ?_
 refine k_rg mixed H (.v 3 (vP ((u1 0).n 0) 0) <|
   .cons [4] (ok_ld (fun u2 => vI a0.Lo) 4 11 0 1 (fun u2 => ((u1 0).n 0)) (fun u2 => [vI a0.Lo, vI a0.Hi]) 28) <|
   .v 5 (.bool (a0.Lo == (-2147483648))) <|
   .v 6 (.bool (a0.Lo == (-2147483648))) <|
   .cons [7] (ok_valg (fun u2 => vP ((u1 0).n 0) 1) (fun u2 => ((a0.Lo == (-2147483648)) == true)) [true] 7) <|
   .cons [8] (ok_ldg (fun u2 => vI a0.Hi) (fun u2 => ((a0.Lo == (-2147483648)) == true)) [false] 8 11 1 1 (fun u2 => ((u1 0).n 0)) (fun u2 => [vI a0.Lo, vI a0.Hi]) 28) <|
   .cons [9] (ok_valg (fun u2 => .bool (a0.Hi == 2147483648)) (fun u2 => ((a0.Lo == (-2147483648)) == true)) [false, true] 9) <|
   .cons [10] (ok_and 6 9 (fun u2 => true) (fun u2 => true) (fun u2 => (a0.Lo == (-2147483648))) (fun u2 => (a0.Hi == 2147483648)) 10) <|
   .v 2 (.bool ((a0.Lo == (-2147483648)) && (a0.Hi == 2147483648))) <| .nil) fun u2 a w' H => ?_
 replace H := H.kp [2]
 refine k_ret ?_
 obtain rfl := Option.some.inj G
 exact k_done0 H _ (by kernel_rfl) (by kernel_rfl)
set_option maxHeartbeats 4000000 in
theorem fixed_Valid.calls (a0 : Int) (r : Bool) (w : World) (G : fixed_Valid a0 = some r) :
  Calls Tryd.prog 51 #[vI a0] w fun e w' => e = .returned (.bool r) ∧ Below w.heap.size w w' := by
 refine k_enter (args := [vI a0]) 9 Tryd.func51 rfl (by kernel_rfl) (by kernel_rfl) fun a H => ?_
 unfold fixed_Valid at G
 refine k_seq ?_
 refine k_rg mixed H (.v 2 (.bool false) <| .nil) fun u1 a w' H => ?_
 replace H := H.kp [0]
 refine k_seq ?_
 refine k_rg mixed H (.v 3 (vI a0) <|
   .v 4 (.bool (decide ((-2147483648) < a0))) <|
   .v 5 (.bool (decide ((-2147483648) < a0))) <|
   .cons [6] (ok_valg (fun u2 => vI a0) (fun u2 => ((decide ((-2147483648) < a0)) == true)) [true] 6) <|
   .cons [7] (ok_valg (fun u2 => .bool (decide (a0 < 2147483648))) (fun u2 => ((decide ((-2147483648) < a0)) == true)) [false, true] 7) <|
   .cons [8] (ok_and 5 7 (fun u2 => true) (fun u2 => true) (fun u2 => decide ((-2147483648) < a0)) (fun u2 => decide (a0 < 2147483648)) 8) <|
   .v 2 (.bool ((decide ((-2147483648) < a0)) && (decide (a0 < 2147483648)))) <| .nil) fun u2 a w' H => ?_
 replace H := H.kp [2]
 refine k_ret ?_
 obtain rfl := Option.some.inj G
 exact k_done0 H _ (by kernel_rfl) (by kernel_rfl)
set_option maxHeartbeats 4000000 in
theorem interval_Valid.calls (a0 : TInterval) (r : Bool) (w : World) (G : interval_Valid a0 = some r) :
  Calls Tryd.prog 38 #[.agg #[vI a0.Lo, vI a0.Hi]] w fun e w' => e = .returned (.bool r) ∧ Below w.heap.size w w' := by
 refine k_enter (args := [.agg #[vI a0.Lo, vI a0.Hi]]) 22 Tryd.func38 rfl (by kernel_rfl) (by kernel_rfl) fun a H => ?_
 unfold interval_Valid at G
 refine k_seq ?_
 refine k_rg mixed H (.cons [1, 22] (ok_new (fun b => vP b 0) (fun u1 => [vI a0.Lo, vI a0.Hi]) 28 1 22) <|
   .v 2 (.bool false) <| .nil) fun u1 a w' H => ?_
 replace H := H.kp [1, 22]
 refine k_seq ?_
 replace G := bnd G; obtain ⟨t3, ht3, G⟩ := G
 replace G := bnd G; obtain ⟨t4, ht4, G⟩ := G
 replace G := bnd G; obtain ⟨t5, ht5, G⟩ := G
 refine k_rg mixed H (.cons [3] (ok_ld (fun u2 => .agg #[vI a0.Lo, vI a0.Hi]) 3 22 0 2 (fun u2 => ((u1 0).n 0)) (fun u2 => [vI a0.Lo, vI a0.Hi]) 28) <|
   .cons [4] (ok_callv 50 (fun u2 => #[.agg #[vI a0.Lo, vI a0.Hi]]) (.bool t3) 4 [] (fun u2 w _ => interval_IsEntire.calls a0  t3 w  ht3)) <|
   .v 5 (.bool t3) <|
   .cons [6] (ok_valg (fun u2 => vP ((u1 0).n 0) 0) (fun u2 => (t3 == false)) [true] 6) <|
   .cons [7] (ok_ldg (fun u2 => vI a0.Lo) (fun u2 => (t3 == false)) [false] 7 22 0 1 (fun u2 => ((u1 0).n 0)) (fun u2 => [vI a0.Lo, vI a0.Hi]) 28) <|
   .cons [8] (ok_call 51 (fun u2 => #[vI a0.Lo]) (.bool t4) (fun u2 => (t3 == false)) [true, false] 8 [] (fun u2 w hg _ => fixed_Valid.calls a0.Lo  t4 w  (ifp ht4 hg))) <|
   .cons [9] (ok_valg (fun u2 => .bool t4) (fun u2 => (t3 == false)) [false] 9) <|
   .cons [10] (ok_valg (fun u2 => vP ((u1 0).n 0) 1) (fun u2 => ((t3 == false) && (t4 == true))) [true] 10) <|
   .cons [11] (ok_ldg (fun u2 => vI a0.Hi) (fun u2 => ((t3 == false) && (t4 == true))) [false] 11 22 1 1 (fun u2 => ((u1 0).n 0)) (fun u2 => [vI a0.Lo, vI a0.Hi]) 28) <|
   .cons [12] (ok_call 51 (fun u2 => #[vI a0.Hi]) (.bool t5) (fun u2 => ((t3 == false) && (t4 == true))) [true, false] 12 [] (fun u2 w hg _ => fixed_Valid.calls a0.Hi  t5 w  (ifp ht5 hg))) <|
   .cons [13] (ok_and 9 12 (fun u2 => (t3 == false)) (fun u2 => (t3 == false)) (fun u2 => t4) (fun u2 => t5) 13) <|
   .cons [14] (ok_valg (fun u2 => .bool (t4 && t5)) (fun u2 => (t3 == false)) [false] 14) <|
   .cons [15] (ok_valg (fun u2 => vP ((u1 0).n 0) 0) (fun u2 => ((t3 == false) && ((t4 && t5) == true))) [true] 15) <|
   .cons [16] (ok_ldg (fun u2 => vI a0.Lo) (fun u2 => ((t3 == false) && ((t4 && t5) == true))) [false] 16 22 0 1 (fun u2 => ((u1 0).n 0)) (fun u2 => [vI a0.Lo, vI a0.Hi]) 28) <|
   .cons [17] (ok_valg (fun u2 => vP ((u1 0).n 0) 1) (fun u2 => ((t3 == false) && ((t4 && t5) == true))) [true] 17) <|
   .cons [18] (ok_ldg (fun u2 => vI a0.Hi) (fun u2 => ((t3 == false) && ((t4 && t5) == true))) [false] 18 22 1 1 (fun u2 => ((u1 0).n 0)) (fun u2 => [vI a0.Lo, vI a0.Hi]) 28) <|
   .cons [19] (ok_valg (fun u2 => .bool (decide (a0.Lo ≤ a0.Hi))) (fun u2 => ((t3 == false) && ((t4 && t5) == true))) [false, false] 19) <|
   .cons [20] (ok_and 14 19 (fun u2 => (t3 == false)) (fun u2 => (t3 == false)) (fun u2 => (t4 && t5)) (fun u2 => decide (a0.Lo ≤ a0.Hi)) 20) <|
   .cons [21] (ok_or 5 20 (fun u2 => true) (fun u2 => true) (fun u2 => t3) (fun u2 => ((t4 && t5) && (decide (a0.Lo ≤ a0.Hi)))) 21) <|
   .v 2 (.bool (t3 || ((t4 && t5) && (decide (a0.Lo ≤ a0.Hi))))) <| .nil) fun u2 a w' H => ?_
 replace H := H.kp [2]
 refine k_ret ?_
 obtain rfl := Option.some.inj G
 exact k_done0 H _ (by kernel_rfl) (by kernel_rfl)
set_option maxHeartbeats 4000000 in
theorem tape_Valid_1_m.calls (a0 : Int) (q0 : TTape) (b_q0 : Nat) (p_q0_L : Option Addr) (c_q0_L : Nat) (p_q0_Out : Option Addr) (c_q0_Out : Nat) (r : Bool) (w : World) (hB : AllH [rdl anyF 5 p_q0_L c_q0_L q0.L en_TInstruction, rdl anyF 1 p_q0_Out c_q0_Out q0.Out en_i64, bxK b_q0 [vI q0.N, .slice p_q0_L q0.L.length c_q0_L, .slice p_q0_Out q0.Out.length c_q0_Out] 25] w) (G : tape_Valid_1_m a0 q0 = some r) :
  Calls Tryd.prog 40 #[vI a0, vP b_q0 0] w fun e w' => e = .returned (.bool r) ∧ Below w.heap.size w w' := by
 obtain ⟨fr, hfr⟩ : ∃ fr : Nat → Prop, ∀ j, fr j := ⟨fun _ => True, fun _ => trivial⟩
 have hBf : ∀ j, w.heap.size ≤ j → fr j := fun j _ => hfr j
 refine k_enterF (args := [vI a0, vP b_q0 0]) 13 [(14, rdl anyF 5 p_q0_L c_q0_L q0.L en_TInstruction), (15, rdl anyF 1 p_q0_Out c_q0_Out q0.Out en_i64), (13, bxK b_q0 [vI q0.N, .slice p_q0_L q0.L.length c_q0_L, .slice p_q0_Out q0.Out.length c_q0_Out] 25)] (by
  intro x hx
  simp only [List.mem_cons, List.not_mem_nil, or_false] at hx
  rcases hx with rfl | rfl | rfl
  ·exact rdF_fact (rdF_of hB.1) (fun _ _ => trivial) (by decide) _
  ·exact rdF_fact (rdF_of hB.2.1) (fun _ _ => trivial) (by decide) _
  ·exact bx_fact (hB.2.2.1 w (agree.refl _ _)) _) Tryd.func40 rfl (by kernel_rfl) (by kernel_rfl) fun a H => ?_
 unfold tape_Valid_1_m at G
 refine k_seq ?_
 refine k_rg mixed H (.v 3 (.bool false) <| .nil) fun u1 a w' H => ?_
 replace H := H.kp [0, 1, 14, 15, 13]
 refine k_seq ?_
 replace G := bnd G; obtain ⟨z3, hz3, G⟩ := G
 replace hz3 := Option.some.inj hz3
 by_cases c4 : z3 = true
 ·rw [if_pos c4] at G; subst c4
  refine k_rg mixed H (.v 4 (vI a0) <|
   .v 5 (.bool (decide (a0 < 0))) <|
   .cons [6] (ok_as (u' := fun u2 => [(6, sB true)]) (ok_val (fun u2 => .bool (decide (a0 < 0))) 6) (fun _ => by rw [hz3])) <|
   .cons [7] (ok_offB 7) <|
   .cons [8] (ok_offB 8) <|
   .cons [9] (ok_offB 9) <|
   .cons [10] (ok_offB 10) <|
   .cons [11] (ok_offB 11) <|
   .cons [12] (ok_pickK (fun u2 => .bool true) 12) <|
   .v 3 (.bool true) <| .nil) fun u2 a w' H => ?_
  replace H := H.kp [3, 14, 15, 13]
  refine k_ret ?_
  obtain rfl := Option.some.inj G
  exact k_done0 H _ (by kernel_rfl) (by kernel_rfl)
 rw [if_neg c4] at G
 by_cases c5 : z3 = false
 ·rw [if_pos c5] at G; subst c5
  refine k_rg mixed H (.v 4 (vI a0) <|
   .v 5 (.bool (decide (a0 < 0))) <|
   .cons [6] (ok_as (u' := fun u2 => [(6, sB false)]) (ok_val (fun u2 => .bool (decide (a0 < 0))) 6) (fun _ => by rw [hz3])) <|
   .cons [7] (ok_gd (ok_val (fun u2 => vI a0) 7) (by intro _; kernel_rfl)) <|
   .cons [8] (ok_gd (ok_val (fun u2 => vP b_q0 1) 8) (by intro _; kernel_rfl)) <|
   .cons [9] (ok_gd (ok_ldK (fun u2 => .slice p_q0_L q0.L.length c_q0_L) 9 13 (bxK b_q0 [vI q0.N, .slice p_q0_L q0.L.length c_q0_L, .slice p_q0_Out q0.Out.length c_q0_Out] 25) b_q0 1 1 [vI q0.N, .slice p_q0_L q0.L.length c_q0_L, .slice p_q0_Out q0.Out.length c_q0_Out] (fun w h => bx_of h)) (by intro _; kernel_rfl)) <|
   .cons [10] (ok_gd (ok_val (fun u2 => vI (q0.L.length : Int)) 10) (by intro _; kernel_rfl)) <|
   .cons [11] (ok_gd (ok_val (fun u2 => .bool (decide (a0 ≥ (q0.L.length : Int)))) 11) (by intro _; kernel_rfl)) <|
   .cons [12] (ok_pickK (fun u2 => .bool (decide (a0 ≥ (q0.L.length : Int)))) 12) <|
   .v 3 (.bool (decide (a0 ≥ (q0.L.length : Int)))) <| .nil) fun u2 a w' H => ?_
  replace H := H.kp [3, 14, 15, 13]
  refine k_ret ?_
  obtain rfl := Option.some.inj G
  exact k_done0 H _ (by kernel_rfl) (by kernel_rfl)
 rw [if_neg c5] at G
 cases G
set_option maxHeartbeats 4000000 in
theorem slices_IndexFunc_int_int_s40.calls (k0 : Nat) (a0 : List Int) (a1_0 : TTape) (p_a0 : Option Addr) (c_a0 : Nat) (b_a1_0 : Nat) (p_a1_0_L : Option Addr) (c_a1_0_L : Nat) (p_a1_0_Out : Option Addr) (c_a1_0_Out : Nat) (r : Int) (w : World) (hB : AllH [rdl anyF 1 p_a0 c_a0 a0 en_i64, rdl anyF 5 p_a1_0_L c_a1_0_L a1_0.L en_TInstruction, rdl anyF 1 p_a1_0_Out c_a1_0_Out a1_0.Out en_i64, bxK b_a1_0 [vI a1_0.N, .slice p_a1_0_L a1_0.L.length c_a1_0_L, .slice p_a1_0_Out a1_0.Out.length c_a1_0_Out] 25] w) (G : slices_IndexFunc_int_int_s40 k0 a0 a1_0 = some r) :
  Calls Tryd.prog 52 #[.slice p_a0 a0.length c_a0, .func (.func 40) #[] #[vP b_a1_0 0]] w fun e w' => e = .returned (vI r) ∧ Below w.heap.size w w' := by
 obtain ⟨fr, hfr⟩ : ∃ fr : Nat → Prop, ∀ j, fr j := ⟨fun _ => True, fun _ => trivial⟩
 have hBf : ∀ j, w.heap.size ≤ j → fr j := fun j _ => hfr j
 refine k_enterF (args := [.slice p_a0 a0.length c_a0, .func (.func 40) #[] #[vP b_a1_0 0]]) 19 [(19, rdl anyF 1 p_a0 c_a0 a0 en_i64), (21, rdl anyF 5 p_a1_0_L c_a1_0_L a1_0.L en_TInstruction), (22, rdl anyF 1 p_a1_0_Out c_a1_0_Out a1_0.Out en_i64), (20, bxK b_a1_0 [vI a1_0.N, .slice p_a1_0_L a1_0.L.length c_a1_0_L, .slice p_a1_0_Out a1_0.Out.length c_a1_0_Out] 25)] (by
  intro x hx
  simp only [List.mem_cons, List.not_mem_nil, or_false] at hx
  rcases hx with rfl | rfl | rfl | rfl
  ·exact rdF_fact (rdF_of hB.1) (fun _ _ => trivial) (by decide) _
  ·exact rdF_fact (rdF_of hB.2.1) (fun _ _ => trivial) (by decide) _
  ·exact rdF_fact (rdF_of hB.2.2.1) (fun _ _ => trivial) (by decide) _
  ·exact bx_fact (hB.2.2.2.1 w (agree.refl _ _)) _) Tryd.func52 rfl (by kernel_rfl) (by kernel_rfl) fun a H => ?_
 unfold slices_IndexFunc_int_int_s40 at G
 refine k_seq ?_
 refine k_rg mixed H (.v 4 (vI 0) <| .nil) fun u1 a w' H => ?_
 replace H := H.kp [0, 1, 19, 21, 22, 20]
 refine k_seq ?_
 replace G := bnd G; obtain ⟨j2, hj2, Gj2⟩ := G
 refine k_join (fun a w' => ∃ j2v, j2 = Sum.inr j2v ∧ Rep w.heap.size w 19 (ofL [(21, rdl anyF 5 p_a1_0_L c_a1_0_L a1_0.L en_TInstruction), (22, rdl anyF 1 p_a1_0_Out c_a1_0_Out a1_0.Out en_i64), (20, bxK b_a1_0 [vI a1_0.N, .slice p_a1_0_L a1_0.L.length c_a1_0_L, .slice p_a1_0_Out a1_0.Out.length c_a1_0_Out] 25)]) a w') ?_ ?_
 ·clear H; rintro a w' ⟨j2v, rfl, H⟩; have G := Gj2; clear Gj2; dsimp only at G
  refine k_seq ?_
  refine k_rg mixed H (.v 4 (vI (-1)) <| .nil) fun u3 a w' H => ?_
  replace H := H.kp [4, 21, 22, 20]
  refine k_ret ?_
  obtain rfl := Option.some.inj G
  exact k_done0 H _ (by kernel_rfl) (by kernel_rfl)
 ·have G := hj2; clear hj2
  refine k_seq ?_
  refine k_rg mixed H (.v 6 (.slice p_a0 a0.length c_a0) <|
   .v 7 (vI (a0.length : Int)) <|
   .v 8 (vI 0) <| .nil) fun u4 a w' H => ?_
  replace H := H.kp [0, 1, 7, 8, 19, 21, 22, 20]
  refine k_block ?_
  refine k_loopJ (fun m a w' => ∃ x5 : Int, slices_IndexFunc_int_int_s40.l6 k0 a0 a1_0 m x5 = some j2 ∧ Rep w.heap.size w 19 (ofL [(0, sS p_a0 a0.length c_a0), (1, .slot true (.func (.func 40) #[] #[vP b_a1_0 0])), (7, (sI (a0.length : Int))), (8, sI x5), (19, rdl anyF 1 p_a0 c_a0 a0 en_i64), (21, rdl anyF 5 p_a1_0_L c_a1_0_L a1_0.L en_TInstruction), (22, rdl anyF 1 p_a1_0_Out c_a1_0_Out a1_0.Out en_i64), (20, bxK b_a1_0 [vI a1_0.N, .slice p_a1_0_L a1_0.L.length c_a1_0_L, .slice p_a1_0_Out a1_0.Out.length c_a1_0_Out] 25)]) a w') k0 ⟨_, G, H.toL _ (by kernel_rfl)⟩ ?_
  clear G H
  rintro (_ | k) a w' ⟨x5, G, H⟩
  ·exact absurd G (by unfold slices_IndexFunc_int_int_s40.l6; exact fun h => by cases h)
  ·unfold slices_IndexFunc_int_int_s40.l6 at G
   refine k_seq ?_
   refine k_rg mixed H (.v 9 (.bool (decide (x5 < (a0.length : Int)))) <| .nil) fun u7 a w' H => ?_
   replace H := H.kp [0, 1, 7, 8, 9, 19, 21, 22, 20]
   refine k_seq ?_
   refine k_cond H (by kernel_rfl) (t := decide (x5 < (a0.length : Int))) (by kernel_rfl) (fun c16 => ?_) (fun c16 => ?_)
   ·rw [if_pos c16] at G
    refine k_skip ?_
    refine k_seq ?_
    refine k_block ?_
    refine k_seq ?_
    refine k_rg mixed H (.v 10 (vI x5) <|
   .v 5 (vI x5) <| .nil) fun u8 a w' H => ?_
    replace H := H.kp [0, 1, 5, 7, 8, 19, 21, 22, 20]
    refine k_seq ?_
    replace G := gd G; obtain ⟨b10, G⟩ := G
    replace G := bnd G; obtain ⟨t11, ht11, G⟩ := G
    replace G := bnd G; obtain ⟨t12, ht12, G⟩ := G
    refine k_rg mixed H (.v 11 (.func (.func 40) #[] #[vP b_a1_0 0]) <|
   .v 12 (.slice p_a0 a0.length c_a0) <|
   .v 13 (vI x5) <|
   .cons [14] (ok_valL [19] (fun u9 => [rdl anyF 1 p_a0 c_a0 a0 en_i64]) (fun u9 => .pointer (some ⟨hdB p_a0, hdO p_a0 + x5.toNat * 1, none⟩)) (fun u9 => true) [true, true] 14 (fun u9 w hg hF => ix_row (t := 23) (k := .i64) (i := x5) (p := p_a0) (n := a0.length) (cap := c_a0) (x := a0) (en := en_i64) (rdF_of hF.1).2 en_i64_len rfl b10 (by kernel_rfl))) <|
   .cons [15] (ok_valL [19] (fun u9 => [rdl anyF 1 p_a0 c_a0 a0 en_i64]) (fun u9 => vI t11) (fun u9 => true) [true] 15 (fun u9 w hg hF => ld_row (en := en_i64) (rdF_of hF.1).2 en_i64_len ht11 0 1 [vI t11] rfl (by kernel_rfl))) <|
   .cons [16] (ok_callL [21, 22, 20] (fun u9 => [rdl anyF 5 p_a1_0_L c_a1_0_L a1_0.L en_TInstruction, rdl anyF 1 p_a1_0_Out c_a1_0_Out a1_0.Out en_i64, bxK b_a1_0 [vI a1_0.N, .slice p_a1_0_L a1_0.L.length c_a1_0_L, .slice p_a1_0_Out a1_0.Out.length c_a1_0_Out] 25]) 40 (fun u9 => #[vI t11, vP b_a1_0 0]) (.bool t12) 16 (fun u9 w hF => tape_Valid_1_m.calls t11 (⟨a1_0.N, a1_0.L, a1_0.Out⟩ : TTape) b_a1_0 p_a1_0_L c_a1_0_L p_a1_0_Out c_a1_0_Out t12 w  ⟨(rdA (rdF_of hF.1)), (rdA (rdF_of hF.2.1)), (bx_fact (hF.2.2.1 w (agree.refl _ _)) 0).2.1, trivial⟩ ht12)) <| .nil) fun u9 a w' H => ?_
    replace H := H.kp [0, 1, 5, 7, 8, 16, 19, 21, 22, 20]
    refine k_cond H (by kernel_rfl) (t := t12) (by kernel_rfl) (fun c15 => ?_) (fun c15 => ?_)
    ·rw [if_pos c15] at G
     refine k_seq ?_
     refine k_rg mixed H (.v 17 (vI x5) <|
   .v 4 (vI x5) <| .nil) fun u13 a w' H => ?_
     replace H := H.kp [4, 21, 22, 20]
     refine k_ret ?_
     obtain rfl := Option.some.inj G
     replace G := Gj2
     obtain rfl := Option.some.inj G
     exact k_done0 H _ (by kernel_rfl) (by kernel_rfl)
    ·rw [if_neg (nt c15)] at G
     refine k_skip ?_
     refine k_rg mixed H (.v 18 (vI (w_i64 (x5 + 1))) <|
   .v 8 (vI (w_i64 (x5 + 1))) <| .nil) fun u14 a w' H => ?_
     replace H := H.kp [0, 1, 7, 8, 19, 21, 22, 20]
     exact ⟨k, Nat.lt_succ_self k, _, G, H.toL _ (by kernel_rfl)⟩
   ·rw [if_neg (nt c16)] at G
    refine k_exit rfl ?_
    obtain rfl := Option.some.inj G
    exact ⟨_, rfl, H.toL _ (by kernel_rfl)⟩
set_option maxHeartbeats 4000000 in
theorem slices_ContainsFunc_int_int_s40.calls (k0 : Nat) (a0 : List Int) (a1_0 : TTape) (p_a0 : Option Addr) (c_a0 : Nat) (b_a1_0 : Nat) (p_a1_0_L : Option Addr) (c_a1_0_L : Nat) (p_a1_0_Out : Option Addr) (c_a1_0_Out : Nat) (r : Bool) (w : World) (hB : AllH [rdl anyF 1 p_a0 c_a0 a0 en_i64, rdl anyF 5 p_a1_0_L c_a1_0_L a1_0.L en_TInstruction, rdl anyF 1 p_a1_0_Out c_a1_0_Out a1_0.Out en_i64, bxK b_a1_0 [vI a1_0.N, .slice p_a1_0_L a1_0.L.length c_a1_0_L, .slice p_a1_0_Out a1_0.Out.length c_a1_0_Out] 25] w) (G : slices_ContainsFunc_int_int_s40 k0 a0 a1_0 = some r) :
  Calls Tryd.prog 39 #[.slice p_a0 a0.length c_a0, .func (.func 40) #[] #[vP b_a1_0 0]] w fun e w' => e = .returned (.bool r) ∧ Below w.heap.size w w' := by
 obtain ⟨fr, hfr⟩ : ∃ fr : Nat → Prop, ∀ j, fr j := ⟨fun _ => True, fun _ => trivial⟩
 have hBf : ∀ j, w.heap.size ≤ j → fr j := fun j _ => hfr j
 refine k_enterF (args := [.slice p_a0 a0.length c_a0, .func (.func 40) #[] #[vP b_a1_0 0]]) 9 [(9, rdl anyF 1 p_a0 c_a0 a0 en_i64), (11, rdl anyF 5 p_a1_0_L c_a1_0_L a1_0.L en_TInstruction), (12, rdl anyF 1 p_a1_0_Out c_a1_0_Out a1_0.Out en_i64), (10, bxK b_a1_0 [vI a1_0.N, .slice p_a1_0_L a1_0.L.length c_a1_0_L, .slice p_a1_0_Out a1_0.Out.length c_a1_0_Out] 25)] (by
  intro x hx
  simp only [List.mem_cons, List.not_mem_nil, or_false] at hx
  rcases hx with rfl | rfl | rfl | rfl
  ·exact rdF_fact (rdF_of hB.1) (fun _ _ => trivial) (by decide) _
  ·exact rdF_fact (rdF_of hB.2.1) (fun _ _ => trivial) (by decide) _
  ·exact rdF_fact (rdF_of hB.2.2.1) (fun _ _ => trivial) (by decide) _
  ·exact bx_fact (hB.2.2.2.1 w (agree.refl _ _)) _) Tryd.func39 rfl (by kernel_rfl) (by kernel_rfl) fun a H => ?_
 unfold slices_ContainsFunc_int_int_s40 at G
 refine k_seq ?_
 refine k_rg mixed H (.v 4 (.bool false) <| .nil) fun u1 a w' H => ?_
 replace H := H.kp [0, 1, 9, 11, 12, 10]
 refine k_seq ?_
 replace G := bnd G; obtain ⟨t3, ht3, G⟩ := G
 refine k_rg mixed H (.v 5 (.slice p_a0 a0.length c_a0) <|
   .v 6 (.func (.func 40) #[] #[vP b_a1_0 0]) <|
   .cons [7] (ok_callL [9, 11, 12, 10] (fun u2 => [rdl anyF 1 p_a0 c_a0 a0 en_i64, rdl anyF 5 p_a1_0_L c_a1_0_L a1_0.L en_TInstruction, rdl anyF 1 p_a1_0_Out c_a1_0_Out a1_0.Out en_i64, bxK b_a1_0 [vI a1_0.N, .slice p_a1_0_L a1_0.L.length c_a1_0_L, .slice p_a1_0_Out a1_0.Out.length c_a1_0_Out] 25]) 52 (fun u2 => #[.slice p_a0 a0.length c_a0, .func (.func 40) #[] #[vP b_a1_0 0]]) (vI t3) 7 (fun u2 w hF => slices_IndexFunc_int_int_s40.calls k0 a0 (⟨a1_0.N, a1_0.L, a1_0.Out⟩ : TTape) p_a0 c_a0 b_a1_0 p_a1_0_L c_a1_0_L p_a1_0_Out c_a1_0_Out t3 w  ⟨(rdA (rdF_of hF.1)), (rdA (rdF_of hF.2.1)), (rdA (rdF_of hF.2.2.1)), (bx_fact (hF.2.2.2.1 w (agree.refl _ _)) 0).2.1, trivial⟩ ht3)) <|
   .v 8 (.bool (decide (t3 ≥ 0))) <|
   .v 4 (.bool (decide (t3 ≥ 0))) <| .nil) fun u2 a w' H => ?_
 replace H := H.kp [4, 11, 12, 10]
 refine k_ret ?_
 obtain rfl := Option.some.inj G
 exact k_done0 H _ (by kernel_rfl) (by kernel_rfl)
set_option maxHeartbeats 4000000 in
theorem tape_Valid.calls (k0 : Nat) (a0 : TTape) (p_a0_L : Option Addr) (c_a0_L : Nat) (p_a0_Out : Option Addr) (c_a0_Out : Nat) (r : Bool) (w : World) (hB : AllH [rdl anyF 5 p_a0_L c_a0_L a0.L en_TInstruction, rdl anyF 1 p_a0_Out c_a0_Out a0.Out en_i64, gk] w) (G : tape_Valid k0 a0 = some r) :
  Calls Tryd.prog 19 #[.agg #[vI a0.N, .slice p_a0_L a0.L.length c_a0_L, .slice p_a0_Out a0.Out.length c_a0_Out]] w fun e w' => e = .returned (.bool r) ∧ Below w.heap.size w w' := by
 obtain ⟨fr, hfr⟩ : ∃ fr : Nat → Prop, ∀ j, fr j := ⟨fun _ => True, fun _ => trivial⟩
 have hBf : ∀ j, w.heap.size ≤ j → fr j := fun j _ => hfr j
 refine k_enterF (args := [.agg #[vI a0.N, .slice p_a0_L a0.L.length c_a0_L, .slice p_a0_Out a0.Out.length c_a0_Out]]) 128 [(128, rdl anyF 5 p_a0_L c_a0_L a0.L en_TInstruction), (129, rdl anyF 1 p_a0_Out c_a0_Out a0.Out en_i64), (999999, gk)] (by
  intro x hx
  simp only [List.mem_cons, List.not_mem_nil, or_false] at hx
  rcases hx with rfl | rfl | rfl
  ·exact rdF_fact (rdF_of hB.1) (fun _ _ => trivial) (by decide) _
  ·exact rdF_fact (rdF_of hB.2.1) (fun _ _ => trivial) (by decide) _
  ·exact ⟨⟨_, _, rfl⟩, hB.2.2.1, glob_in (glob_of hB.2.2.1)⟩) Tryd.func19 rfl (by kernel_rfl) (by kernel_rfl) fun a H => ?_
 unfold tape_Valid at G
 refine k_seq ?_
 refine k_rg mixed H (.cons [1, 130] (ok_new (fun b => vP b 0) (fun u1 => [vI a0.N, .slice p_a0_L a0.L.length c_a0_L, .slice p_a0_Out a0.Out.length c_a0_Out]) 25 1 130) <|
   .v 2 (.bool false) <| .nil) fun u1 a w' H => ?_
 replace H := H.kp [1, 128, 129, 130, 999999]
 refine k_seq ?_
 refine k_seq ?_
 refine k_rg mixed H (.v 7 (vP ((u1 0).n 0) 0) <|
   .cons [8] (ok_ld (fun u2 => vI a0.N) 8 130 0 1 (fun u2 => ((u1 0).n 0)) (fun u2 => [vI a0.N, .slice p_a0_L a0.L.length c_a0_L, .slice p_a0_Out a0.Out.length c_a0_Out]) 25) <|
   .v 9 (.bool (decide (a0.N < 1))) <|
   .v 10 (.bool (decide (a0.N < 1))) <|
   .cons [11] (ok_valg (fun u2 => vP ((u1 0).n 0) 0) (fun u2 => ((decide (a0.N < 1)) == false)) [true] 11) <|
   .cons [12] (ok_ldg (fun u2 => vI a0.N) (fun u2 => ((decide (a0.N < 1)) == false)) [false] 12 130 0 1 (fun u2 => ((u1 0).n 0)) (fun u2 => [vI a0.N, .slice p_a0_L a0.L.length c_a0_L, .slice p_a0_Out a0.Out.length c_a0_Out]) 25) <|
   .cons [13] (ok_valg (fun u2 => .bool (decide (a0.N > 6))) (fun u2 => ((decide (a0.N < 1)) == false)) [false, true] 13) <|
   .cons [14] (ok_or 10 13 (fun u2 => true) (fun u2 => true) (fun u2 => decide (a0.N < 1)) (fun u2 => decide (a0.N > 6)) 14) <|
   .v 15 (.bool ((decide (a0.N < 1)) || (decide (a0.N > 6)))) <|
   .cons [16] (ok_valg (fun u2 => vP ((u1 0).n 0) 1) (fun u2 => (((decide (a0.N < 1)) || (decide (a0.N > 6))) == false)) [true] 16) <|
   .cons [17] (ok_ldg (fun u2 => .slice p_a0_L a0.L.length c_a0_L) (fun u2 => (((decide (a0.N < 1)) || (decide (a0.N > 6))) == false)) [false] 17 130 1 1 (fun u2 => ((u1 0).n 0)) (fun u2 => [vI a0.N, .slice p_a0_L a0.L.length c_a0_L, .slice p_a0_Out a0.Out.length c_a0_Out]) 25) <|
   .cons [18] (ok_valg (fun u2 => vI (a0.L.length : Int)) (fun u2 => (((decide (a0.N < 1)) || (decide (a0.N > 6))) == false)) [false] 18) <|
   .cons [19] (ok_valg (fun u2 => .bool (decide ((a0.L.length : Int) > 400))) (fun u2 => (((decide (a0.N < 1)) || (decide (a0.N > 6))) == false)) [false, true] 19) <|
   .cons [20] (ok_or 15 19 (fun u2 => true) (fun u2 => true) (fun u2 => ((decide (a0.N < 1)) || (decide (a0.N > 6)))) (fun u2 => decide ((a0.L.length : Int) > 400)) 20) <|
   .v 21 (.bool (((decide (a0.N < 1)) || (decide (a0.N > 6))) || (decide ((a0.L.length : Int) > 400)))) <|
   .cons [22] (ok_valg (fun u2 => vP ((u1 0).n 0) 2) (fun u2 => ((((decide (a0.N < 1)) || (decide (a0.N > 6))) || (decide ((a0.L.length : Int) > 400))) == false)) [true] 22) <|
   .cons [23] (ok_ldg (fun u2 => .slice p_a0_Out a0.Out.length c_a0_Out) (fun u2 => ((((decide (a0.N < 1)) || (decide (a0.N > 6))) || (decide ((a0.L.length : Int) > 400))) == false)) [false] 23 130 2 1 (fun u2 => ((u1 0).n 0)) (fun u2 => [vI a0.N, .slice p_a0_L a0.L.length c_a0_L, .slice p_a0_Out a0.Out.length c_a0_Out]) 25) <|
   .cons [24] (ok_valg (fun u2 => vI (a0.Out.length : Int)) (fun u2 => ((((decide (a0.N < 1)) || (decide (a0.N > 6))) || (decide ((a0.L.length : Int) > 400))) == false)) [false] 24) <|
   .cons [25] (ok_valg (fun u2 => vP ((u1 0).n 0) 0) (fun u2 => ((((decide (a0.N < 1)) || (decide (a0.N > 6))) || (decide ((a0.L.length : Int) > 400))) == false)) [true] 25) <|
   .cons [26] (ok_ldg (fun u2 => vI a0.N) (fun u2 => ((((decide (a0.N < 1)) || (decide (a0.N > 6))) || (decide ((a0.L.length : Int) > 400))) == false)) [false] 26 130 0 1 (fun u2 => ((u1 0).n 0)) (fun u2 => [vI a0.N, .slice p_a0_L a0.L.length c_a0_L, .slice p_a0_Out a0.Out.length c_a0_Out]) 25) <|
   .cons [27] (ok_valg (fun u2 => .bool ((a0.Out.length : Int) != a0.N)) (fun u2 => ((((decide (a0.N < 1)) || (decide (a0.N > 6))) || (decide ((a0.L.length : Int) > 400))) == false)) [false, false] 27) <|
   .cons [28] (ok_or 21 27 (fun u2 => true) (fun u2 => true) (fun u2 => (((decide (a0.N < 1)) || (decide (a0.N > 6))) || (decide ((a0.L.length : Int) > 400)))) (fun u2 => ((a0.Out.length : Int) != a0.N)) 28) <| .nil) fun u2 a w' H => ?_
 replace H := H.kp [1, 28, 128, 129, 130, 999999]
 refine k_cond H (by kernel_rfl) (t := ((((decide (a0.N < 1)) || (decide (a0.N > 6))) || (decide ((a0.L.length : Int) > 400))) || ((a0.Out.length : Int) != a0.N))) (by kernel_rfl) (fun c43 => ?_) (fun c43 => ?_)
 ·rw [if_pos c43] at G
  refine k_seq ?_
  refine k_rg mixed H (.v 2 (.bool false) <| .nil) fun u3 a w' H => ?_
  replace H := H.kp [2, 999999]
  refine k_ret ?_
  obtain rfl := Option.some.inj G
  exact k_done0 H _ (by kernel_rfl) (by kernel_rfl)
 ·rw [if_neg (nt c43)] at G
  refine k_skip ?_
  refine k_seq ?_
  replace G := bnd G; obtain ⟨j4, hj4, Gj4⟩ := G
  refine k_join (fun a w' => ∃ j4v, j4 = Sum.inr j4v ∧ Rep w.heap.size w 128 (ofL [(1, (sP ((u1 0).n 0) 0)), (128, rdl anyF 5 p_a0_L c_a0_L a0.L en_TInstruction), (129, rdl anyF 1 p_a0_Out c_a0_Out a0.Out en_i64), (130, .blk ((u1 0).n 0) [vI a0.N, .slice p_a0_L a0.L.length c_a0_L, .slice p_a0_Out a0.Out.length c_a0_Out] 25), (999999, gk)]) a w') ?_ ?_
  ·clear H; rintro a w' ⟨j4v, rfl, H⟩; have G := Gj4; clear Gj4; dsimp only at G
   refine k_seq ?_
   replace G := bnd G; obtain ⟨t6, ht6, G⟩ := G
   refine k_rg mixed H (.v 123 (vP ((u1 0).n 0) 2) <|
   .cons [124] (ok_ld (fun u5 => .slice p_a0_Out a0.Out.length c_a0_Out) 124 130 2 1 (fun u5 => ((u1 0).n 0)) (fun u5 => [vI a0.N, .slice p_a0_L a0.L.length c_a0_L, .slice p_a0_Out a0.Out.length c_a0_Out]) 25) <|
   .v 125 (.func (.func 40) #[] #[vP ((u1 0).n 0) 0]) <|
   .cons [126] (ok_callL [129, 128, 130] (fun u5 => [rdl anyF 1 p_a0_Out c_a0_Out a0.Out en_i64, rdl anyF 5 p_a0_L c_a0_L a0.L en_TInstruction, .blk ((u1 0).n 0) [vI a0.N, .slice p_a0_L a0.L.length c_a0_L, .slice p_a0_Out a0.Out.length c_a0_Out] 25]) 39 (fun u5 => #[.slice p_a0_Out a0.Out.length c_a0_Out, .func (.func 40) #[] #[vP ((u1 0).n 0) 0]]) (.bool t6) 126 (fun u5 w hF => slices_ContainsFunc_int_int_s40.calls k0 a0.Out (⟨a0.N, a0.L, a0.Out⟩ : TTape) p_a0_Out c_a0_Out ((u1 0).n 0) p_a0_L c_a0_L p_a0_Out c_a0_Out t6 w  ⟨(rdA (rdF_of hF.1)), (rdA (rdF_of hF.2.1)), (rdA (rdF_of hF.1)), (bx_fact hF.2.2.1 0).2.1, trivial⟩ ht6)) <|
   .v 127 (.bool (!t6)) <|
   .v 2 (.bool (!t6)) <| .nil) fun u5 a w' H => ?_
   replace H := H.kp [2, 999999]
   refine k_ret ?_
   obtain rfl := Option.some.inj G
   exact k_done0 H _ (by kernel_rfl) (by kernel_rfl)
  ·have G := hj4; clear hj4
   refine k_seq ?_
   refine k_rg mixed H (.v 29 (vP ((u1 0).n 0) 1) <|
   .cons [30] (ok_ld (fun u7 => .slice p_a0_L a0.L.length c_a0_L) 30 130 1 1 (fun u7 => ((u1 0).n 0)) (fun u7 => [vI a0.N, .slice p_a0_L a0.L.length c_a0_L, .slice p_a0_Out a0.Out.length c_a0_Out]) 25) <|
   .v 31 (vI (a0.L.length : Int)) <|
   .v 32 (vI 0) <| .nil) fun u7 a w' H => ?_
   replace H := H.kp [1, 30, 31, 32, 128, 129, 130, 999999]
   refine k_block ?_
   refine k_loopJ (fun m a w' => ∃ x8 : Int, tape_Valid.l9 k0 a0 m x8 = some j4 ∧ Rep w.heap.size w 128 (ofL [(1, (sP ((u1 0).n 0) 0)), (30, sS p_a0_L a0.L.length c_a0_L), (31, (sI (a0.L.length : Int))), (32, sI x8), (128, rdl anyF 5 p_a0_L c_a0_L a0.L en_TInstruction), (129, rdl anyF 1 p_a0_Out c_a0_Out a0.Out en_i64), (130, .blk ((u1 0).n 0) [vI a0.N, .slice p_a0_L a0.L.length c_a0_L, .slice p_a0_Out a0.Out.length c_a0_Out] 25), (999999, gk)]) a w') k0 ⟨_, G, H.toL _ (by kernel_rfl)⟩ ?_
   clear G H
   rintro (_ | k) a w' ⟨x8, G, H⟩
   ·exact absurd G (by unfold tape_Valid.l9; exact fun h => by cases h)
   ·unfold tape_Valid.l9 at G
    refine k_seq ?_
    refine k_rg mixed H (.v 33 (.bool (decide (x8 < (a0.L.length : Int)))) <| .nil) fun u10 a w' H => ?_
    replace H := H.kp [1, 30, 31, 32, 33, 128, 129, 130, 999999]
    refine k_seq ?_
    refine k_cond H (by kernel_rfl) (t := decide (x8 < (a0.L.length : Int))) (by kernel_rfl) (fun c42 => ?_) (fun c42 => ?_)
    ·rw [if_pos c42] at G
     refine k_skip ?_
     refine k_seq ?_
     refine k_block ?_
     refine k_seq ?_
     replace G := gd G; obtain ⟨b12, G⟩ := G
     replace G := bnd G; obtain ⟨t13, ht13, G⟩ := G
     refine k_rg mixed H (.v 34 (vI x8) <|
   .cons [35] (ok_valL [128] (fun u11 => [rdl anyF 5 p_a0_L c_a0_L a0.L en_TInstruction]) (fun u11 => .pointer (some ⟨hdB p_a0_L, hdO p_a0_L + x8.toNat * 5, none⟩)) (fun u11 => true) [true, true] 35 (fun u11 w hg hF => ix_row (t := 22) (k := .i64) (i := x8) (p := p_a0_L) (n := a0.L.length) (cap := c_a0_L) (x := a0.L) (en := en_TInstruction) (rdF_of hF.1).2 en_TInstruction_len rfl b12 (by kernel_rfl))) <|
   .cons [36] (ok_valL [128] (fun u11 => [rdl anyF 5 p_a0_L c_a0_L a0.L en_TInstruction]) (fun u11 => .agg #[vI t13.Op, vI t13.A, vI t13.B, vI t13.C.Lo, vI t13.C.Hi]) (fun u11 => true) [true] 36 (fun u11 w hg hF => ld_row (en := en_TInstruction) (rdF_of hF.1).2 en_TInstruction_len ht13 0 5 [vI t13.Op, vI t13.A, vI t13.B, vI t13.C.Lo, vI t13.C.Hi] rfl (by kernel_rfl))) <|
   .cons [4, 131] (ok_new (fun b => vP b 0) (fun u11 => [vI 0, vI 0, vI 0, vI 0, vI 0]) 50 4 131) <|
   .v 3 (vI x8) <|
   .cons [131] (ok_as (u' := fun u11 => [(131, .blk ((u11 3).n 0) [vI t13.Op, vI t13.A, vI t13.B, vI t13.C.Lo, vI t13.C.Hi] 50)]) (ok_store 131 0 (fun u11 => ((u11 3).n 0)) (fun u11 => [vI 0, vI 0, vI 0, vI 0, vI 0]) (fun u11 => [vI t13.Op, vI t13.A, vI t13.B, vI t13.C.Lo, vI t13.C.Hi]) 50) (fun _ => by kernel_rfl)) <| .nil) fun u11 a w' H => ?_
     replace H := H.kp [1, 3, 4, 30, 31, 32, 128, 129, 130, 131, 999999]
     refine k_seq ?_
     replace G := bnd G; obtain ⟨t15, ht15, G⟩ := G
     refine k_rg mixed H (.cons [37] (ok_ld (fun u14 => .agg #[vI t13.Op, vI t13.A, vI t13.B, vI t13.C.Lo, vI t13.C.Hi]) 37 131 0 5 (fun u14 => ((u11 3).n 0)) (fun u14 => [vI t13.Op, vI t13.A, vI t13.B, vI t13.C.Lo, vI t13.C.Hi]) 50) <|
   .v 38 (vP ((u11 3).n 0) 0) <|
   .cons [39] (ok_ld (fun u14 => vI t13.Op) 39 131 0 1 (fun u14 => ((u11 3).n 0)) (fun u14 => [vI t13.Op, vI t13.A, vI t13.B, vI t13.C.Lo, vI t13.C.Hi]) 50) <|
   .cons [40] (ok_callL [999999] (fun u14 => [gk]) 34 (fun u14 => #[vI t13.Op]) (vI t15) 40 (fun u14 w hF => tape_arity.calls k0 t13.Op  t15 w  (glob_of hF.1) ht15)) <|
   .cons [5, 132] (ok_new (fun b => vP b 0) (fun u14 => [vI 0, vI 0, vI 0, vI 0, vI 0]) 50 5 132) <|
   .cons [132] (ok_as (u' := fun u14 => [(132, .blk ((u14 4).n 0) [vI t13.Op, vI t13.A, vI t13.B, vI t13.C.Lo, vI t13.C.Hi] 50)]) (ok_store 132 0 (fun u14 => ((u14 4).n 0)) (fun u14 => [vI 0, vI 0, vI 0, vI 0, vI 0]) (fun u14 => [vI t13.Op, vI t13.A, vI t13.B, vI t13.C.Lo, vI t13.C.Hi]) 50) (fun _ => by kernel_rfl)) <|
   .v 6 (vI t15) <| .nil) fun u14 a w' H => ?_
     replace H := H.kp [1, 3, 4, 5, 6, 30, 31, 32, 128, 129, 130, 131, 132, 999999]
     refine k_seq ?_
     refine k_seq ?_
     replace G := bnd G; obtain ⟨z17, hz17, G⟩ := G
     replace hz17 := Option.some.inj hz17
     refine k_rg mixed H (.v 41 (vI t15) <|
   .v 42 (.bool (decide (t15 < 0))) <|
   .v 43 (.bool (decide (t15 < 0))) <|
   .cons [44] (ok_valg (fun u16 => vI t15) (fun u16 => ((decide (t15 < 0)) == false)) [true] 44) <|
   .cons [45] (ok_valg (fun u16 => .bool (decide (t15 > 0))) (fun u16 => ((decide (t15 < 0)) == false)) [false, true] 45) <|
   .cons [46] (ok_valg (fun u16 => .bool (decide (t15 > 0))) (fun u16 => ((decide (t15 < 0)) == false)) [false] 46) <|
   .cons [47] (ok_valg (fun u16 => vP ((u11 3).n 0) 1) (fun u16 => (((decide (t15 < 0)) == false) && ((decide (t15 > 0)) == true))) [true] 47) <|
   .cons [48] (ok_ldg (fun u16 => vI t13.A) (fun u16 => (((decide (t15 < 0)) == false) && ((decide (t15 > 0)) == true))) [false] 48 131 1 1 (fun u16 => ((u11 3).n 0)) (fun u16 => [vI t13.Op, vI t13.A, vI t13.B, vI t13.C.Lo, vI t13.C.Hi]) 50) <|
   .cons [49] (ok_valg (fun u16 => .bool (decide (t13.A < 0))) (fun u16 => (((decide (t15 < 0)) == false) && ((decide (t15 > 0)) == true))) [false, true] 49) <|
   .cons [50] (ok_valg (fun u16 => .bool (decide (t13.A < 0))) (fun u16 => (((decide (t15 < 0)) == false) && ((decide (t15 > 0)) == true))) [false] 50) <|
   .cons [51] (ok_valg (fun u16 => vP ((u11 3).n 0) 1) (fun u16 => ((((decide (t15 < 0)) == false) && ((decide (t15 > 0)) == true)) && ((decide (t13.A < 0)) == false))) [true] 51) <|
   .cons [52] (ok_ldg (fun u16 => vI t13.A) (fun u16 => ((((decide (t15 < 0)) == false) && ((decide (t15 > 0)) == true)) && ((decide (t13.A < 0)) == false))) [false] 52 131 1 1 (fun u16 => ((u11 3).n 0)) (fun u16 => [vI t13.Op, vI t13.A, vI t13.B, vI t13.C.Lo, vI t13.C.Hi]) 50) <|
   .cons [53] (ok_valg (fun u16 => vI x8) (fun u16 => ((((decide (t15 < 0)) == false) && ((decide (t15 > 0)) == true)) && ((decide (t13.A < 0)) == false))) [true] 53) <|
   .cons [54] (ok_valg (fun u16 => .bool (decide (t13.A ≥ x8))) (fun u16 => ((((decide (t15 < 0)) == false) && ((decide (t15 > 0)) == true)) && ((decide (t13.A < 0)) == false))) [false, false] 54) <|
   .cons [55] (ok_or 50 54 (fun u16 => (((decide (t15 < 0)) == false) && ((decide (t15 > 0)) == true))) (fun u16 => (((decide (t15 < 0)) == false) && ((decide (t15 > 0)) == true))) (fun u16 => decide (t13.A < 0)) (fun u16 => decide (t13.A ≥ x8)) 55) <|
   .cons [56] (ok_and 46 55 (fun u16 => ((decide (t15 < 0)) == false)) (fun u16 => ((decide (t15 < 0)) == false)) (fun u16 => decide (t15 > 0)) (fun u16 => ((decide (t13.A < 0)) || (decide (t13.A ≥ x8)))) 56) <|
   .cons [57] (ok_or 43 56 (fun u16 => true) (fun u16 => true) (fun u16 => decide (t15 < 0)) (fun u16 => ((decide (t15 > 0)) && ((decide (t13.A < 0)) || (decide (t13.A ≥ x8))))) 57) <|
   .cons [58] (ok_as (u' := fun u16 => [(58, sB z17)]) (ok_val (fun u16 => .bool ((decide (t15 < 0)) || ((decide (t15 > 0)) && ((decide (t13.A < 0)) || (decide (t13.A ≥ x8)))))) 58) (fun _ => by rw [← hz17])) <|
   .cons [59] (ok_valg (fun u16 => vI t15) (fun u16 => (z17 == false)) [true] 59) <|
   .cons [60] (ok_valg (fun u16 => .bool (decide (t15 > 1))) (fun u16 => (z17 == false)) [false, true] 60) <|
   .cons [61] (ok_valg (fun u16 => .bool (decide (t15 > 1))) (fun u16 => (z17 == false)) [false] 61) <|
   .cons [62] (ok_valg (fun u16 => vP ((u11 3).n 0) 2) (fun u16 => ((z17 == false) && ((decide (t15 > 1)) == true))) [true] 62) <|
   .cons [63] (ok_ldg (fun u16 => vI t13.B) (fun u16 => ((z17 == false) && ((decide (t15 > 1)) == true))) [false] 63 131 2 1 (fun u16 => ((u11 3).n 0)) (fun u16 => [vI t13.Op, vI t13.A, vI t13.B, vI t13.C.Lo, vI t13.C.Hi]) 50) <|
   .cons [64] (ok_valg (fun u16 => .bool (decide (t13.B < 0))) (fun u16 => ((z17 == false) && ((decide (t15 > 1)) == true))) [false, true] 64) <|
   .cons [65] (ok_valg (fun u16 => .bool (decide (t13.B < 0))) (fun u16 => ((z17 == false) && ((decide (t15 > 1)) == true))) [false] 65) <|
   .cons [66] (ok_valg (fun u16 => vP ((u11 3).n 0) 2) (fun u16 => (((z17 == false) && ((decide (t15 > 1)) == true)) && ((decide (t13.B < 0)) == false))) [true] 66) <|
   .cons [67] (ok_ldg (fun u16 => vI t13.B) (fun u16 => (((z17 == false) && ((decide (t15 > 1)) == true)) && ((decide (t13.B < 0)) == false))) [false] 67 131 2 1 (fun u16 => ((u11 3).n 0)) (fun u16 => [vI t13.Op, vI t13.A, vI t13.B, vI t13.C.Lo, vI t13.C.Hi]) 50) <|
   .cons [68] (ok_valg (fun u16 => vI x8) (fun u16 => (((z17 == false) && ((decide (t15 > 1)) == true)) && ((decide (t13.B < 0)) == false))) [true] 68) <|
   .cons [69] (ok_valg (fun u16 => .bool (decide (t13.B ≥ x8))) (fun u16 => (((z17 == false) && ((decide (t15 > 1)) == true)) && ((decide (t13.B < 0)) == false))) [false, false] 69) <|
   .cons [70] (ok_or 65 69 (fun u16 => ((z17 == false) && ((decide (t15 > 1)) == true))) (fun u16 => ((z17 == false) && ((decide (t15 > 1)) == true))) (fun u16 => decide (t13.B < 0)) (fun u16 => decide (t13.B ≥ x8)) 70) <|
   .cons [71] (ok_and 61 70 (fun u16 => (z17 == false)) (fun u16 => (z17 == false)) (fun u16 => decide (t15 > 1)) (fun u16 => ((decide (t13.B < 0)) || (decide (t13.B ≥ x8)))) 71) <|
   .cons [72] (ok_or 58 71 (fun u16 => true) (fun u16 => true) (fun u16 => z17) (fun u16 => ((decide (t15 > 1)) && ((decide (t13.B < 0)) || (decide (t13.B ≥ x8))))) 72) <| .nil) fun u16 a w' H => ?_
     replace H := H.kp [1, 4, 5, 6, 30, 31, 32, 44, 45, 46, 47, 48, 49, 50, 51, 52, 53, 54, 55, 56, 59, 60, 61, 62, 63, 64, 65, 66, 67, 68, 69, 70, 71, 72, 128, 129, 130, 131, 132, 999999]
     refine k_cond H (by kernel_rfl) (t := (z17 || ((decide (t15 > 1)) && ((decide (t13.B < 0)) || (decide (t13.B ≥ x8)))))) (by kernel_rfl) (fun c41 => ?_) (fun c41 => ?_)
     ·rw [if_pos c41] at G
      refine k_seq ?_
      refine k_rg mixed H (.v 2 (.bool false) <| .nil) fun u18 a w' H => ?_
      replace H := H.kp [2, 999999]
      refine k_ret ?_
      obtain rfl := Option.some.inj G
      replace G := Gj4
      obtain rfl := Option.some.inj G
      exact k_done0 H _ (by kernel_rfl) (by kernel_rfl)
     ·rw [if_neg (nt c41)] at G
      refine k_skip ?_
      refine k_seq ?_
      replace G := bnd G; obtain ⟨j20, hj20, G⟩ := G
      refine k_join (fun a w' => Rep w.heap.size w 128 (ofL [(1, (sP ((u1 0).n 0) 0)), (4, (sP ((u11 3).n 0) 0)), (5, (sP ((u14 4).n 0) 0)), (6, sI t15), (30, sS p_a0_L a0.L.length c_a0_L), (31, (sI (a0.L.length : Int))), (32, sI x8), (128, rdl anyF 5 p_a0_L c_a0_L a0.L en_TInstruction), (129, rdl anyF 1 p_a0_Out c_a0_Out a0.Out en_i64), (130, .blk ((u1 0).n 0) [vI a0.N, .slice p_a0_L a0.L.length c_a0_L, .slice p_a0_Out a0.Out.length c_a0_Out] 25), (131, .blk ((u11 3).n 0) [vI t13.Op, vI t13.A, vI t13.B, vI t13.C.Lo, vI t13.C.Hi] 50), (132, .blk ((u14 4).n 0) [vI t13.Op, vI j20, vI t13.B, vI t13.C.Lo, vI t13.C.Hi] 50), (999999, gk)]) a w') ?_ ?_
      ·clear H; intro a w' H
       refine k_seq ?_
       replace G := bnd G; obtain ⟨j22, hj22, G⟩ := G
       refine k_join (fun a w' => Rep w.heap.size w 128 (ofL [(1, (sP ((u1 0).n 0) 0)), (4, (sP ((u11 3).n 0) 0)), (5, (sP ((u14 4).n 0) 0)), (30, sS p_a0_L a0.L.length c_a0_L), (31, (sI (a0.L.length : Int))), (32, sI x8), (128, rdl anyF 5 p_a0_L c_a0_L a0.L en_TInstruction), (129, rdl anyF 1 p_a0_Out c_a0_Out a0.Out en_i64), (130, .blk ((u1 0).n 0) [vI a0.N, .slice p_a0_L a0.L.length c_a0_L, .slice p_a0_Out a0.Out.length c_a0_Out] 25), (131, .blk ((u11 3).n 0) [vI t13.Op, vI t13.A, vI t13.B, vI t13.C.Lo, vI t13.C.Hi] 50), (132, .blk ((u14 4).n 0) [vI t13.Op, vI j20, vI j22, vI t13.C.Lo, vI t13.C.Hi] 50), (999999, gk)]) a w') ?_ ?_
       ·clear H; intro a w' H
        refine k_seq ?_
        replace G := bnd G; obtain ⟨j25, hj25, G⟩ := G
        refine k_join (fun a w' => Rep w.heap.size w 128 (ofL [(1, (sP ((u1 0).n 0) 0)), (4, (sP ((u11 3).n 0) 0)), (5, (sP ((u14 4).n 0) 0)), (30, sS p_a0_L a0.L.length c_a0_L), (31, (sI (a0.L.length : Int))), (32, sI x8), (128, rdl anyF 5 p_a0_L c_a0_L a0.L en_TInstruction), (129, rdl anyF 1 p_a0_Out c_a0_Out a0.Out en_i64), (130, .blk ((u1 0).n 0) [vI a0.N, .slice p_a0_L a0.L.length c_a0_L, .slice p_a0_Out a0.Out.length c_a0_Out] 25), (131, .blk ((u11 3).n 0) [vI t13.Op, vI t13.A, vI t13.B, vI t13.C.Lo, vI t13.C.Hi] 50), (132, .blk ((u14 4).n 0) [vI t13.Op, vI j20, vI j22, vI j25.1, vI j25.2] 50), (999999, gk)]) a w') ?_ ?_
        ·clear H; intro a w' H
         refine k_seq ?_
         replace G := bnd G; obtain ⟨z27, hz27, G⟩ := G
         replace hz27 := Option.some.inj hz27
         replace G := bnd G; obtain ⟨t28, ht28, G⟩ := G
         refine k_rg mixed H (.cons [89] (ok_ld (fun u26 => .agg #[vI t13.Op, vI j20, vI j22, vI j25.1, vI j25.2]) 89 132 0 5 (fun u26 => ((u14 4).n 0)) (fun u26 => [vI t13.Op, vI j20, vI j22, vI j25.1, vI j25.2]) 50) <|
   .v 90 (vP ((u11 3).n 0) 0) <|
   .cons [91] (ok_ld (fun u26 => vI t13.Op) 91 131 0 1 (fun u26 => ((u11 3).n 0)) (fun u26 => [vI t13.Op, vI t13.A, vI t13.B, vI t13.C.Lo, vI t13.C.Hi]) 50) <|
   .v 92 (.agg #[vI t13.Op, vI 0, vI 0, vI 0, vI 0]) <|
   .cons [93] (ok_as (u' := fun u26 => [(93, sB z27)]) (ok_val (fun u26 => .bool (!((t13.Op == t13.Op) && ((j20 == 0) && ((j22 == 0) && (((j25.1 == 0) && ((j25.2 == 0) && true)) && true)))))) 93 (hv := fun _ _ => run_of (by kernel_rfl) (run_neq_agg (t := 50) (x := (.tmp 89)) (y := (.tmp 92)) (xs := #[vI t13.Op, vI j20, vI j22, vI j25.1, vI j25.2]) (ys := #[vI t13.Op, vI 0, vI 0, vI 0, vI 0]) (b := ((t13.Op == t13.Op) && ((j20 == 0) && ((j22 == 0) && (((j25.1 == 0) && ((j25.2 == 0) && true)) && true))))) (by kernel_rfl) (by kernel_rfl)))) (fun _ => by rw [← hz27])) <|
   .v 94 (.bool z27) <|
   .cons [95] (ok_valg (fun u26 => vP ((u11 3).n 0) 0) (fun u26 => (z27 == false)) [true] 95) <|
   .cons [96] (ok_ldg (fun u26 => vI t13.Op) (fun u26 => (z27 == false)) [false] 96 131 0 1 (fun u26 => ((u11 3).n 0)) (fun u26 => [vI t13.Op, vI t13.A, vI t13.B, vI t13.C.Lo, vI t13.C.Hi]) 50) <|
   .cons [97] (ok_valg (fun u26 => .bool (t13.Op == 1)) (fun u26 => (z27 == false)) [false, true] 97) <|
   .cons [98] (ok_valg (fun u26 => .bool (t13.Op == 1)) (fun u26 => (z27 == false)) [false] 98) <|
   .cons [99] (ok_valg (fun u26 => vP ((u11 3).n 0) 3) (fun u26 => ((z27 == false) && ((t13.Op == 1) == true))) [true] 99) <|
   .cons [100] (ok_ldg (fun u26 => .agg #[vI t13.C.Lo, vI t13.C.Hi]) (fun u26 => ((z27 == false) && ((t13.Op == 1) == true))) [false] 100 131 3 2 (fun u26 => ((u11 3).n 0)) (fun u26 => [vI t13.Op, vI t13.A, vI t13.B, vI t13.C.Lo, vI t13.C.Hi]) 50) <|
   .cons [101] (ok_call 38 (fun u26 => #[.agg #[vI t13.C.Lo, vI t13.C.Hi]]) (.bool t28) (fun u26 => ((z27 == false) && ((t13.Op == 1) == true))) [true, false] 101 [] (fun u26 w hg _ => interval_Valid.calls (⟨t13.C.Lo, t13.C.Hi⟩ : TInterval)  t28 w  (ifp ht28 hg))) <|
   .cons [102] (ok_valg (fun u26 => .bool (!t28)) (fun u26 => ((z27 == false) && ((t13.Op == 1) == true))) [false] 102) <|
   .cons [103] (ok_and 98 102 (fun u26 => (z27 == false)) (fun u26 => (z27 == false)) (fun u26 => (t13.Op == 1)) (fun u26 => (!t28)) 103) <|
   .cons [104] (ok_or 94 103 (fun u26 => true) (fun u26 => true) (fun u26 => z27) (fun u26 => ((t13.Op == 1) && (!t28))) 104) <|
   .v 105 (.bool (z27 || ((t13.Op == 1) && (!t28)))) <|
   .cons [106] (ok_valg (fun u26 => vP ((u11 3).n 0) 0) (fun u26 => ((z27 || ((t13.Op == 1) && (!t28))) == false)) [true] 106) <|
   .cons [107] (ok_ldg (fun u26 => vI t13.Op) (fun u26 => ((z27 || ((t13.Op == 1) && (!t28))) == false)) [false] 107 131 0 1 (fun u26 => ((u11 3).n 0)) (fun u26 => [vI t13.Op, vI t13.A, vI t13.B, vI t13.C.Lo, vI t13.C.Hi]) 50) <|
   .cons [108] (ok_valg (fun u26 => .bool (t13.Op == 2)) (fun u26 => ((z27 || ((t13.Op == 1) && (!t28))) == false)) [false, true] 108) <|
   .cons [109] (ok_valg (fun u26 => .bool (t13.Op == 2)) (fun u26 => ((z27 || ((t13.Op == 1) && (!t28))) == false)) [false] 109) <|
   .cons [110] (ok_valg (fun u26 => vP ((u11 3).n 0) 1) (fun u26 => (((z27 || ((t13.Op == 1) && (!t28))) == false) && ((t13.Op == 2) == true))) [true] 110) <|
   .cons [111] (ok_ldg (fun u26 => vI t13.A) (fun u26 => (((z27 || ((t13.Op == 1) && (!t28))) == false) && ((t13.Op == 2) == true))) [false] 111 131 1 1 (fun u26 => ((u11 3).n 0)) (fun u26 => [vI t13.Op, vI t13.A, vI t13.B, vI t13.C.Lo, vI t13.C.Hi]) 50) <|
   .cons [112] (ok_valg (fun u26 => .bool (decide (t13.A < 0))) (fun u26 => (((z27 || ((t13.Op == 1) && (!t28))) == false) && ((t13.Op == 2) == true))) [false, true] 112) <|
   .cons [113] (ok_valg (fun u26 => .bool (decide (t13.A < 0))) (fun u26 => (((z27 || ((t13.Op == 1) && (!t28))) == false) && ((t13.Op == 2) == true))) [false] 113) <|
   .cons [114] (ok_valg (fun u26 => vP ((u11 3).n 0) 1) (fun u26 => ((((z27 || ((t13.Op == 1) && (!t28))) == false) && ((t13.Op == 2) == true)) && ((decide (t13.A < 0)) == false))) [true] 114) <|
   .cons [115] (ok_ldg (fun u26 => vI t13.A) (fun u26 => ((((z27 || ((t13.Op == 1) && (!t28))) == false) && ((t13.Op == 2) == true)) && ((decide (t13.A < 0)) == false))) [false] 115 131 1 1 (fun u26 => ((u11 3).n 0)) (fun u26 => [vI t13.Op, vI t13.A, vI t13.B, vI t13.C.Lo, vI t13.C.Hi]) 50) <|
   .cons [116] (ok_valg (fun u26 => vP ((u1 0).n 0) 0) (fun u26 => ((((z27 || ((t13.Op == 1) && (!t28))) == false) && ((t13.Op == 2) == true)) && ((decide (t13.A < 0)) == false))) [true] 116) <|
   .cons [117] (ok_ldg (fun u26 => vI a0.N) (fun u26 => ((((z27 || ((t13.Op == 1) && (!t28))) == false) && ((t13.Op == 2) == true)) && ((decide (t13.A < 0)) == false))) [false] 117 130 0 1 (fun u26 => ((u1 0).n 0)) (fun u26 => [vI a0.N, .slice p_a0_L a0.L.length c_a0_L, .slice p_a0_Out a0.Out.length c_a0_Out]) 25) <|
   .cons [118] (ok_valg (fun u26 => .bool (decide (t13.A ≥ a0.N))) (fun u26 => ((((z27 || ((t13.Op == 1) && (!t28))) == false) && ((t13.Op == 2) == true)) && ((decide (t13.A < 0)) == false))) [false, false] 118) <|
   .cons [119] (ok_or 113 118 (fun u26 => (((z27 || ((t13.Op == 1) && (!t28))) == false) && ((t13.Op == 2) == true))) (fun u26 => (((z27 || ((t13.Op == 1) && (!t28))) == false) && ((t13.Op == 2) == true))) (fun u26 => decide (t13.A < 0)) (fun u26 => decide (t13.A ≥ a0.N)) 119) <|
   .cons [120] (ok_and 109 119 (fun u26 => ((z27 || ((t13.Op == 1) && (!t28))) == false)) (fun u26 => ((z27 || ((t13.Op == 1) && (!t28))) == false)) (fun u26 => (t13.Op == 2)) (fun u26 => ((decide (t13.A < 0)) || (decide (t13.A ≥ a0.N)))) 120) <|
   .cons [121] (ok_or 105 120 (fun u26 => true) (fun u26 => true) (fun u26 => (z27 || ((t13.Op == 1) && (!t28)))) (fun u26 => ((t13.Op == 2) && ((decide (t13.A < 0)) || (decide (t13.A ≥ a0.N))))) 121) <| .nil) fun u26 a w' H => ?_
         replace H := H.kp [1, 30, 31, 32, 95, 96, 97, 98, 99, 100, 101, 102, 103, 106, 107, 108, 109, 110, 111, 112, 113, 114, 115, 116, 117, 118, 119, 120, 121, 128, 129, 130, 131, 999999]
         refine k_cond H (by kernel_rfl) (t := ((z27 || ((t13.Op == 1) && (!t28))) || ((t13.Op == 2) && ((decide (t13.A < 0)) || (decide (t13.A ≥ a0.N)))))) (by kernel_rfl) (fun c31 => ?_) (fun c31 => ?_)
         ·rw [if_pos c31] at G
          refine k_seq ?_
          refine k_rg mixed H (.v 2 (.bool false) <| .nil) fun u29 a w' H => ?_
          replace H := H.kp [2, 999999]
          refine k_ret ?_
          obtain rfl := Option.some.inj G
          replace G := Gj4
          obtain rfl := Option.some.inj G
          exact k_done0 H _ (by kernel_rfl) (by kernel_rfl)
         ·rw [if_neg (nt c31)] at G
          refine k_skip ?_
          refine k_rg mixed H (.v 122 (vI (w_i64 (x8 + 1))) <|
   .v 32 (vI (w_i64 (x8 + 1))) <| .nil) fun u30 a w' H => ?_
          replace H := H.kp [1, 30, 31, 32, 95, 96, 97, 98, 99, 100, 101, 102, 103, 106, 107, 108, 109, 110, 111, 112, 113, 114, 115, 116, 117, 118, 119, 120, 128, 129, 130, 131, 999999]
          exact ⟨k, Nat.lt_succ_self k, _, G, H.toL _ (by kernel_rfl)⟩
        ·clear G; replace G := hj25; clear hj25
         refine k_seq ?_
         refine k_rg mixed H (.v 84 (vP ((u11 3).n 0) 0) <|
   .cons [85] (ok_ld (fun u32 => vI t13.Op) 85 131 0 1 (fun u32 => ((u11 3).n 0)) (fun u32 => [vI t13.Op, vI t13.A, vI t13.B, vI t13.C.Lo, vI t13.C.Hi]) 50) <|
   .v 86 (.bool (t13.Op == 1)) <| .nil) fun u32 a w' H => ?_
         replace H := H.kp [1, 4, 5, 30, 31, 32, 86, 128, 129, 130, 131, 132, 999999]
         refine k_cond H (by kernel_rfl) (t := (t13.Op == 1)) (by kernel_rfl) (fun c34 => ?_) (fun c34 => ?_)
         ·rw [if_pos c34] at G
          refine k_rg mixed H (.v 87 (.agg #[vI 0, vI 0]) <|
   .v 88 (vP ((u14 4).n 0) 3) <|
   .cons [132] (ok_as (u' := fun u33 => [(132, .blk ((u14 4).n 0) [vI t13.Op, vI j20, vI j22, vI 0, vI 0] 50)]) (ok_store 132 3 (fun u33 => ((u14 4).n 0)) (fun u33 => [vI t13.Op, vI j20, vI j22, vI t13.C.Lo, vI t13.C.Hi]) (fun u33 => [vI 0, vI 0]) 50) (fun _ => by kernel_rfl)) <| .nil) fun u33 a w' H => ?_
          replace H := H.kp [1, 4, 5, 30, 31, 32, 128, 129, 130, 131, 132, 999999]
          obtain rfl := Option.some.inj G
          exact H.toL _ (by kernel_rfl)
         ·rw [if_neg (nt c34)] at G
          refine k_skip ?_
          obtain rfl := Option.some.inj G
          exact H.toL _ (by kernel_rfl)
       ·clear G; replace G := hj22; clear hj22
        refine k_seq ?_
        refine k_rg mixed H (.v 81 (vI t15) <|
   .v 82 (.bool (decide (t15 > 1))) <| .nil) fun u35 a w' H => ?_
        replace H := H.kp [1, 4, 5, 30, 31, 32, 82, 128, 129, 130, 131, 132, 999999]
        refine k_cond H (by kernel_rfl) (t := decide (t15 > 1)) (by kernel_rfl) (fun c37 => ?_) (fun c37 => ?_)
        ·rw [if_pos c37] at G
         refine k_rg mixed H (.v 83 (vP ((u14 4).n 0) 2) <|
   .cons [132] (ok_as (u' := fun u36 => [(132, .blk ((u14 4).n 0) [vI t13.Op, vI j20, vI 0, vI t13.C.Lo, vI t13.C.Hi] 50)]) (ok_store 132 2 (fun u36 => ((u14 4).n 0)) (fun u36 => [vI t13.Op, vI j20, vI t13.B, vI t13.C.Lo, vI t13.C.Hi]) (fun u36 => [vI 0]) 50) (fun _ => by kernel_rfl)) <| .nil) fun u36 a w' H => ?_
         replace H := H.kp [1, 4, 5, 30, 31, 32, 128, 129, 130, 131, 132, 999999]
         obtain rfl := Option.some.inj G
         exact H.toL _ (by kernel_rfl)
        ·rw [if_neg (nt c37)] at G
         refine k_skip ?_
         obtain rfl := Option.some.inj G
         exact H.toL _ (by kernel_rfl)
      ·clear G; replace G := hj20; clear hj20
       refine k_seq ?_
       refine k_rg mixed H (.v 73 (vI t15) <|
   .v 74 (.bool (decide (t15 > 0))) <|
   .v 75 (.bool (decide (t15 > 0))) <|
   .cons [76] (ok_valg (fun u38 => vP ((u11 3).n 0) 0) (fun u38 => ((decide (t15 > 0)) == false)) [true] 76) <|
   .cons [77] (ok_ldg (fun u38 => vI t13.Op) (fun u38 => ((decide (t15 > 0)) == false)) [false] 77 131 0 1 (fun u38 => ((u11 3).n 0)) (fun u38 => [vI t13.Op, vI t13.A, vI t13.B, vI t13.C.Lo, vI t13.C.Hi]) 50) <|
   .cons [78] (ok_valg (fun u38 => .bool (t13.Op == 2)) (fun u38 => ((decide (t15 > 0)) == false)) [false, true] 78) <|
   .cons [79] (ok_or 75 78 (fun u38 => true) (fun u38 => true) (fun u38 => decide (t15 > 0)) (fun u38 => (t13.Op == 2)) 79) <| .nil) fun u38 a w' H => ?_
       replace H := H.kp [1, 4, 5, 6, 30, 31, 32, 44, 45, 46, 47, 48, 49, 50, 51, 52, 53, 54, 55, 56, 59, 60, 61, 62, 63, 64, 65, 66, 67, 68, 69, 70, 71, 76, 77, 78, 79, 128, 129, 130, 131, 132, 999999]
       refine k_cond H (by kernel_rfl) (t := ((decide (t15 > 0)) || (t13.Op == 2))) (by kernel_rfl) (fun c40 => ?_) (fun c40 => ?_)
       ·rw [if_pos c40] at G
        refine k_rg mixed H (.v 80 (vP ((u14 4).n 0) 1) <|
   .cons [132] (ok_as (u' := fun u39 => [(132, .blk ((u14 4).n 0) [vI t13.Op, vI 0, vI t13.B, vI t13.C.Lo, vI t13.C.Hi] 50)]) (ok_store 132 1 (fun u39 => ((u14 4).n 0)) (fun u39 => [vI t13.Op, vI t13.A, vI t13.B, vI t13.C.Lo, vI t13.C.Hi]) (fun u39 => [vI 0]) 50) (fun _ => by kernel_rfl)) <| .nil) fun u39 a w' H => ?_
        replace H := H.toM [(1, (sP ((u1 0).n 0) 0)), (4, (sP ((u11 3).n 0) 0)), (5, (sP ((u14 4).n 0) 0)), (6, sI t15), (30, sS p_a0_L a0.L.length c_a0_L), (31, (sI (a0.L.length : Int))), (32, sI x8), (44, .slot ((decide (t15 < 0)) == false) (vI t15)), (45, .slot ((decide (t15 < 0)) == false) (.bool (decide (t15 > 0)))), (46, .slot ((decide (t15 < 0)) == false) (.bool (decide (t15 > 0)))), (47, .slot (((decide (t15 < 0)) == false) && ((decide (t15 > 0)) == true)) (vP ((u11 3).n 0) 1)), (48, .slot (((decide (t15 < 0)) == false) && ((decide (t15 > 0)) == true)) (vI t13.A)), (49, .slot (((decide (t15 < 0)) == false) && ((decide (t15 > 0)) == true)) (.bool (decide (t13.A < 0)))), (50, .slot (((decide (t15 < 0)) == false) && ((decide (t15 > 0)) == true)) (.bool (decide (t13.A < 0)))), (51, .slot ((((decide (t15 < 0)) == false) && ((decide (t15 > 0)) == true)) && ((decide (t13.A < 0)) == false)) (vP ((u11 3).n 0) 1)), (52, .slot ((((decide (t15 < 0)) == false) && ((decide (t15 > 0)) == true)) && ((decide (t13.A < 0)) == false)) (vI t13.A)), (53, .slot ((((decide (t15 < 0)) == false) && ((decide (t15 > 0)) == true)) && ((decide (t13.A < 0)) == false)) (vI x8)), (54, .slot ((((decide (t15 < 0)) == false) && ((decide (t15 > 0)) == true)) && ((decide (t13.A < 0)) == false)) (.bool (decide (t13.A ≥ x8)))), (55, .slot (((decide (t15 < 0)) == false) && ((decide (t15 > 0)) == true)) (.bool ((decide (t13.A < 0)) || (decide (t13.A ≥ x8))))), (56, .slot ((decide (t15 < 0)) == false) (.bool ((decide (t15 > 0)) && ((decide (t13.A < 0)) || (decide (t13.A ≥ x8)))))), (59, .slot (z17 == false) (vI t15)), (60, .slot (z17 == false) (.bool (decide (t15 > 1)))), (61, .slot (z17 == false) (.bool (decide (t15 > 1)))), (62, .slot ((z17 == false) && ((decide (t15 > 1)) == true)) (vP ((u11 3).n 0) 2)), (63, .slot ((z17 == false) && ((decide (t15 > 1)) == true)) (vI t13.B)), (64, .slot ((z17 == false) && ((decide (t15 > 1)) == true)) (.bool (decide (t13.B < 0)))), (65, .slot ((z17 == false) && ((decide (t15 > 1)) == true)) (.bool (decide (t13.B < 0)))), (66, .slot (((z17 == false) && ((decide (t15 > 1)) == true)) && ((decide (t13.B < 0)) == false)) (vP ((u11 3).n 0) 2)), (67, .slot (((z17 == false) && ((decide (t15 > 1)) == true)) && ((decide (t13.B < 0)) == false)) (vI t13.B)), (68, .slot (((z17 == false) && ((decide (t15 > 1)) == true)) && ((decide (t13.B < 0)) == false)) (vI x8)), (69, .slot (((z17 == false) && ((decide (t15 > 1)) == true)) && ((decide (t13.B < 0)) == false)) (.bool (decide (t13.B ≥ x8)))), (70, .slot ((z17 == false) && ((decide (t15 > 1)) == true)) (.bool ((decide (t13.B < 0)) || (decide (t13.B ≥ x8))))), (71, .slot (z17 == false) (.bool ((decide (t15 > 1)) && ((decide (t13.B < 0)) || (decide (t13.B ≥ x8)))))), (76, .slot ((decide (t15 > 0)) == false) (vP ((u11 3).n 0) 0)), (77, .slot ((decide (t15 > 0)) == false) (vI t13.Op)), (78, .slot ((decide (t15 > 0)) == false) (.bool (t13.Op == 2))), (128, rdl anyF 5 p_a0_L c_a0_L a0.L en_TInstruction), (129, rdl anyF 1 p_a0_Out c_a0_Out a0.Out en_i64), (130, .blk ((u1 0).n 0) [vI a0.N, .slice p_a0_L a0.L.length c_a0_L, .slice p_a0_Out a0.Out.length c_a0_Out] 25), (131, .blk ((u11 3).n 0) [vI t13.Op, vI t13.A, vI t13.B, vI t13.C.Lo, vI t13.C.Hi] 50), (132, .blk ((u14 4).n 0) [vI t13.Op, vI 0, vI t13.B, vI t13.C.Lo, vI t13.C.Hi] 50), (999999, gk)]
        obtain rfl := Option.some.inj G
        exact H.toL _ (by kernel_rfl)
       ·rw [if_neg (nt c40)] at G
        refine k_skip ?_
        obtain rfl := Option.some.inj G
        exact H.toL _ (by kernel_rfl)
    ·rw [if_neg (nt c42)] at G
     refine k_exit rfl ?_
     obtain rfl := Option.some.inj G
     exact ⟨_, rfl, H.toL _ (by kernel_rfl)⟩
set_option maxHeartbeats 4000000 in
theorem armillarylaw08_one.calls (r : TInstruction) (w : World) (G : armillarylaw08_one = some r) :
  Calls Tryd.prog 20 #[] w fun e w' => e = .returned (.agg #[vI r.Op, vI r.A, vI r.B, vI r.C.Lo, vI r.C.Hi]) ∧ Below w.heap.size w w' := by
 refine k_enter (args := []) 3 Tryd.func20 rfl (by kernel_rfl) (by kernel_rfl) fun a H => ?_
 unfold armillarylaw08_one at G
 refine k_seq ?_
 refine k_rg mixed H (.cons [0, 3] (ok_new (fun b => vP b 0) (fun u1 => [vI 0, vI 0, vI 0, vI 0, vI 0]) 50 0 3) <| .nil) fun u1 a w' H => ?_
 replace H := H.kp [0, 3]
 refine k_seq ?_
 replace G := bnd G; obtain ⟨t3, ht3, G⟩ := G
 refine k_rg mixed H (.cons [1] (ok_callv 15 (fun u2 => #[vI 65536]) (.agg #[vI t3.Lo, vI t3.Hi]) 1 [] (fun u2 w _ => armillaryref02_Point.calls 65536  t3 w  ht3)) <|
   .v 2 (.agg #[vI 1, vI 0, vI 0, vI t3.Lo, vI t3.Hi]) <|
   .cons [3] (ok_as (u' := fun u2 => [(3, .blk ((u1 0).n 0) [vI 1, vI 0, vI 0, vI t3.Lo, vI t3.Hi] 50)]) (ok_store 3 0 (fun u2 => ((u1 0).n 0)) (fun u2 => [vI 0, vI 0, vI 0, vI 0, vI 0]) (fun u2 => [vI 1, vI 0, vI 0, vI t3.Lo, vI t3.Hi]) 50) (fun _ => by kernel_rfl)) <| .nil) fun u2 a w' H => ?_
 replace H := H.kp [0, 3]
 refine k_ret ?_
 obtain rfl := Option.some.inj G
 exact k_done1 H _ 3 ((u1 0).n 0) [vI 1, vI 0, vI 0, vI t3.Lo, vI t3.Hi] 50 0 5 (by kernel_rfl) (by kernel_rfl) (by kernel_rfl) (by kernel_rfl)
set_option maxHeartbeats 4000000 in
theorem armillarylaw08_num.calls (a0 : Int) (r : TNode) (w : World) (G : armillarylaw08_num a0 = some r) :
  Calls Tryd.prog 21 #[vI a0] w fun e w' => e = .returned (.agg #[vI r.Op, vI r.N, vI r.C.Lo, vI r.C.Hi]) ∧ Below w.heap.size w w' := by
 refine k_enter (args := [vI a0]) 7 Tryd.func21 rfl (by kernel_rfl) (by kernel_rfl) fun a H => ?_
 unfold armillarylaw08_num at G
 refine k_seq ?_
 refine k_rg mixed H (.cons [2, 7] (ok_new (fun b => vP b 0) (fun u1 => [vI 0, vI 0, vI 0, vI 0]) 47 2 7) <| .nil) fun u1 a w' H => ?_
 replace H := H.kp [0, 2, 7]
 refine k_seq ?_
 replace G := bnd G; obtain ⟨t3, ht3, G⟩ := G
 refine k_rg mixed H (.v 3 (vI a0) <|
   .v 4 (vI (w_i64 (a0 * 65536))) <|
   .cons [5] (ok_callv 15 (fun u2 => #[vI (w_i64 (a0 * 65536))]) (.agg #[vI t3.Lo, vI t3.Hi]) 5 [] (fun u2 w _ => armillaryref02_Point.calls (w_i64 (a0 * 65536))  t3 w  ht3)) <|
   .v 6 (.agg #[vI 1, vI 0, vI t3.Lo, vI t3.Hi]) <|
   .cons [7] (ok_as (u' := fun u2 => [(7, .blk ((u1 0).n 0) [vI 1, vI 0, vI t3.Lo, vI t3.Hi] 47)]) (ok_store 7 0 (fun u2 => ((u1 0).n 0)) (fun u2 => [vI 0, vI 0, vI 0, vI 0]) (fun u2 => [vI 1, vI 0, vI t3.Lo, vI t3.Hi]) 47) (fun _ => by kernel_rfl)) <| .nil) fun u2 a w' H => ?_
 replace H := H.kp [2, 7]
 refine k_ret ?_
 obtain rfl := Option.some.inj G
 exact k_done1 H _ 7 ((u1 0).n 0) [vI 1, vI 0, vI t3.Lo, vI t3.Hi] 47 0 4 (by kernel_rfl) (by kernel_rfl) (by kernel_rfl) (by kernel_rfl)
set_option maxHeartbeats 4000000 in
theorem armillarylaw08_sanity.calls (k0 : Nat)  (r : Bool) (w : World) (hg : Glob w) (G : armillarylaw08_sanity k0 = some r) :
  Calls Tryd.prog 4 #[] w fun e w' => e = .returned (.bool r) ∧ Below w.heap.size w w' := by
 obtain ⟨fr, hfr⟩ : ∃ fr : Nat → Prop, ∀ j, fr j := ⟨fun _ => True, fun _ => trivial⟩
 have hBf : ∀ j, w.heap.size ≤ j → fr j := fun j _ => hfr j
 refine k_enterG (args := []) 135 999999 globFp Glob (glob_local hg) (glob_in hg) Tryd.func4 rfl (by kernel_rfl) (by kernel_rfl) fun a H => ?_
 unfold armillarylaw08_sanity at G
 refine k_seq ?_
 refine k_rg mixed H (.v 0 (.bool false) <| .nil) fun u1 a w' H => ?_
 replace H := H.kp [999999]
 refine k_seq ?_
 refine k_rg mixed H (.v 9 (.agg #[vI 2, vI 1, vI 0, vI 0]) <|
   .cons [1, 135] (ok_new (fun b => vP b 0) (fun u2 => [vI 0, vI 0, vI 0, vI 0]) 47 1 135) <|
   .cons [135] (ok_as (u' := fun u2 => [(135, .blk ((u2 1).n 0) [vI 2, vI 1, vI 0, vI 0] 47)]) (ok_store 135 0 (fun u2 => ((u2 1).n 0)) (fun u2 => [vI 0, vI 0, vI 0, vI 0]) (fun u2 => [vI 2, vI 1, vI 0, vI 0]) 47) (fun _ => by kernel_rfl)) <| .nil) fun u2 a w' H => ?_
 replace H := H.kp [1, 135, 999999]
 refine k_seq ?_
 refine k_rg mixed H (.cons [10, 136] (ok_new (fun b => .slice (some ⟨b, 0, none⟩) 2 2) (fun u3 => [.string (⟨#[120]⟩ : ByteArray), .string (⟨#[121]⟩ : ByteArray)]) 9 10 136) <|
   .v 11 (.agg #[vI 9, vI 0, vI 0, vI 0]) <|
   .cons [12] (ok_ld (fun u3 => .agg #[vI 2, vI 1, vI 0, vI 0]) 12 135 0 4 (fun u3 => ((u2 1).n 0)) (fun u3 => [vI 2, vI 1, vI 0, vI 0]) 47) <|
   .cons [13] (ok_ld (fun u3 => .agg #[vI 2, vI 1, vI 0, vI 0]) 13 135 0 4 (fun u3 => ((u2 1).n 0)) (fun u3 => [vI 2, vI 1, vI 0, vI 0]) 47) <|
   .cons [14, 137] (ok_new (fun b => .slice (some ⟨b, 0, none⟩) 3 3) (fun u3 => [vI 9, vI 0, vI 0, vI 0, vI 2, vI 1, vI 0, vI 0, vI 2, vI 1, vI 0, vI 0]) 47 14 137) <|
   .v 15 (.agg #[vI 7, vI 0, vI 0, vI 0]) <|
   .v 16 (.agg #[vI 9, vI 0, vI 0, vI 0]) <|
   .cons [17] (ok_ld (fun u3 => .agg #[vI 2, vI 1, vI 0, vI 0]) 17 135 0 4 (fun u3 => ((u2 1).n 0)) (fun u3 => [vI 2, vI 1, vI 0, vI 0]) 47) <|
   .cons [18] (ok_ld (fun u3 => .agg #[vI 2, vI 1, vI 0, vI 0]) 18 135 0 4 (fun u3 => ((u2 1).n 0)) (fun u3 => [vI 2, vI 1, vI 0, vI 0]) 47) <|
   .v 19 (.agg #[vI 3, vI 0, vI 0, vI 0]) <|
   .cons [20, 138] (ok_new (fun b => .slice (some ⟨b, 0, none⟩) 5 5) (fun u3 => [vI 7, vI 0, vI 0, vI 0, vI 9, vI 0, vI 0, vI 0, vI 2, vI 1, vI 0, vI 0, vI 2, vI 1, vI 0, vI 0, vI 3, vI 0, vI 0, vI 0]) 47 20 138) <|
   .cons [21, 139] (ok_new (fun b => .slice (some ⟨b, 0, none⟩) 2 2) (fun u3 => [.slice (some ⟨((u3 4).n 0), 0, none⟩) 3 3, .slice (some ⟨((u3 10).n 0), 0, none⟩) 5 5]) 48 21 139) <|
   .cons [22] (ok_val (fun u3 => .agg #[.slice (some ⟨((u3 0).n 0), 0, none⟩) 2 2, .slice (some ⟨((u3 11).n 0), 0, none⟩) 2 2]) 22) <|
   .cons [2, 140] (ok_new (fun b => vP b 0) (fun u3 => [.slice none 0 0, .slice none 0 0]) 38 2 140) <|
   .cons [140] (ok_as (u' := fun u3 => [(140, .blk ((u3 13).n 0) [.slice (some ⟨((u3 0).n 0), 0, none⟩) 2 2, .slice (some ⟨((u3 11).n 0), 0, none⟩) 2 2] 38)]) (ok_store 140 0 (fun u3 => ((u3 13).n 0)) (fun u3 => [.slice none 0 0, .slice none 0 0]) (fun u3 => [.slice (some ⟨((u3 0).n 0), 0, none⟩) 2 2, .slice (some ⟨((u3 11).n 0), 0, none⟩) 2 2]) 38) (fun _ => by kernel_rfl)) <| .nil) fun u3 a w' H => ?_
 replace H := H.kp [2, 136, 137, 138, 139, 140, 999999]
 refine k_seq ?_
 replace H := H.blk_row 136 ((u3 0).n 0) [.string (⟨#[120]⟩ : ByteArray), .string (⟨#[121]⟩ : ByteArray)] 9 1 2 (by kernel_rfl) (by kernel_rfl) (by decide)
 replace H := H.blk_row 137 ((u3 4).n 0) [vI 9, vI 0, vI 0, vI 0, vI 2, vI 1, vI 0, vI 0, vI 2, vI 1, vI 0, vI 0] 47 4 3 (by kernel_rfl) (by kernel_rfl) (by decide)
 replace H := H.blk_row 138 ((u3 10).n 0) [vI 7, vI 0, vI 0, vI 0, vI 9, vI 0, vI 0, vI 0, vI 2, vI 1, vI 0, vI 0, vI 2, vI 1, vI 0, vI 0, vI 3, vI 0, vI 0, vI 0] 47 4 5 (by kernel_rfl) (by kernel_rfl) (by decide)
 replace H := H.blk_row 139 ((u3 11).n 0) [.slice (some ⟨((u3 4).n 0), 0, none⟩) 3 3, .slice (some ⟨((u3 10).n 0), 0, none⟩) 5 5] 48 1 2 (by kernel_rfl) (by kernel_rfl) (by decide)
 replace H := H.demote fr 137 47 4 (some ⟨((u3 4).n 0), 0, none⟩) 3 3 (([(⟨9, 0, (⟨0, 0⟩ : TInterval)⟩ : TNode), (⟨2, 1, (⟨0, 0⟩ : TInterval)⟩ : TNode), (⟨2, 1, (⟨0, 0⟩ : TInterval)⟩ : TNode)] : List TNode).flatMap en_TNode) (by kernel_rfl) (by decide) hBf
 replace H := H.demote fr 138 47 4 (some ⟨((u3 10).n 0), 0, none⟩) 5 5 (([(⟨7, 0, (⟨0, 0⟩ : TInterval)⟩ : TNode), (⟨9, 0, (⟨0, 0⟩ : TInterval)⟩ : TNode), (⟨2, 1, (⟨0, 0⟩ : TInterval)⟩ : TNode), (⟨2, 1, (⟨0, 0⟩ : TInterval)⟩ : TNode), (⟨3, 0, (⟨0, 0⟩ : TInterval)⟩ : TNode)] : List TNode).flatMap en_TNode) (by kernel_rfl) (by decide) hBf
 replace H := H.addF 141 (dnK fr E_S_TNode.toPart ([⟨(some ⟨((u3 4).n 0), 0, none⟩), 3, ([(⟨9, 0, (⟨0, 0⟩ : TInterval)⟩ : TNode), (⟨2, 1, (⟨0, 0⟩ : TInterval)⟩ : TNode), (⟨2, 1, (⟨0, 0⟩ : TInterval)⟩ : TNode)] : List TNode)⟩, ⟨(some ⟨((u3 10).n 0), 0, none⟩), 5, ([(⟨7, 0, (⟨0, 0⟩ : TInterval)⟩ : TNode), (⟨9, 0, (⟨0, 0⟩ : TInterval)⟩ : TNode), (⟨2, 1, (⟨0, 0⟩ : TInterval)⟩ : TNode), (⟨2, 1, (⟨0, 0⟩ : TInterval)⟩ : TNode), (⟨3, 0, (⟨0, 0⟩ : TInterval)⟩ : TNode)] : List TNode)⟩] : List (Sl TNode))) [137, 138] [rdF fr 4 (some ⟨((u3 4).n 0), 0, none⟩) 3 3 (([(⟨9, 0, (⟨0, 0⟩ : TInterval)⟩ : TNode), (⟨2, 1, (⟨0, 0⟩ : TInterval)⟩ : TNode), (⟨2, 1, (⟨0, 0⟩ : TInterval)⟩ : TNode)] : List TNode).flatMap en_TNode), rdF fr 4 (some ⟨((u3 10).n 0), 0, none⟩) 5 5 (([(⟨7, 0, (⟨0, 0⟩ : TInterval)⟩ : TNode), (⟨9, 0, (⟨0, 0⟩ : TInterval)⟩ : TNode), (⟨2, 1, (⟨0, 0⟩ : TInterval)⟩ : TNode), (⟨2, 1, (⟨0, 0⟩ : TInterval)⟩ : TNode), (⟨3, 0, (⟨0, 0⟩ : TInterval)⟩ : TNode)] : List TNode).flatMap en_TNode)] (by kernel_rfl) (fun h => h) (by intro _ _ h; cases h) (fun hF => dn_holds (E := E_S_TNode.toPart) (L := ([⟨(some ⟨((u3 4).n 0), 0, none⟩), 3, ([(⟨9, 0, (⟨0, 0⟩ : TInterval)⟩ : TNode), (⟨2, 1, (⟨0, 0⟩ : TInterval)⟩ : TNode), (⟨2, 1, (⟨0, 0⟩ : TInterval)⟩ : TNode)] : List TNode)⟩, ⟨(some ⟨((u3 10).n 0), 0, none⟩), 5, ([(⟨7, 0, (⟨0, 0⟩ : TInterval)⟩ : TNode), (⟨9, 0, (⟨0, 0⟩ : TInterval)⟩ : TNode), (⟨2, 1, (⟨0, 0⟩ : TInterval)⟩ : TNode), (⟨2, 1, (⟨0, 0⟩ : TInterval)⟩ : TNode), (⟨3, 0, (⟨0, 0⟩ : TInterval)⟩ : TNode)] : List TNode)⟩] : List (Sl TNode))) (rdl_cons ⟨(rdF_of hF.1), fun _ _ => trivial⟩ (rdl_cons ⟨(rdF_of hF.2.1), fun _ _ => trivial⟩ rdl_nil)) (fun j h => ((fun h => (fpl_cons h).elim (fun h => (h.elim (fun h => ff_of (.head _) (fun h => h) h (rdF_fr hF.1 _ h)) (fun ⟨_, _, hz⟩ => hz.elim))) (fun h => (fpl_cons h).elim (fun h => (h.elim (fun h => ff_of (.tail _ (.head _)) (fun h => h) h (rdF_fr hF.2.1 _ h)) (fun ⟨_, _, hz⟩ => hz.elim))) (fun h => by obtain ⟨_, hy, _⟩ := h; cases hy))) : fpL E_S_TNode.toPart ([⟨(some ⟨((u3 4).n 0), 0, none⟩), 3, ([(⟨9, 0, (⟨0, 0⟩ : TInterval)⟩ : TNode), (⟨2, 1, (⟨0, 0⟩ : TInterval)⟩ : TNode), (⟨2, 1, (⟨0, 0⟩ : TInterval)⟩ : TNode)] : List TNode)⟩, ⟨(some ⟨((u3 10).n 0), 0, none⟩), 5, ([(⟨7, 0, (⟨0, 0⟩ : TInterval)⟩ : TNode), (⟨9, 0, (⟨0, 0⟩ : TInterval)⟩ : TNode), (⟨2, 1, (⟨0, 0⟩ : TInterval)⟩ : TNode), (⟨2, 1, (⟨0, 0⟩ : TInterval)⟩ : TNode), (⟨3, 0, (⟨0, 0⟩ : TInterval)⟩ : TNode)] : List TNode)⟩] : List (Sl TNode)) j → factFp [rdF fr 4 (some ⟨((u3 4).n 0), 0, none⟩) 3 3 (([(⟨9, 0, (⟨0, 0⟩ : TInterval)⟩ : TNode), (⟨2, 1, (⟨0, 0⟩ : TInterval)⟩ : TNode), (⟨2, 1, (⟨0, 0⟩ : TInterval)⟩ : TNode)] : List TNode).flatMap en_TNode), rdF fr 4 (some ⟨((u3 10).n 0), 0, none⟩) 5 5 (([(⟨7, 0, (⟨0, 0⟩ : TInterval)⟩ : TNode), (⟨9, 0, (⟨0, 0⟩ : TInterval)⟩ : TNode), (⟨2, 1, (⟨0, 0⟩ : TInterval)⟩ : TNode), (⟨2, 1, (⟨0, 0⟩ : TInterval)⟩ : TNode), (⟨3, 0, (⟨0, 0⟩ : TInterval)⟩ : TNode)] : List TNode).flatMap en_TNode)] j ∧ fr j) h |>.2)) (fun hF j h => ((fun h => (fpl_cons h).elim (fun h => (h.elim (fun h => ff_of (.head _) (fun h => h) h (rdF_fr hF.1 _ h)) (fun ⟨_, _, hz⟩ => hz.elim))) (fun h => (fpl_cons h).elim (fun h => (h.elim (fun h => ff_of (.tail _ (.head _)) (fun h => h) h (rdF_fr hF.2.1 _ h)) (fun ⟨_, _, hz⟩ => hz.elim))) (fun h => by obtain ⟨_, hy, _⟩ := h; cases hy))) : fpL E_S_TNode.toPart ([⟨(some ⟨((u3 4).n 0), 0, none⟩), 3, ([(⟨9, 0, (⟨0, 0⟩ : TInterval)⟩ : TNode), (⟨2, 1, (⟨0, 0⟩ : TInterval)⟩ : TNode), (⟨2, 1, (⟨0, 0⟩ : TInterval)⟩ : TNode)] : List TNode)⟩, ⟨(some ⟨((u3 10).n 0), 0, none⟩), 5, ([(⟨7, 0, (⟨0, 0⟩ : TInterval)⟩ : TNode), (⟨9, 0, (⟨0, 0⟩ : TInterval)⟩ : TNode), (⟨2, 1, (⟨0, 0⟩ : TInterval)⟩ : TNode), (⟨2, 1, (⟨0, 0⟩ : TInterval)⟩ : TNode), (⟨3, 0, (⟨0, 0⟩ : TInterval)⟩ : TNode)] : List TNode)⟩] : List (Sl TNode)) j → factFp [rdF fr 4 (some ⟨((u3 4).n 0), 0, none⟩) 3 3 (([(⟨9, 0, (⟨0, 0⟩ : TInterval)⟩ : TNode), (⟨2, 1, (⟨0, 0⟩ : TInterval)⟩ : TNode), (⟨2, 1, (⟨0, 0⟩ : TInterval)⟩ : TNode)] : List TNode).flatMap en_TNode), rdF fr 4 (some ⟨((u3 10).n 0), 0, none⟩) 5 5 (([(⟨7, 0, (⟨0, 0⟩ : TInterval)⟩ : TNode), (⟨9, 0, (⟨0, 0⟩ : TInterval)⟩ : TNode), (⟨2, 1, (⟨0, 0⟩ : TInterval)⟩ : TNode), (⟨2, 1, (⟨0, 0⟩ : TInterval)⟩ : TNode), (⟨3, 0, (⟨0, 0⟩ : TInterval)⟩ : TNode)] : List TNode).flatMap en_TNode)] j ∧ fr j) h |>.1)
 replace G := bnd G; obtain ⟨t5, ht5, G⟩ := G
 refine k_rg mixed H (.cons [23] (ok_ld (fun u4 => .agg #[.slice (some ⟨((u3 0).n 0), 0, none⟩) 2 2, .slice (some ⟨((u3 11).n 0), 0, none⟩) 2 2]) 23 140 0 2 (fun u4 => ((u3 13).n 0)) (fun u4 => [.slice (some ⟨((u3 0).n 0), 0, none⟩) 2 2, .slice (some ⟨((u3 11).n 0), 0, none⟩) 2 2]) 38) <|
   .cons [24, 142, 143] (ok_callY false fr [] [136, 139, 141, 999999] (fun u4 => [owK 9 1 (some ⟨((u3 0).n 0), 0, none⟩) 2 2 (([(⟨#[120]⟩ : ByteArray), (⟨#[121]⟩ : ByteArray)] : List ByteArray).flatMap en_str), owK 48 1 (some ⟨((u3 11).n 0), 0, none⟩) 2 2 (([⟨(some ⟨((u3 4).n 0), 0, none⟩), 3, ([(⟨9, 0, (⟨0, 0⟩ : TInterval)⟩ : TNode), (⟨2, 1, (⟨0, 0⟩ : TInterval)⟩ : TNode), (⟨2, 1, (⟨0, 0⟩ : TInterval)⟩ : TNode)] : List TNode)⟩, ⟨(some ⟨((u3 10).n 0), 0, none⟩), 5, ([(⟨7, 0, (⟨0, 0⟩ : TInterval)⟩ : TNode), (⟨9, 0, (⟨0, 0⟩ : TInterval)⟩ : TNode), (⟨2, 1, (⟨0, 0⟩ : TInterval)⟩ : TNode), (⟨2, 1, (⟨0, 0⟩ : TInterval)⟩ : TNode), (⟨3, 0, (⟨0, 0⟩ : TInterval)⟩ : TNode)] : List TNode)⟩] : List (Sl TNode)).flatMap enSl), dnK fr E_S_TNode.toPart ([⟨(some ⟨((u3 4).n 0), 0, none⟩), 3, ([(⟨9, 0, (⟨0, 0⟩ : TInterval)⟩ : TNode), (⟨2, 1, (⟨0, 0⟩ : TInterval)⟩ : TNode), (⟨2, 1, (⟨0, 0⟩ : TInterval)⟩ : TNode)] : List TNode)⟩, ⟨(some ⟨((u3 10).n 0), 0, none⟩), 5, ([(⟨7, 0, (⟨0, 0⟩ : TInterval)⟩ : TNode), (⟨9, 0, (⟨0, 0⟩ : TInterval)⟩ : TNode), (⟨2, 1, (⟨0, 0⟩ : TInterval)⟩ : TNode), (⟨2, 1, (⟨0, 0⟩ : TInterval)⟩ : TNode), (⟨3, 0, (⟨0, 0⟩ : TInterval)⟩ : TNode)] : List TNode)⟩] : List (Sl TNode)), gk]) [] (fun u4 => []) 11 (fun u4 => #[.agg #[.slice (some ⟨((u3 0).n 0), 0, none⟩) 2 2, .slice (some ⟨((u3 11).n 0), 0, none⟩) 2 2]]) (fun u4 => [rdF anyF 1 (some ⟨((u3 0).n 0), 0, none⟩) 2 2 (([(⟨#[120]⟩ : ByteArray), (⟨#[121]⟩ : ByteArray)] : List ByteArray).flatMap en_str), rdF anyF 1 (some ⟨((u3 11).n 0), 0, none⟩) 2 2 (([⟨(some ⟨((u3 4).n 0), 0, none⟩), 3, ([(⟨9, 0, (⟨0, 0⟩ : TInterval)⟩ : TNode), (⟨2, 1, (⟨0, 0⟩ : TInterval)⟩ : TNode), (⟨2, 1, (⟨0, 0⟩ : TInterval)⟩ : TNode)] : List TNode)⟩, ⟨(some ⟨((u3 10).n 0), 0, none⟩), 5, ([(⟨7, 0, (⟨0, 0⟩ : TInterval)⟩ : TNode), (⟨9, 0, (⟨0, 0⟩ : TInterval)⟩ : TNode), (⟨2, 1, (⟨0, 0⟩ : TInterval)⟩ : TNode), (⟨2, 1, (⟨0, 0⟩ : TInterval)⟩ : TNode), (⟨3, 0, (⟨0, 0⟩ : TInterval)⟩ : TNode)] : List TNode)⟩] : List (Sl TNode)).flatMap enSl), dnK anyF E_S_TNode.toPart ([⟨(some ⟨((u3 4).n 0), 0, none⟩), 3, ([(⟨9, 0, (⟨0, 0⟩ : TInterval)⟩ : TNode), (⟨2, 1, (⟨0, 0⟩ : TInterval)⟩ : TNode), (⟨2, 1, (⟨0, 0⟩ : TInterval)⟩ : TNode)] : List TNode)⟩, ⟨(some ⟨((u3 10).n 0), 0, none⟩), 5, ([(⟨7, 0, (⟨0, 0⟩ : TInterval)⟩ : TNode), (⟨9, 0, (⟨0, 0⟩ : TInterval)⟩ : TNode), (⟨2, 1, (⟨0, 0⟩ : TInterval)⟩ : TNode), (⟨2, 1, (⟨0, 0⟩ : TInterval)⟩ : TNode), (⟨3, 0, (⟨0, 0⟩ : TInterval)⟩ : TNode)] : List TNode)⟩] : List (Sl TNode)), gk]) (fun u4 => []) (fun u4 g => .agg #[vI t5.N, .slice (g.o 0) t5.L.length (g.n 0), .slice (g.o 1) t5.Out.length (g.n 1)]) (fun u4 g => [fun _ => owK 50 5 (g.o 0) t5.L.length (g.n 0) (t5.L.flatMap en_TInstruction), fun _ => owK 3 1 (g.o 1) t5.Out.length (g.n 1) (t5.Out.flatMap en_i64)]) [142, 143] 24 (fun u4 w hB hF hM => tape_Compile.calls k0 (⟨([(⟨#[120]⟩ : ByteArray), (⟨#[121]⟩ : ByteArray)] : List ByteArray), ([([(⟨9, 0, (⟨0, 0⟩ : TInterval)⟩ : TNode), (⟨2, 1, (⟨0, 0⟩ : TInterval)⟩ : TNode), (⟨2, 1, (⟨0, 0⟩ : TInterval)⟩ : TNode)] : List TNode), ([(⟨7, 0, (⟨0, 0⟩ : TInterval)⟩ : TNode), (⟨9, 0, (⟨0, 0⟩ : TInterval)⟩ : TNode), (⟨2, 1, (⟨0, 0⟩ : TInterval)⟩ : TNode), (⟨2, 1, (⟨0, 0⟩ : TInterval)⟩ : TNode), (⟨3, 0, (⟨0, 0⟩ : TInterval)⟩ : TNode)] : List TNode)] : List (List TNode))⟩ : TSystem) (some ⟨((u3 0).n 0), 0, none⟩) 2 (some ⟨((u3 11).n 0), 0, none⟩) 2 ([⟨(some ⟨((u3 4).n 0), 0, none⟩), 3, ([(⟨9, 0, (⟨0, 0⟩ : TInterval)⟩ : TNode), (⟨2, 1, (⟨0, 0⟩ : TInterval)⟩ : TNode), (⟨2, 1, (⟨0, 0⟩ : TInterval)⟩ : TNode)] : List TNode)⟩, ⟨(some ⟨((u3 10).n 0), 0, none⟩), 5, ([(⟨7, 0, (⟨0, 0⟩ : TInterval)⟩ : TNode), (⟨9, 0, (⟨0, 0⟩ : TInterval)⟩ : TNode), (⟨2, 1, (⟨0, 0⟩ : TInterval)⟩ : TNode), (⟨2, 1, (⟨0, 0⟩ : TInterval)⟩ : TNode), (⟨3, 0, (⟨0, 0⟩ : TInterval)⟩ : TNode)] : List TNode)⟩] : List (Sl TNode)) t5 w rfl hB ht5) (fun u4 w hF => ⟨⟨sub_rd0 (owns_rowC (ow_of hF.1)) (fun j h => ⟨_, (.head _), (fp_own h)⟩), sub_rd0 (owns_rowC (ow_of hF.2.1)) (fun j h => ⟨_, (.tail _ (.head _)), (fp_own h)⟩), sub_dn0 (dn_of hF.2.2.1) (fun j h => ⟨_, (.tail _ (.tail _ (.head _))), h⟩), sub_k hF.2.2.2.1 (.tail _ (.tail _ (.tail _ (.head _)))), trivial⟩, trivial⟩) (fun u4 g => (fams_cons fam_ow (fams_cons fam_ow fams_nil))) (.inr (fun u4 g => (famx_cons trivial (famx_cons trivial (fun K h => by cases h))))) (fun h => by cases h)) <|
   .cons [3, 144] (ok_new (fun b => vP b 0) (fun u4 => [vI 0, .slice none 0 0, .slice none 0 0]) 25 3 144) <|
   .cons [144] (ok_as (u' := fun u4 => [(144, .blk ((u4 2).n 0) [vI t5.N, .slice ((u4 1).o 0) t5.L.length ((u4 1).n 0), .slice ((u4 1).o 1) t5.Out.length ((u4 1).n 1)] 25)]) (ok_store 144 0 (fun u4 => ((u4 2).n 0)) (fun u4 => [vI 0, .slice none 0 0, .slice none 0 0]) (fun u4 => [vI t5.N, .slice ((u4 1).o 0) t5.L.length ((u4 1).n 0), .slice ((u4 1).o 1) t5.Out.length ((u4 1).n 1)]) 25) (fun _ => by kernel_rfl)) <| .nil) fun u4 a w' H => ?_
 replace H := H.kp [2, 3, 136, 139, 140, 141, 142, 143, 144, 999999]
 refine k_seq ?_
 refine k_rg mixed H (.v 25 (.agg #[vI 2, vI 1, vI 0, vI 0, vI 0]) <|
   .v 26 (.agg #[vI 9, vI 0, vI 0, vI 0, vI 0]) <|
   .v 27 (.agg #[vI 3, vI 0, vI 0, vI 0, vI 0]) <|
   .v 28 (.agg #[vI 7, vI 1, vI 2, vI 0, vI 0]) <|
   .cons [29, 145] (ok_new (fun b => .slice (some ⟨b, 0, none⟩) 4 4) (fun u6 => [vI 2, vI 1, vI 0, vI 0, vI 0, vI 9, vI 0, vI 0, vI 0, vI 0, vI 3, vI 0, vI 0, vI 0, vI 0, vI 7, vI 1, vI 2, vI 0, vI 0]) 50 29 145) <|
   .cons [30, 146] (ok_new (fun b => .slice (some ⟨b, 0, none⟩) 2 2) (fun u6 => [vI 1, vI 3]) 3 30 146) <|
   .cons [31] (ok_val (fun u6 => .agg #[vI 2, .slice (some ⟨((u6 4).n 0), 0, none⟩) 4 4, .slice (some ⟨((u6 5).n 0), 0, none⟩) 2 2]) 31) <|
   .cons [4, 147] (ok_new (fun b => vP b 0) (fun u6 => [vI 0, .slice none 0 0, .slice none 0 0]) 25 4 147) <|
   .cons [147] (ok_as (u' := fun u6 => [(147, .blk ((u6 7).n 0) [vI 2, .slice (some ⟨((u6 4).n 0), 0, none⟩) 4 4, .slice (some ⟨((u6 5).n 0), 0, none⟩) 2 2] 25)]) (ok_store 147 0 (fun u6 => ((u6 7).n 0)) (fun u6 => [vI 0, .slice none 0 0, .slice none 0 0]) (fun u6 => [vI 2, .slice (some ⟨((u6 4).n 0), 0, none⟩) 4 4, .slice (some ⟨((u6 5).n 0), 0, none⟩) 2 2]) 25) (fun _ => by kernel_rfl)) <| .nil) fun u6 a w' H => ?_
 replace H := H.kp [2, 3, 4, 136, 139, 140, 141, 142, 143, 144, 145, 146, 147, 999999]
 refine k_seq ?_
 refine k_seq ?_
 replace H := H.blk_row 145 ((u6 4).n 0) [vI 2, vI 1, vI 0, vI 0, vI 0, vI 9, vI 0, vI 0, vI 0, vI 0, vI 3, vI 0, vI 0, vI 0, vI 0, vI 7, vI 1, vI 2, vI 0, vI 0] 50 5 4 (by kernel_rfl) (by kernel_rfl) (by decide)
 replace H := H.blk_row 146 ((u6 5).n 0) [vI 1, vI 3] 3 1 2 (by kernel_rfl) (by kernel_rfl) (by decide)
 replace G := bnd G; obtain ⟨t8, ht8, G⟩ := G
 refine k_rg mixed H (.cons [32] (ok_ld (fun u7 => .agg #[vI t5.N, .slice ((u4 1).o 0) t5.L.length ((u4 1).n 0), .slice ((u4 1).o 1) t5.Out.length ((u4 1).n 1)]) 32 144 0 3 (fun u7 => ((u4 2).n 0)) (fun u7 => [vI t5.N, .slice ((u4 1).o 0) t5.L.length ((u4 1).n 0), .slice ((u4 1).o 1) t5.Out.length ((u4 1).n 1)]) 25) <|
   .cons [33] (ok_ld (fun u7 => .agg #[vI 2, .slice (some ⟨((u6 4).n 0), 0, none⟩) 4 4, .slice (some ⟨((u6 5).n 0), 0, none⟩) 2 2]) 33 147 0 3 (fun u7 => ((u6 7).n 0)) (fun u7 => [vI 2, .slice (some ⟨((u6 4).n 0), 0, none⟩) 4 4, .slice (some ⟨((u6 5).n 0), 0, none⟩) 2 2]) 25) <|
   .cons [34] (ok_callL [142, 143, 145, 146] (fun u7 => [owK 50 5 ((u4 1).o 0) t5.L.length ((u4 1).n 0) (t5.L.flatMap en_TInstruction), owK 3 1 ((u4 1).o 1) t5.Out.length ((u4 1).n 1) (t5.Out.flatMap en_i64), owK 50 5 (some ⟨((u6 4).n 0), 0, none⟩) 4 4 (([(⟨2, 1, 0, (⟨0, 0⟩ : TInterval)⟩ : TInstruction), (⟨9, 0, 0, (⟨0, 0⟩ : TInterval)⟩ : TInstruction), (⟨3, 0, 0, (⟨0, 0⟩ : TInterval)⟩ : TInstruction), (⟨7, 1, 2, (⟨0, 0⟩ : TInterval)⟩ : TInstruction)] : List TInstruction).flatMap en_TInstruction), owK 3 1 (some ⟨((u6 5).n 0), 0, none⟩) 2 2 (([1, 3] : List Int).flatMap en_i64)]) 14 (fun u7 => #[.agg #[vI t5.N, .slice ((u4 1).o 0) t5.L.length ((u4 1).n 0), .slice ((u4 1).o 1) t5.Out.length ((u4 1).n 1)], .agg #[vI 2, .slice (some ⟨((u6 4).n 0), 0, none⟩) 4 4, .slice (some ⟨((u6 5).n 0), 0, none⟩) 2 2]]) (.bool t8) 34 (fun u7 w hF => armillaryref08_Same.calls k0 (⟨t5.N, t5.L, t5.Out⟩ : TTape) (⟨2, ([(⟨2, 1, 0, (⟨0, 0⟩ : TInterval)⟩ : TInstruction), (⟨9, 0, 0, (⟨0, 0⟩ : TInterval)⟩ : TInstruction), (⟨3, 0, 0, (⟨0, 0⟩ : TInterval)⟩ : TInstruction), (⟨7, 1, 2, (⟨0, 0⟩ : TInterval)⟩ : TInstruction)] : List TInstruction), ([1, 3] : List Int)⟩ : TTape) ((u4 1).o 0) ((u4 1).n 0) ((u4 1).o 1) ((u4 1).n 1) (some ⟨((u6 4).n 0), 0, none⟩) 4 (some ⟨((u6 5).n 0), 0, none⟩) 2 t8 w  ⟨(rdA (owns_rowC (ow_of hF.1))), (rdA (owns_rowC (ow_of hF.2.1))), (rdA (owns_rowC (ow_of hF.2.2.1))), (rdA (owns_rowC (ow_of hF.2.2.2.1))), trivial⟩ ht8)) <|
   .v 35 (.bool (!t8)) <| .nil) fun u7 a w' H => ?_
 replace H := H.kp [2, 3, 35, 136, 139, 140, 141, 142, 143, 144, 999999]
 refine k_cond H (by kernel_rfl) (t := (!t8)) (by kernel_rfl) (fun c53 => ?_) (fun c53 => ?_)
 ·rw [if_pos c53] at G
  refine k_seq ?_
  refine k_rg mixed H (.v 0 (.bool false) <| .nil) fun u9 a w' H => ?_
  replace H := H.kp [0, 999999]
  refine k_ret ?_
  obtain rfl := Option.some.inj G
  exact k_done0 H _ (by kernel_rfl) (by kernel_rfl)
 ·rw [if_neg (nt c53)] at G
  refine k_skip ?_
  refine k_seq ?_
  replace G := bnd G; obtain ⟨t11, ht11, G⟩ := G
  replace G := bnd G; obtain ⟨t12, ht12, G⟩ := G
  replace G := bnd G; obtain ⟨t13, ht13, G⟩ := G
  replace G := bnd G; obtain ⟨t14, ht14, G⟩ := G
  refine k_regT mixed H (.cons [36] (ok_ld (fun u10 => .agg #[vI t5.N, .slice ((u4 1).o 0) t5.L.length ((u4 1).n 0), .slice ((u4 1).o 1) t5.Out.length ((u4 1).n 1)]) 36 144 0 3 (fun u10 => ((u4 2).n 0)) (fun u10 => [vI t5.N, .slice ((u4 1).o 0) t5.L.length ((u4 1).n 0), .slice ((u4 1).o 1) t5.Out.length ((u4 1).n 1)]) 25) <|
   .cons [37] (ok_callv 15 (fun u10 => #[vI 0]) (.agg #[vI t11.Lo, vI t11.Hi]) 37 [] (fun u10 w _ => armillaryref02_Point.calls 0  t11 w  ht11)) <|
   .cons [38] (ok_callv 15 (fun u10 => #[vI 131072]) (.agg #[vI t12.Lo, vI t12.Hi]) 38 [] (fun u10 w _ => armillaryref02_Point.calls 131072  t12 w  ht12)) <|
   .cons [39, 148] (ok_blkrow 2 2 (ok_new (fun b => .slice (some ⟨b, 0, none⟩) 2 2) (fun u10 => [vI t11.Lo, vI t11.Hi, vI t12.Lo, vI t12.Hi]) 28 39 148) (fun _ => rfl) (by decide)) <|
   .cons [40] (ok_callv 15 (fun u10 => #[vI 65536]) (.agg #[vI t13.Lo, vI t13.Hi]) 40 [] (fun u10 w _ => armillaryref02_Point.calls 65536  t13 w  ht13)) <|
   .cons [41, 149] (ok_callY false fr [3] [142, 143, 148, 999999] (fun u10 => [owK 50 5 ((u4 1).o 0) t5.L.length ((u4 1).n 0) (t5.L.flatMap en_TInstruction), owK 3 1 ((u4 1).o 1) t5.Out.length ((u4 1).n 1) (t5.Out.flatMap en_i64), owK 28 2 (some ⟨((u10 3).n 0), 0, none⟩) 2 2 (([t11, t12] : List TInterval).flatMap en_TInterval), gk]) [] (fun u10 => []) 10 (fun u10 => #[.agg #[vI t5.N, .slice ((u4 1).o 0) t5.L.length ((u4 1).n 0), .slice ((u4 1).o 1) t5.Out.length ((u4 1).n 1)], .slice (some ⟨((u10 3).n 0), 0, none⟩) 2 2, .agg #[vI t13.Lo, vI t13.Hi]]) (fun u10 => [rdF anyF 5 ((u4 1).o 0) t5.L.length ((u4 1).n 0) (t5.L.flatMap en_TInstruction), rdF anyF 1 ((u4 1).o 1) t5.Out.length ((u4 1).n 1) (t5.Out.flatMap en_i64), rdF anyF 2 (some ⟨((u10 3).n 0), 0, none⟩) 2 2 (([t11, t12] : List TInterval).flatMap en_TInterval), gk]) (fun u10 => []) (fun u10 g => .slice (g.o 0) t14.length (g.n 0)) (fun u10 g => [fun _ => owK 28 2 (g.o 0) t14.length (g.n 0) (t14.flatMap en_TInterval)]) [149] 41 (fun u10 w hB hF hM => tape_Eval.calls k0 (⟨t5.N, t5.L, t5.Out⟩ : TTape) ([t11, t12] : List TInterval) t13 ((u4 1).o 0) ((u4 1).n 0) ((u4 1).o 1) ((u4 1).n 1) (some ⟨((u10 3).n 0), 0, none⟩) 2 t14 w  hB ht14) (fun u10 w hF => ⟨⟨sub_rd0 (owns_rowC (ow_of hF.1)) (fun j h => ⟨_, (.head _), (fp_own h)⟩), sub_rd0 (owns_rowC (ow_of hF.2.1)) (fun j h => ⟨_, (.tail _ (.head _)), (fp_own h)⟩), sub_rd0 (owns_rowC (ow_of hF.2.2.1)) (fun j h => ⟨_, (.tail _ (.tail _ (.head _))), (fp_own h)⟩), sub_k hF.2.2.2.1 (.tail _ (.tail _ (.tail _ (.head _)))), trivial⟩, trivial⟩) (fun u10 g => (fams_cons fam_ow fams_nil)) (.inr (fun u10 g => (famx_cons trivial (fun K h => by cases h)))) (fun h => by cases h) (hloc := fun u u' h => ⟨by first | rfl | simp only [h 3 (by decide)], by first | rfl | simp only [h 3 (by decide)], by first | rfl | simp only [h 3 (by decide)], by first | rfl | simp only [h 3 (by decide)], by first | rfl | simp only [h 3 (by decide)], by first | rfl | simp only [h 3 (by decide)]⟩)) <|
   .cons [5] (ok_val (fun u10 => .slice ((u10 5).o 0) t14.length ((u10 5).n 0)) 5) <| .nil) (by kernel_rfl) fun u10 a w' H => ?_
  replace H := H.kp [2, 3, 5, 136, 139, 140, 141, 142, 143, 144, 149, 999999]
  refine k_seq ?_
  replace G := bnd G; obtain ⟨t16, ht16, G⟩ := G
  replace G := bnd G; obtain ⟨t17, ht17, G⟩ := G
  refine k_rg mixed H (.v 42 (.agg #[vI 3, vI 0, vI 0, vI 0, vI 0]) <|
   .cons [43] (ok_callv 15 (fun u15 => #[vI 5]) (.agg #[vI t16.Lo, vI t16.Hi]) 43 [] (fun u15 w _ => armillaryref02_Point.calls 5  t16 w  ht16)) <|
   .v 44 (.agg #[vI 1, vI 0, vI 0, vI t16.Lo, vI t16.Hi]) <|
   .cons [45] (ok_callv 15 (fun u15 => #[vI 5]) (.agg #[vI t17.Lo, vI t17.Hi]) 45 [] (fun u15 w _ => armillaryref02_Point.calls 5  t17 w  ht17)) <|
   .v 46 (.agg #[vI 1, vI 0, vI 0, vI t17.Lo, vI t17.Hi]) <|
   .v 47 (.agg #[vI 7, vI 2, vI 1, vI 0, vI 0]) <|
   .cons [48, 150] (ok_new (fun b => .slice (some ⟨b, 0, none⟩) 4 4) (fun u15 => [vI 3, vI 0, vI 0, vI 0, vI 0, vI 1, vI 0, vI 0, vI t16.Lo, vI t16.Hi, vI 1, vI 0, vI 0, vI t17.Lo, vI t17.Hi, vI 7, vI 2, vI 1, vI 0, vI 0]) 50 48 150) <|
   .cons [49, 151] (ok_new (fun b => .slice (some ⟨b, 0, none⟩) 1 1) (fun u15 => [vI 3]) 3 49 151) <|
   .cons [50] (ok_val (fun u15 => .agg #[vI 1, .slice (some ⟨((u15 6).n 0), 0, none⟩) 4 4, .slice (some ⟨((u15 7).n 0), 0, none⟩) 1 1]) 50) <|
   .cons [6, 152] (ok_new (fun b => vP b 0) (fun u15 => [vI 0, .slice none 0 0, .slice none 0 0]) 25 6 152) <|
   .cons [152] (ok_as (u' := fun u15 => [(152, .blk ((u15 9).n 0) [vI 1, .slice (some ⟨((u15 6).n 0), 0, none⟩) 4 4, .slice (some ⟨((u15 7).n 0), 0, none⟩) 1 1] 25)]) (ok_store 152 0 (fun u15 => ((u15 9).n 0)) (fun u15 => [vI 0, .slice none 0 0, .slice none 0 0]) (fun u15 => [vI 1, .slice (some ⟨((u15 6).n 0), 0, none⟩) 4 4, .slice (some ⟨((u15 7).n 0), 0, none⟩) 1 1]) 25) (fun _ => by kernel_rfl)) <| .nil) fun u15 a w' H => ?_
  replace H := H.toM [(2, (sP ((u3 13).n 0) 0)), (3, (sP ((u4 2).n 0) 0)), (5, (sS ((u10 5).o 0) t14.length ((u10 5).n 0))), (6, (sP ((u15 9).n 0) 0)), (136, owK 9 1 (some ⟨((u3 0).n 0), 0, none⟩) 2 2 (([(⟨#[120]⟩ : ByteArray), (⟨#[121]⟩ : ByteArray)] : List ByteArray).flatMap en_str)), (139, owK 48 1 (some ⟨((u3 11).n 0), 0, none⟩) 2 2 (([⟨(some ⟨((u3 4).n 0), 0, none⟩), 3, ([(⟨9, 0, (⟨0, 0⟩ : TInterval)⟩ : TNode), (⟨2, 1, (⟨0, 0⟩ : TInterval)⟩ : TNode), (⟨2, 1, (⟨0, 0⟩ : TInterval)⟩ : TNode)] : List TNode)⟩, ⟨(some ⟨((u3 10).n 0), 0, none⟩), 5, ([(⟨7, 0, (⟨0, 0⟩ : TInterval)⟩ : TNode), (⟨9, 0, (⟨0, 0⟩ : TInterval)⟩ : TNode), (⟨2, 1, (⟨0, 0⟩ : TInterval)⟩ : TNode), (⟨2, 1, (⟨0, 0⟩ : TInterval)⟩ : TNode), (⟨3, 0, (⟨0, 0⟩ : TInterval)⟩ : TNode)] : List TNode)⟩] : List (Sl TNode)).flatMap enSl)), (140, .blk ((u3 13).n 0) [.slice (some ⟨((u3 0).n 0), 0, none⟩) 2 2, .slice (some ⟨((u3 11).n 0), 0, none⟩) 2 2] 38), (141, dnK fr E_S_TNode.toPart ([⟨(some ⟨((u3 4).n 0), 0, none⟩), 3, ([(⟨9, 0, (⟨0, 0⟩ : TInterval)⟩ : TNode), (⟨2, 1, (⟨0, 0⟩ : TInterval)⟩ : TNode), (⟨2, 1, (⟨0, 0⟩ : TInterval)⟩ : TNode)] : List TNode)⟩, ⟨(some ⟨((u3 10).n 0), 0, none⟩), 5, ([(⟨7, 0, (⟨0, 0⟩ : TInterval)⟩ : TNode), (⟨9, 0, (⟨0, 0⟩ : TInterval)⟩ : TNode), (⟨2, 1, (⟨0, 0⟩ : TInterval)⟩ : TNode), (⟨2, 1, (⟨0, 0⟩ : TInterval)⟩ : TNode), (⟨3, 0, (⟨0, 0⟩ : TInterval)⟩ : TNode)] : List TNode)⟩] : List (Sl TNode))), (142, owK 50 5 ((u4 1).o 0) t5.L.length ((u4 1).n 0) (t5.L.flatMap en_TInstruction)), (143, owK 3 1 ((u4 1).o 1) t5.Out.length ((u4 1).n 1) (t5.Out.flatMap en_i64)), (144, .blk ((u4 2).n 0) [vI t5.N, .slice ((u4 1).o 0) t5.L.length ((u4 1).n 0), .slice ((u4 1).o 1) t5.Out.length ((u4 1).n 1)] 25), (149, owK 28 2 ((u10 5).o 0) t14.length ((u10 5).n 0) (t14.flatMap en_TInterval)), (150, .blk ((u15 6).n 0) [vI 3, vI 0, vI 0, vI 0, vI 0, vI 1, vI 0, vI 0, vI t16.Lo, vI t16.Hi, vI 1, vI 0, vI 0, vI t17.Lo, vI t17.Hi, vI 7, vI 2, vI 1, vI 0, vI 0] 50), (151, .blk ((u15 7).n 0) [vI 3] 3), (152, .blk ((u15 9).n 0) [vI 1, .slice (some ⟨((u15 6).n 0), 0, none⟩) 4 4, .slice (some ⟨((u15 7).n 0), 0, none⟩) 1 1] 25), (999999, gk)]
  refine k_seq ?_
  replace H := H.blk_row 150 ((u15 6).n 0) [vI 3, vI 0, vI 0, vI 0, vI 0, vI 1, vI 0, vI 0, vI t16.Lo, vI t16.Hi, vI 1, vI 0, vI 0, vI t17.Lo, vI t17.Hi, vI 7, vI 2, vI 1, vI 0, vI 0] 50 5 4 (by kernel_rfl) (by kernel_rfl) (by decide)
  replace H := H.blk_row 151 ((u15 7).n 0) [vI 3] 3 1 1 (by kernel_rfl) (by kernel_rfl) (by decide)
  replace G := bnd G; obtain ⟨t19, ht19, G⟩ := G
  refine k_rg mixed H (.cons [51] (ok_ld (fun u18 => .agg #[vI 1, .slice (some ⟨((u15 6).n 0), 0, none⟩) 4 4, .slice (some ⟨((u15 7).n 0), 0, none⟩) 1 1]) 51 152 0 3 (fun u18 => ((u15 9).n 0)) (fun u18 => [vI 1, .slice (some ⟨((u15 6).n 0), 0, none⟩) 4 4, .slice (some ⟨((u15 7).n 0), 0, none⟩) 1 1]) 25) <|
   .cons [52, 153, 154] (ok_callY false fr [] [150, 151, 999999] (fun u18 => [owK 50 5 (some ⟨((u15 6).n 0), 0, none⟩) 4 4 (([(⟨3, 0, 0, (⟨0, 0⟩ : TInterval)⟩ : TInstruction), (⟨1, 0, 0, t16⟩ : TInstruction), (⟨1, 0, 0, t17⟩ : TInstruction), (⟨7, 2, 1, (⟨0, 0⟩ : TInterval)⟩ : TInstruction)] : List TInstruction).flatMap en_TInstruction), owK 3 1 (some ⟨((u15 7).n 0), 0, none⟩) 1 1 (([3] : List Int).flatMap en_i64), gk]) [] (fun u18 => []) 13 (fun u18 => #[.agg #[vI 1, .slice (some ⟨((u15 6).n 0), 0, none⟩) 4 4, .slice (some ⟨((u15 7).n 0), 0, none⟩) 1 1]]) (fun u18 => [rdF anyF 5 (some ⟨((u15 6).n 0), 0, none⟩) 4 4 (([(⟨3, 0, 0, (⟨0, 0⟩ : TInterval)⟩ : TInstruction), (⟨1, 0, 0, t16⟩ : TInstruction), (⟨1, 0, 0, t17⟩ : TInstruction), (⟨7, 2, 1, (⟨0, 0⟩ : TInterval)⟩ : TInstruction)] : List TInstruction).flatMap en_TInstruction), rdF anyF 1 (some ⟨((u15 7).n 0), 0, none⟩) 1 1 (([3] : List Int).flatMap en_i64), gk]) (fun u18 => []) (fun u18 g => .agg #[vI t19.N, .slice (g.o 0) t19.L.length (g.n 0), .slice (g.o 1) t19.Out.length (g.n 1)]) (fun u18 g => [fun _ => owK 50 5 (g.o 0) t19.L.length (g.n 0) (t19.L.flatMap en_TInstruction), fun _ => owK 3 1 (g.o 1) t19.Out.length (g.n 1) (t19.Out.flatMap en_i64)]) [153, 154] 52 (fun u18 w hB hF hM => tape_Optimize.calls k0 (⟨1, ([(⟨3, 0, 0, (⟨0, 0⟩ : TInterval)⟩ : TInstruction), (⟨1, 0, 0, t16⟩ : TInstruction), (⟨1, 0, 0, t17⟩ : TInstruction), (⟨7, 2, 1, (⟨0, 0⟩ : TInterval)⟩ : TInstruction)] : List TInstruction), ([3] : List Int)⟩ : TTape) (some ⟨((u15 6).n 0), 0, none⟩) 4 (some ⟨((u15 7).n 0), 0, none⟩) 1 t19 w  hB ht19) (fun u18 w hF => ⟨⟨sub_rd0 (owns_rowC (ow_of hF.1)) (fun j h => ⟨_, (.head _), (fp_own h)⟩), sub_rd0 (owns_rowC (ow_of hF.2.1)) (fun j h => ⟨_, (.tail _ (.head _)), (fp_own h)⟩), sub_k hF.2.2.1 (.tail _ (.tail _ (.head _))), trivial⟩, trivial⟩) (fun u18 g => (fams_cons fam_ow (fams_cons fam_ow fams_nil))) (.inr (fun u18 g => (famx_cons trivial (famx_cons trivial (fun K h => by cases h))))) (fun h => by cases h)) <|
   .cons [7, 155] (ok_new (fun b => vP b 0) (fun u18 => [vI 0, .slice none 0 0, .slice none 0 0]) 25 7 155) <|
   .cons [155] (ok_as (u' := fun u18 => [(155, .blk ((u18 2).n 0) [vI t19.N, .slice ((u18 1).o 0) t19.L.length ((u18 1).n 0), .slice ((u18 1).o 1) t19.Out.length ((u18 1).n 1)] 25)]) (ok_store 155 0 (fun u18 => ((u18 2).n 0)) (fun u18 => [vI 0, .slice none 0 0, .slice none 0 0]) (fun u18 => [vI t19.N, .slice ((u18 1).o 0) t19.L.length ((u18 1).n 0), .slice ((u18 1).o 1) t19.Out.length ((u18 1).n 1)]) 25) (fun _ => by kernel_rfl)) <| .nil) fun u18 a w' H => ?_
  replace H := H.kp [2, 3, 5, 6, 7, 136, 139, 140, 141, 142, 143, 144, 149, 150, 151, 152, 153, 154, 155, 999999]
  refine k_seq ?_
  replace G := bnd G; obtain ⟨t21, ht21, G⟩ := G
  replace G := bnd G; obtain ⟨t22, ht22, G⟩ := G
  replace G := bnd G; obtain ⟨t23, ht23, G⟩ := G
  refine k_rg mixed H (.v 53 (.agg #[vI 2, vI 0, vI 0, vI 0, vI 0]) <|
   .v 54 (.agg #[vI 6, vI 0, vI 0, vI 0, vI 0]) <|
   .cons [55, 156] (ok_blkrow 5 2 (ok_new (fun b => .slice (some ⟨b, 0, none⟩) 2 2) (fun u20 => [vI 2, vI 0, vI 0, vI 0, vI 0, vI 6, vI 0, vI 0, vI 0, vI 0]) 50 55 156) (fun _ => rfl) (by decide)) <|
   .cons [56, 157] (ok_blkrow 1 1 (ok_new (fun b => .slice (some ⟨b, 0, none⟩) 1 1) (fun u20 => [vI 1]) 3 56 157) (fun _ => rfl) (by decide)) <|
   .cons [57] (ok_val (fun u20 => .agg #[vI 1, .slice (some ⟨((u20 2).n 0), 0, none⟩) 2 2, .slice (some ⟨((u20 3).n 0), 0, none⟩) 1 1]) 57) <|
   .cons [58] (ok_callv 15 (fun u20 => #[vI (-1)]) (.agg #[vI t21.Lo, vI t21.Hi]) 58 [] (fun u20 w _ => armillaryref02_Point.calls (-1)  t21 w  ht21)) <|
   .cons [59, 158] (ok_blkrow 2 1 (ok_new (fun b => .slice (some ⟨b, 0, none⟩) 1 1) (fun u20 => [vI t21.Lo, vI t21.Hi]) 28 59 158) (fun _ => rfl) (by decide)) <|
   .cons [60] (ok_callv 15 (fun u20 => #[vI 0]) (.agg #[vI t22.Lo, vI t22.Hi]) 60 [] (fun u20 w _ => armillaryref02_Point.calls 0  t22 w  ht22)) <|
   .cons [61, 159] (ok_callY false fr [2, 3, 6] [156, 157, 158, 999999] (fun u20 => [owK 50 5 (some ⟨((u20 2).n 0), 0, none⟩) 2 2 (([(⟨2, 0, 0, (⟨0, 0⟩ : TInterval)⟩ : TInstruction), (⟨6, 0, 0, (⟨0, 0⟩ : TInterval)⟩ : TInstruction)] : List TInstruction).flatMap en_TInstruction), owK 3 1 (some ⟨((u20 3).n 0), 0, none⟩) 1 1 (([1] : List Int).flatMap en_i64), owK 28 2 (some ⟨((u20 6).n 0), 0, none⟩) 1 1 (([t21] : List TInterval).flatMap en_TInterval), gk]) [] (fun u20 => []) 10 (fun u20 => #[.agg #[vI 1, .slice (some ⟨((u20 2).n 0), 0, none⟩) 2 2, .slice (some ⟨((u20 3).n 0), 0, none⟩) 1 1], .slice (some ⟨((u20 6).n 0), 0, none⟩) 1 1, .agg #[vI t22.Lo, vI t22.Hi]]) (fun u20 => [rdF anyF 5 (some ⟨((u20 2).n 0), 0, none⟩) 2 2 (([(⟨2, 0, 0, (⟨0, 0⟩ : TInterval)⟩ : TInstruction), (⟨6, 0, 0, (⟨0, 0⟩ : TInterval)⟩ : TInstruction)] : List TInstruction).flatMap en_TInstruction), rdF anyF 1 (some ⟨((u20 3).n 0), 0, none⟩) 1 1 (([1] : List Int).flatMap en_i64), rdF anyF 2 (some ⟨((u20 6).n 0), 0, none⟩) 1 1 (([t21] : List TInterval).flatMap en_TInterval), gk]) (fun u20 => []) (fun u20 g => .slice (g.o 0) t23.length (g.n 0)) (fun u20 g => [fun _ => owK 28 2 (g.o 0) t23.length (g.n 0) (t23.flatMap en_TInterval)]) [159] 61 (fun u20 w hB hF hM => tape_Eval.calls k0 (⟨1, ([(⟨2, 0, 0, (⟨0, 0⟩ : TInterval)⟩ : TInstruction), (⟨6, 0, 0, (⟨0, 0⟩ : TInterval)⟩ : TInstruction)] : List TInstruction), ([1] : List Int)⟩ : TTape) ([t21] : List TInterval) t22 (some ⟨((u20 2).n 0), 0, none⟩) 2 (some ⟨((u20 3).n 0), 0, none⟩) 1 (some ⟨((u20 6).n 0), 0, none⟩) 1 t23 w  hB ht23) (fun u20 w hF => ⟨⟨sub_rd0 (owns_rowC (ow_of hF.1)) (fun j h => ⟨_, (.head _), (fp_own h)⟩), sub_rd0 (owns_rowC (ow_of hF.2.1)) (fun j h => ⟨_, (.tail _ (.head _)), (fp_own h)⟩), sub_rd0 (owns_rowC (ow_of hF.2.2.1)) (fun j h => ⟨_, (.tail _ (.tail _ (.head _))), (fp_own h)⟩), sub_k hF.2.2.2.1 (.tail _ (.tail _ (.tail _ (.head _)))), trivial⟩, trivial⟩) (fun u20 g => (fams_cons fam_ow fams_nil)) (.inr (fun u20 g => (famx_cons trivial (fun K h => by cases h)))) (fun h => by cases h) (hloc := fun u u' h => ⟨by first | rfl | simp only [h 2 (by decide), h 3 (by decide), h 6 (by decide)], by first | rfl | simp only [h 2 (by decide), h 3 (by decide), h 6 (by decide)], by first | rfl | simp only [h 2 (by decide), h 3 (by decide), h 6 (by decide)], by first | rfl | simp only [h 2 (by decide), h 3 (by decide), h 6 (by decide)], by first | rfl | simp only [h 2 (by decide), h 3 (by decide), h 6 (by decide)], by first | rfl | simp only [h 2 (by decide), h 3 (by decide), h 6 (by decide)]⟩)) <|
   .cons [8] (ok_val (fun u20 => .slice ((u20 8).o 0) t23.length ((u20 8).n 0)) 8) <| .nil) fun u20 a w' H => ?_
  replace H := H.kp [2, 3, 5, 6, 7, 8, 136, 139, 140, 141, 142, 143, 144, 149, 150, 151, 152, 153, 154, 155, 159, 999999]
  refine k_seq ?_
  refine k_seq ?_
  refine k_rg mixed H (.v 62 (.slice ((u20 8).o 0) t23.length ((u20 8).n 0)) <|
   .v 63 (vI (t23.length : Int)) <|
   .v 64 (.bool ((t23.length : Int) != 1)) <| .nil) fun u24 a w' H => ?_
  replace H := H.kp [2, 3, 5, 6, 7, 8, 64, 136, 139, 140, 141, 142, 143, 144, 149, 150, 151, 152, 153, 154, 155, 159, 999999]
  refine k_cond H (by kernel_rfl) (t := ((t23.length : Int) != 1)) (by kernel_rfl) (fun c52 => ?_) (fun c52 => ?_)
  ·rw [if_pos c52] at G
   refine k_seq ?_
   refine k_rg mixed H (.v 0 (.bool false) <| .nil) fun u25 a w' H => ?_
   replace H := H.kp [0, 999999]
   refine k_ret ?_
   obtain rfl := Option.some.inj G
   exact k_done0 H _ (by kernel_rfl) (by kernel_rfl)
  ·rw [if_neg (nt c52)] at G
   refine k_skip ?_
   refine k_seq ?_
   replace G := bnd G; obtain ⟨t27, ht27, G⟩ := G
   replace G := bnd G; obtain ⟨t28, ht28, G⟩ := G
   replace G := bnd G; obtain ⟨t29, ht29, G⟩ := G
   replace G := gd G; obtain ⟨b30, G⟩ := G
   replace G := bnd G; obtain ⟨t31, ht31, G⟩ := G
   replace G := bnd G; obtain ⟨t32, ht32, G⟩ := G
   replace G := gd G; obtain ⟨b33, G⟩ := G
   replace G := bnd G; obtain ⟨t34, ht34, G⟩ := G
   replace G := bnd G; obtain ⟨t35, ht35, G⟩ := G
   replace G := gd G; obtain ⟨b36, G⟩ := G
   replace G := bnd G; obtain ⟨t37, ht37, G⟩ := G
   have P38 := ptr_of (en := en_TInterval) (l := t23) (owns_rowC (ow_of (H.at (K := owK 28 2 ((u20 8).o 0) t23.length ((u20 8).n 0) (t23.flatMap en_TInterval)) 159 (by kernel_rfl)))).2 en_TInterval_len
   replace G := bnd G; obtain ⟨t39, ht39, G⟩ := G
   replace G := bnd G; obtain ⟨t40, ht40, G⟩ := G
   replace G := bnd G; obtain ⟨t41, ht41, G⟩ := G
   replace G := bnd G; obtain ⟨t42, ht42, G⟩ := G
   replace G := gd G; obtain ⟨b43, G⟩ := G
   replace G := bnd G; obtain ⟨t44, ht44, G⟩ := G
   replace G := gd G; obtain ⟨b45, G⟩ := G
   replace G := bnd G; obtain ⟨t46, ht46, G⟩ := G
   replace G := gd G; obtain ⟨b47, G⟩ := G
   replace G := bnd G; obtain ⟨t48, ht48, G⟩ := G
   replace G := bnd G; obtain ⟨t49, ht49, G⟩ := G
   replace G := bnd G; obtain ⟨t50, ht50, G⟩ := G
   replace G := bnd G; obtain ⟨t51, ht51, G⟩ := G
   refine k_regT mixed H (.v 65 (.slice ((u10 5).o 0) t14.length ((u10 5).n 0)) <|
   .cons [66] (ok_callv 15 (fun u26 => #[vI 262144]) (.agg #[vI t27.Lo, vI t27.Hi]) 66 [] (fun u26 w _ => armillaryref02_Point.calls 262144  t27 w  ht27)) <|
   .cons [67] (ok_callv 15 (fun u26 => #[vI 327680]) (.agg #[vI t28.Lo, vI t28.Hi]) 67 [] (fun u26 w _ => armillaryref02_Point.calls 327680  t28 w  ht28)) <|
   .cons [68, 160] (ok_blkrow 2 2 (ok_new (fun b => .slice (some ⟨b, 0, none⟩) 2 2) (fun u26 => [vI t27.Lo, vI t27.Hi, vI t28.Lo, vI t28.Hi]) 28 68 160) (fun _ => rfl) (by decide)) <|
   .cons [69] (ok_callL [149, 160] (fun u26 => [owK 28 2 ((u10 5).o 0) t14.length ((u10 5).n 0) (t14.flatMap en_TInterval), owK 28 2 (some ⟨((u26 3).n 0), 0, none⟩) 2 2 (([t27, t28] : List TInterval).flatMap en_TInterval)]) 9 (fun u26 => #[.slice ((u10 5).o 0) t14.length ((u10 5).n 0), .slice (some ⟨((u26 3).n 0), 0, none⟩) 2 2]) (.bool t29) 69 (fun u26 w hF => armillaryref08_SameBoxes.calls k0 t14 ([t27, t28] : List TInterval) ((u10 5).o 0) ((u10 5).n 0) (some ⟨((u26 3).n 0), 0, none⟩) 2 t29 w  ⟨(rdA (owns_rowC (ow_of hF.1))), (rdA (owns_rowC (ow_of hF.2.1))), trivial⟩ ht29)) <|
   .cons [70] (ok_as (u' := fun u26 => [(70, sB true)]) (ok_val (fun u26 => .bool t29) 70) (fun _ => by rw [b30])) <|
   .cons [71] (ok_gd (ok_ld (fun u26 => .agg #[vI t5.N, .slice ((u4 1).o 0) t5.L.length ((u4 1).n 0), .slice ((u4 1).o 1) t5.Out.length ((u4 1).n 1)]) 71 144 0 3 (fun u26 => ((u4 2).n 0)) (fun u26 => [vI t5.N, .slice ((u4 1).o 0) t5.L.length ((u4 1).n 0), .slice ((u4 1).o 1) t5.Out.length ((u4 1).n 1)]) 25) (by intro _; kernel_rfl)) <|
   .cons [72, 161] (ok_gd (ok_callY false fr [] [142, 143, 999999] (fun u26 => [owK 50 5 ((u4 1).o 0) t5.L.length ((u4 1).n 0) (t5.L.flatMap en_TInstruction), owK 3 1 ((u4 1).o 1) t5.Out.length ((u4 1).n 1) (t5.Out.flatMap en_i64), gk]) [] (fun u26 => []) 17 (fun u26 => #[.agg #[vI t5.N, .slice ((u4 1).o 0) t5.L.length ((u4 1).n 0), .slice ((u4 1).o 1) t5.Out.length ((u4 1).n 1)]]) (fun u26 => [rdF anyF 5 ((u4 1).o 0) t5.L.length ((u4 1).n 0) (t5.L.flatMap en_TInstruction), rdF anyF 1 ((u4 1).o 1) t5.Out.length ((u4 1).n 1) (t5.Out.flatMap en_i64), gk]) (fun u26 => []) (fun u26 g => .slice (g.o 0) ((g.dl Sl.l gd_S_TNode 0 t31).length) (g.n 0)) (fun u26 g => [fun _ => nsK 48 47 4 en_TNode (g.o 0) ((g.dl Sl.l gd_S_TNode 0 t31).length) (g.n 0) (g.dl Sl.l gd_S_TNode 0 t31) (g.dl Sl.l gd_S_TNode 0 t31)]) [161] 72 (fun u26 w hB hF hM => tape_Decompile.calls k0 (⟨t5.N, t5.L, t5.Out⟩ : TTape) ((u4 1).o 0) ((u4 1).n 0) ((u4 1).o 1) ((u4 1).n 1) t31 w  hB ht31) (fun u26 w hF => ⟨⟨sub_rd0 (owns_rowC (ow_of hF.1)) (fun j h => ⟨_, (.head _), (fp_own h)⟩), sub_rd0 (owns_rowC (ow_of hF.2.1)) (fun j h => ⟨_, (.tail _ (.head _)), (fp_own h)⟩), sub_k hF.2.2.1 (.tail _ (.tail _ (.head _))), trivial⟩, trivial⟩) (fun u26 g => (fams_cons fam_ns fams_nil)) (.inr (fun u26 g => (famx_cons trivial (fun K h => by cases h)))) (fun h => by cases h)) (by intro _; kernel_rfl)) <|
   .cons [73] (ok_gd (ok_val (fun u26 => vP ((u3 13).n 0) 1) 73) (by intro _; kernel_rfl)) <|
   .cons [74] (ok_gd (ok_ld (fun u26 => .slice (some ⟨((u3 11).n 0), 0, none⟩) 2 2) 74 140 1 1 (fun u26 => ((u3 13).n 0)) (fun u26 => [.slice (some ⟨((u3 0).n 0), 0, none⟩) 2 2, .slice (some ⟨((u3 11).n 0), 0, none⟩) 2 2]) 38) (by intro _; kernel_rfl)) <|
   .cons [75] (ok_gd (ok_callL [161, 139, 141] (fun u26 => [nsK 48 47 4 en_TNode ((u26 7).o 0) (((u26 7).dl Sl.l gd_S_TNode 0 t31).length) ((u26 7).n 0) ((u26 7).dl Sl.l gd_S_TNode 0 t31) ((u26 7).dl Sl.l gd_S_TNode 0 t31), owK 48 1 (some ⟨((u3 11).n 0), 0, none⟩) 2 2 (([⟨(some ⟨((u3 4).n 0), 0, none⟩), 3, ([(⟨9, 0, (⟨0, 0⟩ : TInterval)⟩ : TNode), (⟨2, 1, (⟨0, 0⟩ : TInterval)⟩ : TNode), (⟨2, 1, (⟨0, 0⟩ : TInterval)⟩ : TNode)] : List TNode)⟩, ⟨(some ⟨((u3 10).n 0), 0, none⟩), 5, ([(⟨7, 0, (⟨0, 0⟩ : TInterval)⟩ : TNode), (⟨9, 0, (⟨0, 0⟩ : TInterval)⟩ : TNode), (⟨2, 1, (⟨0, 0⟩ : TInterval)⟩ : TNode), (⟨2, 1, (⟨0, 0⟩ : TInterval)⟩ : TNode), (⟨3, 0, (⟨0, 0⟩ : TInterval)⟩ : TNode)] : List TNode)⟩] : List (Sl TNode)).flatMap enSl), dnK fr E_S_TNode.toPart ([⟨(some ⟨((u3 4).n 0), 0, none⟩), 3, ([(⟨9, 0, (⟨0, 0⟩ : TInterval)⟩ : TNode), (⟨2, 1, (⟨0, 0⟩ : TInterval)⟩ : TNode), (⟨2, 1, (⟨0, 0⟩ : TInterval)⟩ : TNode)] : List TNode)⟩, ⟨(some ⟨((u3 10).n 0), 0, none⟩), 5, ([(⟨7, 0, (⟨0, 0⟩ : TInterval)⟩ : TNode), (⟨9, 0, (⟨0, 0⟩ : TInterval)⟩ : TNode), (⟨2, 1, (⟨0, 0⟩ : TInterval)⟩ : TNode), (⟨2, 1, (⟨0, 0⟩ : TInterval)⟩ : TNode), (⟨3, 0, (⟨0, 0⟩ : TInterval)⟩ : TNode)] : List TNode)⟩] : List (Sl TNode))]) 16 (fun u26 => #[.slice ((u26 7).o 0) (((u26 7).dl Sl.l gd_S_TNode 0 t31).length) ((u26 7).n 0), .slice (some ⟨((u3 11).n 0), 0, none⟩) 2 2]) (.bool t32) 75 (fun u26 w hF => armillaryref08_SameRows.calls k0 t31 ([([(⟨9, 0, (⟨0, 0⟩ : TInterval)⟩ : TNode), (⟨2, 1, (⟨0, 0⟩ : TInterval)⟩ : TNode), (⟨2, 1, (⟨0, 0⟩ : TInterval)⟩ : TNode)] : List TNode), ([(⟨7, 0, (⟨0, 0⟩ : TInterval)⟩ : TNode), (⟨9, 0, (⟨0, 0⟩ : TInterval)⟩ : TNode), (⟨2, 1, (⟨0, 0⟩ : TInterval)⟩ : TNode), (⟨2, 1, (⟨0, 0⟩ : TInterval)⟩ : TNode), (⟨3, 0, (⟨0, 0⟩ : TInterval)⟩ : TNode)] : List TNode)] : List (List TNode)) ((u26 7).o 0) ((u26 7).n 0) ((u26 7).dl Sl.l gd_S_TNode 0 t31) (some ⟨((u3 11).n 0), 0, none⟩) 2 ([⟨(some ⟨((u3 4).n 0), 0, none⟩), 3, ([(⟨9, 0, (⟨0, 0⟩ : TInterval)⟩ : TNode), (⟨2, 1, (⟨0, 0⟩ : TInterval)⟩ : TNode), (⟨2, 1, (⟨0, 0⟩ : TInterval)⟩ : TNode)] : List TNode)⟩, ⟨(some ⟨((u3 10).n 0), 0, none⟩), 5, ([(⟨7, 0, (⟨0, 0⟩ : TInterval)⟩ : TNode), (⟨9, 0, (⟨0, 0⟩ : TInterval)⟩ : TNode), (⟨2, 1, (⟨0, 0⟩ : TInterval)⟩ : TNode), (⟨2, 1, (⟨0, 0⟩ : TInterval)⟩ : TNode), (⟨3, 0, (⟨0, 0⟩ : TInterval)⟩ : TNode)] : List TNode)⟩] : List (Sl TNode)) t32 w (dl_er ergd_S_TNode (u26 7) 0 t31) rfl ⟨(rdA (ns_of hF.1).row), (dnA (ns_of hF.1).all), (rdA (owns_rowC (ow_of hF.2.1))), (dnA (dn_of hF.2.2.1)), trivial⟩ ht32)) (by intro _; kernel_rfl)) <|
   .cons [76] (ok_pickK (fun u26 => .bool t32) 76) <|
   .cons [77] (ok_as (u' := fun u26 => [(77, sB true)]) (ok_val (fun u26 => .bool t32) 77) (fun _ => by rw [b33])) <|
   .cons [78] (ok_gd (ok_ld (fun u26 => .agg #[vI t19.N, .slice ((u18 1).o 0) t19.L.length ((u18 1).n 0), .slice ((u18 1).o 1) t19.Out.length ((u18 1).n 1)]) 78 155 0 3 (fun u26 => ((u18 2).n 0)) (fun u26 => [vI t19.N, .slice ((u18 1).o 0) t19.L.length ((u18 1).n 0), .slice ((u18 1).o 1) t19.Out.length ((u18 1).n 1)]) 25) (by intro _; kernel_rfl)) <|
   .cons [79] (ok_gd (ok_callv 15 (fun u26 => #[vI 5]) (.agg #[vI t34.Lo, vI t34.Hi]) 79 [] (fun u26 w _ => armillaryref02_Point.calls 5  t34 w  ht34)) (by intro _; kernel_rfl)) <|
   .cons [80] (ok_gd (ok_val (fun u26 => .agg #[vI 1, vI 0, vI 0, vI t34.Lo, vI t34.Hi]) 80) (by intro _; kernel_rfl)) <|
   .cons [81] (ok_gd (ok_val (fun u26 => .agg #[vI 7, vI 0, vI 0, vI 0, vI 0]) 81) (by intro _; kernel_rfl)) <|
   .cons [82, 162] (ok_gd (ok_blkrow 5 2 (ok_new (fun b => .slice (some ⟨b, 0, none⟩) 2 2) (fun u26 => [vI 1, vI 0, vI 0, vI t34.Lo, vI t34.Hi, vI 7, vI 0, vI 0, vI 0, vI 0]) 50 82 162) (fun _ => rfl) (by decide)) (by intro _; kernel_rfl)) <|
   .cons [83, 163] (ok_gd (ok_blkrow 1 1 (ok_new (fun b => .slice (some ⟨b, 0, none⟩) 1 1) (fun u26 => [vI 1]) 3 83 163) (fun _ => rfl) (by decide)) (by intro _; kernel_rfl)) <|
   .cons [84] (ok_gd (ok_val (fun u26 => .agg #[vI 1, .slice (some ⟨((u26 17).n 0), 0, none⟩) 2 2, .slice (some ⟨((u26 18).n 0), 0, none⟩) 1 1]) 84) (by intro _; kernel_rfl)) <|
   .cons [85] (ok_gd (ok_callL [153, 154, 162, 163] (fun u26 => [owK 50 5 ((u18 1).o 0) t19.L.length ((u18 1).n 0) (t19.L.flatMap en_TInstruction), owK 3 1 ((u18 1).o 1) t19.Out.length ((u18 1).n 1) (t19.Out.flatMap en_i64), owK 50 5 (some ⟨((u26 17).n 0), 0, none⟩) 2 2 (([(⟨1, 0, 0, t34⟩ : TInstruction), (⟨7, 0, 0, (⟨0, 0⟩ : TInterval)⟩ : TInstruction)] : List TInstruction).flatMap en_TInstruction), owK 3 1 (some ⟨((u26 18).n 0), 0, none⟩) 1 1 (([1] : List Int).flatMap en_i64)]) 14 (fun u26 => #[.agg #[vI t19.N, .slice ((u18 1).o 0) t19.L.length ((u18 1).n 0), .slice ((u18 1).o 1) t19.Out.length ((u18 1).n 1)], .agg #[vI 1, .slice (some ⟨((u26 17).n 0), 0, none⟩) 2 2, .slice (some ⟨((u26 18).n 0), 0, none⟩) 1 1]]) (.bool t35) 85 (fun u26 w hF => armillaryref08_Same.calls k0 (⟨t19.N, t19.L, t19.Out⟩ : TTape) (⟨1, ([(⟨1, 0, 0, t34⟩ : TInstruction), (⟨7, 0, 0, (⟨0, 0⟩ : TInterval)⟩ : TInstruction)] : List TInstruction), ([1] : List Int)⟩ : TTape) ((u18 1).o 0) ((u18 1).n 0) ((u18 1).o 1) ((u18 1).n 1) (some ⟨((u26 17).n 0), 0, none⟩) 2 (some ⟨((u26 18).n 0), 0, none⟩) 1 t35 w  ⟨(rdA (owns_rowC (ow_of hF.1))), (rdA (owns_rowC (ow_of hF.2.1))), (rdA (owns_rowC (ow_of hF.2.2.1))), (rdA (owns_rowC (ow_of hF.2.2.2.1))), trivial⟩ ht35)) (by intro _; kernel_rfl)) <|
   .cons [86] (ok_pickK (fun u26 => .bool t35) 86) <|
   .v 87 (.bool t35) <|
   .cons [88] (ok_valg (fun u26 => .slice ((u20 8).o 0) t23.length ((u20 8).n 0)) (fun u26 => (t35 == true)) [true] 88) <|
   .cons [89] (ok_valgP (fun u26 => .pointer (some ⟨hdB ((u20 8).o 0), hdO ((u20 8).o 0) + ((0 : Int).toNat) * 2, none⟩)) (fun u26 => (t35 == true)) [false, true] 89 (fun _ _ hg => ix_pure (t := 26) (k := .i64) (i := (0 : Int)) (p := ((u20 8).o 0)) (n := t23.length) (cap := ((u20 8).n 0)) (x := t23) P38 rfl (b36 hg) (by kernel_rfl))) <|
   .cons [90] (ok_valL [159] (fun u26 => [owK 28 2 ((u20 8).o 0) t23.length ((u20 8).n 0) (t23.flatMap en_TInterval)]) (fun u26 => .agg #[vI t37.Lo, vI t37.Hi]) (fun u26 => (t35 == true)) [false] 90 (fun u26 w hg hF => ld_row (en := en_TInterval) (owns_rowC (ow_of hF.1)).2 en_TInterval_len (ifp ht37 hg) 0 2 [vI t37.Lo, vI t37.Hi] rfl (by kernel_rfl))) <|
   .cons [91] (ok_call 18 (fun u26 => #[.agg #[vI t37.Lo, vI t37.Hi]]) (.bool t39) (fun u26 => (t35 == true)) [true, false] 91 [] (fun u26 w hg _ => armillaryref02_IsEntire.calls t37  t39 w  (ifp ht39 hg))) <|
   .cons [92] (ok_and 87 91 (fun u26 => true) (fun u26 => true) (fun u26 => t35) (fun u26 => t39) 92) <|
   .v 93 (.bool (t35 && t39)) <|
   .cons [94] (ok_ldg (fun u26 => .agg #[vI t5.N, .slice ((u4 1).o 0) t5.L.length ((u4 1).n 0), .slice ((u4 1).o 1) t5.Out.length ((u4 1).n 1)]) (fun u26 => ((t35 && t39) == true)) [true] 94 144 0 3 (fun u26 => ((u4 2).n 0)) (fun u26 => [vI t5.N, .slice ((u4 1).o 0) t5.L.length ((u4 1).n 0), .slice ((u4 1).o 1) t5.Out.length ((u4 1).n 1)]) 25) <|
   .cons [95] (ok_callLg [142, 143, 999999] (fun u26 => [owK 50 5 ((u4 1).o 0) t5.L.length ((u4 1).n 0) (t5.L.flatMap en_TInstruction), owK 3 1 ((u4 1).o 1) t5.Out.length ((u4 1).n 1) (t5.Out.flatMap en_i64), gk]) 19 (fun u26 => #[.agg #[vI t5.N, .slice ((u4 1).o 0) t5.L.length ((u4 1).n 0), .slice ((u4 1).o 1) t5.Out.length ((u4 1).n 1)]]) (.bool t40) (fun u26 => ((t35 && t39) == true)) [true, false] 95 (fun u26 w hg hF => tape_Valid.calls k0 (⟨t5.N, t5.L, t5.Out⟩ : TTape) ((u4 1).o 0) ((u4 1).n 0) ((u4 1).o 1) ((u4 1).n 1) t40 w  ⟨(rdA (owns_rowC (ow_of hF.1))), (rdA (owns_rowC (ow_of hF.2.1))), hF.2.2.1, trivial⟩ (ifp ht40 hg))) <|
   .cons [96] (ok_and 93 95 (fun u26 => true) (fun u26 => true) (fun u26 => (t35 && t39)) (fun u26 => t40) 96) <|
   .v 97 (.bool ((t35 && t39) && t40)) <|
   .cons [98] (ok_ldg (fun u26 => .agg #[vI 1, .slice (some ⟨((u15 6).n 0), 0, none⟩) 4 4, .slice (some ⟨((u15 7).n 0), 0, none⟩) 1 1]) (fun u26 => (((t35 && t39) && t40) == true)) [true] 98 152 0 3 (fun u26 => ((u15 9).n 0)) (fun u26 => [vI 1, .slice (some ⟨((u15 6).n 0), 0, none⟩) 4 4, .slice (some ⟨((u15 7).n 0), 0, none⟩) 1 1]) 25) <|
   .cons [99] (ok_callLg [150, 151, 999999] (fun u26 => [owK 50 5 (some ⟨((u15 6).n 0), 0, none⟩) 4 4 (([(⟨3, 0, 0, (⟨0, 0⟩ : TInterval)⟩ : TInstruction), (⟨1, 0, 0, t16⟩ : TInstruction), (⟨1, 0, 0, t17⟩ : TInstruction), (⟨7, 2, 1, (⟨0, 0⟩ : TInterval)⟩ : TInstruction)] : List TInstruction).flatMap en_TInstruction), owK 3 1 (some ⟨((u15 7).n 0), 0, none⟩) 1 1 (([3] : List Int).flatMap en_i64), gk]) 19 (fun u26 => #[.agg #[vI 1, .slice (some ⟨((u15 6).n 0), 0, none⟩) 4 4, .slice (some ⟨((u15 7).n 0), 0, none⟩) 1 1]]) (.bool t41) (fun u26 => (((t35 && t39) && t40) == true)) [true, false] 99 (fun u26 w hg hF => tape_Valid.calls k0 (⟨1, ([(⟨3, 0, 0, (⟨0, 0⟩ : TInterval)⟩ : TInstruction), (⟨1, 0, 0, t16⟩ : TInstruction), (⟨1, 0, 0, t17⟩ : TInstruction), (⟨7, 2, 1, (⟨0, 0⟩ : TInterval)⟩ : TInstruction)] : List TInstruction), ([3] : List Int)⟩ : TTape) (some ⟨((u15 6).n 0), 0, none⟩) 4 (some ⟨((u15 7).n 0), 0, none⟩) 1 t41 w  ⟨(rdA (owns_rowC (ow_of hF.1))), (rdA (owns_rowC (ow_of hF.2.1))), hF.2.2.1, trivial⟩ (ifp ht41 hg))) <|
   .cons [100] (ok_and 97 99 (fun u26 => true) (fun u26 => true) (fun u26 => ((t35 && t39) && t40)) (fun u26 => t41) 100) <|
   .v 101 (.bool (((t35 && t39) && t40) && t41)) <|
   .cons [102] (ok_valg (fun u26 => .agg #[vI 0, .slice none 0 0, .slice none 0 0]) (fun u26 => ((((t35 && t39) && t40) && t41) == true)) [] 102) <|
   .cons [103] (ok_callLg [999999] (fun u26 => [gk]) 19 (fun u26 => #[.agg #[vI 0, .slice none 0 0, .slice none 0 0]]) (.bool t42) (fun u26 => ((((t35 && t39) && t40) && t41) == true)) [true, false] 103 (fun u26 w hg hF => tape_Valid.calls k0 (⟨0, [], []⟩ : TTape) none 0 none 0 t42 w  ⟨(rdA (rowC_nil (T := TInstruction) (en := en_TInstruction))), (rdA (rowC_nil (T := Int) (en := en_i64))), hF.1, trivial⟩ (ifp ht42 hg))) <|
   .cons [104] (ok_valg (fun u26 => .bool (!t42)) (fun u26 => ((((t35 && t39) && t40) && t41) == true)) [false] 104) <|
   .cons [105] (ok_and 101 104 (fun u26 => true) (fun u26 => true) (fun u26 => (((t35 && t39) && t40) && t41)) (fun u26 => (!t42)) 105) <|
   .cons [106] (ok_as (u' := fun u26 => [(106, sB true)]) (ok_val (fun u26 => .bool ((((t35 && t39) && t40) && t41) && (!t42))) 106) (fun _ => by rw [b43])) <|
   .cons [107] (ok_gd (ok_val (fun u26 => .agg #[vI 4, vI 0, vI 0, vI 0, vI 0]) 107) (by intro _; kernel_rfl)) <|
   .cons [108, 164] (ok_gd (ok_blkrow 5 1 (ok_new (fun b => .slice (some ⟨b, 0, none⟩) 1 1) (fun u26 => [vI 4, vI 0, vI 0, vI 0, vI 0]) 50 108 164) (fun _ => rfl) (by decide)) (by intro _; kernel_rfl)) <|
   .cons [109, 165] (ok_gd (ok_blkrow 1 1 (ok_new (fun b => .slice (some ⟨b, 0, none⟩) 1 1) (fun u26 => [vI 0]) 3 109 165) (fun _ => rfl) (by decide)) (by intro _; kernel_rfl)) <|
   .cons [110] (ok_gd (ok_val (fun u26 => .agg #[vI 1, .slice (some ⟨((u26 43).n 0), 0, none⟩) 1 1, .slice (some ⟨((u26 44).n 0), 0, none⟩) 1 1]) 110) (by intro _; kernel_rfl)) <|
   .cons [111] (ok_gd (ok_callL [164, 165, 999999] (fun u26 => [owK 50 5 (some ⟨((u26 43).n 0), 0, none⟩) 1 1 (([(⟨4, 0, 0, (⟨0, 0⟩ : TInterval)⟩ : TInstruction)] : List TInstruction).flatMap en_TInstruction), owK 3 1 (some ⟨((u26 44).n 0), 0, none⟩) 1 1 (([0] : List Int).flatMap en_i64), gk]) 19 (fun u26 => #[.agg #[vI 1, .slice (some ⟨((u26 43).n 0), 0, none⟩) 1 1, .slice (some ⟨((u26 44).n 0), 0, none⟩) 1 1]]) (.bool t44) 111 (fun u26 w hF => tape_Valid.calls k0 (⟨1, ([(⟨4, 0, 0, (⟨0, 0⟩ : TInterval)⟩ : TInstruction)] : List TInstruction), ([0] : List Int)⟩ : TTape) (some ⟨((u26 43).n 0), 0, none⟩) 1 (some ⟨((u26 44).n 0), 0, none⟩) 1 t44 w  ⟨(rdA (owns_rowC (ow_of hF.1))), (rdA (owns_rowC (ow_of hF.2.1))), hF.2.2.1, trivial⟩ ht44)) (by intro _; kernel_rfl)) <|
   .cons [112] (ok_gd (ok_val (fun u26 => .bool (!t44)) 112) (by intro _; kernel_rfl)) <|
   .cons [113] (ok_pickK (fun u26 => .bool (!t44)) 113) <|
   .cons [114] (ok_as (u' := fun u26 => [(114, sB true)]) (ok_val (fun u26 => .bool (!t44)) 114) (fun _ => by rw [b45])) <|
   .cons [115] (ok_gd (ok_val (fun u26 => .agg #[vI 2, vI 1, vI 0, vI 0, vI 0]) 115) (by intro _; kernel_rfl)) <|
   .cons [116, 166] (ok_gd (ok_blkrow 5 1 (ok_new (fun b => .slice (some ⟨b, 0, none⟩) 1 1) (fun u26 => [vI 2, vI 1, vI 0, vI 0, vI 0]) 50 116 166) (fun _ => rfl) (by decide)) (by intro _; kernel_rfl)) <|
   .cons [117, 167] (ok_gd (ok_blkrow 1 1 (ok_new (fun b => .slice (some ⟨b, 0, none⟩) 1 1) (fun u26 => [vI 0]) 3 117 167) (fun _ => rfl) (by decide)) (by intro _; kernel_rfl)) <|
   .cons [118] (ok_gd (ok_val (fun u26 => .agg #[vI 1, .slice (some ⟨((u26 51).n 0), 0, none⟩) 1 1, .slice (some ⟨((u26 52).n 0), 0, none⟩) 1 1]) 118) (by intro _; kernel_rfl)) <|
   .cons [119] (ok_gd (ok_callL [166, 167, 999999] (fun u26 => [owK 50 5 (some ⟨((u26 51).n 0), 0, none⟩) 1 1 (([(⟨2, 1, 0, (⟨0, 0⟩ : TInterval)⟩ : TInstruction)] : List TInstruction).flatMap en_TInstruction), owK 3 1 (some ⟨((u26 52).n 0), 0, none⟩) 1 1 (([0] : List Int).flatMap en_i64), gk]) 19 (fun u26 => #[.agg #[vI 1, .slice (some ⟨((u26 51).n 0), 0, none⟩) 1 1, .slice (some ⟨((u26 52).n 0), 0, none⟩) 1 1]]) (.bool t46) 119 (fun u26 w hF => tape_Valid.calls k0 (⟨1, ([(⟨2, 1, 0, (⟨0, 0⟩ : TInterval)⟩ : TInstruction)] : List TInstruction), ([0] : List Int)⟩ : TTape) (some ⟨((u26 51).n 0), 0, none⟩) 1 (some ⟨((u26 52).n 0), 0, none⟩) 1 t46 w  ⟨(rdA (owns_rowC (ow_of hF.1))), (rdA (owns_rowC (ow_of hF.2.1))), hF.2.2.1, trivial⟩ ht46)) (by intro _; kernel_rfl)) <|
   .cons [120] (ok_gd (ok_val (fun u26 => .bool (!t46)) 120) (by intro _; kernel_rfl)) <|
   .cons [121] (ok_pickK (fun u26 => .bool (!t46)) 121) <|
   .cons [122] (ok_as (u' := fun u26 => [(122, sB true)]) (ok_val (fun u26 => .bool (!t46)) 122) (fun _ => by rw [b47])) <|
   .cons [123] (ok_gd (ok_callv 20 (fun u26 => #[]) (.agg #[vI t48.Op, vI t48.A, vI t48.B, vI t48.C.Lo, vI t48.C.Hi]) 123 [] (fun u26 w _ => armillarylaw08_one.calls   t48 w  ht48)) (by intro _; kernel_rfl)) <|
   .cons [124] (ok_gd (ok_val (fun u26 => .agg #[vI 4, vI 0, vI 0, vI 0, vI 0]) 124) (by intro _; kernel_rfl)) <|
   .cons [125, 168] (ok_gd (ok_blkrow 5 2 (ok_new (fun b => .slice (some ⟨b, 0, none⟩) 2 2) (fun u26 => [vI t48.Op, vI t48.A, vI t48.B, vI t48.C.Lo, vI t48.C.Hi, vI 4, vI 0, vI 0, vI 0, vI 0]) 50 125 168) (fun _ => rfl) (by decide)) (by intro _; kernel_rfl)) <|
   .cons [126, 169] (ok_gd (ok_blkrow 1 1 (ok_new (fun b => .slice (some ⟨b, 0, none⟩) 1 1) (fun u26 => [vI 1]) 3 126 169) (fun _ => rfl) (by decide)) (by intro _; kernel_rfl)) <|
   .cons [127] (ok_gd (ok_val (fun u26 => .agg #[vI 1, .slice (some ⟨((u26 60).n 0), 0, none⟩) 2 2, .slice (some ⟨((u26 61).n 0), 0, none⟩) 1 1]) 127) (by intro _; kernel_rfl)) <|
   .cons [128, 170] (ok_gd (ok_callY false fr [60, 61] [168, 169, 999999] (fun u26 => [owK 50 5 (some ⟨((u26 60).n 0), 0, none⟩) 2 2 (([(⟨t48.Op, t48.A, t48.B, (⟨t48.C.Lo, t48.C.Hi⟩ : TInterval)⟩ : TInstruction), (⟨4, 0, 0, (⟨0, 0⟩ : TInterval)⟩ : TInstruction)] : List TInstruction).flatMap en_TInstruction), owK 3 1 (some ⟨((u26 61).n 0), 0, none⟩) 1 1 (([1] : List Int).flatMap en_i64), gk]) [] (fun u26 => []) 17 (fun u26 => #[.agg #[vI 1, .slice (some ⟨((u26 60).n 0), 0, none⟩) 2 2, .slice (some ⟨((u26 61).n 0), 0, none⟩) 1 1]]) (fun u26 => [rdF anyF 5 (some ⟨((u26 60).n 0), 0, none⟩) 2 2 (([(⟨t48.Op, t48.A, t48.B, (⟨t48.C.Lo, t48.C.Hi⟩ : TInterval)⟩ : TInstruction), (⟨4, 0, 0, (⟨0, 0⟩ : TInterval)⟩ : TInstruction)] : List TInstruction).flatMap en_TInstruction), rdF anyF 1 (some ⟨((u26 61).n 0), 0, none⟩) 1 1 (([1] : List Int).flatMap en_i64), gk]) (fun u26 => []) (fun u26 g => .slice (g.o 0) ((g.dl Sl.l gd_S_TNode 0 t49).length) (g.n 0)) (fun u26 g => [fun _ => nsK 48 47 4 en_TNode (g.o 0) ((g.dl Sl.l gd_S_TNode 0 t49).length) (g.n 0) (g.dl Sl.l gd_S_TNode 0 t49) (g.dl Sl.l gd_S_TNode 0 t49)]) [170] 128 (fun u26 w hB hF hM => tape_Decompile.calls k0 (⟨1, ([(⟨t48.Op, t48.A, t48.B, (⟨t48.C.Lo, t48.C.Hi⟩ : TInterval)⟩ : TInstruction), (⟨4, 0, 0, (⟨0, 0⟩ : TInterval)⟩ : TInstruction)] : List TInstruction), ([1] : List Int)⟩ : TTape) (some ⟨((u26 60).n 0), 0, none⟩) 2 (some ⟨((u26 61).n 0), 0, none⟩) 1 t49 w  hB ht49) (fun u26 w hF => ⟨⟨sub_rd0 (owns_rowC (ow_of hF.1)) (fun j h => ⟨_, (.head _), (fp_own h)⟩), sub_rd0 (owns_rowC (ow_of hF.2.1)) (fun j h => ⟨_, (.tail _ (.head _)), (fp_own h)⟩), sub_k hF.2.2.1 (.tail _ (.tail _ (.head _))), trivial⟩, trivial⟩) (fun u26 g => (fams_cons fam_ns fams_nil)) (.inr (fun u26 g => (famx_cons trivial (fun K h => by cases h)))) (fun h => by cases h) (hloc := fun u u' h => ⟨by first | rfl | simp only [h 60 (by decide), h 61 (by decide)], by first | rfl | simp only [h 60 (by decide), h 61 (by decide)], by first | rfl | simp only [h 60 (by decide), h 61 (by decide)], by first | rfl | simp only [h 60 (by decide), h 61 (by decide)], by first | rfl | simp only [h 60 (by decide), h 61 (by decide)], by first | rfl | simp only [h 60 (by decide), h 61 (by decide)]⟩)) (by intro _; kernel_rfl)) <|
   .cons [129] (ok_gd (ok_val (fun u26 => .agg #[vI 4, vI 0, vI 0, vI 0]) 129) (by intro _; kernel_rfl)) <|
   .cons [130] (ok_gd (ok_callv 21 (fun u26 => #[vI 1]) (.agg #[vI t50.Op, vI t50.N, vI t50.C.Lo, vI t50.C.Hi]) 130 [] (fun u26 w _ => armillarylaw08_num.calls 1  t50 w  ht50)) (by intro _; kernel_rfl)) <|
   .cons [131, 171] (ok_gd (ok_blkrow 4 2 (ok_new (fun b => .slice (some ⟨b, 0, none⟩) 2 2) (fun u26 => [vI 4, vI 0, vI 0, vI 0, vI t50.Op, vI t50.N, vI t50.C.Lo, vI t50.C.Hi]) 47 131 171) (fun _ => rfl) (by decide)) (by intro _; kernel_rfl)) <|
   .cons [132, 172] (ok_gd (ok_blkrow 1 1 (ok_new (fun b => .slice (some ⟨b, 0, none⟩) 1 1) (fun u26 => [.slice (some ⟨((u26 66).n 0), 0, none⟩) 2 2]) 48 132 172) (fun _ => rfl) (by decide)) (by intro _; kernel_rfl)) <|
   .cons [133] (ok_gd (ok_callL [170, 172, 171] (fun u26 => [nsK 48 47 4 en_TNode ((u26 63).o 0) (((u26 63).dl Sl.l gd_S_TNode 0 t49).length) ((u26 63).n 0) ((u26 63).dl Sl.l gd_S_TNode 0 t49) ((u26 63).dl Sl.l gd_S_TNode 0 t49), owK 48 1 (some ⟨((u26 67).n 0), 0, none⟩) 1 1 (([⟨(some ⟨((u26 66).n 0), 0, none⟩), 2, ([(⟨4, 0, (⟨0, 0⟩ : TInterval)⟩ : TNode), (⟨t50.Op, t50.N, (⟨t50.C.Lo, t50.C.Hi⟩ : TInterval)⟩ : TNode)] : List TNode)⟩] : List (Sl TNode)).flatMap enSl), owK 47 4 (some ⟨((u26 66).n 0), 0, none⟩) 2 2 (([(⟨4, 0, (⟨0, 0⟩ : TInterval)⟩ : TNode), (⟨t50.Op, t50.N, (⟨t50.C.Lo, t50.C.Hi⟩ : TInterval)⟩ : TNode)] : List TNode).flatMap en_TNode)]) 16 (fun u26 => #[.slice ((u26 63).o 0) (((u26 63).dl Sl.l gd_S_TNode 0 t49).length) ((u26 63).n 0), .slice (some ⟨((u26 67).n 0), 0, none⟩) 1 1]) (.bool t51) 133 (fun u26 w hF => armillaryref08_SameRows.calls k0 t49 ([([(⟨4, 0, (⟨0, 0⟩ : TInterval)⟩ : TNode), (⟨t50.Op, t50.N, (⟨t50.C.Lo, t50.C.Hi⟩ : TInterval)⟩ : TNode)] : List TNode)] : List (List TNode)) ((u26 63).o 0) ((u26 63).n 0) ((u26 63).dl Sl.l gd_S_TNode 0 t49) (some ⟨((u26 67).n 0), 0, none⟩) 1 ([⟨(some ⟨((u26 66).n 0), 0, none⟩), 2, ([(⟨4, 0, (⟨0, 0⟩ : TInterval)⟩ : TNode), (⟨t50.Op, t50.N, (⟨t50.C.Lo, t50.C.Hi⟩ : TInterval)⟩ : TNode)] : List TNode)⟩] : List (Sl TNode)) t51 w (dl_er ergd_S_TNode (u26 63) 0 t49) rfl ⟨(rdA (ns_of hF.1).row), (dnA (ns_of hF.1).all), (rdA (owns_rowC (ow_of hF.2.1))), (dnA (E := E_S_TNode.toPart) (L := ([⟨(some ⟨((u26 66).n 0), 0, none⟩), 2, ([(⟨4, 0, (⟨0, 0⟩ : TInterval)⟩ : TNode), (⟨t50.Op, t50.N, (⟨t50.C.Lo, t50.C.Hi⟩ : TInterval)⟩ : TNode)] : List TNode)⟩] : List (Sl TNode))) (rdl_cons ⟨(owns_rowC (ow_of hF.2.2.1)), fun _ _ => trivial⟩ rdl_nil)), trivial⟩ ht51)) (by intro _; kernel_rfl)) <|
   .cons [134] (ok_pickK (fun u26 => .bool t51) 134) <|
   .v 0 (.bool t51) <| .nil) (by kernel_rfl) fun u26 a w' H => ?_
   replace H := H.kp [0, 999999]
   refine k_ret ?_
   obtain rfl := Option.some.inj G
   exact k_done0 H _ (by kernel_rfl) (by kernel_rfl)
set_option maxHeartbeats 4000000 in
theorem armillaryref08_Arity.calls (a0 : Int) (r : Int) (w : World) (G : armillaryref08_Arity a0 = some r) :
  Calls Tryd.prog 22 #[vI a0] w fun e w' => e = .returned (vI r) ∧ Below w.heap.size w w' := by
 refine k_enter (args := [vI a0]) 21 Tryd.func22 rfl (by kernel_rfl) (by kernel_rfl) fun a H => ?_
 unfold armillaryref08_Arity at G
 refine k_seq ?_
 refine k_rg mixed H (.v 2 (vI 0) <| .nil) fun u1 a w' H => ?_
 replace H := H.kp [0]
 refine k_seq ?_
 refine k_seq ?_
 refine k_rg mixed H (.v 3 (vI a0) <|
   .v 4 (.bool (decide (a0 ≥ 1))) <|
   .v 5 (.bool (decide (a0 ≥ 1))) <|
   .cons [6] (ok_valg (fun u2 => vI a0) (fun u2 => ((decide (a0 ≥ 1)) == true)) [true] 6) <|
   .cons [7] (ok_valg (fun u2 => .bool (decide (a0 ≤ 3))) (fun u2 => ((decide (a0 ≥ 1)) == true)) [false, true] 7) <|
   .cons [8] (ok_and 5 7 (fun u2 => true) (fun u2 => true) (fun u2 => decide (a0 ≥ 1)) (fun u2 => decide (a0 ≤ 3)) 8) <| .nil) fun u2 a w' H => ?_
 replace H := H.kp [0, 8]
 refine k_cond H (by kernel_rfl) (t := ((decide (a0 ≥ 1)) && (decide (a0 ≤ 3)))) (by kernel_rfl) (fun c11 => ?_) (fun c11 => ?_)
 ·rw [if_pos c11] at G
  refine k_seq ?_
  refine k_rg mixed H (.v 2 (vI 0) <| .nil) fun u3 a w' H => ?_
  replace H := H.kp [2]
  refine k_ret ?_
  obtain rfl := Option.some.inj G
  exact k_done0 H _ (by kernel_rfl) (by kernel_rfl)
 ·rw [if_neg (nt c11)] at G
  refine k_skip ?_
  refine k_seq ?_
  refine k_seq ?_
  refine k_rg mixed H (.v 9 (vI a0) <|
   .v 10 (.bool (decide (a0 ≥ 4))) <|
   .v 11 (.bool (decide (a0 ≥ 4))) <|
   .cons [12] (ok_valg (fun u4 => vI a0) (fun u4 => ((decide (a0 ≥ 4)) == true)) [true] 12) <|
   .cons [13] (ok_valg (fun u4 => .bool (decide (a0 ≤ 6))) (fun u4 => ((decide (a0 ≥ 4)) == true)) [false, true] 13) <|
   .cons [14] (ok_and 11 13 (fun u4 => true) (fun u4 => true) (fun u4 => decide (a0 ≥ 4)) (fun u4 => decide (a0 ≤ 6)) 14) <| .nil) fun u4 a w' H => ?_
  replace H := H.kp [0, 14]
  refine k_cond H (by kernel_rfl) (t := ((decide (a0 ≥ 4)) && (decide (a0 ≤ 6)))) (by kernel_rfl) (fun c10 => ?_) (fun c10 => ?_)
  ·rw [if_pos c10] at G
   refine k_seq ?_
   refine k_rg mixed H (.v 2 (vI 1) <| .nil) fun u5 a w' H => ?_
   replace H := H.kp [2]
   refine k_ret ?_
   obtain rfl := Option.some.inj G
   exact k_done0 H _ (by kernel_rfl) (by kernel_rfl)
  ·rw [if_neg (nt c10)] at G
   refine k_skip ?_
   refine k_seq ?_
   refine k_seq ?_
   refine k_rg mixed H (.v 15 (vI a0) <|
   .v 16 (.bool (decide (a0 ≥ 7))) <|
   .v 17 (.bool (decide (a0 ≥ 7))) <|
   .cons [18] (ok_valg (fun u6 => vI a0) (fun u6 => ((decide (a0 ≥ 7)) == true)) [true] 18) <|
   .cons [19] (ok_valg (fun u6 => .bool (decide (a0 ≤ 10))) (fun u6 => ((decide (a0 ≥ 7)) == true)) [false, true] 19) <|
   .cons [20] (ok_and 17 19 (fun u6 => true) (fun u6 => true) (fun u6 => decide (a0 ≥ 7)) (fun u6 => decide (a0 ≤ 10)) 20) <| .nil) fun u6 a w' H => ?_
   replace H := H.kp [20]
   refine k_cond H (by kernel_rfl) (t := ((decide (a0 ≥ 7)) && (decide (a0 ≤ 10)))) (by kernel_rfl) (fun c9 => ?_) (fun c9 => ?_)
   ·rw [if_pos c9] at G
    refine k_seq ?_
    refine k_rg mixed H (.v 2 (vI 2) <| .nil) fun u7 a w' H => ?_
    replace H := H.kp [2]
    refine k_ret ?_
    obtain rfl := Option.some.inj G
    exact k_done0 H _ (by kernel_rfl) (by kernel_rfl)
   ·rw [if_neg (nt c9)] at G
    refine k_skip ?_
    refine k_seq ?_
    refine k_rg mixed H (.v 2 (vI (-1)) <| .nil) fun u8 a w' H => ?_
    replace H := H.kp [2]
    refine k_ret ?_
    obtain rfl := Option.some.inj G
    exact k_done0 H _ (by kernel_rfl) (by kernel_rfl)
set_option maxHeartbeats 4000000 in
theorem armillaryref02_Near.calls (a0 : TInterval) (a1 : Int) (r : TInterval) (w : World) (G : armillaryref02_Near a0 a1 = some r) :
  Calls Tryd.prog 23 #[.agg #[vI a0.Lo, vI a0.Hi], vI a1] w fun e w' => e = .returned (.agg #[vI r.Lo, vI r.Hi]) ∧ Below w.heap.size w w' := by
 refine k_enter (args := [.agg #[vI a0.Lo, vI a0.Hi], vI a1]) 23 Tryd.func23 rfl (by kernel_rfl) (by kernel_rfl) fun a H => ?_
 unfold armillaryref02_Near at G
 refine k_seq ?_
 refine k_rg mixed H (.cons [2, 23] (ok_new (fun b => vP b 0) (fun u1 => [vI a0.Lo, vI a0.Hi]) 28 2 23) <|
   .cons [4, 24] (ok_new (fun b => vP b 0) (fun u1 => [vI 0, vI 0]) 28 4 24) <| .nil) fun u1 a w' H => ?_
 replace H := H.kp [1, 2, 4, 23, 24]
 refine k_seq ?_
 replace G := gd G; obtain ⟨n3, G⟩ := G
 replace G := gd G; obtain ⟨n4, G⟩ := G
 refine k_rg mixed H (.v 7 (vP ((u1 0).n 0) 0) <|
   .cons [8] (ok_ld (fun u2 => vI a0.Lo) 8 23 0 1 (fun u2 => ((u1 0).n 0)) (fun u2 => [vI a0.Lo, vI a0.Hi]) 28) <|
   .v 9 (vI (Int.tmod a0.Lo 1048576)) <|
   .v 10 (vP ((u1 0).n 0) 1) <|
   .cons [11] (ok_ld (fun u2 => vI a0.Hi) 11 23 1 1 (fun u2 => ((u1 0).n 0)) (fun u2 => [vI a0.Lo, vI a0.Hi]) 28) <|
   .v 12 (vI a1) <|
   .cons [13] (ok_val (fun u2 => vI (Int.tmod a0.Hi a1)) 13 (hv := fun _ _ => run_of (by kernel_rfl) (run_rem (k := .i64) (x := a0.Hi) (y := a1) n3))) <|
   .v 14 (vI a1) <|
   .v 15 (vI (w_i64 ((Int.tmod a0.Hi a1) + a1))) <|
   .v 16 (vI a1) <|
   .cons [17] (ok_val (fun u2 => vI (Int.tmod (w_i64 ((Int.tmod a0.Hi a1) + a1)) a1)) 17 (hv := fun _ _ => run_of (by kernel_rfl) (run_rem (k := .i64) (x := w_i64 ((Int.tmod a0.Hi a1) + a1)) (y := a1) n4))) <|
   .v 5 (vI (Int.tmod a0.Lo 1048576)) <|
   .v 6 (vI (Int.tmod (w_i64 ((Int.tmod a0.Hi a1) + a1)) a1)) <| .nil) fun u2 a w' H => ?_
 replace H := H.kp [4, 5, 6, 24]
 refine k_seq ?_
 refine k_rg mixed H (.v 18 (vI (Int.tmod a0.Lo 1048576)) <|
   .v 19 (vI (Int.tmod a0.Lo 1048576)) <|
   .v 20 (vI (Int.tmod (w_i64 ((Int.tmod a0.Hi a1) + a1)) a1)) <|
   .v 21 (vI (w_i64 ((Int.tmod a0.Lo 1048576) + (Int.tmod (w_i64 ((Int.tmod a0.Hi a1) + a1)) a1)))) <|
   .v 22 (.agg #[vI (Int.tmod a0.Lo 1048576), vI (w_i64 ((Int.tmod a0.Lo 1048576) + (Int.tmod (w_i64 ((Int.tmod a0.Hi a1) + a1)) a1)))]) <|
   .cons [24] (ok_as (u' := fun u5 => [(24, .blk ((u1 1).n 0) [vI (Int.tmod a0.Lo 1048576), vI (w_i64 ((Int.tmod a0.Lo 1048576) + (Int.tmod (w_i64 ((Int.tmod a0.Hi a1) + a1)) a1)))] 28)]) (ok_store 24 0 (fun u5 => ((u1 1).n 0)) (fun u5 => [vI 0, vI 0]) (fun u5 => [vI (Int.tmod a0.Lo 1048576), vI (w_i64 ((Int.tmod a0.Lo 1048576) + (Int.tmod (w_i64 ((Int.tmod a0.Hi a1) + a1)) a1)))]) 28) (fun _ => by kernel_rfl)) <| .nil) fun u5 a w' H => ?_
 replace H := H.kp [4, 24]
 refine k_ret ?_
 obtain rfl := Option.some.inj G
 exact k_done1 H _ 24 ((u1 1).n 0) [vI (Int.tmod a0.Lo 1048576), vI (w_i64 ((Int.tmod a0.Lo 1048576) + (Int.tmod (w_i64 ((Int.tmod a0.Hi a1) + a1)) a1)))] 28 0 2 (by kernel_rfl) (by kernel_rfl) (by kernel_rfl) (by kernel_rfl)
set_option maxHeartbeats 4000000 in
theorem armillaryref08_Made.calls (k0 : Nat) (a0 : TTape) (a1 : Int) (p_a0_L : Option Addr) (c_a0_L : Nat) (p_a0_Out : Option Addr) (c_a0_Out : Nat) (r : TTape) (w : World) (hB : AllH [rdl anyF 5 p_a0_L c_a0_L a0.L en_TInstruction, rdl anyF 1 p_a0_Out c_a0_Out a0.Out en_i64] w) (G : armillaryref08_Made k0 a0 a1 = some r) :
  Calls Tryd.prog 5 #[.agg #[vI a0.N, .slice p_a0_L a0.L.length c_a0_L, .slice p_a0_Out a0.Out.length c_a0_Out], vI a1] w fun e w' => ∃ g : Gh, e = .returned (.agg #[vI r.N, .slice (g.o 0) r.L.length (g.n 0), .slice (g.o 1) r.Out.length (g.n 1)]) ∧ But (fpK []) w w' ∧ OutOK w.heap.size (fpK []) (frI w.heap.size []) [fun _ => owK 50 5 (g.o 0) r.L.length (g.n 0) (r.L.flatMap en_TInstruction), fun _ => owK 3 1 (g.o 1) r.Out.length (g.n 1) (r.Out.flatMap en_i64)] w' := by
 obtain ⟨fr, hfr⟩ : ∃ fr : Nat → Prop, fr = frI w.heap.size [] := ⟨_, rfl⟩
 have hBf : ∀ j, w.heap.size ≤ j → fr j := fun j h => by rw [hfr]; exact .inl h
 refine k_enterF (args := [.agg #[vI a0.N, .slice p_a0_L a0.L.length c_a0_L, .slice p_a0_Out a0.Out.length c_a0_Out], vI a1]) 142 [(142, rdl anyF 5 p_a0_L c_a0_L a0.L en_TInstruction), (143, rdl anyF 1 p_a0_Out c_a0_Out a0.Out en_i64)] (by
  intro x hx
  simp only [List.mem_cons, List.not_mem_nil, or_false] at hx
  rcases hx with rfl | rfl
  ·exact rdF_fact (rdF_of hB.1) (fun _ _ => trivial) (by decide) _
  ·exact rdF_fact (rdF_of hB.2.1) (fun _ _ => trivial) (by decide) _) Tryd.func5 rfl (by kernel_rfl) (by kernel_rfl) fun a H => ?_
 unfold armillaryref08_Made at G
 refine k_seq ?_
 refine k_rg mixed H (.cons [2, 144] (ok_new (fun b => vP b 0) (fun u1 => [vI a0.N, .slice p_a0_L a0.L.length c_a0_L, .slice p_a0_Out a0.Out.length c_a0_Out]) 25 2 144) <|
   .cons [4, 145] (ok_new (fun b => vP b 0) (fun u1 => [vI 0, .slice none 0 0, .slice none 0 0]) 25 4 145) <| .nil) fun u1 a w' H => ?_
 replace H := H.kp [1, 2, 4, 142, 143, 144, 145]
 refine k_seq ?_
 refine k_rg mixed H (.v 11 (vP ((u1 0).n 0) 0) <|
   .cons [12] (ok_ld (fun u2 => vI a0.N) 12 144 0 1 (fun u2 => ((u1 0).n 0)) (fun u2 => [vI a0.N, .slice p_a0_L a0.L.length c_a0_L, .slice p_a0_Out a0.Out.length c_a0_Out]) 25) <|
   .v 13 (vI (b_and .i64 a0.N 255)) <|
   .v 14 (vI (Int.tmod (b_and .i64 a0.N 255) 3)) <|
   .v 15 (vI (w_i64 (1 + (Int.tmod (b_and .i64 a0.N 255) 3)))) <|
   .v 16 (.agg #[vI (w_i64 (1 + (Int.tmod (b_and .i64 a0.N 255) 3))), .slice none 0 0, .slice none 0 0]) <|
   .cons [5, 146] (ok_new (fun b => vP b 0) (fun u2 => [vI 0, .slice none 0 0, .slice none 0 0]) 25 5 146) <|
   .cons [146] (ok_as (u' := fun u2 => [(146, .blk ((u2 6).n 0) [vI (w_i64 (1 + (Int.tmod (b_and .i64 a0.N 255) 3))), .slice none 0 0, .slice none 0 0] 25)]) (ok_store 146 0 (fun u2 => ((u2 6).n 0)) (fun u2 => [vI 0, .slice none 0 0, .slice none 0 0]) (fun u2 => [vI (w_i64 (1 + (Int.tmod (b_and .i64 a0.N 255) 3))), .slice none 0 0, .slice none 0 0]) 25) (fun _ => by kernel_rfl)) <| .nil) fun u2 a w' H => ?_
 replace H := H.kp [1, 2, 4, 5, 142, 143, 144, 145, 146]
 refine k_seq ?_
 replace G := bnd G; obtain ⟨j4, hj4, G⟩ := G
 refine k_join (fun a w' => ∃ (p_j3 : Option Addr) (c_j3 np_j3 : Nat), np_j3 = j4.length ∧ Rep w.heap.size w 142 (ofL [(2, (sP ((u1 0).n 0) 0)), (4, (sP ((u1 1).n 0) 0)), (5, (sP ((u2 6).n 0) 0)), (142, rdl anyF 5 p_a0_L c_a0_L a0.L en_TInstruction), (143, rdl anyF 1 p_a0_Out c_a0_Out a0.Out en_i64), (144, .blk ((u1 0).n 0) [vI a0.N, .slice p_a0_L a0.L.length c_a0_L, .slice p_a0_Out a0.Out.length c_a0_Out] 25), (145, .blk ((u1 1).n 0) [vI 0, .slice none 0 0, .slice none 0 0] 25), (146, .blk ((u2 6).n 0) [vI (w_i64 (1 + (Int.tmod (b_and .i64 a0.N 255) 3))), .slice p_j3 np_j3 c_j3, .slice none 0 0] 25), (900039, owK 50 5 p_j3 np_j3 c_j3 (j4.flatMap en_TInstruction))]) a w') ?_ ?_
 ·clear H; rintro a w' ⟨p_j3, c_j3, _, rfl, H⟩
  refine k_seq ?_
  replace G := bnd G; obtain ⟨j6, hj6, G⟩ := G
  refine k_join (fun a w' => ∃ (p_j5 : Option Addr) (c_j5 np_j5 : Nat), np_j5 = j6.length ∧ Rep w.heap.size w 142 (ofL [(2, (sP ((u1 0).n 0) 0)), (4, (sP ((u1 1).n 0) 0)), (5, (sP ((u2 6).n 0) 0)), (142, rdl anyF 5 p_a0_L c_a0_L a0.L en_TInstruction), (143, rdl anyF 1 p_a0_Out c_a0_Out a0.Out en_i64), (144, .blk ((u1 0).n 0) [vI a0.N, .slice p_a0_L a0.L.length c_a0_L, .slice p_a0_Out a0.Out.length c_a0_Out] 25), (145, .blk ((u1 1).n 0) [vI 0, .slice none 0 0, .slice none 0 0] 25), (146, .blk ((u2 6).n 0) [vI (w_i64 (1 + (Int.tmod (b_and .i64 a0.N 255) 3))), .slice p_j5 np_j5 c_j5, .slice none 0 0] 25), (900040, owK 50 5 p_j5 np_j5 c_j5 (j6.flatMap en_TInstruction))]) a w') ?_ ?_
  ·clear H; rintro a w' ⟨p_j5, c_j5, _, rfl, H⟩
   refine k_seq ?_
   replace G := bnd G; obtain ⟨j8, hj8, G⟩ := G
   refine k_join (fun a w' => ∃ (p_j7 : Option Addr) (c_j7 np_j7 : Nat), np_j7 = j8.length ∧ Rep w.heap.size w 142 (ofL [(4, (sP ((u1 1).n 0) 0)), (5, (sP ((u2 6).n 0) 0)), (145, .blk ((u1 1).n 0) [vI 0, .slice none 0 0, .slice none 0 0] 25), (146, .blk ((u2 6).n 0) [vI (w_i64 (1 + (Int.tmod (b_and .i64 a0.N 255) 3))), .slice p_j5 j6.length c_j5, .slice p_j7 np_j7 c_j7] 25), (900040, owK 50 5 p_j5 j6.length c_j5 (j6.flatMap en_TInstruction)), (900041, owK 3 1 p_j7 np_j7 c_j7 (j8.flatMap en_i64))]) a w') ?_ ?_
   ·clear H; rintro a w' ⟨p_j7, c_j7, _, rfl, H⟩
    refine k_seq ?_
    refine k_rg mixed H (.cons [141] (ok_ld (fun u9 => .agg #[vI (w_i64 (1 + (Int.tmod (b_and .i64 a0.N 255) 3))), .slice p_j5 j6.length c_j5, .slice p_j7 j8.length c_j7]) 141 146 0 3 (fun u9 => ((u2 6).n 0)) (fun u9 => [vI (w_i64 (1 + (Int.tmod (b_and .i64 a0.N 255) 3))), .slice p_j5 j6.length c_j5, .slice p_j7 j8.length c_j7]) 25) <|
   .cons [145] (ok_as (u' := fun u9 => [(145, .blk ((u1 1).n 0) [vI (w_i64 (1 + (Int.tmod (b_and .i64 a0.N 255) 3))), .slice p_j5 j6.length c_j5, .slice p_j7 j8.length c_j7] 25)]) (ok_store 145 0 (fun u9 => ((u1 1).n 0)) (fun u9 => [vI 0, .slice none 0 0, .slice none 0 0]) (fun u9 => [vI (w_i64 (1 + (Int.tmod (b_and .i64 a0.N 255) 3))), .slice p_j5 j6.length c_j5, .slice p_j7 j8.length c_j7]) 25) (fun _ => by kernel_rfl)) <| .nil) fun u9 a w' H => ?_
    replace H := H.kp [4, 145, 900040, 900041]
    refine k_ret ?_
    obtain rfl := Option.some.inj G
    obtain ⟨g, o0, n0, o1, n1⟩ : ∃ g : Gh, g.o 0 = p_j5 ∧ g.n 0 = c_j5 ∧ g.o 1 = p_j7 ∧ g.n 1 = c_j7 := ⟨⟨fun i => [c_j5, c_j7].getD i 0, fun i => [p_j5, p_j7].getD i none, fun i => ([⟨Unit, ()⟩, ⟨Unit, ()⟩] : List ((T : Type) × T)).getD i ⟨Unit, ()⟩⟩, rfl, rfl, rfl, rfl⟩
    refine k_doneZ H (fun g => .agg #[vI (w_i64 (1 + (Int.tmod (b_and .i64 a0.N 255) 3))), .slice (g.o 0) j6.length (g.n 0), .slice (g.o 1) j8.length (g.n 1)]) g [] [] (fun g => [fun _ => owK 50 5 (g.o 0) j6.length (g.n 0) (j6.flatMap en_TInstruction), fun _ => owK 3 1 (g.o 1) j8.length (g.n 1) (j8.flatMap en_i64)]) fr [900040, 900041] [(145, ⟨((u1 1).n 0), [vI (w_i64 (1 + (Int.tmod (b_and .i64 a0.N 255) 3))), .slice p_j5 j6.length c_j5, .slice p_j7 j8.length c_j7], 0, 3⟩)] (.agg #[vI (w_i64 (1 + (Int.tmod (b_and .i64 a0.N 255) 3))), .slice p_j5 j6.length c_j5, .slice p_j7 j8.length c_j7]) [fun _ => owK 50 5 p_j5 j6.length c_j5 (j6.flatMap en_TInstruction), fun _ => owK 3 1 p_j7 j8.length c_j7 (j8.flatMap en_i64)] (by simp only [o0, n0, o1, n1]) (by simp only [o0, n0, o1, n1]) hfr (.inl ⟨rfl, rfl⟩) (fams_cons fam_ow (fams_cons fam_ow fams_nil)) (by intro p hp; simp only [List.mem_cons, List.not_mem_nil, or_false] at hp; rcases hp with rfl; exact ⟨⟨25, by kernel_rfl⟩, by kernel_rfl⟩)
   ·clear G; replace G := hj8; clear hj8
    refine k_seq ?_
    refine k_rg mixed H (.v 9 (vI 0) <| .nil) fun u10 a w' H => ?_
    replace H := H.kp [2, 4, 5, 9, 142, 143, 144, 145, 146, 900040]
    refine k_block ?_
    replace H := H.nil_row 150 3 1
    replace H := H.move (K := owK 3 1 none 0 0 (([] : List Int).flatMap en_i64)) 150 900042 (by kernel_rfl) (by intro _ _ h; cases h)
    refine k_loopJ (fun m a w' => ∃ x11 : List Int, ∃ x12 : Int, armillaryref08_Made.l13 k0 a0 a1 j4 j6 m x11 x12 = some j8 ∧ ∃ (p_x11 : Option Addr) (c_x11 np_x11 : Nat), np_x11 = x11.length ∧ Rep w.heap.size w 142 (ofL [(2, (sP ((u1 0).n 0) 0)), (4, (sP ((u1 1).n 0) 0)), (5, (sP ((u2 6).n 0) 0)), (9, sI x12), (142, rdl anyF 5 p_a0_L c_a0_L a0.L en_TInstruction), (143, rdl anyF 1 p_a0_Out c_a0_Out a0.Out en_i64), (144, .blk ((u1 0).n 0) [vI a0.N, .slice p_a0_L a0.L.length c_a0_L, .slice p_a0_Out a0.Out.length c_a0_Out] 25), (145, .blk ((u1 1).n 0) [vI 0, .slice none 0 0, .slice none 0 0] 25), (146, .blk ((u2 6).n 0) [vI (w_i64 (1 + (Int.tmod (b_and .i64 a0.N 255) 3))), .slice p_j5 j6.length c_j5, .slice p_x11 np_x11 c_x11] 25), (900040, owK 50 5 p_j5 j6.length c_j5 (j6.flatMap en_TInstruction)), (900042, owK 3 1 p_x11 np_x11 c_x11 (x11.flatMap en_i64))]) a w') k0 ⟨_, _, G, none, 0, 0, rfl, H.toL _ (by kernel_rfl)⟩ ?_
    clear G H
    rintro (_ | k) a w' ⟨x11, x12, G, p_x11, c_x11, _, rfl, H⟩
    ·exact absurd G (by unfold armillaryref08_Made.l13; exact fun h => by cases h)
    ·unfold armillaryref08_Made.l13 at G
     refine k_seq ?_
     refine k_seq ?_
     refine k_rg mixed H (.v 110 (vI x12) <|
   .v 111 (vP ((u2 6).n 0) 0) <|
   .cons [112] (ok_ld (fun u14 => vI (w_i64 (1 + (Int.tmod (b_and .i64 a0.N 255) 3)))) 112 146 0 1 (fun u14 => ((u2 6).n 0)) (fun u14 => [vI (w_i64 (1 + (Int.tmod (b_and .i64 a0.N 255) 3))), .slice p_j5 j6.length c_j5, .slice p_x11 x11.length c_x11]) 25) <|
   .v 113 (.bool (decide (x12 < (w_i64 (1 + (Int.tmod (b_and .i64 a0.N 255) 3)))))) <| .nil) fun u14 a w' H => ?_
     replace H := H.kp [2, 4, 5, 9, 113, 142, 143, 144, 145, 146, 900040, 900042]
     refine k_cond H (by kernel_rfl) (t := decide (x12 < (w_i64 (1 + (Int.tmod (b_and .i64 a0.N 255) 3))))) (by kernel_rfl) (fun c28 => ?_) (fun c28 => ?_)
     ·rw [if_pos c28] at G
      refine k_skip ?_
      refine k_seq ?_
      refine k_block ?_
      refine k_seq ?_
      refine k_rg mixed H (.v 116 (vP ((u2 6).n 0) 1) <|
   .cons [117] (ok_ld (fun u15 => .slice p_j5 j6.length c_j5) 117 146 1 1 (fun u15 => ((u2 6).n 0)) (fun u15 => [vI (w_i64 (1 + (Int.tmod (b_and .i64 a0.N 255) 3))), .slice p_j5 j6.length c_j5, .slice p_x11 x11.length c_x11]) 25) <|
   .v 118 (vI (j6.length : Int)) <|
   .v 119 (vI (w_i64 ((j6.length : Int) - 1))) <|
   .v 10 (vI (w_i64 ((j6.length : Int) - 1))) <| .nil) fun u15 a w' H => ?_
      replace H := H.kp [2, 4, 5, 9, 10, 142, 143, 144, 145, 146, 900040, 900042]
      refine k_seq ?_
      replace G := bnd G; obtain ⟨j17, hj17, G⟩ := G
      refine k_join (fun a w' => Rep w.heap.size w 142 (ofL [(2, (sP ((u1 0).n 0) 0)), (4, (sP ((u1 1).n 0) 0)), (5, (sP ((u2 6).n 0) 0)), (9, sI x12), (10, sI j17), (142, rdl anyF 5 p_a0_L c_a0_L a0.L en_TInstruction), (143, rdl anyF 1 p_a0_Out c_a0_Out a0.Out en_i64), (144, .blk ((u1 0).n 0) [vI a0.N, .slice p_a0_L a0.L.length c_a0_L, .slice p_a0_Out a0.Out.length c_a0_Out] 25), (145, .blk ((u1 1).n 0) [vI 0, .slice none 0 0, .slice none 0 0] 25), (146, .blk ((u2 6).n 0) [vI (w_i64 (1 + (Int.tmod (b_and .i64 a0.N 255) 3))), .slice p_j5 j6.length c_j5, .slice p_x11 x11.length c_x11] 25), (900040, owK 50 5 p_j5 j6.length c_j5 (j6.flatMap en_TInstruction)), (900042, owK 3 1 p_x11 x11.length c_x11 (x11.flatMap en_i64))]) a w') ?_ ?_
      ·clear H; intro a w' H
       replace G := gd G; obtain ⟨b19, G⟩ := G
       refine k_rg mixed H (.v 135 (vP ((u2 6).n 0) 2) <|
   .cons [136] (ok_ld (fun u18 => .slice p_x11 x11.length c_x11) 136 146 2 1 (fun u18 => ((u2 6).n 0)) (fun u18 => [vI (w_i64 (1 + (Int.tmod (b_and .i64 a0.N 255) 3))), .slice p_j5 j6.length c_j5, .slice p_x11 x11.length c_x11]) 25) <|
   .v 137 (vI j17) <|
   .cons [138, 147] (ok_new (fun b => .slice (some ⟨b, 0, none⟩) 1 1) (fun u18 => [vI j17]) 3 138 147) <|
   .cons [139, 900042, 900042] (ok_own1 [3] [147] (fun u18 => [.blk ((u18 3).n 0) [vI j17] 3]) 900042 (fun u18 => owK 3 1 p_x11 x11.length c_x11 (x11.flatMap en_i64)) (some 139) (fun u18 g => .slice (g.o 0) (x11 ++ [j17]).length (g.n 0)) (fun u18 g => owK 3 1 (g.o 0) ((x11 ++ [j17]).length) (g.n 0) ((x11 ++ [j17]).flatMap en_i64)) (fun u18 w hF hK => tv_app (run_app_rowN (t := 23) (ty := 23) (en := en_i64) en_i64_len inf3 (ow_of hK) hF.1 (news := [j17]) rfl (by simp) (by kernel_rfl) b19)) (hloc := fun u u' h => ⟨by first | rfl | simp only [h 3 (by decide)], by first | rfl | simp only [h 3 (by decide)], by first | rfl | simp only [h 3 (by decide)], by first | rfl | simp only [h 3 (by decide)]⟩)) <|
   .v 140 (vP ((u2 6).n 0) 2) <|
   .cons [146] (ok_as (u' := fun u18 => [(146, .blk ((u2 6).n 0) [vI (w_i64 (1 + (Int.tmod (b_and .i64 a0.N 255) 3))), .slice p_j5 j6.length c_j5, .slice ((u18 4).o 0) ((x11 ++ [j17]).length) ((u18 4).n 0)] 25)]) (ok_store 146 2 (fun u18 => ((u2 6).n 0)) (fun u18 => [vI (w_i64 (1 + (Int.tmod (b_and .i64 a0.N 255) 3))), .slice p_j5 j6.length c_j5, .slice p_x11 x11.length c_x11]) (fun u18 => [.slice ((u18 4).o 0) ((x11 ++ [j17]).length) ((u18 4).n 0)]) 25) (fun _ => by kernel_rfl)) <| .nil) fun u18 a w' H => ?_
       replace H := H.kp [2, 4, 5, 9, 142, 143, 144, 145, 146, 900040, 900042]
       refine k_rg mixed H (.v 114 (vI x12) <|
   .v 115 (vI (w_i64 (x12 + 1))) <|
   .v 9 (vI (w_i64 (x12 + 1))) <| .nil) fun u20 a w' H => ?_
       replace H := H.kp [2, 4, 5, 9, 142, 143, 144, 145, 146, 900040, 900042]
       exact ⟨k, Nat.lt_succ_self k, _, _, G, ((u18 4).o 0), ((u18 4).n 0), (x11 ++ [j17]).length, rfl, H.toL _ (by kernel_rfl)⟩
      ·clear G; replace G := hj17; clear hj17
       refine k_seq ?_
       refine k_rg mixed H (.v 120 (vI x12) <|
   .v 121 (vP ((u1 0).n 0) 2) <|
   .cons [122] (ok_ld (fun u21 => .slice p_a0_Out a0.Out.length c_a0_Out) 122 144 2 1 (fun u21 => ((u1 0).n 0)) (fun u21 => [vI a0.N, .slice p_a0_L a0.L.length c_a0_L, .slice p_a0_Out a0.Out.length c_a0_Out]) 25) <|
   .v 123 (vI (a0.Out.length : Int)) <|
   .v 124 (.bool (decide (x12 < (a0.Out.length : Int)))) <| .nil) fun u21 a w' H => ?_
       replace H := H.kp [2, 4, 5, 9, 10, 124, 142, 143, 144, 145, 146, 900040, 900042]
       refine k_cond H (by kernel_rfl) (t := decide (x12 < (a0.Out.length : Int))) (by kernel_rfl) (fun c27 => ?_) (fun c27 => ?_)
       ·rw [if_pos c27] at G
        replace G := gd G; obtain ⟨b23, G⟩ := G
        replace G := bnd G; obtain ⟨t24, ht24, G⟩ := G
        have P25 := ptr_of (en := en_i64) (l := a0.Out) (rdF_of (H.at (K := rdl anyF 1 p_a0_Out c_a0_Out a0.Out en_i64) 143 (by kernel_rfl))).2 en_i64_len
        replace G := gd G; obtain ⟨n26, G⟩ := G
        refine k_rg mixed H (.v 125 (vP ((u1 0).n 0) 2) <|
   .cons [126] (ok_ld (fun u22 => .slice p_a0_Out a0.Out.length c_a0_Out) 126 144 2 1 (fun u22 => ((u1 0).n 0)) (fun u22 => [vI a0.N, .slice p_a0_L a0.L.length c_a0_L, .slice p_a0_Out a0.Out.length c_a0_Out]) 25) <|
   .v 127 (vI x12) <|
   .cons [128] (ok_val (fun u22 => .pointer (some ⟨hdB p_a0_Out, hdO p_a0_Out + x12.toNat * 1, none⟩)) 128 (hv := fun _ _ => ix_pure (t := 23) (k := .i64) (i := x12) (p := p_a0_Out) (n := a0.Out.length) (cap := c_a0_Out) (x := a0.Out) P25 rfl b23 (by kernel_rfl))) <|
   .cons [129] (ok_valL [143] (fun u22 => [rdl anyF 1 p_a0_Out c_a0_Out a0.Out en_i64]) (fun u22 => vI t24) (fun u22 => true) [true] 129 (fun u22 w hg hF => ld_row (en := en_i64) (rdF_of hF.1).2 en_i64_len ht24 0 1 [vI t24] rfl (by kernel_rfl))) <|
   .v 130 (vI (b_and .i64 t24 65535)) <|
   .v 131 (vP ((u2 6).n 0) 1) <|
   .cons [132] (ok_ld (fun u22 => .slice p_j5 j6.length c_j5) 132 146 1 1 (fun u22 => ((u2 6).n 0)) (fun u22 => [vI (w_i64 (1 + (Int.tmod (b_and .i64 a0.N 255) 3))), .slice p_j5 j6.length c_j5, .slice p_x11 x11.length c_x11]) 25) <|
   .v 133 (vI (j6.length : Int)) <|
   .cons [134] (ok_val (fun u22 => vI (Int.tmod (b_and .i64 t24 65535) (j6.length : Int))) 134 (hv := fun _ _ => run_of (by kernel_rfl) (run_rem (k := .i64) (x := b_and .i64 t24 65535) (y := (j6.length : Int)) n26))) <|
   .v 10 (vI (Int.tmod (b_and .i64 t24 65535) (j6.length : Int))) <| .nil) fun u22 a w' H => ?_
        replace H := H.kp [2, 4, 5, 9, 10, 142, 143, 144, 145, 146, 900040, 900042]
        obtain rfl := Option.some.inj G
        exact H.toL _ (by kernel_rfl)
       ·rw [if_neg (nt c27)] at G
        refine k_skip ?_
        obtain rfl := Option.some.inj G
        exact H.toL _ (by kernel_rfl)
     ·rw [if_neg (nt c28)] at G
      refine k_exit rfl ?_
      obtain rfl := Option.some.inj G
      replace H := H.move (K := owK 3 1 p_x11 x11.length c_x11 (x11.flatMap en_i64)) 900042 900041 (by kernel_rfl) (by intro _ _ h; cases h)
      exact ⟨p_x11, c_x11, x11.length, rfl, H.toL _ (by kernel_rfl)⟩
  ·clear G; replace G := hj6; clear hj6
   refine k_seq ?_
   refine k_rg mixed H (.v 103 (vP ((u2 6).n 0) 1) <|
   .cons [104] (ok_ld (fun u29 => .slice p_j3 j4.length c_j3) 104 146 1 1 (fun u29 => ((u2 6).n 0)) (fun u29 => [vI (w_i64 (1 + (Int.tmod (b_and .i64 a0.N 255) 3))), .slice p_j3 j4.length c_j3, .slice none 0 0]) 25) <|
   .v 105 (vI (j4.length : Int)) <|
   .v 106 (.bool ((j4.length : Int) == 0)) <| .nil) fun u29 a w' H => ?_
   replace H := H.kp [2, 4, 5, 106, 142, 143, 144, 145, 146, 900039]
   refine k_cond H (by kernel_rfl) (t := ((j4.length : Int) == 0)) (by kernel_rfl) (fun c31 => ?_) (fun c31 => ?_)
   ·rw [if_pos c31] at G
    refine k_rg mixed H (.v 107 (.agg #[vI 2, vI 0, vI 0, vI 0, vI 0]) <|
   .cons [108, 152] (ok_new (fun b => .slice (some ⟨b, 0, none⟩) 1 1) (fun u30 => [vI 2, vI 0, vI 0, vI 0, vI 0]) 50 108 152) <|
   .v 109 (vP ((u2 6).n 0) 1) <|
   .cons [146] (ok_as (u' := fun u30 => [(146, .blk ((u2 6).n 0) [vI (w_i64 (1 + (Int.tmod (b_and .i64 a0.N 255) 3))), .slice (some ⟨((u30 1).n 0), 0, none⟩) 1 1, .slice none 0 0] 25)]) (ok_store 146 1 (fun u30 => ((u2 6).n 0)) (fun u30 => [vI (w_i64 (1 + (Int.tmod (b_and .i64 a0.N 255) 3))), .slice p_j3 j4.length c_j3, .slice none 0 0]) (fun u30 => [.slice (some ⟨((u30 1).n 0), 0, none⟩) 1 1]) 25) (fun _ => by kernel_rfl)) <| .nil) fun u30 a w' H => ?_
    replace H := H.kp [2, 4, 5, 142, 143, 144, 145, 146, 152]
    obtain rfl := Option.some.inj G
    replace H := H.blk_row 152 ((u30 1).n 0) [vI 2, vI 0, vI 0, vI 0, vI 0] 50 5 1 (by kernel_rfl) (by kernel_rfl) (by decide)
    replace H := H.move (K := owK 50 5 (some ⟨((u30 1).n 0), 0, none⟩) 1 1 (([(⟨2, 0, 0, (⟨0, 0⟩ : TInterval)⟩ : TInstruction)] : List TInstruction).flatMap en_TInstruction)) 152 900040 (by kernel_rfl) (by intro _ _ h; cases h)
    exact ⟨(some ⟨((u30 1).n 0), 0, none⟩), 1, 1, rfl, H.toL _ (by kernel_rfl)⟩
   ·rw [if_neg (nt c31)] at G
    refine k_skip ?_
    obtain rfl := Option.some.inj G
    replace H := H.move (K := owK 50 5 p_j3 j4.length c_j3 (j4.flatMap en_TInstruction)) 900039 900040 (by kernel_rfl) (by intro _ _ h; cases h)
    exact ⟨p_j3, c_j3, j4.length, rfl, H.toL _ (by kernel_rfl)⟩
 ·clear G; replace G := hj4; clear hj4
  refine k_seq ?_
  refine k_rg mixed H (.v 6 (vI 0) <| .nil) fun u32 a w' H => ?_
  replace H := H.kp [1, 2, 4, 5, 6, 142, 143, 144, 145, 146]
  refine k_block ?_
  replace H := H.nil_row 159 50 5
  replace H := H.move (K := owK 50 5 none 0 0 (([] : List TInstruction).flatMap en_TInstruction)) 159 900043 (by kernel_rfl) (by intro _ _ h; cases h)
  refine k_loopJ (fun m a w' => ∃ x33 : List TInstruction, ∃ x34 : Int, armillaryref08_Made.l35 k0 a0 a1 m x33 x34 = some j4 ∧ ∃ (p_x33 : Option Addr) (c_x33 np_x33 : Nat), np_x33 = x33.length ∧ Rep w.heap.size w 142 (ofL [(1, sI a1), (2, (sP ((u1 0).n 0) 0)), (4, (sP ((u1 1).n 0) 0)), (5, (sP ((u2 6).n 0) 0)), (6, sI x34), (142, rdl anyF 5 p_a0_L c_a0_L a0.L en_TInstruction), (143, rdl anyF 1 p_a0_Out c_a0_Out a0.Out en_i64), (144, .blk ((u1 0).n 0) [vI a0.N, .slice p_a0_L a0.L.length c_a0_L, .slice p_a0_Out a0.Out.length c_a0_Out] 25), (145, .blk ((u1 1).n 0) [vI 0, .slice none 0 0, .slice none 0 0] 25), (146, .blk ((u2 6).n 0) [vI (w_i64 (1 + (Int.tmod (b_and .i64 a0.N 255) 3))), .slice p_x33 np_x33 c_x33, .slice none 0 0] 25), (900043, owK 50 5 p_x33 np_x33 c_x33 (x33.flatMap en_TInstruction))]) a w') k0 ⟨_, _, G, none, 0, 0, rfl, H.toL _ (by kernel_rfl)⟩ ?_
  clear G H
  rintro (_ | k) a w' ⟨x33, x34, G, p_x33, c_x33, _, rfl, H⟩
  ·exact absurd G (by unfold armillaryref08_Made.l35; exact fun h => by cases h)
  ·unfold armillaryref08_Made.l35 at G
   refine k_seq ?_
   refine k_seq ?_
   refine k_rg mixed H (.v 17 (vI x34) <|
   .v 18 (vP ((u1 0).n 0) 1) <|
   .cons [19] (ok_ld (fun u36 => .slice p_a0_L a0.L.length c_a0_L) 19 144 1 1 (fun u36 => ((u1 0).n 0)) (fun u36 => [vI a0.N, .slice p_a0_L a0.L.length c_a0_L, .slice p_a0_Out a0.Out.length c_a0_Out]) 25) <|
   .v 20 (vI (a0.L.length : Int)) <|
   .v 21 (.bool (decide (x34 < (a0.L.length : Int)))) <|
   .v 22 (.bool (decide (x34 < (a0.L.length : Int)))) <|
   .cons [23] (ok_valg (fun u36 => vI x34) (fun u36 => ((decide (x34 < (a0.L.length : Int))) == true)) [true] 23) <|
   .cons [24] (ok_valg (fun u36 => vI a1) (fun u36 => ((decide (x34 < (a0.L.length : Int))) == true)) [true] 24) <|
   .cons [25] (ok_valg (fun u36 => .bool (decide (x34 < a1))) (fun u36 => ((decide (x34 < (a0.L.length : Int))) == true)) [false, false] 25) <|
   .cons [26] (ok_and 22 25 (fun u36 => true) (fun u36 => true) (fun u36 => decide (x34 < (a0.L.length : Int))) (fun u36 => decide (x34 < a1)) 26) <| .nil) fun u36 a w' H => ?_
   replace H := H.kp [1, 2, 4, 5, 6, 23, 24, 25, 26, 142, 143, 144, 145, 146, 900043]
   refine k_cond H (by kernel_rfl) (t := ((decide (x34 < (a0.L.length : Int))) && (decide (x34 < a1)))) (by kernel_rfl) (fun c86 => ?_) (fun c86 => ?_)
   ·rw [if_pos c86] at G
    refine k_skip ?_
    refine k_seq ?_
    refine k_block ?_
    refine k_seq ?_
    replace G := gd G; obtain ⟨b38, G⟩ := G
    replace G := bnd G; obtain ⟨t39, ht39, G⟩ := G
    refine k_rg mixed H (.v 29 (vP ((u1 0).n 0) 1) <|
   .cons [30] (ok_ld (fun u37 => .slice p_a0_L a0.L.length c_a0_L) 30 144 1 1 (fun u37 => ((u1 0).n 0)) (fun u37 => [vI a0.N, .slice p_a0_L a0.L.length c_a0_L, .slice p_a0_Out a0.Out.length c_a0_Out]) 25) <|
   .v 31 (vI x34) <|
   .cons [32] (ok_valL [142] (fun u37 => [rdl anyF 5 p_a0_L c_a0_L a0.L en_TInstruction]) (fun u37 => .pointer (some ⟨hdB p_a0_L, hdO p_a0_L + x34.toNat * 5, none⟩)) (fun u37 => true) [true, true] 32 (fun u37 w hg hF => ix_row (t := 22) (k := .i64) (i := x34) (p := p_a0_L) (n := a0.L.length) (cap := c_a0_L) (x := a0.L) (en := en_TInstruction) (rdF_of hF.1).2 en_TInstruction_len rfl b38 (by kernel_rfl))) <|
   .v 33 (.pointer (some ⟨hdB p_a0_L, hdO p_a0_L + x34.toNat * 5 + 0, none⟩)) <|
   .cons [34] (ok_valL [142] (fun u37 => [rdl anyF 5 p_a0_L c_a0_L a0.L en_TInstruction]) (fun u37 => vI t39.Op) (fun u37 => true) [true] 34 (fun u37 w hg hF => ld_row (en := en_TInstruction) (rdF_of hF.1).2 en_TInstruction_len ht39 0 1 [vI t39.Op] rfl (by kernel_rfl))) <|
   .v 35 (vI (w_i64 (t39.Op + 9))) <|
   .v 36 (vI (b_and .i64 (w_i64 (t39.Op + 9)) 255)) <|
   .v 37 (vI (Int.tmod (b_and .i64 (w_i64 (t39.Op + 9)) 255) 10)) <|
   .v 38 (vI (w_i64 (1 + (Int.tmod (b_and .i64 (w_i64 (t39.Op + 9)) 255) 10)))) <|
   .v 7 (vI (w_i64 (1 + (Int.tmod (b_and .i64 (w_i64 (t39.Op + 9)) 255) 10)))) <| .nil) fun u37 a w' H => ?_
    replace H := H.kp [1, 2, 4, 5, 6, 7, 23, 24, 25, 142, 143, 144, 145, 146, 900043]
    refine k_seq ?_
    replace G := bnd G; obtain ⟨j41, hj41, G⟩ := G
    refine k_join (fun a w' => Rep w.heap.size w 142 (ofL [(1, sI a1), (2, (sP ((u1 0).n 0) 0)), (4, (sP ((u1 1).n 0) 0)), (5, (sP ((u2 6).n 0) 0)), (6, sI x34), (7, sI j41), (142, rdl anyF 5 p_a0_L c_a0_L a0.L en_TInstruction), (143, rdl anyF 1 p_a0_Out c_a0_Out a0.Out en_i64), (144, .blk ((u1 0).n 0) [vI a0.N, .slice p_a0_L a0.L.length c_a0_L, .slice p_a0_Out a0.Out.length c_a0_Out] 25), (145, .blk ((u1 1).n 0) [vI 0, .slice none 0 0, .slice none 0 0] 25), (146, .blk ((u2 6).n 0) [vI (w_i64 (1 + (Int.tmod (b_and .i64 a0.N 255) 3))), .slice p_x33 x33.length c_x33, .slice none 0 0] 25), (900043, owK 50 5 p_x33 x33.length c_x33 (x33.flatMap en_TInstruction))]) a w') ?_ ?_
    ·clear H; intro a w' H
     refine k_seq ?_
     refine k_rg mixed H (.v 46 (vI j41) <|
   .v 47 (.agg #[vI j41, vI 0, vI 0, vI 0, vI 0]) <|
   .cons [8, 155] (ok_new (fun b => vP b 0) (fun u42 => [vI 0, vI 0, vI 0, vI 0, vI 0]) 50 8 155) <|
   .cons [155] (ok_as (u' := fun u42 => [(155, .blk ((u42 2).n 0) [vI j41, vI 0, vI 0, vI 0, vI 0] 50)]) (ok_store 155 0 (fun u42 => ((u42 2).n 0)) (fun u42 => [vI 0, vI 0, vI 0, vI 0, vI 0]) (fun u42 => [vI j41, vI 0, vI 0, vI 0, vI 0]) 50) (fun _ => by kernel_rfl)) <| .nil) fun u42 a w' H => ?_
     replace H := H.kp [1, 2, 4, 5, 6, 7, 8, 142, 143, 144, 145, 146, 155, 900043]
     refine k_seq ?_
     replace G := bnd G; obtain ⟨j44, hj44, G⟩ := G
     refine k_join (fun a w' => Rep w.heap.size w 142 (ofL [(1, sI a1), (2, (sP ((u1 0).n 0) 0)), (4, (sP ((u1 1).n 0) 0)), (5, (sP ((u2 6).n 0) 0)), (6, sI x34), (7, sI j41), (8, (sP ((u42 2).n 0) 0)), (142, rdl anyF 5 p_a0_L c_a0_L a0.L en_TInstruction), (143, rdl anyF 1 p_a0_Out c_a0_Out a0.Out en_i64), (144, .blk ((u1 0).n 0) [vI a0.N, .slice p_a0_L a0.L.length c_a0_L, .slice p_a0_Out a0.Out.length c_a0_Out] 25), (145, .blk ((u1 1).n 0) [vI 0, .slice none 0 0, .slice none 0 0] 25), (146, .blk ((u2 6).n 0) [vI (w_i64 (1 + (Int.tmod (b_and .i64 a0.N 255) 3))), .slice p_x33 x33.length c_x33, .slice none 0 0] 25), (155, .blk ((u42 2).n 0) [vI j41, vI j44, vI 0, vI 0, vI 0] 50), (900043, owK 50 5 p_x33 x33.length c_x33 (x33.flatMap en_TInstruction))]) a w') ?_ ?_
     ·clear H; intro a w' H
      refine k_seq ?_
      replace G := bnd G; obtain ⟨j46, hj46, G⟩ := G
      refine k_join (fun a w' => Rep w.heap.size w 142 (ofL [(1, sI a1), (2, (sP ((u1 0).n 0) 0)), (4, (sP ((u1 1).n 0) 0)), (5, (sP ((u2 6).n 0) 0)), (6, sI x34), (7, sI j41), (8, (sP ((u42 2).n 0) 0)), (142, rdl anyF 5 p_a0_L c_a0_L a0.L en_TInstruction), (143, rdl anyF 1 p_a0_Out c_a0_Out a0.Out en_i64), (144, .blk ((u1 0).n 0) [vI a0.N, .slice p_a0_L a0.L.length c_a0_L, .slice p_a0_Out a0.Out.length c_a0_Out] 25), (145, .blk ((u1 1).n 0) [vI 0, .slice none 0 0, .slice none 0 0] 25), (146, .blk ((u2 6).n 0) [vI (w_i64 (1 + (Int.tmod (b_and .i64 a0.N 255) 3))), .slice p_x33 x33.length c_x33, .slice none 0 0] 25), (155, .blk ((u42 2).n 0) [vI j41, vI j44, vI j46, vI 0, vI 0] 50), (900043, owK 50 5 p_x33 x33.length c_x33 (x33.flatMap en_TInstruction))]) a w') ?_ ?_
      ·clear H; intro a w' H
       refine k_seq ?_
       replace G := bnd G; obtain ⟨j48, hj48, G⟩ := G
       refine k_join (fun a w' => Rep w.heap.size w 142 (ofL [(1, sI a1), (2, (sP ((u1 0).n 0) 0)), (4, (sP ((u1 1).n 0) 0)), (5, (sP ((u2 6).n 0) 0)), (6, sI x34), (7, sI j41), (8, (sP ((u42 2).n 0) 0)), (142, rdl anyF 5 p_a0_L c_a0_L a0.L en_TInstruction), (143, rdl anyF 1 p_a0_Out c_a0_Out a0.Out en_i64), (144, .blk ((u1 0).n 0) [vI a0.N, .slice p_a0_L a0.L.length c_a0_L, .slice p_a0_Out a0.Out.length c_a0_Out] 25), (145, .blk ((u1 1).n 0) [vI 0, .slice none 0 0, .slice none 0 0] 25), (146, .blk ((u2 6).n 0) [vI (w_i64 (1 + (Int.tmod (b_and .i64 a0.N 255) 3))), .slice p_x33 x33.length c_x33, .slice none 0 0] 25), (155, .blk ((u42 2).n 0) [vI j41, vI j48, vI j46, vI 0, vI 0] 50), (900043, owK 50 5 p_x33 x33.length c_x33 (x33.flatMap en_TInstruction))]) a w') ?_ ?_
       ·clear H; intro a w' H
        refine k_seq ?_
        replace G := bnd G; obtain ⟨j51, hj51, G⟩ := G
        refine k_join (fun a w' => Rep w.heap.size w 142 (ofL [(1, sI a1), (2, (sP ((u1 0).n 0) 0)), (4, (sP ((u1 1).n 0) 0)), (5, (sP ((u2 6).n 0) 0)), (6, sI x34), (8, (sP ((u42 2).n 0) 0)), (142, rdl anyF 5 p_a0_L c_a0_L a0.L en_TInstruction), (143, rdl anyF 1 p_a0_Out c_a0_Out a0.Out en_i64), (144, .blk ((u1 0).n 0) [vI a0.N, .slice p_a0_L a0.L.length c_a0_L, .slice p_a0_Out a0.Out.length c_a0_Out] 25), (145, .blk ((u1 1).n 0) [vI 0, .slice none 0 0, .slice none 0 0] 25), (146, .blk ((u2 6).n 0) [vI (w_i64 (1 + (Int.tmod (b_and .i64 a0.N 255) 3))), .slice p_x33 x33.length c_x33, .slice none 0 0] 25), (155, .blk ((u42 2).n 0) [vI j41, vI j48, vI j46, vI j51.1, vI j51.2] 50), (900043, owK 50 5 p_x33 x33.length c_x33 (x33.flatMap en_TInstruction))]) a w') ?_ ?_
        ·clear H; intro a w' H
         replace G := gd G; obtain ⟨b53, G⟩ := G
         refine k_rg mixed H (.v 97 (vP ((u2 6).n 0) 1) <|
   .cons [98] (ok_ld (fun u52 => .slice p_x33 x33.length c_x33) 98 146 1 1 (fun u52 => ((u2 6).n 0)) (fun u52 => [vI (w_i64 (1 + (Int.tmod (b_and .i64 a0.N 255) 3))), .slice p_x33 x33.length c_x33, .slice none 0 0]) 25) <|
   .cons [99] (ok_ld (fun u52 => .agg #[vI j41, vI j48, vI j46, vI j51.1, vI j51.2]) 99 155 0 5 (fun u52 => ((u42 2).n 0)) (fun u52 => [vI j41, vI j48, vI j46, vI j51.1, vI j51.2]) 50) <|
   .cons [100, 156] (ok_new (fun b => .slice (some ⟨b, 0, none⟩) 1 1) (fun u52 => [vI j41, vI j48, vI j46, vI j51.1, vI j51.2]) 50 100 156) <|
   .cons [101, 900043, 900043] (ok_own1 [3] [156] (fun u52 => [.blk ((u52 3).n 0) [vI j41, vI j48, vI j46, vI j51.1, vI j51.2] 50]) 900043 (fun u52 => owK 50 5 p_x33 x33.length c_x33 (x33.flatMap en_TInstruction)) (some 101) (fun u52 g => .slice (g.o 0) (x33 ++ [(⟨j41, j48, j46, (⟨j51.1, j51.2⟩ : TInterval)⟩ : TInstruction)]).length (g.n 0)) (fun u52 g => owK 50 5 (g.o 0) ((x33 ++ [(⟨j41, j48, j46, (⟨j51.1, j51.2⟩ : TInterval)⟩ : TInstruction)]).length) (g.n 0) ((x33 ++ [(⟨j41, j48, j46, (⟨j51.1, j51.2⟩ : TInterval)⟩ : TInstruction)]).flatMap en_TInstruction)) (fun u52 w hF hK => tv_app (run_app_rowN (t := 22) (ty := 22) (en := en_TInstruction) en_TInstruction_len inf50 (ow_of hK) hF.1 (news := [(⟨j41, j48, j46, (⟨j51.1, j51.2⟩ : TInterval)⟩ : TInstruction)]) rfl (by simp) (by kernel_rfl) b53)) (hloc := fun u u' h => ⟨by first | rfl | simp only [h 3 (by decide)], by first | rfl | simp only [h 3 (by decide)], by first | rfl | simp only [h 3 (by decide)], by first | rfl | simp only [h 3 (by decide)]⟩)) <|
   .v 102 (vP ((u2 6).n 0) 1) <|
   .cons [146] (ok_as (u' := fun u52 => [(146, .blk ((u2 6).n 0) [vI (w_i64 (1 + (Int.tmod (b_and .i64 a0.N 255) 3))), .slice ((u52 4).o 0) ((x33 ++ [(⟨j41, j48, j46, (⟨j51.1, j51.2⟩ : TInterval)⟩ : TInstruction)]).length) ((u52 4).n 0), .slice none 0 0] 25)]) (ok_store 146 1 (fun u52 => ((u2 6).n 0)) (fun u52 => [vI (w_i64 (1 + (Int.tmod (b_and .i64 a0.N 255) 3))), .slice p_x33 x33.length c_x33, .slice none 0 0]) (fun u52 => [.slice ((u52 4).o 0) ((x33 ++ [(⟨j41, j48, j46, (⟨j51.1, j51.2⟩ : TInterval)⟩ : TInstruction)]).length) ((u52 4).n 0)]) 25) (fun _ => by kernel_rfl)) <| .nil) fun u52 a w' H => ?_
         replace H := H.kp [1, 2, 4, 5, 6, 142, 143, 144, 145, 146, 900043]
         refine k_rg mixed H (.v 27 (vI x34) <|
   .v 28 (vI (w_i64 (x34 + 1))) <|
   .v 6 (vI (w_i64 (x34 + 1))) <| .nil) fun u54 a w' H => ?_
         replace H := H.kp [1, 2, 4, 5, 6, 142, 143, 144, 145, 146, 900043]
         exact ⟨k, Nat.lt_succ_self k, _, _, G, ((u52 4).o 0), ((u52 4).n 0), (x33 ++ [(⟨j41, j48, j46, (⟨j51.1, j51.2⟩ : TInterval)⟩ : TInstruction)]).length, rfl, H.toL _ (by kernel_rfl)⟩
        ·clear G; replace G := hj51; clear hj51
         refine k_seq ?_
         refine k_rg mixed H (.v 87 (vI j41) <|
   .v 88 (.bool (j41 == 1)) <| .nil) fun u55 a w' H => ?_
         replace H := H.kp [1, 2, 4, 5, 6, 8, 88, 142, 143, 144, 145, 146, 155, 900043]
         refine k_cond H (by kernel_rfl) (t := (j41 == 1)) (by kernel_rfl) (fun c60 => ?_) (fun c60 => ?_)
         ·rw [if_pos c60] at G
          replace G := gd G; obtain ⟨b57, G⟩ := G
          replace G := bnd G; obtain ⟨t58, ht58, G⟩ := G
          replace G := bnd G; obtain ⟨t59, ht59, G⟩ := G
          refine k_rg mixed H (.v 89 (vP ((u1 0).n 0) 1) <|
   .cons [90] (ok_ld (fun u56 => .slice p_a0_L a0.L.length c_a0_L) 90 144 1 1 (fun u56 => ((u1 0).n 0)) (fun u56 => [vI a0.N, .slice p_a0_L a0.L.length c_a0_L, .slice p_a0_Out a0.Out.length c_a0_Out]) 25) <|
   .v 91 (vI x34) <|
   .cons [92] (ok_valL [142] (fun u56 => [rdl anyF 5 p_a0_L c_a0_L a0.L en_TInstruction]) (fun u56 => .pointer (some ⟨hdB p_a0_L, hdO p_a0_L + x34.toNat * 5, none⟩)) (fun u56 => true) [true, true] 92 (fun u56 w hg hF => ix_row (t := 22) (k := .i64) (i := x34) (p := p_a0_L) (n := a0.L.length) (cap := c_a0_L) (x := a0.L) (en := en_TInstruction) (rdF_of hF.1).2 en_TInstruction_len rfl b57 (by kernel_rfl))) <|
   .v 93 (.pointer (some ⟨hdB p_a0_L, hdO p_a0_L + x34.toNat * 5 + 3, none⟩)) <|
   .cons [94] (ok_valL [142] (fun u56 => [rdl anyF 5 p_a0_L c_a0_L a0.L en_TInstruction]) (fun u56 => .agg #[vI t58.C.Lo, vI t58.C.Hi]) (fun u56 => true) [true] 94 (fun u56 w hg hF => ld_row (en := en_TInstruction) (rdF_of hF.1).2 en_TInstruction_len ht58 3 2 [vI t58.C.Lo, vI t58.C.Hi] rfl (by kernel_rfl))) <|
   .cons [95] (ok_callv 23 (fun u56 => #[.agg #[vI t58.C.Lo, vI t58.C.Hi], vI 4096]) (.agg #[vI t59.Lo, vI t59.Hi]) 95 [] (fun u56 w _ => armillaryref02_Near.calls (⟨t58.C.Lo, t58.C.Hi⟩ : TInterval) 4096  t59 w  ht59)) <|
   .v 96 (vP ((u42 2).n 0) 3) <|
   .cons [155] (ok_as (u' := fun u56 => [(155, .blk ((u42 2).n 0) [vI j41, vI j48, vI j46, vI t59.Lo, vI t59.Hi] 50)]) (ok_store 155 3 (fun u56 => ((u42 2).n 0)) (fun u56 => [vI j41, vI j48, vI j46, vI 0, vI 0]) (fun u56 => [vI t59.Lo, vI t59.Hi]) 50) (fun _ => by kernel_rfl)) <| .nil) fun u56 a w' H => ?_
          replace H := H.kp [1, 2, 4, 5, 6, 8, 142, 143, 144, 145, 146, 155, 900043]
          obtain rfl := Option.some.inj G
          exact H.toL _ (by kernel_rfl)
         ·rw [if_neg (nt c60)] at G
          refine k_skip ?_
          obtain rfl := Option.some.inj G
          exact H.toL _ (by kernel_rfl)
       ·clear G; replace G := hj48; clear hj48
        refine k_seq ?_
        refine k_rg mixed H (.v 74 (vI j41) <|
   .v 75 (.bool (j41 == 2)) <| .nil) fun u61 a w' H => ?_
        replace H := H.kp [1, 2, 4, 5, 6, 7, 8, 75, 142, 143, 144, 145, 146, 155, 900043]
        refine k_cond H (by kernel_rfl) (t := (j41 == 2)) (by kernel_rfl) (fun c67 => ?_) (fun c67 => ?_)
        ·rw [if_pos c67] at G
         replace G := gd G; obtain ⟨b63, G⟩ := G
         replace G := bnd G; obtain ⟨t64, ht64, G⟩ := G
         have P65 := ptr_of (en := en_TInstruction) (l := a0.L) (rdF_of (H.at (K := rdl anyF 5 p_a0_L c_a0_L a0.L en_TInstruction) 142 (by kernel_rfl))).2 en_TInstruction_len
         replace G := gd G; obtain ⟨n66, G⟩ := G
         refine k_rg mixed H (.v 76 (vP ((u1 0).n 0) 1) <|
   .cons [77] (ok_ld (fun u62 => .slice p_a0_L a0.L.length c_a0_L) 77 144 1 1 (fun u62 => ((u1 0).n 0)) (fun u62 => [vI a0.N, .slice p_a0_L a0.L.length c_a0_L, .slice p_a0_Out a0.Out.length c_a0_Out]) 25) <|
   .v 78 (vI x34) <|
   .cons [79] (ok_val (fun u62 => .pointer (some ⟨hdB p_a0_L, hdO p_a0_L + x34.toNat * 5, none⟩)) 79 (hv := fun _ _ => ix_pure (t := 22) (k := .i64) (i := x34) (p := p_a0_L) (n := a0.L.length) (cap := c_a0_L) (x := a0.L) P65 rfl b63 (by kernel_rfl))) <|
   .v 80 (.pointer (some ⟨hdB p_a0_L, hdO p_a0_L + x34.toNat * 5 + 1, none⟩)) <|
   .cons [81] (ok_valL [142] (fun u62 => [rdl anyF 5 p_a0_L c_a0_L a0.L en_TInstruction]) (fun u62 => vI t64.A) (fun u62 => true) [true] 81 (fun u62 w hg hF => ld_row (en := en_TInstruction) (rdF_of hF.1).2 en_TInstruction_len ht64 1 1 [vI t64.A] rfl (by kernel_rfl))) <|
   .v 82 (vI (b_and .i64 t64.A 255)) <|
   .v 83 (vP ((u2 6).n 0) 0) <|
   .cons [84] (ok_ld (fun u62 => vI (w_i64 (1 + (Int.tmod (b_and .i64 a0.N 255) 3)))) 84 146 0 1 (fun u62 => ((u2 6).n 0)) (fun u62 => [vI (w_i64 (1 + (Int.tmod (b_and .i64 a0.N 255) 3))), .slice p_x33 x33.length c_x33, .slice none 0 0]) 25) <|
   .cons [85] (ok_val (fun u62 => vI (Int.tmod (b_and .i64 t64.A 255) (w_i64 (1 + (Int.tmod (b_and .i64 a0.N 255) 3))))) 85 (hv := fun _ _ => run_of (by kernel_rfl) (run_rem (k := .i64) (x := b_and .i64 t64.A 255) (y := w_i64 (1 + (Int.tmod (b_and .i64 a0.N 255) 3))) n66))) <|
   .v 86 (vP ((u42 2).n 0) 1) <|
   .cons [155] (ok_as (u' := fun u62 => [(155, .blk ((u42 2).n 0) [vI j41, vI (Int.tmod (b_and .i64 t64.A 255) (w_i64 (1 + (Int.tmod (b_and .i64 a0.N 255) 3)))), vI j46, vI 0, vI 0] 50)]) (ok_store 155 1 (fun u62 => ((u42 2).n 0)) (fun u62 => [vI j41, vI j44, vI j46, vI 0, vI 0]) (fun u62 => [vI (Int.tmod (b_and .i64 t64.A 255) (w_i64 (1 + (Int.tmod (b_and .i64 a0.N 255) 3))))]) 50) (fun _ => by kernel_rfl)) <| .nil) fun u62 a w' H => ?_
         replace H := H.kp [1, 2, 4, 5, 6, 7, 8, 142, 143, 144, 145, 146, 155, 900043]
         obtain rfl := Option.some.inj G
         exact H.toL _ (by kernel_rfl)
        ·rw [if_neg (nt c67)] at G
         refine k_skip ?_
         obtain rfl := Option.some.inj G
         exact H.toL _ (by kernel_rfl)
      ·clear G; replace G := hj46; clear hj46
       refine k_seq ?_
       replace G := bnd G; obtain ⟨t69, ht69, G⟩ := G
       refine k_rg mixed H (.v 61 (vI j41) <|
   .cons [62] (ok_callv 22 (fun u68 => #[vI j41]) (vI t69) 62 [] (fun u68 w _ => armillaryref08_Arity.calls j41  t69 w  ht69)) <|
   .v 63 (.bool (decide (t69 > 1))) <| .nil) fun u68 a w' H => ?_
       replace H := H.kp [1, 2, 4, 5, 6, 7, 8, 63, 142, 143, 144, 145, 146, 155, 900043]
       refine k_cond H (by kernel_rfl) (t := decide (t69 > 1)) (by kernel_rfl) (fun c74 => ?_) (fun c74 => ?_)
       ·rw [if_pos c74] at G
        replace G := gd G; obtain ⟨b71, G⟩ := G
        replace G := bnd G; obtain ⟨t72, ht72, G⟩ := G
        replace G := gd G; obtain ⟨n73, G⟩ := G
        refine k_rg mixed H (.v 64 (vP ((u1 0).n 0) 1) <|
   .cons [65] (ok_ld (fun u70 => .slice p_a0_L a0.L.length c_a0_L) 65 144 1 1 (fun u70 => ((u1 0).n 0)) (fun u70 => [vI a0.N, .slice p_a0_L a0.L.length c_a0_L, .slice p_a0_Out a0.Out.length c_a0_Out]) 25) <|
   .v 66 (vI x34) <|
   .cons [67] (ok_valL [142] (fun u70 => [rdl anyF 5 p_a0_L c_a0_L a0.L en_TInstruction]) (fun u70 => .pointer (some ⟨hdB p_a0_L, hdO p_a0_L + x34.toNat * 5, none⟩)) (fun u70 => true) [true, true] 67 (fun u70 w hg hF => ix_row (t := 22) (k := .i64) (i := x34) (p := p_a0_L) (n := a0.L.length) (cap := c_a0_L) (x := a0.L) (en := en_TInstruction) (rdF_of hF.1).2 en_TInstruction_len rfl b71 (by kernel_rfl))) <|
   .v 68 (.pointer (some ⟨hdB p_a0_L, hdO p_a0_L + x34.toNat * 5 + 2, none⟩)) <|
   .cons [69] (ok_valL [142] (fun u70 => [rdl anyF 5 p_a0_L c_a0_L a0.L en_TInstruction]) (fun u70 => vI t72.B) (fun u70 => true) [true] 69 (fun u70 w hg hF => ld_row (en := en_TInstruction) (rdF_of hF.1).2 en_TInstruction_len ht72 2 1 [vI t72.B] rfl (by kernel_rfl))) <|
   .v 70 (vI (b_and .i64 t72.B 255)) <|
   .v 71 (vI x34) <|
   .cons [72] (ok_val (fun u70 => vI (Int.tmod (b_and .i64 t72.B 255) x34)) 72 (hv := fun _ _ => run_of (by kernel_rfl) (run_rem (k := .i64) (x := b_and .i64 t72.B 255) (y := x34) n73))) <|
   .v 73 (vP ((u42 2).n 0) 2) <|
   .cons [155] (ok_as (u' := fun u70 => [(155, .blk ((u42 2).n 0) [vI j41, vI j44, vI (Int.tmod (b_and .i64 t72.B 255) x34), vI 0, vI 0] 50)]) (ok_store 155 2 (fun u70 => ((u42 2).n 0)) (fun u70 => [vI j41, vI j44, vI 0, vI 0, vI 0]) (fun u70 => [vI (Int.tmod (b_and .i64 t72.B 255) x34)]) 50) (fun _ => by kernel_rfl)) <| .nil) fun u70 a w' H => ?_
        replace H := H.kp [1, 2, 4, 5, 6, 7, 8, 142, 143, 144, 145, 146, 155, 900043]
        obtain rfl := Option.some.inj G
        exact H.toL _ (by kernel_rfl)
       ·rw [if_neg (nt c74)] at G
        refine k_skip ?_
        obtain rfl := Option.some.inj G
        exact H.toL _ (by kernel_rfl)
     ·clear G; replace G := hj44; clear hj44
      refine k_seq ?_
      replace G := bnd G; obtain ⟨t76, ht76, G⟩ := G
      refine k_rg mixed H (.v 48 (vI j41) <|
   .cons [49] (ok_callv 22 (fun u75 => #[vI j41]) (vI t76) 49 [] (fun u75 w _ => armillaryref08_Arity.calls j41  t76 w  ht76)) <|
   .v 50 (.bool (decide (t76 > 0))) <| .nil) fun u75 a w' H => ?_
      replace H := H.toM [(1, sI a1), (2, (sP ((u1 0).n 0) 0)), (4, (sP ((u1 1).n 0) 0)), (5, (sP ((u2 6).n 0) 0)), (6, sI x34), (7, sI j41), (8, (sP ((u42 2).n 0) 0)), (50, (sB (decide (t76 > 0)))), (142, rdl anyF 5 p_a0_L c_a0_L a0.L en_TInstruction), (143, rdl anyF 1 p_a0_Out c_a0_Out a0.Out en_i64), (144, .blk ((u1 0).n 0) [vI a0.N, .slice p_a0_L a0.L.length c_a0_L, .slice p_a0_Out a0.Out.length c_a0_Out] 25), (145, .blk ((u1 1).n 0) [vI 0, .slice none 0 0, .slice none 0 0] 25), (146, .blk ((u2 6).n 0) [vI (w_i64 (1 + (Int.tmod (b_and .i64 a0.N 255) 3))), .slice p_x33 x33.length c_x33, .slice none 0 0] 25), (155, .blk ((u42 2).n 0) [vI j41, vI 0, vI 0, vI 0, vI 0] 50), (900043, owK 50 5 p_x33 x33.length c_x33 (x33.flatMap en_TInstruction))]
      refine k_cond H (by kernel_rfl) (t := decide (t76 > 0)) (by kernel_rfl) (fun c81 => ?_) (fun c81 => ?_)
      ·rw [if_pos c81] at G
       replace G := gd G; obtain ⟨b78, G⟩ := G
       replace G := bnd G; obtain ⟨t79, ht79, G⟩ := G
       replace G := gd G; obtain ⟨n80, G⟩ := G
       refine k_rg mixed H (.v 51 (vP ((u1 0).n 0) 1) <|
   .cons [52] (ok_ld (fun u77 => .slice p_a0_L a0.L.length c_a0_L) 52 144 1 1 (fun u77 => ((u1 0).n 0)) (fun u77 => [vI a0.N, .slice p_a0_L a0.L.length c_a0_L, .slice p_a0_Out a0.Out.length c_a0_Out]) 25) <|
   .v 53 (vI x34) <|
   .cons [54] (ok_valL [142] (fun u77 => [rdl anyF 5 p_a0_L c_a0_L a0.L en_TInstruction]) (fun u77 => .pointer (some ⟨hdB p_a0_L, hdO p_a0_L + x34.toNat * 5, none⟩)) (fun u77 => true) [true, true] 54 (fun u77 w hg hF => ix_row (t := 22) (k := .i64) (i := x34) (p := p_a0_L) (n := a0.L.length) (cap := c_a0_L) (x := a0.L) (en := en_TInstruction) (rdF_of hF.1).2 en_TInstruction_len rfl b78 (by kernel_rfl))) <|
   .v 55 (.pointer (some ⟨hdB p_a0_L, hdO p_a0_L + x34.toNat * 5 + 1, none⟩)) <|
   .cons [56] (ok_valL [142] (fun u77 => [rdl anyF 5 p_a0_L c_a0_L a0.L en_TInstruction]) (fun u77 => vI t79.A) (fun u77 => true) [true] 56 (fun u77 w hg hF => ld_row (en := en_TInstruction) (rdF_of hF.1).2 en_TInstruction_len ht79 1 1 [vI t79.A] rfl (by kernel_rfl))) <|
   .v 57 (vI (b_and .i64 t79.A 255)) <|
   .v 58 (vI x34) <|
   .cons [59] (ok_val (fun u77 => vI (Int.tmod (b_and .i64 t79.A 255) x34)) 59 (hv := fun _ _ => run_of (by kernel_rfl) (run_rem (k := .i64) (x := b_and .i64 t79.A 255) (y := x34) n80))) <|
   .v 60 (vP ((u42 2).n 0) 1) <|
   .cons [155] (ok_as (u' := fun u77 => [(155, .blk ((u42 2).n 0) [vI j41, vI (Int.tmod (b_and .i64 t79.A 255) x34), vI 0, vI 0, vI 0] 50)]) (ok_store 155 1 (fun u77 => ((u42 2).n 0)) (fun u77 => [vI j41, vI 0, vI 0, vI 0, vI 0]) (fun u77 => [vI (Int.tmod (b_and .i64 t79.A 255) x34)]) 50) (fun _ => by kernel_rfl)) <| .nil) fun u77 a w' H => ?_
       replace H := H.kp [1, 2, 4, 5, 6, 7, 8, 142, 143, 144, 145, 146, 155, 900043]
       obtain rfl := Option.some.inj G
       exact H.toL _ (by kernel_rfl)
      ·rw [if_neg (nt c81)] at G
       refine k_skip ?_
       obtain rfl := Option.some.inj G
       exact H.toL _ (by kernel_rfl)
    ·clear G; replace G := hj41; clear hj41
     refine k_seq ?_
     replace G := bnd G; obtain ⟨t83, ht83, G⟩ := G
     refine k_rg mixed H (.v 39 (vI x34) <|
   .v 40 (.bool (x34 == 0)) <|
   .v 41 (.bool (x34 == 0)) <|
   .cons [42] (ok_valg (fun u82 => vI (w_i64 (1 + (Int.tmod (b_and .i64 (w_i64 (t39.Op + 9)) 255) 10)))) (fun u82 => ((x34 == 0) == true)) [true] 42) <|
   .cons [43] (ok_call 22 (fun u82 => #[vI (w_i64 (1 + (Int.tmod (b_and .i64 (w_i64 (t39.Op + 9)) 255) 10)))]) (vI t83) (fun u82 => ((x34 == 0) == true)) [true, false] 43 [] (fun u82 w hg _ => armillaryref08_Arity.calls (w_i64 (1 + (Int.tmod (b_and .i64 (w_i64 (t39.Op + 9)) 255) 10)))  t83 w  (ifp ht83 hg))) <|
   .cons [44] (ok_valg (fun u82 => .bool (decide (t83 > 0))) (fun u82 => ((x34 == 0) == true)) [false, true] 44) <|
   .cons [45] (ok_and 41 44 (fun u82 => true) (fun u82 => true) (fun u82 => (x34 == 0)) (fun u82 => decide (t83 > 0)) 45) <| .nil) fun u82 a w' H => ?_
     replace H := H.kp [1, 2, 4, 5, 6, 7, 23, 24, 25, 42, 43, 44, 45, 142, 143, 144, 145, 146, 900043]
     refine k_cond H (by kernel_rfl) (t := ((x34 == 0) && (decide (t83 > 0)))) (by kernel_rfl) (fun c85 => ?_) (fun c85 => ?_)
     ·rw [if_pos c85] at G
      refine k_rg mixed H (.v 7 (vI 2) <| .nil) fun u84 a w' H => ?_
      replace H := H.kp [1, 2, 4, 5, 6, 7, 23, 24, 25, 42, 43, 44, 142, 143, 144, 145, 146, 900043]
      obtain rfl := Option.some.inj G
      exact H.toL _ (by kernel_rfl)
     ·rw [if_neg (nt c85)] at G
      refine k_skip ?_
      obtain rfl := Option.some.inj G
      exact H.toL _ (by kernel_rfl)
   ·rw [if_neg (nt c86)] at G
    refine k_exit rfl ?_
    obtain rfl := Option.some.inj G
    replace H := H.move (K := owK 50 5 p_x33 x33.length c_x33 (x33.flatMap en_TInstruction)) 900043 900039 (by kernel_rfl) (by intro _ _ h; cases h)
    exact ⟨p_x33, c_x33, x33.length, rfl, H.toL _ (by kernel_rfl)⟩
set_option maxHeartbeats 4000000 in
theorem armillaryref08_Boxes.calls (k0 : Nat) (a0 : List TInterval) (a1 : Int) (a2 : Int) (p_a0 : Option Addr) (c_a0 : Nat) (r : List TInterval) (w : World) (hB : AllH [rdl anyF 2 p_a0 c_a0 a0 en_TInterval] w) (G : armillaryref08_Boxes k0 a0 a1 a2 = some r) :
  Calls Tryd.prog 6 #[.slice p_a0 a0.length c_a0, vI a1, vI a2] w fun e w' => ∃ g : Gh, e = .returned (.slice (g.o 0) r.length (g.n 0)) ∧ But (fpK []) w w' ∧ OutOK w.heap.size (fpK []) (frI w.heap.size []) [fun _ => owK 28 2 (g.o 0) r.length (g.n 0) (r.flatMap en_TInterval)] w' := by
 obtain ⟨fr, hfr⟩ : ∃ fr : Nat → Prop, fr = frI w.heap.size [] := ⟨_, rfl⟩
 have hBf : ∀ j, w.heap.size ≤ j → fr j := fun j h => by rw [hfr]; exact .inl h
 refine k_enterF (args := [.slice p_a0 a0.length c_a0, vI a1, vI a2]) 32 [(32, rdl anyF 2 p_a0 c_a0 a0 en_TInterval)] (by
  intro x hx
  simp only [List.mem_cons, List.not_mem_nil, or_false] at hx
  rcases hx with rfl
  exact rdF_fact (rdF_of hB.1) (fun _ _ => trivial) (by decide) _) Tryd.func6 rfl (by kernel_rfl) (by kernel_rfl) fun a H => ?_
 unfold armillaryref08_Boxes at G
 refine k_seq ?_
 refine k_rg mixed H (.v 6 (.slice none 0 0) <| .nil) fun u1 a w' H => ?_
 replace H := H.kp [0, 1, 2, 32]
 refine k_seq ?_
 refine k_rg mixed H (.cons [10, 33] (ok_new (fun b => .slice (some ⟨b, 0, none⟩) 0 0) (fun u2 => []) 28 10 33) <|
   .cons [7] (ok_val (fun u2 => .slice (some ⟨((u2 0).n 0), 0, none⟩) 0 0) 7) <| .nil) fun u2 a w' H => ?_
 replace H := H.kp [0, 1, 2, 7, 32, 33]
 refine k_seq ?_
 replace G := bnd G; obtain ⟨j4, hj4, G⟩ := G
 refine k_join (fun a w' => ∃ (p_j3 : Option Addr) (c_j3 np_j3 : Nat), np_j3 = j4.length ∧ Rep w.heap.size w 32 (ofL [(7, sS p_j3 np_j3 c_j3), (900044, owK 28 2 p_j3 np_j3 c_j3 (j4.flatMap en_TInterval))]) a w') ?_ ?_
 ·clear H; rintro a w' ⟨p_j3, c_j3, _, rfl, H⟩
  refine k_seq ?_
  refine k_rg mixed H (.v 31 (.slice p_j3 j4.length c_j3) <|
   .v 6 (.slice p_j3 j4.length c_j3) <| .nil) fun u5 a w' H => ?_
  replace H := H.kp [6, 900044]
  refine k_ret ?_
  obtain rfl := Option.some.inj G
  obtain ⟨g, o0, n0⟩ : ∃ g : Gh, g.o 0 = p_j3 ∧ g.n 0 = c_j3 := ⟨⟨fun i => [c_j3].getD i 0, fun i => [p_j3].getD i none, fun i => ([⟨Unit, ()⟩] : List ((T : Type) × T)).getD i ⟨Unit, ()⟩⟩, rfl, rfl⟩
  refine k_doneZ H (fun g => .slice (g.o 0) j4.length (g.n 0)) g [] [] (fun g => [fun _ => owK 28 2 (g.o 0) j4.length (g.n 0) (j4.flatMap en_TInterval)]) fr [900044] [] (.slice p_j3 j4.length c_j3) [fun _ => owK 28 2 p_j3 j4.length c_j3 (j4.flatMap en_TInterval)] (by simp only [o0, n0]) (by simp only [o0, n0]) hfr (.inl ⟨rfl, rfl⟩) (fams_cons fam_ow fams_nil) (by simp)
 ·clear G; replace G := hj4; clear hj4
  refine k_seq ?_
  refine k_rg mixed H (.v 8 (vI 0) <| .nil) fun u6 a w' H => ?_
  replace H := H.kp [0, 1, 2, 7, 8, 32, 33]
  refine k_block ?_
  replace H := H.blk_row 33 ((u2 0).n 0) [] 28 2 0 (by kernel_rfl) (by kernel_rfl) (by decide)
  replace H := H.move (K := owK 28 2 (some ⟨((u2 0).n 0), 0, none⟩) 0 0 (([] : List TInterval).flatMap en_TInterval)) 33 900045 (by kernel_rfl) (by intro _ _ h; cases h)
  refine k_loopJ (fun m a w' => ∃ x7 : List TInterval, ∃ x8 : Int, armillaryref08_Boxes.l9 k0 a0 a1 a2 m x7 x8 = some j4 ∧ ∃ (p_x7 : Option Addr) (c_x7 np_x7 : Nat), np_x7 = x7.length ∧ Rep w.heap.size w 32 (ofL [(0, sS p_a0 a0.length c_a0), (1, sI a1), (2, sI a2), (7, sS p_x7 np_x7 c_x7), (8, sI x8), (32, rdl anyF 2 p_a0 c_a0 a0 en_TInterval), (900045, owK 28 2 p_x7 np_x7 c_x7 (x7.flatMap en_TInterval))]) a w') k0 ⟨_, _, G, (some ⟨((u2 0).n 0), 0, none⟩), 0, 0, rfl, H.toL _ (by kernel_rfl)⟩ ?_
  clear G H
  rintro (_ | k) a w' ⟨x7, x8, G, p_x7, c_x7, _, rfl, H⟩
  ·exact absurd G (by unfold armillaryref08_Boxes.l9; exact fun h => by cases h)
  ·unfold armillaryref08_Boxes.l9 at G
   refine k_seq ?_
   refine k_seq ?_
   refine k_rg mixed H (.v 11 (vI x8) <|
   .v 12 (vI a1) <|
   .v 13 (.bool (decide (x8 < a1))) <| .nil) fun u10 a w' H => ?_
   replace H := H.kp [0, 1, 2, 7, 8, 13, 32, 900045]
   refine k_cond H (by kernel_rfl) (t := decide (x8 < a1)) (by kernel_rfl) (fun c24 => ?_) (fun c24 => ?_)
   ·rw [if_pos c24] at G
    refine k_skip ?_
    refine k_seq ?_
    refine k_block ?_
    refine k_seq ?_
    refine k_rg mixed H (.v 16 (.agg #[vI 0, vI 0]) <|
   .cons [9, 34] (ok_new (fun b => vP b 0) (fun u11 => [vI 0, vI 0]) 28 9 34) <|
   .cons [34] (ok_as (u' := fun u11 => [(34, .blk ((u11 1).n 0) [vI 0, vI 0] 28)]) (ok_store 34 0 (fun u11 => ((u11 1).n 0)) (fun u11 => [vI 0, vI 0]) (fun u11 => [vI 0, vI 0]) 28) (fun _ => by kernel_rfl)) <| .nil) fun u11 a w' H => ?_
    replace H := H.kp [0, 1, 2, 7, 8, 9, 32, 34, 900045]
    refine k_seq ?_
    replace G := bnd G; obtain ⟨j14, hj14, G⟩ := G
    refine k_join (fun a w' => Rep w.heap.size w 32 (ofL [(0, sS p_a0 a0.length c_a0), (1, sI a1), (2, sI a2), (7, sS p_x7 x7.length c_x7), (8, sI x8), (9, (sP ((u11 1).n 0) 0)), (32, rdl anyF 2 p_a0 c_a0 a0 en_TInterval), (34, .blk ((u11 1).n 0) [vI j14.1, vI j14.2] 28), (900045, owK 28 2 p_x7 x7.length c_x7 (x7.flatMap en_TInterval))]) a w') ?_ ?_
    ·clear H; intro a w' H
     replace G := bnd G; obtain ⟨t16, ht16, G⟩ := G
     replace G := gd G; obtain ⟨b17, G⟩ := G
     refine k_rg mixed H (.v 25 (.slice p_x7 x7.length c_x7) <|
   .cons [26] (ok_ld (fun u15 => .agg #[vI j14.1, vI j14.2]) 26 34 0 2 (fun u15 => ((u11 1).n 0)) (fun u15 => [vI j14.1, vI j14.2]) 28) <|
   .v 27 (vI a2) <|
   .cons [28] (ok_callv 23 (fun u15 => #[.agg #[vI j14.1, vI j14.2], vI a2]) (.agg #[vI t16.Lo, vI t16.Hi]) 28 [] (fun u15 w _ => armillaryref02_Near.calls (⟨j14.1, j14.2⟩ : TInterval) a2  t16 w  ht16)) <|
   .cons [29, 35] (ok_new (fun b => .slice (some ⟨b, 0, none⟩) 1 1) (fun u15 => [vI t16.Lo, vI t16.Hi]) 28 29 35) <|
   .cons [30, 900045, 900045] (ok_own1 [4] [35] (fun u15 => [.blk ((u15 4).n 0) [vI t16.Lo, vI t16.Hi] 28]) 900045 (fun u15 => owK 28 2 p_x7 x7.length c_x7 (x7.flatMap en_TInterval)) (some 30) (fun u15 g => .slice (g.o 0) (x7 ++ [t16]).length (g.n 0)) (fun u15 g => owK 28 2 (g.o 0) ((x7 ++ [t16]).length) (g.n 0) ((x7 ++ [t16]).flatMap en_TInterval)) (fun u15 w hF hK => tv_app (run_app_rowN (t := 26) (ty := 26) (en := en_TInterval) en_TInterval_len inf28 (ow_of hK) hF.1 (news := [t16]) rfl (by simp) (by kernel_rfl) b17)) (hloc := fun u u' h => ⟨by first | rfl | simp only [h 4 (by decide)], by first | rfl | simp only [h 4 (by decide)], by first | rfl | simp only [h 4 (by decide)], by first | rfl | simp only [h 4 (by decide)]⟩)) <|
   .cons [7] (ok_val (fun u15 => .slice ((u15 5).o 0) ((x7 ++ [t16]).length) ((u15 5).n 0)) 7) <| .nil) fun u15 a w' H => ?_
     replace H := H.kp [0, 1, 2, 7, 8, 32, 900045]
     refine k_rg mixed H (.v 14 (vI x8) <|
   .v 15 (vI (w_i64 (x8 + 1))) <|
   .v 8 (vI (w_i64 (x8 + 1))) <| .nil) fun u18 a w' H => ?_
     replace H := H.kp [0, 1, 2, 7, 8, 32, 900045]
     exact ⟨k, Nat.lt_succ_self k, _, _, G, ((u15 5).o 0), ((u15 5).n 0), (x7 ++ [t16]).length, rfl, H.toL _ (by kernel_rfl)⟩
    ·clear G; replace G := hj14; clear hj14
     refine k_seq ?_
     refine k_rg mixed H (.v 17 (vI x8) <|
   .v 18 (.slice p_a0 a0.length c_a0) <|
   .v 19 (vI (a0.length : Int)) <|
   .v 20 (.bool (decide (x8 < (a0.length : Int)))) <| .nil) fun u19 a w' H => ?_
     replace H := H.kp [0, 1, 2, 7, 8, 9, 20, 32, 34, 900045]
     refine k_cond H (by kernel_rfl) (t := decide (x8 < (a0.length : Int))) (by kernel_rfl) (fun c23 => ?_) (fun c23 => ?_)
     ·rw [if_pos c23] at G
      replace G := gd G; obtain ⟨b21, G⟩ := G
      replace G := bnd G; obtain ⟨t22, ht22, G⟩ := G
      refine k_rg mixed H (.v 21 (.slice p_a0 a0.length c_a0) <|
   .v 22 (vI x8) <|
   .cons [23] (ok_valL [32] (fun u20 => [rdl anyF 2 p_a0 c_a0 a0 en_TInterval]) (fun u20 => .pointer (some ⟨hdB p_a0, hdO p_a0 + x8.toNat * 2, none⟩)) (fun u20 => true) [true, true] 23 (fun u20 w hg hF => ix_row (t := 26) (k := .i64) (i := x8) (p := p_a0) (n := a0.length) (cap := c_a0) (x := a0) (en := en_TInterval) (rdF_of hF.1).2 en_TInterval_len rfl b21 (by kernel_rfl))) <|
   .cons [24] (ok_valL [32] (fun u20 => [rdl anyF 2 p_a0 c_a0 a0 en_TInterval]) (fun u20 => .agg #[vI t22.Lo, vI t22.Hi]) (fun u20 => true) [true] 24 (fun u20 w hg hF => ld_row (en := en_TInterval) (rdF_of hF.1).2 en_TInterval_len ht22 0 2 [vI t22.Lo, vI t22.Hi] rfl (by kernel_rfl))) <|
   .cons [34] (ok_as (u' := fun u20 => [(34, .blk ((u11 1).n 0) [vI t22.Lo, vI t22.Hi] 28)]) (ok_store 34 0 (fun u20 => ((u11 1).n 0)) (fun u20 => [vI 0, vI 0]) (fun u20 => [vI t22.Lo, vI t22.Hi]) 28) (fun _ => by kernel_rfl)) <| .nil) fun u20 a w' H => ?_
      replace H := H.kp [0, 1, 2, 7, 8, 9, 32, 34, 900045]
      obtain rfl := Option.some.inj G
      exact H.toL _ (by kernel_rfl)
     ·rw [if_neg (nt c23)] at G
      refine k_skip ?_
      obtain rfl := Option.some.inj G
      exact H.toL _ (by kernel_rfl)
   ·rw [if_neg (nt c24)] at G
    refine k_exit rfl ?_
    obtain rfl := Option.some.inj G
    replace H := H.move (K := owK 28 2 p_x7 x7.length c_x7 (x7.flatMap en_TInterval)) 900045 900044 (by kernel_rfl) (by intro _ _ h; cases h)
    exact ⟨p_x7, c_x7, x7.length, rfl, H.toL _ (by kernel_rfl)⟩
set_option maxHeartbeats 4000000 in
theorem armillaryref02_Valid.calls (a0 : TInterval) (r : Bool) (w : World) (G : armillaryref02_Valid a0 = some r) :
  Calls Tryd.prog 24 #[.agg #[vI a0.Lo, vI a0.Hi]] w fun e w' => e = .returned (.bool r) ∧ Below w.heap.size w w' := by
 refine k_enter (args := [.agg #[vI a0.Lo, vI a0.Hi]]) 22 Tryd.func24 rfl (by kernel_rfl) (by kernel_rfl) fun a H => ?_
 unfold armillaryref02_Valid at G
 refine k_seq ?_
 refine k_rg mixed H (.cons [1, 22] (ok_new (fun b => vP b 0) (fun u1 => [vI a0.Lo, vI a0.Hi]) 28 1 22) <|
   .v 2 (.bool false) <| .nil) fun u1 a w' H => ?_
 replace H := H.kp [1, 22]
 refine k_seq ?_
 replace G := bnd G; obtain ⟨t3, ht3, G⟩ := G
 replace G := bnd G; obtain ⟨t4, ht4, G⟩ := G
 replace G := bnd G; obtain ⟨t5, ht5, G⟩ := G
 refine k_rg mixed H (.cons [3] (ok_ld (fun u2 => .agg #[vI a0.Lo, vI a0.Hi]) 3 22 0 2 (fun u2 => ((u1 0).n 0)) (fun u2 => [vI a0.Lo, vI a0.Hi]) 28) <|
   .cons [4] (ok_callv 18 (fun u2 => #[.agg #[vI a0.Lo, vI a0.Hi]]) (.bool t3) 4 [] (fun u2 w _ => armillaryref02_IsEntire.calls a0  t3 w  ht3)) <|
   .v 5 (.bool t3) <|
   .cons [6] (ok_valg (fun u2 => vP ((u1 0).n 0) 0) (fun u2 => (t3 == false)) [true] 6) <|
   .cons [7] (ok_ldg (fun u2 => vI a0.Lo) (fun u2 => (t3 == false)) [false] 7 22 0 1 (fun u2 => ((u1 0).n 0)) (fun u2 => [vI a0.Lo, vI a0.Hi]) 28) <|
   .cons [8] (ok_call 41 (fun u2 => #[vI a0.Lo]) (.bool t4) (fun u2 => (t3 == false)) [true, false] 8 [] (fun u2 w hg _ => armillaryref02_Number.calls a0.Lo  t4 w  (ifp ht4 hg))) <|
   .cons [9] (ok_valg (fun u2 => .bool t4) (fun u2 => (t3 == false)) [false] 9) <|
   .cons [10] (ok_valg (fun u2 => vP ((u1 0).n 0) 1) (fun u2 => ((t3 == false) && (t4 == true))) [true] 10) <|
   .cons [11] (ok_ldg (fun u2 => vI a0.Hi) (fun u2 => ((t3 == false) && (t4 == true))) [false] 11 22 1 1 (fun u2 => ((u1 0).n 0)) (fun u2 => [vI a0.Lo, vI a0.Hi]) 28) <|
   .cons [12] (ok_call 41 (fun u2 => #[vI a0.Hi]) (.bool t5) (fun u2 => ((t3 == false) && (t4 == true))) [true, false] 12 [] (fun u2 w hg _ => armillaryref02_Number.calls a0.Hi  t5 w  (ifp ht5 hg))) <|
   .cons [13] (ok_and 9 12 (fun u2 => (t3 == false)) (fun u2 => (t3 == false)) (fun u2 => t4) (fun u2 => t5) 13) <|
   .cons [14] (ok_valg (fun u2 => .bool (t4 && t5)) (fun u2 => (t3 == false)) [false] 14) <|
   .cons [15] (ok_valg (fun u2 => vP ((u1 0).n 0) 0) (fun u2 => ((t3 == false) && ((t4 && t5) == true))) [true] 15) <|
   .cons [16] (ok_ldg (fun u2 => vI a0.Lo) (fun u2 => ((t3 == false) && ((t4 && t5) == true))) [false] 16 22 0 1 (fun u2 => ((u1 0).n 0)) (fun u2 => [vI a0.Lo, vI a0.Hi]) 28) <|
   .cons [17] (ok_valg (fun u2 => vP ((u1 0).n 0) 1) (fun u2 => ((t3 == false) && ((t4 && t5) == true))) [true] 17) <|
   .cons [18] (ok_ldg (fun u2 => vI a0.Hi) (fun u2 => ((t3 == false) && ((t4 && t5) == true))) [false] 18 22 1 1 (fun u2 => ((u1 0).n 0)) (fun u2 => [vI a0.Lo, vI a0.Hi]) 28) <|
   .cons [19] (ok_valg (fun u2 => .bool (decide (a0.Lo ≤ a0.Hi))) (fun u2 => ((t3 == false) && ((t4 && t5) == true))) [false, false] 19) <|
   .cons [20] (ok_and 14 19 (fun u2 => (t3 == false)) (fun u2 => (t3 == false)) (fun u2 => (t4 && t5)) (fun u2 => decide (a0.Lo ≤ a0.Hi)) 20) <|
   .cons [21] (ok_or 5 20 (fun u2 => true) (fun u2 => true) (fun u2 => t3) (fun u2 => ((t4 && t5) && (decide (a0.Lo ≤ a0.Hi)))) 21) <|
   .v 2 (.bool (t3 || ((t4 && t5) && (decide (a0.Lo ≤ a0.Hi))))) <| .nil) fun u2 a w' H => ?_
 replace H := H.kp [2]
 refine k_ret ?_
 obtain rfl := Option.some.inj G
 exact k_done0 H _ (by kernel_rfl) (by kernel_rfl)
set_option maxHeartbeats 4000000 in
theorem armillaryref02_Small.calls (a0 : TInterval) (r : TInterval) (w : World) (G : armillaryref02_Small a0 = some r) :
  Calls Tryd.prog 26 #[.agg #[vI a0.Lo, vI a0.Hi]] w fun e w' => e = .returned (.agg #[vI r.Lo, vI r.Hi]) ∧ Below w.heap.size w w' := by
 refine k_enter (args := [.agg #[vI a0.Lo, vI a0.Hi]]) 18 Tryd.func26 rfl (by kernel_rfl) (by kernel_rfl) fun a H => ?_
 unfold armillaryref02_Small at G
 refine k_seq ?_
 refine k_rg mixed H (.cons [1, 18] (ok_new (fun b => vP b 0) (fun u1 => [vI a0.Lo, vI a0.Hi]) 28 1 18) <|
   .cons [2, 19] (ok_new (fun b => vP b 0) (fun u1 => [vI 0, vI 0]) 28 2 19) <| .nil) fun u1 a w' H => ?_
 replace H := H.kp [1, 2, 18, 19]
 refine k_seq ?_
 refine k_rg mixed H (.v 5 (vP ((u1 0).n 0) 0) <|
   .cons [6] (ok_ld (fun u2 => vI a0.Lo) 6 18 0 1 (fun u2 => ((u1 0).n 0)) (fun u2 => [vI a0.Lo, vI a0.Hi]) 28) <|
   .v 7 (vI (Int.tmod a0.Lo 16777216)) <|
   .v 8 (vP ((u1 0).n 0) 1) <|
   .cons [9] (ok_ld (fun u2 => vI a0.Hi) 9 18 1 1 (fun u2 => ((u1 0).n 0)) (fun u2 => [vI a0.Lo, vI a0.Hi]) 28) <|
   .v 10 (vI (Int.tmod a0.Hi 16777216)) <|
   .v 3 (vI (Int.tmod a0.Lo 16777216)) <|
   .v 4 (vI (Int.tmod a0.Hi 16777216)) <| .nil) fun u2 a w' H => ?_
 replace H := H.kp [2, 3, 4, 19]
 refine k_seq ?_
 refine k_rg mixed H (.v 11 (vI (Int.tmod a0.Lo 16777216)) <|
   .v 12 (vI (Int.tmod a0.Hi 16777216)) <|
   .v 13 (vI (mn (Int.tmod a0.Lo 16777216) (Int.tmod a0.Hi 16777216))) <|
   .v 14 (vI (Int.tmod a0.Lo 16777216)) <|
   .v 15 (vI (Int.tmod a0.Hi 16777216)) <|
   .v 16 (vI (mx (Int.tmod a0.Lo 16777216) (Int.tmod a0.Hi 16777216))) <|
   .v 17 (.agg #[vI (mn (Int.tmod a0.Lo 16777216) (Int.tmod a0.Hi 16777216)), vI (mx (Int.tmod a0.Lo 16777216) (Int.tmod a0.Hi 16777216))]) <|
   .cons [19] (ok_as (u' := fun u3 => [(19, .blk ((u1 1).n 0) [vI (mn (Int.tmod a0.Lo 16777216) (Int.tmod a0.Hi 16777216)), vI (mx (Int.tmod a0.Lo 16777216) (Int.tmod a0.Hi 16777216))] 28)]) (ok_store 19 0 (fun u3 => ((u1 1).n 0)) (fun u3 => [vI 0, vI 0]) (fun u3 => [vI (mn (Int.tmod a0.Lo 16777216) (Int.tmod a0.Hi 16777216)), vI (mx (Int.tmod a0.Lo 16777216) (Int.tmod a0.Hi 16777216))]) 28) (fun _ => by kernel_rfl)) <| .nil) fun u3 a w' H => ?_
 replace H := H.kp [2, 19]
 refine k_ret ?_
 obtain rfl := Option.some.inj G
 exact k_done1 H _ 19 ((u1 1).n 0) [vI (mn (Int.tmod a0.Lo 16777216) (Int.tmod a0.Hi 16777216)), vI (mx (Int.tmod a0.Lo 16777216) (Int.tmod a0.Hi 16777216))] 28 0 2 (by kernel_rfl) (by kernel_rfl) (by kernel_rfl) (by kernel_rfl)
set_option maxHeartbeats 4000000 in
theorem armillaryref02_Made.calls (a0 : TInterval) (r : TInterval) (w : World) (G : armillaryref02_Made a0 = some r) :
  Calls Tryd.prog 7 #[.agg #[vI a0.Lo, vI a0.Hi]] w fun e w' => e = .returned (.agg #[vI r.Lo, vI r.Hi]) ∧ Below w.heap.size w w' := by
 refine k_enter (args := [.agg #[vI a0.Lo, vI a0.Hi]]) 13 Tryd.func7 rfl (by kernel_rfl) (by kernel_rfl) fun a H => ?_
 unfold armillaryref02_Made at G
 refine k_seq ?_
 refine k_rg mixed H (.cons [1, 13] (ok_new (fun b => vP b 0) (fun u1 => [vI a0.Lo, vI a0.Hi]) 28 1 13) <|
   .cons [2, 14] (ok_new (fun b => vP b 0) (fun u1 => [vI 0, vI 0]) 28 2 14) <| .nil) fun u1 a w' H => ?_
 replace H := H.kp [1, 2, 13, 14]
 refine k_seq ?_
 refine k_seq ?_
 replace G := bnd G; obtain ⟨t3, ht3, G⟩ := G
 refine k_rg mixed H (.cons [3] (ok_ld (fun u2 => .agg #[vI a0.Lo, vI a0.Hi]) 3 13 0 2 (fun u2 => ((u1 0).n 0)) (fun u2 => [vI a0.Lo, vI a0.Hi]) 28) <|
   .cons [4] (ok_callv 24 (fun u2 => #[.agg #[vI a0.Lo, vI a0.Hi]]) (.bool t3) 4 [] (fun u2 w _ => armillaryref02_Valid.calls a0  t3 w  ht3)) <| .nil) fun u2 a w' H => ?_
 replace H := H.kp [1, 2, 4, 13, 14]
 refine k_cond H (by kernel_rfl) (t := t3) (by kernel_rfl) (fun c11 => ?_) (fun c11 => ?_)
 ·rw [if_pos c11] at G
  refine k_seq ?_
  refine k_rg mixed H (.cons [5] (ok_ld (fun u4 => .agg #[vI a0.Lo, vI a0.Hi]) 5 13 0 2 (fun u4 => ((u1 0).n 0)) (fun u4 => [vI a0.Lo, vI a0.Hi]) 28) <|
   .cons [14] (ok_as (u' := fun u4 => [(14, .blk ((u1 1).n 0) [vI a0.Lo, vI a0.Hi] 28)]) (ok_store 14 0 (fun u4 => ((u1 1).n 0)) (fun u4 => [vI 0, vI 0]) (fun u4 => [vI a0.Lo, vI a0.Hi]) 28) (fun _ => by kernel_rfl)) <| .nil) fun u4 a w' H => ?_
  replace H := H.kp [2, 14]
  refine k_ret ?_
  obtain rfl := Option.some.inj G
  exact k_done1 H _ 14 ((u1 1).n 0) [vI a0.Lo, vI a0.Hi] 28 0 2 (by kernel_rfl) (by kernel_rfl) (by kernel_rfl) (by kernel_rfl)
 ·rw [if_neg (nt c11)] at G
  refine k_skip ?_
  refine k_seq ?_
  refine k_seq ?_
  refine k_rg mixed H (.v 6 (vP ((u1 0).n 0) 0) <|
   .cons [7] (ok_ld (fun u5 => vI a0.Lo) 7 13 0 1 (fun u5 => ((u1 0).n 0)) (fun u5 => [vI a0.Lo, vI a0.Hi]) 28) <|
   .v 8 (vI (b_and .i64 a0.Lo 31)) <|
   .v 9 (.bool ((b_and .i64 a0.Lo 31) == 7)) <| .nil) fun u5 a w' H => ?_
  replace H := H.kp [1, 2, 9, 13, 14]
  refine k_cond H (by kernel_rfl) (t := ((b_and .i64 a0.Lo 31) == 7)) (by kernel_rfl) (fun c10 => ?_) (fun c10 => ?_)
  ·rw [if_pos c10] at G
   refine k_seq ?_
   replace G := bnd G; obtain ⟨t7, ht7, G⟩ := G
   refine k_rg mixed H (.cons [10] (ok_callv 25 (fun u6 => #[]) (.agg #[vI t7.Lo, vI t7.Hi]) 10 [] (fun u6 w _ => armillaryref02_Entire.calls   t7 w  ht7)) <|
   .cons [14] (ok_as (u' := fun u6 => [(14, .blk ((u1 1).n 0) [vI t7.Lo, vI t7.Hi] 28)]) (ok_store 14 0 (fun u6 => ((u1 1).n 0)) (fun u6 => [vI 0, vI 0]) (fun u6 => [vI t7.Lo, vI t7.Hi]) 28) (fun _ => by kernel_rfl)) <| .nil) fun u6 a w' H => ?_
   replace H := H.kp [2, 14]
   refine k_ret ?_
   obtain rfl := Option.some.inj G
   exact k_done1 H _ 14 ((u1 1).n 0) [vI t7.Lo, vI t7.Hi] 28 0 2 (by kernel_rfl) (by kernel_rfl) (by kernel_rfl) (by kernel_rfl)
  ·rw [if_neg (nt c10)] at G
   refine k_skip ?_
   refine k_seq ?_
   replace G := bnd G; obtain ⟨t9, ht9, G⟩ := G
   refine k_rg mixed H (.cons [11] (ok_ld (fun u8 => .agg #[vI a0.Lo, vI a0.Hi]) 11 13 0 2 (fun u8 => ((u1 0).n 0)) (fun u8 => [vI a0.Lo, vI a0.Hi]) 28) <|
   .cons [12] (ok_callv 26 (fun u8 => #[.agg #[vI a0.Lo, vI a0.Hi]]) (.agg #[vI t9.Lo, vI t9.Hi]) 12 [] (fun u8 w _ => armillaryref02_Small.calls a0  t9 w  ht9)) <|
   .cons [14] (ok_as (u' := fun u8 => [(14, .blk ((u1 1).n 0) [vI t9.Lo, vI t9.Hi] 28)]) (ok_store 14 0 (fun u8 => ((u1 1).n 0)) (fun u8 => [vI 0, vI 0]) (fun u8 => [vI t9.Lo, vI t9.Hi]) 28) (fun _ => by kernel_rfl)) <| .nil) fun u8 a w' H => ?_
   replace H := H.kp [2, 14]
   refine k_ret ?_
   obtain rfl := Option.some.inj G
   exact k_done1 H _ 14 ((u1 1).n 0) [vI t9.Lo, vI t9.Hi] 28 0 2 (by kernel_rfl) (by kernel_rfl) (by kernel_rfl) (by kernel_rfl)
end Go.Proofs.YtbpgobecpmjaeaaDoor
