/- Each function of the program answers as the plain Lean function of its name (part 1). Printed by a program of this session. -/
import Derived.Test.YtpmgpcklieincaaGreatDoorFn0
set_option linter.unusedVariables false
set_option linter.unusedSimpArgs false
set_option maxRecDepth 100000
set_option maxHeartbeats 4000000
namespace Go.Proofs.YtpmgpcklieincaaGreatDoor
open Go Go.RowKit Go.Sx Go.Proofs
theorem tape_Eval.calls (k0 : Nat) (a0 : TTape) (a1 : List TInterval) (a2 : TInterval) (p_a0_L : Option Addr) (c_a0_L : Nat) (p_a0_Out : Option Addr) (c_a0_Out : Nat) (p_a1 : Option Addr) (c_a1 : Nat) (r : List TInterval) (w : World) (hB : AllH [rdl anyF 5 p_a0_L c_a0_L a0.L en_TInstruction, rdl anyF 1 p_a0_Out c_a0_Out a0.Out en_i64, rdl anyF 2 p_a1 c_a1 a1 en_TInterval, gk] w) (G : tape_Eval k0 a0 a1 a2 = some r) :
  Calls Tryz.prog 128 #[.agg #[vI a0.N, .slice p_a0_L a0.L.length c_a0_L, .slice p_a0_Out a0.Out.length c_a0_Out], .slice p_a1 a1.length c_a1, .agg #[vI a2.Lo, vI a2.Hi]] w fun e w' => ∃ g : Gh, e = .returned (.slice (g.o 0) r.length (g.n 0)) ∧ But (fpK []) w w' ∧ OutOK w.heap.size (fpK []) (frI w.heap.size []) [fun _ => owl 46 2 (g.o 0) (g.n 0) r en_TInterval] w' := by
 obtain ⟨fr, hfr, hBf⟩ := frs w []
 refine k_enterF (args := [.agg #[vI a0.N, .slice p_a0_L a0.L.length c_a0_L, .slice p_a0_Out a0.Out.length c_a0_Out], .slice p_a1 a1.length c_a1, .agg #[vI a2.Lo, vI a2.Hi]]) 112 [(112, rdl anyF 5 p_a0_L c_a0_L a0.L en_TInstruction), (113, rdl anyF 1 p_a0_Out c_a0_Out a0.Out en_i64), (114, rdl anyF 2 p_a1 c_a1 a1 en_TInterval), (999999, gk)] (by
  intro x hx
  simp only [List.mem_cons, List.not_mem_nil, or_false] at hx
  rcases hx with rfl | rfl | rfl | rfl
  ·exact rdF_fact (rdF_of hB.1) (fun _ _ => trivial) (by decide) _
  ·exact rdF_fact (rdF_of hB.2.1) (fun _ _ => trivial) (by decide) _
  ·exact rdF_fact (rdF_of hB.2.2.1) (fun _ _ => trivial) (by decide) _
  ·exact ⟨⟨_, _, rfl⟩, hB.2.2.2.1, glob_in (glob_of hB.2.2.2.1)⟩) Tryz.func128 rfl (by kernel_rfl) (by kernel_rfl) fun a H => ?_
 unfold tape_Eval at G
 refine k_srk mixed H (.cons [3, 115] (ok_new (fun b => vP b 0) (fun u1 => [vI a0.N, .slice p_a0_L a0.L.length c_a0_L, .slice p_a0_Out a0.Out.length c_a0_Out]) 38 3 115) <|
 .cons [5, 116] (ok_new (fun b => vP b 0) (fun u1 => [vI a2.Lo, vI a2.Hi]) 46 5 116) <|
 .v 6 (.slice none 0 0) <| .nil) [1, 3, 5, 112, 113, 114, 115, 116, 999999] fun u1 a w' H => ?_
 refine k_seq ?_
 replace G := gd G; obtain ⟨b3, G⟩ := G
 refine k_rk mixed H (.v 14 (vP ((u1 0).n 0) 1) <|
 .cons [15] (ok_ldc (.slice p_a0_L a0.L.length c_a0_L) 15 115 1 1 ((u1 0).n 0) [vI a0.N, .slice p_a0_L a0.L.length c_a0_L, .slice p_a0_Out a0.Out.length c_a0_Out] 38) <|
 .v 16 (vI (a0.L.length : Int)) <|
 .cons [17, 117] (ok_rowL [] (fun u2 => []) 46 2 (List.replicate (a0.L.length : Int).toNat (⟨0, 0⟩ : TInterval)).length ((List.replicate (a0.L.length : Int).toNat (⟨0, 0⟩ : TInterval)).flatMap en_TInterval) 17 117 (fun _ => .none) (fun u2 w hF => run_make_row (t := 48) (k := .i64) (m := (a0.L.length : Int)) (en := en_TInterval) (z := (⟨0, 0⟩ : TInterval)) en_TInterval_len inf46 rfl b3 (by kernel_rfl)) (fun _ => .inl rfl)) <|
 .cons [7] (ok_val (fun u2 => .slice ((u2 3).o 0) ((List.replicate (a0.L.length : Int).toNat (⟨0, 0⟩ : TInterval)).length) ((u2 3).n 0)) 7) <| .nil) [1, 3, 5, 7, 112, 113, 114, 115, 116, 117, 999999] fun u2 a w' H => ?_
 refine k_seq ?_
 replace G := bnd G; obtain ⟨j5, hj5, G⟩ := G
 refine k_join (fun a w' => ∃ (p_j4 : Option Addr) (c_j4 np_j4 : Nat), np_j4 = j5.length ∧ RL w 112 [(3, (sP ((u1 0).n 0) 0)), (7, sS p_j4 np_j4 c_j4), (112, rdl anyF 5 p_a0_L c_a0_L a0.L en_TInstruction), (113, rdl anyF 1 p_a0_Out c_a0_Out a0.Out en_i64), (115, .blk ((u1 0).n 0) [vI a0.N, .slice p_a0_L a0.L.length c_a0_L, .slice p_a0_Out a0.Out.length c_a0_Out] 38), (900001, owK 46 2 p_j4 np_j4 c_j4 (j5.flatMap en_TInterval)), (999999, gk)] a w') ?_ ?_
 ·clear H; rintro a w' ⟨p_j4, c_j4, _, rfl, H⟩
  refine k_seq ?_
  replace G := gd G; obtain ⟨b7, G⟩ := G
  refine k_rk mixed H (.v 91 (vP ((u1 0).n 0) 2) <|
 .cons [92] (ok_ldc (.slice p_a0_Out a0.Out.length c_a0_Out) 92 115 2 1 ((u1 0).n 0) [vI a0.N, .slice p_a0_L a0.L.length c_a0_L, .slice p_a0_Out a0.Out.length c_a0_Out] 38) <|
 .v 93 (vI (a0.Out.length : Int)) <|
 .cons [94, 118] (ok_rowL [] (fun u6 => []) 46 2 (List.replicate (a0.Out.length : Int).toNat (⟨0, 0⟩ : TInterval)).length ((List.replicate (a0.Out.length : Int).toNat (⟨0, 0⟩ : TInterval)).flatMap en_TInterval) 94 118 (fun _ => .none) (fun u6 w hF => run_make_row (t := 48) (k := .i64) (m := (a0.Out.length : Int)) (en := en_TInterval) (z := (⟨0, 0⟩ : TInterval)) en_TInterval_len inf46 rfl b7 (by kernel_rfl)) (fun _ => .inl rfl)) <|
 .cons [11] (ok_val (fun u6 => .slice ((u6 3).o 0) ((List.replicate (a0.Out.length : Int).toNat (⟨0, 0⟩ : TInterval)).length) ((u6 3).n 0)) 11) <| .nil) [3, 7, 11, 112, 113, 115, 118, 900001, 999999] fun u6 a w' H => ?_
  refine k_seq ?_
  replace G := bnd G; obtain ⟨j9, hj9, G⟩ := G
  refine k_join (fun a w' => ∃ (p_j8 : Option Addr) (c_j8 np_j8 : Nat), np_j8 = j9.length ∧ RL w 112 [(11, sS p_j8 np_j8 c_j8), (900002, owK 46 2 p_j8 np_j8 c_j8 (j9.flatMap en_TInterval)), (999999, gk)] a w') ?_ ?_
  ·clear H; rintro a w' ⟨p_j8, c_j8, _, rfl, H⟩
   refine k_srk mixed H (.v 111 (.slice p_j8 j9.length c_j8) <|
 .v 6 (.slice p_j8 j9.length c_j8) <| .nil) [6, 900002, 999999] fun u10 a w' H => ?_
   refine k_ret ?_
   obtain rfl := sj G
   obtain ⟨g, o0, n0⟩ := gh_r p_j8 c_j8
   refine k_doneZ H _ g _ _ _ fr [900002] [] (.slice p_j8 j9.length c_j8) [fun _ => owl 46 2 p_j8 c_j8 j9 en_TInterval] (by simp only [owl, o0, n0]) (by simp only [owl, o0, n0]) hfr (.inl ⟨rfl, rfl⟩) (fams_cons fam_ow fams_nil) (by simp)
  ·clear G; replace G := hj9; clear hj9
   refine k_srk mixed H (.v 95 (vP ((u1 0).n 0) 2) <|
 .cons [96] (ok_ldc (.slice p_a0_Out a0.Out.length c_a0_Out) 96 115 2 1 ((u1 0).n 0) [vI a0.N, .slice p_a0_L a0.L.length c_a0_L, .slice p_a0_Out a0.Out.length c_a0_Out] 38) <|
 .v 97 (vI (a0.Out.length : Int)) <|
 .v 98 (vI 0) <| .nil) [7, 11, 96, 97, 98, 113, 118, 900001, 999999] fun u11 a w' H => ?_
   refine k_block ?_
   replace H := H.move (K := owl 46 2 ((u6 3).o 0) ((u6 3).n 0) (List.replicate (a0.Out.length : Int).toNat (⟨0, 0⟩ : TInterval)) en_TInterval) 118 900003 (by kernel_rfl) (by intro _ _ h; cases h)
   refine k_loopJ (fun m a w' => ∃ x12 : List TInterval, ∃ x13 : Int, tape_Eval.l14 k0 a0 a1 a2 j5 m x12 x13 = some j9 ∧ ∃ (p_x12 : Option Addr) (c_x12 np_x12 : Nat), np_x12 = x12.length ∧ RL w 112 [(7, sS p_j4 j5.length c_j4), (11, sS p_x12 np_x12 c_x12), (96, sS p_a0_Out a0.Out.length c_a0_Out), (97, (sI (a0.Out.length : Int))), (98, sI x13), (113, rdl anyF 1 p_a0_Out c_a0_Out a0.Out en_i64), (900001, owl 46 2 p_j4 c_j4 j5 en_TInterval), (900003, owK 46 2 p_x12 np_x12 c_x12 (x12.flatMap en_TInterval)), (999999, gk)] a w') k0 ⟨_, _, G, ((u6 3).o 0), ((u6 3).n 0), (List.replicate (a0.Out.length : Int).toNat (⟨0, 0⟩ : TInterval)).length, rfl, H.toM _⟩ ?_
   clear G H
   rintro (_ | k) a w' ⟨x12, x13, G, p_x12, c_x12, _, rfl, H⟩
   ·exact absurd G (by unfold tape_Eval.l14; exact fun h => by cases h)
   ·unfold tape_Eval.l14 at G
    refine k_srk mixed H (.v 99 (.bool (decide (x13 < (a0.Out.length : Int)))) <| .nil) [7, 11, 96, 97, 98, 99, 113, 900001, 900003, 999999] fun u15 a w' H => ?_
    refine k_seq ?_
    refine k_cnd H (decide (x13 < (a0.Out.length : Int))) (fun c25 => ?_) fun c25 => ?_
    ·rw [if_pos c25] at G
     refine k_skip ?_
     refine k_seq ?_
     refine k_block ?_
     refine k_seq ?_
     replace G := gd G; obtain ⟨b17, G⟩ := G
     replace G := bnd G; obtain ⟨t18, ht18, G⟩ := G
     refine k_rk mixed H (.v 100 (vI x13) <|
 .cons [101] (ok_v1 113 (rdl anyF 1 p_a0_Out c_a0_Out a0.Out en_i64) (.pointer (some ⟨hdB p_a0_Out, hdO p_a0_Out + x13.toNat * 1, none⟩)) 101 fun _ w h => ixr 36 .i64 x13 p_a0_Out a0.Out.length c_a0_Out a0.Out en_i64 (rdF_of h).2 en_i64_len rfl b17) <|
 .cons [102] (ok_v1 113 (rdl anyF 1 p_a0_Out c_a0_Out a0.Out en_i64) (vI t18) 102 fun _ w h => ldr en_i64 (rdF_of h).2 en_i64_len ht18 0 1 [vI t18]) <|
 .v 12 (vI x13) <|
 .v 13 (vI t18) <| .nil) [7, 11, 12, 13, 96, 97, 98, 113, 900001, 900003, 999999] fun u16 a w' H => ?_
     replace G := gd G; obtain ⟨b20, G⟩ := G
     replace G := bnd G; obtain ⟨t21, ht21, G⟩ := G
     replace G := gd G; obtain ⟨b22, G⟩ := G
     replace G := bnd G; obtain ⟨t23, ht23, G⟩ := G
     refine k_rk mixed H (.v 103 (.slice p_x12 x12.length c_x12) <|
 .v 104 (vI x13) <|
 .v 105 (.slice p_j4 j5.length c_j4) <|
 .v 106 (vI t18) <|
 .cons [107] (ok_v1 900001 (owl 46 2 p_j4 c_j4 j5 en_TInterval) (.pointer (some ⟨hdB p_j4, hdO p_j4 + t18.toNat * 2, none⟩)) 107 fun _ w h => ixr 48 .i64 t18 p_j4 j5.length c_j4 j5 en_TInterval (owns_rowC (ow_of h)).2 en_TInterval_len rfl b20) <|
 .cons [108] (ok_v1 900001 (owl 46 2 p_j4 c_j4 j5 en_TInterval) (.agg #[vI t21.Lo, vI t21.Hi]) 108 fun _ w h => ldr en_TInterval (owns_rowC (ow_of h)).2 en_TInterval_len ht21 0 2 [vI t21.Lo, vI t21.Hi]) <|
 .cons [109] (ok_v1 900003 (owl 46 2 p_x12 c_x12 x12 en_TInterval) (.pointer (some ⟨hdB p_x12, hdO p_x12 + x13.toNat * 2, none⟩)) 109 fun _ w h => ixr 48 .i64 x13 p_x12 x12.length c_x12 x12 en_TInterval (owns_rowC (ow_of h)).2 en_TInterval_len rfl b22) <|
 .cons [900003, 900003] (ok_own1 [] [] (fun u19 => []) 900003 (fun u19 => owl 46 2 p_x12 c_x12 x12 en_TInterval) none (fun u19 g => .nilFunc) (fun u19 g => owK 46 2 p_x12 x12.length c_x12 ((x12.set x13.toNat t21).flatMap en_TInterval)) (fun u19 w hF hK => tv_set (el_storeN (ow_of hK) en_TInterval_len (y := t21) (vs := [vI t21.Lo, vI t21.Hi]) ht23 0 (by simp) (by simp) rfl (by kernel_rfl)))) <| .nil) [7, 11, 96, 97, 98, 113, 900001, 900003, 999999] fun u19 a w' H => ?_
     refine k_rk mixed H (.v 110 (vI (w_i64 (x13 + 1))) <|
 .v 98 (vI (w_i64 (x13 + 1))) <| .nil) [7, 11, 96, 97, 98, 113, 900001, 900003, 999999] fun u24 a w' H => ?_
     exact ⟨k, Nat.lt_succ_self k, _, _, G, p_x12, c_x12, x12.length, by simp, H.toM _⟩
    ·rw [if_neg (nt c25)] at G
     refine k_exit rfl ?_
     obtain rfl := sj G
     replace H := H.move (K := owl 46 2 p_x12 c_x12 x12 en_TInterval) 900003 900002 (by kernel_rfl) (by intro _ _ h; cases h)
     exact ⟨p_x12, c_x12, x12.length, rfl, H.toM _⟩
 ·clear G; replace G := hj5; clear hj5
  refine k_srk mixed H (.v 18 (vP ((u1 0).n 0) 1) <|
 .cons [19] (ok_ldc (.slice p_a0_L a0.L.length c_a0_L) 19 115 1 1 ((u1 0).n 0) [vI a0.N, .slice p_a0_L a0.L.length c_a0_L, .slice p_a0_Out a0.Out.length c_a0_Out] 38) <|
 .v 20 (vI (a0.L.length : Int)) <|
 .v 21 (vI 0) <| .nil) [1, 3, 5, 7, 19, 20, 21, 112, 113, 114, 115, 116, 117, 999999] fun u26 a w' H => ?_
  refine k_block ?_
  replace H := H.move (K := owl 46 2 ((u2 3).o 0) ((u2 3).n 0) (List.replicate (a0.L.length : Int).toNat (⟨0, 0⟩ : TInterval)) en_TInterval) 117 900004 (by kernel_rfl) (by intro _ _ h; cases h)
  refine k_loopJ (fun m a w' => ∃ x27 : List TInterval, ∃ x28 : Int, tape_Eval.l29 k0 a0 a1 a2 m x27 x28 = some j5 ∧ ∃ (p_x27 : Option Addr) (c_x27 np_x27 : Nat), np_x27 = x27.length ∧ RL w 112 [(1, sS p_a1 a1.length c_a1), (3, (sP ((u1 0).n 0) 0)), (5, (sP ((u1 1).n 0) 0)), (7, sS p_x27 np_x27 c_x27), (19, sS p_a0_L a0.L.length c_a0_L), (20, (sI (a0.L.length : Int))), (21, sI x28), (112, rdl anyF 5 p_a0_L c_a0_L a0.L en_TInstruction), (113, rdl anyF 1 p_a0_Out c_a0_Out a0.Out en_i64), (114, rdl anyF 2 p_a1 c_a1 a1 en_TInterval), (115, .blk ((u1 0).n 0) [vI a0.N, .slice p_a0_L a0.L.length c_a0_L, .slice p_a0_Out a0.Out.length c_a0_Out] 38), (116, .blk ((u1 1).n 0) [vI a2.Lo, vI a2.Hi] 46), (900004, owK 46 2 p_x27 np_x27 c_x27 (x27.flatMap en_TInterval)), (999999, gk)] a w') k0 ⟨_, _, G, ((u2 3).o 0), ((u2 3).n 0), (List.replicate (a0.L.length : Int).toNat (⟨0, 0⟩ : TInterval)).length, rfl, H.toM _⟩ ?_
  clear G H
  rintro (_ | k) a w' ⟨x27, x28, G, p_x27, c_x27, _, rfl, H⟩
  ·exact absurd G (by unfold tape_Eval.l29; exact fun h => by cases h)
  ·unfold tape_Eval.l29 at G
   refine k_srk mixed H (.v 22 (.bool (decide (x28 < (a0.L.length : Int)))) <| .nil) [1, 3, 5, 7, 19, 20, 21, 22, 112, 113, 114, 115, 116, 900004, 999999] fun u30 a w' H => ?_
   refine k_seq ?_
   refine k_cnd H (decide (x28 < (a0.L.length : Int))) (fun c166 => ?_) fun c166 => ?_
   ·rw [if_pos c166] at G
    refine k_skip ?_
    refine k_seq ?_
    replace G := bnd G; obtain ⟨j32, hj32, G⟩ := G
    refine k_join (fun a w' => ∃ (p_j31 : Option Addr) (c_j31 np_j31 : Nat), np_j31 = j32.length ∧ RL w 112 [(1, sS p_a1 a1.length c_a1), (3, (sP ((u1 0).n 0) 0)), (5, (sP ((u1 1).n 0) 0)), (7, sS p_j31 np_j31 c_j31), (19, sS p_a0_L a0.L.length c_a0_L), (20, (sI (a0.L.length : Int))), (21, sI x28), (112, rdl anyF 5 p_a0_L c_a0_L a0.L en_TInstruction), (113, rdl anyF 1 p_a0_Out c_a0_Out a0.Out en_i64), (114, rdl anyF 2 p_a1 c_a1 a1 en_TInterval), (115, .blk ((u1 0).n 0) [vI a0.N, .slice p_a0_L a0.L.length c_a0_L, .slice p_a0_Out a0.Out.length c_a0_Out] 38), (116, .blk ((u1 1).n 0) [vI a2.Lo, vI a2.Hi] 46), (900005, owK 46 2 p_j31 np_j31 c_j31 (j32.flatMap en_TInterval)), (999999, gk)] a w') ?_ ?_
    ·clear H; rintro a w' ⟨p_j31, c_j31, _, rfl, H⟩
     refine k_rk mixed H (.v 90 (vI (w_i64 (x28 + 1))) <|
 .v 21 (vI (w_i64 (x28 + 1))) <| .nil) [1, 3, 5, 7, 19, 20, 21, 112, 113, 114, 115, 116, 900005, 999999] fun u33 a w' H => ?_
     replace H := H.move (K := owl 46 2 p_j31 c_j31 j32 en_TInterval) 900005 900004 (by kernel_rfl) (by intro _ _ h; cases h)
     exact ⟨k, Nat.lt_succ_self k, _, _, G, p_j31, c_j31, j32.length, rfl, H.toM _⟩
    ·clear G; replace G := hj32; clear hj32
     refine k_block ?_
     refine k_seq ?_
     replace G := gd G; obtain ⟨b35, G⟩ := G
     replace G := bnd G; obtain ⟨t36, ht36, G⟩ := G
     refine k_rk mixed H (.v 23 (vI x28) <|
 .cons [24] (ok_v1 112 (rdl anyF 5 p_a0_L c_a0_L a0.L en_TInstruction) (.pointer (some ⟨hdB p_a0_L, hdO p_a0_L + x28.toNat * 5, none⟩)) 24 fun _ w h => ixr 35 .i64 x28 p_a0_L a0.L.length c_a0_L a0.L en_TInstruction (rdF_of h).2 en_TInstruction_len rfl b35) <|
 .cons [25] (ok_v1 112 (rdl anyF 5 p_a0_L c_a0_L a0.L en_TInstruction) (.agg #[vI t36.Op, vI t36.A, vI t36.B, vI t36.C.Lo, vI t36.C.Hi]) 25 fun _ w h => ldr en_TInstruction (rdF_of h).2 en_TInstruction_len ht36 0 5 [vI t36.Op, vI t36.A, vI t36.B, vI t36.C.Lo, vI t36.C.Hi]) <|
 .cons [9, 123] (ok_new (fun b => vP b 0) (fun u34 => [vI 0, vI 0, vI 0, vI 0, vI 0]) 110 9 123) <|
 .v 8 (vI x28) <|
 .cons [123] (ok_as (u' := fun u34 => [(123, .blk ((u34 3).n 0) [vI t36.Op, vI t36.A, vI t36.B, vI t36.C.Lo, vI t36.C.Hi] 110)]) (ok_store 123 0 (fun u34 => ((u34 3).n 0)) (fun u34 => [vI 0, vI 0, vI 0, vI 0, vI 0]) (fun u34 => [vI t36.Op, vI t36.A, vI t36.B, vI t36.C.Lo, vI t36.C.Hi]) 110) (fun _ => by kernel_rfl)) <| .nil) [1, 3, 5, 7, 8, 9, 19, 20, 21, 112, 113, 114, 115, 116, 123, 900004, 999999] fun u34 a w' H => ?_
     refine k_seq ?_
     replace G := bnd G; obtain ⟨z37, hz37, G⟩ := G
     replace hz37 := Option.some.inj hz37
     by_cases c155 : z37 = 0
     ·rw [if_pos c155] at G; subst c155
      try rw [hz37] at H
      refine k_rk mixed H (.v 26 (vP ((u34 3).n 0) 0) <|
 .cons [27] (ok_ldc (vI 0) 27 123 0 1 ((u34 3).n 0) [vI 0, vI t36.A, vI t36.B, vI t36.C.Lo, vI t36.C.Hi] 110) <|
 .v 28 (vP 1 0) <|
 .cons [29] (ok_ldK (fun u38 => .agg #[.nilFunc, .nilFunc]) 29 999999 gk 1 0 2 gTab1 (fun w h => (glob_of h).tab1)) <|
 .cons [10, 124] (ok_new (fun b => vP b 0) (fun u38 => [.nilFunc, .nilFunc]) 230 10 124) <|
 .cons [124] (ok_as (u' := fun u38 => [(124, .blk ((u38 4).n 0) [.nilFunc, .nilFunc] 230)]) (ok_store 124 0 (fun u38 => ((u38 4).n 0)) (fun u38 => [.nilFunc, .nilFunc]) (fun u38 => [.nilFunc, .nilFunc]) 230) (fun _ => by kernel_rfl)) <| .nil) [1, 3, 5, 7, 8, 9, 10, 19, 20, 21, 112, 113, 114, 115, 116, 123, 124, 900004, 999999] fun u38 a w' H => ?_
      refine k_block ?_
      refine k_srk mixed H (.v 47 (vP ((u34 3).n 0) 0) <|
 .cons [48] (ok_ldc (vI 0) 48 123 0 1 ((u34 3).n 0) [vI 0, vI t36.A, vI t36.B, vI t36.C.Lo, vI t36.C.Hi] 110) <|
 .v 49 (.bool false) <|
 .v 46 (.bool false) <| .nil) [1, 3, 5, 7, 8, 9, 10, 19, 20, 21, 46, 112, 113, 114, 115, 116, 123, 124, 900004, 999999] fun u39 a w' H => ?_
      refine k_cond_false H (by kernel_rfl) (by kernel_rfl) ?_
      refine k_srk mixed H (.v 56 (vP ((u34 3).n 0) 0) <|
 .cons [57] (ok_ldc (vI 0) 57 123 0 1 ((u34 3).n 0) [vI 0, vI t36.A, vI t36.B, vI t36.C.Lo, vI t36.C.Hi] 110) <|
 .v 58 (.bool false) <|
 .v 55 (.bool false) <| .nil) [1, 3, 5, 7, 8, 9, 10, 19, 20, 21, 55, 112, 113, 114, 115, 116, 123, 124, 900004, 999999] fun u40 a w' H => ?_
      refine k_cond_false H (by kernel_rfl) (by kernel_rfl) ?_
      refine k_srk mixed H (.v 68 (vP ((u34 3).n 0) 0) <|
 .cons [69] (ok_ldc (vI 0) 69 123 0 1 ((u34 3).n 0) [vI 0, vI t36.A, vI t36.B, vI t36.C.Lo, vI t36.C.Hi] 110) <|
 .v 70 (.bool false) <|
 .v 67 (.bool false) <| .nil) [1, 3, 5, 7, 8, 9, 10, 19, 20, 21, 67, 112, 113, 114, 115, 116, 123, 124, 900004, 999999] fun u41 a w' H => ?_
      refine k_cond_false H (by kernel_rfl) (by kernel_rfl) ?_
      refine k_srk mixed H (.v 76 (vP ((u38 4).n 0) 0) <|
 .cons [77] (ok_ldc .nilFunc 77 124 0 1 ((u38 4).n 0) [.nilFunc, .nilFunc] 230) <|
 .v 78 (.bool false) <|
 .v 75 (.bool false) <| .nil) [1, 3, 5, 7, 8, 9, 10, 19, 20, 21, 75, 112, 113, 114, 115, 116, 123, 124, 900004, 999999] fun u42 a w' H => ?_
      refine k_cond_false H (by kernel_rfl) (by kernel_rfl) ?_
      cases G
     rw [if_neg c155] at G
     by_cases c156 : z37 = 1
     ·rw [if_pos c156] at G; subst c156
      try rw [hz37] at H
      refine k_rk mixed H (.v 26 (vP ((u34 3).n 0) 0) <|
 .cons [27] (ok_ldc (vI 1) 27 123 0 1 ((u34 3).n 0) [vI 1, vI t36.A, vI t36.B, vI t36.C.Lo, vI t36.C.Hi] 110) <|
 .v 28 (vP 1 2) <|
 .cons [29] (ok_ldK (fun u43 => .agg #[.nilFunc, .nilFunc]) 29 999999 gk 1 2 2 gTab1 (fun w h => (glob_of h).tab1)) <|
 .cons [10, 125] (ok_new (fun b => vP b 0) (fun u43 => [.nilFunc, .nilFunc]) 230 10 125) <|
 .cons [125] (ok_as (u' := fun u43 => [(125, .blk ((u43 4).n 0) [.nilFunc, .nilFunc] 230)]) (ok_store 125 0 (fun u43 => ((u43 4).n 0)) (fun u43 => [.nilFunc, .nilFunc]) (fun u43 => [.nilFunc, .nilFunc]) 230) (fun _ => by kernel_rfl)) <| .nil) [1, 3, 5, 7, 8, 9, 10, 19, 20, 21, 112, 113, 114, 115, 116, 123, 125, 900004, 999999] fun u43 a w' H => ?_
      refine k_block ?_
      refine k_srg mixed H (.v 47 (vP ((u34 3).n 0) 0) <|
 .cons [48] (ok_ldc (vI 1) 48 123 0 1 ((u34 3).n 0) [vI 1, vI t36.A, vI t36.B, vI t36.C.Lo, vI t36.C.Hi] 110) <|
 .v 49 (.bool true) <|
 .v 46 (.bool true) <| .nil) fun u44 a w' H => ?_
      replace H := H.toM [(1, sS p_a1 a1.length c_a1), (3, (sP ((u1 0).n 0) 0)), (5, (sP ((u1 1).n 0) 0)), (7, sS p_x27 x27.length c_x27), (8, sI x28), (9, (sP ((u34 3).n 0) 0)), (10, (sP ((u43 4).n 0) 0)), (19, sS p_a0_L a0.L.length c_a0_L), (20, (sI (a0.L.length : Int))), (21, sI x28), (46, sB true), (112, rdl anyF 5 p_a0_L c_a0_L a0.L en_TInstruction), (113, rdl anyF 1 p_a0_Out c_a0_Out a0.Out en_i64), (114, rdl anyF 2 p_a1 c_a1 a1 en_TInterval), (115, .blk ((u1 0).n 0) [vI a0.N, .slice p_a0_L a0.L.length c_a0_L, .slice p_a0_Out a0.Out.length c_a0_Out] 38), (116, .blk ((u1 1).n 0) [vI a2.Lo, vI a2.Hi] 46), (123, .blk ((u34 3).n 0) [vI 1, vI t36.A, vI t36.B, vI t36.C.Lo, vI t36.C.Hi] 110), (125, .blk ((u43 4).n 0) [.nilFunc, .nilFunc] 230), (900004, owl 46 2 p_x27 c_x27 x27 en_TInterval), (999999, gk)]
      refine k_cond_true H (by kernel_rfl) (by kernel_rfl) ?_
      replace G := gd G; obtain ⟨b46, G⟩ := G
      replace G := bnd G; obtain ⟨t47, ht47, G⟩ := G
      refine k_rk mixed H (.v 50 (.slice p_x27 x27.length c_x27) <|
 .v 51 (vI x28) <|
 .v 52 (vP ((u34 3).n 0) 3) <|
 .cons [53] (ok_ldc (.agg #[vI t36.C.Lo, vI t36.C.Hi]) 53 123 3 2 ((u34 3).n 0) [vI 1, vI t36.A, vI t36.B, vI t36.C.Lo, vI t36.C.Hi] 110) <|
 .cons [54] (ok_v1 900004 (owl 46 2 p_x27 c_x27 x27 en_TInterval) (.pointer (some ⟨hdB p_x27, hdO p_x27 + x28.toNat * 2, none⟩)) 54 fun _ w h => ixr 48 .i64 x28 p_x27 x27.length c_x27 x27 en_TInterval (owns_rowC (ow_of h)).2 en_TInterval_len rfl b46) <|
 .cons [900004, 900004] (ok_own1 [] [] (fun u45 => []) 900004 (fun u45 => owl 46 2 p_x27 c_x27 x27 en_TInterval) none (fun u45 g => .nilFunc) (fun u45 g => owK 46 2 p_x27 x27.length c_x27 ((x27.set x28.toNat (⟨t36.C.Lo, t36.C.Hi⟩ : TInterval)).flatMap en_TInterval)) (fun u45 w hF hK => tv_set (el_storeN (ow_of hK) en_TInterval_len (y := (⟨t36.C.Lo, t36.C.Hi⟩ : TInterval)) (vs := [vI t36.C.Lo, vI t36.C.Hi]) ht47 0 (by simp) (by simp) rfl (by kernel_rfl)))) <| .nil) [1, 3, 5, 7, 19, 20, 21, 112, 113, 114, 115, 116, 900004, 999999] fun u45 a w' H => ?_
      obtain rfl := sj G
      replace H := H.move (K := owK 46 2 p_x27 x27.length c_x27 ((x27.set x28.toNat (⟨t36.C.Lo, t36.C.Hi⟩ : TInterval)).flatMap en_TInterval)) 900004 900005 (by kernel_rfl) (by intro _ _ h; cases h)
      exact ⟨p_x27, c_x27, x27.length, by simp, H.toM _⟩
     rw [if_neg c156] at G
     by_cases c157 : z37 = 2
     ·rw [if_pos c157] at G; subst c157
      try rw [hz37] at H
      refine k_rk mixed H (.v 26 (vP ((u34 3).n 0) 0) <|
 .cons [27] (ok_ldc (vI 2) 27 123 0 1 ((u34 3).n 0) [vI 2, vI t36.A, vI t36.B, vI t36.C.Lo, vI t36.C.Hi] 110) <|
 .v 28 (vP 1 4) <|
 .cons [29] (ok_ldK (fun u48 => .agg #[.nilFunc, .nilFunc]) 29 999999 gk 1 4 2 gTab1 (fun w h => (glob_of h).tab1)) <|
 .cons [10, 127] (ok_new (fun b => vP b 0) (fun u48 => [.nilFunc, .nilFunc]) 230 10 127) <|
 .cons [127] (ok_as (u' := fun u48 => [(127, .blk ((u48 4).n 0) [.nilFunc, .nilFunc] 230)]) (ok_store 127 0 (fun u48 => ((u48 4).n 0)) (fun u48 => [.nilFunc, .nilFunc]) (fun u48 => [.nilFunc, .nilFunc]) 230) (fun _ => by kernel_rfl)) <| .nil) [1, 3, 5, 7, 8, 9, 10, 19, 20, 21, 112, 113, 114, 115, 116, 123, 127, 900004, 999999] fun u48 a w' H => ?_
      refine k_block ?_
      refine k_srk mixed H (.v 47 (vP ((u34 3).n 0) 0) <|
 .cons [48] (ok_ldc (vI 2) 48 123 0 1 ((u34 3).n 0) [vI 2, vI t36.A, vI t36.B, vI t36.C.Lo, vI t36.C.Hi] 110) <|
 .v 49 (.bool false) <|
 .v 46 (.bool false) <| .nil) [1, 3, 5, 7, 8, 9, 10, 19, 20, 21, 46, 112, 113, 114, 115, 116, 123, 127, 900004, 999999] fun u49 a w' H => ?_
      refine k_cond_false H (by kernel_rfl) (by kernel_rfl) ?_
      refine k_srk mixed H (.v 56 (vP ((u34 3).n 0) 0) <|
 .cons [57] (ok_ldc (vI 2) 57 123 0 1 ((u34 3).n 0) [vI 2, vI t36.A, vI t36.B, vI t36.C.Lo, vI t36.C.Hi] 110) <|
 .v 58 (.bool true) <|
 .v 55 (.bool true) <| .nil) [1, 3, 5, 7, 8, 9, 10, 19, 20, 21, 55, 112, 113, 114, 115, 116, 123, 127, 900004, 999999] fun u50 a w' H => ?_
      refine k_cond_true H (by kernel_rfl) (by kernel_rfl) ?_
      replace G := gd G; obtain ⟨b52, G⟩ := G
      replace G := bnd G; obtain ⟨t53, ht53, G⟩ := G
      replace G := gd G; obtain ⟨b54, G⟩ := G
      replace G := bnd G; obtain ⟨t55, ht55, G⟩ := G
      refine k_rk mixed H (.v 59 (.slice p_x27 x27.length c_x27) <|
 .v 60 (vI x28) <|
 .v 61 (.slice p_a1 a1.length c_a1) <|
 .v 62 (vP ((u34 3).n 0) 1) <|
 .cons [63] (ok_ldc (vI t36.A) 63 123 1 1 ((u34 3).n 0) [vI 2, vI t36.A, vI t36.B, vI t36.C.Lo, vI t36.C.Hi] 110) <|
 .cons [64] (ok_v1 114 (rdl anyF 2 p_a1 c_a1 a1 en_TInterval) (.pointer (some ⟨hdB p_a1, hdO p_a1 + t36.A.toNat * 2, none⟩)) 64 fun _ w h => ixr 48 .i64 t36.A p_a1 a1.length c_a1 a1 en_TInterval (rdF_of h).2 en_TInterval_len rfl b52) <|
 .cons [65] (ok_v1 114 (rdl anyF 2 p_a1 c_a1 a1 en_TInterval) (.agg #[vI t53.Lo, vI t53.Hi]) 65 fun _ w h => ldr en_TInterval (rdF_of h).2 en_TInterval_len ht53 0 2 [vI t53.Lo, vI t53.Hi]) <|
 .cons [66] (ok_v1 900004 (owl 46 2 p_x27 c_x27 x27 en_TInterval) (.pointer (some ⟨hdB p_x27, hdO p_x27 + x28.toNat * 2, none⟩)) 66 fun _ w h => ixr 48 .i64 x28 p_x27 x27.length c_x27 x27 en_TInterval (owns_rowC (ow_of h)).2 en_TInterval_len rfl b54) <|
 .cons [900004, 900004] (ok_own1 [] [] (fun u51 => []) 900004 (fun u51 => owl 46 2 p_x27 c_x27 x27 en_TInterval) none (fun u51 g => .nilFunc) (fun u51 g => owK 46 2 p_x27 x27.length c_x27 ((x27.set x28.toNat t53).flatMap en_TInterval)) (fun u51 w hF hK => tv_set (el_storeN (ow_of hK) en_TInterval_len (y := t53) (vs := [vI t53.Lo, vI t53.Hi]) ht55 0 (by simp) (by simp) rfl (by kernel_rfl)))) <| .nil) [1, 3, 5, 7, 19, 20, 21, 112, 113, 114, 115, 116, 900004, 999999] fun u51 a w' H => ?_
      obtain rfl := sj G
      replace H := H.move (K := owK 46 2 p_x27 x27.length c_x27 ((x27.set x28.toNat t53).flatMap en_TInterval)) 900004 900005 (by kernel_rfl) (by intro _ _ h; cases h)
      exact ⟨p_x27, c_x27, x27.length, by simp, H.toM _⟩
     rw [if_neg c157] at G
     by_cases c158 : z37 = 3
     ·rw [if_pos c158] at G; subst c158
      try rw [hz37] at H
      refine k_rk mixed H (.v 26 (vP ((u34 3).n 0) 0) <|
 .cons [27] (ok_ldc (vI 3) 27 123 0 1 ((u34 3).n 0) [vI 3, vI t36.A, vI t36.B, vI t36.C.Lo, vI t36.C.Hi] 110) <|
 .v 28 (vP 1 6) <|
 .cons [29] (ok_ldK (fun u56 => .agg #[.nilFunc, .nilFunc]) 29 999999 gk 1 6 2 gTab1 (fun w h => (glob_of h).tab1)) <|
 .cons [10, 129] (ok_new (fun b => vP b 0) (fun u56 => [.nilFunc, .nilFunc]) 230 10 129) <|
 .cons [129] (ok_as (u' := fun u56 => [(129, .blk ((u56 4).n 0) [.nilFunc, .nilFunc] 230)]) (ok_store 129 0 (fun u56 => ((u56 4).n 0)) (fun u56 => [.nilFunc, .nilFunc]) (fun u56 => [.nilFunc, .nilFunc]) 230) (fun _ => by kernel_rfl)) <| .nil) [1, 3, 5, 7, 8, 9, 10, 19, 20, 21, 112, 113, 114, 115, 116, 123, 129, 900004, 999999] fun u56 a w' H => ?_
      refine k_block ?_
      refine k_srk mixed H (.v 47 (vP ((u34 3).n 0) 0) <|
 .cons [48] (ok_ldc (vI 3) 48 123 0 1 ((u34 3).n 0) [vI 3, vI t36.A, vI t36.B, vI t36.C.Lo, vI t36.C.Hi] 110) <|
 .v 49 (.bool false) <|
 .v 46 (.bool false) <| .nil) [1, 3, 5, 7, 8, 9, 10, 19, 20, 21, 46, 112, 113, 114, 115, 116, 123, 129, 900004, 999999] fun u57 a w' H => ?_
      refine k_cond_false H (by kernel_rfl) (by kernel_rfl) ?_
      refine k_srk mixed H (.v 56 (vP ((u34 3).n 0) 0) <|
 .cons [57] (ok_ldc (vI 3) 57 123 0 1 ((u34 3).n 0) [vI 3, vI t36.A, vI t36.B, vI t36.C.Lo, vI t36.C.Hi] 110) <|
 .v 58 (.bool false) <|
 .v 55 (.bool false) <| .nil) [1, 3, 5, 7, 8, 9, 10, 19, 20, 21, 55, 112, 113, 114, 115, 116, 123, 129, 900004, 999999] fun u58 a w' H => ?_
      refine k_cond_false H (by kernel_rfl) (by kernel_rfl) ?_
      refine k_srg mixed H (.v 68 (vP ((u34 3).n 0) 0) <|
 .cons [69] (ok_ldc (vI 3) 69 123 0 1 ((u34 3).n 0) [vI 3, vI t36.A, vI t36.B, vI t36.C.Lo, vI t36.C.Hi] 110) <|
 .v 70 (.bool true) <|
 .v 67 (.bool true) <| .nil) fun u59 a w' H => ?_
      replace H := H.toM [(1, sS p_a1 a1.length c_a1), (3, (sP ((u1 0).n 0) 0)), (5, (sP ((u1 1).n 0) 0)), (7, sS p_x27 x27.length c_x27), (8, sI x28), (9, (sP ((u34 3).n 0) 0)), (10, (sP ((u56 4).n 0) 0)), (19, sS p_a0_L a0.L.length c_a0_L), (20, (sI (a0.L.length : Int))), (21, sI x28), (67, sB true), (112, rdl anyF 5 p_a0_L c_a0_L a0.L en_TInstruction), (113, rdl anyF 1 p_a0_Out c_a0_Out a0.Out en_i64), (114, rdl anyF 2 p_a1 c_a1 a1 en_TInterval), (115, .blk ((u1 0).n 0) [vI a0.N, .slice p_a0_L a0.L.length c_a0_L, .slice p_a0_Out a0.Out.length c_a0_Out] 38), (116, .blk ((u1 1).n 0) [vI a2.Lo, vI a2.Hi] 46), (123, .blk ((u34 3).n 0) [vI 3, vI t36.A, vI t36.B, vI t36.C.Lo, vI t36.C.Hi] 110), (129, .blk ((u56 4).n 0) [.nilFunc, .nilFunc] 230), (900004, owl 46 2 p_x27 c_x27 x27 en_TInterval), (999999, gk)]
      refine k_cond_true H (by kernel_rfl) (by kernel_rfl) ?_
      replace G := gd G; obtain ⟨b61, G⟩ := G
      replace G := bnd G; obtain ⟨t62, ht62, G⟩ := G
      refine k_rk mixed H (.v 71 (.slice p_x27 x27.length c_x27) <|
 .v 72 (vI x28) <|
 .cons [73] (ok_ldc (.agg #[vI a2.Lo, vI a2.Hi]) 73 116 0 2 ((u1 1).n 0) [vI a2.Lo, vI a2.Hi] 46) <|
 .cons [74] (ok_v1 900004 (owl 46 2 p_x27 c_x27 x27 en_TInterval) (.pointer (some ⟨hdB p_x27, hdO p_x27 + x28.toNat * 2, none⟩)) 74 fun _ w h => ixr 48 .i64 x28 p_x27 x27.length c_x27 x27 en_TInterval (owns_rowC (ow_of h)).2 en_TInterval_len rfl b61) <|
 .cons [900004, 900004] (ok_own1 [] [] (fun u60 => []) 900004 (fun u60 => owl 46 2 p_x27 c_x27 x27 en_TInterval) none (fun u60 g => .nilFunc) (fun u60 g => owK 46 2 p_x27 x27.length c_x27 ((x27.set x28.toNat a2).flatMap en_TInterval)) (fun u60 w hF hK => tv_set (el_storeN (ow_of hK) en_TInterval_len (y := a2) (vs := [vI a2.Lo, vI a2.Hi]) ht62 0 (by simp) (by simp) rfl (by kernel_rfl)))) <| .nil) [1, 3, 5, 7, 19, 20, 21, 112, 113, 114, 115, 116, 900004, 999999] fun u60 a w' H => ?_
      obtain rfl := sj G
      replace H := H.move (K := owK 46 2 p_x27 x27.length c_x27 ((x27.set x28.toNat a2).flatMap en_TInterval)) 900004 900005 (by kernel_rfl) (by intro _ _ h; cases h)
      exact ⟨p_x27, c_x27, x27.length, by simp, H.toM _⟩
     rw [if_neg c158] at G
     by_cases c159 : z37 = 4
     ·rw [if_pos c159] at G; subst c159
      try rw [hz37] at H
      refine k_rk mixed H (.v 26 (vP ((u34 3).n 0) 0) <|
 .cons [27] (ok_ldc (vI 4) 27 123 0 1 ((u34 3).n 0) [vI 4, vI t36.A, vI t36.B, vI t36.C.Lo, vI t36.C.Hi] 110) <|
 .v 28 (vP 1 8) <|
 .cons [29] (ok_ldK (fun u63 => .agg #[.func (.func 110) #[] #[], .nilFunc]) 29 999999 gk 1 8 2 gTab1 (fun w h => (glob_of h).tab1)) <|
 .cons [10, 131] (ok_new (fun b => vP b 0) (fun u63 => [.nilFunc, .nilFunc]) 230 10 131) <|
 .cons [131] (ok_as (u' := fun u63 => [(131, .blk ((u63 4).n 0) [.func (.func 110) #[] #[], .nilFunc] 230)]) (ok_store 131 0 (fun u63 => ((u63 4).n 0)) (fun u63 => [.nilFunc, .nilFunc]) (fun u63 => [.func (.func 110) #[] #[], .nilFunc]) 230) (fun _ => by kernel_rfl)) <| .nil) [1, 3, 5, 7, 8, 9, 10, 19, 20, 21, 112, 113, 114, 115, 116, 123, 131, 900004, 999999] fun u63 a w' H => ?_
      refine k_block ?_
      refine k_srk mixed H (.v 47 (vP ((u34 3).n 0) 0) <|
 .cons [48] (ok_ldc (vI 4) 48 123 0 1 ((u34 3).n 0) [vI 4, vI t36.A, vI t36.B, vI t36.C.Lo, vI t36.C.Hi] 110) <|
 .v 49 (.bool false) <|
 .v 46 (.bool false) <| .nil) [1, 3, 5, 7, 8, 9, 10, 19, 20, 21, 46, 112, 113, 114, 115, 116, 123, 131, 900004, 999999] fun u64 a w' H => ?_
      refine k_cond_false H (by kernel_rfl) (by kernel_rfl) ?_
      refine k_srk mixed H (.v 56 (vP ((u34 3).n 0) 0) <|
 .cons [57] (ok_ldc (vI 4) 57 123 0 1 ((u34 3).n 0) [vI 4, vI t36.A, vI t36.B, vI t36.C.Lo, vI t36.C.Hi] 110) <|
 .v 58 (.bool false) <|
 .v 55 (.bool false) <| .nil) [1, 3, 5, 7, 8, 9, 10, 19, 20, 21, 55, 112, 113, 114, 115, 116, 123, 131, 900004, 999999] fun u65 a w' H => ?_
      refine k_cond_false H (by kernel_rfl) (by kernel_rfl) ?_
      refine k_srk mixed H (.v 68 (vP ((u34 3).n 0) 0) <|
 .cons [69] (ok_ldc (vI 4) 69 123 0 1 ((u34 3).n 0) [vI 4, vI t36.A, vI t36.B, vI t36.C.Lo, vI t36.C.Hi] 110) <|
 .v 70 (.bool false) <|
 .v 67 (.bool false) <| .nil) [1, 3, 5, 7, 8, 9, 10, 19, 20, 21, 67, 112, 113, 114, 115, 116, 123, 131, 900004, 999999] fun u66 a w' H => ?_
      refine k_cond_false H (by kernel_rfl) (by kernel_rfl) ?_
      refine k_srk mixed H (.v 76 (vP ((u63 4).n 0) 0) <|
 .cons [77] (ok_ldc (.func (.func 110) #[] #[]) 77 131 0 1 ((u63 4).n 0) [.func (.func 110) #[] #[], .nilFunc] 230) <|
 .v 78 (.bool true) <|
 .v 75 (.bool true) <| .nil) [1, 3, 5, 7, 8, 9, 10, 19, 20, 21, 75, 112, 113, 114, 115, 116, 123, 131, 900004, 999999] fun u67 a w' H => ?_
      refine k_cond_true H (by kernel_rfl) (by kernel_rfl) ?_
      replace G := gd G; obtain ⟨b69, G⟩ := G
      replace G := bnd G; obtain ⟨t70, ht70, G⟩ := G
      have P71 := ptr_of (en := en_TInterval) (l := x27) (owns_rowC (ow_of (H.at (K := owl 46 2 p_x27 c_x27 x27 en_TInterval) 900004 (by kernel_rfl)))).2 en_TInterval_len
      replace G := bnd G; obtain ⟨t72, ht72, G⟩ := G
      replace G := gd G; obtain ⟨b73, G⟩ := G
      replace G := bnd G; obtain ⟨t74, ht74, G⟩ := G
      refine k_rk mixed H (.v 79 (.slice p_x27 x27.length c_x27) <|
 .v 80 (vI x28) <|
 .v 81 (vP ((u63 4).n 0) 0) <|
 .cons [82] (ok_ldc (.func (.func 110) #[] #[]) 82 131 0 1 ((u63 4).n 0) [.func (.func 110) #[] #[], .nilFunc] 230) <|
 .v 83 (.slice p_x27 x27.length c_x27) <|
 .v 84 (vP ((u34 3).n 0) 1) <|
 .cons [85] (ok_ldc (vI t36.A) 85 123 1 1 ((u34 3).n 0) [vI 4, vI t36.A, vI t36.B, vI t36.C.Lo, vI t36.C.Hi] 110) <|
 .cons [86] (ok_val (fun u68 => .pointer (some ⟨hdB p_x27, hdO p_x27 + t36.A.toNat * 2, none⟩)) 86 (hv := fun _ _ => ix_pure (t := 48) (k := .i64) (i := t36.A) (p := p_x27) (n := x27.length) (cap := c_x27) (x := x27) P71 rfl b69 (by kernel_rfl))) <|
 .cons [87] (ok_v1 900004 (owl 46 2 p_x27 c_x27 x27 en_TInterval) (.agg #[vI t70.Lo, vI t70.Hi]) 87 fun _ w h => ldr en_TInterval (owns_rowC (ow_of h)).2 en_TInterval_len ht70 0 2 [vI t70.Lo, vI t70.Hi]) <|
 .cons [88] (ok_callv 110 _ _ 88 [] (fun u68 w _ => interval_Neg.calls t70  t72 w  ht72)) <|
 .cons [89] (ok_val (fun u68 => .pointer (some ⟨hdB p_x27, hdO p_x27 + x28.toNat * 2, none⟩)) 89 (hv := fun _ _ => ix_pure (t := 48) (k := .i64) (i := x28) (p := p_x27) (n := x27.length) (cap := c_x27) (x := x27) P71 rfl b73 (by kernel_rfl))) <|
 .cons [900004, 900004] (ok_own1 [] [] (fun u68 => []) 900004 (fun u68 => owl 46 2 p_x27 c_x27 x27 en_TInterval) none (fun u68 g => .nilFunc) (fun u68 g => owK 46 2 p_x27 x27.length c_x27 ((x27.set x28.toNat t72).flatMap en_TInterval)) (fun u68 w hF hK => tv_set (el_storeN (ow_of hK) en_TInterval_len (y := t72) (vs := [vI t72.Lo, vI t72.Hi]) ht74 0 (by simp) (by simp) rfl (by kernel_rfl)))) <| .nil) [1, 3, 5, 7, 19, 20, 21, 112, 113, 114, 115, 116, 900004, 999999] fun u68 a w' H => ?_
      obtain rfl := sj G
      replace H := H.move (K := owK 46 2 p_x27 x27.length c_x27 ((x27.set x28.toNat t72).flatMap en_TInterval)) 900004 900005 (by kernel_rfl) (by intro _ _ h; cases h)
      exact ⟨p_x27, c_x27, x27.length, by simp, H.toM _⟩
     rw [if_neg c159] at G
     by_cases c160 : z37 = 5
     ·rw [if_pos c160] at G; subst c160
      try rw [hz37] at H
      refine k_rk mixed H (.v 26 (vP ((u34 3).n 0) 0) <|
 .cons [27] (ok_ldc (vI 5) 27 123 0 1 ((u34 3).n 0) [vI 5, vI t36.A, vI t36.B, vI t36.C.Lo, vI t36.C.Hi] 110) <|
 .v 28 (vP 1 10) <|
 .cons [29] (ok_ldK (fun u75 => .agg #[.func (.func 91) #[] #[], .nilFunc]) 29 999999 gk 1 10 2 gTab1 (fun w h => (glob_of h).tab1)) <|
 .cons [10, 133] (ok_new (fun b => vP b 0) (fun u75 => [.nilFunc, .nilFunc]) 230 10 133) <|
 .cons [133] (ok_as (u' := fun u75 => [(133, .blk ((u75 4).n 0) [.func (.func 91) #[] #[], .nilFunc] 230)]) (ok_store 133 0 (fun u75 => ((u75 4).n 0)) (fun u75 => [.nilFunc, .nilFunc]) (fun u75 => [.func (.func 91) #[] #[], .nilFunc]) 230) (fun _ => by kernel_rfl)) <| .nil) [1, 3, 5, 7, 8, 9, 10, 19, 20, 21, 112, 113, 114, 115, 116, 123, 133, 900004, 999999] fun u75 a w' H => ?_
      refine k_block ?_
      refine k_srg mixed H (.v 47 (vP ((u34 3).n 0) 0) <|
 .cons [48] (ok_ldc (vI 5) 48 123 0 1 ((u34 3).n 0) [vI 5, vI t36.A, vI t36.B, vI t36.C.Lo, vI t36.C.Hi] 110) <|
 .v 49 (.bool false) <|
 .v 46 (.bool false) <| .nil) fun u76 a w' H => ?_
      replace H := H.toM [(1, sS p_a1 a1.length c_a1), (3, (sP ((u1 0).n 0) 0)), (5, (sP ((u1 1).n 0) 0)), (7, sS p_x27 x27.length c_x27), (8, sI x28), (9, (sP ((u34 3).n 0) 0)), (10, (sP ((u75 4).n 0) 0)), (19, sS p_a0_L a0.L.length c_a0_L), (20, (sI (a0.L.length : Int))), (21, sI x28), (46, sB false), (112, rdl anyF 5 p_a0_L c_a0_L a0.L en_TInstruction), (113, rdl anyF 1 p_a0_Out c_a0_Out a0.Out en_i64), (114, rdl anyF 2 p_a1 c_a1 a1 en_TInterval), (115, .blk ((u1 0).n 0) [vI a0.N, .slice p_a0_L a0.L.length c_a0_L, .slice p_a0_Out a0.Out.length c_a0_Out] 38), (116, .blk ((u1 1).n 0) [vI a2.Lo, vI a2.Hi] 46), (123, .blk ((u34 3).n 0) [vI 5, vI t36.A, vI t36.B, vI t36.C.Lo, vI t36.C.Hi] 110), (133, .blk ((u75 4).n 0) [.func (.func 91) #[] #[], .nilFunc] 230), (900004, owl 46 2 p_x27 c_x27 x27 en_TInterval), (999999, gk)]
      refine k_cond_false H (by kernel_rfl) (by kernel_rfl) ?_
      refine k_srk mixed H (.v 56 (vP ((u34 3).n 0) 0) <|
 .cons [57] (ok_ldc (vI 5) 57 123 0 1 ((u34 3).n 0) [vI 5, vI t36.A, vI t36.B, vI t36.C.Lo, vI t36.C.Hi] 110) <|
 .v 58 (.bool false) <|
 .v 55 (.bool false) <| .nil) [1, 3, 5, 7, 8, 9, 10, 19, 20, 21, 55, 112, 113, 114, 115, 116, 123, 133, 900004, 999999] fun u77 a w' H => ?_
      refine k_cond_false H (by kernel_rfl) (by kernel_rfl) ?_
      refine k_srk mixed H (.v 68 (vP ((u34 3).n 0) 0) <|
 .cons [69] (ok_ldc (vI 5) 69 123 0 1 ((u34 3).n 0) [vI 5, vI t36.A, vI t36.B, vI t36.C.Lo, vI t36.C.Hi] 110) <|
 .v 70 (.bool false) <|
 .v 67 (.bool false) <| .nil) [1, 3, 5, 7, 8, 9, 10, 19, 20, 21, 67, 112, 113, 114, 115, 116, 123, 133, 900004, 999999] fun u78 a w' H => ?_
      refine k_cond_false H (by kernel_rfl) (by kernel_rfl) ?_
      refine k_srk mixed H (.v 76 (vP ((u75 4).n 0) 0) <|
 .cons [77] (ok_ldc (.func (.func 91) #[] #[]) 77 133 0 1 ((u75 4).n 0) [.func (.func 91) #[] #[], .nilFunc] 230) <|
 .v 78 (.bool true) <|
 .v 75 (.bool true) <| .nil) [1, 3, 5, 7, 8, 9, 10, 19, 20, 21, 75, 112, 113, 114, 115, 116, 123, 133, 900004, 999999] fun u79 a w' H => ?_
      refine k_cond_true H (by kernel_rfl) (by kernel_rfl) ?_
      replace G := gd G; obtain ⟨b81, G⟩ := G
      replace G := bnd G; obtain ⟨t82, ht82, G⟩ := G
      have P83 := ptr_of (en := en_TInterval) (l := x27) (owns_rowC (ow_of (H.at (K := owl 46 2 p_x27 c_x27 x27 en_TInterval) 900004 (by kernel_rfl)))).2 en_TInterval_len
      replace G := bnd G; obtain ⟨t84, ht84, G⟩ := G
      replace G := gd G; obtain ⟨b85, G⟩ := G
      replace G := bnd G; obtain ⟨t86, ht86, G⟩ := G
      refine k_rk mixed H (.v 79 (.slice p_x27 x27.length c_x27) <|
 .v 80 (vI x28) <|
 .v 81 (vP ((u75 4).n 0) 0) <|
 .cons [82] (ok_ldc (.func (.func 91) #[] #[]) 82 133 0 1 ((u75 4).n 0) [.func (.func 91) #[] #[], .nilFunc] 230) <|
 .v 83 (.slice p_x27 x27.length c_x27) <|
 .v 84 (vP ((u34 3).n 0) 1) <|
 .cons [85] (ok_ldc (vI t36.A) 85 123 1 1 ((u34 3).n 0) [vI 5, vI t36.A, vI t36.B, vI t36.C.Lo, vI t36.C.Hi] 110) <|
 .cons [86] (ok_val (fun u80 => .pointer (some ⟨hdB p_x27, hdO p_x27 + t36.A.toNat * 2, none⟩)) 86 (hv := fun _ _ => ix_pure (t := 48) (k := .i64) (i := t36.A) (p := p_x27) (n := x27.length) (cap := c_x27) (x := x27) P83 rfl b81 (by kernel_rfl))) <|
 .cons [87] (ok_v1 900004 (owl 46 2 p_x27 c_x27 x27 en_TInterval) (.agg #[vI t82.Lo, vI t82.Hi]) 87 fun _ w h => ldr en_TInterval (owns_rowC (ow_of h)).2 en_TInterval_len ht82 0 2 [vI t82.Lo, vI t82.Hi]) <|
 .cons [88] (ok_callv 91 _ _ 88 [] (fun u80 w _ => interval_Square.calls t82  t84 w  ht84)) <|
 .cons [89] (ok_val (fun u80 => .pointer (some ⟨hdB p_x27, hdO p_x27 + x28.toNat * 2, none⟩)) 89 (hv := fun _ _ => ix_pure (t := 48) (k := .i64) (i := x28) (p := p_x27) (n := x27.length) (cap := c_x27) (x := x27) P83 rfl b85 (by kernel_rfl))) <|
 .cons [900004, 900004] (ok_own1 [] [] (fun u80 => []) 900004 (fun u80 => owl 46 2 p_x27 c_x27 x27 en_TInterval) none (fun u80 g => .nilFunc) (fun u80 g => owK 46 2 p_x27 x27.length c_x27 ((x27.set x28.toNat t84).flatMap en_TInterval)) (fun u80 w hF hK => tv_set (el_storeN (ow_of hK) en_TInterval_len (y := t84) (vs := [vI t84.Lo, vI t84.Hi]) ht86 0 (by simp) (by simp) rfl (by kernel_rfl)))) <| .nil) [1, 3, 5, 7, 19, 20, 21, 112, 113, 114, 115, 116, 900004, 999999] fun u80 a w' H => ?_
      obtain rfl := sj G
      replace H := H.move (K := owK 46 2 p_x27 x27.length c_x27 ((x27.set x28.toNat t84).flatMap en_TInterval)) 900004 900005 (by kernel_rfl) (by intro _ _ h; cases h)
      exact ⟨p_x27, c_x27, x27.length, by simp, H.toM _⟩
     rw [if_neg c160] at G
     by_cases c161 : z37 = 6
     ·rw [if_pos c161] at G; subst c161
      try rw [hz37] at H
      refine k_rk mixed H (.v 26 (vP ((u34 3).n 0) 0) <|
 .cons [27] (ok_ldc (vI 6) 27 123 0 1 ((u34 3).n 0) [vI 6, vI t36.A, vI t36.B, vI t36.C.Lo, vI t36.C.Hi] 110) <|
 .v 28 (vP 1 12) <|
 .cons [29] (ok_ldK (fun u87 => .agg #[.func (.func 182) #[] #[], .nilFunc]) 29 999999 gk 1 12 2 gTab1 (fun w h => (glob_of h).tab1)) <|
 .cons [10, 135] (ok_new (fun b => vP b 0) (fun u87 => [.nilFunc, .nilFunc]) 230 10 135) <|
 .cons [135] (ok_as (u' := fun u87 => [(135, .blk ((u87 4).n 0) [.func (.func 182) #[] #[], .nilFunc] 230)]) (ok_store 135 0 (fun u87 => ((u87 4).n 0)) (fun u87 => [.nilFunc, .nilFunc]) (fun u87 => [.func (.func 182) #[] #[], .nilFunc]) 230) (fun _ => by kernel_rfl)) <| .nil) [1, 3, 5, 7, 8, 9, 10, 19, 20, 21, 112, 113, 114, 115, 116, 123, 135, 900004, 999999] fun u87 a w' H => ?_
      refine k_block ?_
      refine k_srk mixed H (.v 47 (vP ((u34 3).n 0) 0) <|
 .cons [48] (ok_ldc (vI 6) 48 123 0 1 ((u34 3).n 0) [vI 6, vI t36.A, vI t36.B, vI t36.C.Lo, vI t36.C.Hi] 110) <|
 .v 49 (.bool false) <|
 .v 46 (.bool false) <| .nil) [1, 3, 5, 7, 8, 9, 10, 19, 20, 21, 46, 112, 113, 114, 115, 116, 123, 135, 900004, 999999] fun u88 a w' H => ?_
      refine k_cond_false H (by kernel_rfl) (by kernel_rfl) ?_
      refine k_srk mixed H (.v 56 (vP ((u34 3).n 0) 0) <|
 .cons [57] (ok_ldc (vI 6) 57 123 0 1 ((u34 3).n 0) [vI 6, vI t36.A, vI t36.B, vI t36.C.Lo, vI t36.C.Hi] 110) <|
 .v 58 (.bool false) <|
 .v 55 (.bool false) <| .nil) [1, 3, 5, 7, 8, 9, 10, 19, 20, 21, 55, 112, 113, 114, 115, 116, 123, 135, 900004, 999999] fun u89 a w' H => ?_
      refine k_cond_false H (by kernel_rfl) (by kernel_rfl) ?_
      refine k_srk mixed H (.v 68 (vP ((u34 3).n 0) 0) <|
 .cons [69] (ok_ldc (vI 6) 69 123 0 1 ((u34 3).n 0) [vI 6, vI t36.A, vI t36.B, vI t36.C.Lo, vI t36.C.Hi] 110) <|
 .v 70 (.bool false) <|
 .v 67 (.bool false) <| .nil) [1, 3, 5, 7, 8, 9, 10, 19, 20, 21, 67, 112, 113, 114, 115, 116, 123, 135, 900004, 999999] fun u90 a w' H => ?_
      refine k_cond_false H (by kernel_rfl) (by kernel_rfl) ?_
      refine k_srg mixed H (.v 76 (vP ((u87 4).n 0) 0) <|
 .cons [77] (ok_ldc (.func (.func 182) #[] #[]) 77 135 0 1 ((u87 4).n 0) [.func (.func 182) #[] #[], .nilFunc] 230) <|
 .v 78 (.bool true) <|
 .v 75 (.bool true) <| .nil) fun u91 a w' H => ?_
      replace H := H.toM [(1, sS p_a1 a1.length c_a1), (3, (sP ((u1 0).n 0) 0)), (5, (sP ((u1 1).n 0) 0)), (7, sS p_x27 x27.length c_x27), (8, sI x28), (9, (sP ((u34 3).n 0) 0)), (10, (sP ((u87 4).n 0) 0)), (19, sS p_a0_L a0.L.length c_a0_L), (20, (sI (a0.L.length : Int))), (21, sI x28), (75, sB true), (112, rdl anyF 5 p_a0_L c_a0_L a0.L en_TInstruction), (113, rdl anyF 1 p_a0_Out c_a0_Out a0.Out en_i64), (114, rdl anyF 2 p_a1 c_a1 a1 en_TInterval), (115, .blk ((u1 0).n 0) [vI a0.N, .slice p_a0_L a0.L.length c_a0_L, .slice p_a0_Out a0.Out.length c_a0_Out] 38), (116, .blk ((u1 1).n 0) [vI a2.Lo, vI a2.Hi] 46), (123, .blk ((u34 3).n 0) [vI 6, vI t36.A, vI t36.B, vI t36.C.Lo, vI t36.C.Hi] 110), (135, .blk ((u87 4).n 0) [.func (.func 182) #[] #[], .nilFunc] 230), (900004, owl 46 2 p_x27 c_x27 x27 en_TInterval), (999999, gk)]
      refine k_cond_true H (by kernel_rfl) (by kernel_rfl) ?_
      replace G := gd G; obtain ⟨b93, G⟩ := G
      replace G := bnd G; obtain ⟨t94, ht94, G⟩ := G
      have P95 := ptr_of (en := en_TInterval) (l := x27) (owns_rowC (ow_of (H.at (K := owl 46 2 p_x27 c_x27 x27 en_TInterval) 900004 (by kernel_rfl)))).2 en_TInterval_len
      replace G := bnd G; obtain ⟨t96, ht96, G⟩ := G
      replace G := gd G; obtain ⟨b97, G⟩ := G
      replace G := bnd G; obtain ⟨t98, ht98, G⟩ := G
      refine k_rk mixed H (.v 79 (.slice p_x27 x27.length c_x27) <|
 .v 80 (vI x28) <|
 .v 81 (vP ((u87 4).n 0) 0) <|
 .cons [82] (ok_ldc (.func (.func 182) #[] #[]) 82 135 0 1 ((u87 4).n 0) [.func (.func 182) #[] #[], .nilFunc] 230) <|
 .v 83 (.slice p_x27 x27.length c_x27) <|
 .v 84 (vP ((u34 3).n 0) 1) <|
 .cons [85] (ok_ldc (vI t36.A) 85 123 1 1 ((u34 3).n 0) [vI 6, vI t36.A, vI t36.B, vI t36.C.Lo, vI t36.C.Hi] 110) <|
 .cons [86] (ok_val (fun u92 => .pointer (some ⟨hdB p_x27, hdO p_x27 + t36.A.toNat * 2, none⟩)) 86 (hv := fun _ _ => ix_pure (t := 48) (k := .i64) (i := t36.A) (p := p_x27) (n := x27.length) (cap := c_x27) (x := x27) P95 rfl b93 (by kernel_rfl))) <|
 .cons [87] (ok_v1 900004 (owl 46 2 p_x27 c_x27 x27 en_TInterval) (.agg #[vI t94.Lo, vI t94.Hi]) 87 fun _ w h => ldr en_TInterval (owns_rowC (ow_of h)).2 en_TInterval_len ht94 0 2 [vI t94.Lo, vI t94.Hi]) <|
 .cons [88] (ok_callv 182 _ _ 88 [] (fun u92 w _ => tape_root.calls k0 t94  t96 w  ht96)) <|
 .cons [89] (ok_val (fun u92 => .pointer (some ⟨hdB p_x27, hdO p_x27 + x28.toNat * 2, none⟩)) 89 (hv := fun _ _ => ix_pure (t := 48) (k := .i64) (i := x28) (p := p_x27) (n := x27.length) (cap := c_x27) (x := x27) P95 rfl b97 (by kernel_rfl))) <|
 .cons [900004, 900004] (ok_own1 [] [] (fun u92 => []) 900004 (fun u92 => owl 46 2 p_x27 c_x27 x27 en_TInterval) none (fun u92 g => .nilFunc) (fun u92 g => owK 46 2 p_x27 x27.length c_x27 ((x27.set x28.toNat t96).flatMap en_TInterval)) (fun u92 w hF hK => tv_set (el_storeN (ow_of hK) en_TInterval_len (y := t96) (vs := [vI t96.Lo, vI t96.Hi]) ht98 0 (by simp) (by simp) rfl (by kernel_rfl)))) <| .nil) [1, 3, 5, 7, 19, 20, 21, 112, 113, 114, 115, 116, 900004, 999999] fun u92 a w' H => ?_
      obtain rfl := sj G
      replace H := H.move (K := owK 46 2 p_x27 x27.length c_x27 ((x27.set x28.toNat t96).flatMap en_TInterval)) 900004 900005 (by kernel_rfl) (by intro _ _ h; cases h)
      exact ⟨p_x27, c_x27, x27.length, by simp, H.toM _⟩
     rw [if_neg c161] at G
     by_cases c162 : z37 = 7
     ·rw [if_pos c162] at G; subst c162
      try rw [hz37] at H
      refine k_rk mixed H (.v 26 (vP ((u34 3).n 0) 0) <|
 .cons [27] (ok_ldc (vI 7) 27 123 0 1 ((u34 3).n 0) [vI 7, vI t36.A, vI t36.B, vI t36.C.Lo, vI t36.C.Hi] 110) <|
 .v 28 (vP 1 14) <|
 .cons [29] (ok_ldK (fun u99 => .agg #[.nilFunc, .func (.func 90) #[] #[]]) 29 999999 gk 1 14 2 gTab1 (fun w h => (glob_of h).tab1)) <|
 .cons [10, 137] (ok_new (fun b => vP b 0) (fun u99 => [.nilFunc, .nilFunc]) 230 10 137) <|
 .cons [137] (ok_as (u' := fun u99 => [(137, .blk ((u99 4).n 0) [.nilFunc, .func (.func 90) #[] #[]] 230)]) (ok_store 137 0 (fun u99 => ((u99 4).n 0)) (fun u99 => [.nilFunc, .nilFunc]) (fun u99 => [.nilFunc, .func (.func 90) #[] #[]]) 230) (fun _ => by kernel_rfl)) <| .nil) [1, 3, 5, 7, 8, 9, 10, 19, 20, 21, 112, 113, 114, 115, 116, 123, 137, 900004, 999999] fun u99 a w' H => ?_
      refine k_block ?_
      refine k_srk mixed H (.v 47 (vP ((u34 3).n 0) 0) <|
 .cons [48] (ok_ldc (vI 7) 48 123 0 1 ((u34 3).n 0) [vI 7, vI t36.A, vI t36.B, vI t36.C.Lo, vI t36.C.Hi] 110) <|
 .v 49 (.bool false) <|
 .v 46 (.bool false) <| .nil) [1, 3, 5, 7, 8, 9, 10, 19, 20, 21, 46, 112, 113, 114, 115, 116, 123, 137, 900004, 999999] fun u100 a w' H => ?_
      refine k_cond_false H (by kernel_rfl) (by kernel_rfl) ?_
      refine k_srk mixed H (.v 56 (vP ((u34 3).n 0) 0) <|
 .cons [57] (ok_ldc (vI 7) 57 123 0 1 ((u34 3).n 0) [vI 7, vI t36.A, vI t36.B, vI t36.C.Lo, vI t36.C.Hi] 110) <|
 .v 58 (.bool false) <|
 .v 55 (.bool false) <| .nil) [1, 3, 5, 7, 8, 9, 10, 19, 20, 21, 55, 112, 113, 114, 115, 116, 123, 137, 900004, 999999] fun u101 a w' H => ?_
      refine k_cond_false H (by kernel_rfl) (by kernel_rfl) ?_
      refine k_srk mixed H (.v 68 (vP ((u34 3).n 0) 0) <|
 .cons [69] (ok_ldc (vI 7) 69 123 0 1 ((u34 3).n 0) [vI 7, vI t36.A, vI t36.B, vI t36.C.Lo, vI t36.C.Hi] 110) <|
 .v 70 (.bool false) <|
 .v 67 (.bool false) <| .nil) [1, 3, 5, 7, 8, 9, 10, 19, 20, 21, 67, 112, 113, 114, 115, 116, 123, 137, 900004, 999999] fun u102 a w' H => ?_
      refine k_cond_false H (by kernel_rfl) (by kernel_rfl) ?_
      refine k_srk mixed H (.v 76 (vP ((u99 4).n 0) 0) <|
 .cons [77] (ok_ldc .nilFunc 77 137 0 1 ((u99 4).n 0) [.nilFunc, .func (.func 90) #[] #[]] 230) <|
 .v 78 (.bool false) <|
 .v 75 (.bool false) <| .nil) [1, 3, 5, 7, 8, 9, 10, 19, 20, 21, 75, 112, 113, 114, 115, 116, 123, 137, 900004, 999999] fun u103 a w' H => ?_
      refine k_cond_false H (by kernel_rfl) (by kernel_rfl) ?_
      replace G := gd G; obtain ⟨b105, G⟩ := G
      replace G := bnd G; obtain ⟨t106, ht106, G⟩ := G
      have P107 := ptr_of (en := en_TInterval) (l := x27) (owns_rowC (ow_of (H.at (K := owl 46 2 p_x27 c_x27 x27 en_TInterval) 900004 (by kernel_rfl)))).2 en_TInterval_len
      replace G := gd G; obtain ⟨b108, G⟩ := G
      replace G := bnd G; obtain ⟨t109, ht109, G⟩ := G
      replace G := bnd G; obtain ⟨t110, ht110, G⟩ := G
      replace G := gd G; obtain ⟨b111, G⟩ := G
      replace G := bnd G; obtain ⟨t112, ht112, G⟩ := G
      refine k_rk mixed H (.v 30 (.slice p_x27 x27.length c_x27) <|
 .v 31 (vI x28) <|
 .v 32 (vP ((u99 4).n 0) 1) <|
 .cons [33] (ok_ldc (.func (.func 90) #[] #[]) 33 137 1 1 ((u99 4).n 0) [.nilFunc, .func (.func 90) #[] #[]] 230) <|
 .v 34 (.slice p_x27 x27.length c_x27) <|
 .v 35 (vP ((u34 3).n 0) 1) <|
 .cons [36] (ok_ldc (vI t36.A) 36 123 1 1 ((u34 3).n 0) [vI 7, vI t36.A, vI t36.B, vI t36.C.Lo, vI t36.C.Hi] 110) <|
 .cons [37] (ok_val (fun u104 => .pointer (some ⟨hdB p_x27, hdO p_x27 + t36.A.toNat * 2, none⟩)) 37 (hv := fun _ _ => ix_pure (t := 48) (k := .i64) (i := t36.A) (p := p_x27) (n := x27.length) (cap := c_x27) (x := x27) P107 rfl b105 (by kernel_rfl))) <|
 .cons [38] (ok_v1 900004 (owl 46 2 p_x27 c_x27 x27 en_TInterval) (.agg #[vI t106.Lo, vI t106.Hi]) 38 fun _ w h => ldr en_TInterval (owns_rowC (ow_of h)).2 en_TInterval_len ht106 0 2 [vI t106.Lo, vI t106.Hi]) <|
 .v 39 (.slice p_x27 x27.length c_x27) <|
 .v 40 (vP ((u34 3).n 0) 2) <|
 .cons [41] (ok_ldc (vI t36.B) 41 123 2 1 ((u34 3).n 0) [vI 7, vI t36.A, vI t36.B, vI t36.C.Lo, vI t36.C.Hi] 110) <|
 .cons [42] (ok_val (fun u104 => .pointer (some ⟨hdB p_x27, hdO p_x27 + t36.B.toNat * 2, none⟩)) 42 (hv := fun _ _ => ix_pure (t := 48) (k := .i64) (i := t36.B) (p := p_x27) (n := x27.length) (cap := c_x27) (x := x27) P107 rfl b108 (by kernel_rfl))) <|
 .cons [43] (ok_v1 900004 (owl 46 2 p_x27 c_x27 x27 en_TInterval) (.agg #[vI t109.Lo, vI t109.Hi]) 43 fun _ w h => ldr en_TInterval (owns_rowC (ow_of h)).2 en_TInterval_len ht109 0 2 [vI t109.Lo, vI t109.Hi]) <|
 .cons [44] (ok_callv 90 _ _ 44 [] (fun u104 w _ => interval_Add.calls t106 t109  t110 w  ht110)) <|
 .cons [45] (ok_val (fun u104 => .pointer (some ⟨hdB p_x27, hdO p_x27 + x28.toNat * 2, none⟩)) 45 (hv := fun _ _ => ix_pure (t := 48) (k := .i64) (i := x28) (p := p_x27) (n := x27.length) (cap := c_x27) (x := x27) P107 rfl b111 (by kernel_rfl))) <|
 .cons [900004, 900004] (ok_own1 [] [] (fun u104 => []) 900004 (fun u104 => owl 46 2 p_x27 c_x27 x27 en_TInterval) none (fun u104 g => .nilFunc) (fun u104 g => owK 46 2 p_x27 x27.length c_x27 ((x27.set x28.toNat t110).flatMap en_TInterval)) (fun u104 w hF hK => tv_set (el_storeN (ow_of hK) en_TInterval_len (y := t110) (vs := [vI t110.Lo, vI t110.Hi]) ht112 0 (by simp) (by simp) rfl (by kernel_rfl)))) <| .nil) [1, 3, 5, 7, 19, 20, 21, 112, 113, 114, 115, 116, 900004, 999999] fun u104 a w' H => ?_
      obtain rfl := sj G
      replace H := H.move (K := owK 46 2 p_x27 x27.length c_x27 ((x27.set x28.toNat t110).flatMap en_TInterval)) 900004 900005 (by kernel_rfl) (by intro _ _ h; cases h)
      exact ⟨p_x27, c_x27, x27.length, by simp, H.toM _⟩
     rw [if_neg c162] at G
     by_cases c163 : z37 = 8
     ·rw [if_pos c163] at G; subst c163
      try rw [hz37] at H
      refine k_rk mixed H (.v 26 (vP ((u34 3).n 0) 0) <|
 .cons [27] (ok_ldc (vI 8) 27 123 0 1 ((u34 3).n 0) [vI 8, vI t36.A, vI t36.B, vI t36.C.Lo, vI t36.C.Hi] 110) <|
 .v 28 (vP 1 16) <|
 .cons [29] (ok_ldK (fun u113 => .agg #[.nilFunc, .func (.func 92) #[] #[]]) 29 999999 gk 1 16 2 gTab1 (fun w h => (glob_of h).tab1)) <|
 .cons [10, 139] (ok_new (fun b => vP b 0) (fun u113 => [.nilFunc, .nilFunc]) 230 10 139) <|
 .cons [139] (ok_as (u' := fun u113 => [(139, .blk ((u113 4).n 0) [.nilFunc, .func (.func 92) #[] #[]] 230)]) (ok_store 139 0 (fun u113 => ((u113 4).n 0)) (fun u113 => [.nilFunc, .nilFunc]) (fun u113 => [.nilFunc, .func (.func 92) #[] #[]]) 230) (fun _ => by kernel_rfl)) <| .nil) [1, 3, 5, 7, 8, 9, 10, 19, 20, 21, 112, 113, 114, 115, 116, 123, 139, 900004, 999999] fun u113 a w' H => ?_
      refine k_block ?_
      refine k_srg mixed H (.v 47 (vP ((u34 3).n 0) 0) <|
 .cons [48] (ok_ldc (vI 8) 48 123 0 1 ((u34 3).n 0) [vI 8, vI t36.A, vI t36.B, vI t36.C.Lo, vI t36.C.Hi] 110) <|
 .v 49 (.bool false) <|
 .v 46 (.bool false) <| .nil) fun u114 a w' H => ?_
      replace H := H.toM [(1, sS p_a1 a1.length c_a1), (3, (sP ((u1 0).n 0) 0)), (5, (sP ((u1 1).n 0) 0)), (7, sS p_x27 x27.length c_x27), (8, sI x28), (9, (sP ((u34 3).n 0) 0)), (10, (sP ((u113 4).n 0) 0)), (19, sS p_a0_L a0.L.length c_a0_L), (20, (sI (a0.L.length : Int))), (21, sI x28), (46, sB false), (112, rdl anyF 5 p_a0_L c_a0_L a0.L en_TInstruction), (113, rdl anyF 1 p_a0_Out c_a0_Out a0.Out en_i64), (114, rdl anyF 2 p_a1 c_a1 a1 en_TInterval), (115, .blk ((u1 0).n 0) [vI a0.N, .slice p_a0_L a0.L.length c_a0_L, .slice p_a0_Out a0.Out.length c_a0_Out] 38), (116, .blk ((u1 1).n 0) [vI a2.Lo, vI a2.Hi] 46), (123, .blk ((u34 3).n 0) [vI 8, vI t36.A, vI t36.B, vI t36.C.Lo, vI t36.C.Hi] 110), (139, .blk ((u113 4).n 0) [.nilFunc, .func (.func 92) #[] #[]] 230), (900004, owl 46 2 p_x27 c_x27 x27 en_TInterval), (999999, gk)]
      refine k_cond_false H (by kernel_rfl) (by kernel_rfl) ?_
      refine k_srk mixed H (.v 56 (vP ((u34 3).n 0) 0) <|
 .cons [57] (ok_ldc (vI 8) 57 123 0 1 ((u34 3).n 0) [vI 8, vI t36.A, vI t36.B, vI t36.C.Lo, vI t36.C.Hi] 110) <|
 .v 58 (.bool false) <|
 .v 55 (.bool false) <| .nil) [1, 3, 5, 7, 8, 9, 10, 19, 20, 21, 55, 112, 113, 114, 115, 116, 123, 139, 900004, 999999] fun u115 a w' H => ?_
      refine k_cond_false H (by kernel_rfl) (by kernel_rfl) ?_
      refine k_srk mixed H (.v 68 (vP ((u34 3).n 0) 0) <|
 .cons [69] (ok_ldc (vI 8) 69 123 0 1 ((u34 3).n 0) [vI 8, vI t36.A, vI t36.B, vI t36.C.Lo, vI t36.C.Hi] 110) <|
 .v 70 (.bool false) <|
 .v 67 (.bool false) <| .nil) [1, 3, 5, 7, 8, 9, 10, 19, 20, 21, 67, 112, 113, 114, 115, 116, 123, 139, 900004, 999999] fun u116 a w' H => ?_
      refine k_cond_false H (by kernel_rfl) (by kernel_rfl) ?_
      refine k_srk mixed H (.v 76 (vP ((u113 4).n 0) 0) <|
 .cons [77] (ok_ldc .nilFunc 77 139 0 1 ((u113 4).n 0) [.nilFunc, .func (.func 92) #[] #[]] 230) <|
 .v 78 (.bool false) <|
 .v 75 (.bool false) <| .nil) [1, 3, 5, 7, 8, 9, 10, 19, 20, 21, 75, 112, 113, 114, 115, 116, 123, 139, 900004, 999999] fun u117 a w' H => ?_
      refine k_cond_false H (by kernel_rfl) (by kernel_rfl) ?_
      replace G := gd G; obtain ⟨b119, G⟩ := G
      replace G := bnd G; obtain ⟨t120, ht120, G⟩ := G
      have P121 := ptr_of (en := en_TInterval) (l := x27) (owns_rowC (ow_of (H.at (K := owl 46 2 p_x27 c_x27 x27 en_TInterval) 900004 (by kernel_rfl)))).2 en_TInterval_len
      replace G := gd G; obtain ⟨b122, G⟩ := G
      replace G := bnd G; obtain ⟨t123, ht123, G⟩ := G
      replace G := bnd G; obtain ⟨t124, ht124, G⟩ := G
      replace G := gd G; obtain ⟨b125, G⟩ := G
      replace G := bnd G; obtain ⟨t126, ht126, G⟩ := G
      refine k_rk mixed H (.v 30 (.slice p_x27 x27.length c_x27) <|
 .v 31 (vI x28) <|
 .v 32 (vP ((u113 4).n 0) 1) <|
 .cons [33] (ok_ldc (.func (.func 92) #[] #[]) 33 139 1 1 ((u113 4).n 0) [.nilFunc, .func (.func 92) #[] #[]] 230) <|
 .v 34 (.slice p_x27 x27.length c_x27) <|
 .v 35 (vP ((u34 3).n 0) 1) <|
 .cons [36] (ok_ldc (vI t36.A) 36 123 1 1 ((u34 3).n 0) [vI 8, vI t36.A, vI t36.B, vI t36.C.Lo, vI t36.C.Hi] 110) <|
 .cons [37] (ok_val (fun u118 => .pointer (some ⟨hdB p_x27, hdO p_x27 + t36.A.toNat * 2, none⟩)) 37 (hv := fun _ _ => ix_pure (t := 48) (k := .i64) (i := t36.A) (p := p_x27) (n := x27.length) (cap := c_x27) (x := x27) P121 rfl b119 (by kernel_rfl))) <|
 .cons [38] (ok_v1 900004 (owl 46 2 p_x27 c_x27 x27 en_TInterval) (.agg #[vI t120.Lo, vI t120.Hi]) 38 fun _ w h => ldr en_TInterval (owns_rowC (ow_of h)).2 en_TInterval_len ht120 0 2 [vI t120.Lo, vI t120.Hi]) <|
 .v 39 (.slice p_x27 x27.length c_x27) <|
 .v 40 (vP ((u34 3).n 0) 2) <|
 .cons [41] (ok_ldc (vI t36.B) 41 123 2 1 ((u34 3).n 0) [vI 8, vI t36.A, vI t36.B, vI t36.C.Lo, vI t36.C.Hi] 110) <|
 .cons [42] (ok_val (fun u118 => .pointer (some ⟨hdB p_x27, hdO p_x27 + t36.B.toNat * 2, none⟩)) 42 (hv := fun _ _ => ix_pure (t := 48) (k := .i64) (i := t36.B) (p := p_x27) (n := x27.length) (cap := c_x27) (x := x27) P121 rfl b122 (by kernel_rfl))) <|
 .cons [43] (ok_v1 900004 (owl 46 2 p_x27 c_x27 x27 en_TInterval) (.agg #[vI t123.Lo, vI t123.Hi]) 43 fun _ w h => ldr en_TInterval (owns_rowC (ow_of h)).2 en_TInterval_len ht123 0 2 [vI t123.Lo, vI t123.Hi]) <|
 .cons [44] (ok_callv 92 _ _ 44 [] (fun u118 w _ => interval_Sub.calls t120 t123  t124 w  ht124)) <|
 .cons [45] (ok_val (fun u118 => .pointer (some ⟨hdB p_x27, hdO p_x27 + x28.toNat * 2, none⟩)) 45 (hv := fun _ _ => ix_pure (t := 48) (k := .i64) (i := x28) (p := p_x27) (n := x27.length) (cap := c_x27) (x := x27) P121 rfl b125 (by kernel_rfl))) <|
 .cons [900004, 900004] (ok_own1 [] [] (fun u118 => []) 900004 (fun u118 => owl 46 2 p_x27 c_x27 x27 en_TInterval) none (fun u118 g => .nilFunc) (fun u118 g => owK 46 2 p_x27 x27.length c_x27 ((x27.set x28.toNat t124).flatMap en_TInterval)) (fun u118 w hF hK => tv_set (el_storeN (ow_of hK) en_TInterval_len (y := t124) (vs := [vI t124.Lo, vI t124.Hi]) ht126 0 (by simp) (by simp) rfl (by kernel_rfl)))) <| .nil) [1, 3, 5, 7, 19, 20, 21, 112, 113, 114, 115, 116, 900004, 999999] fun u118 a w' H => ?_
      obtain rfl := sj G
      replace H := H.move (K := owK 46 2 p_x27 x27.length c_x27 ((x27.set x28.toNat t124).flatMap en_TInterval)) 900004 900005 (by kernel_rfl) (by intro _ _ h; cases h)
      exact ⟨p_x27, c_x27, x27.length, by simp, H.toM _⟩
     rw [if_neg c163] at G
     by_cases c164 : z37 = 9
     ·rw [if_pos c164] at G; subst c164
      try rw [hz37] at H
      refine k_rk mixed H (.v 26 (vP ((u34 3).n 0) 0) <|
 .cons [27] (ok_ldc (vI 9) 27 123 0 1 ((u34 3).n 0) [vI 9, vI t36.A, vI t36.B, vI t36.C.Lo, vI t36.C.Hi] 110) <|
 .v 28 (vP 1 18) <|
 .cons [29] (ok_ldK (fun u127 => .agg #[.nilFunc, .func (.func 127) #[] #[]]) 29 999999 gk 1 18 2 gTab1 (fun w h => (glob_of h).tab1)) <|
 .cons [10, 141] (ok_new (fun b => vP b 0) (fun u127 => [.nilFunc, .nilFunc]) 230 10 141) <|
 .cons [141] (ok_as (u' := fun u127 => [(141, .blk ((u127 4).n 0) [.nilFunc, .func (.func 127) #[] #[]] 230)]) (ok_store 141 0 (fun u127 => ((u127 4).n 0)) (fun u127 => [.nilFunc, .nilFunc]) (fun u127 => [.nilFunc, .func (.func 127) #[] #[]]) 230) (fun _ => by kernel_rfl)) <| .nil) [1, 3, 5, 7, 8, 9, 10, 19, 20, 21, 112, 113, 114, 115, 116, 123, 141, 900004, 999999] fun u127 a w' H => ?_
      refine k_block ?_
      refine k_srk mixed H (.v 47 (vP ((u34 3).n 0) 0) <|
 .cons [48] (ok_ldc (vI 9) 48 123 0 1 ((u34 3).n 0) [vI 9, vI t36.A, vI t36.B, vI t36.C.Lo, vI t36.C.Hi] 110) <|
 .v 49 (.bool false) <|
 .v 46 (.bool false) <| .nil) [1, 3, 5, 7, 8, 9, 10, 19, 20, 21, 46, 112, 113, 114, 115, 116, 123, 141, 900004, 999999] fun u128 a w' H => ?_
      refine k_cond_false H (by kernel_rfl) (by kernel_rfl) ?_
      refine k_srk mixed H (.v 56 (vP ((u34 3).n 0) 0) <|
 .cons [57] (ok_ldc (vI 9) 57 123 0 1 ((u34 3).n 0) [vI 9, vI t36.A, vI t36.B, vI t36.C.Lo, vI t36.C.Hi] 110) <|
 .v 58 (.bool false) <|
 .v 55 (.bool false) <| .nil) [1, 3, 5, 7, 8, 9, 10, 19, 20, 21, 55, 112, 113, 114, 115, 116, 123, 141, 900004, 999999] fun u129 a w' H => ?_
      refine k_cond_false H (by kernel_rfl) (by kernel_rfl) ?_
      refine k_srk mixed H (.v 68 (vP ((u34 3).n 0) 0) <|
 .cons [69] (ok_ldc (vI 9) 69 123 0 1 ((u34 3).n 0) [vI 9, vI t36.A, vI t36.B, vI t36.C.Lo, vI t36.C.Hi] 110) <|
 .v 70 (.bool false) <|
 .v 67 (.bool false) <| .nil) [1, 3, 5, 7, 8, 9, 10, 19, 20, 21, 67, 112, 113, 114, 115, 116, 123, 141, 900004, 999999] fun u130 a w' H => ?_
      refine k_cond_false H (by kernel_rfl) (by kernel_rfl) ?_
      refine k_srg mixed H (.v 76 (vP ((u127 4).n 0) 0) <|
 .cons [77] (ok_ldc .nilFunc 77 141 0 1 ((u127 4).n 0) [.nilFunc, .func (.func 127) #[] #[]] 230) <|
 .v 78 (.bool false) <|
 .v 75 (.bool false) <| .nil) fun u131 a w' H => ?_
      replace H := H.toM [(1, sS p_a1 a1.length c_a1), (3, (sP ((u1 0).n 0) 0)), (5, (sP ((u1 1).n 0) 0)), (7, sS p_x27 x27.length c_x27), (8, sI x28), (9, (sP ((u34 3).n 0) 0)), (10, (sP ((u127 4).n 0) 0)), (19, sS p_a0_L a0.L.length c_a0_L), (20, (sI (a0.L.length : Int))), (21, sI x28), (75, sB false), (112, rdl anyF 5 p_a0_L c_a0_L a0.L en_TInstruction), (113, rdl anyF 1 p_a0_Out c_a0_Out a0.Out en_i64), (114, rdl anyF 2 p_a1 c_a1 a1 en_TInterval), (115, .blk ((u1 0).n 0) [vI a0.N, .slice p_a0_L a0.L.length c_a0_L, .slice p_a0_Out a0.Out.length c_a0_Out] 38), (116, .blk ((u1 1).n 0) [vI a2.Lo, vI a2.Hi] 46), (123, .blk ((u34 3).n 0) [vI 9, vI t36.A, vI t36.B, vI t36.C.Lo, vI t36.C.Hi] 110), (141, .blk ((u127 4).n 0) [.nilFunc, .func (.func 127) #[] #[]] 230), (900004, owl 46 2 p_x27 c_x27 x27 en_TInterval), (999999, gk)]
      refine k_cond_false H (by kernel_rfl) (by kernel_rfl) ?_
      replace G := gd G; obtain ⟨b133, G⟩ := G
      replace G := bnd G; obtain ⟨t134, ht134, G⟩ := G
      have P135 := ptr_of (en := en_TInterval) (l := x27) (owns_rowC (ow_of (H.at (K := owl 46 2 p_x27 c_x27 x27 en_TInterval) 900004 (by kernel_rfl)))).2 en_TInterval_len
      replace G := gd G; obtain ⟨b136, G⟩ := G
      replace G := bnd G; obtain ⟨t137, ht137, G⟩ := G
      replace G := bnd G; obtain ⟨t138, ht138, G⟩ := G
      replace G := gd G; obtain ⟨b139, G⟩ := G
      replace G := bnd G; obtain ⟨t140, ht140, G⟩ := G
      refine k_rk mixed H (.v 30 (.slice p_x27 x27.length c_x27) <|
 .v 31 (vI x28) <|
 .v 32 (vP ((u127 4).n 0) 1) <|
 .cons [33] (ok_ldc (.func (.func 127) #[] #[]) 33 141 1 1 ((u127 4).n 0) [.nilFunc, .func (.func 127) #[] #[]] 230) <|
 .v 34 (.slice p_x27 x27.length c_x27) <|
 .v 35 (vP ((u34 3).n 0) 1) <|
 .cons [36] (ok_ldc (vI t36.A) 36 123 1 1 ((u34 3).n 0) [vI 9, vI t36.A, vI t36.B, vI t36.C.Lo, vI t36.C.Hi] 110) <|
 .cons [37] (ok_val (fun u132 => .pointer (some ⟨hdB p_x27, hdO p_x27 + t36.A.toNat * 2, none⟩)) 37 (hv := fun _ _ => ix_pure (t := 48) (k := .i64) (i := t36.A) (p := p_x27) (n := x27.length) (cap := c_x27) (x := x27) P135 rfl b133 (by kernel_rfl))) <|
 .cons [38] (ok_v1 900004 (owl 46 2 p_x27 c_x27 x27 en_TInterval) (.agg #[vI t134.Lo, vI t134.Hi]) 38 fun _ w h => ldr en_TInterval (owns_rowC (ow_of h)).2 en_TInterval_len ht134 0 2 [vI t134.Lo, vI t134.Hi]) <|
 .v 39 (.slice p_x27 x27.length c_x27) <|
 .v 40 (vP ((u34 3).n 0) 2) <|
 .cons [41] (ok_ldc (vI t36.B) 41 123 2 1 ((u34 3).n 0) [vI 9, vI t36.A, vI t36.B, vI t36.C.Lo, vI t36.C.Hi] 110) <|
 .cons [42] (ok_val (fun u132 => .pointer (some ⟨hdB p_x27, hdO p_x27 + t36.B.toNat * 2, none⟩)) 42 (hv := fun _ _ => ix_pure (t := 48) (k := .i64) (i := t36.B) (p := p_x27) (n := x27.length) (cap := c_x27) (x := x27) P135 rfl b136 (by kernel_rfl))) <|
 .cons [43] (ok_v1 900004 (owl 46 2 p_x27 c_x27 x27 en_TInterval) (.agg #[vI t137.Lo, vI t137.Hi]) 43 fun _ w h => ldr en_TInterval (owns_rowC (ow_of h)).2 en_TInterval_len ht137 0 2 [vI t137.Lo, vI t137.Hi]) <|
 .cons [44] (ok_callL [999999] (fun u132 => [gk]) 127 _ _ 44 (fun u132 w hF => interval_Mul.calls t134 t137  t138 w  (glob_of hF.1) ht138)) <|
 .cons [45] (ok_val (fun u132 => .pointer (some ⟨hdB p_x27, hdO p_x27 + x28.toNat * 2, none⟩)) 45 (hv := fun _ _ => ix_pure (t := 48) (k := .i64) (i := x28) (p := p_x27) (n := x27.length) (cap := c_x27) (x := x27) P135 rfl b139 (by kernel_rfl))) <|
 .cons [900004, 900004] (ok_own1 [] [] (fun u132 => []) 900004 (fun u132 => owl 46 2 p_x27 c_x27 x27 en_TInterval) none (fun u132 g => .nilFunc) (fun u132 g => owK 46 2 p_x27 x27.length c_x27 ((x27.set x28.toNat t138).flatMap en_TInterval)) (fun u132 w hF hK => tv_set (el_storeN (ow_of hK) en_TInterval_len (y := t138) (vs := [vI t138.Lo, vI t138.Hi]) ht140 0 (by simp) (by simp) rfl (by kernel_rfl)))) <| .nil) [1, 3, 5, 7, 19, 20, 21, 112, 113, 114, 115, 116, 900004, 999999] fun u132 a w' H => ?_
      obtain rfl := sj G
      replace H := H.move (K := owK 46 2 p_x27 x27.length c_x27 ((x27.set x28.toNat t138).flatMap en_TInterval)) 900004 900005 (by kernel_rfl) (by intro _ _ h; cases h)
      exact ⟨p_x27, c_x27, x27.length, by simp, H.toM _⟩
     rw [if_neg c164] at G
     by_cases c165 : z37 = 10
     ·rw [if_pos c165] at G; subst c165
      try rw [hz37] at H
      refine k_rk mixed H (.v 26 (vP ((u34 3).n 0) 0) <|
 .cons [27] (ok_ldc (vI 10) 27 123 0 1 ((u34 3).n 0) [vI 10, vI t36.A, vI t36.B, vI t36.C.Lo, vI t36.C.Hi] 110) <|
 .v 28 (vP 1 20) <|
 .cons [29] (ok_ldK (fun u141 => .agg #[.nilFunc, .func (.func 137) #[] #[]]) 29 999999 gk 1 20 2 gTab1 (fun w h => (glob_of h).tab1)) <|
 .cons [10, 143] (ok_new (fun b => vP b 0) (fun u141 => [.nilFunc, .nilFunc]) 230 10 143) <|
 .cons [143] (ok_as (u' := fun u141 => [(143, .blk ((u141 4).n 0) [.nilFunc, .func (.func 137) #[] #[]] 230)]) (ok_store 143 0 (fun u141 => ((u141 4).n 0)) (fun u141 => [.nilFunc, .nilFunc]) (fun u141 => [.nilFunc, .func (.func 137) #[] #[]]) 230) (fun _ => by kernel_rfl)) <| .nil) [1, 3, 5, 7, 8, 9, 10, 19, 20, 21, 112, 113, 114, 115, 116, 123, 143, 900004, 999999] fun u141 a w' H => ?_
      refine k_block ?_
      refine k_srk mixed H (.v 47 (vP ((u34 3).n 0) 0) <|
 .cons [48] (ok_ldc (vI 10) 48 123 0 1 ((u34 3).n 0) [vI 10, vI t36.A, vI t36.B, vI t36.C.Lo, vI t36.C.Hi] 110) <|
 .v 49 (.bool false) <|
 .v 46 (.bool false) <| .nil) [1, 3, 5, 7, 8, 9, 10, 19, 20, 21, 46, 112, 113, 114, 115, 116, 123, 143, 900004, 999999] fun u142 a w' H => ?_
      refine k_cond_false H (by kernel_rfl) (by kernel_rfl) ?_
      refine k_srk mixed H (.v 56 (vP ((u34 3).n 0) 0) <|
 .cons [57] (ok_ldc (vI 10) 57 123 0 1 ((u34 3).n 0) [vI 10, vI t36.A, vI t36.B, vI t36.C.Lo, vI t36.C.Hi] 110) <|
 .v 58 (.bool false) <|
 .v 55 (.bool false) <| .nil) [1, 3, 5, 7, 8, 9, 10, 19, 20, 21, 55, 112, 113, 114, 115, 116, 123, 143, 900004, 999999] fun u143 a w' H => ?_
      refine k_cond_false H (by kernel_rfl) (by kernel_rfl) ?_
      refine k_srk mixed H (.v 68 (vP ((u34 3).n 0) 0) <|
 .cons [69] (ok_ldc (vI 10) 69 123 0 1 ((u34 3).n 0) [vI 10, vI t36.A, vI t36.B, vI t36.C.Lo, vI t36.C.Hi] 110) <|
 .v 70 (.bool false) <|
 .v 67 (.bool false) <| .nil) [1, 3, 5, 7, 8, 9, 10, 19, 20, 21, 67, 112, 113, 114, 115, 116, 123, 143, 900004, 999999] fun u144 a w' H => ?_
      refine k_cond_false H (by kernel_rfl) (by kernel_rfl) ?_
      refine k_srk mixed H (.v 76 (vP ((u141 4).n 0) 0) <|
 .cons [77] (ok_ldc .nilFunc 77 143 0 1 ((u141 4).n 0) [.nilFunc, .func (.func 137) #[] #[]] 230) <|
 .v 78 (.bool false) <|
 .v 75 (.bool false) <| .nil) [1, 3, 5, 7, 8, 9, 10, 19, 20, 21, 75, 112, 113, 114, 115, 116, 123, 143, 900004, 999999] fun u145 a w' H => ?_
      refine k_cond_false H (by kernel_rfl) (by kernel_rfl) ?_
      replace G := gd G; obtain ⟨b147, G⟩ := G
      replace G := bnd G; obtain ⟨t148, ht148, G⟩ := G
      have P149 := ptr_of (en := en_TInterval) (l := x27) (owns_rowC (ow_of (H.at (K := owl 46 2 p_x27 c_x27 x27 en_TInterval) 900004 (by kernel_rfl)))).2 en_TInterval_len
      replace G := gd G; obtain ⟨b150, G⟩ := G
      replace G := bnd G; obtain ⟨t151, ht151, G⟩ := G
      replace G := bnd G; obtain ⟨t152, ht152, G⟩ := G
      replace G := gd G; obtain ⟨b153, G⟩ := G
      replace G := bnd G; obtain ⟨t154, ht154, G⟩ := G
      refine k_rk mixed H (.v 30 (.slice p_x27 x27.length c_x27) <|
 .v 31 (vI x28) <|
 .v 32 (vP ((u141 4).n 0) 1) <|
 .cons [33] (ok_ldc (.func (.func 137) #[] #[]) 33 143 1 1 ((u141 4).n 0) [.nilFunc, .func (.func 137) #[] #[]] 230) <|
 .v 34 (.slice p_x27 x27.length c_x27) <|
 .v 35 (vP ((u34 3).n 0) 1) <|
 .cons [36] (ok_ldc (vI t36.A) 36 123 1 1 ((u34 3).n 0) [vI 10, vI t36.A, vI t36.B, vI t36.C.Lo, vI t36.C.Hi] 110) <|
 .cons [37] (ok_val (fun u146 => .pointer (some ⟨hdB p_x27, hdO p_x27 + t36.A.toNat * 2, none⟩)) 37 (hv := fun _ _ => ix_pure (t := 48) (k := .i64) (i := t36.A) (p := p_x27) (n := x27.length) (cap := c_x27) (x := x27) P149 rfl b147 (by kernel_rfl))) <|
 .cons [38] (ok_v1 900004 (owl 46 2 p_x27 c_x27 x27 en_TInterval) (.agg #[vI t148.Lo, vI t148.Hi]) 38 fun _ w h => ldr en_TInterval (owns_rowC (ow_of h)).2 en_TInterval_len ht148 0 2 [vI t148.Lo, vI t148.Hi]) <|
 .v 39 (.slice p_x27 x27.length c_x27) <|
 .v 40 (vP ((u34 3).n 0) 2) <|
 .cons [41] (ok_ldc (vI t36.B) 41 123 2 1 ((u34 3).n 0) [vI 10, vI t36.A, vI t36.B, vI t36.C.Lo, vI t36.C.Hi] 110) <|
 .cons [42] (ok_val (fun u146 => .pointer (some ⟨hdB p_x27, hdO p_x27 + t36.B.toNat * 2, none⟩)) 42 (hv := fun _ _ => ix_pure (t := 48) (k := .i64) (i := t36.B) (p := p_x27) (n := x27.length) (cap := c_x27) (x := x27) P149 rfl b150 (by kernel_rfl))) <|
 .cons [43] (ok_v1 900004 (owl 46 2 p_x27 c_x27 x27 en_TInterval) (.agg #[vI t151.Lo, vI t151.Hi]) 43 fun _ w h => ldr en_TInterval (owns_rowC (ow_of h)).2 en_TInterval_len ht151 0 2 [vI t151.Lo, vI t151.Hi]) <|
 .cons [44] (ok_callL [999999] (fun u146 => [gk]) 137 _ _ 44 (fun u146 w hF => interval_Div.calls t148 t151  t152 w  (glob_of hF.1) ht152)) <|
 .cons [45] (ok_val (fun u146 => .pointer (some ⟨hdB p_x27, hdO p_x27 + x28.toNat * 2, none⟩)) 45 (hv := fun _ _ => ix_pure (t := 48) (k := .i64) (i := x28) (p := p_x27) (n := x27.length) (cap := c_x27) (x := x27) P149 rfl b153 (by kernel_rfl))) <|
 .cons [900004, 900004] (ok_own1 [] [] (fun u146 => []) 900004 (fun u146 => owl 46 2 p_x27 c_x27 x27 en_TInterval) none (fun u146 g => .nilFunc) (fun u146 g => owK 46 2 p_x27 x27.length c_x27 ((x27.set x28.toNat t152).flatMap en_TInterval)) (fun u146 w hF hK => tv_set (el_storeN (ow_of hK) en_TInterval_len (y := t152) (vs := [vI t152.Lo, vI t152.Hi]) ht154 0 (by simp) (by simp) rfl (by kernel_rfl)))) <| .nil) [1, 3, 5, 7, 19, 20, 21, 112, 113, 114, 115, 116, 900004, 999999] fun u146 a w' H => ?_
      obtain rfl := sj G
      replace H := H.move (K := owK 46 2 p_x27 x27.length c_x27 ((x27.set x28.toNat t152).flatMap en_TInterval)) 900004 900005 (by kernel_rfl) (by intro _ _ h; cases h)
      exact ⟨p_x27, c_x27, x27.length, by simp, H.toM _⟩
     rw [if_neg c165] at G
     cases G
   ·rw [if_neg (nt c166)] at G
    refine k_exit rfl ?_
    obtain rfl := sj G
    replace H := H.move (K := owl 46 2 p_x27 c_x27 x27 en_TInterval) 900004 900001 (by kernel_rfl) (by intro _ _ h; cases h)
    exact ⟨p_x27, c_x27, x27.length, rfl, H.toM _⟩
theorem picard_Image_1_m.calls (a0 : TInterval) (a1 : TInterval) (q0 : TInterval) (b_q0 : Nat) (r : TInterval) (w : World) (hB : AllH [bxK b_q0 [vI q0.Lo, vI q0.Hi] 46, gk] w) (G : picard_Image_1_m a0 a1 q0 = some r) :
  Calls Tryz.prog 129 #[.agg #[vI a0.Lo, vI a0.Hi], .agg #[vI a1.Lo, vI a1.Hi], vP b_q0 0] w fun e w' => e = .returned (.agg #[vI r.Lo, vI r.Hi]) ∧ Below w.heap.size w w' := by
 obtain ⟨fr, hfr⟩ : ∃ fr : Nat → Prop, ∀ j, fr j := ⟨fun _ => True, fun _ => trivial⟩
 have hBf : ∀ j, w.heap.size ≤ j → fr j := fun j _ => hfr j
 refine k_enterF (args := [.agg #[vI a0.Lo, vI a0.Hi], .agg #[vI a1.Lo, vI a1.Hi], vP b_q0 0]) 11 [(11, bxK b_q0 [vI q0.Lo, vI q0.Hi] 46), (999999, gk)] (by
  intro x hx
  simp only [List.mem_cons, List.not_mem_nil, or_false] at hx
  rcases hx with rfl | rfl
  ·exact bx_fact (hB.1 w (agree.refl _ _)) _
  ·exact ⟨⟨_, _, rfl⟩, hB.2.1, glob_in (glob_of hB.2.1)⟩) Tryz.func129 rfl (by kernel_rfl) (by kernel_rfl) fun a H => ?_
 unfold picard_Image_1_m at G
 refine k_srk mixed H (.cons [3, 12] (ok_new (fun b => vP b 0) (fun u1 => [vI a0.Lo, vI a0.Hi]) 46 3 12) <|
 .cons [4, 13] (ok_new (fun b => vP b 0) (fun u1 => [vI a1.Lo, vI a1.Hi]) 46 4 13) <|
 .cons [5, 14] (ok_new (fun b => vP b 0) (fun u1 => [vI 0, vI 0]) 46 5 14) <| .nil) [2, 3, 4, 5, 12, 13, 14, 11, 999999] fun u1 a w' H => ?_
 obtain ⟨t3, ht3, G⟩ := bnd G
 obtain ⟨t4, ht4, G⟩ := bnd G
 refine k_srk mixed H (.cons [6] (ok_ldc (.agg #[vI a0.Lo, vI a0.Hi]) 6 12 0 2 ((u1 0).n 0) [vI a0.Lo, vI a0.Hi] 46) <|
 .cons [7] (ok_ldK (fun u2 => .agg #[vI q0.Lo, vI q0.Hi]) 7 11 (bxK b_q0 [vI q0.Lo, vI q0.Hi] 46) b_q0 0 2 [vI q0.Lo, vI q0.Hi] (fun w h => bx_of h)) <|
 .cons [8] (ok_ldc (.agg #[vI a1.Lo, vI a1.Hi]) 8 13 0 2 ((u1 1).n 0) [vI a1.Lo, vI a1.Hi] 46) <|
 .cons [9] (ok_callL [999999] (fun u2 => [gk]) 127 _ _ 9 (fun u2 w hF => interval_Mul.calls q0 a1  t3 w  (glob_of hF.1) ht3)) <|
 .cons [10] (ok_callv 90 _ _ 10 [] (fun u2 w _ => interval_Add.calls a0 t3  t4 w  ht4)) <|
 .cons [14] (ok_stc 14 0 ((u1 2).n 0) [vI 0, vI 0] [vI t4.Lo, vI t4.Hi] 46 [vI t4.Lo, vI t4.Hi]) <| .nil) [5, 14, 11, 999999] fun u2 a w' H => ?_
 refine k_ret ?_
 obtain rfl := sj G
 exact k_done1 H _ 14 ((u1 2).n 0) [vI t4.Lo, vI t4.Hi] 46 0 2 (by kernel_rfl) (by kernel_rfl) (by kernel_rfl) (by kernel_rfl)
theorem api_Interval_112_s129.calls (k0 : Nat) (a0 : List TInterval) (a1 : List TInterval) (a2_0 : TInterval) (p_a0 : Option Addr) (c_a0 : Nat) (p_a1 : Option Addr) (c_a1 : Nat) (b_a2_0 : Nat) (r : List TInterval) (w : World) (hB : AllH [rdl anyF 2 p_a0 c_a0 a0 en_TInterval, rdl anyF 2 p_a1 c_a1 a1 en_TInterval, bxK b_a2_0 [vI a2_0.Lo, vI a2_0.Hi] 46, gk] w) (G : api_Interval_112_s129 k0 a0 a1 a2_0 = some r) :
  Calls Tryz.prog 112 #[.slice p_a0 a0.length c_a0, .slice p_a1 a1.length c_a1, .func (.func 129) #[] #[vP b_a2_0 0]] w fun e w' => ∃ g : Gh, e = .returned (.slice (g.o 0) r.length (g.n 0)) ∧ But (fpK []) w w' ∧ OutOK w.heap.size (fpK []) (frI w.heap.size []) [fun _ => owl 46 2 (g.o 0) (g.n 0) r en_TInterval] w' := by
 obtain ⟨fr, hfr, hBf⟩ := frs w []
 refine k_enterF (args := [.slice p_a0 a0.length c_a0, .slice p_a1 a1.length c_a1, .func (.func 129) #[] #[vP b_a2_0 0]]) 32 [(32, rdl anyF 2 p_a0 c_a0 a0 en_TInterval), (33, rdl anyF 2 p_a1 c_a1 a1 en_TInterval), (34, bxK b_a2_0 [vI a2_0.Lo, vI a2_0.Hi] 46), (999999, gk)] (by
  intro x hx
  simp only [List.mem_cons, List.not_mem_nil, or_false] at hx
  rcases hx with rfl | rfl | rfl | rfl
  ·exact rdF_fact (rdF_of hB.1) (fun _ _ => trivial) (by decide) _
  ·exact rdF_fact (rdF_of hB.2.1) (fun _ _ => trivial) (by decide) _
  ·exact bx_fact (hB.2.2.1 w (agree.refl _ _)) _
  ·exact ⟨⟨_, _, rfl⟩, hB.2.2.2.1, glob_in (glob_of hB.2.2.2.1)⟩) Tryz.func112 rfl (by kernel_rfl) (by kernel_rfl) fun a H => ?_
 unfold api_Interval_112_s129 at G
 refine k_srk mixed H (.v 6 (.slice none 0 0) <| .nil) [0, 1, 2, 32, 33, 34, 999999] fun u1 a w' H => ?_
 refine k_seq ?_
 replace G := gd G; obtain ⟨b3, G⟩ := G
 refine k_rk mixed H (.v 9 (.slice p_a0 a0.length c_a0) <|
 .v 10 (vI (a0.length : Int)) <|
 .cons [11, 35] (ok_rowL [] (fun u2 => []) 46 2 (List.replicate (a0.length : Int).toNat (⟨0, 0⟩ : TInterval)).length ((List.replicate (a0.length : Int).toNat (⟨0, 0⟩ : TInterval)).flatMap en_TInterval) 11 35 (fun _ => .none) (fun u2 w hF => run_make_row (t := 48) (k := .i64) (m := (a0.length : Int)) (en := en_TInterval) (z := (⟨0, 0⟩ : TInterval)) en_TInterval_len inf46 rfl b3 (by kernel_rfl)) (fun _ => .inl rfl)) <|
 .cons [7] (ok_val (fun u2 => .slice ((u2 2).o 0) ((List.replicate (a0.length : Int).toNat (⟨0, 0⟩ : TInterval)).length) ((u2 2).n 0)) 7) <| .nil) [0, 1, 2, 7, 32, 33, 35, 34, 999999] fun u2 a w' H => ?_
 refine k_seq ?_
 obtain ⟨j5, hj5, G⟩ := bnd G
 refine k_join (fun a w' => ∃ (p_j4 : Option Addr) (c_j4 np_j4 : Nat), np_j4 = j5.length ∧ RL w 32 [(7, sS p_j4 np_j4 c_j4), (900006, owK 46 2 p_j4 np_j4 c_j4 (j5.flatMap en_TInterval)), (34, bxK b_a2_0 [vI a2_0.Lo, vI a2_0.Hi] 46), (999999, gk)] a w') ?_ ?_
 ·clear H; rintro a w' ⟨p_j4, c_j4, _, rfl, H⟩
  refine k_srk mixed H (.v 31 (.slice p_j4 j5.length c_j4) <|
 .v 6 (.slice p_j4 j5.length c_j4) <| .nil) [6, 900006, 34, 999999] fun u6 a w' H => ?_
  refine k_ret ?_
  obtain rfl := sj G
  obtain ⟨g, o0, n0⟩ := gh_r p_j4 c_j4
  refine k_doneZ H _ g _ _ _ fr [900006] [] (.slice p_j4 j5.length c_j4) [fun _ => owl 46 2 p_j4 c_j4 j5 en_TInterval] (by simp only [owl, o0, n0]) (by simp only [owl, o0, n0]) hfr (.inl ⟨rfl, rfl⟩) (fams_cons fam_ow fams_nil) (by simp)
 ·clear G; replace G := hj5; clear hj5
  refine k_srk mixed H (.v 12 (.slice p_a0 a0.length c_a0) <|
 .v 13 (vI (a0.length : Int)) <|
 .v 14 (vI 0) <| .nil) [0, 1, 2, 7, 13, 14, 32, 33, 35, 34, 999999] fun u7 a w' H => ?_
  refine k_block ?_
  replace H := H.move (K := owl 46 2 ((u2 2).o 0) ((u2 2).n 0) (List.replicate (a0.length : Int).toNat (⟨0, 0⟩ : TInterval)) en_TInterval) 35 900007 (by kernel_rfl) (by intro _ _ h; cases h)
  refine k_loopJ (fun m a w' => ∃ x8 : List TInterval, ∃ x9 : Int, api_Interval_112_s129.l10 k0 a0 a1 a2_0 m x8 x9 = some j5 ∧ ∃ (p_x8 : Option Addr) (c_x8 np_x8 : Nat), np_x8 = x8.length ∧ RL w 32 [(0, sS p_a0 a0.length c_a0), (1, sS p_a1 a1.length c_a1), (2, .slot true (.func (.func 129) #[] #[vP b_a2_0 0])), (7, sS p_x8 np_x8 c_x8), (13, (sI (a0.length : Int))), (14, sI x9), (32, rdl anyF 2 p_a0 c_a0 a0 en_TInterval), (33, rdl anyF 2 p_a1 c_a1 a1 en_TInterval), (900007, owK 46 2 p_x8 np_x8 c_x8 (x8.flatMap en_TInterval)), (34, bxK b_a2_0 [vI a2_0.Lo, vI a2_0.Hi] 46), (999999, gk)] a w') k0 ⟨_, _, G, ((u2 2).o 0), ((u2 2).n 0), (List.replicate (a0.length : Int).toNat (⟨0, 0⟩ : TInterval)).length, rfl, H.toM _⟩ ?_
  clear G H
  rintro (_ | k) a w' ⟨x8, x9, G, p_x8, c_x8, _, rfl, H⟩
  ·exact absurd G (by unfold api_Interval_112_s129.l10; exact fun h => by cases h)
  ·unfold api_Interval_112_s129.l10 at G
   refine k_srk mixed H (.v 15 (.bool (decide (x9 < (a0.length : Int)))) <| .nil) [0, 1, 2, 7, 13, 14, 15, 32, 33, 900007, 34, 999999] fun u11 a w' H => ?_
   refine k_seq ?_
   refine k_cnd H (decide (x9 < (a0.length : Int))) (fun c25 => ?_) fun c25 => ?_
   ·rw [if_pos c25] at G
    refine k_skip ?_
    refine k_seq ?_
    refine k_block ?_
    refine k_srk mixed H (.v 16 (vI x9) <|
 .v 8 (vI x9) <| .nil) [0, 1, 2, 7, 8, 13, 14, 32, 33, 900007, 34, 999999] fun u12 a w' H => ?_
    replace G := gd G; obtain ⟨b14, G⟩ := G
    obtain ⟨t15, ht15, G⟩ := bnd G
    have P16 := ptr_of (en := en_TInterval) (l := a0) (rdF_of (H.at (K := rdl anyF 2 p_a0 c_a0 a0 en_TInterval) 32 (by kernel_rfl))).2 en_TInterval_len
    replace G := gd G; obtain ⟨b17, G⟩ := G
    obtain ⟨t18, ht18, G⟩ := bnd G
    have P19 := ptr_of (en := en_TInterval) (l := a1) (rdF_of (H.at (K := rdl anyF 2 p_a1 c_a1 a1 en_TInterval) 33 (by kernel_rfl))).2 en_TInterval_len
    obtain ⟨t20, ht20, G⟩ := bnd G
    replace G := gd G; obtain ⟨b21, G⟩ := G
    obtain ⟨t22, ht22, G⟩ := bnd G
    have P23 := ptr_of (en := en_TInterval) (l := x8) (owns_rowC (ow_of (H.at (K := owl 46 2 p_x8 c_x8 x8 en_TInterval) 900007 (by kernel_rfl)))).2 en_TInterval_len
    refine k_rk mixed H (.v 17 (.slice p_x8 x8.length c_x8) <|
 .v 18 (vI x9) <|
 .v 19 (.func (.func 129) #[] #[vP b_a2_0 0]) <|
 .v 20 (.slice p_a0 a0.length c_a0) <|
 .v 21 (vI x9) <|
 .cons [22] (ok_val (fun u13 => .pointer (some ⟨hdB p_a0, hdO p_a0 + x9.toNat * 2, none⟩)) 22 (hv := fun _ _ => ix_pure (t := 48) (k := .i64) (i := x9) (p := p_a0) (n := a0.length) (cap := c_a0) (x := a0) P16 rfl b14 (by kernel_rfl))) <|
 .cons [23] (ok_v1 32 (rdl anyF 2 p_a0 c_a0 a0 en_TInterval) (.agg #[vI t15.Lo, vI t15.Hi]) 23 fun _ w h => ldr en_TInterval (rdF_of h).2 en_TInterval_len ht15 0 2 [vI t15.Lo, vI t15.Hi]) <|
 .v 24 (.slice p_a1 a1.length c_a1) <|
 .v 25 (vI x9) <|
 .cons [26] (ok_val (fun u13 => .pointer (some ⟨hdB p_a1, hdO p_a1 + x9.toNat * 2, none⟩)) 26 (hv := fun _ _ => ix_pure (t := 48) (k := .i64) (i := x9) (p := p_a1) (n := a1.length) (cap := c_a1) (x := a1) P19 rfl b17 (by kernel_rfl))) <|
 .cons [27] (ok_v1 33 (rdl anyF 2 p_a1 c_a1 a1 en_TInterval) (.agg #[vI t18.Lo, vI t18.Hi]) 27 fun _ w h => ldr en_TInterval (rdF_of h).2 en_TInterval_len ht18 0 2 [vI t18.Lo, vI t18.Hi]) <|
 .cons [28] (ok_callL [34, 999999] (fun u13 => [bxK b_a2_0 [vI a2_0.Lo, vI a2_0.Hi] 46, gk]) 129 _ _ 28 (fun u13 w hF => picard_Image_1_m.calls t15 t18 a2_0 b_a2_0 t20 w  ⟨(bx_fact (hF.1 w (agree.refl _ _)) 0).2.1, hF.2.1, trivial⟩ ht20)) <|
 .cons [29] (ok_val (fun u13 => .pointer (some ⟨hdB p_x8, hdO p_x8 + x9.toNat * 2, none⟩)) 29 (hv := fun _ _ => ix_pure (t := 48) (k := .i64) (i := x9) (p := p_x8) (n := x8.length) (cap := c_x8) (x := x8) P23 rfl b21 (by kernel_rfl))) <|
 .cons [900007, 900007] (ok_own1 [] [] (fun u13 => []) 900007 (fun u13 => owl 46 2 p_x8 c_x8 x8 en_TInterval) none (fun u13 g => .nilFunc) (fun u13 g => owK 46 2 p_x8 x8.length c_x8 ((x8.set x9.toNat t20).flatMap en_TInterval)) (fun u13 w hF hK => tv_set (el_storeN (ow_of hK) en_TInterval_len (y := t20) (vs := [vI t20.Lo, vI t20.Hi]) ht22 0 (by simp) (by simp) rfl (by kernel_rfl)))) <| .nil) [0, 1, 2, 7, 13, 14, 32, 33, 900007, 34, 999999] fun u13 a w' H => ?_
    refine k_rk mixed H (.v 30 (vI (w_i64 (x9 + 1))) <|
 .v 14 (vI (w_i64 (x9 + 1))) <| .nil) [0, 1, 2, 7, 13, 14, 32, 33, 900007, 34, 999999] fun u24 a w' H => ?_
    exact ⟨k, Nat.lt_succ_self k, _, _, G, p_x8, c_x8, x8.length, by simp, H.toM _⟩
   ·rw [if_neg (nt c25)] at G
    refine k_exit rfl ?_
    obtain rfl := sj G
    replace H := H.move (K := owl 46 2 p_x8 c_x8 x8 en_TInterval) 900007 900006 (by kernel_rfl) (by intro _ _ h; cases h)
    exact ⟨p_x8, c_x8, x8.length, rfl, H.toM _⟩
theorem picard_Image.calls (k0 : Nat) (a0 : TTape) (a1 : List TInterval) (a2 : List TInterval) (a3 : TTimeStep) (p_a0_L : Option Addr) (c_a0_L : Nat) (p_a0_Out : Option Addr) (c_a0_Out : Nat) (p_a1 : Option Addr) (c_a1 : Nat) (p_a2 : Option Addr) (c_a2 : Nat) (r : List TInterval) (w : World) (hB : AllH [rdl anyF 5 p_a0_L c_a0_L a0.L en_TInstruction, rdl anyF 1 p_a0_Out c_a0_Out a0.Out en_i64, rdl anyF 2 p_a1 c_a1 a1 en_TInterval, rdl anyF 2 p_a2 c_a2 a2 en_TInterval, gk] w) (G : picard_Image k0 a0 a1 a2 a3 = some r) :
  Calls Tryz.prog 113 #[.agg #[vI a0.N, .slice p_a0_L a0.L.length c_a0_L, .slice p_a0_Out a0.Out.length c_a0_Out], .slice p_a1 a1.length c_a1, .slice p_a2 a2.length c_a2, .agg #[vI a3.T, vI a3.H]] w fun e w' => ∃ g : Gh, e = .returned (.slice (g.o 0) r.length (g.n 0)) ∧ But (fpK []) w w' ∧ OutOK w.heap.size (fpK []) (frI w.heap.size []) [fun _ => owl 46 2 (g.o 0) (g.n 0) r en_TInterval] w' := by
 obtain ⟨fr, hfr, hBf⟩ := frs w []
 refine k_enterF (args := [.agg #[vI a0.N, .slice p_a0_L a0.L.length c_a0_L, .slice p_a0_Out a0.Out.length c_a0_Out], .slice p_a1 a1.length c_a1, .slice p_a2 a2.length c_a2, .agg #[vI a3.T, vI a3.H]]) 29 [(29, rdl anyF 5 p_a0_L c_a0_L a0.L en_TInstruction), (30, rdl anyF 1 p_a0_Out c_a0_Out a0.Out en_i64), (31, rdl anyF 2 p_a1 c_a1 a1 en_TInterval), (32, rdl anyF 2 p_a2 c_a2 a2 en_TInterval), (999999, gk)] (by
  intro x hx
  simp only [List.mem_cons, List.not_mem_nil, or_false] at hx
  rcases hx with rfl | rfl | rfl | rfl | rfl
  ·exact rdF_fact (rdF_of hB.1) (fun _ _ => trivial) (by decide) _
  ·exact rdF_fact (rdF_of hB.2.1) (fun _ _ => trivial) (by decide) _
  ·exact rdF_fact (rdF_of hB.2.2.1) (fun _ _ => trivial) (by decide) _
  ·exact rdF_fact (rdF_of hB.2.2.2.1) (fun _ _ => trivial) (by decide) _
  ·exact ⟨⟨_, _, rfl⟩, hB.2.2.2.2.1, glob_in (glob_of hB.2.2.2.2.1)⟩) Tryz.func113 rfl (by kernel_rfl) (by kernel_rfl) fun a H => ?_
 unfold picard_Image at G
 refine k_srk mixed H (.cons [4, 33] (ok_new (fun b => vP b 0) (fun u1 => [vI a0.N, .slice p_a0_L a0.L.length c_a0_L, .slice p_a0_Out a0.Out.length c_a0_Out]) 38 4 33) <|
 .cons [7, 34] (ok_new (fun b => vP b 0) (fun u1 => [vI a3.T, vI a3.H]) 53 7 34) <|
 .v 8 (.slice none 0 0) <| .nil) [1, 2, 4, 7, 29, 30, 31, 32, 33, 34, 999999] fun u1 a w' H => ?_
 obtain ⟨t3, ht3, G⟩ := bnd G
 refine k_srk mixed H (.v 11 (vP ((u1 1).n 0) 1) <|
 .cons [12] (ok_ldc (vI a3.H) 12 34 1 1 ((u1 1).n 0) [vI a3.T, vI a3.H] 53) <|
 .cons [13] (ok_callv 68 _ _ 13 [] (fun u2 w _ => interval_New.calls 0 a3.H  t3 w  ht3)) <|
 .cons [9, 35] (ok_new (fun b => vP b 0) (fun u2 => [vI 0, vI 0]) 46 9 35) <|
 .cons [35] (ok_as (u' := fun u2 => [(35, .blk ((u2 3).n 0) [vI t3.Lo, vI t3.Hi] 46)]) (ok_store 35 0 (fun u2 => ((u2 3).n 0)) (fun u2 => [vI 0, vI 0]) (fun u2 => [vI t3.Lo, vI t3.Hi]) 46) (fun _ => by kernel_rfl)) <| .nil) [1, 2, 4, 7, 9, 29, 30, 31, 32, 33, 34, 35, 999999] fun u2 a w' H => ?_
 refine k_seq ?_
 obtain ⟨t5, ht5, G⟩ := bnd G
 obtain ⟨t6, ht6, G⟩ := bnd G
 refine k_regT mixed H (.cons [14] (ok_ldc (.agg #[vI a0.N, .slice p_a0_L a0.L.length c_a0_L, .slice p_a0_Out a0.Out.length c_a0_Out]) 14 33 0 3 ((u1 0).n 0) [vI a0.N, .slice p_a0_L a0.L.length c_a0_L, .slice p_a0_Out a0.Out.length c_a0_Out] 38) <|
 .v 15 (.slice p_a2 a2.length c_a2) <|
 .v 16 (vP ((u1 1).n 0) 0) <|
 .cons [17] (ok_ldc (vI a3.T) 17 34 0 1 ((u1 1).n 0) [vI a3.T, vI a3.H] 53) <|
 .v 18 (vP ((u1 1).n 0) 0) <|
 .cons [19] (ok_ldc (vI a3.T) 19 34 0 1 ((u1 1).n 0) [vI a3.T, vI a3.H] 53) <|
 .v 20 (vP ((u1 1).n 0) 1) <|
 .cons [21] (ok_ldc (vI a3.H) 21 34 1 1 ((u1 1).n 0) [vI a3.T, vI a3.H] 53) <|
 .v 22 (vI (w_i64 (a3.T + a3.H))) <|
 .cons [23] (ok_callv 68 _ _ 23 [] (fun u4 w _ => interval_New.calls a3.T (w_i64 (a3.T + a3.H))  t5 w  ht5)) <|
 .cons [24, 36] (ok_callY false fr [] [29, 30, 32, 999999] (fun u4 => [rdl anyF 5 p_a0_L c_a0_L a0.L en_TInstruction, rdl anyF 1 p_a0_Out c_a0_Out a0.Out en_i64, rdl anyF 2 p_a2 c_a2 a2 en_TInterval, gk]) [] (fun u4 => []) 128 _ _ _ _ _ [36] 24 (fun u4 w hB hF hM => tape_Eval.calls k0 (⟨a0.N, a0.L, a0.Out⟩ : TTape) a2 t5 p_a0_L c_a0_L p_a0_Out c_a0_Out p_a2 c_a2 t6 w  hB ht6) (fun u4 w hF => ⟨⟨sub_rd0 (rdF_of hF.1) (fun j h => ⟨_, (.head _), h⟩), sub_rd0 (rdF_of hF.2.1) (fun j h => ⟨_, (.tail _ (.head _)), h⟩), sub_rd0 (rdF_of hF.2.2.1) (fun j h => ⟨_, (.tail _ (.tail _ (.head _))), h⟩), sub_k hF.2.2.2.1 (.tail _ (.tail _ (.tail _ (.head _)))), trivial⟩, trivial⟩) (fun u4 g => (fams_cons fam_ow fams_nil)) (.inr (fun u4 g => (famx_cons trivial (fun K h => by cases h)))) (fun h => by cases h)) <|
 .cons [10] (ok_val (fun u4 => .slice ((u4 10).o 0) t6.length ((u4 10).n 0)) 10) <| .nil) (by kernel_rfl) fun u4 a w' H => ?_
 replace H := H.kp [1, 9, 10, 31, 35, 36, 999999]
 obtain ⟨t8, ht8, G⟩ := bnd G
 refine k_srk mixed H (.v 25 (.slice p_a1 a1.length c_a1) <|
 .v 26 (.slice ((u4 10).o 0) t6.length ((u4 10).n 0)) <|
 .v 27 (.func (.func 129) #[] #[vP ((u2 3).n 0) 0]) <|
 .cons [28, 37] (ok_callY false fr [] [31, 36, 35, 999999] (fun u7 => [rdl anyF 2 p_a1 c_a1 a1 en_TInterval, owl 46 2 ((u4 10).o 0) ((u4 10).n 0) t6 en_TInterval, .blk ((u2 3).n 0) [vI t3.Lo, vI t3.Hi] 46, gk]) [] (fun u7 => []) 112 _ _ _ _ _ [37] 28 (fun u7 w hB hF hM => api_Interval_112_s129.calls k0 a1 t6 t3 p_a1 c_a1 ((u4 10).o 0) ((u4 10).n 0) ((u2 3).n 0) t8 w  hB ht8) (fun u7 w hF => ⟨⟨sub_rd0 (rdF_of hF.1) (fun j h => ⟨_, (.head _), h⟩), sub_rd0 (owns_rowC (ow_of hF.2.1)) (fun j h => ⟨_, (.tail _ (.head _)), (fp_own h)⟩), sub_bx hF.2.2.1 (.tail _ (.tail _ (.head _))) rfl, sub_k hF.2.2.2.1 (.tail _ (.tail _ (.tail _ (.head _)))), trivial⟩, trivial⟩) (fun u7 g => (fams_cons fam_ow fams_nil)) (.inr (fun u7 g => (famx_cons trivial (fun K h => by cases h)))) (fun h => by cases h)) <|
 .cons [8] (ok_val (fun u7 => .slice ((u7 3).o 0) t8.length ((u7 3).n 0)) 8) <| .nil) [8, 37, 999999] fun u7 a w' H => ?_
 refine k_ret ?_
 obtain rfl := sj G
 obtain ⟨g, o0, n0⟩ := gh_r ((u7 3).o 0) ((u7 3).n 0)
 refine k_doneZ H _ g _ _ _ fr [37] [] (.slice ((u7 3).o 0) t8.length ((u7 3).n 0)) [fun _ => owl 46 2 ((u7 3).o 0) ((u7 3).n 0) t8 en_TInterval] (by simp only [owl, o0, n0]) (by simp only [owl, o0, n0]) hfr (.inl ⟨rfl, rfl⟩) (fams_cons fam_ow fams_nil) (by simp)
theorem interval_Hull.calls (a0 : TInterval) (a1 : TInterval) (r : TInterval) (w : World) (G : interval_Hull a0 a1 = some r) :
  Calls Tryz.prog 114 #[.agg #[vI a0.Lo, vI a0.Hi], .agg #[vI a1.Lo, vI a1.Hi]] w fun e w' => e = .returned (.agg #[vI r.Lo, vI r.Hi]) ∧ Below w.heap.size w w' := by
 refine k_enter (args := [.agg #[vI a0.Lo, vI a0.Hi], .agg #[vI a1.Lo, vI a1.Hi]]) 16 Tryz.func114 rfl (by kernel_rfl) (by kernel_rfl) fun a H => ?_
 unfold interval_Hull at G
 refine k_srk mixed H (.cons [2, 16] (ok_new (fun b => vP b 0) (fun u1 => [vI a0.Lo, vI a0.Hi]) 46 2 16) <|
 .cons [3, 17] (ok_new (fun b => vP b 0) (fun u1 => [vI a1.Lo, vI a1.Hi]) 46 3 17) <|
 .cons [4, 18] (ok_new (fun b => vP b 0) (fun u1 => [vI 0, vI 0]) 46 4 18) <| .nil) [2, 3, 4, 16, 17, 18] fun u1 a w' H => ?_
 refine k_srk mixed H (.v 5 (vP ((u1 0).n 0) 0) <|
 .cons [6] (ok_ldc (vI a0.Lo) 6 16 0 1 ((u1 0).n 0) [vI a0.Lo, vI a0.Hi] 46) <|
 .v 7 (vP ((u1 1).n 0) 0) <|
 .cons [8] (ok_ldc (vI a1.Lo) 8 17 0 1 ((u1 1).n 0) [vI a1.Lo, vI a1.Hi] 46) <|
 .v 9 (vI (mn a0.Lo a1.Lo)) <|
 .v 10 (vP ((u1 0).n 0) 1) <|
 .cons [11] (ok_ldc (vI a0.Hi) 11 16 1 1 ((u1 0).n 0) [vI a0.Lo, vI a0.Hi] 46) <|
 .v 12 (vP ((u1 1).n 0) 1) <|
 .cons [13] (ok_ldc (vI a1.Hi) 13 17 1 1 ((u1 1).n 0) [vI a1.Lo, vI a1.Hi] 46) <|
 .v 14 (vI (mx a0.Hi a1.Hi)) <|
 .v 15 (.agg #[vI (mn a0.Lo a1.Lo), vI (mx a0.Hi a1.Hi)]) <|
 .cons [18] (ok_stc 18 0 ((u1 2).n 0) [vI 0, vI 0] [vI (mn a0.Lo a1.Lo), vI (mx a0.Hi a1.Hi)] 46 [vI (mn a0.Lo a1.Lo), vI (mx a0.Hi a1.Hi)]) <| .nil) [4, 18] fun u2 a w' H => ?_
 refine k_ret ?_
 obtain rfl := sj G
 exact k_done1 H _ 18 ((u1 2).n 0) [vI (mn a0.Lo a1.Lo), vI (mx a0.Hi a1.Hi)] 46 0 2 (by kernel_rfl) (by kernel_rfl) (by kernel_rfl) (by kernel_rfl)
theorem api_Interval_103_s21.calls (k0 : Nat) (a0 : List TInterval) (p_a0 : Option Addr) (c_a0 : Nat) (r : Int) (w : World) (hB : AllH [rdl anyF 2 p_a0 c_a0 a0 en_TInterval] w) (G : api_Interval_103_s21 k0 a0 = some r) :
  Calls Tryz.prog 103 #[.slice p_a0 a0.length c_a0, .func (.func 21) #[] #[]] w fun e w' => e = .returned (vI r) ∧ Below w.heap.size w w' := by
 obtain ⟨fr, hfr⟩ : ∃ fr : Nat → Prop, ∀ j, fr j := ⟨fun _ => True, fun _ => trivial⟩
 have hBf : ∀ j, w.heap.size ≤ j → fr j := fun j _ => hfr j
 refine k_enterF (args := [.slice p_a0 a0.length c_a0, .func (.func 21) #[] #[]]) 19 [(19, rdl anyF 2 p_a0 c_a0 a0 en_TInterval)] (by
  intro x hx
  simp only [List.mem_cons, List.not_mem_nil, or_false] at hx
  rcases hx with rfl
  exact rdF_fact (rdF_of hB.1) (fun _ _ => trivial) (by decide) _) Tryz.func103 rfl (by kernel_rfl) (by kernel_rfl) fun a H => ?_
 unfold api_Interval_103_s21 at G
 refine k_srk mixed H (.v 4 (vI 0) <| .nil) [0, 1, 19] fun u1 a w' H => ?_
 refine k_seq ?_
 obtain ⟨j2, hj2, Gj2⟩ := bnd G
 refine k_join (fun a w' => ∃ j2v, j2 = Sum.inr j2v ∧ RL w 19 [] a w') ?_ ?_
 ·clear H; rintro a w' ⟨j2v, rfl, H⟩; have G := Gj2; clear Gj2; dsimp only at G
  refine k_srk mixed H (.v 4 (vI (-1)) <| .nil) [4] fun u3 a w' H => ?_
  refine k_ret ?_
  obtain rfl := sj G
  exact k_done0 H _ (by kernel_rfl) (by kernel_rfl)
 ·have G := hj2; clear hj2
  refine k_srk mixed H (.v 6 (.slice p_a0 a0.length c_a0) <|
 .v 7 (vI (a0.length : Int)) <|
 .v 8 (vI 0) <| .nil) [0, 1, 7, 8, 19] fun u4 a w' H => ?_
  refine k_block ?_
  refine k_loopJ (fun m a w' => ∃ x5 : Int, api_Interval_103_s21.l6 k0 a0 m x5 = some j2 ∧ RL w 19 [(0, sS p_a0 a0.length c_a0), (1, .slot true (.func (.func 21) #[] #[])), (7, (sI (a0.length : Int))), (8, sI x5), (19, rdl anyF 2 p_a0 c_a0 a0 en_TInterval)] a w') k0 ⟨_, G, H.toM _⟩ ?_
  clear G H
  rintro (_ | k) a w' ⟨x5, G, H⟩
  ·exact absurd G (by unfold api_Interval_103_s21.l6; exact fun h => by cases h)
  ·unfold api_Interval_103_s21.l6 at G
   refine k_srk mixed H (.v 9 (.bool (decide (x5 < (a0.length : Int)))) <| .nil) [0, 1, 7, 8, 9, 19] fun u7 a w' H => ?_
   refine k_seq ?_
   refine k_cnd H (decide (x5 < (a0.length : Int))) (fun c16 => ?_) fun c16 => ?_
   ·rw [if_pos c16] at G
    refine k_skip ?_
    refine k_seq ?_
    refine k_block ?_
    refine k_srk mixed H (.v 10 (vI x5) <|
 .v 5 (vI x5) <| .nil) [0, 1, 5, 7, 8, 19] fun u8 a w' H => ?_
    refine k_seq ?_
    replace G := gd G; obtain ⟨b10, G⟩ := G
    obtain ⟨t11, ht11, G⟩ := bnd G
    obtain ⟨t12, ht12, G⟩ := bnd G
    refine k_rk mixed H (.v 11 (.func (.func 21) #[] #[]) <|
 .v 12 (.slice p_a0 a0.length c_a0) <|
 .v 13 (vI x5) <|
 .cons [14] (ok_v1 19 (rdl anyF 2 p_a0 c_a0 a0 en_TInterval) (.pointer (some ⟨hdB p_a0, hdO p_a0 + x5.toNat * 2, none⟩)) 14 fun _ w h => ixr 48 .i64 x5 p_a0 a0.length c_a0 a0 en_TInterval (rdF_of h).2 en_TInterval_len rfl b10) <|
 .cons [15] (ok_v1 19 (rdl anyF 2 p_a0 c_a0 a0 en_TInterval) (.agg #[vI t11.Lo, vI t11.Hi]) 15 fun _ w h => ldr en_TInterval (rdF_of h).2 en_TInterval_len ht11 0 2 [vI t11.Lo, vI t11.Hi]) <|
 .cons [16] (ok_callv 21 _ _ 16 [] (fun u9 w _ => interval_IsEntire.calls t11  t12 w  ht12)) <| .nil) [0, 1, 5, 7, 8, 16, 19] fun u9 a w' H => ?_
    refine k_cnd H t12 (fun c15 => ?_) fun c15 => ?_
    ·rw [if_pos c15] at G
     refine k_srk mixed H (.v 17 (vI x5) <|
 .v 4 (vI x5) <| .nil) [4] fun u13 a w' H => ?_
     refine k_ret ?_
     obtain rfl := sj G
     replace G := Gj2
     obtain rfl := sj G
     exact k_done0 H _ (by kernel_rfl) (by kernel_rfl)
    ·rw [if_neg (nt c15)] at G
     refine k_skip ?_
     refine k_rk mixed H (.v 18 (vI (w_i64 (x5 + 1))) <|
 .v 8 (vI (w_i64 (x5 + 1))) <| .nil) [0, 1, 7, 8, 19] fun u14 a w' H => ?_
     exact ⟨k, Nat.lt_succ_self k, _, G, H.toM _⟩
   ·rw [if_neg (nt c16)] at G
    refine k_exit rfl ?_
    obtain rfl := sj G
    exact ⟨_, rfl, H.toM _⟩
theorem api_Interval_84_s21.calls (k0 : Nat) (a0 : List TInterval) (p_a0 : Option Addr) (c_a0 : Nat) (r : Bool) (w : World) (hB : AllH [rdl anyF 2 p_a0 c_a0 a0 en_TInterval] w) (G : api_Interval_84_s21 k0 a0 = some r) :
  Calls Tryz.prog 84 #[.slice p_a0 a0.length c_a0, .func (.func 21) #[] #[]] w fun e w' => e = .returned (.bool r) ∧ Below w.heap.size w w' := by
 obtain ⟨fr, hfr⟩ : ∃ fr : Nat → Prop, ∀ j, fr j := ⟨fun _ => True, fun _ => trivial⟩
 have hBf : ∀ j, w.heap.size ≤ j → fr j := fun j _ => hfr j
 refine k_enterF (args := [.slice p_a0 a0.length c_a0, .func (.func 21) #[] #[]]) 9 [(9, rdl anyF 2 p_a0 c_a0 a0 en_TInterval)] (by
  intro x hx
  simp only [List.mem_cons, List.not_mem_nil, or_false] at hx
  rcases hx with rfl
  exact rdF_fact (rdF_of hB.1) (fun _ _ => trivial) (by decide) _) Tryz.func84 rfl (by kernel_rfl) (by kernel_rfl) fun a H => ?_
 unfold api_Interval_84_s21 at G
 refine k_srk mixed H (.v 4 (.bool false) <| .nil) [0, 1, 9] fun u1 a w' H => ?_
 obtain ⟨t3, ht3, G⟩ := bnd G
 refine k_srk mixed H (.v 5 (.slice p_a0 a0.length c_a0) <|
 .v 6 (.func (.func 21) #[] #[]) <|
 .cons [7] (ok_callL [9] (fun u2 => [rdl anyF 2 p_a0 c_a0 a0 en_TInterval]) 103 _ _ 7 (fun u2 w hF => api_Interval_103_s21.calls k0 a0 p_a0 c_a0 t3 w  ⟨(rdA (rdF_of hF.1)), trivial⟩ ht3)) <|
 .v 8 (.bool (decide (t3 ≥ 0))) <|
 .v 4 (.bool (decide (t3 ≥ 0))) <| .nil) [4] fun u2 a w' H => ?_
 refine k_ret ?_
 obtain rfl := sj G
 exact k_done0 H _ (by kernel_rfl) (by kernel_rfl)
theorem picard_bounded.calls (k0 : Nat) (a0 : List TInterval) (p_a0 : Option Addr) (c_a0 : Nat) (r : Bool) (w : World) (hB : AllH [rdl anyF 2 p_a0 c_a0 a0 en_TInterval] w) (G : picard_bounded k0 a0 = some r) :
  Calls Tryz.prog 115 #[.slice p_a0 a0.length c_a0] w fun e w' => e = .returned (.bool r) ∧ Below w.heap.size w w' := by
 obtain ⟨fr, hfr⟩ : ∃ fr : Nat → Prop, ∀ j, fr j := ⟨fun _ => True, fun _ => trivial⟩
 have hBf : ∀ j, w.heap.size ≤ j → fr j := fun j _ => hfr j
 refine k_enterF (args := [.slice p_a0 a0.length c_a0]) 6 [(6, rdl anyF 2 p_a0 c_a0 a0 en_TInterval)] (by
  intro x hx
  simp only [List.mem_cons, List.not_mem_nil, or_false] at hx
  rcases hx with rfl
  exact rdF_fact (rdF_of hB.1) (fun _ _ => trivial) (by decide) _) Tryz.func115 rfl (by kernel_rfl) (by kernel_rfl) fun a H => ?_
 unfold picard_bounded at G
 refine k_srk mixed H (.v 2 (.bool false) <| .nil) [0, 6] fun u1 a w' H => ?_
 obtain ⟨t3, ht3, G⟩ := bnd G
 refine k_srk mixed H (.v 3 (.slice p_a0 a0.length c_a0) <|
 .cons [4] (ok_callL [6] (fun u2 => [rdl anyF 2 p_a0 c_a0 a0 en_TInterval]) 84 _ _ 4 (fun u2 w hF => api_Interval_84_s21.calls k0 a0 p_a0 c_a0 t3 w  ⟨(rdA (rdF_of hF.1)), trivial⟩ ht3)) <|
 .v 5 (.bool (!t3)) <|
 .v 2 (.bool (!t3)) <| .nil) [2] fun u2 a w' H => ?_
 refine k_ret ?_
 obtain rfl := sj G
 exact k_done0 H _ (by kernel_rfl) (by kernel_rfl)
theorem interval_Width.calls (a0 : TInterval) (r : Int) (w : World) (G : interval_Width a0 = some r) :
  Calls Tryz.prog 83 #[.agg #[vI a0.Lo, vI a0.Hi]] w fun e w' => e = .returned (vI r) ∧ Below w.heap.size w w' := by
 refine k_enter (args := [.agg #[vI a0.Lo, vI a0.Hi]]) 8 Tryz.func83 rfl (by kernel_rfl) (by kernel_rfl) fun a H => ?_
 unfold interval_Width at G
 refine k_srk mixed H (.cons [1, 8] (ok_new (fun b => vP b 0) (fun u1 => [vI a0.Lo, vI a0.Hi]) 46 1 8) <|
 .v 2 (vI 0) <| .nil) [1, 8] fun u1 a w' H => ?_
 refine k_srk mixed H (.v 3 (vP ((u1 0).n 0) 1) <|
 .cons [4] (ok_ldc (vI a0.Hi) 4 8 1 1 ((u1 0).n 0) [vI a0.Lo, vI a0.Hi] 46) <|
 .v 5 (vP ((u1 0).n 0) 0) <|
 .cons [6] (ok_ldc (vI a0.Lo) 6 8 0 1 ((u1 0).n 0) [vI a0.Lo, vI a0.Hi] 46) <|
 .v 7 (vI (w_i64 (a0.Hi - a0.Lo))) <|
 .v 2 (vI (w_i64 (a0.Hi - a0.Lo))) <| .nil) [2] fun u2 a w' H => ?_
 refine k_ret ?_
 obtain rfl := sj G
 exact k_done0 H _ (by kernel_rfl) (by kernel_rfl)
theorem picard_inflate.calls (k0 : Nat) (a0 : List TInterval) (p_a0 : Option Addr) (c_a0 : Nat) (r : List TInterval) (w : World) (hB : AllH [rdl anyF 2 p_a0 c_a0 a0 en_TInterval] w) (G : picard_inflate k0 a0 = some r) :
  Calls Tryz.prog 116 #[.slice p_a0 a0.length c_a0] w fun e w' => ∃ g : Gh, e = .returned (.slice (g.o 0) r.length (g.n 0)) ∧ But (fpK []) w w' ∧ OutOK w.heap.size (fpK []) (frI w.heap.size []) [fun _ => owl 46 2 (g.o 0) (g.n 0) r en_TInterval] w' := by
 obtain ⟨fr, hfr, hBf⟩ := frs w []
 refine k_enterF (args := [.slice p_a0 a0.length c_a0]) 35 [(35, rdl anyF 2 p_a0 c_a0 a0 en_TInterval)] (by
  intro x hx
  simp only [List.mem_cons, List.not_mem_nil, or_false] at hx
  rcases hx with rfl
  exact rdF_fact (rdF_of hB.1) (fun _ _ => trivial) (by decide) _) Tryz.func116 rfl (by kernel_rfl) (by kernel_rfl) fun a H => ?_
 unfold picard_inflate at G
 refine k_srk mixed H (.v 2 (.slice none 0 0) <| .nil) [0, 35] fun u1 a w' H => ?_
 refine k_seq ?_
 replace G := gd G; obtain ⟨b3, G⟩ := G
 refine k_rk mixed H (.v 7 (.slice p_a0 a0.length c_a0) <|
 .v 8 (vI (a0.length : Int)) <|
 .cons [9, 36] (ok_rowL [] (fun u2 => []) 46 2 (List.replicate (a0.length : Int).toNat (⟨0, 0⟩ : TInterval)).length ((List.replicate (a0.length : Int).toNat (⟨0, 0⟩ : TInterval)).flatMap en_TInterval) 9 36 (fun _ => .none) (fun u2 w hF => run_make_row (t := 48) (k := .i64) (m := (a0.length : Int)) (en := en_TInterval) (z := (⟨0, 0⟩ : TInterval)) en_TInterval_len inf46 rfl b3 (by kernel_rfl)) (fun _ => .inl rfl)) <|
 .cons [3] (ok_val (fun u2 => .slice ((u2 2).o 0) ((List.replicate (a0.length : Int).toNat (⟨0, 0⟩ : TInterval)).length) ((u2 2).n 0)) 3) <| .nil) [0, 3, 35, 36] fun u2 a w' H => ?_
 refine k_seq ?_
 obtain ⟨j5, hj5, G⟩ := bnd G
 refine k_join (fun a w' => ∃ (p_j4 : Option Addr) (c_j4 np_j4 : Nat), np_j4 = j5.length ∧ RL w 35 [(3, sS p_j4 np_j4 c_j4), (900008, owK 46 2 p_j4 np_j4 c_j4 (j5.flatMap en_TInterval))] a w') ?_ ?_
 ·clear H; rintro a w' ⟨p_j4, c_j4, _, rfl, H⟩
  refine k_srk mixed H (.v 34 (.slice p_j4 j5.length c_j4) <|
 .v 2 (.slice p_j4 j5.length c_j4) <| .nil) [2, 900008] fun u6 a w' H => ?_
  refine k_ret ?_
  obtain rfl := sj G
  obtain ⟨g, o0, n0⟩ := gh_r p_j4 c_j4
  refine k_doneZ H _ g _ _ _ fr [900008] [] (.slice p_j4 j5.length c_j4) [fun _ => owl 46 2 p_j4 c_j4 j5 en_TInterval] (by simp only [owl, o0, n0]) (by simp only [owl, o0, n0]) hfr (.inl ⟨rfl, rfl⟩) (fams_cons fam_ow fams_nil) (by simp)
 ·clear G; replace G := hj5; clear hj5
  refine k_srk mixed H (.v 10 (.slice p_a0 a0.length c_a0) <|
 .v 11 (vI (a0.length : Int)) <|
 .v 12 (vI 0) <| .nil) [3, 10, 11, 12, 35, 36] fun u7 a w' H => ?_
  refine k_block ?_
  replace H := H.move (K := owl 46 2 ((u2 2).o 0) ((u2 2).n 0) (List.replicate (a0.length : Int).toNat (⟨0, 0⟩ : TInterval)) en_TInterval) 36 900009 (by kernel_rfl) (by intro _ _ h; cases h)
  refine k_loopJ (fun m a w' => ∃ x8 : List TInterval, ∃ x9 : Int, picard_inflate.l10 k0 a0 m x8 x9 = some j5 ∧ ∃ (p_x8 : Option Addr) (c_x8 np_x8 : Nat), np_x8 = x8.length ∧ RL w 35 [(3, sS p_x8 np_x8 c_x8), (10, sS p_a0 a0.length c_a0), (11, (sI (a0.length : Int))), (12, sI x9), (35, rdl anyF 2 p_a0 c_a0 a0 en_TInterval), (900009, owK 46 2 p_x8 np_x8 c_x8 (x8.flatMap en_TInterval))] a w') k0 ⟨_, _, G, ((u2 2).o 0), ((u2 2).n 0), (List.replicate (a0.length : Int).toNat (⟨0, 0⟩ : TInterval)).length, rfl, H.toM _⟩ ?_
  clear G H
  rintro (_ | k) a w' ⟨x8, x9, G, p_x8, c_x8, _, rfl, H⟩
  ·exact absurd G (by unfold picard_inflate.l10; exact fun h => by cases h)
  ·unfold picard_inflate.l10 at G
   refine k_srk mixed H (.v 13 (.bool (decide (x9 < (a0.length : Int)))) <| .nil) [3, 10, 11, 12, 13, 35, 900009] fun u11 a w' H => ?_
   refine k_seq ?_
   refine k_cnd H (decide (x9 < (a0.length : Int))) (fun c22 => ?_) fun c22 => ?_
   ·rw [if_pos c22] at G
    refine k_skip ?_
    refine k_seq ?_
    refine k_block ?_
    refine k_seq ?_
    replace G := gd G; obtain ⟨b13, G⟩ := G
    obtain ⟨t14, ht14, G⟩ := bnd G
    refine k_rk mixed H (.v 14 (vI x9) <|
 .cons [15] (ok_v1 35 (rdl anyF 2 p_a0 c_a0 a0 en_TInterval) (.pointer (some ⟨hdB p_a0, hdO p_a0 + x9.toNat * 2, none⟩)) 15 fun _ w h => ixr 48 .i64 x9 p_a0 a0.length c_a0 a0 en_TInterval (rdF_of h).2 en_TInterval_len rfl b13) <|
 .cons [16] (ok_v1 35 (rdl anyF 2 p_a0 c_a0 a0 en_TInterval) (.agg #[vI t14.Lo, vI t14.Hi]) 16 fun _ w h => ldr en_TInterval (rdF_of h).2 en_TInterval_len ht14 0 2 [vI t14.Lo, vI t14.Hi]) <|
 .cons [5, 37] (ok_new (fun b => vP b 0) (fun u12 => [vI 0, vI 0]) 46 5 37) <|
 .v 4 (vI x9) <|
 .cons [37] (ok_as (u' := fun u12 => [(37, .blk ((u12 3).n 0) [vI t14.Lo, vI t14.Hi] 46)]) (ok_store 37 0 (fun u12 => ((u12 3).n 0)) (fun u12 => [vI 0, vI 0]) (fun u12 => [vI t14.Lo, vI t14.Hi]) 46) (fun _ => by kernel_rfl)) <| .nil) [3, 4, 5, 10, 11, 12, 35, 37, 900009] fun u12 a w' H => ?_
    obtain ⟨t16, ht16, G⟩ := bnd G
    refine k_srk mixed H (.cons [17] (ok_ldc (.agg #[vI t14.Lo, vI t14.Hi]) 17 37 0 2 ((u12 3).n 0) [vI t14.Lo, vI t14.Hi] 46) <|
 .cons [18] (ok_callv 83 _ _ 18 [] (fun u15 w _ => interval_Width.calls t14  t16 w  ht16)) <|
 .v 19 (vI (w_i64 (Int.tdiv t16 16))) <|
 .v 20 (vI (w_i64 ((w_i64 (Int.tdiv t16 16)) + 1))) <|
 .v 6 (vI (w_i64 ((w_i64 (Int.tdiv t16 16)) + 1))) <| .nil) [3, 4, 5, 6, 10, 11, 12, 35, 37, 900009] fun u15 a w' H => ?_
    obtain ⟨t18, ht18, G⟩ := bnd G
    replace G := gd G; obtain ⟨b19, G⟩ := G
    obtain ⟨t20, ht20, G⟩ := bnd G
    refine k_rk mixed H (.v 21 (.slice p_x8 x8.length c_x8) <|
 .v 22 (vI x9) <|
 .v 23 (vP ((u12 3).n 0) 0) <|
 .cons [24] (ok_ldc (vI t14.Lo) 24 37 0 1 ((u12 3).n 0) [vI t14.Lo, vI t14.Hi] 46) <|
 .v 25 (vI (w_i64 ((w_i64 (Int.tdiv t16 16)) + 1))) <|
 .v 26 (vI (w_i64 (t14.Lo - (w_i64 ((w_i64 (Int.tdiv t16 16)) + 1))))) <|
 .v 27 (vP ((u12 3).n 0) 1) <|
 .cons [28] (ok_ldc (vI t14.Hi) 28 37 1 1 ((u12 3).n 0) [vI t14.Lo, vI t14.Hi] 46) <|
 .v 29 (vI (w_i64 ((w_i64 (Int.tdiv t16 16)) + 1))) <|
 .v 30 (vI (w_i64 (t14.Hi + (w_i64 ((w_i64 (Int.tdiv t16 16)) + 1))))) <|
 .cons [31] (ok_callv 68 _ _ 31 [] (fun u17 w _ => interval_New.calls (w_i64 (t14.Lo - (w_i64 ((w_i64 (Int.tdiv t16 16)) + 1)))) (w_i64 (t14.Hi + (w_i64 ((w_i64 (Int.tdiv t16 16)) + 1))))  t18 w  ht18)) <|
 .cons [32] (ok_v1 900009 (owl 46 2 p_x8 c_x8 x8 en_TInterval) (.pointer (some ⟨hdB p_x8, hdO p_x8 + x9.toNat * 2, none⟩)) 32 fun _ w h => ixr 48 .i64 x9 p_x8 x8.length c_x8 x8 en_TInterval (owns_rowC (ow_of h)).2 en_TInterval_len rfl b19) <|
 .cons [900009, 900009] (ok_own1 [] [] (fun u17 => []) 900009 (fun u17 => owl 46 2 p_x8 c_x8 x8 en_TInterval) none (fun u17 g => .nilFunc) (fun u17 g => owK 46 2 p_x8 x8.length c_x8 ((x8.set x9.toNat t18).flatMap en_TInterval)) (fun u17 w hF hK => tv_set (el_storeN (ow_of hK) en_TInterval_len (y := t18) (vs := [vI t18.Lo, vI t18.Hi]) ht20 0 (by simp) (by simp) rfl (by kernel_rfl)))) <| .nil) [3, 10, 11, 12, 35, 900009] fun u17 a w' H => ?_
    refine k_rk mixed H (.v 33 (vI (w_i64 (x9 + 1))) <|
 .v 12 (vI (w_i64 (x9 + 1))) <| .nil) [3, 10, 11, 12, 35, 900009] fun u21 a w' H => ?_
    exact ⟨k, Nat.lt_succ_self k, _, _, G, p_x8, c_x8, x8.length, by simp, H.toM _⟩
   ·rw [if_neg (nt c22)] at G
    refine k_exit rfl ?_
    obtain rfl := sj G
    replace H := H.move (K := owl 46 2 p_x8 c_x8 x8 en_TInterval) 900009 900008 (by kernel_rfl) (by intro _ _ h; cases h)
    exact ⟨p_x8, c_x8, x8.length, rfl, H.toM _⟩
theorem interval_Subset.calls (a0 : TInterval) (a1 : TInterval) (r : Bool) (w : World) (G : interval_Subset a0 a1 = some r) :
  Calls Tryz.prog 117 #[.agg #[vI a0.Lo, vI a0.Hi], .agg #[vI a1.Lo, vI a1.Hi]] w fun e w' => e = .returned (.bool r) ∧ Below w.heap.size w w' := by
 refine k_enter (args := [.agg #[vI a0.Lo, vI a0.Hi], .agg #[vI a1.Lo, vI a1.Hi]]) 17 Tryz.func117 rfl (by kernel_rfl) (by kernel_rfl) fun a H => ?_
 unfold interval_Subset at G
 refine k_srk mixed H (.cons [2, 17] (ok_new (fun b => vP b 0) (fun u1 => [vI a0.Lo, vI a0.Hi]) 46 2 17) <|
 .cons [3, 18] (ok_new (fun b => vP b 0) (fun u1 => [vI a1.Lo, vI a1.Hi]) 46 3 18) <|
 .v 4 (.bool false) <| .nil) [2, 3, 17, 18] fun u1 a w' H => ?_
 refine k_srk mixed H (.v 5 (vP ((u1 1).n 0) 0) <|
 .cons [6] (ok_ldc (vI a1.Lo) 6 18 0 1 ((u1 1).n 0) [vI a1.Lo, vI a1.Hi] 46) <|
 .v 7 (vP ((u1 0).n 0) 0) <|
 .cons [8] (ok_ldc (vI a0.Lo) 8 17 0 1 ((u1 0).n 0) [vI a0.Lo, vI a0.Hi] 46) <|
 .v 9 (.bool (decide (a1.Lo ≤ a0.Lo))) <|
 .v 10 (.bool (decide (a1.Lo ≤ a0.Lo))) <|
 .cons [11] (ok_valg (fun u2 => vP ((u1 0).n 0) 1) (fun u2 => ((decide (a1.Lo ≤ a0.Lo)) == true)) [true] 11) <|
 .cons [12] (ok_ldg (fun u2 => vI a0.Hi) (fun u2 => ((decide (a1.Lo ≤ a0.Lo)) == true)) [false] 12 17 1 1 (fun u2 => ((u1 0).n 0)) (fun u2 => [vI a0.Lo, vI a0.Hi]) 46) <|
 .cons [13] (ok_valg (fun u2 => vP ((u1 1).n 0) 1) (fun u2 => ((decide (a1.Lo ≤ a0.Lo)) == true)) [true] 13) <|
 .cons [14] (ok_ldg (fun u2 => vI a1.Hi) (fun u2 => ((decide (a1.Lo ≤ a0.Lo)) == true)) [false] 14 18 1 1 (fun u2 => ((u1 1).n 0)) (fun u2 => [vI a1.Lo, vI a1.Hi]) 46) <|
 .cons [15] (ok_valg (fun u2 => .bool (decide (a0.Hi ≤ a1.Hi))) (fun u2 => ((decide (a1.Lo ≤ a0.Lo)) == true)) [false, false] 15) <|
 .cons [16] (ok_and 10 15 (fun u2 => true) (fun u2 => true) (fun u2 => decide (a1.Lo ≤ a0.Lo)) (fun u2 => decide (a0.Hi ≤ a1.Hi)) 16) <|
 .v 4 (.bool ((decide (a1.Lo ≤ a0.Lo)) && (decide (a0.Hi ≤ a1.Hi)))) <| .nil) [4] fun u2 a w' H => ?_
 refine k_ret ?_
 obtain rfl := sj G
 exact k_done0 H _ (by kernel_rfl) (by kernel_rfl)
theorem box_Subset.calls (k0 : Nat) (a0 : List TInterval) (a1 : List TInterval) (p_a0 : Option Addr) (c_a0 : Nat) (p_a1 : Option Addr) (c_a1 : Nat) (r : Bool) (w : World) (hB : AllH [rdl anyF 2 p_a0 c_a0 a0 en_TInterval, rdl anyF 2 p_a1 c_a1 a1 en_TInterval] w) (G : box_Subset k0 a0 a1 = some r) :
  Calls Tryz.prog 96 #[.slice p_a0 a0.length c_a0, .slice p_a1 a1.length c_a1] w fun e w' => e = .returned (.bool r) ∧ Below w.heap.size w w' := by
 obtain ⟨fr, hfr⟩ : ∃ fr : Nat → Prop, ∀ j, fr j := ⟨fun _ => True, fun _ => trivial⟩
 have hBf : ∀ j, w.heap.size ≤ j → fr j := fun j _ => hfr j
 refine k_enterM (args := [.slice p_a0 a0.length c_a0, .slice p_a1 a1.length c_a1]) 16 [(16, rdl anyF 2 p_a0 c_a0 a0 en_TInterval), (17, rdl anyF 2 p_a1 c_a1 a1 en_TInterval)] (by
  intro x hx
  simp only [List.mem_cons, List.not_mem_nil, or_false] at hx
  rcases hx with rfl | rfl
  ·exact rdF_fact (rdF_of hB.1) (fun _ _ => trivial) (by decide) _
  ·exact rdF_fact (rdF_of hB.2.1) (fun _ _ => trivial) (by decide) _) Tryz.func96 rfl (by kernel_rfl) (by kernel_rfl) fun a H => ?_
 unfold box_Subset at G
 refine k_srk mixed H (.cons [4, 18] (ok_new (fun b => vP b 0) (fun u1 => [.bool false]) 4 4 18) <| .nil) [0, 1, 4, 16, 17, 18] fun u1 a w' H => ?_
 refine k_seq ?_
 refine k_srk mixed H (.v 7 (.slice p_a0 a0.length c_a0) <|
 .v 8 (.slice p_a1 a1.length c_a1) <|
 .cons [9, 19, 20] (ok_callB2 43 (fun u2 => #[.slice p_a0 a0.length c_a0, .slice p_a1 a1.length c_a1]) (fun b1 b2 => .func (.func 66) #[] #[vP b1 0, vP b2 0]) [.slice p_a0 a0.length c_a0] [.slice p_a1 a1.length c_a1] 48 48 9 19 20 (fun _ w => box_pairs.calls a0 p_a0 a0.length c_a0 a1 p_a1 a1.length c_a1 w)) <| .nil) [4, 9, 16, 17, 18, 19, 20] fun u2 a w' H => ?_
 refine k_block ?_
 replace G := gd G; obtain ⟨b3, G⟩ := G
 obtain ⟨t4, ht4, G⟩ := bnd G
 obtain ⟨t5, ht5, G⟩ := bnd G
 refine k_noexit ?_
 refine k_rangeO (γ := Unit) (fun _ : Unit => #[enI t4, enI t5]) (fun _ => []) (fun _ => [(10, .slot true (enI t4)), (11, .slot true (enI t5))]) (pairsFx ((u2 2).n 0) ((u2 2).n 1) p_a0 p_a1 c_a0 c_a1 a0 a1) true 21 22 0 _ (fun L => box_Subset.l6 k0 a0 a1 t4 t5 = some r ∧ L = [(16, rdl anyF 2 p_a0 c_a0 a0 en_TInterval), (17, rdl anyF 2 p_a1 c_a1 a1 en_TInterval), (18, .blk ((u1 0).n 0) [.bool false] 4), (19, .blk ((u2 2).n 0) [.slice p_a0 a0.length c_a0] 48), (20, .blk ((u2 2).n 1) [.slice p_a1 a1.length c_a1] 48)]) (fun L => L = [(18, .blk ((u1 0).n 0) [.bool r] 4)]) (fun _ => False) H (by kernel_rfl) (by kernel_rfl) (enters_fn Tryz.func66 (by kernel_rfl) rfl) (box_pairs_1.one (one_get b3 ht4) ht5 ((u2 2).n 0) ((u2 2).n 1) p_a0 p_a1 c_a0 c_a1 _) (puts2 10 11 (fun _ => enI t4) (fun _ => enI t5) (by rfl) (by rfl)) (fun _ => by kernel_rfl) (fun _ => by kernel_rfl) (by kernel_rfl) (by kernel_rfl) (by kernel_rfl) (by kernel_rfl) (by kernel_rfl) (fun W h => ⟨h.holds 19, h.holds 20, (rdF_of (h.at (K := rdl anyF 2 p_a0 c_a0 a0 en_TInterval) 16 (by kernel_rfl))).2, (rdF_of (h.at (K := rdl anyF 2 p_a1 c_a1 a1 en_TInterval) 17 (by kernel_rfl))).2⟩) (by rintro L W ⟨G, rfl⟩ h; exact ⟨h.holds 19, h.holds 20, (rdF_of (h.at (K := rdl anyF 2 p_a0 c_a0 a0 en_TInterval) 16 (by kernel_rfl))).2, (rdF_of (h.at (K := rdl anyF 2 p_a1 c_a1 a1 en_TInterval) 17 (by kernel_rfl))).2⟩) (fun e => by cases e) rfl ?_ ?_ ?_ ?_
 ·clear H; rintro l D oR oD _ a w' H
  replace H := H.kp [4, 9, 10, 11, 16, 17, 18, 19, 20, 21, 22]
  refine r_seq ?_
  refine r_reg mixed H (.cons [5, 23] (ok_new (fun b => vP b 0) (fun u7 => [vI 0, vI 0]) 46 5 23) <|
 .cons [23] (ok_as (u' := fun u7 => [(23, .blk ((u7 0).n 0) [vI t4.Lo, vI t4.Hi] 46)]) (ok_store 23 0 (fun u7 => ((u7 0).n 0)) (fun u7 => [vI 0, vI 0]) (fun u7 => [vI t4.Lo, vI t4.Hi]) 46) (fun _ => by kernel_rfl)) <| .nil) (by kernel_rfl) (by kernel_rfl) fun u7 a w' H => ?_
  replace H := H.kp [4, 5, 9, 11, 16, 17, 18, 19, 20, 23, 21, 22]
  refine r_reg mixed H (.cons [6, 24] (ok_new (fun b => vP b 0) (fun u8 => [vI 0, vI 0]) 46 6 24) <|
 .cons [24] (ok_as (u' := fun u8 => [(24, .blk ((u8 0).n 0) [vI t5.Lo, vI t5.Hi] 46)]) (ok_store 24 0 (fun u8 => ((u8 0).n 0)) (fun u8 => [vI 0, vI 0]) (fun u8 => [vI t5.Lo, vI t5.Hi]) 46) (fun _ => by kernel_rfl)) <| .nil) (by kernel_rfl) (by kernel_rfl) fun u8 a w' H => ?_
  replace H := H.kp [4, 5, 6, 9, 16, 17, 18, 19, 20, 23, 24, 21, 22]
  refine ⟨_, H, by kernel_rfl, fun oB w' H => ?_⟩
  replace H := H.kp [4, 5, 6, 9, 16, 17, 18, 19, 20, 23, 24, 21, 22]
  refine r_block ?_
  refine r_seq ?_
  obtain ⟨t10, ht10, G⟩ := bnd G
  refine r_reg mixed H (.cons [12] (ok_ldc (.agg #[vI t4.Lo, vI t4.Hi]) 12 23 0 2 ((u7 0).n 0) [vI t4.Lo, vI t4.Hi] 46) <|
 .cons [13] (ok_ldc (.agg #[vI t5.Lo, vI t5.Hi]) 13 24 0 2 ((u8 0).n 0) [vI t5.Lo, vI t5.Hi] 46) <|
 .cons [14] (ok_callv 117 _ _ 14 [] (fun u9 w _ => interval_Subset.calls t4 t5  t10 w  ht10)) <|
 .v 15 (.bool (!t10)) <| .nil) (by kernel_rfl) (by kernel_rfl) fun u9 a w' H => ?_
  replace H := H.kp [4, 9, 15, 16, 17, 18, 19, 20, 21, 22]
  refine r_cond H (by kernel_rfl) (t := (!t10)) (by kernel_rfl) (fun c12 => ?_) (fun c12 => ?_)
  ·rw [if_pos c12] at G
   refine r_seq ?_
   refine r_reg mixed H (.cons [18] (ok_stc 18 0 ((u1 0).n 0) [.bool false] [.bool false] 4 [.bool false]) <| .nil) (by kernel_rfl) (by kernel_rfl) fun u11 a w' H => ?_
   replace H := H.kp [4, 9, 16, 17, 18, 19, 20, 21, 22]
   refine r_ret ?_
   obtain rfl := sj G
   exact ⟨_, rfl, by kernel_rfl, H.toM _⟩
  ·rw [if_neg (nt c12)] at G
   refine r_skip ?_
   exact ⟨_, ⟨G, rfl⟩, by kernel_rfl, H.toM _⟩
 ·clear H G; rintro D L W ⟨G, rfl⟩ H
  unfold box_Subset.l6 at G
  replace H := H.toM [(4, (sP ((u1 0).n 0) 0)), (9, .slot true (.func (.func 66) #[] #[vP ((u2 2).n 0) 0, vP ((u2 2).n 1) 0])), (16, rdl anyF 2 p_a0 c_a0 a0 en_TInterval), (17, rdl anyF 2 p_a1 c_a1 a1 en_TInterval), (18, .blk ((u1 0).n 0) [.bool false] 4), (19, .blk ((u2 2).n 0) [.slice p_a0 a0.length c_a0] 48), (20, .blk ((u2 2).n 1) [.slice p_a1 a1.length c_a1] 48), (22, obK D (.deferred (some [])))]
  refine k_after ?_
  refine r_seq ?_
  refine r_reg mixed H (.cons [18] (ok_stc 18 0 ((u1 0).n 0) [.bool false] [.bool true] 4 [.bool true]) <| .nil) (by kernel_rfl) (by kernel_rfl) fun u13 a w' H => ?_
  replace H := H.kp [4, 18, 22]
  refine r_ret ?_
  obtain rfl := sj G
  refine k_mark 22 H (by kernel_rfl) fun w' H => ?_
  exact k_done1 H _ 18 ((u1 0).n 0) [.bool true] 4 0 1 (by kernel_rfl) (by kernel_rfl) (by kernel_rfl) (by kernel_rfl)
 ·clear H G; rintro D L W rfl H
  replace H := H.kp [4, 18, 22]
  refine k_mark 22 H (by kernel_rfl) fun w' H => ?_
  exact k_done1 H _ 18 ((u1 0).n 0) [.bool r] 4 0 1 (by kernel_rfl) (by kernel_rfl) (by kernel_rfl) (by kernel_rfl)
 ·clear H G; rintro D L W h H; exact h.elim
theorem api_Interval_112_s114.calls (k0 : Nat) (a0 : List TInterval) (a1 : List TInterval) (p_a0 : Option Addr) (c_a0 : Nat) (p_a1 : Option Addr) (c_a1 : Nat) (r : List TInterval) (w : World) (hB : AllH [rdl anyF 2 p_a0 c_a0 a0 en_TInterval, rdl anyF 2 p_a1 c_a1 a1 en_TInterval] w) (G : api_Interval_112_s114 k0 a0 a1 = some r) :
  Calls Tryz.prog 112 #[.slice p_a0 a0.length c_a0, .slice p_a1 a1.length c_a1, .func (.func 114) #[] #[]] w fun e w' => ∃ g : Gh, e = .returned (.slice (g.o 0) r.length (g.n 0)) ∧ But (fpK []) w w' ∧ OutOK w.heap.size (fpK []) (frI w.heap.size []) [fun _ => owl 46 2 (g.o 0) (g.n 0) r en_TInterval] w' := by
 obtain ⟨fr, hfr, hBf⟩ := frs w []
 refine k_enterF (args := [.slice p_a0 a0.length c_a0, .slice p_a1 a1.length c_a1, .func (.func 114) #[] #[]]) 32 [(32, rdl anyF 2 p_a0 c_a0 a0 en_TInterval), (33, rdl anyF 2 p_a1 c_a1 a1 en_TInterval)] (by
  intro x hx
  simp only [List.mem_cons, List.not_mem_nil, or_false] at hx
  rcases hx with rfl | rfl
  ·exact rdF_fact (rdF_of hB.1) (fun _ _ => trivial) (by decide) _
  ·exact rdF_fact (rdF_of hB.2.1) (fun _ _ => trivial) (by decide) _) Tryz.func112 rfl (by kernel_rfl) (by kernel_rfl) fun a H => ?_
 unfold api_Interval_112_s114 at G
 refine k_srk mixed H (.v 6 (.slice none 0 0) <| .nil) [0, 1, 2, 32, 33] fun u1 a w' H => ?_
 refine k_seq ?_
 replace G := gd G; obtain ⟨b3, G⟩ := G
 refine k_rk mixed H (.v 9 (.slice p_a0 a0.length c_a0) <|
 .v 10 (vI (a0.length : Int)) <|
 .cons [11, 34] (ok_rowL [] (fun u2 => []) 46 2 (List.replicate (a0.length : Int).toNat (⟨0, 0⟩ : TInterval)).length ((List.replicate (a0.length : Int).toNat (⟨0, 0⟩ : TInterval)).flatMap en_TInterval) 11 34 (fun _ => .none) (fun u2 w hF => run_make_row (t := 48) (k := .i64) (m := (a0.length : Int)) (en := en_TInterval) (z := (⟨0, 0⟩ : TInterval)) en_TInterval_len inf46 rfl b3 (by kernel_rfl)) (fun _ => .inl rfl)) <|
 .cons [7] (ok_val (fun u2 => .slice ((u2 2).o 0) ((List.replicate (a0.length : Int).toNat (⟨0, 0⟩ : TInterval)).length) ((u2 2).n 0)) 7) <| .nil) [0, 1, 2, 7, 32, 33, 34] fun u2 a w' H => ?_
 refine k_seq ?_
 obtain ⟨j5, hj5, G⟩ := bnd G
 refine k_join (fun a w' => ∃ (p_j4 : Option Addr) (c_j4 np_j4 : Nat), np_j4 = j5.length ∧ RL w 32 [(7, sS p_j4 np_j4 c_j4), (900010, owK 46 2 p_j4 np_j4 c_j4 (j5.flatMap en_TInterval))] a w') ?_ ?_
 ·clear H; rintro a w' ⟨p_j4, c_j4, _, rfl, H⟩
  refine k_srk mixed H (.v 31 (.slice p_j4 j5.length c_j4) <|
 .v 6 (.slice p_j4 j5.length c_j4) <| .nil) [6, 900010] fun u6 a w' H => ?_
  refine k_ret ?_
  obtain rfl := sj G
  obtain ⟨g, o0, n0⟩ := gh_r p_j4 c_j4
  refine k_doneZ H _ g _ _ _ fr [900010] [] (.slice p_j4 j5.length c_j4) [fun _ => owl 46 2 p_j4 c_j4 j5 en_TInterval] (by simp only [owl, o0, n0]) (by simp only [owl, o0, n0]) hfr (.inl ⟨rfl, rfl⟩) (fams_cons fam_ow fams_nil) (by simp)
 ·clear G; replace G := hj5; clear hj5
  refine k_srk mixed H (.v 12 (.slice p_a0 a0.length c_a0) <|
 .v 13 (vI (a0.length : Int)) <|
 .v 14 (vI 0) <| .nil) [0, 1, 2, 7, 13, 14, 32, 33, 34] fun u7 a w' H => ?_
  refine k_block ?_
  replace H := H.move (K := owl 46 2 ((u2 2).o 0) ((u2 2).n 0) (List.replicate (a0.length : Int).toNat (⟨0, 0⟩ : TInterval)) en_TInterval) 34 900011 (by kernel_rfl) (by intro _ _ h; cases h)
  refine k_loopJ (fun m a w' => ∃ x8 : List TInterval, ∃ x9 : Int, api_Interval_112_s114.l10 k0 a0 a1 m x8 x9 = some j5 ∧ ∃ (p_x8 : Option Addr) (c_x8 np_x8 : Nat), np_x8 = x8.length ∧ RL w 32 [(0, sS p_a0 a0.length c_a0), (1, sS p_a1 a1.length c_a1), (2, .slot true (.func (.func 114) #[] #[])), (7, sS p_x8 np_x8 c_x8), (13, (sI (a0.length : Int))), (14, sI x9), (32, rdl anyF 2 p_a0 c_a0 a0 en_TInterval), (33, rdl anyF 2 p_a1 c_a1 a1 en_TInterval), (900011, owK 46 2 p_x8 np_x8 c_x8 (x8.flatMap en_TInterval))] a w') k0 ⟨_, _, G, ((u2 2).o 0), ((u2 2).n 0), (List.replicate (a0.length : Int).toNat (⟨0, 0⟩ : TInterval)).length, rfl, H.toM _⟩ ?_
  clear G H
  rintro (_ | k) a w' ⟨x8, x9, G, p_x8, c_x8, _, rfl, H⟩
  ·exact absurd G (by unfold api_Interval_112_s114.l10; exact fun h => by cases h)
  ·unfold api_Interval_112_s114.l10 at G
   refine k_srk mixed H (.v 15 (.bool (decide (x9 < (a0.length : Int)))) <| .nil) [0, 1, 2, 7, 13, 14, 15, 32, 33, 900011] fun u11 a w' H => ?_
   refine k_seq ?_
   refine k_cnd H (decide (x9 < (a0.length : Int))) (fun c25 => ?_) fun c25 => ?_
   ·rw [if_pos c25] at G
    refine k_skip ?_
    refine k_seq ?_
    refine k_block ?_
    refine k_srk mixed H (.v 16 (vI x9) <|
 .v 8 (vI x9) <| .nil) [0, 1, 2, 7, 8, 13, 14, 32, 33, 900011] fun u12 a w' H => ?_
    replace G := gd G; obtain ⟨b14, G⟩ := G
    obtain ⟨t15, ht15, G⟩ := bnd G
    have P16 := ptr_of (en := en_TInterval) (l := a0) (rdF_of (H.at (K := rdl anyF 2 p_a0 c_a0 a0 en_TInterval) 32 (by kernel_rfl))).2 en_TInterval_len
    replace G := gd G; obtain ⟨b17, G⟩ := G
    obtain ⟨t18, ht18, G⟩ := bnd G
    have P19 := ptr_of (en := en_TInterval) (l := a1) (rdF_of (H.at (K := rdl anyF 2 p_a1 c_a1 a1 en_TInterval) 33 (by kernel_rfl))).2 en_TInterval_len
    obtain ⟨t20, ht20, G⟩ := bnd G
    replace G := gd G; obtain ⟨b21, G⟩ := G
    obtain ⟨t22, ht22, G⟩ := bnd G
    have P23 := ptr_of (en := en_TInterval) (l := x8) (owns_rowC (ow_of (H.at (K := owl 46 2 p_x8 c_x8 x8 en_TInterval) 900011 (by kernel_rfl)))).2 en_TInterval_len
    refine k_rk mixed H (.v 17 (.slice p_x8 x8.length c_x8) <|
 .v 18 (vI x9) <|
 .v 19 (.func (.func 114) #[] #[]) <|
 .v 20 (.slice p_a0 a0.length c_a0) <|
 .v 21 (vI x9) <|
 .cons [22] (ok_val (fun u13 => .pointer (some ⟨hdB p_a0, hdO p_a0 + x9.toNat * 2, none⟩)) 22 (hv := fun _ _ => ix_pure (t := 48) (k := .i64) (i := x9) (p := p_a0) (n := a0.length) (cap := c_a0) (x := a0) P16 rfl b14 (by kernel_rfl))) <|
 .cons [23] (ok_v1 32 (rdl anyF 2 p_a0 c_a0 a0 en_TInterval) (.agg #[vI t15.Lo, vI t15.Hi]) 23 fun _ w h => ldr en_TInterval (rdF_of h).2 en_TInterval_len ht15 0 2 [vI t15.Lo, vI t15.Hi]) <|
 .v 24 (.slice p_a1 a1.length c_a1) <|
 .v 25 (vI x9) <|
 .cons [26] (ok_val (fun u13 => .pointer (some ⟨hdB p_a1, hdO p_a1 + x9.toNat * 2, none⟩)) 26 (hv := fun _ _ => ix_pure (t := 48) (k := .i64) (i := x9) (p := p_a1) (n := a1.length) (cap := c_a1) (x := a1) P19 rfl b17 (by kernel_rfl))) <|
 .cons [27] (ok_v1 33 (rdl anyF 2 p_a1 c_a1 a1 en_TInterval) (.agg #[vI t18.Lo, vI t18.Hi]) 27 fun _ w h => ldr en_TInterval (rdF_of h).2 en_TInterval_len ht18 0 2 [vI t18.Lo, vI t18.Hi]) <|
 .cons [28] (ok_callv 114 _ _ 28 [] (fun u13 w _ => interval_Hull.calls t15 t18  t20 w  ht20)) <|
 .cons [29] (ok_val (fun u13 => .pointer (some ⟨hdB p_x8, hdO p_x8 + x9.toNat * 2, none⟩)) 29 (hv := fun _ _ => ix_pure (t := 48) (k := .i64) (i := x9) (p := p_x8) (n := x8.length) (cap := c_x8) (x := x8) P23 rfl b21 (by kernel_rfl))) <|
 .cons [900011, 900011] (ok_own1 [] [] (fun u13 => []) 900011 (fun u13 => owl 46 2 p_x8 c_x8 x8 en_TInterval) none (fun u13 g => .nilFunc) (fun u13 g => owK 46 2 p_x8 x8.length c_x8 ((x8.set x9.toNat t20).flatMap en_TInterval)) (fun u13 w hF hK => tv_set (el_storeN (ow_of hK) en_TInterval_len (y := t20) (vs := [vI t20.Lo, vI t20.Hi]) ht22 0 (by simp) (by simp) rfl (by kernel_rfl)))) <| .nil) [0, 1, 2, 7, 13, 14, 32, 33, 900011] fun u13 a w' H => ?_
    refine k_rk mixed H (.v 30 (vI (w_i64 (x9 + 1))) <|
 .v 14 (vI (w_i64 (x9 + 1))) <| .nil) [0, 1, 2, 7, 13, 14, 32, 33, 900011] fun u24 a w' H => ?_
    exact ⟨k, Nat.lt_succ_self k, _, _, G, p_x8, c_x8, x8.length, by simp, H.toM _⟩
   ·rw [if_neg (nt c25)] at G
    refine k_exit rfl ?_
    obtain rfl := sj G
    replace H := H.move (K := owl 46 2 p_x8 c_x8 x8 en_TInterval) 900011 900010 (by kernel_rfl) (by intro _ _ h; cases h)
    exact ⟨p_x8, c_x8, x8.length, rfl, H.toM _⟩
theorem bnot_t {b : Bool} (h : (!b) = true) : b = false := by cases b <;> first | rfl | cases h
theorem bnot_f {b : Bool} (h : (!b) = false) : b = true := by cases b <;> first | rfl | cases h
def pcF (wc : World) (J : World → Prop) (pb : Option Addr) (cb : Nat) (b : List TInterval) (pd : Option Addr) (cd : Nat) (d : List TInterval) (w : World) : Prop := (Below 0 wc w → J w) ∧ RowC w 2 pb b.length cb (b.flatMap en_TInterval) ∧ RowC w 2 pd d.length cd (d.flatMap en_TInterval)
abbrev pcK (n : Nat) (wc : World) (J : World → Prop) (pb : Option Addr) (cb : Nat) (b : List TInterval) (pd : Option Addr) (cd : Nat) (d : List TInterval) : KV := .fact (· < n) (pcF wc J pb cb b pd cd d)
theorem pcK_of {n : Nat} {wc : World} {J : World → Prop} {pb : Option Addr} {cb : Nat} {b : List TInterval} {pd : Option Addr} {cd : Nat} {d : List TInterval} {w : World} (H : (pcK n wc J pb cb b pd cd d).holds w) : pcF wc J pb cb b pd cd d w := H w (agree.refl _ _)
theorem pcK_holds {w wc : World} {J : World → Prop} {pb : Option Addr} {cb : Nat} {b : List TInterval} {pd : Option Addr} {cd : Nat} {d : List TInterval} (hJ : ∀ W', Below w.heap.size w W' → J W') (hb : Below 0 wc w) (h1 : RowC w 2 pb b.length cb (b.flatMap en_TInterval)) (h2 : RowC w 2 pd d.length cd (d.flatMap en_TInterval)) : (pcK w.heap.size wc J pb cb b pd cd d).holds w :=
 fun w' ha => ⟨fun hb' => jK_of (w0 := wc) hJ hb w' ha hb', ⟨h1.1, h1.2.agree fun i hi => ha i (h1.2.inb (by decide) i hi)⟩, ⟨h2.1, h2.2.agree fun i hi => ha i (h2.2.inb (by decide) i hi)⟩⟩
theorem pc_facts {fr : Nat → Prop} {base B : Nat} {w : World} {pb : Option Addr} {cb : Nat} {b : List TInterval} {pd : Option Addr} {cd : Nat} {d : List TInterval} (kb kd : Nat) (hfr : ∀ j, base ≤ j → fr j) (hB : base ≤ B) (g1 : ∀ i, fpRow pb b.length i → B ≤ i) (g2 : ∀ i, fpRow pd d.length i → B ≤ i) (h1 : RowC w 2 pb b.length cb (b.flatMap en_TInterval)) (h2 : RowC w 2 pd d.length cd (d.flatMap en_TInterval)) :
  FactsAt base [(kb, rdl fr 2 pb cb b en_TInterval), (kd, rdl fr 2 pd cd d en_TInterval)] w := by
 intro x hx
 simp only [List.mem_cons, List.not_mem_nil, or_false] at hx
 rcases hx with rfl | rfl
 ·have h := rdF_fact h1 (fun j hj => hfr j (Nat.le_trans hB (g1 j hj))) (by decide) kb
  exact ⟨h.1, h.2.1, fun i hi => ⟨Nat.le_trans hB (g1 i hi), h.2.2 i hi⟩⟩
 ·have h := rdF_fact h2 (fun j hj => hfr j (Nat.le_trans hB (g2 j hj))) (by decide) kd
  exact ⟨h.1, h.2.1, fun i hi => ⟨Nat.le_trans hB (g2 i hi), h.2.2 i hi⟩⟩
theorem picard_candidates_1_m.one (k0 : Nat) (q0 : List TInterval) (q1 : TTape) (q2 : TTimeStep) (b_q0 : Nat) (p_q0 : Option Addr) (c_q0 : Nat) (b_q1 : Nat) (p_q1_L : Option Addr) (c_q1_L : Nat) (p_q1_Out : Option Addr) (c_q1_Out : Nat) (b_q2 : Nat) (r : List TInterval × List TInterval) (fq : Nat → Prop) (kb kd lo : Nat) (hfq : ∀ j, lo ≤ j → fq j) (G : picard_candidates_1_m k0 q0 q1 q2 = some r) :
  IterO Tryz.prog 111 #[vP b_q0 0, vP b_q1 0, vP b_q2 0] (fun z : Option Addr × Nat × Option Addr × Nat => #[.slice z.1 r.1.length z.2.1, .slice z.2.2.1 r.2.length z.2.2.2]) (fun z => [(kb, rdF fq 2 z.1 r.1.length z.2.1 (r.1.flatMap en_TInterval)), (kd, rdF fq 2 z.2.2.1 r.2.length z.2.2.2 (r.2.flatMap en_TInterval))]) (fun w => AllH [rdl anyF 2 p_q0 c_q0 q0 en_TInterval, bxK b_q0 [.slice p_q0 q0.length c_q0] 48, rdl anyF 5 p_q1_L c_q1_L q1.L en_TInstruction, rdl anyF 1 p_q1_Out c_q1_Out q1.Out en_i64, bxK b_q1 [vI q1.N, .slice p_q1_L q1.L.length c_q1_L, .slice p_q1_Out q1.Out.length c_q1_Out] 38, bxK b_q2 [vI q2.T, vI q2.H] 53, gk] w) false lo := by
 intro l J JT JX hJ hJT hJX hF hFT htr wc hJc hTc hXc base hlo hY w h0 hbw
 have hB := hF _ h0
 obtain ⟨fr, hfr⟩ : ∃ fr : Nat → Prop, ∀ j, fr j := ⟨fun _ => True, fun _ => trivial⟩
 have hBf : ∀ j, w.heap.size ≤ j → fr j := fun j _ => hfr j
 refine y_enter (args := [.func (.yield l) #[] #[], vP b_q0 0, vP b_q1 0, vP b_q2 0]) 43 Tryz.func111 rfl (by kernel_rfl) (by kernel_rfl) fun a H => ?_
 replace H := H.again w (Below.refl _ _) (Nat.le_refl _) [(44, rdl anyF 2 p_q0 c_q0 q0 en_TInterval), (43, bxK b_q0 [.slice p_q0 q0.length c_q0] 48), (46, rdl anyF 5 p_q1_L c_q1_L q1.L en_TInstruction), (47, rdl anyF 1 p_q1_Out c_q1_Out q1.Out en_i64), (45, bxK b_q1 [vI q1.N, .slice p_q1_L q1.L.length c_q1_L, .slice p_q1_Out q1.Out.length c_q1_Out] 38), (48, bxK b_q2 [vI q2.T, vI q2.H] 53), (999999, gk)] (by
  intro x hx
  simp only [List.mem_cons, List.not_mem_nil, or_false] at hx
  rcases hx with rfl | rfl | rfl | rfl | rfl | rfl | rfl
  ·exact rdF_fact (rdF_of hB.1) (fun _ _ => trivial) (by decide) _
  ·exact bx_fact (hB.2.1 w (agree.refl _ _)) _
  ·exact rdF_fact (rdF_of hB.2.2.1) (fun _ _ => trivial) (by decide) _
  ·exact rdF_fact (rdF_of hB.2.2.2.1) (fun _ _ => trivial) (by decide) _
  ·exact bx_fact (hB.2.2.2.2.1 w (agree.refl _ _)) _
  ·exact bx_fact (hB.2.2.2.2.2.1 w (agree.refl _ _)) _
  ·exact ⟨⟨_, _, rfl⟩, hB.2.2.2.2.2.2.1, glob_in (glob_of hB.2.2.2.2.2.2.1)⟩)
 unfold picard_candidates_1_m at G
 refine r_seq ?_
 replace G := bnd G; obtain ⟨t2, ht2, G⟩ := G
 replace G := bnd G; obtain ⟨t3, ht3, G⟩ := G
 refine r_regT mixed H (.cons [7] (ok_ldK (fun u1 => .slice p_q0 q0.length c_q0) 7 43 (bxK b_q0 [.slice p_q0 q0.length c_q0] 48) b_q0 0 1 [.slice p_q0 q0.length c_q0] (fun w h => bx_of h)) <|
 .cons [8] (ok_ldK (fun u1 => .agg #[vI q1.N, .slice p_q1_L q1.L.length c_q1_L, .slice p_q1_Out q1.Out.length c_q1_Out]) 8 45 (bxK b_q1 [vI q1.N, .slice p_q1_L q1.L.length c_q1_L, .slice p_q1_Out q1.Out.length c_q1_Out] 38) b_q1 0 3 [vI q1.N, .slice p_q1_L q1.L.length c_q1_L, .slice p_q1_Out q1.Out.length c_q1_Out] (fun w h => bx_of h)) <|
 .cons [9] (ok_ldK (fun u1 => .slice p_q0 q0.length c_q0) 9 43 (bxK b_q0 [.slice p_q0 q0.length c_q0] 48) b_q0 0 1 [.slice p_q0 q0.length c_q0] (fun w h => bx_of h)) <|
 .cons [10] (ok_ldK (fun u1 => .slice p_q0 q0.length c_q0) 10 43 (bxK b_q0 [.slice p_q0 q0.length c_q0] 48) b_q0 0 1 [.slice p_q0 q0.length c_q0] (fun w h => bx_of h)) <|
 .cons [11] (ok_ldK (fun u1 => .agg #[vI q2.T, vI q2.H]) 11 48 (bxK b_q2 [vI q2.T, vI q2.H] 53) b_q2 0 2 [vI q2.T, vI q2.H] (fun w h => bx_of h)) <|
 .cons [12, 49] (ok_callY false fr [] [46, 47, 44, 999999] (fun u1 => [rdl anyF 5 p_q1_L c_q1_L q1.L en_TInstruction, rdl anyF 1 p_q1_Out c_q1_Out q1.Out en_i64, rdl anyF 2 p_q0 c_q0 q0 en_TInterval, gk]) [] (fun u1 => []) 113 _ _ _ _ _ [49] 12 (fun u1 w hB hF hM => picard_Image.calls k0 (⟨q1.N, q1.L, q1.Out⟩ : TTape) q0 q0 q2 p_q1_L c_q1_L p_q1_Out c_q1_Out p_q0 c_q0 p_q0 c_q0 t2 w  hB ht2) (fun u1 w hF => ⟨⟨sub_rd0 (rdF_of hF.1) (fun j h => ⟨_, (.head _), h⟩), sub_rd0 (rdF_of hF.2.1) (fun j h => ⟨_, (.tail _ (.head _)), h⟩), sub_rd0 (rdF_of hF.2.2.1) (fun j h => ⟨_, (.tail _ (.tail _ (.head _))), h⟩), sub_rd0 (rdF_of hF.2.2.1) (fun j h => ⟨_, (.tail _ (.tail _ (.head _))), h⟩), sub_k hF.2.2.2.1 (.tail _ (.tail _ (.tail _ (.head _)))), trivial⟩, trivial⟩) (fun u1 g => (fams_cons fam_ow fams_nil)) (.inr (fun u1 g => (famx_cons trivial (fun K h => by cases h)))) (fun h => by cases h)) <|
 .cons [13, 50] (ok_callY false fr [5] [44, 49] (fun u1 => [rdl anyF 2 p_q0 c_q0 q0 en_TInterval, owl 46 2 ((u1 5).o 0) ((u1 5).n 0) t2 en_TInterval]) [] (fun u1 => []) 112 _ _ _ _ _ [50] 13 (fun u1 w hB hF hM => api_Interval_112_s114.calls k0 q0 t2 p_q0 c_q0 ((u1 5).o 0) ((u1 5).n 0) t3 w  hB ht3) (fun u1 w hF => ⟨⟨sub_rd0 (rdF_of hF.1) (fun j h => ⟨_, (.head _), h⟩), sub_rd0 (owns_rowC (ow_of hF.2.1)) (fun j h => ⟨_, (.tail _ (.head _)), (fp_own h)⟩), trivial⟩, trivial⟩) (fun u1 g => (fams_cons fam_ow fams_nil)) (.inr (fun u1 g => (famx_cons trivial (fun K h => by cases h)))) (fun h => by cases h) (hloc := fun u u' h => ⟨by first | rfl | simp only [h 5 (by decide)], by first | rfl | simp only [h 5 (by decide)], by first | rfl | simp only [h 5 (by decide)], by first | rfl | simp only [h 5 (by decide)], by first | rfl | simp only [h 5 (by decide)], by first | rfl | simp only [h 5 (by decide)]⟩)) <|
 .cons [5] (ok_val (fun u1 => .slice ((u1 6).o 0) t3.length ((u1 6).n 0)) 5) <| .nil) (by kernel_rfl) (by kernel_rfl) fun u1 a w' H => ?_
 replace H := H.kp [0, 1, 2, 3, 5, 44, 46, 47, 50, 43, 45, 48, 999999]
 refine r_seq ?_
 refine r_reg mixed H (.v 14 (vI 0) <| .nil) (by kernel_rfl) (by kernel_rfl) fun u4 a w' H => ?_
 replace H := H.kp [0, 1, 2, 3, 5, 14, 44, 46, 47, 50, 43, 45, 48, 999999]
 refine r_block ?_
 refine r_loopJ (fun m a w' => m = 1 ∧ RL w 43 [(0, .slot true (.func (.yield l) #[] #[])), (1, sP b_q0 0), (2, sP b_q1 0), (3, sP b_q2 0), (5, (sS ((u1 6).o 0) t3.length ((u1 6).n 0))), (14, sI 0), (44, rdl anyF 2 p_q0 c_q0 q0 en_TInterval), (46, rdl anyF 5 p_q1_L c_q1_L q1.L en_TInstruction), (47, rdl anyF 1 p_q1_Out c_q1_Out q1.Out en_i64), (50, owl 46 2 ((u1 6).o 0) ((u1 6).n 0) t3 en_TInterval), (43, bxK b_q0 [.slice p_q0 q0.length c_q0] 48), (45, bxK b_q1 [vI q1.N, .slice p_q1_L q1.L.length c_q1_L, .slice p_q1_Out q1.Out.length c_q1_Out] 38), (48, bxK b_q2 [vI q2.T, vI q2.H] 53), (999999, gk)] a w') 1 ⟨rfl, H.toM _⟩ ?_
 clear H
 rintro m a w' ⟨rfl, H⟩
 refine r_seq ?_
 refine r_reg mixed H (.v 15 (.bool true) <| .nil) (by kernel_rfl) (by kernel_rfl) fun u5 a w' H => ?_
 replace H := H.kp [0, 1, 2, 3, 5, 14, 15, 44, 46, 47, 50, 43, 45, 48, 999999]
 refine r_seq ?_
 refine r_cond_true H (by kernel_rfl) (by kernel_rfl) ?_
 refine r_skip ?_
 refine r_seq ?_
 refine r_block ?_
 refine r_seq ?_
 refine r_seq ?_
 replace G := bnd G; obtain ⟨t7, ht7, G⟩ := G
 refine r_reg mixed H (.v 16 (.slice ((u1 6).o 0) t3.length ((u1 6).n 0)) <|
 .cons [17] (ok_callL [50] (fun u6 => [owl 46 2 ((u1 6).o 0) ((u1 6).n 0) t3 en_TInterval]) 115 _ _ 17 (fun u6 w hF => picard_bounded.calls k0 t3 ((u1 6).o 0) ((u1 6).n 0) t7 w  ⟨(rdA (owns_rowC (ow_of hF.1))), trivial⟩ ht7)) <|
 .v 18 (.bool (!t7)) <| .nil) (by kernel_rfl) (by kernel_rfl) fun u6 a w' H => ?_
 replace H := H.kp [0, 1, 2, 3, 5, 14, 18, 44, 46, 47, 50, 43, 45, 48, 999999]
 refine r_cond H (by kernel_rfl) (t := (!t7)) (by kernel_rfl) (fun c17 => ?_) (fun c17 => ?_)
 ·rw [if_pos c17] at G
  refine r_ret ?_
  cases G
 ·rw [if_neg (nt c17)] at G
  refine r_skip ?_
  refine r_seq ?_
  replace G := bnd G; obtain ⟨t9, ht9, G⟩ := G
  refine r_reg mixed H (.v 19 (.slice ((u1 6).o 0) t3.length ((u1 6).n 0)) <|
 .cons [20, 51] (ok_callY false fr [] [50] (fun u8 => [owl 46 2 ((u1 6).o 0) ((u1 6).n 0) t3 en_TInterval]) [] (fun u8 => []) 116 _ _ _ _ _ [51] 20 (fun u8 w hB hF hM => picard_inflate.calls k0 t3 ((u1 6).o 0) ((u1 6).n 0) t9 w  hB ht9) (fun u8 w hF => ⟨⟨sub_rd0 (owns_rowC (ow_of hF.1)) (fun j h => ⟨_, (.head _), (fp_own h)⟩), trivial⟩, trivial⟩) (fun u8 g => (fams_cons fam_ow fams_nil)) (.inr (fun u8 g => (famx_cons trivial (fun K h => by cases h)))) (fun h => by cases h)) <|
 .cons [5] (ok_val (fun u8 => .slice ((u8 1).o 0) t9.length ((u8 1).n 0)) 5) <| .nil) (by kernel_rfl) (by kernel_rfl) fun u8 a w' H => ?_
  replace H := H.kp [0, 1, 2, 3, 5, 14, 44, 46, 47, 51, 43, 45, 48, 999999]
  refine r_seq ?_
  refine r_seq ?_
  replace G := bnd G; obtain ⟨t11, ht11, G⟩ := G
  refine r_reg mixed H (.v 21 (.slice ((u8 1).o 0) t9.length ((u8 1).n 0)) <|
 .cons [22] (ok_callL [51] (fun u10 => [owl 46 2 ((u8 1).o 0) ((u8 1).n 0) t9 en_TInterval]) 115 _ _ 22 (fun u10 w hF => picard_bounded.calls k0 t9 ((u8 1).o 0) ((u8 1).n 0) t11 w  ⟨(rdA (owns_rowC (ow_of hF.1))), trivial⟩ ht11)) <|
 .v 23 (.bool (!t11)) <| .nil) (by kernel_rfl) (by kernel_rfl) fun u10 a w' H => ?_
  replace H := H.kp [0, 1, 2, 3, 5, 14, 23, 44, 46, 47, 51, 43, 45, 48, 999999]
  refine r_cond H (by kernel_rfl) (t := (!t11)) (by kernel_rfl) (fun c16 => ?_) (fun c16 => ?_)
  ·rw [if_pos c16] at G
   refine r_ret ?_
   cases G
  ·rw [if_neg (nt c16)] at G
   refine r_skip ?_
   refine r_seq ?_
   replace G := bnd G; obtain ⟨t13, ht13, G⟩ := G
   refine r_reg mixed H (.cons [24] (ok_ldK (fun u12 => .agg #[vI q1.N, .slice p_q1_L q1.L.length c_q1_L, .slice p_q1_Out q1.Out.length c_q1_Out]) 24 45 (bxK b_q1 [vI q1.N, .slice p_q1_L q1.L.length c_q1_L, .slice p_q1_Out q1.Out.length c_q1_Out] 38) b_q1 0 3 [vI q1.N, .slice p_q1_L q1.L.length c_q1_L, .slice p_q1_Out q1.Out.length c_q1_Out] (fun w h => bx_of h)) <|
 .cons [25] (ok_ldK (fun u12 => .slice p_q0 q0.length c_q0) 25 43 (bxK b_q0 [.slice p_q0 q0.length c_q0] 48) b_q0 0 1 [.slice p_q0 q0.length c_q0] (fun w h => bx_of h)) <|
 .v 26 (.slice ((u8 1).o 0) t9.length ((u8 1).n 0)) <|
 .cons [27] (ok_ldK (fun u12 => .agg #[vI q2.T, vI q2.H]) 27 48 (bxK b_q2 [vI q2.T, vI q2.H] 53) b_q2 0 2 [vI q2.T, vI q2.H] (fun w h => bx_of h)) <|
 .cons [28, 52] (ok_callY false fr [] [46, 47, 44, 51, 999999] (fun u12 => [rdl anyF 5 p_q1_L c_q1_L q1.L en_TInstruction, rdl anyF 1 p_q1_Out c_q1_Out q1.Out en_i64, rdl anyF 2 p_q0 c_q0 q0 en_TInterval, owl 46 2 ((u8 1).o 0) ((u8 1).n 0) t9 en_TInterval, gk]) [] (fun u12 => []) 113 _ _ _ _ _ [52] 28 (fun u12 w hB hF hM => picard_Image.calls k0 (⟨q1.N, q1.L, q1.Out⟩ : TTape) q0 t9 q2 p_q1_L c_q1_L p_q1_Out c_q1_Out p_q0 c_q0 ((u8 1).o 0) ((u8 1).n 0) t13 w  hB ht13) (fun u12 w hF => ⟨⟨sub_rd0 (rdF_of hF.1) (fun j h => ⟨_, (.head _), h⟩), sub_rd0 (rdF_of hF.2.1) (fun j h => ⟨_, (.tail _ (.head _)), h⟩), sub_rd0 (rdF_of hF.2.2.1) (fun j h => ⟨_, (.tail _ (.tail _ (.head _))), h⟩), sub_rd0 (owns_rowC (ow_of hF.2.2.2.1)) (fun j h => ⟨_, (.tail _ (.tail _ (.tail _ (.head _)))), (fp_own h)⟩), sub_k hF.2.2.2.2.1 (.tail _ (.tail _ (.tail _ (.tail _ (.head _))))), trivial⟩, trivial⟩) (fun u12 g => (fams_cons fam_ow fams_nil)) (.inr (fun u12 g => (famx_cons trivial (fun K h => by cases h)))) (fun h => by cases h)) <|
 .cons [6] (ok_val (fun u12 => .slice ((u12 4).o 0) t13.length ((u12 4).n 0)) 6) <| .nil) (by kernel_rfl) (by kernel_rfl) fun u12 a w' H => ?_
   replace H := H.kp [0, 1, 2, 3, 5, 6, 14, 44, 46, 47, 51, 52, 43, 45, 48, 999999]
   refine r_seq ?_
   refine r_seq ?_
   replace G := bnd G; obtain ⟨t14, ht14, G⟩ := G
   replace G := gd G; obtain ⟨b15, G⟩ := G
   subst b15; obtain rfl := sj G
   have hrb : RowC w' 2 ((u8 1).o 0) t9.length ((u8 1).n 0) (t9.flatMap en_TInterval) := (owns_rowC (ow_of (H.at (K := owl 46 2 ((u8 1).o 0) ((u8 1).n 0) t9 en_TInterval) 51 (by kernel_rfl))))
   have hrd : RowC w' 2 ((u12 4).o 0) t13.length ((u12 4).n 0) (t13.flatMap en_TInterval) := (owns_rowC (ow_of (H.at (K := owl 46 2 ((u12 4).o 0) ((u12 4).n 0) t13 en_TInterval) 52 (by kernel_rfl))))
   have hgb : ∀ i, fpRow ((u8 1).o 0) t9.length i → w.heap.size ≤ i := fun i hi => (H.geAt (e := 46) (sz := 2) (p := ((u8 1).o 0)) (m := t9.length) (cap := ((u8 1).n 0)) (xs := t9.flatMap en_TInterval) 51 (by kernel_rfl) i hi).1
   have hgd : ∀ i, fpRow ((u12 4).o 0) t13.length i → w.heap.size ≤ i := fun i hi => (H.geAt (e := 46) (sz := 2) (p := ((u12 4).o 0)) (m := t13.length) (cap := ((u12 4).n 0)) (xs := t13.flatMap en_TInterval) 52 (by kernel_rfl) i hi).1
   have hj : J w' := hJ _ _ h0 H.below
   obtain ⟨N, hN⟩ : ∃ N, w'.heap.size = N := ⟨_, rfl⟩
   have hgk : (pcK N wc J ((u8 1).o 0) ((u8 1).n 0) t9 ((u12 4).o 0) ((u12 4).n 0) t13).holds w' := by rw [← hN]; exact pcK_holds (fun W' h => hJ _ _ hj h) (hJc _ hj) hrb hrd
   replace H := (H.again w' (hJc _ hj) (Nat.zero_le _) [(53, pcK N wc J ((u8 1).o 0) ((u8 1).n 0) t9 ((u12 4).o 0) ((u12 4).n 0) t13)] (by intro z hz; simp only [List.mem_cons, List.not_mem_nil, or_false] at hz; subst hz; exact ⟨⟨_, _, rfl⟩, hgk, fun k hk => by rw [hN]; exact hk⟩)).toL [(0, .slot true (.func (.yield l) #[] #[])), (5, (sS ((u8 1).o 0) t9.length ((u8 1).n 0))), (6, (sS ((u12 4).o 0) t13.length ((u12 4).n 0))), (53, pcK N wc J ((u8 1).o 0) ((u8 1).n 0) t9 ((u12 4).o 0) ((u12 4).n 0) t13)] (by kernel_rfl)
   refine r_of (y_regI (Rp := RepO 53 0 wc 43) ⟨H, only_ofL _ (by kernel_rfl)⟩ (.cons [29] (oki (ok_val (fun _ => .slice ((u12 4).o 0) t13.length ((u12 4).n 0)) 29)) <|
  .cons [30] (oki (ok_callL [53] (fun _ => [pcK N wc J ((u8 1).o 0) ((u8 1).n 0) t9 ((u12 4).o 0) ((u12 4).n 0) t13]) 115 _ _ 30 (fun _ w hF => picard_bounded.calls k0 t13 ((u12 4).o 0) ((u12 4).n 0) true w ⟨rdA (pcK_of hF.1).2.2, trivial⟩ ht14))) <|
  .cons [31] (oki (ok_val (fun _ => .bool false) 31)) <|
  .cons [32] (oki (ok_val (fun _ => .bool false) 32)) <|
  .cons [33] (oki (ok_gd (ok_val (fun _ => .func (.yield l) #[] #[]) 33) (by intro _; kernel_rfl))) <|
  .cons [34] (oki (ok_gd (ok_val (fun _ => .slice ((u8 1).o 0) t9.length ((u8 1).n 0)) 34) (by intro _; kernel_rfl))) <|
  .cons [35] (oki (ok_gd (ok_val (fun _ => .slice ((u12 4).o 0) t13.length ((u12 4).n 0)) 35) (by intro _; kernel_rfl))) <|
  .cons [36, 53] (ok_yieldG (w0 := wc) 53 (pcK N wc J ((u8 1).o 0) ((u8 1).n 0) t9 ((u12 4).o 0) ((u12 4).n 0) t13) l (fun _ => #[.slice ((u8 1).o 0) t9.length ((u8 1).n 0), .slice ((u12 4).o 0) t13.length ((u12 4).n 0)]) (fun W => J W ∧ RowC W 2 ((u8 1).o 0) t9.length ((u8 1).n 0) (t9.flatMap en_TInterval) ∧ RowC W 2 ((u12 4).o 0) t13.length ((u12 4).n 0) (t13.flatMap en_TInterval)) JT JX 36 (by intro _; kernel_rfl) (fun w h hb' => ⟨(pcK_of h).1 hb', (pcK_of h).2⟩) (fun _ W1 h1 => hY (((u8 1).o 0), ((u8 1).n 0), ((u12 4).o 0), ((u12 4).n 0)) W1 h1.1 (pc_facts kb kd (fun j h => hfq j (Nat.le_trans hlo h)) hbw hgb hgd h1.2.1 h1.2.2)) hJT hJX hTc hXc) <|
  .cons [37] (oki (ok_gd (ok_val (fun u => .bool (!decide ((u 7).n 0 = 1))) 37) (by intro _; kernel_rfl))) <|
  .cons [38] (oki (ok_pickK (fun u => .bool (!decide ((u 7).n 0 = 1))) 38)) <| .nil) fun u a w' H => ?_)
   have hk := H.1.holds 53
   replace hk : (bif decide ((u 7).n 0 = 1) then jK ((u 7).n 1) wc JT else jK ((u 7).n 1) wc JX).holds w' := hk
   have hbel := H.1.below
   replace H := H.1.toL [(38, (sB (!decide ((u 7).n 0 = 1))))] (by kernel_rfl)
   refine r_cond H (by kernel_rfl) (t := !decide ((u 7).n 0 = 1)) (by kernel_rfl) (fun c => ?_) (fun c => ?_)
   ·rw [bnot_t c] at hk
    refine r_ret ?_
    exact ⟨H.defers, _, run_results H (.tuple #[]) [] (by kernel_rfl) (by simp) (by kernel_rfl), ⟨_, rfl⟩, .inr (hk w' (agree.refl _ _) hbel)⟩
   ·rw [bnot_f c] at hk
    exact absurd (hk w' (agree.refl _ _) hbel) (htr rfl w')
theorem picard_Enclose.calls (k0 : Nat) (a0 : TTape) (a1 : List TInterval) (a2 : TTimeStep) (p_a0_L : Option Addr) (c_a0_L : Nat) (p_a0_Out : Option Addr) (c_a0_Out : Nat) (p_a1 : Option Addr) (c_a1 : Nat) (r : List TInterval × Bool) (w : World) (hB : AllH [rdl anyF 5 p_a0_L c_a0_L a0.L en_TInstruction, rdl anyF 1 p_a0_Out c_a0_Out a0.Out en_i64, rdl anyF 2 p_a1 c_a1 a1 en_TInterval, gk] w) (G : picard_Enclose k0 a0 a1 a2 = some r) :
  Calls Tryz.prog 78 #[.agg #[vI a0.N, .slice p_a0_L a0.L.length c_a0_L, .slice p_a0_Out a0.Out.length c_a0_Out], .slice p_a1 a1.length c_a1, .agg #[vI a2.T, vI a2.H]] w fun e w' => ∃ g : Gh, e = .returned (.tuple #[.slice (g.o 0) r.1.length (g.n 0), .bool r.2]) ∧ But (fpK []) w w' ∧ OutOK w.heap.size (fpK []) (frI w.heap.size []) [fun fr => rdF fr 2 (g.o 0) r.1.length (g.n 0) (r.1.flatMap en_TInterval)] w' := by
 obtain ⟨fr, hfr, hBf⟩ := frs w []
 refine k_enterM (args := [.agg #[vI a0.N, .slice p_a0_L a0.L.length c_a0_L, .slice p_a0_Out a0.Out.length c_a0_Out], .slice p_a1 a1.length c_a1, .agg #[vI a2.T, vI a2.H]]) 24 [(24, rdl anyF 5 p_a0_L c_a0_L a0.L en_TInstruction), (25, rdl anyF 1 p_a0_Out c_a0_Out a0.Out en_i64), (26, rdl anyF 2 p_a1 c_a1 a1 en_TInterval), (999999, gk)] (by
  intro x hx
  simp only [List.mem_cons, List.not_mem_nil, or_false] at hx
  rcases hx with rfl | rfl | rfl | rfl
  ·exact rdF_fact (rdF_of hB.1) (fun _ _ => trivial) (by decide) _
  ·exact rdF_fact (rdF_of hB.2.1) (fun _ _ => trivial) (by decide) _
  ·exact rdF_fact (rdF_of hB.2.2.1) (fun _ _ => trivial) (by decide) _
  ·exact ⟨⟨_, _, rfl⟩, hB.2.2.2.1, glob_in (glob_of hB.2.2.2.1)⟩) Tryz.func78 rfl (by kernel_rfl) (by kernel_rfl) fun a H => ?_
 unfold picard_Enclose at G
 refine k_srk mixed H (.cons [3, 27] (ok_new (fun b => vP b 0) (fun u1 => [vI a0.N, .slice p_a0_L a0.L.length c_a0_L, .slice p_a0_Out a0.Out.length c_a0_Out]) 38 3 27) <|
 .cons [5, 28] (ok_new (fun b => vP b 0) (fun u1 => [vI a2.T, vI a2.H]) 53 5 28) <|
 .v 6 (.slice none 0 0) <|
 .v 7 (.bool false) <| .nil) [1, 3, 5, 6, 7, 24, 25, 26, 27, 28, 999999] fun u1 a w' H => ?_
 refine k_scope ?_
 refine k_srk mixed H (.cons [8, 29] (ok_new (fun b => vP b 0) (fun u2 => [.slice none 0 0]) 48 8 29) <| .nil) [1, 3, 5, 6, 7, 8, 24, 25, 26, 27, 28, 29, 999999] fun u2 a w' H => ?_
 refine k_seq ?_
 refine k_label ?_
 refine k_seq ?_
 refine k_srk mixed H (.cons [11] (ok_ldc (.agg #[vI a0.N, .slice p_a0_L a0.L.length c_a0_L, .slice p_a0_Out a0.Out.length c_a0_Out]) 11 27 0 3 ((u1 0).n 0) [vI a0.N, .slice p_a0_L a0.L.length c_a0_L, .slice p_a0_Out a0.Out.length c_a0_Out] 38) <|
 .v 12 (.slice p_a1 a1.length c_a1) <|
 .cons [13] (ok_ldc (.agg #[vI a2.T, vI a2.H]) 13 28 0 2 ((u1 1).n 0) [vI a2.T, vI a2.H] 53) <|
 .cons [14, 30, 31, 32] (ok_callB3 95 (fun u3 => #[.agg #[vI a0.N, .slice p_a0_L a0.L.length c_a0_L, .slice p_a0_Out a0.Out.length c_a0_Out], .slice p_a1 a1.length c_a1, .agg #[vI a2.T, vI a2.H]]) (fun b1 b2 b3 => .func (.func 111) #[] #[vP b2 0, vP b1 0, vP b3 0]) [vI a0.N, .slice p_a0_L a0.L.length c_a0_L, .slice p_a0_Out a0.Out.length c_a0_Out] [.slice p_a1 a1.length c_a1] [vI a2.T, vI a2.H] 38 48 53 14 30 31 32 (fun _ w => picard_candidates.calls (⟨a0.N, a0.L, a0.Out⟩ : TTape) p_a0_L a0.L.length c_a0_L p_a0_Out a0.Out.length c_a0_Out a1 p_a1 a1.length c_a1 a2 w)) <| .nil) [6, 7, 8, 14, 24, 25, 26, 29, 30, 31, 32, 999999] fun u3 a w' H => ?_
 refine k_block ?_
 replace G := bnd G; obtain ⟨t5, ht5, G⟩ := G
 refine k_rangeO (γ := Option Addr × Nat × Option Addr × Nat) (fun z => #[.slice z.1 t5.1.length z.2.1, .slice z.2.2.1 t5.2.length z.2.2.2]) (fun z => [(35, rdl fr 2 z.1 z.2.1 t5.1 en_TInterval), (36, rdl fr 2 z.2.2.1 z.2.2.2 t5.2 en_TInterval)]) (fun z => [(15, sS z.1 t5.1.length z.2.1), (16, sS z.2.2.1 t5.2.length z.2.2.2)]) (fun w => AllH [rdl anyF 2 p_a1 c_a1 a1 en_TInterval, bxK ((u3 3).n 1) [.slice p_a1 a1.length c_a1] 48, rdl anyF 5 p_a0_L c_a0_L a0.L en_TInstruction, rdl anyF 1 p_a0_Out c_a0_Out a0.Out en_i64, bxK ((u3 3).n 0) [vI a0.N, .slice p_a0_L a0.L.length c_a0_L, .slice p_a0_Out a0.Out.length c_a0_Out] 38, bxK ((u3 3).n 2) [vI a2.T, vI a2.H] 53, gk] w) false 33 34 0 _ (fun _ => False) (fun _ => False) (fun L => ∃ x6 : List TInterval, picard_Enclose.l7 k0 a0 a1 a2 t5 x6 = some r ∧ ∃ (p_x6 : Option Addr) (c_x6 np_x6 : Nat), np_x6 = x6.length ∧ L = [(24, rdl anyF 5 p_a0_L c_a0_L a0.L en_TInstruction), (25, rdl anyF 1 p_a0_Out c_a0_Out a0.Out en_i64), (26, rdl anyF 2 p_a1 c_a1 a1 en_TInterval), (29, .blk ((u2 0).n 0) [.slice p_x6 np_x6 c_x6] 48), (30, .blk ((u3 3).n 0) [vI a0.N, .slice p_a0_L a0.L.length c_a0_L, .slice p_a0_Out a0.Out.length c_a0_Out] 38), (31, .blk ((u3 3).n 1) [.slice p_a1 a1.length c_a1] 48), (32, .blk ((u3 3).n 2) [vI a2.T, vI a2.H] 53), (900012, rdF fr 2 p_x6 np_x6 c_x6 (x6.flatMap en_TInterval)), (999999, gk)]) H (by kernel_rfl) (by kernel_rfl) (enters_fn Tryz.func111 (by kernel_rfl) rfl) (picard_candidates_1_m.one k0 a1 (⟨a0.N, a0.L, a0.Out⟩ : TTape) a2 ((u3 3).n 1) p_a1 c_a1 ((u3 3).n 0) p_a0_L c_a0_L p_a0_Out c_a0_Out ((u3 3).n 2) t5 fr 35 36 _ hBf ht5) (puts2 15 16 (fun z : Option Addr × Nat × Option Addr × Nat => .slice z.1 t5.1.length z.2.1) (fun z => .slice z.2.2.1 t5.2.length z.2.2.2) (by rfl) (by rfl)) (fun _ => by kernel_rfl) (fun _ => by kernel_rfl) (by kernel_rfl) (by kernel_rfl) (by kernel_rfl) (by kernel_rfl) (by kernel_rfl) (fun w h => (by have hF : AllH [rdl anyF 2 p_a1 c_a1 a1 en_TInterval, .blk ((u3 3).n 1) [.slice p_a1 a1.length c_a1] 48, rdl anyF 5 p_a0_L c_a0_L a0.L en_TInstruction, rdl anyF 1 p_a0_Out c_a0_Out a0.Out en_i64, .blk ((u3 3).n 0) [vI a0.N, .slice p_a0_L a0.L.length c_a0_L, .slice p_a0_Out a0.Out.length c_a0_Out] 38, .blk ((u3 3).n 2) [vI a2.T, vI a2.H] 53, gk] w := ⟨h.at (K := rdl anyF 2 p_a1 c_a1 a1 en_TInterval) 26 (by kernel_rfl), h.at (K := .blk ((u3 3).n 1) [.slice p_a1 a1.length c_a1] 48) 31 (by kernel_rfl), h.at (K := rdl anyF 5 p_a0_L c_a0_L a0.L en_TInstruction) 24 (by kernel_rfl), h.at (K := rdl anyF 1 p_a0_Out c_a0_Out a0.Out en_i64) 25 (by kernel_rfl), h.at (K := .blk ((u3 3).n 0) [vI a0.N, .slice p_a0_L a0.L.length c_a0_L, .slice p_a0_Out a0.Out.length c_a0_Out] 38) 30 (by kernel_rfl), h.at (K := .blk ((u3 3).n 2) [vI a2.T, vI a2.H] 53) 32 (by kernel_rfl), h.at (K := gk) 999999 (by kernel_rfl), trivial⟩; exact ⟨(rdA (rdF_of hF.1)), (bx_fact hF.2.1 0).2.1, (rdA (rdF_of hF.2.2.1)), (rdA (rdF_of hF.2.2.2.1)), (bx_fact hF.2.2.2.2.1 0).2.1, (bx_fact hF.2.2.2.2.2.1 0).2.1, hF.2.2.2.2.2.2.1, trivial⟩)) (fun L W h _ => h.elim) (fun _ L h => h.elim) rfl ?_ ?_ ?_ ?_
 ·clear H; rintro l D oR oD z a w' H
  replace H := H.kp [6, 7, 8, 14, 15, 16, 24, 25, 26, 29, 30, 31, 32, 35, 36, 999999, 33, 34]
  refine r_seq ?_
  refine r_reg mixed H (.v 9 (.slice z.1 t5.1.length z.2.1) <| .nil) (by kernel_rfl) (by kernel_rfl) fun u8 a w' H => ?_
  replace H := H.kp [6, 7, 8, 9, 14, 16, 24, 25, 26, 29, 30, 31, 32, 35, 36, 999999, 33, 34]
  refine r_reg mixed H (.v 10 (.slice z.2.2.1 t5.2.length z.2.2.2) <| .nil) (by kernel_rfl) (by kernel_rfl) fun u9 a w' H => ?_
  replace H := H.kp [6, 7, 8, 9, 10, 14, 24, 25, 26, 29, 30, 31, 32, 35, 36, 999999, 33, 34]
  refine ⟨_, H, by kernel_rfl, fun oB w' H => ?_⟩
  replace H := H.kp [6, 7, 8, 9, 10, 14, 24, 25, 26, 29, 30, 31, 32, 35, 36, 999999, 33, 34]
  refine r_block ?_
  refine r_seq ?_
  replace G := bnd G; obtain ⟨t11, ht11, G⟩ := G
  refine r_reg mixed H (.v 17 (.slice z.2.2.1 t5.2.length z.2.2.2) <|
 .v 18 (.slice z.1 t5.1.length z.2.1) <|
 .cons [19] (ok_callL [36, 35] (fun u10 => [rdl fr 2 z.2.2.1 z.2.2.2 t5.2 en_TInterval, rdl fr 2 z.1 z.2.1 t5.1 en_TInterval]) 96 _ _ 19 (fun u10 w hF => box_Subset.calls k0 t5.2 t5.1 z.2.2.1 z.2.2.2 z.1 z.2.1 t11 w  ⟨(rdA (rdF_of hF.1)), (rdA (rdF_of hF.2.1)), trivial⟩ ht11)) <| .nil) (by kernel_rfl) (by kernel_rfl) fun u10 a w' H => ?_
  replace H := H.kp [6, 7, 8, 10, 14, 19, 24, 25, 26, 29, 30, 31, 32, 36, 999999, 33, 34]
  refine r_cond H (by kernel_rfl) (t := t11) (by kernel_rfl) (fun c13 => ?_) (fun c13 => ?_)
  ·rw [if_pos c13] at G
   refine r_seq ?_
   refine r_reg mixed H (.v 20 (.slice z.2.2.1 t5.2.length z.2.2.2) <|
 .cons [29] (ok_stc 29 0 ((u2 0).n 0) [.slice none 0 0] [.slice z.2.2.1 t5.2.length z.2.2.2] 48 [.slice z.2.2.1 t5.2.length z.2.2.2]) <| .nil) (by kernel_rfl) (by kernel_rfl) fun u12 a w' H => ?_
   replace H := H.toM [(6, sS none 0 0), (7, sB false), (8, (sP ((u2 0).n 0) 0)), (14, .slot true (.func (.func 111) #[] #[vP ((u3 3).n 1) 0, vP ((u3 3).n 0) 0, vP ((u3 3).n 2) 0])), (24, rdl anyF 5 p_a0_L c_a0_L a0.L en_TInstruction), (25, rdl anyF 1 p_a0_Out c_a0_Out a0.Out en_i64), (26, rdl anyF 2 p_a1 c_a1 a1 en_TInterval), (29, .blk ((u2 0).n 0) [.slice z.2.2.1 t5.2.length z.2.2.2] 48), (30, .blk ((u3 3).n 0) [vI a0.N, .slice p_a0_L a0.L.length c_a0_L, .slice p_a0_Out a0.Out.length c_a0_Out] 38), (31, .blk ((u3 3).n 1) [.slice p_a1 a1.length c_a1] 48), (32, .blk ((u3 3).n 2) [vI a2.T, vI a2.H] 53), (36, rdl fr 2 z.2.2.1 z.2.2.2 t5.2 en_TInterval), (999999, gk), (33, obK l oB), (34, obK D oD)]
   refine r_exit rfl ?_
   replace H := H.dup (K := rdl fr 2 z.2.2.1 z.2.2.2 t5.2 en_TInterval) 36 900012 (by kernel_rfl) (fun h => h) (by intro _ _ h; cases h)
   exact ⟨_, ⟨_, G, z.2.2.1, z.2.2.2, t5.2.length, rfl, rfl⟩, by kernel_rfl, H.toM _⟩
  ·rw [if_neg (nt c13)] at G
   refine r_skip ?_
   cases G
 ·clear H G; rintro D L W h H; exact h.elim
 ·clear H G; rintro D L W h H; exact h.elim
 ·clear H G; rintro D L W ⟨x6, G, p_x6, c_x6, _, rfl, rfl⟩ H
  unfold picard_Enclose.l7 at G
  replace H := H.kp [6, 7, 8, 14, 24, 25, 26, 29, 30, 31, 32, 900012, 999999, 34]
  refine k_after ?_
  refine r_seq ?_
  replace G := gd G; obtain ⟨b15, G⟩ := G
  refine r_reg mixed H (.cons [21] (ok_ldc (.slice p_x6 x6.length c_x6) 21 29 0 1 ((u2 0).n 0) [.slice p_x6 x6.length c_x6] 48) <|
 .cons [22] (ok_ldc (.slice p_x6 x6.length c_x6) 22 29 0 1 ((u2 0).n 0) [.slice p_x6 x6.length c_x6] 48) <|
 .cons [23] (ok_valL [900012] (fun u14 => [rdl fr 2 p_x6 c_x6 x6 en_TInterval]) (fun u14 => .bool true) (fun u14 => true) [true, true] 23 (fun u14 w _ hF => nil_cmp (rdF_of hF.1).2 (by have := (rdF_of hF.1).2.len en_TInterval_len (by decide); omega) (fun a e => by subst e; kernel_rfl))) <|
 .v 6 (.slice p_x6 x6.length c_x6) <|
 .v 7 (.bool true) <| .nil) (by kernel_rfl) (by kernel_rfl) fun u14 a w' H => ?_
  replace H := H.kp [6, 7, 900012, 999999, 34]
  refine r_ret ?_
  obtain rfl := sj G
  obtain ⟨g, o0, n0⟩ := gh_r p_x6 c_x6
  refine k_mark 34 H (by kernel_rfl) fun w' H => ?_
  refine k_doneZ H _ g _ _ _ fr [900012] [] (.tuple #[.slice p_x6 x6.length c_x6, .bool true]) [fun fr => rdl fr 2 p_x6 c_x6 x6 en_TInterval] (by simp only [owl, o0, n0]) (by simp only [owl, o0, n0]) hfr (.inl ⟨rfl, rfl⟩) (fams_cons (fam_rd (by decide)) fams_nil) (by simp)
theorem interval_Point.calls (a0 : Int) (r : TInterval) (w : World) (G : interval_Point a0 = some r) :
  Calls Tryz.prog 46 #[vI a0] w fun e w' => e = .returned (.agg #[vI r.Lo, vI r.Hi]) ∧ Below w.heap.size w w' := by
 refine k_enter (args := [vI a0]) 6 Tryz.func46 rfl (by kernel_rfl) (by kernel_rfl) fun a H => ?_
 unfold interval_Point at G
 refine k_srk mixed H (.cons [2, 6] (ok_new (fun b => vP b 0) (fun u1 => [vI 0, vI 0]) 46 2 6) <| .nil) [0, 2, 6] fun u1 a w' H => ?_
 obtain ⟨t3, ht3, G⟩ := bnd G
 refine k_srk mixed H (.v 3 (vI a0) <|
 .v 4 (vI a0) <|
 .cons [5] (ok_callv 68 _ _ 5 [] (fun u2 w _ => interval_New.calls a0 a0  t3 w  ht3)) <|
 .cons [6] (ok_stc 6 0 ((u1 0).n 0) [vI 0, vI 0] [vI t3.Lo, vI t3.Hi] 46 [vI t3.Lo, vI t3.Hi]) <| .nil) [2, 6] fun u2 a w' H => ?_
 refine k_ret ?_
 obtain rfl := sj G
 exact k_done1 H _ 6 ((u1 0).n 0) [vI t3.Lo, vI t3.Hi] 46 0 2 (by kernel_rfl) (by kernel_rfl) (by kernel_rfl) (by kernel_rfl)
theorem series_intervals_1.calls (a0 : TInterval) (r : TInterval) (w : World) (G : series_intervals_1 a0 = some r) :
  Calls Tryz.prog 130 #[.agg #[vI a0.Lo, vI a0.Hi]] w fun e w' => e = .returned (.agg #[vI r.Lo, vI r.Hi]) ∧ Below w.heap.size w w' := by
 refine k_enter (args := [.agg #[vI a0.Lo, vI a0.Hi]]) 4 Tryz.func130 rfl (by kernel_rfl) (by kernel_rfl) fun a H => ?_
 unfold series_intervals_1 at G
 refine k_srk mixed H (.cons [1, 4] (ok_new (fun b => vP b 0) (fun u1 => [vI a0.Lo, vI a0.Hi]) 46 1 4) <|
 .cons [2, 5] (ok_new (fun b => vP b 0) (fun u1 => [vI 0, vI 0]) 46 2 5) <| .nil) [1, 2, 4, 5] fun u1 a w' H => ?_
 refine k_srk mixed H (.cons [3] (ok_ldc (.agg #[vI a0.Lo, vI a0.Hi]) 3 4 0 2 ((u1 0).n 0) [vI a0.Lo, vI a0.Hi] 46) <|
 .cons [5] (ok_stc 5 0 ((u1 1).n 0) [vI 0, vI 0] [vI a0.Lo, vI a0.Hi] 46 [vI a0.Lo, vI a0.Hi]) <| .nil) [2, 5] fun u2 a w' H => ?_
 refine k_ret ?_
 obtain rfl := sj G
 exact k_done1 H _ 5 ((u1 1).n 0) [vI a0.Lo, vI a0.Hi] 46 0 2 (by kernel_rfl) (by kernel_rfl) (by kernel_rfl) (by kernel_rfl)
theorem fixed_MulRatio.calls (a0 : Int) (a1 : Int) (a2 : Int) (r : Int × Int × Int) (w : World) (G : fixed_MulRatio a0 a1 a2 = some r) :
  Calls Tryz.prog 140 #[vI a0, vI a1, vI a2] w fun e w' => e = .returned (.tuple #[vI r.1, vI r.2.1, vI r.2.2]) ∧ Below w.heap.size w w' := by
 refine k_enter (args := [vI a0, vI a1, vI a2]) 35 Tryz.func140 rfl (by kernel_rfl) (by kernel_rfl) fun a H => ?_
 unfold fixed_MulRatio at G
 refine k_srk mixed H (.v 6 (vI 0) <|
 .v 7 (vI 0) <|
 .v 8 (vI 0) <| .nil) [0, 1, 2] fun u1 a w' H => ?_
 refine k_seq ?_
 refine k_srk mixed H (.v 11 (vI a1) <|
 .v 12 (.bool (decide (a1 < (-1073741824)))) <|
 .v 13 (.bool (decide (a1 < (-1073741824)))) <|
 .cons [14] (ok_valg (fun u2 => vI a1) (fun u2 => ((decide (a1 < (-1073741824))) == false)) [true] 14) <|
 .cons [15] (ok_valg (fun u2 => .bool (decide (a1 > 1073741824))) (fun u2 => ((decide (a1 < (-1073741824))) == false)) [false, true] 15) <|
 .cons [16] (ok_or 13 15 (fun u2 => true) (fun u2 => true) (fun u2 => decide (a1 < (-1073741824))) (fun u2 => decide (a1 > 1073741824)) 16) <|
 .v 17 (.bool ((decide (a1 < (-1073741824))) || (decide (a1 > 1073741824)))) <|
 .cons [18] (ok_valg (fun u2 => vI a2) (fun u2 => (((decide (a1 < (-1073741824))) || (decide (a1 > 1073741824))) == false)) [true] 18) <|
 .cons [19] (ok_valg (fun u2 => .bool (decide (a2 < 1))) (fun u2 => (((decide (a1 < (-1073741824))) || (decide (a1 > 1073741824))) == false)) [false, true] 19) <|
 .cons [20] (ok_or 17 19 (fun u2 => true) (fun u2 => true) (fun u2 => ((decide (a1 < (-1073741824))) || (decide (a1 > 1073741824)))) (fun u2 => decide (a2 < 1)) 20) <|
 .v 21 (.bool (((decide (a1 < (-1073741824))) || (decide (a1 > 1073741824))) || (decide (a2 < 1)))) <|
 .cons [22] (ok_valg (fun u2 => vI a2) (fun u2 => ((((decide (a1 < (-1073741824))) || (decide (a1 > 1073741824))) || (decide (a2 < 1))) == false)) [true] 22) <|
 .cons [23] (ok_valg (fun u2 => .bool (decide (a2 > 1073741824))) (fun u2 => ((((decide (a1 < (-1073741824))) || (decide (a1 > 1073741824))) || (decide (a2 < 1))) == false)) [false, true] 23) <|
 .cons [24] (ok_or 21 23 (fun u2 => true) (fun u2 => true) (fun u2 => (((decide (a1 < (-1073741824))) || (decide (a1 > 1073741824))) || (decide (a2 < 1)))) (fun u2 => decide (a2 > 1073741824)) 24) <| .nil) [0, 1, 2, 24] fun u2 a w' H => ?_
 refine k_cnd H ((((decide (a1 < (-1073741824))) || (decide (a1 > 1073741824))) || (decide (a2 < 1))) || (decide (a2 > 1073741824))) (fun c7 => ?_) fun c7 => ?_
 ·rw [if_pos c7] at G
  refine k_srk mixed H (.v 6 (vI 0) <|
 .v 7 (vI 0) <|
 .v 8 (vI 1) <| .nil) [6, 7, 8] fun u3 a w' H => ?_
  refine k_ret ?_
  obtain rfl := sj G
  exact k_done0 H _ (by kernel_rfl) (by kernel_rfl)
 ·rw [if_neg (nt c7)] at G
  refine k_skip ?_
  obtain ⟨t5, ht5, G⟩ := bnd G
  refine k_srk mixed H (.v 26 (vI a0) <|
 .v 27 (vI a1) <|
 .v 28 (vI (w_i64 (a0 * a1))) <|
 .v 29 (vI a2) <|
 .cons [30] (ok_callv 75 _ _ 30 [] (fun u4 w _ => fixed_divide.calls (w_i64 (a0 * a1)) a2  t5 w  ht5)) <|
 .v 25 (.tuple #[vI t5.1, vI t5.2]) <|
 .v 31 (vI t5.1) <|
 .v 32 (vI t5.2) <|
 .v 9 (vI t5.1) <|
 .v 10 (vI t5.2) <| .nil) [9, 10] fun u4 a w' H => ?_
  refine k_srk mixed H (.v 33 (vI t5.1) <|
 .v 34 (vI t5.2) <|
 .v 6 (vI t5.1) <|
 .v 7 (vI t5.2) <|
 .v 8 (vI 0) <| .nil) [6, 7, 8] fun u6 a w' H => ?_
  refine k_ret ?_
  obtain rfl := sj G
  exact k_done0 H _ (by kernel_rfl) (by kernel_rfl)
theorem interval_pick_int64.calls (a0 : Bool) (a1 : Int) (a2 : Int) (r : Int) (w : World) (G : interval_pick_int64 a0 a1 a2 = some r) :
  Calls Tryz.prog 141 #[.bool a0, vI a1, vI a2] w fun e w' => e = .returned (vI r) ∧ Below w.heap.size w w' := by
 refine k_enter (args := [.bool a0, vI a1, vI a2]) 10 Tryz.func141 rfl (by kernel_rfl) (by kernel_rfl) fun a H => ?_
 unfold interval_pick_int64 at G
 refine k_srk mixed H (.v 6 (vI 0) <| .nil) [0, 1, 2] fun u1 a w' H => ?_
 refine k_seq ?_
 refine k_srk mixed H (.v 7 (.bool a0) <| .nil) [1, 2, 7] fun u2 a w' H => ?_
 refine k_cnd H a0 (fun c5 => ?_) fun c5 => ?_
 ·rw [if_pos c5] at G
  refine k_srk mixed H (.v 8 (vI a1) <|
 .v 6 (vI a1) <| .nil) [6] fun u3 a w' H => ?_
  refine k_ret ?_
  obtain rfl := sj G
  exact k_done0 H _ (by kernel_rfl) (by kernel_rfl)
 ·rw [if_neg (nt c5)] at G
  refine k_skip ?_
  refine k_srk mixed H (.v 9 (vI a2) <|
 .v 6 (vI a2) <| .nil) [6] fun u4 a w' H => ?_
  refine k_ret ?_
  obtain rfl := sj G
  exact k_done0 H _ (by kernel_rfl) (by kernel_rfl)
theorem interval_MulRatio.calls (a0 : TInterval) (a1 : Int) (a2 : Int) (r : TInterval) (w : World) (G : interval_MulRatio a0 a1 a2 = some r) :
  Calls Tryz.prog 134 #[.agg #[vI a0.Lo, vI a0.Hi], vI a1, vI a2] w fun e w' => e = .returned (.agg #[vI r.Lo, vI r.Hi]) ∧ Below w.heap.size w w' := by
 refine k_enter (args := [.agg #[vI a0.Lo, vI a0.Hi], vI a1, vI a2]) 47 Tryz.func134 rfl (by kernel_rfl) (by kernel_rfl) fun a H => ?_
 unfold interval_MulRatio at G
 refine k_srk mixed H (.cons [3, 47] (ok_new (fun b => vP b 0) (fun u1 => [vI a0.Lo, vI a0.Hi]) 46 3 47) <|
 .cons [6, 48] (ok_new (fun b => vP b 0) (fun u1 => [vI 0, vI 0]) 46 6 48) <| .nil) [1, 2, 3, 6, 47, 48] fun u1 a w' H => ?_
 refine k_seq ?_
 obtain ⟨t3, ht3, G⟩ := bnd G
 refine k_srk mixed H (.cons [13] (ok_ldc (.agg #[vI a0.Lo, vI a0.Hi]) 13 47 0 2 ((u1 0).n 0) [vI a0.Lo, vI a0.Hi] 46) <|
 .cons [14] (ok_callv 21 _ _ 14 [] (fun u2 w _ => interval_IsEntire.calls a0  t3 w  ht3)) <| .nil) [1, 2, 3, 6, 14, 47, 48] fun u2 a w' H => ?_
 refine k_cnd H t3 (fun c13 => ?_) fun c13 => ?_
 ·rw [if_pos c13] at G
  refine k_srk mixed H (.cons [15] (ok_ldc (.agg #[vI a0.Lo, vI a0.Hi]) 15 47 0 2 ((u1 0).n 0) [vI a0.Lo, vI a0.Hi] 46) <|
 .cons [48] (ok_stc 48 0 ((u1 1).n 0) [vI 0, vI 0] [vI a0.Lo, vI a0.Hi] 46 [vI a0.Lo, vI a0.Hi]) <| .nil) [6, 48] fun u4 a w' H => ?_
  refine k_ret ?_
  obtain rfl := sj G
  exact k_done1 H _ 48 ((u1 1).n 0) [vI a0.Lo, vI a0.Hi] 46 0 2 (by kernel_rfl) (by kernel_rfl) (by kernel_rfl) (by kernel_rfl)
 ·rw [if_neg (nt c13)] at G
  refine k_skip ?_
  obtain ⟨t6, ht6, G⟩ := bnd G
  obtain ⟨t7, ht7, G⟩ := bnd G
  refine k_srk mixed H (.v 17 (vI a1) <|
 .v 18 (.bool (decide (a1 < 0))) <|
 .v 19 (vP ((u1 0).n 0) 1) <|
 .cons [20] (ok_ldc (vI a0.Hi) 20 47 1 1 ((u1 0).n 0) [vI a0.Lo, vI a0.Hi] 46) <|
 .v 21 (vP ((u1 0).n 0) 0) <|
 .cons [22] (ok_ldc (vI a0.Lo) 22 47 0 1 ((u1 0).n 0) [vI a0.Lo, vI a0.Hi] 46) <|
 .cons [23] (ok_callv 141 _ _ 23 [] (fun u5 w _ => interval_pick_int64.calls (decide (a1 < 0)) a0.Hi a0.Lo  t6 w  ht6)) <|
 .v 24 (vI a1) <|
 .v 25 (vI a2) <|
 .cons [26] (ok_callv 140 _ _ 26 [] (fun u5 w _ => fixed_MulRatio.calls t6 a1 a2  t7 w  ht7)) <|
 .v 16 (.tuple #[vI t7.1, vI t7.2.1, vI t7.2.2]) <|
 .v 27 (vI t7.1) <|
 .v 28 (vI t7.2.1) <|
 .v 29 (vI t7.2.2) <|
 .v 7 (vI t7.1) <|
 .v 8 (vI t7.2.1) <|
 .v 9 (vI t7.2.2) <| .nil) [1, 2, 3, 6, 7, 47, 48] fun u5 a w' H => ?_
  obtain ⟨t9, ht9, G⟩ := bnd G
  obtain ⟨t10, ht10, G⟩ := bnd G
  refine k_srk mixed H (.v 31 (vI a1) <|
 .v 32 (.bool (decide (a1 < 0))) <|
 .v 33 (vP ((u1 0).n 0) 0) <|
 .cons [34] (ok_ldc (vI a0.Lo) 34 47 0 1 ((u1 0).n 0) [vI a0.Lo, vI a0.Hi] 46) <|
 .v 35 (vP ((u1 0).n 0) 1) <|
 .cons [36] (ok_ldc (vI a0.Hi) 36 47 1 1 ((u1 0).n 0) [vI a0.Lo, vI a0.Hi] 46) <|
 .cons [37] (ok_callv 141 _ _ 37 [] (fun u8 w _ => interval_pick_int64.calls (decide (a1 < 0)) a0.Lo a0.Hi  t9 w  ht9)) <|
 .v 38 (vI a1) <|
 .v 39 (vI a2) <|
 .cons [40] (ok_callv 140 _ _ 40 [] (fun u8 w _ => fixed_MulRatio.calls t9 a1 a2  t10 w  ht10)) <|
 .v 30 (.tuple #[vI t10.1, vI t10.2.1, vI t10.2.2]) <|
 .v 41 (vI t10.1) <|
 .v 42 (vI t10.2.1) <|
 .v 43 (vI t10.2.2) <|
 .v 10 (vI t10.1) <|
 .v 11 (vI t10.2.1) <|
 .v 12 (vI t10.2.2) <| .nil) [6, 7, 11, 48] fun u8 a w' H => ?_
  obtain ⟨t12, ht12, G⟩ := bnd G
  refine k_srk mixed H (.v 44 (vI t7.1) <|
 .v 45 (vI t10.2.1) <|
 .cons [46] (ok_callv 68 _ _ 46 [] (fun u11 w _ => interval_New.calls t7.1 t10.2.1  t12 w  ht12)) <|
 .cons [48] (ok_stc 48 0 ((u1 1).n 0) [vI 0, vI 0] [vI t12.Lo, vI t12.Hi] 46 [vI t12.Lo, vI t12.Hi]) <| .nil) [6, 48] fun u11 a w' H => ?_
  refine k_ret ?_
  obtain rfl := sj G
  exact k_done1 H _ 48 ((u1 1).n 0) [vI t12.Lo, vI t12.Hi] 46 0 2 (by kernel_rfl) (by kernel_rfl) (by kernel_rfl) (by kernel_rfl)
theorem series_intervals_2.calls (a0 : TInterval) (a1 : Int) (r : TInterval) (w : World) (G : series_intervals_2 a0 a1 = some r) :
  Calls Tryz.prog 133 #[.agg #[vI a0.Lo, vI a0.Hi], vI a1] w fun e w' => e = .returned (.agg #[vI r.Lo, vI r.Hi]) ∧ Below w.heap.size w w' := by
 refine k_enter (args := [.agg #[vI a0.Lo, vI a0.Hi], vI a1]) 8 Tryz.func133 rfl (by kernel_rfl) (by kernel_rfl) fun a H => ?_
 unfold series_intervals_2 at G
 refine k_srk mixed H (.cons [2, 8] (ok_new (fun b => vP b 0) (fun u1 => [vI a0.Lo, vI a0.Hi]) 46 2 8) <|
 .cons [4, 9] (ok_new (fun b => vP b 0) (fun u1 => [vI 0, vI 0]) 46 4 9) <| .nil) [1, 2, 4, 8, 9] fun u1 a w' H => ?_
 obtain ⟨t3, ht3, G⟩ := bnd G
 refine k_srk mixed H (.cons [5] (ok_ldc (.agg #[vI a0.Lo, vI a0.Hi]) 5 8 0 2 ((u1 0).n 0) [vI a0.Lo, vI a0.Hi] 46) <|
 .v 6 (vI a1) <|
 .cons [7] (ok_callv 134 _ _ 7 [] (fun u2 w _ => interval_MulRatio.calls a0 1 a1  t3 w  ht3)) <|
 .cons [9] (ok_stc 9 0 ((u1 1).n 0) [vI 0, vI 0] [vI t3.Lo, vI t3.Hi] 46 [vI t3.Lo, vI t3.Hi]) <| .nil) [4, 9] fun u2 a w' H => ?_
 refine k_ret ?_
 obtain rfl := sj G
 exact k_done1 H _ 9 ((u1 1).n 0) [vI t3.Lo, vI t3.Hi] 46 0 2 (by kernel_rfl) (by kernel_rfl) (by kernel_rfl) (by kernel_rfl)
theorem series_unit.calls (r : TInterval) (w : World) (G : series_unit = some r) :
  Calls Tryz.prog 142 #[] w fun e w' => e = .returned (.agg #[vI r.Lo, vI r.Hi]) ∧ Below w.heap.size w w' := by
 refine k_enter (args := []) 2 Tryz.func142 rfl (by kernel_rfl) (by kernel_rfl) fun a H => ?_
 unfold series_unit at G
 refine k_srk mixed H (.cons [0, 2] (ok_new (fun b => vP b 0) (fun u1 => [vI 0, vI 0]) 46 0 2) <| .nil) [0, 2] fun u1 a w' H => ?_
 obtain ⟨t3, ht3, G⟩ := bnd G
 refine k_srk mixed H (.cons [1] (ok_callv 46 _ _ 1 [] (fun u2 w _ => interval_Point.calls 65536  t3 w  ht3)) <|
 .cons [2] (ok_stc 2 0 ((u1 0).n 0) [vI 0, vI 0] [vI t3.Lo, vI t3.Hi] 46 [vI t3.Lo, vI t3.Hi]) <| .nil) [0, 2] fun u2 a w' H => ?_
 refine k_ret ?_
 obtain rfl := sj G
 exact k_done1 H _ 2 ((u1 0).n 0) [vI t3.Lo, vI t3.Hi] 46 0 2 (by kernel_rfl) (by kernel_rfl) (by kernel_rfl) (by kernel_rfl)
theorem api_Interval_next_m.calls (k0 : Nat) (a1 : TInstruction) (a2 : List (List TInterval)) (a3 : List TInterval) (a4 : TInterval) (p_a2 : Option Addr) (c_a2 : Nat) (L_a2 : List (Sl TInterval)) (p_a3 : Option Addr) (c_a3 : Nat) (r : TInterval) (w : World) (h_a2 : a2 = L_a2.map Sl.l) (hB : AllH [rdl anyF 1 p_a2 c_a2 L_a2 enSl, dnK anyF E_S_TInterval.toPart L_a2, rdl anyF 2 p_a3 c_a3 a3 en_TInterval, gk] w) (G : api_Interval_next_m k0 a1 a2 a3 a4 = some r) :
  Calls Tryz.prog 135 #[.agg #[.func (.func 130) #[] #[], .func (.func 110) #[] #[], .func (.func 90) #[] #[], .func (.func 92) #[] #[], .func (.func 127) #[] #[], .func (.func 91) #[] #[], .func (.func 131) #[] #[], .func (.func 132) #[] #[], .func (.func 133) #[] #[]], .agg #[vI a1.Op, vI a1.A, vI a1.B, vI a1.C.Lo, vI a1.C.Hi], .slice p_a2 L_a2.length c_a2, .slice p_a3 a3.length c_a3, .agg #[vI a4.Lo, vI a4.Hi]] w fun e w' => e = .returned (.agg #[vI r.Lo, vI r.Hi]) ∧ Below w.heap.size w w' := by
 obtain ⟨fr, hfr⟩ : ∃ fr : Nat → Prop, ∀ j, fr j := ⟨fun _ => True, fun _ => trivial⟩
 have hBf : ∀ j, w.heap.size ≤ j → fr j := fun j _ => hfr j
 refine k_enterF (args := [.agg #[.func (.func 130) #[] #[], .func (.func 110) #[] #[], .func (.func 90) #[] #[], .func (.func 92) #[] #[], .func (.func 127) #[] #[], .func (.func 91) #[] #[], .func (.func 131) #[] #[], .func (.func 132) #[] #[], .func (.func 133) #[] #[]], .agg #[vI a1.Op, vI a1.A, vI a1.B, vI a1.C.Lo, vI a1.C.Hi], .slice p_a2 L_a2.length c_a2, .slice p_a3 a3.length c_a3, .agg #[vI a4.Lo, vI a4.Hi]]) 175 [(175, rdl anyF 1 p_a2 c_a2 L_a2 enSl), (176, dnK anyF E_S_TInterval.toPart L_a2), (177, rdl anyF 2 p_a3 c_a3 a3 en_TInterval), (999999, gk)] (by
  intro x hx
  simp only [List.mem_cons, List.not_mem_nil, or_false] at hx
  rcases hx with rfl | rfl | rfl | rfl
  ·exact rdF_fact (rdF_of hB.1) (fun _ _ => trivial) (by decide) _
  ·exact dn_fact (dn_of hB.2.1) (fun _ _ => trivial) _
  ·exact rdF_fact (rdF_of hB.2.2.1) (fun _ _ => trivial) (by decide) _
  ·exact ⟨⟨_, _, rfl⟩, hB.2.2.2.1, glob_in (glob_of hB.2.2.2.1)⟩) Tryz.func135 rfl (by kernel_rfl) (by kernel_rfl) fun a H => ?_
 unfold api_Interval_next_m at G
 refine k_srk mixed H (.cons [5, 178] (ok_new (fun b => vP b 0) (fun u1 => [.func (.func 130) #[] #[], .func (.func 110) #[] #[], .func (.func 90) #[] #[], .func (.func 92) #[] #[], .func (.func 127) #[] #[], .func (.func 91) #[] #[], .func (.func 131) #[] #[], .func (.func 132) #[] #[], .func (.func 133) #[] #[]]) 215 5 178) <|
 .cons [6, 179] (ok_new (fun b => vP b 0) (fun u1 => [vI a1.Op, vI a1.A, vI a1.B, vI a1.C.Lo, vI a1.C.Hi]) 110 6 179) <|
 .cons [9, 180] (ok_new (fun b => vP b 0) (fun u1 => [vI a4.Lo, vI a4.Hi]) 46 9 180) <|
 .cons [10, 181] (ok_new (fun b => vP b 0) (fun u1 => [vI 0, vI 0]) 46 10 181) <| .nil) [2, 3, 5, 6, 9, 10, 175, 176, 177, 178, 179, 180, 181, 999999] fun u1 a w' H => ?_
 refine k_srk mixed H (.v 13 (.slice p_a3 a3.length c_a3) <|
 .v 14 (vI (a3.length : Int)) <|
 .v 11 (vI (a3.length : Int)) <| .nil) [2, 3, 5, 6, 9, 10, 11, 175, 176, 177, 178, 179, 180, 181, 999999] fun u2 a w' H => ?_
 refine k_seq ?_
 refine k_srk mixed H (.v 15 (vP ((u1 1).n 0) 0) <|
 .cons [16] (ok_ldc (vI a1.Op) 16 179 0 1 ((u1 1).n 0) [vI a1.Op, vI a1.A, vI a1.B, vI a1.C.Lo, vI a1.C.Hi] 110) <| .nil) [2, 3, 5, 6, 9, 10, 11, 16, 175, 176, 177, 178, 179, 180, 181, 999999] fun u3 a w' H => ?_
 refine k_block ?_
 refine k_srk mixed H (.v 18 (.bool (a1.Op == 4)) <|
 .v 17 (.bool (a1.Op == 4)) <| .nil) [2, 3, 5, 6, 9, 10, 11, 16, 17, 175, 176, 177, 178, 179, 180, 181, 999999] fun u4 a w' H => ?_
 refine k_cnd H (a1.Op == 4) (fun c5 => ?_) fun c5 => ?_
 ·rw [if_pos c5] at G
  cases G
 ·rw [if_neg (nt c5)] at G
  refine k_srk mixed H (.v 31 (.bool (a1.Op == 7)) <|
 .v 30 (.bool (a1.Op == 7)) <| .nil) [2, 3, 5, 6, 9, 10, 11, 16, 30, 175, 176, 177, 178, 179, 180, 181, 999999] fun u6 a w' H => ?_
  refine k_cnd H (a1.Op == 7) (fun c7 => ?_) fun c7 => ?_
  ·rw [if_pos c7] at G
   cases G
  ·rw [if_neg (nt c7)] at G
   refine k_srk mixed H (.v 52 (.bool (a1.Op == 8)) <|
 .v 51 (.bool (a1.Op == 8)) <| .nil) [2, 3, 5, 6, 9, 10, 11, 16, 51, 175, 176, 177, 178, 179, 180, 181, 999999] fun u8 a w' H => ?_
   refine k_cnd H (a1.Op == 8) (fun c9 => ?_) fun c9 => ?_
   ·rw [if_pos c9] at G
    cases G
   ·rw [if_neg (nt c9)] at G
    refine k_srk mixed H (.v 73 (.bool (a1.Op == 9)) <|
 .v 72 (.bool (a1.Op == 9)) <| .nil) [2, 3, 5, 6, 9, 10, 11, 16, 72, 175, 176, 177, 178, 179, 180, 181, 999999] fun u10 a w' H => ?_
    refine k_cnd H (a1.Op == 9) (fun c11 => ?_) fun c11 => ?_
    ·rw [if_pos c11] at G
     cases G
    ·rw [if_neg (nt c11)] at G
     refine k_srk mixed H (.v 89 (.bool (a1.Op == 5)) <|
 .v 88 (.bool (a1.Op == 5)) <| .nil) [2, 3, 5, 6, 9, 10, 11, 16, 88, 175, 176, 177, 178, 179, 180, 181, 999999] fun u12 a w' H => ?_
     refine k_cnd H (a1.Op == 5) (fun c13 => ?_) fun c13 => ?_
     ·rw [if_pos c13] at G
      cases G
     ·rw [if_neg (nt c13)] at G
      refine k_srg mixed H (.v 117 (.bool (a1.Op == 10)) <|
 .v 116 (.bool (a1.Op == 10)) <| .nil) fun u14 a w' H => ?_
      replace H := H.toM [(2, sS p_a2 L_a2.length c_a2), (3, sS p_a3 a3.length c_a3), (5, (sP ((u1 0).n 0) 0)), (6, (sP ((u1 1).n 0) 0)), (9, (sP ((u1 2).n 0) 0)), (10, (sP ((u1 3).n 0) 0)), (11, (sI (a3.length : Int))), (16, sI a1.Op), (116, (sB (a1.Op == 10))), (175, rdl anyF 1 p_a2 c_a2 L_a2 enSl), (176, dnK anyF E_S_TInterval.toPart L_a2), (177, rdl anyF 2 p_a3 c_a3 a3 en_TInterval), (178, .blk ((u1 0).n 0) [.func (.func 130) #[] #[], .func (.func 110) #[] #[], .func (.func 90) #[] #[], .func (.func 92) #[] #[], .func (.func 127) #[] #[], .func (.func 91) #[] #[], .func (.func 131) #[] #[], .func (.func 132) #[] #[], .func (.func 133) #[] #[]] 215), (179, .blk ((u1 1).n 0) [vI a1.Op, vI a1.A, vI a1.B, vI a1.C.Lo, vI a1.C.Hi] 110), (180, .blk ((u1 2).n 0) [vI a4.Lo, vI a4.Hi] 46), (181, .blk ((u1 3).n 0) [vI 0, vI 0] 46), (999999, gk)]
      refine k_cnd H (a1.Op == 10) (fun c15 => ?_) fun c15 => ?_
      ·rw [if_pos c15] at G
       cases G
      ·rw [if_neg (nt c15)] at G
       refine k_srk mixed H (.v 133 (.bool (a1.Op == 6)) <|
 .v 132 (.bool (a1.Op == 6)) <| .nil) [2, 3, 5, 6, 9, 10, 11, 132, 175, 176, 177, 178, 179, 180, 181, 999999] fun u16 a w' H => ?_
       refine k_cnd H (a1.Op == 6) (fun c17 => ?_) fun c17 => ?_
       ·rw [if_pos c17] at G
        cases G
       ·rw [if_neg (nt c17)] at G
        refine k_skip ?_
        refine k_srk mixed H (.cons [12, 182] (ok_new (fun b => vP b 0) (fun u18 => [vI 0, vI 0]) 46 12 182) <| .nil) [5, 6, 9, 10, 11, 12, 178, 179, 180, 181, 182, 999999] fun u18 a w' H => ?_
        refine k_seq ?_
        obtain ⟨j21, hj21, G⟩ := bnd G
        refine k_join (fun a w' => RL w 175 [(5, (sP ((u1 0).n 0) 0)), (10, (sP ((u1 3).n 0) 0)), (12, (sP ((u18 0).n 0) 0)), (178, .blk ((u1 0).n 0) [.func (.func 130) #[] #[], .func (.func 110) #[] #[], .func (.func 90) #[] #[], .func (.func 92) #[] #[], .func (.func 127) #[] #[], .func (.func 91) #[] #[], .func (.func 131) #[] #[], .func (.func 132) #[] #[], .func (.func 133) #[] #[]] 215), (181, .blk ((u1 3).n 0) [vI 0, vI 0] 46), (182, .blk ((u18 0).n 0) [vI j21.1, vI j21.2] 46), (999999, gk)] a w') ?_ ?_
        ·clear H; intro a w' H
         obtain ⟨t23, ht23, G⟩ := bnd G
         refine k_srk mixed H (.v 171 (vP ((u1 0).n 0) 0) <|
 .cons [172] (ok_ldc (.func (.func 130) #[] #[]) 172 178 0 1 ((u1 0).n 0) [.func (.func 130) #[] #[], .func (.func 110) #[] #[], .func (.func 90) #[] #[], .func (.func 92) #[] #[], .func (.func 127) #[] #[], .func (.func 91) #[] #[], .func (.func 131) #[] #[], .func (.func 132) #[] #[], .func (.func 133) #[] #[]] 215) <|
 .cons [173] (ok_ldc (.agg #[vI j21.1, vI j21.2]) 173 182 0 2 ((u18 0).n 0) [vI j21.1, vI j21.2] 46) <|
 .cons [174] (ok_callv 130 _ _ 174 [] (fun u22 w _ => series_intervals_1.calls (⟨j21.1, j21.2⟩ : TInterval)  t23 w  ht23)) <|
 .cons [181] (ok_stc 181 0 ((u1 3).n 0) [vI 0, vI 0] [vI t23.Lo, vI t23.Hi] 46 [vI t23.Lo, vI t23.Hi]) <| .nil) [10, 181, 999999] fun u22 a w' H => ?_
         refine k_ret ?_
         obtain rfl := sj G
         exact k_done1 H _ 181 ((u1 3).n 0) [vI t23.Lo, vI t23.Hi] 46 0 2 (by kernel_rfl) (by kernel_rfl) (by kernel_rfl) (by kernel_rfl)
        ·clear G; replace G := hj21; clear hj21
         refine k_block ?_
         refine k_srk mixed H (.v 144 (vP ((u1 1).n 0) 0) <|
 .cons [145] (ok_ldc (vI a1.Op) 145 179 0 1 ((u1 1).n 0) [vI a1.Op, vI a1.A, vI a1.B, vI a1.C.Lo, vI a1.C.Hi] 110) <|
 .v 146 (.bool (a1.Op == 1)) <|
 .v 147 (.bool (a1.Op == 1)) <|
 .cons [148] (ok_valg (fun u24 => vI (a3.length : Int)) (fun u24 => ((a1.Op == 1) == true)) [true] 148) <|
 .cons [149] (ok_valg (fun u24 => .bool ((a3.length : Int) == 0)) (fun u24 => ((a1.Op == 1) == true)) [false, true] 149) <|
 .cons [150] (ok_and 147 149 (fun u24 => true) (fun u24 => true) (fun u24 => (a1.Op == 1)) (fun u24 => ((a3.length : Int) == 0)) 150) <|
 .v 143 (.bool ((a1.Op == 1) && ((a3.length : Int) == 0))) <| .nil) [5, 6, 9, 10, 11, 12, 143, 178, 179, 180, 181, 182, 999999] fun u24 a w' H => ?_
         refine k_cnd H ((a1.Op == 1) && ((a3.length : Int) == 0)) (fun c33 => ?_) fun c33 => ?_
         ·rw [if_pos c33] at G
          refine k_rk mixed H (.v 151 (vP ((u1 1).n 0) 3) <|
 .cons [152] (ok_ldc (.agg #[vI a1.C.Lo, vI a1.C.Hi]) 152 179 3 2 ((u1 1).n 0) [vI a1.Op, vI a1.A, vI a1.B, vI a1.C.Lo, vI a1.C.Hi] 110) <|
 .cons [182] (ok_stc 182 0 ((u18 0).n 0) [vI 0, vI 0] [vI a1.C.Lo, vI a1.C.Hi] 46 [vI a1.C.Lo, vI a1.C.Hi]) <| .nil) [5, 10, 12, 178, 181, 182, 999999] fun u25 a w' H => ?_
          obtain rfl := sj G
          exact H.toM _
         ·rw [if_neg (nt c33)] at G
          refine k_srk mixed H (.v 154 (vP ((u1 1).n 0) 0) <|
 .cons [155] (ok_ldc (vI a1.Op) 155 179 0 1 ((u1 1).n 0) [vI a1.Op, vI a1.A, vI a1.B, vI a1.C.Lo, vI a1.C.Hi] 110) <|
 .v 156 (.bool (a1.Op == 3)) <|
 .v 157 (.bool (a1.Op == 3)) <|
 .cons [158] (ok_valg (fun u26 => vI (a3.length : Int)) (fun u26 => ((a1.Op == 3) == true)) [true] 158) <|
 .cons [159] (ok_valg (fun u26 => .bool ((a3.length : Int) == 0)) (fun u26 => ((a1.Op == 3) == true)) [false, true] 159) <|
 .cons [160] (ok_and 157 159 (fun u26 => true) (fun u26 => true) (fun u26 => (a1.Op == 3)) (fun u26 => ((a3.length : Int) == 0)) 160) <|
 .v 153 (.bool ((a1.Op == 3) && ((a3.length : Int) == 0))) <| .nil) [5, 6, 9, 10, 11, 12, 153, 178, 179, 180, 181, 182, 999999] fun u26 a w' H => ?_
          refine k_cnd H ((a1.Op == 3) && ((a3.length : Int) == 0)) (fun c32 => ?_) fun c32 => ?_
          ·rw [if_pos c32] at G
           refine k_rk mixed H (.cons [161] (ok_ldc (.agg #[vI a4.Lo, vI a4.Hi]) 161 180 0 2 ((u1 2).n 0) [vI a4.Lo, vI a4.Hi] 46) <|
 .cons [182] (ok_stc 182 0 ((u18 0).n 0) [vI 0, vI 0] [vI a4.Lo, vI a4.Hi] 46 [vI a4.Lo, vI a4.Hi]) <| .nil) [5, 10, 12, 178, 181, 182, 999999] fun u27 a w' H => ?_
           obtain rfl := sj G
           exact H.toM _
          ·rw [if_neg (nt c32)] at G
           refine k_srk mixed H (.v 163 (vP ((u1 1).n 0) 0) <|
 .cons [164] (ok_ldc (vI a1.Op) 164 179 0 1 ((u1 1).n 0) [vI a1.Op, vI a1.A, vI a1.B, vI a1.C.Lo, vI a1.C.Hi] 110) <|
 .v 165 (.bool (a1.Op == 3)) <|
 .v 166 (.bool (a1.Op == 3)) <|
 .cons [167] (ok_valg (fun u28 => vI (a3.length : Int)) (fun u28 => ((a1.Op == 3) == true)) [true] 167) <|
 .cons [168] (ok_valg (fun u28 => .bool ((a3.length : Int) == 1)) (fun u28 => ((a1.Op == 3) == true)) [false, true] 168) <|
 .cons [169] (ok_and 166 168 (fun u28 => true) (fun u28 => true) (fun u28 => (a1.Op == 3)) (fun u28 => ((a3.length : Int) == 1)) 169) <|
 .v 162 (.bool ((a1.Op == 3) && ((a3.length : Int) == 1))) <| .nil) [5, 10, 12, 162, 178, 181, 182, 999999] fun u28 a w' H => ?_
           refine k_cnd H ((a1.Op == 3) && ((a3.length : Int) == 1)) (fun c31 => ?_) fun c31 => ?_
           ·rw [if_pos c31] at G
            obtain ⟨t30, ht30, G⟩ := bnd G
            refine k_rk mixed H (.cons [170] (ok_callv 142 _ _ 170 [] (fun u29 w _ => series_unit.calls   t30 w  ht30)) <|
 .cons [182] (ok_stc 182 0 ((u18 0).n 0) [vI 0, vI 0] [vI t30.Lo, vI t30.Hi] 46 [vI t30.Lo, vI t30.Hi]) <| .nil) [5, 10, 12, 178, 181, 182, 999999] fun u29 a w' H => ?_
            obtain rfl := sj G
            exact H.toM _
           ·rw [if_neg (nt c31)] at G
            refine k_skip ?_
            obtain rfl := sj G
            exact H.toM _
end Go.Proofs.YtpmgpcklieincaaGreatDoor
