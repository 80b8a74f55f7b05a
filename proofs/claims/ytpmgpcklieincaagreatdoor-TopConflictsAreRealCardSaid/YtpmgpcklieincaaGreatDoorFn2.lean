/- Each function of the program answers as the plain Lean function of its name (part 2). Printed by a program of this session. -/
import Derived.Test.YtpmgpcklieincaaGreatDoorFn1
set_option linter.unusedVariables false
set_option linter.unusedSimpArgs false
set_option maxRecDepth 100000
set_option maxHeartbeats 4000000
namespace Go.Proofs.YtpmgpcklieincaaGreatDoor
open Go Go.RowKit Go.Sx Go.Proofs
theorem api_Interval_expand_m.calls (k0 : Nat) (a1 : TTape) (a2 : List TInterval) (a3 : TInterval) (a4 : Int) (p_a1_L : Option Addr) (c_a1_L : Nat) (p_a1_Out : Option Addr) (c_a1_Out : Nat) (p_a2 : Option Addr) (c_a2 : Nat) (r : List (List TInterval)) (w : World) (hB : AllH [rdl anyF 5 p_a1_L c_a1_L a1.L en_TInstruction, rdl anyF 1 p_a1_Out c_a1_Out a1.Out en_i64, rdl anyF 2 p_a2 c_a2 a2 en_TInterval, gk] w) (G : api_Interval_expand_m k0 a1 a2 a3 a4 = some r) :
  Calls Tryz.prog 121 #[.agg #[.func (.func 130) #[] #[], .func (.func 110) #[] #[], .func (.func 90) #[] #[], .func (.func 92) #[] #[], .func (.func 127) #[] #[], .func (.func 91) #[] #[], .func (.func 131) #[] #[], .func (.func 132) #[] #[], .func (.func 133) #[] #[]], .agg #[vI a1.N, .slice p_a1_L a1.L.length c_a1_L, .slice p_a1_Out a1.Out.length c_a1_Out], .slice p_a2 a2.length c_a2, .agg #[vI a3.Lo, vI a3.Hi], vI a4] w fun e w' => ∃ g : Gh, e = .returned (slgd_S_TInterval g 0 r) ∧ But (fpK []) w w' ∧ OutOK w.heap.size (fpK []) (frI w.heap.size []) [fun _ => ns_en_TIntervalg g 0 r] w' := by
 obtain ⟨fr, hfr, hBf⟩ := frs w []
 refine k_enterF (args := [.agg #[.func (.func 130) #[] #[], .func (.func 110) #[] #[], .func (.func 90) #[] #[], .func (.func 92) #[] #[], .func (.func 127) #[] #[], .func (.func 91) #[] #[], .func (.func 131) #[] #[], .func (.func 132) #[] #[], .func (.func 133) #[] #[]], .agg #[vI a1.N, .slice p_a1_L a1.L.length c_a1_L, .slice p_a1_Out a1.Out.length c_a1_Out], .slice p_a2 a2.length c_a2, .agg #[vI a3.Lo, vI a3.Hi], vI a4]) 123 [(123, rdl anyF 5 p_a1_L c_a1_L a1.L en_TInstruction), (124, rdl anyF 1 p_a1_Out c_a1_Out a1.Out en_i64), (125, rdl anyF 2 p_a2 c_a2 a2 en_TInterval), (999999, gk)] (by
  intro x hx
  simp only [List.mem_cons, List.not_mem_nil, or_false] at hx
  rcases hx with rfl | rfl | rfl | rfl
  ·exact rdF_fact (rdF_of hB.1) (fun _ _ => trivial) (by decide) _
  ·exact rdF_fact (rdF_of hB.2.1) (fun _ _ => trivial) (by decide) _
  ·exact rdF_fact (rdF_of hB.2.2.1) (fun _ _ => trivial) (by decide) _
  ·exact ⟨⟨_, _, rfl⟩, hB.2.2.2.1, glob_in (glob_of hB.2.2.2.1)⟩) Tryz.func121 rfl (by kernel_rfl) (by kernel_rfl) fun a H => ?_
 unfold api_Interval_expand_m at G
 refine k_srk mixed H (.cons [5, 126] (ok_new (fun b => vP b 0) (fun u1 => [.func (.func 130) #[] #[], .func (.func 110) #[] #[], .func (.func 90) #[] #[], .func (.func 92) #[] #[], .func (.func 127) #[] #[], .func (.func 91) #[] #[], .func (.func 131) #[] #[], .func (.func 132) #[] #[], .func (.func 133) #[] #[]]) 215 5 126) <|
 .cons [6, 127] (ok_new (fun b => vP b 0) (fun u1 => [vI a1.N, .slice p_a1_L a1.L.length c_a1_L, .slice p_a1_Out a1.Out.length c_a1_Out]) 38 6 127) <|
 .cons [8, 128] (ok_new (fun b => vP b 0) (fun u1 => [vI a3.Lo, vI a3.Hi]) 46 8 128) <|
 .v 10 (.slice none 0 0) <| .nil) [2, 4, 5, 6, 8, 123, 124, 125, 126, 127, 128, 999999] fun u1 a w' H => ?_
 refine k_seq ?_
 replace G := gd G; obtain ⟨b3, G⟩ := G
 replace G := gd G; obtain ⟨b4, G⟩ := G
 refine k_rk mixed H (.v 19 (vP ((u1 1).n 0) 0) <|
 .cons [20] (ok_ldc (vI a1.N) 20 127 0 1 ((u1 1).n 0) [vI a1.N, .slice p_a1_L a1.L.length c_a1_L, .slice p_a1_Out a1.Out.length c_a1_Out] 38) <|
 .cons [21, 129] (ok_nest0 46 2 en_TInterval (ok_rowL [] (fun u2 => []) 48 1 (List.replicate a1.N.toNat (⟨none, 0, []⟩ : Sl TInterval)).length ((List.replicate a1.N.toNat (⟨none, 0, []⟩ : Sl TInterval)).flatMap enSl) 21 129 (fun _ => .none) (fun u2 w hF => run_make_row (t := 195) (k := .i64) (m := a1.N) (en := enSl) (z := (⟨none, 0, []⟩ : Sl TInterval)) enSl_len inf48 rfl b3 (by kernel_rfl)) (fun _ => .inl rfl)) repl_nil) <|
 .v 22 (vP ((u1 1).n 0) 1) <|
 .cons [23] (ok_ldc (.slice p_a1_L a1.L.length c_a1_L) 23 127 1 1 ((u1 1).n 0) [vI a1.N, .slice p_a1_L a1.L.length c_a1_L, .slice p_a1_Out a1.Out.length c_a1_Out] 38) <|
 .v 24 (vI (a1.L.length : Int)) <|
 .cons [25, 130] (ok_nest0 46 2 en_TInterval (ok_rowL [] (fun u2 => []) 48 1 (List.replicate (a1.L.length : Int).toNat (⟨none, 0, []⟩ : Sl TInterval)).length ((List.replicate (a1.L.length : Int).toNat (⟨none, 0, []⟩ : Sl TInterval)).flatMap enSl) 25 130 (fun _ => .none) (fun u2 w hF => run_make_row (t := 195) (k := .i64) (m := (a1.L.length : Int)) (en := enSl) (z := (⟨none, 0, []⟩ : Sl TInterval)) enSl_len inf48 rfl b4 (by kernel_rfl)) (fun _ => .inl rfl)) repl_nil) <|
 .cons [11] (ok_val (fun u2 => .slice ((u2 2).o 0) ((List.replicate a1.N.toNat (⟨none, 0, []⟩ : Sl TInterval)).length) ((u2 2).n 0)) 11) <|
 .cons [12] (ok_val (fun u2 => .slice ((u2 6).o 0) ((List.replicate (a1.L.length : Int).toNat (⟨none, 0, []⟩ : Sl TInterval)).length) ((u2 6).n 0)) 12) <| .nil) [2, 4, 5, 6, 8, 11, 12, 123, 124, 125, 126, 127, 128, 129, 130, 999999] fun u2 a w' H => ?_
 refine k_seq ?_
 obtain ⟨j6, hj6, G⟩ := bnd G
 refine k_join (fun a w' => ∃ (p_j5 : Option Addr) (c_j5 np_j5 : Nat) (L_j5 : List (Sl TInterval)), np_j5 = L_j5.length ∧ j6 = L_j5.map Sl.l ∧ RL w 123 [(4, sI a4), (5, (sP ((u1 0).n 0) 0)), (6, (sP ((u1 1).n 0) 0)), (8, (sP ((u1 2).n 0) 0)), (11, sS p_j5 np_j5 c_j5), (12, (sS ((u2 6).o 0) ((List.replicate (a1.L.length : Int).toNat (⟨none, 0, []⟩ : Sl TInterval)).length) ((u2 6).n 0))), (123, rdl anyF 5 p_a1_L c_a1_L a1.L en_TInstruction), (124, rdl anyF 1 p_a1_Out c_a1_Out a1.Out en_i64), (126, .blk ((u1 0).n 0) [.func (.func 130) #[] #[], .func (.func 110) #[] #[], .func (.func 90) #[] #[], .func (.func 92) #[] #[], .func (.func 127) #[] #[], .func (.func 91) #[] #[], .func (.func 131) #[] #[], .func (.func 132) #[] #[], .func (.func 133) #[] #[]] 215), (127, .blk ((u1 1).n 0) [vI a1.N, .slice p_a1_L a1.L.length c_a1_L, .slice p_a1_Out a1.Out.length c_a1_Out] 38), (128, .blk ((u1 2).n 0) [vI a3.Lo, vI a3.Hi] 46), (130, ns_en_TIntervall ((u2 6).o 0) ((u2 6).n 0) (List.replicate (a1.L.length : Int).toNat (⟨none, 0, []⟩ : Sl TInterval))), (900015, ns_en_TInterval p_j5 np_j5 c_j5 L_j5), (999999, gk)] a w') ?_ ?_
 ·clear H; rintro a w' ⟨p_j5, c_j5, _, L_j5, rfl, h_j5, H⟩
  refine k_seq ?_
  obtain ⟨j8, hj8, G⟩ := bnd G
  refine k_join (fun a w' => ∃ (p_j7 : Option Addr) (c_j7 np_j7 : Nat) (L_j7 : List (Sl TInterval)), np_j7 = L_j7.length ∧ j8 = L_j7.map Sl.l ∧ RL w 123 [(11, sS p_j7 np_j7 c_j7), (900017, ns_en_TInterval p_j7 np_j7 c_j7 L_j7), (999999, gk)] a w') ?_ ?_
  ·clear H; rintro a w' ⟨p_j7, c_j7, _, L_j7, rfl, h_j7, H⟩
   refine k_srk mixed H (.v 122 (.slice p_j7 L_j7.length c_j7) <|
 .v 10 (.slice p_j7 L_j7.length c_j7) <| .nil) [10, 900017, 999999] fun u9 a w' H => ?_
   refine k_ret ?_
   obtain rfl := sj G
   obtain ⟨g, o0, n0, d0⟩ := gh_d gd_S_TInterval p_j7 c_j7 h_j7
   refine k_doneZ H _ g _ _ _ fr [900017] [] (.slice p_j7 L_j7.length c_j7) [fun _ => ns_en_TIntervall p_j7 c_j7 L_j7] (by simp only [slgd_S_TInterval, dlgd_S_TInterval, ns_en_TIntervalg, ns_en_TIntervall, ns_en_TInterval, owl, o0, n0, d0]) (by simp only [slgd_S_TInterval, dlgd_S_TInterval, ns_en_TIntervalg, ns_en_TIntervall, ns_en_TInterval, owl, o0, n0, d0]) hfr (.inl ⟨rfl, rfl⟩) (fams_cons fam_ns fams_nil) (by simp)
  ·clear G; replace G := hj8; clear hj8
   refine k_srk mixed H (.v 40 (vI a4) <|
 .v 41 (vI 0) <| .nil) [5, 6, 8, 11, 12, 40, 41, 123, 124, 126, 127, 128, 130, 900015, 999999] fun u10 a w' H => ?_
   refine k_block ?_
   replace H := H.move (K := ns_en_TIntervall p_j5 c_j5 L_j5) 900015 900019 (by kernel_rfl) (by intro _ _ h; cases h)
   replace H := H.move (K := ns_en_TIntervall ((u2 6).o 0) ((u2 6).n 0) (List.replicate (a1.L.length : Int).toNat (⟨none, 0, []⟩ : Sl TInterval))) 130 900021 (by kernel_rfl) (by intro _ _ h; cases h)
   refine k_loopJ (fun m a w' => ∃ x11 : List (List TInterval), ∃ x12 : List (List TInterval), ∃ x13 : Int, api_Interval_expand_m.l14 k0 a1 a2 a3 a4 j6 m x11 x12 x13 = some j8 ∧ ∃ (p_x11 : Option Addr) (c_x11 np_x11 : Nat) (L_x11 : List (Sl TInterval)), np_x11 = L_x11.length ∧ x11 = L_x11.map Sl.l ∧ ∃ (p_x12 : Option Addr) (c_x12 np_x12 : Nat) (L_x12 : List (Sl TInterval)), np_x12 = L_x12.length ∧ x12 = L_x12.map Sl.l ∧ RL w 123 [(5, (sP ((u1 0).n 0) 0)), (6, (sP ((u1 1).n 0) 0)), (8, (sP ((u1 2).n 0) 0)), (11, sS p_x11 np_x11 c_x11), (12, sS p_x12 np_x12 c_x12), (40, sI a4), (41, sI x13), (123, rdl anyF 5 p_a1_L c_a1_L a1.L en_TInstruction), (124, rdl anyF 1 p_a1_Out c_a1_Out a1.Out en_i64), (126, .blk ((u1 0).n 0) [.func (.func 130) #[] #[], .func (.func 110) #[] #[], .func (.func 90) #[] #[], .func (.func 92) #[] #[], .func (.func 127) #[] #[], .func (.func 91) #[] #[], .func (.func 131) #[] #[], .func (.func 132) #[] #[], .func (.func 133) #[] #[]] 215), (127, .blk ((u1 1).n 0) [vI a1.N, .slice p_a1_L a1.L.length c_a1_L, .slice p_a1_Out a1.Out.length c_a1_Out] 38), (128, .blk ((u1 2).n 0) [vI a3.Lo, vI a3.Hi] 46), (900019, ns_en_TInterval p_x11 np_x11 c_x11 L_x11), (900021, ns_en_TInterval p_x12 np_x12 c_x12 L_x12), (999999, gk)] a w') k0 ⟨_, _, _, G, p_j5, c_j5, L_j5.length, L_j5, rfl, h_j5, ((u2 6).o 0), ((u2 6).n 0), (List.replicate (a1.L.length : Int).toNat (⟨none, 0, []⟩ : Sl TInterval)).length, (List.replicate (a1.L.length : Int).toNat (⟨none, 0, []⟩ : Sl TInterval)), rfl, (map_repl (er := Sl.l) (a1.L.length : Int).toNat (⟨none, 0, []⟩ : Sl TInterval)), H.toM _⟩ ?_
   clear G H
   rintro (_ | k) a w' ⟨x11, x12, x13, G, p_x11, c_x11, _, L_x11, rfl, h_x11, p_x12, c_x12, _, L_x12, rfl, h_x12, H⟩
   ·exact absurd G (by unfold api_Interval_expand_m.l14; exact fun h => by cases h)
   ·unfold api_Interval_expand_m.l14 at G
    refine k_srk mixed H (.v 42 (.bool (decide (x13 < a4))) <| .nil) [5, 6, 8, 11, 12, 40, 41, 42, 123, 124, 126, 127, 128, 900019, 900021, 999999] fun u15 a w' H => ?_
    refine k_seq ?_
    refine k_cnd H (decide (x13 < a4)) (fun c69 => ?_) fun c69 => ?_
    ·rw [if_pos c69] at G
     refine k_skip ?_
     refine k_seq ?_
     obtain ⟨j18, hj18, G⟩ := bnd G
     refine k_join (fun a w' => ∃ (p_j16 : Option Addr) (c_j16 np_j16 : Nat) (L_j16 : List (Sl TInterval)), np_j16 = L_j16.length ∧ j18.1 = L_j16.map Sl.l ∧ ∃ (p_j17 : Option Addr) (c_j17 np_j17 : Nat) (L_j17 : List (Sl TInterval)), np_j17 = L_j17.length ∧ j18.2 = L_j17.map Sl.l ∧ RL w 123 [(5, (sP ((u1 0).n 0) 0)), (6, (sP ((u1 1).n 0) 0)), (8, (sP ((u1 2).n 0) 0)), (11, sS p_j16 np_j16 c_j16), (12, sS p_j17 np_j17 c_j17), (40, sI a4), (41, sI x13), (123, rdl anyF 5 p_a1_L c_a1_L a1.L en_TInstruction), (124, rdl anyF 1 p_a1_Out c_a1_Out a1.Out en_i64), (126, .blk ((u1 0).n 0) [.func (.func 130) #[] #[], .func (.func 110) #[] #[], .func (.func 90) #[] #[], .func (.func 92) #[] #[], .func (.func 127) #[] #[], .func (.func 91) #[] #[], .func (.func 131) #[] #[], .func (.func 132) #[] #[], .func (.func 133) #[] #[]] 215), (127, .blk ((u1 1).n 0) [vI a1.N, .slice p_a1_L a1.L.length c_a1_L, .slice p_a1_Out a1.Out.length c_a1_Out] 38), (128, .blk ((u1 2).n 0) [vI a3.Lo, vI a3.Hi] 46), (900023, ns_en_TInterval p_j16 np_j16 c_j16 L_j16), (900025, ns_en_TInterval p_j17 np_j17 c_j17 L_j17), (999999, gk)] a w') ?_ ?_
     ·clear H; rintro a w' ⟨p_j16, c_j16, _, L_j16, rfl, h_j16, p_j17, c_j17, _, L_j17, rfl, h_j17, H⟩
      refine k_rk mixed H (.v 121 (vI (w_i64 (x13 + 1))) <|
 .v 41 (vI (w_i64 (x13 + 1))) <| .nil) [5, 6, 8, 11, 12, 40, 41, 123, 124, 126, 127, 128, 900023, 900025, 999999] fun u19 a w' H => ?_
      replace H := H.move (K := ns_en_TIntervall p_j16 c_j16 L_j16) 900023 900019 (by kernel_rfl) (by intro _ _ h; cases h)
      replace H := H.move (K := ns_en_TIntervall p_j17 c_j17 L_j17) 900025 900021 (by kernel_rfl) (by intro _ _ h; cases h)
      exact ⟨k, Nat.lt_succ_self k, _, _, _, G, p_j16, c_j16, L_j16.length, L_j16, rfl, h_j16, p_j17, c_j17, L_j17.length, L_j17, rfl, h_j17, H.toM _⟩
     ·clear G; replace G := hj18; clear hj18
      refine k_block ?_
      refine k_srk mixed H (.v 43 (vI x13) <|
 .v 14 (vI x13) <| .nil) [5, 6, 8, 11, 12, 14, 40, 41, 123, 124, 126, 127, 128, 900019, 900021, 999999] fun u20 a w' H => ?_
      refine k_seq ?_
      obtain ⟨j22, hj22, G⟩ := bnd G
      refine k_join (fun a w' => ∃ (p_j21 : Option Addr) (c_j21 np_j21 : Nat) (L_j21 : List (Sl TInterval)), np_j21 = L_j21.length ∧ j22 = L_j21.map Sl.l ∧ RL w 123 [(5, (sP ((u1 0).n 0) 0)), (6, (sP ((u1 1).n 0) 0)), (8, (sP ((u1 2).n 0) 0)), (11, sS p_x11 L_x11.length c_x11), (12, sS p_j21 np_j21 c_j21), (14, sI x13), (40, sI a4), (41, sI x13), (123, rdl anyF 5 p_a1_L c_a1_L a1.L en_TInstruction), (124, rdl anyF 1 p_a1_Out c_a1_Out a1.Out en_i64), (126, .blk ((u1 0).n 0) [.func (.func 130) #[] #[], .func (.func 110) #[] #[], .func (.func 90) #[] #[], .func (.func 92) #[] #[], .func (.func 127) #[] #[], .func (.func 91) #[] #[], .func (.func 131) #[] #[], .func (.func 132) #[] #[], .func (.func 133) #[] #[]] 215), (127, .blk ((u1 1).n 0) [vI a1.N, .slice p_a1_L a1.L.length c_a1_L, .slice p_a1_Out a1.Out.length c_a1_Out] 38), (128, .blk ((u1 2).n 0) [vI a3.Lo, vI a3.Hi] 46), (900019, ns_en_TIntervall p_x11 c_x11 L_x11), (900027, ns_en_TInterval p_j21 np_j21 c_j21 L_j21), (999999, gk)] a w') ?_ ?_
      ·clear H; rintro a w' ⟨p_j21, c_j21, _, L_j21, rfl, h_j21, H⟩
       refine k_srk mixed H (.v 91 (vP ((u1 1).n 0) 2) <|
 .cons [92] (ok_ldc (.slice p_a1_Out a1.Out.length c_a1_Out) 92 127 2 1 ((u1 1).n 0) [vI a1.N, .slice p_a1_L a1.L.length c_a1_L, .slice p_a1_Out a1.Out.length c_a1_Out] 38) <|
 .v 93 (vI (a1.Out.length : Int)) <|
 .v 94 (vI 0) <| .nil) [5, 6, 8, 11, 12, 14, 40, 41, 92, 93, 94, 123, 124, 126, 127, 128, 900019, 900027, 999999] fun u23 a w' H => ?_
       refine k_block ?_
       replace H := H.move (K := ns_en_TIntervall p_x11 c_x11 L_x11) 900019 900029 (by kernel_rfl) (by intro _ _ h; cases h)
       refine k_loopJ (fun m a w' => ∃ x24 : List (List TInterval), ∃ x25 : Int, api_Interval_expand_m.l26 k0 a1 a2 a3 a4 j6 x11 x12 x13 j22 m x24 x25 = some j18 ∧ ∃ (p_x24 : Option Addr) (c_x24 np_x24 : Nat) (L_x24 : List (Sl TInterval)), np_x24 = L_x24.length ∧ x24 = L_x24.map Sl.l ∧ RL w 123 [(5, (sP ((u1 0).n 0) 0)), (6, (sP ((u1 1).n 0) 0)), (8, (sP ((u1 2).n 0) 0)), (11, sS p_x24 np_x24 c_x24), (12, sS p_j21 L_j21.length c_j21), (14, sI x13), (40, sI a4), (41, sI x13), (92, sS p_a1_Out a1.Out.length c_a1_Out), (93, (sI (a1.Out.length : Int))), (94, sI x25), (123, rdl anyF 5 p_a1_L c_a1_L a1.L en_TInstruction), (124, rdl anyF 1 p_a1_Out c_a1_Out a1.Out en_i64), (126, .blk ((u1 0).n 0) [.func (.func 130) #[] #[], .func (.func 110) #[] #[], .func (.func 90) #[] #[], .func (.func 92) #[] #[], .func (.func 127) #[] #[], .func (.func 91) #[] #[], .func (.func 131) #[] #[], .func (.func 132) #[] #[], .func (.func 133) #[] #[]] 215), (127, .blk ((u1 1).n 0) [vI a1.N, .slice p_a1_L a1.L.length c_a1_L, .slice p_a1_Out a1.Out.length c_a1_Out] 38), (128, .blk ((u1 2).n 0) [vI a3.Lo, vI a3.Hi] 46), (900027, ns_en_TIntervall p_j21 c_j21 L_j21), (900029, ns_en_TInterval p_x24 np_x24 c_x24 L_x24), (999999, gk)] a w') k0 ⟨_, _, G, p_x11, c_x11, L_x11.length, L_x11, rfl, h_x11, H.toM _⟩ ?_
       clear G H
       rintro (_ | k) a w' ⟨x24, x25, G, p_x24, c_x24, _, L_x24, rfl, h_x24, H⟩
       ·exact absurd G (by unfold api_Interval_expand_m.l26; exact fun h => by cases h)
       ·unfold api_Interval_expand_m.l26 at G
        refine k_srk mixed H (.v 95 (.bool (decide (x25 < (a1.Out.length : Int)))) <| .nil) [5, 6, 8, 11, 12, 14, 40, 41, 92, 93, 94, 95, 123, 124, 126, 127, 128, 900027, 900029, 999999] fun u27 a w' H => ?_
        refine k_seq ?_
        refine k_cnd H (decide (x25 < (a1.Out.length : Int))) (fun c46 => ?_) fun c46 => ?_
        ·rw [if_pos c46] at G
         refine k_skip ?_
         refine k_seq ?_
         refine k_block ?_
         refine k_seq ?_
         replace G := gd G; obtain ⟨b29, G⟩ := G
         obtain ⟨t30, ht30, G⟩ := bnd G
         refine k_rk mixed H (.v 96 (vI x25) <|
 .cons [97] (ok_v1 124 (rdl anyF 1 p_a1_Out c_a1_Out a1.Out en_i64) (.pointer (some ⟨hdB p_a1_Out, hdO p_a1_Out + x25.toNat * 1, none⟩)) 97 fun _ w h => ixr 36 .i64 x25 p_a1_Out a1.Out.length c_a1_Out a1.Out en_i64 (rdF_of h).2 en_i64_len rfl b29) <|
 .cons [98] (ok_v1 124 (rdl anyF 1 p_a1_Out c_a1_Out a1.Out en_i64) (vI t30) 98 fun _ w h => ldr en_i64 (rdF_of h).2 en_i64_len ht30 0 1 [vI t30]) <|
 .v 17 (vI x25) <|
 .v 18 (vI t30) <| .nil) [5, 6, 8, 11, 12, 14, 17, 18, 40, 41, 92, 93, 94, 123, 124, 126, 127, 128, 900027, 900029, 999999] fun u28 a w' H => ?_
         replace G := gd G; obtain ⟨b32, G⟩ := G
         obtain ⟨t33, ht33, G⟩ := bnd G
         obtain ⟨p_t33, c_t33, y_t33⟩ := sl_get h_x24 ht33
         have P34 := ptr_of (en := enSl) (l := L_x24) (ns_of (H.at (K := ns_en_TIntervall p_x24 c_x24 L_x24) 900029 (by kernel_rfl))).row.2 enSl_len
         replace G := gd G; obtain ⟨b35, G⟩ := G
         obtain ⟨t36, ht36, G⟩ := bnd G
         obtain ⟨p_t36, c_t36, y_t36⟩ := sl_get h_j21 ht36
         have P37 := ptr_of (en := enSl) (l := L_j21) (ns_of (H.at (K := ns_en_TIntervall p_j21 c_j21 L_j21) 900027 (by kernel_rfl))).row.2 enSl_len
         replace G := gd G; obtain ⟨b38, G⟩ := G
         obtain ⟨t39, ht39, G⟩ := bnd G
         have P40 := ptr_of (en := en_TInterval) (l := t36) ((ns_of (H.at (K := ns_en_TIntervall p_j21 c_j21 L_j21) 900027 (by kernel_rfl))).one y_t36).2 en_TInterval_len
         obtain ⟨t41, ht41, G⟩ := bnd G
         replace G := gd G; obtain ⟨b42, G⟩ := G
         replace G := gd G; obtain ⟨b43, G⟩ := G
         obtain ⟨t44, ht44, G⟩ := bnd G
         obtain ⟨p_t44, c_t44, y_t44⟩ := sl_get h_x24 ht44
         refine k_rk mixed H (.v 99 (.slice p_x24 L_x24.length c_x24) <|
 .v 100 (vI x25) <|
 .v 101 (.slice p_x24 L_x24.length c_x24) <|
 .v 102 (vI x25) <|
 .cons [103] (ok_val (fun u31 => .pointer (some ⟨hdB p_x24, hdO p_x24 + x25.toNat * 1, none⟩)) 103 (hv := fun _ _ => ix_pure (t := 195) (k := .i64) (i := x25) (p := p_x24) (n := L_x24.length) (cap := c_x24) (x := x24) P34 (map_len h_x24) b32 (by kernel_rfl))) <|
 .cons [104] (ok_v1 900029 (ns_en_TIntervall p_x24 c_x24 L_x24) (.slice p_t33 t33.length c_t33) 104 fun _ w h => ldr enSl (ns_of h).row.2 enSl_len y_t33 0 1 [.slice p_t33 t33.length c_t33]) <|
 .v 105 (vP ((u1 0).n 0) 8) <|
 .cons [106] (ok_ldc (.func (.func 133) #[] #[]) 106 126 8 1 ((u1 0).n 0) [.func (.func 130) #[] #[], .func (.func 110) #[] #[], .func (.func 90) #[] #[], .func (.func 92) #[] #[], .func (.func 127) #[] #[], .func (.func 91) #[] #[], .func (.func 131) #[] #[], .func (.func 132) #[] #[], .func (.func 133) #[] #[]] 215) <|
 .v 107 (.slice p_j21 L_j21.length c_j21) <|
 .v 108 (vI t30) <|
 .cons [109] (ok_val (fun u31 => .pointer (some ⟨hdB p_j21, hdO p_j21 + t30.toNat * 1, none⟩)) 109 (hv := fun _ _ => ix_pure (t := 195) (k := .i64) (i := t30) (p := p_j21) (n := L_j21.length) (cap := c_j21) (x := j22) P37 (map_len h_j21) b35 (by kernel_rfl))) <|
 .cons [110] (ok_v1 900027 (ns_en_TIntervall p_j21 c_j21 L_j21) (.slice p_t36 t36.length c_t36) 110 fun _ w h => ldr enSl (ns_of h).row.2 enSl_len y_t36 0 1 [.slice p_t36 t36.length c_t36]) <|
 .v 111 (vI x13) <|
 .cons [112] (ok_val (fun u31 => .pointer (some ⟨hdB p_t36, hdO p_t36 + x13.toNat * 2, none⟩)) 112 (hv := fun _ _ => ix_pure (t := 48) (k := .i64) (i := x13) (p := p_t36) (n := t36.length) (cap := c_t36) (x := t36) P40 rfl b38 (by kernel_rfl))) <|
 .cons [113] (ok_v1 900027 (ns_en_TIntervall p_j21 c_j21 L_j21) (.agg #[vI t39.Lo, vI t39.Hi]) 113 fun _ w h => ldr en_TInterval ((ns_of h).one y_t36).2 en_TInterval_len ht39 0 2 [vI t39.Lo, vI t39.Hi]) <|
 .v 114 (vI x13) <|
 .v 115 (vI (w_i64 (x13 + 1))) <|
 .cons [116] (ok_callv 133 _ _ 116 [] (fun u31 w _ => series_intervals_2.calls t39 (w_i64 (x13 + 1))  t41 w  ht41)) <|
 .cons [117, 135] (ok_new (fun b => .slice (some ⟨b, 0, none⟩) 1 1) (fun u31 => [vI t41.Lo, vI t41.Hi]) 46 117 135) <|
 .cons [118, 900029, 900029] (ok_own1 [18] [135] (fun u31 => [.blk ((u31 18).n 0) [vI t41.Lo, vI t41.Hi] 46]) 900029 (fun u31 => ns_en_TIntervall p_x24 c_x24 L_x24) (some 118) (fun u31 g => .slice (g.o 0) (t33 ++ [t41]).length (g.n 0)) (fun u31 g => nsK 48 46 2 en_TInterval p_x24 L_x24.length c_x24 L_x24 (L_x24.set x25.toNat (⟨(g.o 0), (g.n 0), (t33 ++ [t41])⟩ : Sl TInterval))) (fun u31 w hF hK => tn_app hK y_t33 (l' := (t33 ++ [t41])) (fun h => run_app_rowN (t := 48) (ty := 48) (en := en_TInterval) en_TInterval_len inf46 h hF.1 (news := [t41]) rfl (by simp) (by kernel_rfl) b42)) (hloc := fun u u' h => ⟨by first | rfl | simp only [h 18 (by decide)], by first | rfl | simp only [h 18 (by decide)], by first | rfl | simp only [h 18 (by decide)], by first | rfl | simp only [h 18 (by decide)]⟩)) <|
 .cons [119] (ok_val (fun u31 => .pointer (some ⟨hdB p_x24, hdO p_x24 + x25.toNat * 1, none⟩)) 119 (hv := fun _ _ => ix_pure (t := 195) (k := .i64) (i := x25) (p := p_x24) (n := L_x24.length) (cap := c_x24) (x := x24) P34 (map_len h_x24) b43 (by kernel_rfl))) <|
 .cons [900029, 900029] (ok_own1 [19] [] (fun u31 => []) 900029 (fun u31 => nsK 48 46 2 en_TInterval p_x24 L_x24.length c_x24 L_x24 (L_x24.set x25.toNat (⟨((u31 19).o 0), ((u31 19).n 0), (t33 ++ [t41])⟩ : Sl TInterval))) none (fun u31 g => .nilFunc) (fun u31 g => ns_en_TInterval p_x24 L_x24.length c_x24 (L_x24.set x25.toNat (⟨((u31 19).o 0), ((u31 19).n 0), (t33 ++ [t41])⟩ : Sl TInterval))) (fun u31 w hF hK => tn_hd hK (fun h => el_storeN (en := enSl) h enSl_len (y := (⟨((u31 19).o 0), ((u31 19).n 0), (t33 ++ [t41])⟩ : Sl TInterval)) (vs := [.slice ((u31 19).o 0) ((t33 ++ [t41]).length) ((u31 19).n 0)]) y_t44 0 (by simp) (by simp) rfl (by kernel_rfl))) (hloc := fun u u' h => ⟨by first | rfl | simp only [h 19 (by decide)], by first | rfl | simp only [h 19 (by decide)], by first | rfl | simp only [h 19 (by decide)], by first | rfl | simp only [h 19 (by decide)]⟩)) <| .nil) [5, 6, 8, 11, 12, 14, 40, 41, 92, 93, 94, 123, 124, 126, 127, 128, 900027, 900029, 999999] fun u31 a w' H => ?_
         refine k_rk mixed H (.v 120 (vI (w_i64 (x25 + 1))) <|
 .v 94 (vI (w_i64 (x25 + 1))) <| .nil) [5, 6, 8, 11, 12, 14, 40, 41, 92, 93, 94, 123, 124, 126, 127, 128, 900027, 900029, 999999] fun u45 a w' H => ?_
         exact ⟨k, Nat.lt_succ_self k, _, _, G, p_x24, c_x24, L_x24.length, (L_x24.set x25.toNat (⟨((u31 19).o 0), ((u31 19).n 0), (t33 ++ [t41])⟩ : Sl TInterval)), by simp, (map_set h_x24 x25.toNat (⟨((u31 19).o 0), ((u31 19).n 0), (t33 ++ [t41])⟩ : Sl TInterval)), H.toM _⟩
        ·rw [if_neg (nt c46)] at G
         refine k_exit rfl ?_
         obtain rfl := sj G
         replace H := H.move (K := ns_en_TIntervall p_x24 c_x24 L_x24) 900029 900023 (by kernel_rfl) (by intro _ _ h; cases h)
         replace H := H.move (K := ns_en_TIntervall p_j21 c_j21 L_j21) 900027 900025 (by kernel_rfl) (by intro _ _ h; cases h)
         exact ⟨p_x24, c_x24, L_x24.length, L_x24, rfl, h_x24, p_j21, c_j21, L_j21.length, L_j21, rfl, h_j21, H.toM _⟩
      ·clear G; replace G := hj22; clear hj22
       refine k_srk mixed H (.v 44 (vP ((u1 1).n 0) 1) <|
 .cons [45] (ok_ldc (.slice p_a1_L a1.L.length c_a1_L) 45 127 1 1 ((u1 1).n 0) [vI a1.N, .slice p_a1_L a1.L.length c_a1_L, .slice p_a1_Out a1.Out.length c_a1_Out] 38) <|
 .v 46 (vI (a1.L.length : Int)) <|
 .v 47 (vI 0) <| .nil) [5, 6, 8, 11, 12, 14, 40, 41, 45, 46, 47, 123, 124, 126, 127, 128, 900019, 900021, 999999] fun u47 a w' H => ?_
       refine k_block ?_
       replace H := H.move (K := ns_en_TIntervall p_x12 c_x12 L_x12) 900021 900031 (by kernel_rfl) (by intro _ _ h; cases h)
       refine k_loopJ (fun m a w' => ∃ x48 : List (List TInterval), ∃ x49 : Int, api_Interval_expand_m.l50 k0 a1 a2 a3 a4 j6 x11 x12 x13 m x48 x49 = some j22 ∧ ∃ (p_x48 : Option Addr) (c_x48 np_x48 : Nat) (L_x48 : List (Sl TInterval)), np_x48 = L_x48.length ∧ x48 = L_x48.map Sl.l ∧ RL w 123 [(5, (sP ((u1 0).n 0) 0)), (6, (sP ((u1 1).n 0) 0)), (8, (sP ((u1 2).n 0) 0)), (11, sS p_x11 L_x11.length c_x11), (12, sS p_x48 np_x48 c_x48), (14, sI x13), (40, sI a4), (41, sI x13), (45, sS p_a1_L a1.L.length c_a1_L), (46, (sI (a1.L.length : Int))), (47, sI x49), (123, rdl anyF 5 p_a1_L c_a1_L a1.L en_TInstruction), (124, rdl anyF 1 p_a1_Out c_a1_Out a1.Out en_i64), (126, .blk ((u1 0).n 0) [.func (.func 130) #[] #[], .func (.func 110) #[] #[], .func (.func 90) #[] #[], .func (.func 92) #[] #[], .func (.func 127) #[] #[], .func (.func 91) #[] #[], .func (.func 131) #[] #[], .func (.func 132) #[] #[], .func (.func 133) #[] #[]] 215), (127, .blk ((u1 1).n 0) [vI a1.N, .slice p_a1_L a1.L.length c_a1_L, .slice p_a1_Out a1.Out.length c_a1_Out] 38), (128, .blk ((u1 2).n 0) [vI a3.Lo, vI a3.Hi] 46), (900019, ns_en_TIntervall p_x11 c_x11 L_x11), (900031, ns_en_TInterval p_x48 np_x48 c_x48 L_x48), (999999, gk)] a w') k0 ⟨_, _, G, p_x12, c_x12, L_x12.length, L_x12, rfl, h_x12, H.toM _⟩ ?_
       clear G H
       rintro (_ | k) a w' ⟨x48, x49, G, p_x48, c_x48, _, L_x48, rfl, h_x48, H⟩
       ·exact absurd G (by unfold api_Interval_expand_m.l50; exact fun h => by cases h)
       ·unfold api_Interval_expand_m.l50 at G
        refine k_srk mixed H (.v 48 (.bool (decide (x49 < (a1.L.length : Int)))) <| .nil) [5, 6, 8, 11, 12, 14, 40, 41, 45, 46, 47, 48, 123, 124, 126, 127, 128, 900019, 900031, 999999] fun u51 a w' H => ?_
        refine k_seq ?_
        refine k_cnd H (decide (x49 < (a1.L.length : Int))) (fun c68 => ?_) fun c68 => ?_
        ·rw [if_pos c68] at G
         refine k_skip ?_
         refine k_seq ?_
         refine k_block ?_
         refine k_seq ?_
         replace G := gd G; obtain ⟨b53, G⟩ := G
         obtain ⟨t54, ht54, G⟩ := bnd G
         refine k_rk mixed H (.v 49 (vI x49) <|
 .cons [50] (ok_v1 123 (rdl anyF 5 p_a1_L c_a1_L a1.L en_TInstruction) (.pointer (some ⟨hdB p_a1_L, hdO p_a1_L + x49.toNat * 5, none⟩)) 50 fun _ w h => ixr 35 .i64 x49 p_a1_L a1.L.length c_a1_L a1.L en_TInstruction (rdF_of h).2 en_TInstruction_len rfl b53) <|
 .cons [51] (ok_v1 123 (rdl anyF 5 p_a1_L c_a1_L a1.L en_TInstruction) (.agg #[vI t54.Op, vI t54.A, vI t54.B, vI t54.C.Lo, vI t54.C.Hi]) 51 fun _ w h => ldr en_TInstruction (rdF_of h).2 en_TInstruction_len ht54 0 5 [vI t54.Op, vI t54.A, vI t54.B, vI t54.C.Lo, vI t54.C.Hi]) <|
 .cons [16, 144] (ok_new (fun b => vP b 0) (fun u52 => [vI 0, vI 0, vI 0, vI 0, vI 0]) 110 16 144) <|
 .v 15 (vI x49) <|
 .cons [144] (ok_as (u' := fun u52 => [(144, .blk ((u52 3).n 0) [vI t54.Op, vI t54.A, vI t54.B, vI t54.C.Lo, vI t54.C.Hi] 110)]) (ok_store 144 0 (fun u52 => ((u52 3).n 0)) (fun u52 => [vI 0, vI 0, vI 0, vI 0, vI 0]) (fun u52 => [vI t54.Op, vI t54.A, vI t54.B, vI t54.C.Lo, vI t54.C.Hi]) 110) (fun _ => by kernel_rfl)) <| .nil) [5, 6, 8, 11, 12, 14, 15, 16, 40, 41, 45, 46, 47, 123, 124, 126, 127, 128, 144, 900019, 900031, 999999] fun u52 a w' H => ?_
         refine k_seq ?_
         refine k_srk mixed H (.v 52 (vP ((u52 3).n 0) 0) <|
 .cons [53] (ok_ldc (vI t54.Op) 53 144 0 1 ((u52 3).n 0) [vI t54.Op, vI t54.A, vI t54.B, vI t54.C.Lo, vI t54.C.Hi] 110) <|
 .v 54 (.bool (t54.Op == 2)) <| .nil) [5, 6, 8, 11, 12, 14, 15, 16, 40, 41, 45, 46, 47, 54, 123, 124, 126, 127, 128, 144, 900019, 900031, 999999] fun u55 a w' H => ?_
         refine k_cnd H (t54.Op == 2) (fun c56 => ?_) fun c56 => ?_
         ·rw [if_pos c56] at G
          cases G
         ·rw [if_neg (nt c56)] at G
          refine k_skip ?_
          replace G := gd G; obtain ⟨b58, G⟩ := G
          obtain ⟨t59, ht59, G⟩ := bnd G
          obtain ⟨p_t59, c_t59, y_t59⟩ := sl_get h_x48 ht59
          have P60 := ptr_of (en := enSl) (l := L_x48) (ns_of (H.at (K := ns_en_TIntervall p_x48 c_x48 L_x48) 900031 (by kernel_rfl))).row.2 enSl_len
          replace G := gd G; obtain ⟨b61, G⟩ := G
          obtain ⟨t62, ht62, G⟩ := bnd G
          obtain ⟨p_t62, c_t62, y_t62⟩ := sl_get h_x48 ht62
          obtain ⟨t63, ht63, G⟩ := bnd G
          replace G := gd G; obtain ⟨b64, G⟩ := G
          replace G := gd G; obtain ⟨b65, G⟩ := G
          obtain ⟨t66, ht66, G⟩ := bnd G
          obtain ⟨p_t66, c_t66, y_t66⟩ := sl_get h_x48 ht66
          refine k_regT mixed H (.v 72 (.slice p_x48 L_x48.length c_x48) <|
 .v 73 (vI x49) <|
 .v 74 (.slice p_x48 L_x48.length c_x48) <|
 .v 75 (vI x49) <|
 .cons [76] (ok_val (fun u57 => .pointer (some ⟨hdB p_x48, hdO p_x48 + x49.toNat * 1, none⟩)) 76 (hv := fun _ _ => ix_pure (t := 195) (k := .i64) (i := x49) (p := p_x48) (n := L_x48.length) (cap := c_x48) (x := x48) P60 (map_len h_x48) b58 (by kernel_rfl))) <|
 .cons [77] (ok_v1 900031 (ns_en_TIntervall p_x48 c_x48 L_x48) (.slice p_t59 t59.length c_t59) 77 fun _ w h => ldr enSl (ns_of h).row.2 enSl_len y_t59 0 1 [.slice p_t59 t59.length c_t59]) <|
 .cons [78] (ok_ldc (.agg #[.func (.func 130) #[] #[], .func (.func 110) #[] #[], .func (.func 90) #[] #[], .func (.func 92) #[] #[], .func (.func 127) #[] #[], .func (.func 91) #[] #[], .func (.func 131) #[] #[], .func (.func 132) #[] #[], .func (.func 133) #[] #[]]) 78 126 0 9 ((u1 0).n 0) [.func (.func 130) #[] #[], .func (.func 110) #[] #[], .func (.func 90) #[] #[], .func (.func 92) #[] #[], .func (.func 127) #[] #[], .func (.func 91) #[] #[], .func (.func 131) #[] #[], .func (.func 132) #[] #[], .func (.func 133) #[] #[]] 215) <|
 .cons [79] (ok_ldc (.agg #[vI t54.Op, vI t54.A, vI t54.B, vI t54.C.Lo, vI t54.C.Hi]) 79 144 0 5 ((u52 3).n 0) [vI t54.Op, vI t54.A, vI t54.B, vI t54.C.Lo, vI t54.C.Hi] 110) <|
 .v 80 (.slice p_x48 L_x48.length c_x48) <|
 .v 81 (.slice p_x48 L_x48.length c_x48) <|
 .v 82 (vI x49) <|
 .cons [83] (ok_val (fun u57 => .pointer (some ⟨hdB p_x48, hdO p_x48 + x49.toNat * 1, none⟩)) 83 (hv := fun _ _ => ix_pure (t := 195) (k := .i64) (i := x49) (p := p_x48) (n := L_x48.length) (cap := c_x48) (x := x48) P60 (map_len h_x48) b61 (by kernel_rfl))) <|
 .cons [84] (ok_v1 900031 (ns_en_TIntervall p_x48 c_x48 L_x48) (.slice p_t62 t62.length c_t62) 84 fun _ w h => ldr enSl (ns_of h).row.2 enSl_len y_t62 0 1 [.slice p_t62 t62.length c_t62]) <|
 .cons [85] (ok_ldc (.agg #[vI a3.Lo, vI a3.Hi]) 85 128 0 2 ((u1 2).n 0) [vI a3.Lo, vI a3.Hi] 46) <|
 .cons [86] (ok_callL [900031, 999999] (fun u57 => [ns_en_TIntervall p_x48 c_x48 L_x48, gk]) 135 _ _ 86 (fun u57 w hF => api_Interval_next_m.calls k0 (⟨t54.Op, t54.A, t54.B, (⟨t54.C.Lo, t54.C.Hi⟩ : TInterval)⟩ : TInstruction) x48 t62 a3 p_x48 c_x48 L_x48 p_t62 c_t62 t63 w h_x48 ⟨(rdA (ns_of hF.1).row), (dnA (ns_of hF.1).all), (rdA ((ns_of hF.1).one y_t62)), hF.2.1, trivial⟩ ht63)) <|
 .cons [87, 145] (ok_new (fun b => .slice (some ⟨b, 0, none⟩) 1 1) (fun u57 => [vI t63.Lo, vI t63.Hi]) 46 87 145) <|
 .cons [88, 900031, 900031] (ok_own1 [15] [145] (fun u57 => [.blk ((u57 15).n 0) [vI t63.Lo, vI t63.Hi] 46]) 900031 (fun u57 => ns_en_TIntervall p_x48 c_x48 L_x48) (some 88) (fun u57 g => .slice (g.o 0) (t59 ++ [t63]).length (g.n 0)) (fun u57 g => nsK 48 46 2 en_TInterval p_x48 L_x48.length c_x48 L_x48 (L_x48.set x49.toNat (⟨(g.o 0), (g.n 0), (t59 ++ [t63])⟩ : Sl TInterval))) (fun u57 w hF hK => tn_app hK y_t59 (l' := (t59 ++ [t63])) (fun h => run_app_rowN (t := 48) (ty := 48) (en := en_TInterval) en_TInterval_len inf46 h hF.1 (news := [t63]) rfl (by simp) (by kernel_rfl) b64)) (hloc := fun u u' h => ⟨by first | rfl | simp only [h 15 (by decide)], by first | rfl | simp only [h 15 (by decide)], by first | rfl | simp only [h 15 (by decide)], by first | rfl | simp only [h 15 (by decide)]⟩)) <|
 .cons [89] (ok_val (fun u57 => .pointer (some ⟨hdB p_x48, hdO p_x48 + x49.toNat * 1, none⟩)) 89 (hv := fun _ _ => ix_pure (t := 195) (k := .i64) (i := x49) (p := p_x48) (n := L_x48.length) (cap := c_x48) (x := x48) P60 (map_len h_x48) b65 (by kernel_rfl))) <|
 .cons [900031, 900031] (ok_own1 [16] [] (fun u57 => []) 900031 (fun u57 => nsK 48 46 2 en_TInterval p_x48 L_x48.length c_x48 L_x48 (L_x48.set x49.toNat (⟨((u57 16).o 0), ((u57 16).n 0), (t59 ++ [t63])⟩ : Sl TInterval))) none (fun u57 g => .nilFunc) (fun u57 g => ns_en_TInterval p_x48 L_x48.length c_x48 (L_x48.set x49.toNat (⟨((u57 16).o 0), ((u57 16).n 0), (t59 ++ [t63])⟩ : Sl TInterval))) (fun u57 w hF hK => tn_hd hK (fun h => el_storeN (en := enSl) h enSl_len (y := (⟨((u57 16).o 0), ((u57 16).n 0), (t59 ++ [t63])⟩ : Sl TInterval)) (vs := [.slice ((u57 16).o 0) ((t59 ++ [t63]).length) ((u57 16).n 0)]) y_t66 0 (by simp) (by simp) rfl (by kernel_rfl))) (hloc := fun u u' h => ⟨by first | rfl | simp only [h 16 (by decide)], by first | rfl | simp only [h 16 (by decide)], by first | rfl | simp only [h 16 (by decide)], by first | rfl | simp only [h 16 (by decide)]⟩)) <| .nil) (by kernel_rfl) fun u57 a w' H => ?_
          replace H := H.kp [5, 6, 8, 11, 12, 14, 40, 41, 45, 46, 47, 123, 124, 126, 127, 128, 900019, 900031, 999999]
          refine k_rk mixed H (.v 90 (vI (w_i64 (x49 + 1))) <|
 .v 47 (vI (w_i64 (x49 + 1))) <| .nil) [5, 6, 8, 11, 12, 14, 40, 41, 45, 46, 47, 123, 124, 126, 127, 128, 900019, 900031, 999999] fun u67 a w' H => ?_
          exact ⟨k, Nat.lt_succ_self k, _, _, G, p_x48, c_x48, L_x48.length, (L_x48.set x49.toNat (⟨((u57 16).o 0), ((u57 16).n 0), (t59 ++ [t63])⟩ : Sl TInterval)), by simp, (map_set h_x48 x49.toNat (⟨((u57 16).o 0), ((u57 16).n 0), (t59 ++ [t63])⟩ : Sl TInterval)), H.toM _⟩
        ·rw [if_neg (nt c68)] at G
         refine k_exit rfl ?_
         obtain rfl := sj G
         replace H := H.move (K := ns_en_TIntervall p_x48 c_x48 L_x48) 900031 900027 (by kernel_rfl) (by intro _ _ h; cases h)
         exact ⟨p_x48, c_x48, L_x48.length, L_x48, rfl, h_x48, H.toM _⟩
    ·rw [if_neg (nt c69)] at G
     refine k_exit rfl ?_
     obtain rfl := sj G
     replace H := H.move (K := ns_en_TIntervall p_x11 c_x11 L_x11) 900019 900017 (by kernel_rfl) (by intro _ _ h; cases h)
     exact ⟨p_x11, c_x11, L_x11.length, L_x11, rfl, h_x11, H.toM _⟩
 ·clear G; replace G := hj6; clear hj6
  refine k_srk mixed H (.v 26 (.slice ((u2 2).o 0) ((List.replicate a1.N.toNat (⟨none, 0, []⟩ : Sl TInterval)).length) ((u2 2).n 0)) <|
 .cons [27] (ok_v1 129 (ns_en_TIntervall ((u2 2).o 0) ((u2 2).n 0) (List.replicate a1.N.toNat (⟨none, 0, []⟩ : Sl TInterval))) (vI ((List.replicate a1.N.toNat ([] : List TInterval)).length : Int)) 27 fun _ w h => run_lenN (((ns_of h).row.2.len enSl_len (by decide)).trans (map_len (map_repl (er := Sl.l) a1.N.toNat (⟨none, 0, []⟩ : Sl TInterval))).symm) (by kernel_rfl)) <|
 .v 28 (vI 0) <| .nil) [2, 4, 5, 6, 8, 11, 12, 27, 28, 123, 124, 125, 126, 127, 128, 129, 130, 999999] fun u70 a w' H => ?_
  refine k_block ?_
  replace H := H.move (K := ns_en_TIntervall ((u2 2).o 0) ((u2 2).n 0) (List.replicate a1.N.toNat (⟨none, 0, []⟩ : Sl TInterval))) 129 900033 (by kernel_rfl) (by intro _ _ h; cases h)
  refine k_loopJ (fun m a w' => ∃ x71 : List (List TInterval), ∃ x72 : Int, api_Interval_expand_m.l73 k0 a1 a2 a3 a4 m x71 x72 = some j6 ∧ ∃ (p_x71 : Option Addr) (c_x71 np_x71 : Nat) (L_x71 : List (Sl TInterval)), np_x71 = L_x71.length ∧ x71 = L_x71.map Sl.l ∧ RL w 123 [(2, sS p_a2 a2.length c_a2), (4, sI a4), (5, (sP ((u1 0).n 0) 0)), (6, (sP ((u1 1).n 0) 0)), (8, (sP ((u1 2).n 0) 0)), (11, sS p_x71 np_x71 c_x71), (12, (sS ((u2 6).o 0) ((List.replicate (a1.L.length : Int).toNat (⟨none, 0, []⟩ : Sl TInterval)).length) ((u2 6).n 0))), (27, (sI ((List.replicate a1.N.toNat ([] : List TInterval)).length : Int))), (28, sI x72), (123, rdl anyF 5 p_a1_L c_a1_L a1.L en_TInstruction), (124, rdl anyF 1 p_a1_Out c_a1_Out a1.Out en_i64), (125, rdl anyF 2 p_a2 c_a2 a2 en_TInterval), (126, .blk ((u1 0).n 0) [.func (.func 130) #[] #[], .func (.func 110) #[] #[], .func (.func 90) #[] #[], .func (.func 92) #[] #[], .func (.func 127) #[] #[], .func (.func 91) #[] #[], .func (.func 131) #[] #[], .func (.func 132) #[] #[], .func (.func 133) #[] #[]] 215), (127, .blk ((u1 1).n 0) [vI a1.N, .slice p_a1_L a1.L.length c_a1_L, .slice p_a1_Out a1.Out.length c_a1_Out] 38), (128, .blk ((u1 2).n 0) [vI a3.Lo, vI a3.Hi] 46), (130, ns_en_TIntervall ((u2 6).o 0) ((u2 6).n 0) (List.replicate (a1.L.length : Int).toNat (⟨none, 0, []⟩ : Sl TInterval))), (900033, ns_en_TInterval p_x71 np_x71 c_x71 L_x71), (999999, gk)] a w') k0 ⟨_, _, G, ((u2 2).o 0), ((u2 2).n 0), (List.replicate a1.N.toNat (⟨none, 0, []⟩ : Sl TInterval)).length, (List.replicate a1.N.toNat (⟨none, 0, []⟩ : Sl TInterval)), rfl, (map_repl (er := Sl.l) a1.N.toNat (⟨none, 0, []⟩ : Sl TInterval)), H.toM _⟩ ?_
  clear G H
  rintro (_ | k) a w' ⟨x71, x72, G, p_x71, c_x71, _, L_x71, rfl, h_x71, H⟩
  ·exact absurd G (by unfold api_Interval_expand_m.l73; exact fun h => by cases h)
  ·unfold api_Interval_expand_m.l73 at G
   refine k_srk mixed H (.v 29 (.bool (decide (x72 < ((List.replicate a1.N.toNat ([] : List TInterval)).length : Int)))) <| .nil) [2, 4, 5, 6, 8, 11, 12, 27, 28, 29, 123, 124, 125, 126, 127, 128, 130, 900033, 999999] fun u74 a w' H => ?_
   refine k_seq ?_
   refine k_cnd H (decide (x72 < ((List.replicate a1.N.toNat ([] : List TInterval)).length : Int))) (fun c82 => ?_) fun c82 => ?_
   ·rw [if_pos c82] at G
    refine k_skip ?_
    refine k_seq ?_
    refine k_block ?_
    refine k_srk mixed H (.v 30 (vI x72) <|
 .v 13 (vI x72) <| .nil) [2, 4, 5, 6, 8, 11, 12, 13, 27, 28, 123, 124, 125, 126, 127, 128, 130, 900033, 999999] fun u75 a w' H => ?_
    replace G := gd G; obtain ⟨b77, G⟩ := G
    obtain ⟨t78, ht78, G⟩ := bnd G
    replace G := gd G; obtain ⟨b79, G⟩ := G
    obtain ⟨t80, ht80, G⟩ := bnd G
    obtain ⟨p_t80, c_t80, y_t80⟩ := sl_get h_x71 ht80
    refine k_rk mixed H (.v 31 (.slice p_x71 L_x71.length c_x71) <|
 .v 32 (vI x72) <|
 .v 33 (.slice p_a2 a2.length c_a2) <|
 .v 34 (vI x72) <|
 .cons [35] (ok_v1 125 (rdl anyF 2 p_a2 c_a2 a2 en_TInterval) (.pointer (some ⟨hdB p_a2, hdO p_a2 + x72.toNat * 2, none⟩)) 35 fun _ w h => ixr 48 .i64 x72 p_a2 a2.length c_a2 a2 en_TInterval (rdF_of h).2 en_TInterval_len rfl b77) <|
 .cons [36] (ok_v1 125 (rdl anyF 2 p_a2 c_a2 a2 en_TInterval) (.agg #[vI t78.Lo, vI t78.Hi]) 36 fun _ w h => ldr en_TInterval (rdF_of h).2 en_TInterval_len ht78 0 2 [vI t78.Lo, vI t78.Hi]) <|
 .cons [37, 158] (ok_blkrow 2 1 (ok_new (fun b => .slice (some ⟨b, 0, none⟩) 1 1) (fun u76 => [vI t78.Lo, vI t78.Hi]) 46 37 158) (fun _ => rfl) (by decide)) <|
 .cons [38] (ok_v1 900033 (ns_en_TIntervall p_x71 c_x71 L_x71) (.pointer (some ⟨hdB p_x71, hdO p_x71 + x72.toNat * 1, none⟩)) 38 fun _ w h => ixr 195 .i64 x72 p_x71 L_x71.length c_x71 x71 enSl (ns_of h).row.2 enSl_len (map_len h_x71) b79) <|
 .cons [900033, 158, 900033] (ok_own2 [6] [] (fun u76 => []) 900033 158 (fun u76 => ns_en_TIntervall p_x71 c_x71 L_x71) (fun u76 => owK 46 2 (some ⟨((u76 6).n 0), 0, none⟩) 1 1 (([t78] : List TInterval).flatMap en_TInterval)) none (fun u76 g => .nilFunc) (fun u76 g => ns_en_TInterval p_x71 L_x71.length c_x71 (L_x71.set x72.toNat (⟨(some ⟨((u76 6).n 0), 0, none⟩), 1, ([t78] : List TInterval)⟩ : Sl TInterval))) (fun u76 w hF hK hK2 hd => tn_take hK hK2 hd en_TInterval_len (by decide) (fun hn h => el_storeN (en := enSl) h enSl_len (y := (⟨(some ⟨((u76 6).n 0), 0, none⟩), 1, ([t78] : List TInterval)⟩ : Sl TInterval)) (vs := [.slice (some ⟨((u76 6).n 0), 0, none⟩) 1 1]) y_t80 0 (by simp) (by simp) rfl (by kernel_rfl))) (hloc := fun u u' h => ⟨by first | rfl | simp only [h 6 (by decide)], by first | rfl | simp only [h 6 (by decide)], by first | rfl | simp only [h 6 (by decide)], by first | rfl | simp only [h 6 (by decide)], by first | rfl | simp only [h 6 (by decide)]⟩)) <| .nil) [2, 4, 5, 6, 8, 11, 12, 27, 28, 123, 124, 125, 126, 127, 128, 130, 900033, 999999] fun u76 a w' H => ?_
    refine k_rk mixed H (.v 39 (vI (w_i64 (x72 + 1))) <|
 .v 28 (vI (w_i64 (x72 + 1))) <| .nil) [2, 4, 5, 6, 8, 11, 12, 27, 28, 123, 124, 125, 126, 127, 128, 130, 900033, 999999] fun u81 a w' H => ?_
    exact ⟨k, Nat.lt_succ_self k, _, _, G, p_x71, c_x71, L_x71.length, (L_x71.set x72.toNat (⟨(some ⟨((u76 6).n 0), 0, none⟩), 1, ([t78] : List TInterval)⟩ : Sl TInterval)), by simp, (map_set h_x71 x72.toNat (⟨(some ⟨((u76 6).n 0), 0, none⟩), 1, ([t78] : List TInterval)⟩ : Sl TInterval)), H.toM _⟩
   ·rw [if_neg (nt c82)] at G
    refine k_exit rfl ?_
    obtain rfl := sj G
    replace H := H.move (K := ns_en_TIntervall p_x71 c_x71 L_x71) 900033 900015 (by kernel_rfl) (by intro _ _ h; cases h)
    exact ⟨p_x71, c_x71, L_x71.length, L_x71, rfl, h_x71, H.toM _⟩
theorem series_Coefficients.calls (k0 : Nat) (a0 : TTape) (a1 : List TInterval) (a2 : TInterval) (a3 : Int) (p_a0_L : Option Addr) (c_a0_L : Nat) (p_a0_Out : Option Addr) (c_a0_Out : Nat) (p_a1 : Option Addr) (c_a1 : Nat) (r : List (List TInterval)) (w : World) (hB : AllH [rdl anyF 5 p_a0_L c_a0_L a0.L en_TInstruction, rdl anyF 1 p_a0_Out c_a0_Out a0.Out en_i64, rdl anyF 2 p_a1 c_a1 a1 en_TInterval, gk] w) (G : series_Coefficients k0 a0 a1 a2 a3 = some r) :
  Calls Tryz.prog 99 #[.agg #[vI a0.N, .slice p_a0_L a0.L.length c_a0_L, .slice p_a0_Out a0.Out.length c_a0_Out], .slice p_a1 a1.length c_a1, .agg #[vI a2.Lo, vI a2.Hi], vI a3] w fun e w' => ∃ g : Gh, e = .returned (slgd_S_TInterval g 0 r) ∧ But (fpK []) w w' ∧ OutOK w.heap.size (fpK []) (frI w.heap.size []) [fun _ => ns_en_TIntervalg g 0 r] w' := by
 obtain ⟨fr, hfr, hBf⟩ := frs w []
 refine k_enterF (args := [.agg #[vI a0.N, .slice p_a0_L a0.L.length c_a0_L, .slice p_a0_Out a0.Out.length c_a0_Out], .slice p_a1 a1.length c_a1, .agg #[vI a2.Lo, vI a2.Hi], vI a3]) 15 [(15, rdl anyF 5 p_a0_L c_a0_L a0.L en_TInstruction), (16, rdl anyF 1 p_a0_Out c_a0_Out a0.Out en_i64), (17, rdl anyF 2 p_a1 c_a1 a1 en_TInterval), (999999, gk)] (by
  intro x hx
  simp only [List.mem_cons, List.not_mem_nil, or_false] at hx
  rcases hx with rfl | rfl | rfl | rfl
  ·exact rdF_fact (rdF_of hB.1) (fun _ _ => trivial) (by decide) _
  ·exact rdF_fact (rdF_of hB.2.1) (fun _ _ => trivial) (by decide) _
  ·exact rdF_fact (rdF_of hB.2.2.1) (fun _ _ => trivial) (by decide) _
  ·exact ⟨⟨_, _, rfl⟩, hB.2.2.2.1, glob_in (glob_of hB.2.2.2.1)⟩) Tryz.func99 rfl (by kernel_rfl) (by kernel_rfl) fun a H => ?_
 unfold series_Coefficients at G
 refine k_srk mixed H (.cons [4, 18] (ok_new (fun b => vP b 0) (fun u1 => [vI a0.N, .slice p_a0_L a0.L.length c_a0_L, .slice p_a0_Out a0.Out.length c_a0_Out]) 38 4 18) <|
 .cons [6, 19] (ok_new (fun b => vP b 0) (fun u1 => [vI a2.Lo, vI a2.Hi]) 46 6 19) <|
 .v 8 (.slice none 0 0) <| .nil) [1, 3, 4, 6, 15, 16, 17, 18, 19, 999999] fun u1 a w' H => ?_
 refine k_seq ?_
 obtain ⟨t3, ht3, G⟩ := bnd G
 refine k_regT mixed H (.cons [9] (ok_callv 120 _ _ 9 [] (fun u2 w _ => series_intervals.calls w)) <|
 .cons [10] (ok_ldc (.agg #[vI a0.N, .slice p_a0_L a0.L.length c_a0_L, .slice p_a0_Out a0.Out.length c_a0_Out]) 10 18 0 3 ((u1 0).n 0) [vI a0.N, .slice p_a0_L a0.L.length c_a0_L, .slice p_a0_Out a0.Out.length c_a0_Out] 38) <|
 .v 11 (.slice p_a1 a1.length c_a1) <|
 .cons [12] (ok_ldc (.agg #[vI a2.Lo, vI a2.Hi]) 12 19 0 2 ((u1 1).n 0) [vI a2.Lo, vI a2.Hi] 46) <|
 .v 13 (vI a3) <|
 .cons [14, 20] (ok_callY false fr [] [15, 16, 17, 999999] (fun u2 => [rdl anyF 5 p_a0_L c_a0_L a0.L en_TInstruction, rdl anyF 1 p_a0_Out c_a0_Out a0.Out en_i64, rdl anyF 2 p_a1 c_a1 a1 en_TInterval, gk]) [] (fun u2 => []) 121 _ _ _ _ _ [20] 14 (fun u2 w hB hF hM => api_Interval_expand_m.calls k0 (⟨a0.N, a0.L, a0.Out⟩ : TTape) a1 a2 a3 p_a0_L c_a0_L p_a0_Out c_a0_Out p_a1 c_a1 t3 w  hB ht3) (fun u2 w hF => ⟨⟨sub_rd0 (rdF_of hF.1) (fun j h => ⟨_, (.head _), h⟩), sub_rd0 (rdF_of hF.2.1) (fun j h => ⟨_, (.tail _ (.head _)), h⟩), sub_rd0 (rdF_of hF.2.2.1) (fun j h => ⟨_, (.tail _ (.tail _ (.head _))), h⟩), sub_k hF.2.2.2.1 (.tail _ (.tail _ (.tail _ (.head _)))), trivial⟩, trivial⟩) (fun u2 g => (fams_cons fam_ns fams_nil)) (.inr (fun u2 g => (famx_cons trivial (fun K h => by cases h)))) (fun h => by cases h)) <|
 .cons [8] (ok_val (fun u2 => slgd_S_TInterval (u2 5) 0 t3) 8) <| .nil) (by kernel_rfl) fun u2 a w' H => ?_
 replace H := H.kp [8, 20, 999999]
 refine k_ret ?_
 obtain rfl := sj G
 obtain ⟨g, o0, n0, d0⟩ := gh_d gd_S_TInterval ((u2 5).o 0) ((u2 5).n 0) (dl_er ergd_S_TInterval (u2 5) 0 t3)
 refine k_doneZ H _ g _ _ _ fr [20] [] (slgd_S_TInterval (u2 5) 0 t3) [fun _ => ns_en_TIntervalg (u2 5) 0 t3] (by simp only [slgd_S_TInterval, dlgd_S_TInterval, ns_en_TIntervalg, ns_en_TIntervall, ns_en_TInterval, owl, o0, n0, d0]) (by simp only [slgd_S_TInterval, dlgd_S_TInterval, ns_en_TIntervalg, ns_en_TIntervall, ns_en_TInterval, owl, o0, n0, d0]) hfr (.inl ⟨rfl, rfl⟩) (fams_cons fam_ns fams_nil) (by simp)
theorem step_Remainder_1_m.calls (a0 : Int) (a1 : List TInterval) (q0 : Int) (p_a1 : Option Addr) (c_a1 : Nat) (b_q0 : Nat) (r : TInterval) (w : World) (hB : AllH [rdl anyF 2 p_a1 c_a1 a1 en_TInterval, bxK b_q0 [vI q0] 3] w) (G : step_Remainder_1_m a0 a1 q0 = some r) :
  Calls Tryz.prog 119 #[vI a0, .slice p_a1 a1.length c_a1, vP b_q0 0] w fun e w' => e = .returned (.agg #[vI r.Lo, vI r.Hi]) ∧ Below w.heap.size w w' := by
 obtain ⟨fr, hfr⟩ : ∃ fr : Nat → Prop, ∀ j, fr j := ⟨fun _ => True, fun _ => trivial⟩
 have hBf : ∀ j, w.heap.size ≤ j → fr j := fun j _ => hfr j
 refine k_enterF (args := [vI a0, .slice p_a1 a1.length c_a1, vP b_q0 0]) 11 [(11, rdl anyF 2 p_a1 c_a1 a1 en_TInterval), (12, bxK b_q0 [vI q0] 3)] (by
  intro x hx
  simp only [List.mem_cons, List.not_mem_nil, or_false] at hx
  rcases hx with rfl | rfl
  ·exact rdF_fact (rdF_of hB.1) (fun _ _ => trivial) (by decide) _
  ·exact bx_fact (hB.2.1 w (agree.refl _ _)) _) Tryz.func119 rfl (by kernel_rfl) (by kernel_rfl) fun a H => ?_
 unfold step_Remainder_1_m at G
 refine k_srk mixed H (.cons [5, 13] (ok_new (fun b => vP b 0) (fun u1 => [vI 0, vI 0]) 46 5 13) <| .nil) [1, 2, 5, 11, 13, 12] fun u1 a w' H => ?_
 refine k_seq ?_
 replace G := gd G; obtain ⟨b3, G⟩ := G
 obtain ⟨t4, ht4, G⟩ := bnd G
 refine k_rk mixed H (.v 6 (.slice p_a1 a1.length c_a1) <|
 .cons [7] (ok_ldK (fun u2 => vI q0) 7 12 (bxK b_q0 [vI q0] 3) b_q0 0 1 [vI q0] (fun w h => bx_of h)) <|
 .v 8 (vI (w_i64 (q0 + 1))) <|
 .cons [9] (ok_v1 11 (rdl anyF 2 p_a1 c_a1 a1 en_TInterval) (.pointer (some ⟨hdB p_a1, hdO p_a1 + ((w_i64 (q0 + 1)).toNat) * 2, none⟩)) 9 fun _ w h => ixr 48 .i64 (w_i64 (q0 + 1)) p_a1 a1.length c_a1 a1 en_TInterval (rdF_of h).2 en_TInterval_len rfl b3) <|
 .cons [10] (ok_v1 11 (rdl anyF 2 p_a1 c_a1 a1 en_TInterval) (.agg #[vI t4.Lo, vI t4.Hi]) 10 fun _ w h => ldr en_TInterval (rdF_of h).2 en_TInterval_len ht4 0 2 [vI t4.Lo, vI t4.Hi]) <|
 .cons [13] (ok_stc 13 0 ((u1 0).n 0) [vI 0, vI 0] [vI t4.Lo, vI t4.Hi] 46 [vI t4.Lo, vI t4.Hi]) <| .nil) [5, 13, 12] fun u2 a w' H => ?_
 refine k_ret ?_
 obtain rfl := sj G
 exact k_done1 H _ 13 ((u1 0).n 0) [vI t4.Lo, vI t4.Hi] 46 0 2 (by kernel_rfl) (by kernel_rfl) (by kernel_rfl) (by kernel_rfl)
theorem api_Interval_118_s119.calls (k0 : Nat) (a0 : List (List TInterval)) (a1_0 : Int) (p_a0 : Option Addr) (c_a0 : Nat) (L_a0 : List (Sl TInterval)) (b_a1_0 : Nat) (r : List TInterval) (w : World) (h_a0 : a0 = L_a0.map Sl.l) (hB : AllH [rdl anyF 1 p_a0 c_a0 L_a0 enSl, dnK anyF E_S_TInterval.toPart L_a0, bxK b_a1_0 [vI a1_0] 3] w) (G : api_Interval_118_s119 k0 a0 a1_0 = some r) :
  Calls Tryz.prog 118 #[.slice p_a0 L_a0.length c_a0, .func (.func 119) #[] #[vP b_a1_0 0]] w fun e w' => ∃ g : Gh, e = .returned (.slice (g.o 0) r.length (g.n 0)) ∧ But (fpK []) w w' ∧ OutOK w.heap.size (fpK []) (frI w.heap.size []) [fun _ => owl 46 2 (g.o 0) (g.n 0) r en_TInterval] w' := by
 obtain ⟨fr, hfr, hBf⟩ := frs w []
 refine k_enterF (args := [.slice p_a0 L_a0.length c_a0, .func (.func 119) #[] #[vP b_a1_0 0]]) 27 [(27, rdl anyF 1 p_a0 c_a0 L_a0 enSl), (28, dnK anyF E_S_TInterval.toPart L_a0), (29, bxK b_a1_0 [vI a1_0] 3)] (by
  intro x hx
  simp only [List.mem_cons, List.not_mem_nil, or_false] at hx
  rcases hx with rfl | rfl | rfl
  ·exact rdF_fact (rdF_of hB.1) (fun _ _ => trivial) (by decide) _
  ·exact dn_fact (dn_of hB.2.1) (fun _ _ => trivial) _
  ·exact bx_fact (hB.2.2.1 w (agree.refl _ _)) _) Tryz.func118 rfl (by kernel_rfl) (by kernel_rfl) fun a H => ?_
 unfold api_Interval_118_s119 at G
 refine k_srk mixed H (.v 4 (.slice none 0 0) <| .nil) [0, 1, 27, 28, 29] fun u1 a w' H => ?_
 refine k_seq ?_
 replace G := gd G; obtain ⟨b3, G⟩ := G
 refine k_rk mixed H (.v 8 (.slice p_a0 L_a0.length c_a0) <|
 .cons [9] (ok_v1 27 (rdl anyF 1 p_a0 c_a0 L_a0 enSl) (vI (a0.length : Int)) 9 fun _ w h => run_lenN (((rdF_of h).2.len enSl_len (by decide)).trans (map_len h_a0).symm) (by kernel_rfl)) <|
 .cons [10, 30] (ok_rowL [] (fun u2 => []) 46 2 (List.replicate (a0.length : Int).toNat (⟨0, 0⟩ : TInterval)).length ((List.replicate (a0.length : Int).toNat (⟨0, 0⟩ : TInterval)).flatMap en_TInterval) 10 30 (fun _ => .none) (fun u2 w hF => run_make_row (t := 48) (k := .i64) (m := (a0.length : Int)) (en := en_TInterval) (z := (⟨0, 0⟩ : TInterval)) en_TInterval_len inf46 rfl b3 (by kernel_rfl)) (fun _ => .inl rfl)) <|
 .cons [5] (ok_val (fun u2 => .slice ((u2 2).o 0) ((List.replicate (a0.length : Int).toNat (⟨0, 0⟩ : TInterval)).length) ((u2 2).n 0)) 5) <| .nil) [0, 1, 5, 27, 28, 30, 29] fun u2 a w' H => ?_
 refine k_seq ?_
 obtain ⟨j5, hj5, G⟩ := bnd G
 refine k_join (fun a w' => ∃ (p_j4 : Option Addr) (c_j4 np_j4 : Nat), np_j4 = j5.length ∧ RL w 27 [(5, sS p_j4 np_j4 c_j4), (900035, owK 46 2 p_j4 np_j4 c_j4 (j5.flatMap en_TInterval)), (29, bxK b_a1_0 [vI a1_0] 3)] a w') ?_ ?_
 ·clear H; rintro a w' ⟨p_j4, c_j4, _, rfl, H⟩
  refine k_srk mixed H (.v 26 (.slice p_j4 j5.length c_j4) <|
 .v 4 (.slice p_j4 j5.length c_j4) <| .nil) [4, 900035, 29] fun u6 a w' H => ?_
  refine k_ret ?_
  obtain rfl := sj G
  obtain ⟨g, o0, n0⟩ := gh_r p_j4 c_j4
  refine k_doneZ H _ g _ _ _ fr [900035] [] (.slice p_j4 j5.length c_j4) [fun _ => owl 46 2 p_j4 c_j4 j5 en_TInterval] (by simp only [owl, o0, n0]) (by simp only [owl, o0, n0]) hfr (.inl ⟨rfl, rfl⟩) (fams_cons fam_ow fams_nil) (by simp)
 ·clear G; replace G := hj5; clear hj5
  refine k_srk mixed H (.v 11 (.slice p_a0 L_a0.length c_a0) <|
 .cons [12] (ok_v1 27 (rdl anyF 1 p_a0 c_a0 L_a0 enSl) (vI (a0.length : Int)) 12 fun _ w h => run_lenN (((rdF_of h).2.len enSl_len (by decide)).trans (map_len h_a0).symm) (by kernel_rfl)) <|
 .v 13 (vI 0) <| .nil) [1, 5, 11, 12, 13, 27, 28, 30, 29] fun u7 a w' H => ?_
  refine k_block ?_
  replace H := H.move (K := owl 46 2 ((u2 2).o 0) ((u2 2).n 0) (List.replicate (a0.length : Int).toNat (⟨0, 0⟩ : TInterval)) en_TInterval) 30 900036 (by kernel_rfl) (by intro _ _ h; cases h)
  refine k_loopJ (fun m a w' => ∃ x8 : List TInterval, ∃ x9 : Int, api_Interval_118_s119.l10 k0 a0 a1_0 m x8 x9 = some j5 ∧ ∃ (p_x8 : Option Addr) (c_x8 np_x8 : Nat), np_x8 = x8.length ∧ RL w 27 [(1, .slot true (.func (.func 119) #[] #[vP b_a1_0 0])), (5, sS p_x8 np_x8 c_x8), (11, sS p_a0 L_a0.length c_a0), (12, (sI (a0.length : Int))), (13, sI x9), (27, rdl anyF 1 p_a0 c_a0 L_a0 enSl), (28, dnK anyF E_S_TInterval.toPart L_a0), (900036, owK 46 2 p_x8 np_x8 c_x8 (x8.flatMap en_TInterval)), (29, bxK b_a1_0 [vI a1_0] 3)] a w') k0 ⟨_, _, G, ((u2 2).o 0), ((u2 2).n 0), (List.replicate (a0.length : Int).toNat (⟨0, 0⟩ : TInterval)).length, rfl, H.toM _⟩ ?_
  clear G H
  rintro (_ | k) a w' ⟨x8, x9, G, p_x8, c_x8, _, rfl, H⟩
  ·exact absurd G (by unfold api_Interval_118_s119.l10; exact fun h => by cases h)
  ·unfold api_Interval_118_s119.l10 at G
   refine k_srk mixed H (.v 14 (.bool (decide (x9 < (a0.length : Int)))) <| .nil) [1, 5, 11, 12, 13, 14, 27, 28, 900036, 29] fun u11 a w' H => ?_
   refine k_seq ?_
   refine k_cnd H (decide (x9 < (a0.length : Int))) (fun c20 => ?_) fun c20 => ?_
   ·rw [if_pos c20] at G
    refine k_skip ?_
    refine k_seq ?_
    refine k_block ?_
    refine k_seq ?_
    replace G := gd G; obtain ⟨b13, G⟩ := G
    obtain ⟨t14, ht14, G⟩ := bnd G
    obtain ⟨p_t14, c_t14, y_t14⟩ := sl_get h_a0 ht14
    refine k_rk mixed H (.v 15 (vI x9) <|
 .cons [16] (ok_v1 27 (rdl anyF 1 p_a0 c_a0 L_a0 enSl) (.pointer (some ⟨hdB p_a0, hdO p_a0 + x9.toNat * 1, none⟩)) 16 fun _ w h => ixr 195 .i64 x9 p_a0 L_a0.length c_a0 a0 enSl (rdF_of h).2 enSl_len (map_len h_a0) b13) <|
 .cons [17] (ok_v1 27 (rdl anyF 1 p_a0 c_a0 L_a0 enSl) (.slice p_t14 t14.length c_t14) 17 fun _ w h => ldr enSl (rdF_of h).2 enSl_len y_t14 0 1 [.slice p_t14 t14.length c_t14]) <|
 .v 6 (vI x9) <|
 .v 7 (.slice p_t14 t14.length c_t14) <| .nil) [1, 5, 6, 7, 11, 12, 13, 27, 28, 900036, 29] fun u12 a w' H => ?_
    obtain ⟨t16, ht16, G⟩ := bnd G
    replace G := gd G; obtain ⟨b17, G⟩ := G
    obtain ⟨t18, ht18, G⟩ := bnd G
    refine k_rk mixed H (.v 18 (.slice p_x8 x8.length c_x8) <|
 .v 19 (vI x9) <|
 .v 20 (.func (.func 119) #[] #[vP b_a1_0 0]) <|
 .v 21 (vI x9) <|
 .v 22 (.slice p_t14 t14.length c_t14) <|
 .cons [23] (ok_callL [28, 29] (fun u15 => [dnK anyF E_S_TInterval.toPart L_a0, bxK b_a1_0 [vI a1_0] 3]) 119 _ _ 23 (fun u15 w hF => step_Remainder_1_m.calls x9 t14 a1_0 p_t14 c_t14 b_a1_0 t16 w  ⟨(rdA (show RowC _ 2 p_t14 t14.length c_t14 (t14.flatMap en_TInterval) from ((dn_of hF.1) _ (List.mem_of_getElem? y_t14)).1)), (bx_fact (hF.2.1 w (agree.refl _ _)) 0).2.1, trivial⟩ ht16)) <|
 .cons [24] (ok_v1 900036 (owl 46 2 p_x8 c_x8 x8 en_TInterval) (.pointer (some ⟨hdB p_x8, hdO p_x8 + x9.toNat * 2, none⟩)) 24 fun _ w h => ixr 48 .i64 x9 p_x8 x8.length c_x8 x8 en_TInterval (owns_rowC (ow_of h)).2 en_TInterval_len rfl b17) <|
 .cons [900036, 900036] (ok_own1 [] [] (fun u15 => []) 900036 (fun u15 => owl 46 2 p_x8 c_x8 x8 en_TInterval) none (fun u15 g => .nilFunc) (fun u15 g => owK 46 2 p_x8 x8.length c_x8 ((x8.set x9.toNat t16).flatMap en_TInterval)) (fun u15 w hF hK => tv_set (el_storeN (ow_of hK) en_TInterval_len (y := t16) (vs := [vI t16.Lo, vI t16.Hi]) ht18 0 (by simp) (by simp) rfl (by kernel_rfl)))) <| .nil) [1, 5, 11, 12, 13, 27, 28, 900036, 29] fun u15 a w' H => ?_
    refine k_rk mixed H (.v 25 (vI (w_i64 (x9 + 1))) <|
 .v 13 (vI (w_i64 (x9 + 1))) <| .nil) [1, 5, 11, 12, 13, 27, 28, 900036, 29] fun u19 a w' H => ?_
    exact ⟨k, Nat.lt_succ_self k, _, _, G, p_x8, c_x8, x8.length, by simp, H.toM _⟩
   ·rw [if_neg (nt c20)] at G
    refine k_exit rfl ?_
    obtain rfl := sj G
    replace H := H.move (K := owl 46 2 p_x8 c_x8 x8 en_TInterval) 900036 900035 (by kernel_rfl) (by intro _ _ h; cases h)
    exact ⟨p_x8, c_x8, x8.length, rfl, H.toM _⟩
theorem step_Remainder.calls (k0 : Nat) (a0 : TTape) (a1 : List TInterval) (a2 : TTimeStep) (a3 : Int) (p_a0_L : Option Addr) (c_a0_L : Nat) (p_a0_Out : Option Addr) (c_a0_Out : Nat) (p_a1 : Option Addr) (c_a1 : Nat) (r : List TInterval) (w : World) (hB : AllH [rdl anyF 5 p_a0_L c_a0_L a0.L en_TInstruction, rdl anyF 1 p_a0_Out c_a0_Out a0.Out en_i64, rdl anyF 2 p_a1 c_a1 a1 en_TInterval, gk] w) (G : step_Remainder k0 a0 a1 a2 a3 = some r) :
  Calls Tryz.prog 97 #[.agg #[vI a0.N, .slice p_a0_L a0.L.length c_a0_L, .slice p_a0_Out a0.Out.length c_a0_Out], .slice p_a1 a1.length c_a1, .agg #[vI a2.T, vI a2.H], vI a3] w fun e w' => ∃ g : Gh, e = .returned (.slice (g.o 0) r.length (g.n 0)) ∧ But (fpK []) w w' ∧ OutOK w.heap.size (fpK []) (frI w.heap.size []) [fun _ => owl 46 2 (g.o 0) (g.n 0) r en_TInterval] w' := by
 obtain ⟨fr, hfr, hBf⟩ := frs w []
 refine k_enterF (args := [.agg #[vI a0.N, .slice p_a0_L a0.L.length c_a0_L, .slice p_a0_Out a0.Out.length c_a0_Out], .slice p_a1 a1.length c_a1, .agg #[vI a2.T, vI a2.H], vI a3]) 26 [(26, rdl anyF 5 p_a0_L c_a0_L a0.L en_TInstruction), (27, rdl anyF 1 p_a0_Out c_a0_Out a0.Out en_i64), (28, rdl anyF 2 p_a1 c_a1 a1 en_TInterval), (999999, gk)] (by
  intro x hx
  simp only [List.mem_cons, List.not_mem_nil, or_false] at hx
  rcases hx with rfl | rfl | rfl | rfl
  ·exact rdF_fact (rdF_of hB.1) (fun _ _ => trivial) (by decide) _
  ·exact rdF_fact (rdF_of hB.2.1) (fun _ _ => trivial) (by decide) _
  ·exact rdF_fact (rdF_of hB.2.2.1) (fun _ _ => trivial) (by decide) _
  ·exact ⟨⟨_, _, rfl⟩, hB.2.2.2.1, glob_in (glob_of hB.2.2.2.1)⟩) Tryz.func97 rfl (by kernel_rfl) (by kernel_rfl) fun a H => ?_
 unfold step_Remainder at G
 refine k_srk mixed H (.cons [4, 29] (ok_new (fun b => vP b 0) (fun u1 => [vI a0.N, .slice p_a0_L a0.L.length c_a0_L, .slice p_a0_Out a0.Out.length c_a0_Out]) 38 4 29) <|
 .cons [6, 30] (ok_new (fun b => vP b 0) (fun u1 => [vI a2.T, vI a2.H]) 53 6 30) <|
 .cons [7, 31] (ok_new (fun b => vP b 0) (fun u1 => [vI a3]) 3 7 31) <|
 .v 8 (.slice none 0 0) <| .nil) [1, 4, 6, 7, 26, 27, 28, 29, 30, 31, 999999] fun u1 a w' H => ?_
 obtain ⟨t3, ht3, G⟩ := bnd G
 refine k_srk mixed H (.cons [10] (ok_ldc (.agg #[vI a0.N, .slice p_a0_L a0.L.length c_a0_L, .slice p_a0_Out a0.Out.length c_a0_Out]) 10 29 0 3 ((u1 0).n 0) [vI a0.N, .slice p_a0_L a0.L.length c_a0_L, .slice p_a0_Out a0.Out.length c_a0_Out] 38) <|
 .v 11 (.slice p_a1 a1.length c_a1) <|
 .v 12 (vP ((u1 1).n 0) 0) <|
 .cons [13] (ok_ldc (vI a2.T) 13 30 0 1 ((u1 1).n 0) [vI a2.T, vI a2.H] 53) <|
 .v 14 (vP ((u1 1).n 0) 0) <|
 .cons [15] (ok_ldc (vI a2.T) 15 30 0 1 ((u1 1).n 0) [vI a2.T, vI a2.H] 53) <|
 .v 16 (vP ((u1 1).n 0) 1) <|
 .cons [17] (ok_ldc (vI a2.H) 17 30 1 1 ((u1 1).n 0) [vI a2.T, vI a2.H] 53) <|
 .v 18 (vI (w_i64 (a2.T + a2.H))) <|
 .v 19 (.agg #[vI a2.T, vI (w_i64 (a2.T + a2.H))]) <|
 .cons [20] (ok_ldc (vI a3) 20 31 0 1 ((u1 2).n 0) [vI a3] 3) <|
 .v 21 (vI (w_i64 (a3 + 1))) <|
 .cons [22, 32] (ok_callY false fr [] [26, 27, 28, 999999] (fun u2 => [rdl anyF 5 p_a0_L c_a0_L a0.L en_TInstruction, rdl anyF 1 p_a0_Out c_a0_Out a0.Out en_i64, rdl anyF 2 p_a1 c_a1 a1 en_TInterval, gk]) [] (fun u2 => []) 99 _ _ _ _ _ [32] 22 (fun u2 w hB hF hM => series_Coefficients.calls k0 (⟨a0.N, a0.L, a0.Out⟩ : TTape) a1 (⟨a2.T, w_i64 (a2.T + a2.H)⟩ : TInterval) (w_i64 (a3 + 1)) p_a0_L c_a0_L p_a0_Out c_a0_Out p_a1 c_a1 t3 w  hB ht3) (fun u2 w hF => ⟨⟨sub_rd0 (rdF_of hF.1) (fun j h => ⟨_, (.head _), h⟩), sub_rd0 (rdF_of hF.2.1) (fun j h => ⟨_, (.tail _ (.head _)), h⟩), sub_rd0 (rdF_of hF.2.2.1) (fun j h => ⟨_, (.tail _ (.tail _ (.head _))), h⟩), sub_k hF.2.2.2.1 (.tail _ (.tail _ (.tail _ (.head _)))), trivial⟩, trivial⟩) (fun u2 g => (fams_cons fam_ns fams_nil)) (.inr (fun u2 g => (famx_cons trivial (fun K h => by cases h)))) (fun h => by cases h)) <|
 .cons [9] (ok_val (fun u2 => slgd_S_TInterval (u2 12) 0 t3) 9) <| .nil) [7, 9, 31, 32, 999999] fun u2 a w' H => ?_
 obtain ⟨t5, ht5, G⟩ := bnd G
 refine k_srk mixed H (.v 23 (slgd_S_TInterval (u2 12) 0 t3) <|
 .v 24 (.func (.func 119) #[] #[vP ((u1 2).n 0) 0]) <|
 .cons [25, 33] (ok_callY false fr [] [32, 31] (fun u4 => [ns_en_TIntervalg (u2 12) 0 t3, .blk ((u1 2).n 0) [vI a3] 3]) [] (fun u4 => []) 118 _ _ _ _ _ [33] 25 (fun u4 w hB hF hM => api_Interval_118_s119.calls k0 t3 a3 ((u2 12).o 0) ((u2 12).n 0) (dlgd_S_TInterval (u2 12) 0 t3) ((u1 2).n 0) t5 w (dl_er ergd_S_TInterval (u2 12) 0 t3) hB ht5) (fun u4 w hF => ⟨⟨sub_rd0 (ns_of hF.1).row (fun j h => ⟨_, (.head _), (ns_fpH h)⟩), sub_dn0 (ns_of hF.1).all (fun j h => ⟨_, (.head _), (ns_fpA h)⟩), sub_bx hF.2.1 (.tail _ (.head _)) rfl, trivial⟩, trivial⟩) (fun u4 g => (fams_cons fam_ow fams_nil)) (.inr (fun u4 g => (famx_cons trivial (fun K h => by cases h)))) (fun h => by cases h)) <|
 .cons [8] (ok_val (fun u4 => .slice ((u4 2).o 0) t5.length ((u4 2).n 0)) 8) <| .nil) [8, 33, 999999] fun u4 a w' H => ?_
 refine k_ret ?_
 obtain rfl := sj G
 obtain ⟨g, o0, n0⟩ := gh_r ((u4 2).o 0) ((u4 2).n 0)
 refine k_doneZ H _ g _ _ _ fr [33] [] (.slice ((u4 2).o 0) t5.length ((u4 2).n 0)) [fun _ => owl 46 2 ((u4 2).o 0) ((u4 2).n 0) t5 en_TInterval] (by simp only [owl, o0, n0]) (by simp only [owl, o0, n0]) hfr (.inl ⟨rfl, rfl⟩) (fams_cons fam_ow fams_nil) (by simp)
theorem api_Interval_67.calls (a0 : Bool) (a1 : TInterval) (a2 : TInterval) (r : TInterval) (w : World) (G : api_Interval_67 a0 a1 a2 = some r) :
  Calls Tryz.prog 67 #[.bool a0, .agg #[vI a1.Lo, vI a1.Hi], .agg #[vI a2.Lo, vI a2.Hi]] w fun e w' => e = .returned (.agg #[vI r.Lo, vI r.Hi]) ∧ Below w.heap.size w w' := by
 refine k_enter (args := [.bool a0, .agg #[vI a1.Lo, vI a1.Hi], .agg #[vI a2.Lo, vI a2.Hi]]) 10 Tryz.func67 rfl (by kernel_rfl) (by kernel_rfl) fun a H => ?_
 unfold api_Interval_67 at G
 refine k_srk mixed H (.cons [4, 10] (ok_new (fun b => vP b 0) (fun u1 => [vI a1.Lo, vI a1.Hi]) 46 4 10) <|
 .cons [5, 11] (ok_new (fun b => vP b 0) (fun u1 => [vI a2.Lo, vI a2.Hi]) 46 5 11) <|
 .cons [6, 12] (ok_new (fun b => vP b 0) (fun u1 => [vI 0, vI 0]) 46 6 12) <| .nil) [0, 4, 5, 6, 10, 11, 12] fun u1 a w' H => ?_
 refine k_seq ?_
 refine k_srk mixed H (.v 7 (.bool a0) <| .nil) [4, 5, 6, 7, 10, 11, 12] fun u2 a w' H => ?_
 refine k_cnd H a0 (fun c5 => ?_) fun c5 => ?_
 ·rw [if_pos c5] at G
  refine k_srk mixed H (.cons [8] (ok_ldc (.agg #[vI a1.Lo, vI a1.Hi]) 8 10 0 2 ((u1 0).n 0) [vI a1.Lo, vI a1.Hi] 46) <|
 .cons [12] (ok_stc 12 0 ((u1 2).n 0) [vI 0, vI 0] [vI a1.Lo, vI a1.Hi] 46 [vI a1.Lo, vI a1.Hi]) <| .nil) [6, 12] fun u3 a w' H => ?_
  refine k_ret ?_
  obtain rfl := sj G
  exact k_done1 H _ 12 ((u1 2).n 0) [vI a1.Lo, vI a1.Hi] 46 0 2 (by kernel_rfl) (by kernel_rfl) (by kernel_rfl) (by kernel_rfl)
 ·rw [if_neg (nt c5)] at G
  refine k_skip ?_
  refine k_srk mixed H (.cons [9] (ok_ldc (.agg #[vI a2.Lo, vI a2.Hi]) 9 11 0 2 ((u1 1).n 0) [vI a2.Lo, vI a2.Hi] 46) <|
 .cons [12] (ok_stc 12 0 ((u1 2).n 0) [vI 0, vI 0] [vI a2.Lo, vI a2.Hi] 46 [vI a2.Lo, vI a2.Hi]) <| .nil) [6, 12] fun u4 a w' H => ?_
  refine k_ret ?_
  obtain rfl := sj G
  exact k_done1 H _ 12 ((u1 2).n 0) [vI a2.Lo, vI a2.Hi] 46 0 2 (by kernel_rfl) (by kernel_rfl) (by kernel_rfl) (by kernel_rfl)
theorem interval_Intersect.calls (a0 : TInterval) (a1 : TInterval) (r : TInterval × Bool) (w : World) (G : interval_Intersect a0 a1 = some r) :
  Calls Tryz.prog 44 #[.agg #[vI a0.Lo, vI a0.Hi], .agg #[vI a1.Lo, vI a1.Hi]] w fun e w' => e = .returned (.tuple #[.agg #[vI r.1.Lo, vI r.1.Hi], .bool r.2]) ∧ Below w.heap.size w w' := by
 refine k_enter (args := [.agg #[vI a0.Lo, vI a0.Hi], .agg #[vI a1.Lo, vI a1.Hi]]) 29 Tryz.func44 rfl (by kernel_rfl) (by kernel_rfl) fun a H => ?_
 unfold interval_Intersect at G
 refine k_srk mixed H (.cons [2, 29] (ok_new (fun b => vP b 0) (fun u1 => [vI a0.Lo, vI a0.Hi]) 46 2 29) <|
 .cons [3, 30] (ok_new (fun b => vP b 0) (fun u1 => [vI a1.Lo, vI a1.Hi]) 46 3 30) <|
 .cons [4, 31] (ok_new (fun b => vP b 0) (fun u1 => [vI 0, vI 0]) 46 4 31) <|
 .v 5 (.bool false) <| .nil) [2, 3, 4, 29, 30, 31] fun u1 a w' H => ?_
 refine k_srk mixed H (.v 8 (vP ((u1 0).n 0) 0) <|
 .cons [9] (ok_ldc (vI a0.Lo) 9 29 0 1 ((u1 0).n 0) [vI a0.Lo, vI a0.Hi] 46) <|
 .v 10 (vP ((u1 1).n 0) 0) <|
 .cons [11] (ok_ldc (vI a1.Lo) 11 30 0 1 ((u1 1).n 0) [vI a1.Lo, vI a1.Hi] 46) <|
 .v 12 (vI (mx a0.Lo a1.Lo)) <|
 .v 13 (vP ((u1 0).n 0) 1) <|
 .cons [14] (ok_ldc (vI a0.Hi) 14 29 1 1 ((u1 0).n 0) [vI a0.Lo, vI a0.Hi] 46) <|
 .v 15 (vP ((u1 1).n 0) 1) <|
 .cons [16] (ok_ldc (vI a1.Hi) 16 30 1 1 ((u1 1).n 0) [vI a1.Lo, vI a1.Hi] 46) <|
 .v 17 (vI (mn a0.Hi a1.Hi)) <|
 .v 18 (.agg #[vI (mx a0.Lo a1.Lo), vI (mn a0.Hi a1.Hi)]) <|
 .cons [6, 32] (ok_new (fun b => vP b 0) (fun u2 => [vI 0, vI 0]) 46 6 32) <|
 .cons [32] (ok_as (u' := fun u2 => [(32, .blk ((u2 11).n 0) [vI (mx a0.Lo a1.Lo), vI (mn a0.Hi a1.Hi)] 46)]) (ok_store 32 0 (fun u2 => ((u2 11).n 0)) (fun u2 => [vI 0, vI 0]) (fun u2 => [vI (mx a0.Lo a1.Lo), vI (mn a0.Hi a1.Hi)]) 46) (fun _ => by kernel_rfl)) <| .nil) [4, 6, 31, 32] fun u2 a w' H => ?_
 refine k_srk mixed H (.v 19 (vP ((u2 11).n 0) 0) <|
 .cons [20] (ok_ldc (vI (mx a0.Lo a1.Lo)) 20 32 0 1 ((u2 11).n 0) [vI (mx a0.Lo a1.Lo), vI (mn a0.Hi a1.Hi)] 46) <|
 .v 21 (vP ((u2 11).n 0) 1) <|
 .cons [22] (ok_ldc (vI (mn a0.Hi a1.Hi)) 22 32 1 1 ((u2 11).n 0) [vI (mx a0.Lo a1.Lo), vI (mn a0.Hi a1.Hi)] 46) <|
 .v 23 (.bool (decide ((mx a0.Lo a1.Lo) ≤ (mn a0.Hi a1.Hi)))) <|
 .v 7 (.bool (decide ((mx a0.Lo a1.Lo) ≤ (mn a0.Hi a1.Hi)))) <| .nil) [4, 6, 7, 31, 32] fun u3 a w' H => ?_
 obtain ⟨t5, ht5, G⟩ := bnd G
 refine k_srk mixed H (.v 24 (.bool (decide ((mx a0.Lo a1.Lo) ≤ (mn a0.Hi a1.Hi)))) <|
 .cons [25] (ok_ldc (.agg #[vI (mx a0.Lo a1.Lo), vI (mn a0.Hi a1.Hi)]) 25 32 0 2 ((u2 11).n 0) [vI (mx a0.Lo a1.Lo), vI (mn a0.Hi a1.Hi)] 46) <|
 .v 26 (.agg #[vI 0, vI 0]) <|
 .cons [27] (ok_callv 67 _ _ 27 [] (fun u4 w _ => api_Interval_67.calls (decide ((mx a0.Lo a1.Lo) ≤ (mn a0.Hi a1.Hi))) (⟨mx a0.Lo a1.Lo, mn a0.Hi a1.Hi⟩ : TInterval) (⟨0, 0⟩ : TInterval)  t5 w  ht5)) <|
 .v 28 (.bool (decide ((mx a0.Lo a1.Lo) ≤ (mn a0.Hi a1.Hi)))) <|
 .cons [31] (ok_stc 31 0 ((u1 2).n 0) [vI 0, vI 0] [vI t5.Lo, vI t5.Hi] 46 [vI t5.Lo, vI t5.Hi]) <|
 .v 5 (.bool (decide ((mx a0.Lo a1.Lo) ≤ (mn a0.Hi a1.Hi)))) <| .nil) [4, 5, 31] fun u4 a w' H => ?_
 refine k_ret ?_
 obtain rfl := sj G
 exact k_done1 H _ 31 ((u1 2).n 0) [vI t5.Lo, vI t5.Hi] 46 0 2 (by kernel_rfl) (by kernel_rfl) (by kernel_rfl) (by kernel_rfl)
theorem series_Eval_1_m.calls (a0 : TInterval) (q0 : TInterval) (b_q0 : Nat) (r : TInterval) (w : World) (hB : AllH [bxK b_q0 [vI q0.Lo, vI q0.Hi] 46, gk] w) (G : series_Eval_1_m a0 q0 = some r) :
  Calls Tryz.prog 126 #[.agg #[vI a0.Lo, vI a0.Hi], vP b_q0 0] w fun e w' => e = .returned (.agg #[vI r.Lo, vI r.Hi]) ∧ Below w.heap.size w w' := by
 obtain ⟨fr, hfr⟩ : ∃ fr : Nat → Prop, ∀ j, fr j := ⟨fun _ => True, fun _ => trivial⟩
 have hBf : ∀ j, w.heap.size ≤ j → fr j := fun j _ => hfr j
 refine k_enterF (args := [.agg #[vI a0.Lo, vI a0.Hi], vP b_q0 0]) 7 [(7, bxK b_q0 [vI q0.Lo, vI q0.Hi] 46), (999999, gk)] (by
  intro x hx
  simp only [List.mem_cons, List.not_mem_nil, or_false] at hx
  rcases hx with rfl | rfl
  ·exact bx_fact (hB.1 w (agree.refl _ _)) _
  ·exact ⟨⟨_, _, rfl⟩, hB.2.1, glob_in (glob_of hB.2.1)⟩) Tryz.func126 rfl (by kernel_rfl) (by kernel_rfl) fun a H => ?_
 unfold series_Eval_1_m at G
 refine k_srk mixed H (.cons [2, 8] (ok_new (fun b => vP b 0) (fun u1 => [vI a0.Lo, vI a0.Hi]) 46 2 8) <|
 .cons [3, 9] (ok_new (fun b => vP b 0) (fun u1 => [vI 0, vI 0]) 46 3 9) <| .nil) [1, 2, 3, 8, 9, 7, 999999] fun u1 a w' H => ?_
 obtain ⟨t3, ht3, G⟩ := bnd G
 refine k_srk mixed H (.cons [4] (ok_ldc (.agg #[vI a0.Lo, vI a0.Hi]) 4 8 0 2 ((u1 0).n 0) [vI a0.Lo, vI a0.Hi] 46) <|
 .cons [5] (ok_ldK (fun u2 => .agg #[vI q0.Lo, vI q0.Hi]) 5 7 (bxK b_q0 [vI q0.Lo, vI q0.Hi] 46) b_q0 0 2 [vI q0.Lo, vI q0.Hi] (fun w h => bx_of h)) <|
 .cons [6] (ok_callL [999999] (fun u2 => [gk]) 127 _ _ 6 (fun u2 w hF => interval_Mul.calls a0 q0  t3 w  (glob_of hF.1) ht3)) <|
 .cons [9] (ok_stc 9 0 ((u1 1).n 0) [vI 0, vI 0] [vI t3.Lo, vI t3.Hi] 46 [vI t3.Lo, vI t3.Hi]) <| .nil) [3, 9, 7, 999999] fun u2 a w' H => ?_
 refine k_ret ?_
 obtain rfl := sj G
 exact k_done1 H _ 9 ((u1 1).n 0) [vI t3.Lo, vI t3.Hi] 46 0 2 (by kernel_rfl) (by kernel_rfl) (by kernel_rfl) (by kernel_rfl)
theorem api_Interval_125_s126_s90.calls (k0 : Nat) (a0 : List (List TInterval)) (a1_0 : TInterval) (p_a0 : Option Addr) (c_a0 : Nat) (L_a0 : List (Sl TInterval)) (b_a1_0 : Nat) (r : List TInterval) (w : World) (h_a0 : a0 = L_a0.map Sl.l) (hB : AllH [rdl anyF 1 p_a0 c_a0 L_a0 enSl, dnK anyF E_S_TInterval.toPart L_a0, bxK b_a1_0 [vI a1_0.Lo, vI a1_0.Hi] 46, gk] w) (G : api_Interval_125_s126_s90 k0 a0 a1_0 = some r) :
  Calls Tryz.prog 125 #[.slice p_a0 L_a0.length c_a0, .func (.func 126) #[] #[vP b_a1_0 0], .func (.func 90) #[] #[]] w fun e w' => ∃ g : Gh, e = .returned (.slice (g.o 0) r.length (g.n 0)) ∧ But (fpK []) w w' ∧ OutOK w.heap.size (fpK []) (frI w.heap.size []) [fun _ => owl 46 2 (g.o 0) (g.n 0) r en_TInterval] w' := by
 obtain ⟨fr, hfr, hBf⟩ := frs w []
 refine k_enterF (args := [.slice p_a0 L_a0.length c_a0, .func (.func 126) #[] #[vP b_a1_0 0], .func (.func 90) #[] #[]]) 50 [(50, rdl anyF 1 p_a0 c_a0 L_a0 enSl), (51, dnK anyF E_S_TInterval.toPart L_a0), (52, bxK b_a1_0 [vI a1_0.Lo, vI a1_0.Hi] 46), (999999, gk)] (by
  intro x hx
  simp only [List.mem_cons, List.not_mem_nil, or_false] at hx
  rcases hx with rfl | rfl | rfl | rfl
  ·exact rdF_fact (rdF_of hB.1) (fun _ _ => trivial) (by decide) _
  ·exact dn_fact (dn_of hB.2.1) (fun _ _ => trivial) _
  ·exact bx_fact (hB.2.2.1 w (agree.refl _ _)) _
  ·exact ⟨⟨_, _, rfl⟩, hB.2.2.2.1, glob_in (glob_of hB.2.2.2.1)⟩) Tryz.func125 rfl (by kernel_rfl) (by kernel_rfl) fun a H => ?_
 unfold api_Interval_125_s126_s90 at G
 refine k_srk mixed H (.v 6 (.slice none 0 0) <| .nil) [0, 1, 2, 50, 51, 52, 999999] fun u1 a w' H => ?_
 refine k_seq ?_
 replace G := gd G; obtain ⟨b3, G⟩ := G
 refine k_rk mixed H (.v 12 (.slice p_a0 L_a0.length c_a0) <|
 .cons [13] (ok_v1 50 (rdl anyF 1 p_a0 c_a0 L_a0 enSl) (vI (a0.length : Int)) 13 fun _ w h => run_lenN (((rdF_of h).2.len enSl_len (by decide)).trans (map_len h_a0).symm) (by kernel_rfl)) <|
 .cons [14, 53] (ok_rowL [] (fun u2 => []) 46 2 (List.replicate (a0.length : Int).toNat (⟨0, 0⟩ : TInterval)).length ((List.replicate (a0.length : Int).toNat (⟨0, 0⟩ : TInterval)).flatMap en_TInterval) 14 53 (fun _ => .none) (fun u2 w hF => run_make_row (t := 48) (k := .i64) (m := (a0.length : Int)) (en := en_TInterval) (z := (⟨0, 0⟩ : TInterval)) en_TInterval_len inf46 rfl b3 (by kernel_rfl)) (fun _ => .inl rfl)) <|
 .cons [7] (ok_val (fun u2 => .slice ((u2 2).o 0) ((List.replicate (a0.length : Int).toNat (⟨0, 0⟩ : TInterval)).length) ((u2 2).n 0)) 7) <| .nil) [0, 1, 2, 7, 50, 51, 53, 52, 999999] fun u2 a w' H => ?_
 refine k_seq ?_
 obtain ⟨j5, hj5, G⟩ := bnd G
 refine k_join (fun a w' => ∃ (p_j4 : Option Addr) (c_j4 np_j4 : Nat), np_j4 = j5.length ∧ RL w 50 [(7, sS p_j4 np_j4 c_j4), (900037, owK 46 2 p_j4 np_j4 c_j4 (j5.flatMap en_TInterval)), (52, bxK b_a1_0 [vI a1_0.Lo, vI a1_0.Hi] 46), (999999, gk)] a w') ?_ ?_
 ·clear H; rintro a w' ⟨p_j4, c_j4, _, rfl, H⟩
  refine k_srk mixed H (.v 49 (.slice p_j4 j5.length c_j4) <|
 .v 6 (.slice p_j4 j5.length c_j4) <| .nil) [6, 900037, 52, 999999] fun u6 a w' H => ?_
  refine k_ret ?_
  obtain rfl := sj G
  obtain ⟨g, o0, n0⟩ := gh_r p_j4 c_j4
  refine k_doneZ H _ g _ _ _ fr [900037] [] (.slice p_j4 j5.length c_j4) [fun _ => owl 46 2 p_j4 c_j4 j5 en_TInterval] (by simp only [owl, o0, n0]) (by simp only [owl, o0, n0]) hfr (.inl ⟨rfl, rfl⟩) (fams_cons fam_ow fams_nil) (by simp)
 ·clear G; replace G := hj5; clear hj5
  refine k_srk mixed H (.v 15 (.slice p_a0 L_a0.length c_a0) <|
 .cons [16] (ok_v1 50 (rdl anyF 1 p_a0 c_a0 L_a0 enSl) (vI (a0.length : Int)) 16 fun _ w h => run_lenN (((rdF_of h).2.len enSl_len (by decide)).trans (map_len h_a0).symm) (by kernel_rfl)) <|
 .v 17 (vI 0) <| .nil) [1, 2, 7, 15, 16, 17, 50, 51, 53, 52, 999999] fun u7 a w' H => ?_
  refine k_block ?_
  replace H := H.move (K := owl 46 2 ((u2 2).o 0) ((u2 2).n 0) (List.replicate (a0.length : Int).toNat (⟨0, 0⟩ : TInterval)) en_TInterval) 53 900038 (by kernel_rfl) (by intro _ _ h; cases h)
  refine k_loopJ (fun m a w' => ∃ x8 : List TInterval, ∃ x9 : Int, api_Interval_125_s126_s90.l10 k0 a0 a1_0 m x8 x9 = some j5 ∧ ∃ (p_x8 : Option Addr) (c_x8 np_x8 : Nat), np_x8 = x8.length ∧ RL w 50 [(1, .slot true (.func (.func 126) #[] #[vP b_a1_0 0])), (2, .slot true (.func (.func 90) #[] #[])), (7, sS p_x8 np_x8 c_x8), (15, sS p_a0 L_a0.length c_a0), (16, (sI (a0.length : Int))), (17, sI x9), (50, rdl anyF 1 p_a0 c_a0 L_a0 enSl), (51, dnK anyF E_S_TInterval.toPart L_a0), (900038, owK 46 2 p_x8 np_x8 c_x8 (x8.flatMap en_TInterval)), (52, bxK b_a1_0 [vI a1_0.Lo, vI a1_0.Hi] 46), (999999, gk)] a w') k0 ⟨_, _, G, ((u2 2).o 0), ((u2 2).n 0), (List.replicate (a0.length : Int).toNat (⟨0, 0⟩ : TInterval)).length, rfl, H.toM _⟩ ?_
  clear G H
  rintro (_ | k) a w' ⟨x8, x9, G, p_x8, c_x8, _, rfl, H⟩
  ·exact absurd G (by unfold api_Interval_125_s126_s90.l10; exact fun h => by cases h)
  ·unfold api_Interval_125_s126_s90.l10 at G
   refine k_srk mixed H (.v 18 (.bool (decide (x9 < (a0.length : Int)))) <| .nil) [1, 2, 7, 15, 16, 17, 18, 50, 51, 900038, 52, 999999] fun u11 a w' H => ?_
   refine k_seq ?_
   refine k_cnd H (decide (x9 < (a0.length : Int))) (fun c40 => ?_) fun c40 => ?_
   ·rw [if_pos c40] at G
    refine k_skip ?_
    refine k_seq ?_
    obtain ⟨j13, hj13, G⟩ := bnd G
    refine k_join (fun a w' => ∃ (p_j12 : Option Addr) (c_j12 np_j12 : Nat), np_j12 = j13.length ∧ RL w 50 [(1, .slot true (.func (.func 126) #[] #[vP b_a1_0 0])), (2, .slot true (.func (.func 90) #[] #[])), (7, sS p_j12 np_j12 c_j12), (15, sS p_a0 L_a0.length c_a0), (16, (sI (a0.length : Int))), (17, sI x9), (50, rdl anyF 1 p_a0 c_a0 L_a0 enSl), (51, dnK anyF E_S_TInterval.toPart L_a0), (900039, owK 46 2 p_j12 np_j12 c_j12 (j13.flatMap en_TInterval)), (52, bxK b_a1_0 [vI a1_0.Lo, vI a1_0.Hi] 46), (999999, gk)] a w') ?_ ?_
    ·clear H; rintro a w' ⟨p_j12, c_j12, _, rfl, H⟩
     refine k_rk mixed H (.v 48 (vI (w_i64 (x9 + 1))) <|
 .v 17 (vI (w_i64 (x9 + 1))) <| .nil) [1, 2, 7, 15, 16, 17, 50, 51, 900039, 52, 999999] fun u14 a w' H => ?_
     replace H := H.move (K := owl 46 2 p_j12 c_j12 j13 en_TInterval) 900039 900038 (by kernel_rfl) (by intro _ _ h; cases h)
     exact ⟨k, Nat.lt_succ_self k, _, _, G, p_j12, c_j12, j13.length, rfl, H.toM _⟩
    ·clear G; replace G := hj13; clear hj13
     refine k_block ?_
     refine k_seq ?_
     replace G := gd G; obtain ⟨b16, G⟩ := G
     obtain ⟨t17, ht17, G⟩ := bnd G
     obtain ⟨p_t17, c_t17, y_t17⟩ := sl_get h_a0 ht17
     refine k_rk mixed H (.v 19 (vI x9) <|
 .cons [20] (ok_v1 50 (rdl anyF 1 p_a0 c_a0 L_a0 enSl) (.pointer (some ⟨hdB p_a0, hdO p_a0 + x9.toNat * 1, none⟩)) 20 fun _ w h => ixr 195 .i64 x9 p_a0 L_a0.length c_a0 a0 enSl (rdF_of h).2 enSl_len (map_len h_a0) b16) <|
 .cons [21] (ok_v1 50 (rdl anyF 1 p_a0 c_a0 L_a0 enSl) (.slice p_t17 t17.length c_t17) 21 fun _ w h => ldr enSl (rdF_of h).2 enSl_len y_t17 0 1 [.slice p_t17 t17.length c_t17]) <|
 .v 8 (vI x9) <|
 .v 9 (.slice p_t17 t17.length c_t17) <| .nil) [1, 2, 7, 8, 9, 15, 16, 17, 50, 51, 900038, 52, 999999] fun u15 a w' H => ?_
     refine k_seq ?_
     replace G := gd G; obtain ⟨b19, G⟩ := G
     obtain ⟨t20, ht20, G⟩ := bnd G
     refine k_rk mixed H (.v 22 (.slice p_t17 t17.length c_t17) <|
 .v 23 (.slice p_t17 t17.length c_t17) <|
 .v 24 (vI (t17.length : Int)) <|
 .v 25 (vI (w_i64 ((t17.length : Int) - 1))) <|
 .cons [26] (ok_v1 51 (dnK anyF E_S_TInterval.toPart L_a0) (.pointer (some ⟨hdB p_t17, hdO p_t17 + ((w_i64 ((t17.length : Int) - 1)).toNat) * 2, none⟩)) 26 fun _ w h => ixr 48 .i64 (w_i64 ((t17.length : Int) - 1)) p_t17 t17.length c_t17 t17 en_TInterval (show RowC _ 2 p_t17 t17.length c_t17 (t17.flatMap en_TInterval) from ((dn_of h) _ (List.mem_of_getElem? y_t17)).1).2 en_TInterval_len rfl b19) <|
 .cons [27] (ok_v1 51 (dnK anyF E_S_TInterval.toPart L_a0) (.agg #[vI t20.Lo, vI t20.Hi]) 27 fun _ w h => ldr en_TInterval (show RowC _ 2 p_t17 t17.length c_t17 (t17.flatMap en_TInterval) from ((dn_of h) _ (List.mem_of_getElem? y_t17)).1).2 en_TInterval_len ht20 0 2 [vI t20.Lo, vI t20.Hi]) <|
 .cons [10, 55] (ok_new (fun b => vP b 0) (fun u18 => [vI 0, vI 0]) 46 10 55) <|
 .cons [55] (ok_as (u' := fun u18 => [(55, .blk ((u18 6).n 0) [vI t20.Lo, vI t20.Hi] 46)]) (ok_store 55 0 (fun u18 => ((u18 6).n 0)) (fun u18 => [vI 0, vI 0]) (fun u18 => [vI t20.Lo, vI t20.Hi]) 46) (fun _ => by kernel_rfl)) <| .nil) [1, 2, 7, 8, 9, 10, 15, 16, 17, 50, 51, 55, 900038, 52, 999999] fun u18 a w' H => ?_
     refine k_seq ?_
     obtain ⟨j23, hj23, G⟩ := bnd G
     refine k_join (fun a w' => RL w 50 [(1, .slot true (.func (.func 126) #[] #[vP b_a1_0 0])), (2, .slot true (.func (.func 90) #[] #[])), (7, sS p_x8 x8.length c_x8), (8, sI x9), (10, (sP ((u18 6).n 0) 0)), (15, sS p_a0 L_a0.length c_a0), (16, (sI (a0.length : Int))), (17, sI x9), (50, rdl anyF 1 p_a0 c_a0 L_a0 enSl), (51, dnK anyF E_S_TInterval.toPart L_a0), (55, .blk ((u18 6).n 0) [vI j23.1, vI j23.2] 46), (900038, owl 46 2 p_x8 c_x8 x8 en_TInterval), (52, bxK b_a1_0 [vI a1_0.Lo, vI a1_0.Hi] 46), (999999, gk)] a w') ?_ ?_
     ·clear H; intro a w' H
      replace G := gd G; obtain ⟨b25, G⟩ := G
      obtain ⟨t26, ht26, G⟩ := bnd G
      refine k_rk mixed H (.v 44 (.slice p_x8 x8.length c_x8) <|
 .v 45 (vI x9) <|
 .cons [46] (ok_ldc (.agg #[vI j23.1, vI j23.2]) 46 55 0 2 ((u18 6).n 0) [vI j23.1, vI j23.2] 46) <|
 .cons [47] (ok_v1 900038 (owl 46 2 p_x8 c_x8 x8 en_TInterval) (.pointer (some ⟨hdB p_x8, hdO p_x8 + x9.toNat * 2, none⟩)) 47 fun _ w h => ixr 48 .i64 x9 p_x8 x8.length c_x8 x8 en_TInterval (owns_rowC (ow_of h)).2 en_TInterval_len rfl b25) <|
 .cons [900038, 900038] (ok_own1 [] [] (fun u24 => []) 900038 (fun u24 => owl 46 2 p_x8 c_x8 x8 en_TInterval) none (fun u24 g => .nilFunc) (fun u24 g => owK 46 2 p_x8 x8.length c_x8 ((x8.set x9.toNat (⟨j23.1, j23.2⟩ : TInterval)).flatMap en_TInterval)) (fun u24 w hF hK => tv_set (el_storeN (ow_of hK) en_TInterval_len (y := (⟨j23.1, j23.2⟩ : TInterval)) (vs := [vI j23.1, vI j23.2]) ht26 0 (by simp) (by simp) rfl (by kernel_rfl)))) <| .nil) [1, 2, 7, 15, 16, 17, 50, 51, 900038, 52, 999999] fun u24 a w' H => ?_
      obtain rfl := sj G
      replace H := H.move (K := owK 46 2 p_x8 x8.length c_x8 ((x8.set x9.toNat (⟨j23.1, j23.2⟩ : TInterval)).flatMap en_TInterval)) 900038 900039 (by kernel_rfl) (by intro _ _ h; cases h)
      exact ⟨p_x8, c_x8, x8.length, by simp, H.toM _⟩
     ·clear G; replace G := hj23; clear hj23
      refine k_srk mixed H (.v 28 (.slice p_t17 t17.length c_t17) <|
 .v 29 (vI (t17.length : Int)) <|
 .v 30 (vI (w_i64 ((t17.length : Int) - 2))) <|
 .v 11 (vI (w_i64 ((t17.length : Int) - 2))) <| .nil) [1, 2, 7, 8, 9, 10, 11, 15, 16, 17, 50, 51, 55, 900038, 52, 999999] fun u27 a w' H => ?_
      refine k_block ?_
      refine k_loopJ (fun m a w' => ∃ x28 : Int, ∃ x29 : Int, ∃ x30 : Int, api_Interval_125_s126_s90.l31 k0 a0 a1_0 x8 x9 t17 t20 m x28 x29 x30 = some j23 ∧ RL w 50 [(1, .slot true (.func (.func 126) #[] #[vP b_a1_0 0])), (2, .slot true (.func (.func 90) #[] #[])), (7, sS p_x8 x8.length c_x8), (8, sI x9), (9, sS p_t17 t17.length c_t17), (10, (sP ((u18 6).n 0) 0)), (11, sI x30), (15, sS p_a0 L_a0.length c_a0), (16, (sI (a0.length : Int))), (17, sI x9), (50, rdl anyF 1 p_a0 c_a0 L_a0 enSl), (51, dnK anyF E_S_TInterval.toPart L_a0), (55, .blk ((u18 6).n 0) [vI x28, vI x29] 46), (900038, owl 46 2 p_x8 c_x8 x8 en_TInterval), (52, bxK b_a1_0 [vI a1_0.Lo, vI a1_0.Hi] 46), (999999, gk)] a w') k0 ⟨_, _, _, G, H.toM _⟩ ?_
      clear G H
      rintro (_ | k) a w' ⟨x28, x29, x30, G, H⟩
      ·exact absurd G (by unfold api_Interval_125_s126_s90.l31; exact fun h => by cases h)
      ·unfold api_Interval_125_s126_s90.l31 at G
       refine k_seq ?_
       refine k_srk mixed H (.v 31 (vI x30) <|
 .v 32 (.bool (decide (x30 ≥ 0))) <| .nil) [1, 2, 7, 8, 9, 10, 11, 15, 16, 17, 32, 50, 51, 55, 900038, 52, 999999] fun u32 a w' H => ?_
       refine k_cnd H (decide (x30 ≥ 0)) (fun c39 => ?_) fun c39 => ?_
       ·rw [if_pos c39] at G
        refine k_skip ?_
        refine k_seq ?_
        refine k_block ?_
        obtain ⟨t34, ht34, G⟩ := bnd G
        replace G := gd G; obtain ⟨b35, G⟩ := G
        obtain ⟨t36, ht36, G⟩ := bnd G
        obtain ⟨t37, ht37, G⟩ := bnd G
        refine k_rk mixed H (.v 35 (.func (.func 90) #[] #[]) <|
 .v 36 (.func (.func 126) #[] #[vP b_a1_0 0]) <|
 .cons [37] (ok_ldc (.agg #[vI x28, vI x29]) 37 55 0 2 ((u18 6).n 0) [vI x28, vI x29] 46) <|
 .cons [38] (ok_callL [52, 999999] (fun u33 => [bxK b_a1_0 [vI a1_0.Lo, vI a1_0.Hi] 46, gk]) 126 _ _ 38 (fun u33 w hF => series_Eval_1_m.calls (⟨x28, x29⟩ : TInterval) a1_0 b_a1_0 t34 w  ⟨(bx_fact (hF.1 w (agree.refl _ _)) 0).2.1, hF.2.1, trivial⟩ ht34)) <|
 .v 39 (.slice p_t17 t17.length c_t17) <|
 .v 40 (vI x30) <|
 .cons [41] (ok_v1 51 (dnK anyF E_S_TInterval.toPart L_a0) (.pointer (some ⟨hdB p_t17, hdO p_t17 + x30.toNat * 2, none⟩)) 41 fun _ w h => ixr 48 .i64 x30 p_t17 t17.length c_t17 t17 en_TInterval (show RowC _ 2 p_t17 t17.length c_t17 (t17.flatMap en_TInterval) from ((dn_of h) _ (List.mem_of_getElem? y_t17)).1).2 en_TInterval_len rfl b35) <|
 .cons [42] (ok_v1 51 (dnK anyF E_S_TInterval.toPart L_a0) (.agg #[vI t36.Lo, vI t36.Hi]) 42 fun _ w h => ldr en_TInterval (show RowC _ 2 p_t17 t17.length c_t17 (t17.flatMap en_TInterval) from ((dn_of h) _ (List.mem_of_getElem? y_t17)).1).2 en_TInterval_len ht36 0 2 [vI t36.Lo, vI t36.Hi]) <|
 .cons [43] (ok_callv 90 _ _ 43 [] (fun u33 w _ => interval_Add.calls t34 t36  t37 w  ht37)) <|
 .cons [55] (ok_stc 55 0 ((u18 6).n 0) [vI x28, vI x29] [vI t37.Lo, vI t37.Hi] 46 [vI t37.Lo, vI t37.Hi]) <| .nil) [1, 2, 7, 8, 9, 10, 11, 15, 16, 17, 50, 51, 55, 900038, 52, 999999] fun u33 a w' H => ?_
        refine k_rk mixed H (.v 33 (vI x30) <|
 .v 34 (vI (w_i64 (x30 - 1))) <|
 .v 11 (vI (w_i64 (x30 - 1))) <| .nil) [1, 2, 7, 8, 9, 10, 11, 15, 16, 17, 50, 51, 55, 900038, 52, 999999] fun u38 a w' H => ?_
        exact ⟨k, Nat.lt_succ_self k, _, _, _, G, H.toM _⟩
       ·rw [if_neg (nt c39)] at G
        refine k_exit rfl ?_
        obtain rfl := sj G
        exact H.toM _
   ·rw [if_neg (nt c40)] at G
    refine k_exit rfl ?_
    obtain rfl := sj G
    replace H := H.move (K := owl 46 2 p_x8 c_x8 x8 en_TInterval) 900038 900037 (by kernel_rfl) (by intro _ _ h; cases h)
    exact ⟨p_x8, c_x8, x8.length, rfl, H.toM _⟩
theorem series_Eval.calls (k0 : Nat) (a0 : List (List TInterval)) (a1 : TInterval) (p_a0 : Option Addr) (c_a0 : Nat) (L_a0 : List (Sl TInterval)) (r : List TInterval) (w : World) (h_a0 : a0 = L_a0.map Sl.l) (hB : AllH [rdl anyF 1 p_a0 c_a0 L_a0 enSl, dnK anyF E_S_TInterval.toPart L_a0, gk] w) (G : series_Eval k0 a0 a1 = some r) :
  Calls Tryz.prog 102 #[.slice p_a0 L_a0.length c_a0, .agg #[vI a1.Lo, vI a1.Hi]] w fun e w' => ∃ g : Gh, e = .returned (.slice (g.o 0) r.length (g.n 0)) ∧ But (fpK []) w w' ∧ OutOK w.heap.size (fpK []) (frI w.heap.size []) [fun _ => owl 46 2 (g.o 0) (g.n 0) r en_TInterval] w' := by
 obtain ⟨fr, hfr, hBf⟩ := frs w []
 refine k_enterF (args := [.slice p_a0 L_a0.length c_a0, .agg #[vI a1.Lo, vI a1.Hi]]) 8 [(8, rdl anyF 1 p_a0 c_a0 L_a0 enSl), (9, dnK anyF E_S_TInterval.toPart L_a0), (999999, gk)] (by
  intro x hx
  simp only [List.mem_cons, List.not_mem_nil, or_false] at hx
  rcases hx with rfl | rfl | rfl
  ·exact rdF_fact (rdF_of hB.1) (fun _ _ => trivial) (by decide) _
  ·exact dn_fact (dn_of hB.2.1) (fun _ _ => trivial) _
  ·exact ⟨⟨_, _, rfl⟩, hB.2.2.1, glob_in (glob_of hB.2.2.1)⟩) Tryz.func102 rfl (by kernel_rfl) (by kernel_rfl) fun a H => ?_
 unfold series_Eval at G
 refine k_srk mixed H (.cons [3, 10] (ok_new (fun b => vP b 0) (fun u1 => [vI a1.Lo, vI a1.Hi]) 46 3 10) <|
 .v 4 (.slice none 0 0) <| .nil) [0, 3, 8, 9, 10, 999999] fun u1 a w' H => ?_
 obtain ⟨t3, ht3, G⟩ := bnd G
 refine k_srk mixed H (.v 5 (.slice p_a0 L_a0.length c_a0) <|
 .v 6 (.func (.func 126) #[] #[vP ((u1 0).n 0) 0]) <|
 .cons [7, 11] (ok_callY false fr [] [8, 9, 10, 999999] (fun u2 => [rdl anyF 1 p_a0 c_a0 L_a0 enSl, dnK anyF E_S_TInterval.toPart L_a0, .blk ((u1 0).n 0) [vI a1.Lo, vI a1.Hi] 46, gk]) [] (fun u2 => []) 125 _ _ _ _ _ [11] 7 (fun u2 w hB hF hM => api_Interval_125_s126_s90.calls k0 a0 a1 p_a0 c_a0 L_a0 ((u1 0).n 0) t3 w h_a0 hB ht3) (fun u2 w hF => ⟨⟨sub_rd0 (rdF_of hF.1) (fun j h => ⟨_, (.head _), h⟩), sub_dn0 (dn_of hF.2.1) (fun j h => ⟨_, (.tail _ (.head _)), h⟩), sub_bx hF.2.2.1 (.tail _ (.tail _ (.head _))) rfl, sub_k hF.2.2.2.1 (.tail _ (.tail _ (.tail _ (.head _)))), trivial⟩, trivial⟩) (fun u2 g => (fams_cons fam_ow fams_nil)) (.inr (fun u2 g => (famx_cons trivial (fun K h => by cases h)))) (fun h => by cases h)) <|
 .cons [4] (ok_val (fun u2 => .slice ((u2 2).o 0) t3.length ((u2 2).n 0)) 4) <| .nil) [4, 11, 999999] fun u2 a w' H => ?_
 refine k_ret ?_
 obtain rfl := sj G
 obtain ⟨g, o0, n0⟩ := gh_r ((u2 2).o 0) ((u2 2).n 0)
 refine k_doneZ H _ g _ _ _ fr [11] [] (.slice ((u2 2).o 0) t3.length ((u2 2).n 0)) [fun _ => owl 46 2 ((u2 2).o 0) ((u2 2).n 0) t3 en_TInterval] (by simp only [owl, o0, n0]) (by simp only [owl, o0, n0]) hfr (.inl ⟨rfl, rfl⟩) (fams_cons fam_ow fams_nil) (by simp)
theorem step_EnclosureAt_1_m.calls (a0 : Int) (a1 : List TInterval) (q0 : List TInterval) (p_a1 : Option Addr) (c_a1 : Nat) (b_q0 : Nat) (p_q0 : Option Addr) (c_q0 : Nat) (r : List TInterval) (w : World) (hB : AllH [rdl anyF 2 p_q0 c_q0 q0 en_TInterval, bxK b_q0 [.slice p_q0 q0.length c_q0] 48] w) (hM : OwnH [owl 46 2 p_a1 c_a1 a1 en_TInterval] ([rdl anyF 2 p_q0 c_q0 q0 en_TInterval, bxK b_q0 [.slice p_q0 q0.length c_q0] 48] ++ []) w) (G : step_EnclosureAt_1_m a0 a1 q0 = some r) :
  Calls Tryz.prog 100 #[vI a0, .slice p_a1 a1.length c_a1, vP b_q0 0] w fun e w' => ∃ g : Gh, e = .returned (.slice (g.o 0) r.length (g.n 0)) ∧ But (fpK [owl 46 2 p_a1 c_a1 a1 en_TInterval]) w w' ∧ OutOK w.heap.size (fpK [owl 46 2 p_a1 c_a1 a1 en_TInterval]) (frI w.heap.size []) [fun _ => owl 46 2 (g.o 0) (g.n 0) r en_TInterval] w' := by
 obtain ⟨fr, hfr, hBf⟩ := frs w []
 refine k_enterY (args := [vI a0, .slice p_a1 a1.length c_a1, vP b_q0 0]) 13 [(15, rdl anyF 2 p_q0 c_q0 q0 en_TInterval), (14, bxK b_q0 [.slice p_q0 q0.length c_q0] 48)] [(13, owl 46 2 p_a1 c_a1 a1 en_TInterval)] (ownH_fps hM (by rfl)) (by
  intro x hx
  simp only [List.mem_cons, List.not_mem_nil, or_false] at hx
  rcases hx with rfl | rfl
  ·exact rdF_fact (rdF_of hB.1) (fun _ _ => trivial) (by decide) _
  ·exact bx_fact (hB.2.1 w (agree.refl _ _)) _) (by rfl) Tryz.func100 rfl (by kernel_rfl) (by kernel_rfl) fun a H => ?_
 unfold step_EnclosureAt_1_m at G
 refine k_srk mixed H (.v 5 (.slice none 0 0) <| .nil) [0, 1, 2, 13, 15, 14, 999998] fun u1 a w' H => ?_
 refine k_seq ?_
 replace G := gd G; obtain ⟨b3, G⟩ := G
 obtain ⟨t4, ht4, G⟩ := bnd G
 replace G := gd G; obtain ⟨b5, G⟩ := G
 refine k_rk mixed H (.v 6 (.slice p_a1 a1.length c_a1) <|
 .cons [7] (ok_ldK (fun u2 => .slice p_q0 q0.length c_q0) 7 14 (bxK b_q0 [.slice p_q0 q0.length c_q0] 48) b_q0 0 1 [.slice p_q0 q0.length c_q0] (fun w h => bx_of h)) <|
 .v 8 (vI a0) <|
 .cons [9] (ok_v1 15 (rdl anyF 2 p_q0 c_q0 q0 en_TInterval) (.pointer (some ⟨hdB p_q0, hdO p_q0 + a0.toNat * 2, none⟩)) 9 fun _ w h => ixr 48 .i64 a0 p_q0 q0.length c_q0 q0 en_TInterval (rdF_of h).2 en_TInterval_len rfl b3) <|
 .cons [10] (ok_v1 15 (rdl anyF 2 p_q0 c_q0 q0 en_TInterval) (.agg #[vI t4.Lo, vI t4.Hi]) 10 fun _ w h => ldr en_TInterval (rdF_of h).2 en_TInterval_len ht4 0 2 [vI t4.Lo, vI t4.Hi]) <|
 .cons [11, 16] (ok_new (fun b => .slice (some ⟨b, 0, none⟩) 1 1) (fun u2 => [vI t4.Lo, vI t4.Hi]) 46 11 16) <|
 .cons [12, 13, 13] (ok_own1 [5] [16] (fun u2 => [.blk ((u2 5).n 0) [vI t4.Lo, vI t4.Hi] 46]) 13 (fun u2 => owl 46 2 p_a1 c_a1 a1 en_TInterval) (some 12) (fun u2 g => .slice (g.o 0) (a1 ++ [t4]).length (g.n 0)) (fun u2 g => owl 46 2 (g.o 0) (g.n 0) (a1 ++ [t4]) en_TInterval) (fun u2 w hF hK => tv_app (run_app_rowN (t := 48) (ty := 48) (en := en_TInterval) en_TInterval_len inf46 (ow_of hK) hF.1 (news := [t4]) rfl (by simp) (by kernel_rfl) b5)) (hloc := fun u u' h => ⟨by first | rfl | simp only [h 5 (by decide)], by first | rfl | simp only [h 5 (by decide)], by first | rfl | simp only [h 5 (by decide)], by first | rfl | simp only [h 5 (by decide)]⟩)) <|
 .cons [5] (ok_val (fun u2 => .slice ((u2 6).o 0) ((a1 ++ [t4]).length) ((u2 6).n 0)) 5) <| .nil) [5, 13, 15, 14, 999998] fun u2 a w' H => ?_
 refine k_ret ?_
 obtain rfl := sj G
 obtain ⟨g, o0, n0⟩ := gh_r ((u2 6).o 0) ((u2 6).n 0)
 refine k_doneZ H _ g _ _ _ fr [13] [] (.slice ((u2 6).o 0) ((a1 ++ [t4]).length) ((u2 6).n 0)) [fun _ => owl 46 2 ((u2 6).o 0) ((u2 6).n 0) (a1 ++ [t4]) en_TInterval] (by simp only [owl, o0, n0]) (by simp only [owl, o0, n0]) hfr (.inr (by kernel_rfl)) (fams_cons fam_ow fams_nil) (by simp)
theorem api_Interval_98_s100.calls (k0 : Nat) (a0 : List TInterval) (a1_0 : List TInterval) (p_a0 : Option Addr) (n_a0 c_a0 : Nat) (q_a0 : Option Addr) (d_a0 : Nat) (b_a1_0 : Nat) (p_a1_0 : Option Addr) (c_a1_0 : Nat) (r : List (List TInterval)) (w : World) (hn_a0 : n_a0 = 1) (hB : AllH [rdF anyF 1 p_a0 n_a0 c_a0 (([⟨q_a0, d_a0, a0⟩] : List (Sl TInterval)).flatMap enSl), rdl anyF 2 p_a1_0 c_a1_0 a1_0 en_TInterval, bxK b_a1_0 [.slice p_a1_0 a1_0.length c_a1_0] 48] w) (hM : OwnH [owl 46 2 q_a0 d_a0 a0 en_TInterval] ([rdF anyF 1 p_a0 n_a0 c_a0 (([⟨q_a0, d_a0, a0⟩] : List (Sl TInterval)).flatMap enSl), rdl anyF 2 p_a1_0 c_a1_0 a1_0 en_TInterval, bxK b_a1_0 [.slice p_a1_0 a1_0.length c_a1_0] 48] ++ []) w) (G : api_Interval_98_s100 k0 a0 a1_0 = some r) :
  Calls Tryz.prog 98 #[.slice p_a0 n_a0 c_a0, .func (.func 100) #[] #[vP b_a1_0 0]] w fun e w' => ∃ g : Gh, e = .returned (slgd_S_TInterval g 0 r) ∧ But (fpK [owl 46 2 q_a0 d_a0 a0 en_TInterval]) w w' ∧ OutOK w.heap.size (fpK [owl 46 2 q_a0 d_a0 a0 en_TInterval]) (frI w.heap.size []) [fun _ => ns_en_TIntervalg g 0 r] w' := by
 subst hn_a0
 obtain ⟨fr, hfr, hBf⟩ := frs w []
 refine k_enterY (args := [.slice p_a0 1 c_a0, .func (.func 100) #[] #[vP b_a1_0 0]]) 27 [(27, rdF anyF 1 p_a0 1 c_a0 (([⟨q_a0, d_a0, a0⟩] : List (Sl TInterval)).flatMap enSl)), (30, rdl anyF 2 p_a1_0 c_a1_0 a1_0 en_TInterval), (29, bxK b_a1_0 [.slice p_a1_0 a1_0.length c_a1_0] 48)] [(28, owl 46 2 q_a0 d_a0 a0 en_TInterval)] (ownH_fps hM (by rfl)) (by
  intro x hx
  simp only [List.mem_cons, List.not_mem_nil, or_false] at hx
  rcases hx with rfl | rfl | rfl
  ·exact rdF_fact (rdF_of hB.1) (fun _ _ => trivial) (by decide) _
  ·exact rdF_fact (rdF_of hB.2.1) (fun _ _ => trivial) (by decide) _
  ·exact bx_fact (hB.2.2.1 w (agree.refl _ _)) _) (by rfl) Tryz.func98 rfl (by kernel_rfl) (by kernel_rfl) fun a H => ?_
 unfold api_Interval_98_s100 at G
 refine k_srk mixed H (.v 4 (.slice none 0 0) <| .nil) [0, 1, 27, 28, 30, 29, 999998] fun u1 a w' H => ?_
 refine k_seq ?_
 replace G := gd G; obtain ⟨b3, G⟩ := G
 refine k_rk mixed H (.v 8 (.slice p_a0 1 c_a0) <|
 .v 9 (vI 1) <|
 .cons [10, 31] (ok_nest0 46 2 en_TInterval (ok_rowL [] (fun u2 => []) 48 1 (List.replicate (1 : Int).toNat (⟨none, 0, []⟩ : Sl TInterval)).length ((List.replicate (1 : Int).toNat (⟨none, 0, []⟩ : Sl TInterval)).flatMap enSl) 10 31 (fun _ => .none) (fun u2 w hF => run_make_row (t := 195) (k := .i64) (m := (1 : Int)) (en := enSl) (z := (⟨none, 0, []⟩ : Sl TInterval)) enSl_len inf48 rfl b3 (by kernel_rfl)) (fun _ => .inl rfl)) repl_nil) <|
 .cons [5] (ok_val (fun u2 => .slice ((u2 2).o 0) ((List.replicate (1 : Int).toNat (⟨none, 0, []⟩ : Sl TInterval)).length) ((u2 2).n 0)) 5) <| .nil) [0, 1, 5, 27, 28, 30, 31, 29, 999998] fun u2 a w' H => ?_
 refine k_seq ?_
 refine k_srk mixed H (.v 11 (.slice p_a0 1 c_a0) <|
 .v 12 (vI 1) <|
 .v 13 (vI 0) <| .nil) [1, 5, 11, 12, 13, 27, 28, 30, 31, 29, 999998] fun u4 a w' H => ?_
 refine k_block ?_
 refine k_loop ?_
 refine k_rnd ?_
 refine k_srk mixed H (.v 14 (.bool true) <| .nil) [1, 5, 11, 12, 13, 14, 27, 28, 30, 31, 29, 999998] fun u5 a w' H => ?_
 refine k_seq ?_
 refine k_cond_true H (by kernel_rfl) (by kernel_rfl) ?_
 refine k_skip ?_
 refine k_seq ?_
 refine k_block ?_
 refine k_srk mixed H (.v 15 (vI 0) <|
 .cons [16] (ok_v1 27 (rdF anyF 1 p_a0 1 c_a0 (([⟨q_a0, d_a0, a0⟩] : List (Sl TInterval)).flatMap enSl)) (.pointer (some ⟨hdB p_a0, hdO p_a0 + ((0 : Int).toNat) * 1, none⟩)) 16 fun _ w h => ixr 195 .i64 0 p_a0 1 c_a0 [a0] enSl (rdF_of h).2 enSl_len (map_len (er := Sl.l) (x := [a0]) (L := ([⟨q_a0, d_a0, a0⟩] : List (Sl TInterval))) rfl) ⟨by simp, by simp⟩) <|
 .cons [17] (ok_v1 27 (rdF anyF 1 p_a0 1 c_a0 (([⟨q_a0, d_a0, a0⟩] : List (Sl TInterval)).flatMap enSl)) (.slice q_a0 a0.length d_a0) 17 fun _ w h => ldr enSl (rdF_of h).2 enSl_len (show ([⟨q_a0, d_a0, a0⟩] : List (Sl TInterval))[(0 : Int).toNat]? = some _ from rfl) 0 1 [.slice q_a0 a0.length d_a0]) <|
 .v 6 (vI 0) <|
 .v 7 (.slice q_a0 a0.length d_a0) <| .nil) [1, 5, 6, 7, 11, 12, 13, 27, 28, 30, 31, 29, 999998] fun u6 a w' H => ?_
 replace G := bnd G; obtain ⟨t8, ht8, G⟩ := G
 replace G := gd G; obtain ⟨b9, G⟩ := G
 replace G := bnd G; obtain ⟨t10, ht10, G⟩ := G
 obtain ⟨p_t10, c_t10, y_t10⟩ := sl_get (map_repl (er := Sl.l) (1 : Int).toNat (⟨none, 0, []⟩ : Sl TInterval)) ht10
 refine k_rk mixed H (.v 18 (.slice ((u2 2).o 0) ((List.replicate (1 : Int).toNat (⟨none, 0, []⟩ : Sl TInterval)).length) ((u2 2).n 0)) <|
 .v 19 (vI 0) <|
 .v 20 (.func (.func 100) #[] #[vP b_a1_0 0]) <|
 .v 21 (vI 0) <|
 .v 22 (.slice q_a0 a0.length d_a0) <|
 .cons [23, 28, 32] (ok_callY false fr [] [30, 29] (fun u7 => [rdl anyF 2 p_a1_0 c_a1_0 a1_0 en_TInterval, bxK b_a1_0 [.slice p_a1_0 a1_0.length c_a1_0] 48]) [28] (fun u7 => [owl 46 2 q_a0 d_a0 a0 en_TInterval]) 100 _ _ _ _ _ [32] 23 (fun u7 w hB hF hM => step_EnclosureAt_1_m.calls 0 a0 a1_0 q_a0 d_a0 b_a1_0 p_a1_0 c_a1_0 t8 w  hB hM ht8) (fun u7 w hF => ⟨⟨sub_rd0 (rdF_of hF.1) (fun j h => ⟨_, (.head _), h⟩), sub_bx (hF.2.1 w (agree.refl _ _)) (.tail _ (.head _)) rfl, trivial⟩, trivial⟩) (fun u7 g => (fams_cons fam_ow fams_nil)) (.inr (fun u7 g => (famx_cons trivial (fun K h => by cases h)))) (fun h => by cases h)) <|
 .cons [24] (ok_v1 31 (ns_en_TIntervall ((u2 2).o 0) ((u2 2).n 0) (List.replicate (1 : Int).toNat (⟨none, 0, []⟩ : Sl TInterval))) (.pointer (some ⟨hdB ((u2 2).o 0), hdO ((u2 2).o 0) + ((0 : Int).toNat) * 1, none⟩)) 24 fun _ w h => ix_row (t := 195) (k := .i64) (i := (0 : Int)) (p := ((u2 2).o 0)) (n := (List.replicate (1 : Int).toNat (⟨none, 0, []⟩ : Sl TInterval)).length) (cap := ((u2 2).n 0)) (x := (List.replicate (1 : Int).toNat ([] : List TInterval))) (en := enSl) (ns_of h).row.2 enSl_len (map_len (map_repl (er := Sl.l) (1 : Int).toNat (⟨none, 0, []⟩ : Sl TInterval))) b9 (by kernel_rfl)) <|
 .cons [31, 32, 31] (ok_own2 [5] [] (fun u7 => []) 31 32 (fun u7 => ns_en_TIntervall ((u2 2).o 0) ((u2 2).n 0) (List.replicate (1 : Int).toNat (⟨none, 0, []⟩ : Sl TInterval))) (fun u7 => owl 46 2 ((u7 5).o 0) ((u7 5).n 0) t8 en_TInterval) none (fun u7 g => .nilFunc) (fun u7 g => ns_en_TInterval ((u2 2).o 0) ((List.replicate (1 : Int).toNat (⟨none, 0, []⟩ : Sl TInterval)).length) ((u2 2).n 0) ((List.replicate (1 : Int).toNat (⟨none, 0, []⟩ : Sl TInterval)).set ((0 : Int).toNat) (⟨((u7 5).o 0), ((u7 5).n 0), t8⟩ : Sl TInterval))) (fun u7 w hF hK hK2 hd => tn_take hK hK2 hd en_TInterval_len (by decide) (fun hn h => el_storeN (en := enSl) h enSl_len (y := (⟨((u7 5).o 0), ((u7 5).n 0), t8⟩ : Sl TInterval)) (vs := [.slice ((u7 5).o 0) t8.length ((u7 5).n 0)]) y_t10 0 (by simp) (by simp) rfl (by kernel_rfl))) (hloc := fun u u' h => ⟨by first | rfl | simp only [h 5 (by decide)], by first | rfl | simp only [h 5 (by decide)], by first | rfl | simp only [h 5 (by decide)], by first | rfl | simp only [h 5 (by decide)], by first | rfl | simp only [h 5 (by decide)]⟩)) <| .nil) [1, 5, 12, 13, 30, 31, 29, 999998] fun u7 a w' H => ?_
 refine k_rk mixed H (.v 25 (vI 1) <|
 .v 13 (vI 1) <| .nil) [1, 5, 12, 13, 30, 31, 29, 999998] fun u11 a w' H => ?_
 refine k_rnd ?_
 refine k_srk mixed H (.v 14 (.bool false) <| .nil) [1, 5, 12, 13, 14, 30, 31, 29, 999998] fun u12 a w' H => ?_
 refine k_seq ?_
 refine k_cond_false H (by kernel_rfl) (by kernel_rfl) ?_
 refine k_exit rfl ?_
 refine k_srg mixed H (.v 26 (.slice ((u2 2).o 0) ((List.replicate (1 : Int).toNat (⟨none, 0, []⟩ : Sl TInterval)).length) ((u2 2).n 0)) <|
 .v 4 (.slice ((u2 2).o 0) ((List.replicate (1 : Int).toNat (⟨none, 0, []⟩ : Sl TInterval)).length) ((u2 2).n 0)) <| .nil) fun u13 a w' H => ?_
 replace H := H.toM [(4, (sS ((u2 2).o 0) ((List.replicate (1 : Int).toNat (⟨none, 0, []⟩ : Sl TInterval)).length) ((u2 2).n 0))), (30, rdl anyF 2 p_a1_0 c_a1_0 a1_0 en_TInterval), (31, ns_en_TInterval ((u2 2).o 0) ((List.replicate (1 : Int).toNat (⟨none, 0, []⟩ : Sl TInterval)).length) ((u2 2).n 0) ((List.replicate (1 : Int).toNat (⟨none, 0, []⟩ : Sl TInterval)).set ((0 : Int).toNat) (⟨((u7 5).o 0), ((u7 5).n 0), t8⟩ : Sl TInterval))), (29, bxK b_a1_0 [.slice p_a1_0 a1_0.length c_a1_0] 48), (999998, frM [owl 46 2 q_a0 d_a0 a0 en_TInterval] w)]
 refine k_ret ?_
 obtain rfl := sj G
 obtain ⟨g, o0, n0, d0⟩ := gh_d gd_S_TInterval ((u2 2).o 0) ((u2 2).n 0) (map_set (map_repl (er := Sl.l) (1 : Int).toNat (⟨none, 0, []⟩ : Sl TInterval)) ((0 : Int).toNat) (⟨((u7 5).o 0), ((u7 5).n 0), t8⟩ : Sl TInterval))
 refine k_doneZ H _ g _ _ _ fr [31] [] (.slice ((u2 2).o 0) ((List.replicate (1 : Int).toNat (⟨none, 0, []⟩ : Sl TInterval)).length) ((u2 2).n 0)) [fun _ => ns_en_TInterval ((u2 2).o 0) ((List.replicate (1 : Int).toNat (⟨none, 0, []⟩ : Sl TInterval)).length) ((u2 2).n 0) ((List.replicate (1 : Int).toNat (⟨none, 0, []⟩ : Sl TInterval)).set ((0 : Int).toNat) (⟨((u7 5).o 0), ((u7 5).n 0), t8⟩ : Sl TInterval))] (by simp only [slgd_S_TInterval, dlgd_S_TInterval, ns_en_TIntervalg, ns_en_TIntervall, ns_en_TInterval, owl, o0, n0, d0, List.length_set, List.length_cons, List.length_nil, Nat.zero_add, Nat.reduceAdd]) (by simp only [slgd_S_TInterval, dlgd_S_TInterval, ns_en_TIntervalg, ns_en_TIntervall, ns_en_TInterval, owl, o0, n0, d0, List.length_set, List.length_cons, List.length_nil, Nat.zero_add, Nat.reduceAdd]) hfr (.inr (by kernel_rfl)) (fams_cons fam_ns fams_nil) (by simp)
theorem step_restrictTo_1_1_m.calls (a0 : Int) (a1 : TInterval) (q0 : List TInterval) (b_q0 : Nat) (p_q0 : Option Addr) (c_q0 : Nat) (r : TInterval) (w : World) (hB : AllH [rdl anyF 2 p_q0 c_q0 q0 en_TInterval, bxK b_q0 [.slice p_q0 q0.length c_q0] 48] w) (G : step_restrictTo_1_1_m a0 a1 q0 = some r) :
  Calls Tryz.prog 124 #[vI a0, .agg #[vI a1.Lo, vI a1.Hi], vP b_q0 0] w fun e w' => e = .returned (.agg #[vI r.Lo, vI r.Hi]) ∧ Below w.heap.size w w' := by
 obtain ⟨fr, hfr⟩ : ∃ fr : Nat → Prop, ∀ j, fr j := ⟨fun _ => True, fun _ => trivial⟩
 have hBf : ∀ j, w.heap.size ≤ j → fr j := fun j _ => hfr j
 refine k_enterF (args := [vI a0, .agg #[vI a1.Lo, vI a1.Hi], vP b_q0 0]) 23 [(24, rdl anyF 2 p_q0 c_q0 q0 en_TInterval), (23, bxK b_q0 [.slice p_q0 q0.length c_q0] 48)] (by
  intro x hx
  simp only [List.mem_cons, List.not_mem_nil, or_false] at hx
  rcases hx with rfl | rfl
  ·exact rdF_fact (rdF_of hB.1) (fun _ _ => trivial) (by decide) _
  ·exact bx_fact (hB.2.1 w (agree.refl _ _)) _) Tryz.func124 rfl (by kernel_rfl) (by kernel_rfl) fun a H => ?_
 unfold step_restrictTo_1_1_m at G
 refine k_srk mixed H (.cons [4, 25] (ok_new (fun b => vP b 0) (fun u1 => [vI a1.Lo, vI a1.Hi]) 46 4 25) <|
 .cons [5, 26] (ok_new (fun b => vP b 0) (fun u1 => [vI 0, vI 0]) 46 5 26) <| .nil) [0, 2, 4, 5, 24, 25, 26, 23] fun u1 a w' H => ?_
 refine k_seq ?_
 refine k_seq ?_
 replace G := gd G; obtain ⟨b3, G⟩ := G
 obtain ⟨t4, ht4, G⟩ := bnd G
 have P5 := ptr_of (en := en_TInterval) (l := q0) (rdF_of (H.at (K := rdl anyF 2 p_q0 c_q0 q0 en_TInterval) 24 (by kernel_rfl))).2 en_TInterval_len
 obtain ⟨t6, ht6, G⟩ := bnd G
 refine k_rk mixed H (.cons [9] (ok_ldc (.agg #[vI a1.Lo, vI a1.Hi]) 9 25 0 2 ((u1 0).n 0) [vI a1.Lo, vI a1.Hi] 46) <|
 .cons [10] (ok_ldK (fun u2 => .slice p_q0 q0.length c_q0) 10 23 (bxK b_q0 [.slice p_q0 q0.length c_q0] 48) b_q0 0 1 [.slice p_q0 q0.length c_q0] (fun w h => bx_of h)) <|
 .v 11 (vI a0) <|
 .cons [12] (ok_val (fun u2 => .pointer (some ⟨hdB p_q0, hdO p_q0 + a0.toNat * 2, none⟩)) 12 (hv := fun _ _ => ix_pure (t := 48) (k := .i64) (i := a0) (p := p_q0) (n := q0.length) (cap := c_q0) (x := q0) P5 rfl b3 (by kernel_rfl))) <|
 .cons [13] (ok_v1 24 (rdl anyF 2 p_q0 c_q0 q0 en_TInterval) (.agg #[vI t4.Lo, vI t4.Hi]) 13 fun _ w h => ldr en_TInterval (rdF_of h).2 en_TInterval_len ht4 0 2 [vI t4.Lo, vI t4.Hi]) <|
 .cons [14] (ok_callv 44 _ _ 14 [] (fun u2 w _ => interval_Intersect.calls a1 t4  t6 w  ht6)) <|
 .v 8 (.tuple #[.agg #[vI t6.1.Lo, vI t6.1.Hi], .bool t6.2]) <|
 .v 15 (.agg #[vI t6.1.Lo, vI t6.1.Hi]) <|
 .v 16 (.bool t6.2) <|
 .cons [6, 27] (ok_new (fun b => vP b 0) (fun u2 => [vI 0, vI 0]) 46 6 27) <|
 .cons [27] (ok_as (u' := fun u2 => [(27, .blk ((u2 9).n 0) [vI t6.1.Lo, vI t6.1.Hi] 46)]) (ok_store 27 0 (fun u2 => ((u2 9).n 0)) (fun u2 => [vI 0, vI 0]) (fun u2 => [vI t6.1.Lo, vI t6.1.Hi]) 46) (fun _ => by kernel_rfl)) <|
 .v 7 (.bool t6.2) <| .nil) [0, 2, 5, 6, 7, 24, 26, 27, 23] fun u2 a w' H => ?_
 refine k_srk mixed H (.v 17 (.bool t6.2) <| .nil) [0, 2, 5, 6, 17, 24, 26, 27, 23] fun u7 a w' H => ?_
 refine k_cnd H t6.2 (fun c12 => ?_) fun c12 => ?_
 ·rw [if_pos c12] at G
  refine k_srk mixed H (.cons [18] (ok_ldc (.agg #[vI t6.1.Lo, vI t6.1.Hi]) 18 27 0 2 ((u2 9).n 0) [vI t6.1.Lo, vI t6.1.Hi] 46) <|
 .cons [26] (ok_stc 26 0 ((u1 1).n 0) [vI 0, vI 0] [vI t6.1.Lo, vI t6.1.Hi] 46 [vI t6.1.Lo, vI t6.1.Hi]) <| .nil) [5, 24, 26, 23] fun u8 a w' H => ?_
  refine k_ret ?_
  obtain rfl := sj G
  exact k_done1 H _ 26 ((u1 1).n 0) [vI t6.1.Lo, vI t6.1.Hi] 46 0 2 (by kernel_rfl) (by kernel_rfl) (by kernel_rfl) (by kernel_rfl)
 ·rw [if_neg (nt c12)] at G
  refine k_skip ?_
  refine k_seq ?_
  replace G := gd G; obtain ⟨b10, G⟩ := G
  obtain ⟨t11, ht11, G⟩ := bnd G
  refine k_rk mixed H (.cons [19] (ok_ldK (fun u9 => .slice p_q0 q0.length c_q0) 19 23 (bxK b_q0 [.slice p_q0 q0.length c_q0] 48) b_q0 0 1 [.slice p_q0 q0.length c_q0] (fun w h => bx_of h)) <|
 .v 20 (vI a0) <|
 .cons [21] (ok_v1 24 (rdl anyF 2 p_q0 c_q0 q0 en_TInterval) (.pointer (some ⟨hdB p_q0, hdO p_q0 + a0.toNat * 2, none⟩)) 21 fun _ w h => ixr 48 .i64 a0 p_q0 q0.length c_q0 q0 en_TInterval (rdF_of h).2 en_TInterval_len rfl b10) <|
 .cons [22] (ok_v1 24 (rdl anyF 2 p_q0 c_q0 q0 en_TInterval) (.agg #[vI t11.Lo, vI t11.Hi]) 22 fun _ w h => ldr en_TInterval (rdF_of h).2 en_TInterval_len ht11 0 2 [vI t11.Lo, vI t11.Hi]) <|
 .cons [26] (ok_stc 26 0 ((u1 1).n 0) [vI 0, vI 0] [vI t11.Lo, vI t11.Hi] 46 [vI t11.Lo, vI t11.Hi]) <| .nil) [5, 24, 26, 23] fun u9 a w' H => ?_
  refine k_ret ?_
  obtain rfl := sj G
  exact k_done1 H _ 26 ((u1 1).n 0) [vI t11.Lo, vI t11.Hi] 46 0 2 (by kernel_rfl) (by kernel_rfl) (by kernel_rfl) (by kernel_rfl)
theorem api_Interval_123_s124.calls (k0 : Nat) (a0 : List TInterval) (a1_0 : List TInterval) (p_a0 : Option Addr) (c_a0 : Nat) (b_a1_0 : Nat) (p_a1_0 : Option Addr) (c_a1_0 : Nat) (r : List TInterval) (w : World) (hB : AllH [rdl anyF 2 p_a0 c_a0 a0 en_TInterval, rdl anyF 2 p_a1_0 c_a1_0 a1_0 en_TInterval, bxK b_a1_0 [.slice p_a1_0 a1_0.length c_a1_0] 48] w) (G : api_Interval_123_s124 k0 a0 a1_0 = some r) :
  Calls Tryz.prog 123 #[.slice p_a0 a0.length c_a0, .func (.func 124) #[] #[vP b_a1_0 0]] w fun e w' => ∃ g : Gh, e = .returned (.slice (g.o 0) r.length (g.n 0)) ∧ But (fpK []) w w' ∧ OutOK w.heap.size (fpK []) (frI w.heap.size []) [fun _ => owl 46 2 (g.o 0) (g.n 0) r en_TInterval] w' := by
 obtain ⟨fr, hfr, hBf⟩ := frs w []
 refine k_enterF (args := [.slice p_a0 a0.length c_a0, .func (.func 124) #[] #[vP b_a1_0 0]]) 27 [(27, rdl anyF 2 p_a0 c_a0 a0 en_TInterval), (29, rdl anyF 2 p_a1_0 c_a1_0 a1_0 en_TInterval), (28, bxK b_a1_0 [.slice p_a1_0 a1_0.length c_a1_0] 48)] (by
  intro x hx
  simp only [List.mem_cons, List.not_mem_nil, or_false] at hx
  rcases hx with rfl | rfl | rfl
  ·exact rdF_fact (rdF_of hB.1) (fun _ _ => trivial) (by decide) _
  ·exact rdF_fact (rdF_of hB.2.1) (fun _ _ => trivial) (by decide) _
  ·exact bx_fact (hB.2.2.1 w (agree.refl _ _)) _) Tryz.func123 rfl (by kernel_rfl) (by kernel_rfl) fun a H => ?_
 unfold api_Interval_123_s124 at G
 refine k_srk mixed H (.v 4 (.slice none 0 0) <| .nil) [0, 1, 27, 29, 28] fun u1 a w' H => ?_
 refine k_seq ?_
 replace G := gd G; obtain ⟨b3, G⟩ := G
 refine k_rk mixed H (.v 8 (.slice p_a0 a0.length c_a0) <|
 .v 9 (vI (a0.length : Int)) <|
 .cons [10, 30] (ok_rowL [] (fun u2 => []) 46 2 (List.replicate (a0.length : Int).toNat (⟨0, 0⟩ : TInterval)).length ((List.replicate (a0.length : Int).toNat (⟨0, 0⟩ : TInterval)).flatMap en_TInterval) 10 30 (fun _ => .none) (fun u2 w hF => run_make_row (t := 48) (k := .i64) (m := (a0.length : Int)) (en := en_TInterval) (z := (⟨0, 0⟩ : TInterval)) en_TInterval_len inf46 rfl b3 (by kernel_rfl)) (fun _ => .inl rfl)) <|
 .cons [5] (ok_val (fun u2 => .slice ((u2 2).o 0) ((List.replicate (a0.length : Int).toNat (⟨0, 0⟩ : TInterval)).length) ((u2 2).n 0)) 5) <| .nil) [0, 1, 5, 27, 29, 30, 28] fun u2 a w' H => ?_
 refine k_seq ?_
 obtain ⟨j5, hj5, G⟩ := bnd G
 refine k_join (fun a w' => ∃ (p_j4 : Option Addr) (c_j4 np_j4 : Nat), np_j4 = j5.length ∧ RL w 27 [(5, sS p_j4 np_j4 c_j4), (29, rdl anyF 2 p_a1_0 c_a1_0 a1_0 en_TInterval), (900040, owK 46 2 p_j4 np_j4 c_j4 (j5.flatMap en_TInterval)), (28, bxK b_a1_0 [.slice p_a1_0 a1_0.length c_a1_0] 48)] a w') ?_ ?_
 ·clear H; rintro a w' ⟨p_j4, c_j4, _, rfl, H⟩
  refine k_srk mixed H (.v 26 (.slice p_j4 j5.length c_j4) <|
 .v 4 (.slice p_j4 j5.length c_j4) <| .nil) [4, 29, 900040, 28] fun u6 a w' H => ?_
  refine k_ret ?_
  obtain rfl := sj G
  obtain ⟨g, o0, n0⟩ := gh_r p_j4 c_j4
  refine k_doneZ H _ g _ _ _ fr [900040] [] (.slice p_j4 j5.length c_j4) [fun _ => owl 46 2 p_j4 c_j4 j5 en_TInterval] (by simp only [owl, o0, n0]) (by simp only [owl, o0, n0]) hfr (.inl ⟨rfl, rfl⟩) (fams_cons fam_ow fams_nil) (by simp)
 ·clear G; replace G := hj5; clear hj5
  refine k_srk mixed H (.v 11 (.slice p_a0 a0.length c_a0) <|
 .v 12 (vI (a0.length : Int)) <|
 .v 13 (vI 0) <| .nil) [1, 5, 11, 12, 13, 27, 29, 30, 28] fun u7 a w' H => ?_
  refine k_block ?_
  replace H := H.move (K := owl 46 2 ((u2 2).o 0) ((u2 2).n 0) (List.replicate (a0.length : Int).toNat (⟨0, 0⟩ : TInterval)) en_TInterval) 30 900041 (by kernel_rfl) (by intro _ _ h; cases h)
  refine k_loopJ (fun m a w' => ∃ x8 : List TInterval, ∃ x9 : Int, api_Interval_123_s124.l10 k0 a0 a1_0 m x8 x9 = some j5 ∧ ∃ (p_x8 : Option Addr) (c_x8 np_x8 : Nat), np_x8 = x8.length ∧ RL w 27 [(1, .slot true (.func (.func 124) #[] #[vP b_a1_0 0])), (5, sS p_x8 np_x8 c_x8), (11, sS p_a0 a0.length c_a0), (12, (sI (a0.length : Int))), (13, sI x9), (27, rdl anyF 2 p_a0 c_a0 a0 en_TInterval), (29, rdl anyF 2 p_a1_0 c_a1_0 a1_0 en_TInterval), (900041, owK 46 2 p_x8 np_x8 c_x8 (x8.flatMap en_TInterval)), (28, bxK b_a1_0 [.slice p_a1_0 a1_0.length c_a1_0] 48)] a w') k0 ⟨_, _, G, ((u2 2).o 0), ((u2 2).n 0), (List.replicate (a0.length : Int).toNat (⟨0, 0⟩ : TInterval)).length, rfl, H.toM _⟩ ?_
  clear G H
  rintro (_ | k) a w' ⟨x8, x9, G, p_x8, c_x8, _, rfl, H⟩
  ·exact absurd G (by unfold api_Interval_123_s124.l10; exact fun h => by cases h)
  ·unfold api_Interval_123_s124.l10 at G
   refine k_srk mixed H (.v 14 (.bool (decide (x9 < (a0.length : Int)))) <| .nil) [1, 5, 11, 12, 13, 14, 27, 29, 900041, 28] fun u11 a w' H => ?_
   refine k_seq ?_
   refine k_cnd H (decide (x9 < (a0.length : Int))) (fun c20 => ?_) fun c20 => ?_
   ·rw [if_pos c20] at G
    refine k_skip ?_
    refine k_seq ?_
    refine k_block ?_
    refine k_seq ?_
    replace G := gd G; obtain ⟨b13, G⟩ := G
    obtain ⟨t14, ht14, G⟩ := bnd G
    refine k_rk mixed H (.v 15 (vI x9) <|
 .cons [16] (ok_v1 27 (rdl anyF 2 p_a0 c_a0 a0 en_TInterval) (.pointer (some ⟨hdB p_a0, hdO p_a0 + x9.toNat * 2, none⟩)) 16 fun _ w h => ixr 48 .i64 x9 p_a0 a0.length c_a0 a0 en_TInterval (rdF_of h).2 en_TInterval_len rfl b13) <|
 .cons [17] (ok_v1 27 (rdl anyF 2 p_a0 c_a0 a0 en_TInterval) (.agg #[vI t14.Lo, vI t14.Hi]) 17 fun _ w h => ldr en_TInterval (rdF_of h).2 en_TInterval_len ht14 0 2 [vI t14.Lo, vI t14.Hi]) <|
 .cons [7, 31] (ok_new (fun b => vP b 0) (fun u12 => [vI 0, vI 0]) 46 7 31) <|
 .v 6 (vI x9) <|
 .cons [31] (ok_as (u' := fun u12 => [(31, .blk ((u12 3).n 0) [vI t14.Lo, vI t14.Hi] 46)]) (ok_store 31 0 (fun u12 => ((u12 3).n 0)) (fun u12 => [vI 0, vI 0]) (fun u12 => [vI t14.Lo, vI t14.Hi]) 46) (fun _ => by kernel_rfl)) <| .nil) [1, 5, 6, 7, 11, 12, 13, 27, 29, 31, 900041, 28] fun u12 a w' H => ?_
    obtain ⟨t16, ht16, G⟩ := bnd G
    replace G := gd G; obtain ⟨b17, G⟩ := G
    obtain ⟨t18, ht18, G⟩ := bnd G
    refine k_rk mixed H (.v 18 (.slice p_x8 x8.length c_x8) <|
 .v 19 (vI x9) <|
 .v 20 (.func (.func 124) #[] #[vP b_a1_0 0]) <|
 .v 21 (vI x9) <|
 .cons [22] (ok_ldc (.agg #[vI t14.Lo, vI t14.Hi]) 22 31 0 2 ((u12 3).n 0) [vI t14.Lo, vI t14.Hi] 46) <|
 .cons [23] (ok_callL [29, 28] (fun u15 => [rdl anyF 2 p_a1_0 c_a1_0 a1_0 en_TInterval, bxK b_a1_0 [.slice p_a1_0 a1_0.length c_a1_0] 48]) 124 _ _ 23 (fun u15 w hF => step_restrictTo_1_1_m.calls x9 t14 a1_0 b_a1_0 p_a1_0 c_a1_0 t16 w  ⟨(rdA (rdF_of hF.1)), (bx_fact (hF.2.1 w (agree.refl _ _)) 0).2.1, trivial⟩ ht16)) <|
 .cons [24] (ok_v1 900041 (owl 46 2 p_x8 c_x8 x8 en_TInterval) (.pointer (some ⟨hdB p_x8, hdO p_x8 + x9.toNat * 2, none⟩)) 24 fun _ w h => ixr 48 .i64 x9 p_x8 x8.length c_x8 x8 en_TInterval (owns_rowC (ow_of h)).2 en_TInterval_len rfl b17) <|
 .cons [900041, 900041] (ok_own1 [] [] (fun u15 => []) 900041 (fun u15 => owl 46 2 p_x8 c_x8 x8 en_TInterval) none (fun u15 g => .nilFunc) (fun u15 g => owK 46 2 p_x8 x8.length c_x8 ((x8.set x9.toNat t16).flatMap en_TInterval)) (fun u15 w hF hK => tv_set (el_storeN (ow_of hK) en_TInterval_len (y := t16) (vs := [vI t16.Lo, vI t16.Hi]) ht18 0 (by simp) (by simp) rfl (by kernel_rfl)))) <| .nil) [1, 5, 11, 12, 13, 27, 29, 900041, 28] fun u15 a w' H => ?_
    refine k_rk mixed H (.v 25 (vI (w_i64 (x9 + 1))) <|
 .v 13 (vI (w_i64 (x9 + 1))) <| .nil) [1, 5, 11, 12, 13, 27, 29, 900041, 28] fun u19 a w' H => ?_
    exact ⟨k, Nat.lt_succ_self k, _, _, G, p_x8, c_x8, x8.length, by simp, H.toM _⟩
   ·rw [if_neg (nt c20)] at G
    refine k_exit rfl ?_
    obtain rfl := sj G
    replace H := H.move (K := owl 46 2 p_x8 c_x8 x8 en_TInterval) 900041 900040 (by kernel_rfl) (by intro _ _ h; cases h)
    exact ⟨p_x8, c_x8, x8.length, rfl, H.toM _⟩
theorem step_restrictTo_1_m.calls (k0 : Nat) (a0 : List TInterval) (q0 : List TInterval) (p_a0 : Option Addr) (c_a0 : Nat) (b_q0 : Nat) (p_q0 : Option Addr) (c_q0 : Nat) (r : List TInterval) (w : World) (hB : AllH [rdl anyF 2 p_a0 c_a0 a0 en_TInterval, rdl anyF 2 p_q0 c_q0 q0 en_TInterval, bxK b_q0 [.slice p_q0 q0.length c_q0] 48] w) (G : step_restrictTo_1_m k0 a0 q0 = some r) :
  Calls Tryz.prog 122 #[.slice p_a0 a0.length c_a0, vP b_q0 0] w fun e w' => ∃ g : Gh, e = .returned (.slice (g.o 0) r.length (g.n 0)) ∧ But (fpK []) w w' ∧ OutOK w.heap.size (fpK []) (frI w.heap.size []) [fun _ => owl 46 2 (g.o 0) (g.n 0) r en_TInterval] w' := by
 obtain ⟨fr, hfr, hBf⟩ := frs w []
 refine k_enterF (args := [.slice p_a0 a0.length c_a0, vP b_q0 0]) 7 [(7, rdl anyF 2 p_a0 c_a0 a0 en_TInterval), (9, rdl anyF 2 p_q0 c_q0 q0 en_TInterval), (8, bxK b_q0 [.slice p_q0 q0.length c_q0] 48)] (by
  intro x hx
  simp only [List.mem_cons, List.not_mem_nil, or_false] at hx
  rcases hx with rfl | rfl | rfl
  ·exact rdF_fact (rdF_of hB.1) (fun _ _ => trivial) (by decide) _
  ·exact rdF_fact (rdF_of hB.2.1) (fun _ _ => trivial) (by decide) _
  ·exact bx_fact (hB.2.2.1 w (agree.refl _ _)) _) Tryz.func122 rfl (by kernel_rfl) (by kernel_rfl) fun a H => ?_
 unfold step_restrictTo_1_m at G
 refine k_srk mixed H (.v 3 (.slice none 0 0) <| .nil) [0, 1, 7, 9, 8] fun u1 a w' H => ?_
 obtain ⟨t3, ht3, G⟩ := bnd G
 refine k_srk mixed H (.v 4 (.slice p_a0 a0.length c_a0) <|
 .v 5 (.func (.func 124) #[] #[vP b_q0 0]) <|
 .cons [6, 10] (ok_callY false fr [] [7, 9, 8] (fun u2 => [rdl anyF 2 p_a0 c_a0 a0 en_TInterval, rdl anyF 2 p_q0 c_q0 q0 en_TInterval, bxK b_q0 [.slice p_q0 q0.length c_q0] 48]) [] (fun u2 => []) 123 _ _ _ _ _ [10] 6 (fun u2 w hB hF hM => api_Interval_123_s124.calls k0 a0 q0 p_a0 c_a0 b_q0 p_q0 c_q0 t3 w  hB ht3) (fun u2 w hF => ⟨⟨sub_rd0 (rdF_of hF.1) (fun j h => ⟨_, (.head _), h⟩), sub_rd0 (rdF_of hF.2.1) (fun j h => ⟨_, (.tail _ (.head _)), h⟩), sub_bx (hF.2.2.1 w (agree.refl _ _)) (.tail _ (.tail _ (.head _))) rfl, trivial⟩, trivial⟩) (fun u2 g => (fams_cons fam_ow fams_nil)) (.inr (fun u2 g => (famx_cons trivial (fun K h => by cases h)))) (fun h => by cases h)) <|
 .cons [3] (ok_val (fun u2 => .slice ((u2 2).o 0) t3.length ((u2 2).n 0)) 3) <| .nil) [3, 9, 10, 8] fun u2 a w' H => ?_
 refine k_ret ?_
 obtain rfl := sj G
 obtain ⟨g, o0, n0⟩ := gh_r ((u2 2).o 0) ((u2 2).n 0)
 refine k_doneZ H _ g _ _ _ fr [10] [] (.slice ((u2 2).o 0) t3.length ((u2 2).n 0)) [fun _ => owl 46 2 ((u2 2).o 0) ((u2 2).n 0) t3 en_TInterval] (by simp only [owl, o0, n0]) (by simp only [owl, o0, n0]) hfr (.inl ⟨rfl, rfl⟩) (fams_cons fam_ow fams_nil) (by simp)
theorem step_EnclosureAt.calls (k0 : Nat) (a0 : TTape) (a1 : List TInterval) (a2 : List TInterval) (a3 : TStepWindow) (p_a0_L : Option Addr) (c_a0_L : Nat) (p_a0_Out : Option Addr) (c_a0_Out : Nat) (p_a1 : Option Addr) (c_a1 : Nat) (p_a2 : Option Addr) (c_a2 : Nat) (r : List TInterval) (w : World) (hB : AllH [rdl anyF 5 p_a0_L c_a0_L a0.L en_TInstruction, rdl anyF 1 p_a0_Out c_a0_Out a0.Out en_i64, rdl anyF 2 p_a1 c_a1 a1 en_TInterval, rdl anyF 2 p_a2 c_a2 a2 en_TInterval, gk] w) (G : step_EnclosureAt k0 a0 a1 a2 a3 = some r) :
  Calls Tryz.prog 80 #[.agg #[vI a0.N, .slice p_a0_L a0.L.length c_a0_L, .slice p_a0_Out a0.Out.length c_a0_Out], .slice p_a1 a1.length c_a1, .slice p_a2 a2.length c_a2, .agg #[vI a3.T, vI a3.H, vI a3.Part.Lo, vI a3.Part.Hi, vI a3.Order]] w fun e w' => ∃ g : Gh, e = .returned (.slice (g.o 0) r.length (g.n 0)) ∧ But (fpK []) w w' ∧ OutOK w.heap.size (fpK []) (frI w.heap.size []) [fun _ => owl 46 2 (g.o 0) (g.n 0) r en_TInterval] w' := by
 obtain ⟨fr, hfr, hBf⟩ := frs w []
 refine k_enterF (args := [.agg #[vI a0.N, .slice p_a0_L a0.L.length c_a0_L, .slice p_a0_Out a0.Out.length c_a0_Out], .slice p_a1 a1.length c_a1, .slice p_a2 a2.length c_a2, .agg #[vI a3.T, vI a3.H, vI a3.Part.Lo, vI a3.Part.Hi, vI a3.Order]]) 38 [(38, rdl anyF 5 p_a0_L c_a0_L a0.L en_TInstruction), (39, rdl anyF 1 p_a0_Out c_a0_Out a0.Out en_i64), (40, rdl anyF 2 p_a1 c_a1 a1 en_TInterval), (41, rdl anyF 2 p_a2 c_a2 a2 en_TInterval), (999999, gk)] (by
  intro x hx
  simp only [List.mem_cons, List.not_mem_nil, or_false] at hx
  rcases hx with rfl | rfl | rfl | rfl | rfl
  ·exact rdF_fact (rdF_of hB.1) (fun _ _ => trivial) (by decide) _
  ·exact rdF_fact (rdF_of hB.2.1) (fun _ _ => trivial) (by decide) _
  ·exact rdF_fact (rdF_of hB.2.2.1) (fun _ _ => trivial) (by decide) _
  ·exact rdF_fact (rdF_of hB.2.2.2.1) (fun _ _ => trivial) (by decide) _
  ·exact ⟨⟨_, _, rfl⟩, hB.2.2.2.2.1, glob_in (glob_of hB.2.2.2.2.1)⟩) Tryz.func80 rfl (by kernel_rfl) (by kernel_rfl) fun a H => ?_
 unfold step_EnclosureAt at G
 refine k_srk mixed H (.cons [4, 42] (ok_new (fun b => vP b 0) (fun u1 => [vI a0.N, .slice p_a0_L a0.L.length c_a0_L, .slice p_a0_Out a0.Out.length c_a0_Out]) 38 4 42) <|
 .cons [7, 43] (ok_new (fun b => vP b 0) (fun u1 => [vI a3.T, vI a3.H, vI a3.Part.Lo, vI a3.Part.Hi, vI a3.Order]) 166 7 43) <|
 .v 8 (.slice none 0 0) <| .nil) [1, 2, 4, 7, 38, 39, 40, 41, 42, 43, 999999] fun u1 a w' H => ?_
 obtain ⟨t3, ht3, G⟩ := bnd G
 refine k_srk mixed H (.cons [11] (ok_ldc (.agg #[vI a0.N, .slice p_a0_L a0.L.length c_a0_L, .slice p_a0_Out a0.Out.length c_a0_Out]) 11 42 0 3 ((u1 0).n 0) [vI a0.N, .slice p_a0_L a0.L.length c_a0_L, .slice p_a0_Out a0.Out.length c_a0_Out] 38) <|
 .v 12 (.slice p_a2 a2.length c_a2) <|
 .v 13 (vP ((u1 1).n 0) 0) <|
 .cons [14] (ok_ldc (vI a3.T) 14 43 0 1 ((u1 1).n 0) [vI a3.T, vI a3.H, vI a3.Part.Lo, vI a3.Part.Hi, vI a3.Order] 166) <|
 .v 15 (vP ((u1 1).n 0) 1) <|
 .cons [16] (ok_ldc (vI a3.H) 16 43 1 1 ((u1 1).n 0) [vI a3.T, vI a3.H, vI a3.Part.Lo, vI a3.Part.Hi, vI a3.Order] 166) <|
 .v 17 (.agg #[vI a3.T, vI a3.H]) <|
 .v 18 (vP ((u1 1).n 0) 4) <|
 .cons [19] (ok_ldc (vI a3.Order) 19 43 4 1 ((u1 1).n 0) [vI a3.T, vI a3.H, vI a3.Part.Lo, vI a3.Part.Hi, vI a3.Order] 166) <|
 .cons [20, 44] (ok_callY false fr [] [38, 39, 41, 999999] (fun u2 => [rdl anyF 5 p_a0_L c_a0_L a0.L en_TInstruction, rdl anyF 1 p_a0_Out c_a0_Out a0.Out en_i64, rdl anyF 2 p_a2 c_a2 a2 en_TInterval, gk]) [] (fun u2 => []) 97 _ _ _ _ _ [44] 20 (fun u2 w hB hF hM => step_Remainder.calls k0 (⟨a0.N, a0.L, a0.Out⟩ : TTape) a2 (⟨a3.T, a3.H⟩ : TTimeStep) a3.Order p_a0_L c_a0_L p_a0_Out c_a0_Out p_a2 c_a2 t3 w  hB ht3) (fun u2 w hF => ⟨⟨sub_rd0 (rdF_of hF.1) (fun j h => ⟨_, (.head _), h⟩), sub_rd0 (rdF_of hF.2.1) (fun j h => ⟨_, (.tail _ (.head _)), h⟩), sub_rd0 (rdF_of hF.2.2.1) (fun j h => ⟨_, (.tail _ (.tail _ (.head _))), h⟩), sub_k hF.2.2.2.1 (.tail _ (.tail _ (.tail _ (.head _)))), trivial⟩, trivial⟩) (fun u2 g => (fams_cons fam_ow fams_nil)) (.inr (fun u2 g => (famx_cons trivial (fun K h => by cases h)))) (fun h => by cases h)) <|
 .cons [9, 45] (ok_new (fun b => vP b 0) (fun u2 => [.slice none 0 0]) 48 9 45) <|
 .cons [45] (ok_as (u' := fun u2 => [(45, .blk ((u2 10).n 0) [.slice ((u2 9).o 0) t3.length ((u2 9).n 0)] 48)]) (ok_store 45 0 (fun u2 => ((u2 10).n 0)) (fun u2 => [.slice none 0 0]) (fun u2 => [.slice ((u2 9).o 0) t3.length ((u2 9).n 0)]) 48) (fun _ => by kernel_rfl)) <| .nil) [1, 2, 4, 7, 9, 38, 39, 40, 41, 42, 43, 44, 45, 999999] fun u2 a w' H => ?_
 refine k_seq ?_
 obtain ⟨t5, ht5, G⟩ := bnd G
 obtain ⟨t6, ht6, G⟩ := bnd G
 replace G := gd G; obtain ⟨b7, G⟩ := G
 obtain ⟨t8, ht8, G⟩ := bnd G
 obtain ⟨t9, ht9, G⟩ := bnd G
 refine k_regT mixed H (.cons [21] (ok_ldc (.agg #[vI a0.N, .slice p_a0_L a0.L.length c_a0_L, .slice p_a0_Out a0.Out.length c_a0_Out]) 21 42 0 3 ((u1 0).n 0) [vI a0.N, .slice p_a0_L a0.L.length c_a0_L, .slice p_a0_Out a0.Out.length c_a0_Out] 38) <|
 .v 22 (.slice p_a1 a1.length c_a1) <|
 .v 23 (vP ((u1 1).n 0) 0) <|
 .cons [24] (ok_ldc (vI a3.T) 24 43 0 1 ((u1 1).n 0) [vI a3.T, vI a3.H, vI a3.Part.Lo, vI a3.Part.Hi, vI a3.Order] 166) <|
 .cons [25] (ok_callv 46 _ _ 25 [] (fun u4 w _ => interval_Point.calls a3.T  t5 w  ht5)) <|
 .v 26 (vP ((u1 1).n 0) 4) <|
 .cons [27] (ok_ldc (vI a3.Order) 27 43 4 1 ((u1 1).n 0) [vI a3.T, vI a3.H, vI a3.Part.Lo, vI a3.Part.Hi, vI a3.Order] 166) <|
 .cons [28, 46, 46, 47] (ok_post (fun u4 => [(46, owK 48 1 ((u4 7).o 0) ((dlgd_S_TInterval (u4 7) 0 t6).length) ((u4 7).n 0) (([⟨(hd1 (dlgd_S_TInterval (u4 7) 0 t6)).p, (hd1 (dlgd_S_TInterval (u4 7) 0 t6)).cap, t8⟩] : List (Sl TInterval)).flatMap enSl)), (47, owl 46 2 ((hd1 (dlgd_S_TInterval (u4 7) 0 t6)).p) ((hd1 (dlgd_S_TInterval (u4 7) 0 t6)).cap) t8 en_TInterval)]) (ok_callY false fr [] [38, 39, 40, 999999] (fun u4 => [rdl anyF 5 p_a0_L c_a0_L a0.L en_TInstruction, rdl anyF 1 p_a0_Out c_a0_Out a0.Out en_i64, rdl anyF 2 p_a1 c_a1 a1 en_TInterval, gk]) [] (fun u4 => []) 99 _ _ _ _ _ [46] 28 (fun u4 w hB hF hM => series_Coefficients.calls k0 (⟨a0.N, a0.L, a0.Out⟩ : TTape) a1 t5 a3.Order p_a0_L c_a0_L p_a0_Out c_a0_Out p_a1 c_a1 t6 w  hB ht6) (fun u4 w hF => ⟨⟨sub_rd0 (rdF_of hF.1) (fun j h => ⟨_, (.head _), h⟩), sub_rd0 (rdF_of hF.2.1) (fun j h => ⟨_, (.tail _ (.head _)), h⟩), sub_rd0 (rdF_of hF.2.2.1) (fun j h => ⟨_, (.tail _ (.tail _ (.head _))), h⟩), sub_k hF.2.2.2.1 (.tail _ (.tail _ (.tail _ (.head _)))), trivial⟩, trivial⟩) (fun u4 g => (fams_cons fam_ns fams_nil)) (.inr (fun u4 g => (famx_cons trivial (fun K h => by cases h)))) (fun h => by cases h)) (fun u4 S a w H => H.unnestD 46 47 (by kernel_rfl) rfl (dl_er ergd_S_TInterval (u4 7) 0 t6) (one_get b7 ht8))) <|
 .v 29 (.func (.func 100) #[] #[vP ((u2 10).n 0) 0]) <|
 .cons [30, 47, 48] (ok_callY false fr [7] [46, 44, 45] (fun u4 => [owK 48 1 ((u4 7).o 0) ((dlgd_S_TInterval (u4 7) 0 t6).length) ((u4 7).n 0) (([⟨(hd1 (dlgd_S_TInterval (u4 7) 0 t6)).p, (hd1 (dlgd_S_TInterval (u4 7) 0 t6)).cap, t8⟩] : List (Sl TInterval)).flatMap enSl), owl 46 2 ((u2 9).o 0) ((u2 9).n 0) t3 en_TInterval, .blk ((u2 10).n 0) [.slice ((u2 9).o 0) t3.length ((u2 9).n 0)] 48]) [47] (fun u4 => [owl 46 2 ((hd1 (dlgd_S_TInterval (u4 7) 0 t6)).p) ((hd1 (dlgd_S_TInterval (u4 7) 0 t6)).cap) t8 en_TInterval]) 98 _ _ _ _ _ [48] 30 (fun u4 w hB hF hM => api_Interval_98_s100.calls k0 t8 t3 ((u4 7).o 0) ((dlgd_S_TInterval (u4 7) 0 t6).length) ((u4 7).n 0) ((hd1 (dlgd_S_TInterval (u4 7) 0 t6)).p) ((hd1 (dlgd_S_TInterval (u4 7) 0 t6)).cap) ((u2 10).n 0) ((u2 9).o 0) ((u2 9).n 0) t9 w ((map_len (er := Sl.l) (dl_er ergd_S_TInterval (u4 7) 0 t6)).symm.trans b7) hB hM ht9) (fun u4 w hF => ⟨⟨sub_rd0 (owns_rowC (ow_of hF.1)) (fun j h => ⟨_, (.head _), (fp_own h)⟩), sub_rd0 (owns_rowC (ow_of hF.2.1)) (fun j h => ⟨_, (.tail _ (.head _)), (fp_own h)⟩), sub_bx hF.2.2.1 (.tail _ (.tail _ (.head _))) rfl, trivial⟩, trivial⟩) (fun u4 g => (fams_cons fam_ns fams_nil)) (.inr (fun u4 g => (famx_cons trivial (fun K h => by cases h)))) (fun h => by cases h) (hloc := fun u u' h => ⟨by first | rfl | simp only [h 7 (by decide)], by first | rfl | simp only [h 7 (by decide)], by first | rfl | simp only [h 7 (by decide)], by first | rfl | simp only [h 7 (by decide)], by first | rfl | simp only [h 7 (by decide)], by first | rfl | simp only [h 7 (by decide)]⟩)) <|
 .cons [10] (ok_val (fun u4 => slgd_S_TInterval (u4 9) 0 t9) 10) <| .nil) (by kernel_rfl) fun u4 a w' H => ?_
 replace H := H.kp [2, 7, 10, 41, 43, 48, 999999]
 refine k_seq ?_
 obtain ⟨t11, ht11, G⟩ := bnd G
 obtain ⟨t12, ht12, G⟩ := bnd G
 refine k_regT mixed H (.v 31 (.slice p_a2 a2.length c_a2) <|
 .cons [32, 49] (ok_callB1 101 (fun u10 => #[.slice p_a2 a2.length c_a2]) (fun b1 => .func (.func 122) #[] #[vP b1 0]) [.slice p_a2 a2.length c_a2] 48 32 49 (fun _ w => step_restrictTo.calls a2 p_a2 a2.length c_a2 w)) <|
 .v 33 (slgd_S_TInterval (u4 9) 0 t9) <|
 .v 34 (vP ((u1 1).n 0) 2) <|
 .cons [35] (ok_ldc (.agg #[vI a3.Part.Lo, vI a3.Part.Hi]) 35 43 2 2 ((u1 1).n 0) [vI a3.T, vI a3.H, vI a3.Part.Lo, vI a3.Part.Hi, vI a3.Order] 166) <|
 .cons [36, 50] (ok_callY false fr [] [48, 999999] (fun u10 => [ns_en_TIntervalg (u4 9) 0 t9, gk]) [] (fun u10 => []) 102 _ _ _ _ _ [50] 36 (fun u10 w hB hF hM => series_Eval.calls k0 t9 (⟨a3.Part.Lo, a3.Part.Hi⟩ : TInterval) ((u4 9).o 0) ((u4 9).n 0) (dlgd_S_TInterval (u4 9) 0 t9) t11 w (dl_er ergd_S_TInterval (u4 9) 0 t9) hB ht11) (fun u10 w hF => ⟨⟨sub_rd0 (ns_of hF.1).row (fun j h => ⟨_, (.head _), (ns_fpH h)⟩), sub_dn0 (ns_of hF.1).all (fun j h => ⟨_, (.head _), (ns_fpA h)⟩), sub_k hF.2.1 (.tail _ (.head _)), trivial⟩, trivial⟩) (fun u10 g => (fams_cons fam_ow fams_nil)) (.inr (fun u10 g => (famx_cons trivial (fun K h => by cases h)))) (fun h => by cases h)) <|
 .cons [37, 51] (ok_callY false fr [1, 5] [50, 41, 49] (fun u10 => [owl 46 2 ((u10 5).o 0) ((u10 5).n 0) t11 en_TInterval, rdl anyF 2 p_a2 c_a2 a2 en_TInterval, .blk ((u10 1).n 0) [.slice p_a2 a2.length c_a2] 48]) [] (fun u10 => []) 122 _ _ _ _ _ [51] 37 (fun u10 w hB hF hM => step_restrictTo_1_m.calls k0 t11 a2 ((u10 5).o 0) ((u10 5).n 0) ((u10 1).n 0) p_a2 c_a2 t12 w  hB ht12) (fun u10 w hF => ⟨⟨sub_rd0 (owns_rowC (ow_of hF.1)) (fun j h => ⟨_, (.head _), (fp_own h)⟩), sub_rd0 (rdF_of hF.2.1) (fun j h => ⟨_, (.tail _ (.head _)), h⟩), sub_bx hF.2.2.1 (.tail _ (.tail _ (.head _))) rfl, trivial⟩, trivial⟩) (fun u10 g => (fams_cons fam_ow fams_nil)) (.inr (fun u10 g => (famx_cons trivial (fun K h => by cases h)))) (fun h => by cases h) (hloc := fun u u' h => ⟨by first | rfl | simp only [h 1 (by decide), h 5 (by decide)], by first | rfl | simp only [h 1 (by decide), h 5 (by decide)], by first | rfl | simp only [h 1 (by decide), h 5 (by decide)], by first | rfl | simp only [h 1 (by decide), h 5 (by decide)], by first | rfl | simp only [h 1 (by decide), h 5 (by decide)], by first | rfl | simp only [h 1 (by decide), h 5 (by decide)]⟩)) <|
 .cons [8] (ok_val (fun u10 => .slice ((u10 6).o 0) t12.length ((u10 6).n 0)) 8) <| .nil) (by kernel_rfl) fun u10 a w' H => ?_
 replace H := H.kp [8, 51, 999999]
 refine k_ret ?_
 obtain rfl := sj G
 obtain ⟨g, o0, n0⟩ := gh_r ((u10 6).o 0) ((u10 6).n 0)
 refine k_doneZ H _ g _ _ _ fr [51] [] (.slice ((u10 6).o 0) t12.length ((u10 6).n 0)) [fun _ => owl 46 2 ((u10 6).o 0) ((u10 6).n 0) t12 en_TInterval] (by simp only [owl, o0, n0]) (by simp only [owl, o0, n0]) hfr (.inl ⟨rfl, rfl⟩) (fams_cons fam_ow fams_nil) (by simp)
theorem step_bounded.calls (k0 : Nat) (a0 : TSegment) (p_a0_From : Option Addr) (c_a0_From : Nat) (p_a0_Pre : Option Addr) (c_a0_Pre : Nat) (p_a0_Tube : Option Addr) (c_a0_Tube : Nat) (p_a0_To : Option Addr) (c_a0_To : Nat) (r : TSegment × Bool) (w : World) (hF : AllH [rdl anyF 2 p_a0_From c_a0_From a0.From en_TInterval, rdl anyF 2 p_a0_Pre c_a0_Pre a0.Pre en_TInterval, rdl anyF 2 p_a0_Tube c_a0_Tube a0.Tube en_TInterval, rdl anyF 2 p_a0_To c_a0_To a0.To en_TInterval] w) (G : step_bounded k0 a0 = some r) :
  Calls Tryz.prog 81 #[.agg #[vI a0.T, vI a0.H, .slice p_a0_From a0.From.length c_a0_From, .slice p_a0_Pre a0.Pre.length c_a0_Pre, .slice p_a0_Tube a0.Tube.length c_a0_Tube, .slice p_a0_To a0.To.length c_a0_To]] w fun e w' => ∃ g : Gh, e = .returned (.tuple #[.agg #[vI r.1.T, vI r.1.H, .slice (g.o 0) r.1.From.length (g.n 0), .slice (g.o 1) r.1.Pre.length (g.n 1), .slice (g.o 2) r.1.Tube.length (g.n 2), .slice (g.o 3) r.1.To.length (g.n 3)], .bool r.2]) ∧ But (fpK []) w w' ∧ OutOK w.heap.size (fpK []) (frI w.heap.size [rdl anyF 2 p_a0_From c_a0_From a0.From en_TInterval, rdl anyF 2 p_a0_Pre c_a0_Pre a0.Pre en_TInterval, rdl anyF 2 p_a0_Tube c_a0_Tube a0.Tube en_TInterval, rdl anyF 2 p_a0_To c_a0_To a0.To en_TInterval]) [fun fr => rdF fr 2 (g.o 0) r.1.From.length (g.n 0) (r.1.From.flatMap en_TInterval), fun fr => rdF fr 2 (g.o 1) r.1.Pre.length (g.n 1) (r.1.Pre.flatMap en_TInterval), fun fr => rdF fr 2 (g.o 2) r.1.Tube.length (g.n 2) (r.1.Tube.flatMap en_TInterval), fun fr => rdF fr 2 (g.o 3) r.1.To.length (g.n 3) (r.1.To.flatMap en_TInterval)] w' := by
 obtain ⟨fr, hfr, hBf⟩ := frs w [rdl anyF 2 p_a0_From c_a0_From a0.From en_TInterval, rdl anyF 2 p_a0_Pre c_a0_Pre a0.Pre en_TInterval, rdl anyF 2 p_a0_Tube c_a0_Tube a0.Tube en_TInterval, rdl anyF 2 p_a0_To c_a0_To a0.To en_TInterval]
 refine k_enterF (args := [.agg #[vI a0.T, vI a0.H, .slice p_a0_From a0.From.length c_a0_From, .slice p_a0_Pre a0.Pre.length c_a0_Pre, .slice p_a0_Tube a0.Tube.length c_a0_Tube, .slice p_a0_To a0.To.length c_a0_To]]) 14 [(14, rdl fr 2 p_a0_From c_a0_From a0.From en_TInterval), (15, rdl fr 2 p_a0_Pre c_a0_Pre a0.Pre en_TInterval), (16, rdl fr 2 p_a0_Tube c_a0_Tube a0.Tube en_TInterval), (17, rdl fr 2 p_a0_To c_a0_To a0.To en_TInterval)] (by
  intro x hx
  simp only [List.mem_cons, List.not_mem_nil, or_false] at hx
  rcases hx with rfl | rfl | rfl | rfl
  ·exact rdF_fact (rdF_of hF.1) (fun j h => by rw [hfr]; exact .inr ⟨_, (.head _), h⟩) (by decide) _
  ·exact rdF_fact (rdF_of hF.2.1) (fun j h => by rw [hfr]; exact .inr ⟨_, (.tail _ (.head _)), h⟩) (by decide) _
  ·exact rdF_fact (rdF_of hF.2.2.1) (fun j h => by rw [hfr]; exact .inr ⟨_, (.tail _ (.tail _ (.head _))), h⟩) (by decide) _
  ·exact rdF_fact (rdF_of hF.2.2.2.1) (fun j h => by rw [hfr]; exact .inr ⟨_, (.tail _ (.tail _ (.tail _ (.head _)))), h⟩) (by decide) _) Tryz.func81 rfl (by kernel_rfl) (by kernel_rfl) fun a H => ?_
 unfold step_bounded at G
 refine k_srk mixed H (.cons [1, 18] (ok_new (fun b => vP b 0) (fun u1 => [vI a0.T, vI a0.H, .slice p_a0_From a0.From.length c_a0_From, .slice p_a0_Pre a0.Pre.length c_a0_Pre, .slice p_a0_Tube a0.Tube.length c_a0_Tube, .slice p_a0_To a0.To.length c_a0_To]) 63 1 18) <|
 .cons [2, 19] (ok_new (fun b => vP b 0) (fun u1 => [vI 0, vI 0, .slice none 0 0, .slice none 0 0, .slice none 0 0, .slice none 0 0]) 63 2 19) <|
 .v 3 (.bool false) <| .nil) [1, 2, 14, 15, 16, 17, 18, 19] fun u1 a w' H => ?_
 refine k_seq ?_
 obtain ⟨t3, ht3, G⟩ := bnd G
 obtain ⟨t4, ht4, G⟩ := bnd G
 refine k_srk mixed H (.v 4 (vP ((u1 0).n 0) 4) <|
 .cons [5] (ok_ldc (.slice p_a0_Tube a0.Tube.length c_a0_Tube) 5 18 4 1 ((u1 0).n 0) [vI a0.T, vI a0.H, .slice p_a0_From a0.From.length c_a0_From, .slice p_a0_Pre a0.Pre.length c_a0_Pre, .slice p_a0_Tube a0.Tube.length c_a0_Tube, .slice p_a0_To a0.To.length c_a0_To] 63) <|
 .cons [6] (ok_callL [16] (fun u2 => [rdl fr 2 p_a0_Tube c_a0_Tube a0.Tube en_TInterval]) 84 _ _ 6 (fun u2 w hF => api_Interval_84_s21.calls k0 a0.Tube p_a0_Tube c_a0_Tube t3 w  ⟨(rdA (rdF_of hF.1)), trivial⟩ ht3)) <|
 .v 7 (.bool t3) <|
 .cons [8] (ok_valg (fun u2 => vP ((u1 0).n 0) 5) (fun u2 => (t3 == false)) [true] 8) <|
 .cons [9] (ok_ldg (fun u2 => .slice p_a0_To a0.To.length c_a0_To) (fun u2 => (t3 == false)) [false] 9 18 5 1 (fun u2 => ((u1 0).n 0)) (fun u2 => [vI a0.T, vI a0.H, .slice p_a0_From a0.From.length c_a0_From, .slice p_a0_Pre a0.Pre.length c_a0_Pre, .slice p_a0_Tube a0.Tube.length c_a0_Tube, .slice p_a0_To a0.To.length c_a0_To]) 63) <|
 .cons [10] (ok_callLg [17] (fun u2 => [rdl fr 2 p_a0_To c_a0_To a0.To en_TInterval]) 84 (fun u2 => #[.slice p_a0_To a0.To.length c_a0_To, .func (.func 21) #[] #[]]) (.bool t4) (fun u2 => (t3 == false)) [true, false, true] 10 (fun u2 w hg hF => api_Interval_84_s21.calls k0 a0.To p_a0_To c_a0_To t4 w  ⟨(rdA (rdF_of hF.1)), trivial⟩ (ifp ht4 hg))) <|
 .cons [11] (ok_or 7 10 (fun u2 => true) (fun u2 => true) (fun u2 => t3) (fun u2 => t4) 11) <| .nil) [1, 2, 11, 14, 15, 16, 17, 18, 19] fun u2 a w' H => ?_
 refine k_cnd H (t3 || t4) (fun c7 => ?_) fun c7 => ?_
 ·rw [if_pos c7] at G
  refine k_srk mixed H (.v 12 (.agg #[vI 0, vI 0, .slice none 0 0, .slice none 0 0, .slice none 0 0, .slice none 0 0]) <|
 .cons [19] (ok_stc 19 0 ((u1 1).n 0) [vI 0, vI 0, .slice none 0 0, .slice none 0 0, .slice none 0 0, .slice none 0 0] [vI 0, vI 0, .slice none 0 0, .slice none 0 0, .slice none 0 0, .slice none 0 0] 63 [vI 0, vI 0, .slice none 0 0, .slice none 0 0, .slice none 0 0, .slice none 0 0]) <|
 .v 3 (.bool false) <| .nil) [2, 3, 19] fun u5 a w' H => ?_
  refine k_ret ?_
  obtain rfl := sj G
  replace H := H.nil_row 20 46 2
  replace H := H.demote fr 20 46 2 none 0 0 (([] : List TInterval).flatMap en_TInterval) (by kernel_rfl) (by decide) hBf
  replace H := H.nil_row 21 46 2
  replace H := H.demote fr 21 46 2 none 0 0 (([] : List TInterval).flatMap en_TInterval) (by kernel_rfl) (by decide) hBf
  replace H := H.nil_row 22 46 2
  replace H := H.demote fr 22 46 2 none 0 0 (([] : List TInterval).flatMap en_TInterval) (by kernel_rfl) (by decide) hBf
  replace H := H.nil_row 23 46 2
  replace H := H.demote fr 23 46 2 none 0 0 (([] : List TInterval).flatMap en_TInterval) (by kernel_rfl) (by decide) hBf
  obtain ⟨g, o0, n0, o1, n1, o2, n2, o3, n3⟩ : ∃ g : Gh, g.o 0 = none ∧ g.n 0 = 0 ∧ g.o 1 = none ∧ g.n 1 = 0 ∧ g.o 2 = none ∧ g.n 2 = 0 ∧ g.o 3 = none ∧ g.n 3 = 0 := ⟨⟨fun i => [0, 0, 0, 0].getD i 0, fun i => [none, none, none, none].getD i none, fun i => ([⟨Unit, ()⟩, ⟨Unit, ()⟩, ⟨Unit, ()⟩, ⟨Unit, ()⟩] : List ((T : Type) × T)).getD i ⟨Unit, ()⟩⟩, rfl, rfl, rfl, rfl, rfl, rfl, rfl, rfl⟩
  refine k_doneZ H _ g _ _ _ fr [20, 21, 22, 23] [(19, ⟨((u1 1).n 0), [vI 0, vI 0, .slice none 0 0, .slice none 0 0, .slice none 0 0, .slice none 0 0], 0, 6⟩)] (.tuple #[.agg #[vI 0, vI 0, .slice none 0 0, .slice none 0 0, .slice none 0 0, .slice none 0 0], .bool false]) [fun fr => rdF fr 2 none 0 0 (([] : List TInterval).flatMap en_TInterval), fun fr => rdF fr 2 none 0 0 (([] : List TInterval).flatMap en_TInterval), fun fr => rdF fr 2 none 0 0 (([] : List TInterval).flatMap en_TInterval), fun fr => rdF fr 2 none 0 0 (([] : List TInterval).flatMap en_TInterval)] (by simp only [owl, o0, n0, o1, n1, o2, n2, o3, n3, List.length_set, List.length_cons, List.length_nil, Nat.zero_add, Nat.reduceAdd]) (by simp only [owl, o0, n0, o1, n1, o2, n2, o3, n3, List.length_set, List.length_cons, List.length_nil, Nat.zero_add, Nat.reduceAdd]) hfr (.inl ⟨rfl, rfl⟩) (fams_cons (fam_rd (by decide)) (fams_cons (fam_rd (by decide)) (fams_cons (fam_rd (by decide)) (fams_cons (fam_rd (by decide)) fams_nil)))) (by intro p hp; simp only [List.mem_cons, List.not_mem_nil, or_false] at hp; rcases hp with rfl; exact ⟨⟨63, by kernel_rfl⟩, by kernel_rfl⟩)
 ·rw [if_neg (nt c7)] at G
  refine k_skip ?_
  refine k_srk mixed H (.cons [13] (ok_ldc (.agg #[vI a0.T, vI a0.H, .slice p_a0_From a0.From.length c_a0_From, .slice p_a0_Pre a0.Pre.length c_a0_Pre, .slice p_a0_Tube a0.Tube.length c_a0_Tube, .slice p_a0_To a0.To.length c_a0_To]) 13 18 0 6 ((u1 0).n 0) [vI a0.T, vI a0.H, .slice p_a0_From a0.From.length c_a0_From, .slice p_a0_Pre a0.Pre.length c_a0_Pre, .slice p_a0_Tube a0.Tube.length c_a0_Tube, .slice p_a0_To a0.To.length c_a0_To] 63) <|
 .cons [19] (ok_stc 19 0 ((u1 1).n 0) [vI 0, vI 0, .slice none 0 0, .slice none 0 0, .slice none 0 0, .slice none 0 0] [vI a0.T, vI a0.H, .slice p_a0_From a0.From.length c_a0_From, .slice p_a0_Pre a0.Pre.length c_a0_Pre, .slice p_a0_Tube a0.Tube.length c_a0_Tube, .slice p_a0_To a0.To.length c_a0_To] 63 [vI a0.T, vI a0.H, .slice p_a0_From a0.From.length c_a0_From, .slice p_a0_Pre a0.Pre.length c_a0_Pre, .slice p_a0_Tube a0.Tube.length c_a0_Tube, .slice p_a0_To a0.To.length c_a0_To]) <|
 .v 3 (.bool true) <| .nil) [2, 3, 14, 15, 16, 17, 19] fun u6 a w' H => ?_
  refine k_ret ?_
  obtain rfl := sj G
  obtain ⟨g, o0, n0, o1, n1, o2, n2, o3, n3⟩ : ∃ g : Gh, g.o 0 = p_a0_From ∧ g.n 0 = c_a0_From ∧ g.o 1 = p_a0_Pre ∧ g.n 1 = c_a0_Pre ∧ g.o 2 = p_a0_Tube ∧ g.n 2 = c_a0_Tube ∧ g.o 3 = p_a0_To ∧ g.n 3 = c_a0_To := ⟨⟨fun i => [c_a0_From, c_a0_Pre, c_a0_Tube, c_a0_To].getD i 0, fun i => [p_a0_From, p_a0_Pre, p_a0_Tube, p_a0_To].getD i none, fun i => ([⟨Unit, ()⟩, ⟨Unit, ()⟩, ⟨Unit, ()⟩, ⟨Unit, ()⟩] : List ((T : Type) × T)).getD i ⟨Unit, ()⟩⟩, rfl, rfl, rfl, rfl, rfl, rfl, rfl, rfl⟩
  refine k_doneZ H _ g _ _ _ fr [14, 15, 16, 17] [(19, ⟨((u1 1).n 0), [vI a0.T, vI a0.H, .slice p_a0_From a0.From.length c_a0_From, .slice p_a0_Pre a0.Pre.length c_a0_Pre, .slice p_a0_Tube a0.Tube.length c_a0_Tube, .slice p_a0_To a0.To.length c_a0_To], 0, 6⟩)] (.tuple #[.agg #[vI a0.T, vI a0.H, .slice p_a0_From a0.From.length c_a0_From, .slice p_a0_Pre a0.Pre.length c_a0_Pre, .slice p_a0_Tube a0.Tube.length c_a0_Tube, .slice p_a0_To a0.To.length c_a0_To], .bool true]) [fun fr => rdl fr 2 p_a0_From c_a0_From a0.From en_TInterval, fun fr => rdl fr 2 p_a0_Pre c_a0_Pre a0.Pre en_TInterval, fun fr => rdl fr 2 p_a0_Tube c_a0_Tube a0.Tube en_TInterval, fun fr => rdl fr 2 p_a0_To c_a0_To a0.To en_TInterval] (by simp only [owl, o0, n0, o1, n1, o2, n2, o3, n3]) (by simp only [owl, o0, n0, o1, n1, o2, n2, o3, n3]) hfr (.inl ⟨rfl, rfl⟩) (fams_cons (fam_rd (by decide)) (fams_cons (fam_rd (by decide)) (fams_cons (fam_rd (by decide)) (fams_cons (fam_rd (by decide)) fams_nil)))) (by intro p hp; simp only [List.mem_cons, List.not_mem_nil, or_false] at hp; rcases hp with rfl; exact ⟨⟨63, by kernel_rfl⟩, by kernel_rfl⟩)
theorem step_IntervalStep_1_m.calls (k0 : Nat) (a0 : Int) (a1 : Int) (q0 : TTape) (q1 : List TInterval) (q2 : List TInterval) (q3 : TTimeStep) (q4 : Int) (b_q0 : Nat) (p_q0_L : Option Addr) (c_q0_L : Nat) (p_q0_Out : Option Addr) (c_q0_Out : Nat) (b_q1 : Nat) (p_q1 : Option Addr) (c_q1 : Nat) (b_q2 : Nat) (p_q2 : Option Addr) (c_q2 : Nat) (b_q3 : Nat) (b_q4 : Nat) (r : List TInterval) (w : World) (hB : AllH [rdl anyF 5 p_q0_L c_q0_L q0.L en_TInstruction, rdl anyF 1 p_q0_Out c_q0_Out q0.Out en_i64, bxK b_q0 [vI q0.N, .slice p_q0_L q0.L.length c_q0_L, .slice p_q0_Out q0.Out.length c_q0_Out] 38, rdl anyF 2 p_q1 c_q1 q1 en_TInterval, bxK b_q1 [.slice p_q1 q1.length c_q1] 48, rdl anyF 2 p_q2 c_q2 q2 en_TInterval, bxK b_q2 [.slice p_q2 q2.length c_q2] 48, bxK b_q3 [vI q3.T, vI q3.H] 53, bxK b_q4 [vI q4] 3, gk] w) (G : step_IntervalStep_1_m k0 a0 a1 q0 q1 q2 q3 q4 = some r) :
  Calls Tryz.prog 79 #[vI a0, vI a1, vP b_q0 0, vP b_q1 0, vP b_q2 0, vP b_q3 0, vP b_q4 0] w fun e w' => ∃ g : Gh, e = .returned (.slice (g.o 0) r.length (g.n 0)) ∧ But (fpK []) w w' ∧ OutOK w.heap.size (fpK []) (frI w.heap.size []) [fun _ => owl 46 2 (g.o 0) (g.n 0) r en_TInterval] w' := by
 obtain ⟨fr, hfr, hBf⟩ := frs w []
 refine k_enterF (args := [vI a0, vI a1, vP b_q0 0, vP b_q1 0, vP b_q2 0, vP b_q3 0, vP b_q4 0]) 23 [(24, rdl anyF 5 p_q0_L c_q0_L q0.L en_TInstruction), (25, rdl anyF 1 p_q0_Out c_q0_Out q0.Out en_i64), (23, bxK b_q0 [vI q0.N, .slice p_q0_L q0.L.length c_q0_L, .slice p_q0_Out q0.Out.length c_q0_Out] 38), (27, rdl anyF 2 p_q1 c_q1 q1 en_TInterval), (26, bxK b_q1 [.slice p_q1 q1.length c_q1] 48), (29, rdl anyF 2 p_q2 c_q2 q2 en_TInterval), (28, bxK b_q2 [.slice p_q2 q2.length c_q2] 48), (30, bxK b_q3 [vI q3.T, vI q3.H] 53), (31, bxK b_q4 [vI q4] 3), (999999, gk)] (by
  intro x hx
  simp only [List.mem_cons, List.not_mem_nil, or_false] at hx
  rcases hx with rfl | rfl | rfl | rfl | rfl | rfl | rfl | rfl | rfl | rfl
  ·exact rdF_fact (rdF_of hB.1) (fun _ _ => trivial) (by decide) _
  ·exact rdF_fact (rdF_of hB.2.1) (fun _ _ => trivial) (by decide) _
  ·exact bx_fact (hB.2.2.1 w (agree.refl _ _)) _
  ·exact rdF_fact (rdF_of hB.2.2.2.1) (fun _ _ => trivial) (by decide) _
  ·exact bx_fact (hB.2.2.2.2.1 w (agree.refl _ _)) _
  ·exact rdF_fact (rdF_of hB.2.2.2.2.2.1) (fun _ _ => trivial) (by decide) _
  ·exact bx_fact (hB.2.2.2.2.2.2.1 w (agree.refl _ _)) _
  ·exact bx_fact (hB.2.2.2.2.2.2.2.1 w (agree.refl _ _)) _
  ·exact bx_fact (hB.2.2.2.2.2.2.2.2.1 w (agree.refl _ _)) _
  ·exact ⟨⟨_, _, rfl⟩, hB.2.2.2.2.2.2.2.2.2.1, glob_in (glob_of hB.2.2.2.2.2.2.2.2.2.1)⟩) Tryz.func79 rfl (by kernel_rfl) (by kernel_rfl) fun a H => ?_
 unfold step_IntervalStep_1_m at G
 refine k_srk mixed H (.v 9 (.slice none 0 0) <| .nil) [0, 1, 2, 3, 4, 5, 6, 24, 25, 27, 29, 23, 26, 28, 30, 31, 999999] fun u1 a w' H => ?_
 obtain ⟨t3, ht3, G⟩ := bnd G
 refine k_srk mixed H (.cons [10] (ok_ldK (fun u2 => .agg #[vI q0.N, .slice p_q0_L q0.L.length c_q0_L, .slice p_q0_Out q0.Out.length c_q0_Out]) 10 23 (bxK b_q0 [vI q0.N, .slice p_q0_L q0.L.length c_q0_L, .slice p_q0_Out q0.Out.length c_q0_Out] 38) b_q0 0 3 [vI q0.N, .slice p_q0_L q0.L.length c_q0_L, .slice p_q0_Out q0.Out.length c_q0_Out] (fun w h => bx_of h)) <|
 .cons [11] (ok_ldK (fun u2 => .slice p_q1 q1.length c_q1) 11 26 (bxK b_q1 [.slice p_q1 q1.length c_q1] 48) b_q1 0 1 [.slice p_q1 q1.length c_q1] (fun w h => bx_of h)) <|
 .cons [12] (ok_ldK (fun u2 => .slice p_q2 q2.length c_q2) 12 28 (bxK b_q2 [.slice p_q2 q2.length c_q2] 48) b_q2 0 1 [.slice p_q2 q2.length c_q2] (fun w h => bx_of h)) <|
 .v 13 (vP b_q3 0) <|
 .cons [14] (ok_ldK (fun u2 => vI q3.T) 14 30 (bxK b_q3 [vI q3.T, vI q3.H] 53) b_q3 0 1 [vI q3.T, vI q3.H] (fun w h => bx_of h)) <|
 .v 15 (vP b_q3 1) <|
 .cons [16] (ok_ldK (fun u2 => vI q3.H) 16 30 (bxK b_q3 [vI q3.T, vI q3.H] 53) b_q3 1 1 [vI q3.T, vI q3.H] (fun w h => bx_of h)) <|
 .v 17 (vI a0) <|
 .v 18 (vI a1) <|
 .v 19 (.agg #[vI a0, vI a1]) <|
 .cons [20] (ok_ldK (fun u2 => vI q4) 20 31 (bxK b_q4 [vI q4] 3) b_q4 0 1 [vI q4] (fun w h => bx_of h)) <|
 .v 21 (.agg #[vI q3.T, vI q3.H, vI a0, vI a1, vI q4]) <|
 .cons [22, 32] (ok_callY false fr [] [24, 25, 27, 29, 999999] (fun u2 => [rdl anyF 5 p_q0_L c_q0_L q0.L en_TInstruction, rdl anyF 1 p_q0_Out c_q0_Out q0.Out en_i64, rdl anyF 2 p_q1 c_q1 q1 en_TInterval, rdl anyF 2 p_q2 c_q2 q2 en_TInterval, gk]) [] (fun u2 => []) 80 _ _ _ _ _ [32] 22 (fun u2 w hB hF hM => step_EnclosureAt.calls k0 (⟨q0.N, q0.L, q0.Out⟩ : TTape) q1 q2 (⟨q3.T, q3.H, (⟨a0, a1⟩ : TInterval), q4⟩ : TStepWindow) p_q0_L c_q0_L p_q0_Out c_q0_Out p_q1 c_q1 p_q2 c_q2 t3 w  hB ht3) (fun u2 w hF => ⟨⟨sub_rd0 (rdF_of hF.1) (fun j h => ⟨_, (.head _), h⟩), sub_rd0 (rdF_of hF.2.1) (fun j h => ⟨_, (.tail _ (.head _)), h⟩), sub_rd0 (rdF_of hF.2.2.1) (fun j h => ⟨_, (.tail _ (.tail _ (.head _))), h⟩), sub_rd0 (rdF_of hF.2.2.2.1) (fun j h => ⟨_, (.tail _ (.tail _ (.tail _ (.head _)))), h⟩), sub_k hF.2.2.2.2.1 (.tail _ (.tail _ (.tail _ (.tail _ (.head _))))), trivial⟩, trivial⟩) (fun u2 g => (fams_cons fam_ow fams_nil)) (.inr (fun u2 g => (famx_cons trivial (fun K h => by cases h)))) (fun h => by cases h)) <|
 .cons [9] (ok_val (fun u2 => .slice ((u2 12).o 0) t3.length ((u2 12).n 0)) 9) <| .nil) [9, 24, 25, 27, 29, 32, 23, 26, 28, 30, 31, 999999] fun u2 a w' H => ?_
 refine k_ret ?_
 obtain rfl := sj G
 obtain ⟨g, o0, n0⟩ := gh_r ((u2 12).o 0) ((u2 12).n 0)
 refine k_doneZ H _ g _ _ _ fr [32] [] (.slice ((u2 12).o 0) t3.length ((u2 12).n 0)) [fun _ => owl 46 2 ((u2 12).o 0) ((u2 12).n 0) t3 en_TInterval] (by simp only [owl, o0, n0]) (by simp only [owl, o0, n0]) hfr (.inl ⟨rfl, rfl⟩) (fams_cons fam_ow fams_nil) (by simp)
theorem step_IntervalStep.calls (k0 : Nat) (a0 : TTape) (a1 : List TInterval) (a2 : TTimeStep) (a3 : Int) (p_a0_L : Option Addr) (c_a0_L : Nat) (p_a0_Out : Option Addr) (c_a0_Out : Nat) (p_a1 : Option Addr) (c_a1 : Nat) (r : TSegment × Bool) (w : World) (hB : AllH [rdl anyF 5 p_a0_L c_a0_L a0.L en_TInstruction, rdl anyF 1 p_a0_Out c_a0_Out a0.Out en_i64, gk] w) (hF : AllH [rdl anyF 2 p_a1 c_a1 a1 en_TInterval] w) (G : step_IntervalStep k0 a0 a1 a2 a3 = some r) :
  Calls Tryz.prog 56 #[.agg #[vI a0.N, .slice p_a0_L a0.L.length c_a0_L, .slice p_a0_Out a0.Out.length c_a0_Out], .slice p_a1 a1.length c_a1, .agg #[vI a2.T, vI a2.H], vI a3] w fun e w' => ∃ g : Gh, e = .returned (.tuple #[.agg #[vI r.1.T, vI r.1.H, .slice (g.o 0) r.1.From.length (g.n 0), .slice (g.o 1) r.1.Pre.length (g.n 1), .slice (g.o 2) r.1.Tube.length (g.n 2), .slice (g.o 3) r.1.To.length (g.n 3)], .bool r.2]) ∧ But (fpK []) w w' ∧ OutOK w.heap.size (fpK []) (frI w.heap.size [rdl anyF 2 p_a1 c_a1 a1 en_TInterval]) [fun fr => rdF fr 2 (g.o 0) r.1.From.length (g.n 0) (r.1.From.flatMap en_TInterval), fun fr => rdF fr 2 (g.o 1) r.1.Pre.length (g.n 1) (r.1.Pre.flatMap en_TInterval), fun fr => rdF fr 2 (g.o 2) r.1.Tube.length (g.n 2) (r.1.Tube.flatMap en_TInterval), fun fr => rdF fr 2 (g.o 3) r.1.To.length (g.n 3) (r.1.To.flatMap en_TInterval)] w' := by
 obtain ⟨fr, hfr, hBf⟩ := frs w [rdl anyF 2 p_a1 c_a1 a1 en_TInterval]
 refine k_enterF (args := [.agg #[vI a0.N, .slice p_a0_L a0.L.length c_a0_L, .slice p_a0_Out a0.Out.length c_a0_Out], .slice p_a1 a1.length c_a1, .agg #[vI a2.T, vI a2.H], vI a3]) 44 [(44, rdl anyF 5 p_a0_L c_a0_L a0.L en_TInstruction), (45, rdl anyF 1 p_a0_Out c_a0_Out a0.Out en_i64), (999999, gk), (46, rdl fr 2 p_a1 c_a1 a1 en_TInterval)] (by
  intro x hx
  simp only [List.mem_cons, List.not_mem_nil, or_false] at hx
  rcases hx with rfl | rfl | rfl | rfl
  ·exact rdF_fact (rdF_of hB.1) (fun _ _ => trivial) (by decide) _
  ·exact rdF_fact (rdF_of hB.2.1) (fun _ _ => trivial) (by decide) _
  ·exact ⟨⟨_, _, rfl⟩, hB.2.2.1, glob_in (glob_of hB.2.2.1)⟩
  ·exact rdF_fact (rdF_of hF.1) (fun j h => by rw [hfr]; exact .inr ⟨_, (.head _), h⟩) (by decide) _) Tryz.func56 rfl (by kernel_rfl) (by kernel_rfl) fun a H => ?_
 unfold step_IntervalStep at G
 refine k_srk mixed H (.cons [4, 47] (ok_new (fun b => vP b 0) (fun u1 => [vI a0.N, .slice p_a0_L a0.L.length c_a0_L, .slice p_a0_Out a0.Out.length c_a0_Out]) 38 4 47) <|
 .cons [5, 48] (ok_new (fun b => vP b 0) (fun u1 => [.slice p_a1 a1.length c_a1]) 48 5 48) <|
 .cons [6, 49] (ok_new (fun b => vP b 0) (fun u1 => [vI a2.T, vI a2.H]) 53 6 49) <|
 .cons [7, 50] (ok_new (fun b => vP b 0) (fun u1 => [vI a3]) 3 7 50) <|
 .cons [8, 51] (ok_new (fun b => vP b 0) (fun u1 => [vI 0, vI 0, .slice none 0 0, .slice none 0 0, .slice none 0 0, .slice none 0 0]) 63 8 51) <|
 .v 9 (.bool false) <| .nil) [4, 5, 6, 7, 8, 44, 45, 46, 47, 48, 49, 50, 51, 999999] fun u1 a w' H => ?_
 obtain ⟨t3, ht3, G⟩ := bnd G
 refine k_srk mixed H (.cons [14] (ok_ldc (.agg #[vI a0.N, .slice p_a0_L a0.L.length c_a0_L, .slice p_a0_Out a0.Out.length c_a0_Out]) 14 47 0 3 ((u1 0).n 0) [vI a0.N, .slice p_a0_L a0.L.length c_a0_L, .slice p_a0_Out a0.Out.length c_a0_Out] 38) <|
 .cons [15] (ok_ldc (.slice p_a1 a1.length c_a1) 15 48 0 1 ((u1 1).n 0) [.slice p_a1 a1.length c_a1] 48) <|
 .cons [16] (ok_ldc (.agg #[vI a2.T, vI a2.H]) 16 49 0 2 ((u1 2).n 0) [vI a2.T, vI a2.H] 53) <|
 .cons [17, 52] (ok_callY true fr [] [44, 45, 46, 999999] (fun u2 => [rdl anyF 5 p_a0_L c_a0_L a0.L en_TInstruction, rdl anyF 1 p_a0_Out c_a0_Out a0.Out en_i64, rdl fr 2 p_a1 c_a1 a1 en_TInterval, gk]) [] (fun u2 => []) 78 _ _ _ _ _ [52] 17 (fun u2 w hB hF hM => picard_Enclose.calls k0 (⟨a0.N, a0.L, a0.Out⟩ : TTape) a1 a2 p_a0_L c_a0_L p_a0_Out c_a0_Out p_a1 c_a1 t3 w  hB ht3) (fun u2 w hF => ⟨⟨sub_rd0 (rdF_of hF.1) (fun j h => ⟨_, (.head _), h⟩), sub_rd0 (rdF_of hF.2.1) (fun j h => ⟨_, (.tail _ (.head _)), h⟩), sub_rd0 (rdF_of hF.2.2.1) (fun j h => ⟨_, (.tail _ (.tail _ (.head _))), h⟩), sub_k hF.2.2.2.1 (.tail _ (.tail _ (.tail _ (.head _)))), trivial⟩, trivial⟩) (fun u2 g => (fams_cons (fam_rd (by decide)) fams_nil)) (.inl rfl) (fun _ => hBf)) <|
 .cons [13] (ok_val (fun u2 => .tuple #[.slice ((u2 3).o 0) t3.1.length ((u2 3).n 0), .bool t3.2]) 13) <|
 .cons [18] (ok_val (fun u2 => .slice ((u2 3).o 0) t3.1.length ((u2 3).n 0)) 18) <|
 .v 19 (.bool t3.2) <|
 .cons [10, 53] (ok_new (fun b => vP b 0) (fun u2 => [.slice none 0 0]) 48 10 53) <|
 .cons [53] (ok_as (u' := fun u2 => [(53, .blk ((u2 7).n 0) [.slice ((u2 3).o 0) t3.1.length ((u2 3).n 0)] 48)]) (ok_store 53 0 (fun u2 => ((u2 7).n 0)) (fun u2 => [.slice none 0 0]) (fun u2 => [.slice ((u2 3).o 0) t3.1.length ((u2 3).n 0)]) 48) (fun _ => by kernel_rfl)) <|
 .v 11 (.bool t3.2) <| .nil) [4, 5, 6, 7, 8, 10, 11, 44, 45, 46, 47, 48, 49, 50, 51, 52, 53, 999999] fun u2 a w' H => ?_
 refine k_seq ?_
 refine k_srk mixed H (.v 20 (.bool t3.2) <|
 .v 21 (.bool (!t3.2)) <| .nil) [4, 5, 6, 7, 8, 10, 21, 44, 45, 46, 47, 48, 49, 50, 51, 52, 53, 999999] fun u4 a w' H => ?_
 refine k_cnd H (!t3.2) (fun c11 => ?_) fun c11 => ?_
 ·rw [if_pos c11] at G
  refine k_srk mixed H (.v 22 (.agg #[vI 0, vI 0, .slice none 0 0, .slice none 0 0, .slice none 0 0, .slice none 0 0]) <|
 .cons [51] (ok_stc 51 0 ((u1 4).n 0) [vI 0, vI 0, .slice none 0 0, .slice none 0 0, .slice none 0 0, .slice none 0 0] [vI 0, vI 0, .slice none 0 0, .slice none 0 0, .slice none 0 0, .slice none 0 0] 63 [vI 0, vI 0, .slice none 0 0, .slice none 0 0, .slice none 0 0, .slice none 0 0]) <|
 .v 9 (.bool false) <| .nil) [8, 9, 51, 999999] fun u5 a w' H => ?_
  refine k_ret ?_
  obtain rfl := sj G
  replace H := H.nil_row 54 46 2
  replace H := H.demote fr 54 46 2 none 0 0 (([] : List TInterval).flatMap en_TInterval) (by kernel_rfl) (by decide) hBf
  replace H := H.nil_row 55 46 2
  replace H := H.demote fr 55 46 2 none 0 0 (([] : List TInterval).flatMap en_TInterval) (by kernel_rfl) (by decide) hBf
  replace H := H.nil_row 56 46 2
  replace H := H.demote fr 56 46 2 none 0 0 (([] : List TInterval).flatMap en_TInterval) (by kernel_rfl) (by decide) hBf
  replace H := H.nil_row 57 46 2
  replace H := H.demote fr 57 46 2 none 0 0 (([] : List TInterval).flatMap en_TInterval) (by kernel_rfl) (by decide) hBf
  obtain ⟨g, o0, n0, o1, n1, o2, n2, o3, n3⟩ : ∃ g : Gh, g.o 0 = none ∧ g.n 0 = 0 ∧ g.o 1 = none ∧ g.n 1 = 0 ∧ g.o 2 = none ∧ g.n 2 = 0 ∧ g.o 3 = none ∧ g.n 3 = 0 := ⟨⟨fun i => [0, 0, 0, 0].getD i 0, fun i => [none, none, none, none].getD i none, fun i => ([⟨Unit, ()⟩, ⟨Unit, ()⟩, ⟨Unit, ()⟩, ⟨Unit, ()⟩] : List ((T : Type) × T)).getD i ⟨Unit, ()⟩⟩, rfl, rfl, rfl, rfl, rfl, rfl, rfl, rfl⟩
  refine k_doneZ H _ g _ _ _ fr [54, 55, 56, 57] [(51, ⟨((u1 4).n 0), [vI 0, vI 0, .slice none 0 0, .slice none 0 0, .slice none 0 0, .slice none 0 0], 0, 6⟩)] (.tuple #[.agg #[vI 0, vI 0, .slice none 0 0, .slice none 0 0, .slice none 0 0, .slice none 0 0], .bool false]) [fun fr => rdF fr 2 none 0 0 (([] : List TInterval).flatMap en_TInterval), fun fr => rdF fr 2 none 0 0 (([] : List TInterval).flatMap en_TInterval), fun fr => rdF fr 2 none 0 0 (([] : List TInterval).flatMap en_TInterval), fun fr => rdF fr 2 none 0 0 (([] : List TInterval).flatMap en_TInterval)] (by simp only [owl, o0, n0, o1, n1, o2, n2, o3, n3, List.length_set, List.length_cons, List.length_nil, Nat.zero_add, Nat.reduceAdd]) (by simp only [owl, o0, n0, o1, n1, o2, n2, o3, n3, List.length_set, List.length_cons, List.length_nil, Nat.zero_add, Nat.reduceAdd]) hfr (.inl ⟨rfl, rfl⟩) (fams_cons (fam_rd (by decide)) (fams_cons (fam_rd (by decide)) (fams_cons (fam_rd (by decide)) (fams_cons (fam_rd (by decide)) fams_nil)))) (by intro p hp; simp only [List.mem_cons, List.not_mem_nil, or_false] at hp; rcases hp with rfl; exact ⟨⟨63, by kernel_rfl⟩, by kernel_rfl⟩)
 ·rw [if_neg (nt c11)] at G
  refine k_skip ?_
  refine k_srk mixed H (.v 23 (.func (.func 79) #[] #[vP ((u1 0).n 0) 0, vP ((u1 1).n 0) 0, vP ((u2 7).n 0) 0, vP ((u1 2).n 0) 0, vP ((u1 3).n 0) 0]) <|
 .v 12 (.func (.func 79) #[] #[vP ((u1 0).n 0) 0, vP ((u1 1).n 0) 0, vP ((u2 7).n 0) 0, vP ((u1 2).n 0) 0, vP ((u1 3).n 0) 0]) <| .nil) [5, 6, 8, 10, 12, 44, 45, 46, 47, 48, 49, 50, 51, 52, 53, 999999] fun u6 a w' H => ?_
  refine k_seq ?_
  obtain ⟨t8, ht8, G⟩ := bnd G
  obtain ⟨t9, ht9, G⟩ := bnd G
  obtain ⟨t10, ht10, G⟩ := bnd G
  refine k_regT mixed H (.v 24 (vP ((u1 2).n 0) 0) <|
 .cons [25] (ok_ldc (vI a2.T) 25 49 0 1 ((u1 2).n 0) [vI a2.T, vI a2.H] 53) <|
 .v 26 (vP ((u1 2).n 0) 1) <|
 .cons [27] (ok_ldc (vI a2.H) 27 49 1 1 ((u1 2).n 0) [vI a2.T, vI a2.H] 53) <|
 .cons [28] (ok_ldc (.slice p_a1 a1.length c_a1) 28 48 0 1 ((u1 1).n 0) [.slice p_a1 a1.length c_a1] 48) <|
 .cons [29] (ok_ldc (.slice ((u2 3).o 0) t3.1.length ((u2 3).n 0)) 29 53 0 1 ((u2 7).n 0) [.slice ((u2 3).o 0) t3.1.length ((u2 3).n 0)] 48) <|
 .v 30 (.func (.func 79) #[] #[vP ((u1 0).n 0) 0, vP ((u1 1).n 0) 0, vP ((u2 7).n 0) 0, vP ((u1 2).n 0) 0, vP ((u1 3).n 0) 0]) <|
 .v 31 (vP ((u1 2).n 0) 1) <|
 .cons [32] (ok_ldc (vI a2.H) 32 49 1 1 ((u1 2).n 0) [vI a2.T, vI a2.H] 53) <|
 .cons [33, 58, 58] (ok_post (fun u7 => [(58, rdF fr 2 ((u7 9).o 0) t8.length ((u7 9).n 0) (t8.flatMap en_TInterval))]) (ok_callY false fr [] [44, 45, 47, 46, 48, 52, 53, 49, 50, 999999] (fun u7 => [rdl anyF 5 p_a0_L c_a0_L a0.L en_TInstruction, rdl anyF 1 p_a0_Out c_a0_Out a0.Out en_i64, .blk ((u1 0).n 0) [vI a0.N, .slice p_a0_L a0.L.length c_a0_L, .slice p_a0_Out a0.Out.length c_a0_Out] 38, rdl fr 2 p_a1 c_a1 a1 en_TInterval, .blk ((u1 1).n 0) [.slice p_a1 a1.length c_a1] 48, rdF fr 2 ((u2 3).o 0) t3.1.length ((u2 3).n 0) (t3.1.flatMap en_TInterval), .blk ((u2 7).n 0) [.slice ((u2 3).o 0) t3.1.length ((u2 3).n 0)] 48, .blk ((u1 2).n 0) [vI a2.T, vI a2.H] 53, .blk ((u1 3).n 0) [vI a3] 3, gk]) [] (fun u7 => []) 79 _ _ _ _ _ [58] 33 (fun u7 w hB hF hM => step_IntervalStep_1_m.calls k0 0 a2.H (⟨a0.N, a0.L, a0.Out⟩ : TTape) a1 t3.1 a2 a3 ((u1 0).n 0) p_a0_L c_a0_L p_a0_Out c_a0_Out ((u1 1).n 0) p_a1 c_a1 ((u2 7).n 0) ((u2 3).o 0) ((u2 3).n 0) ((u1 2).n 0) ((u1 3).n 0) t8 w  hB ht8) (fun u7 w hF => ⟨⟨sub_rd0 (rdF_of hF.1) (fun j h => ⟨_, (.head _), h⟩), sub_rd0 (rdF_of hF.2.1) (fun j h => ⟨_, (.tail _ (.head _)), h⟩), sub_bx hF.2.2.1 (.tail _ (.tail _ (.head _))) rfl, sub_rd0 (rdF_of hF.2.2.2.1) (fun j h => ⟨_, (.tail _ (.tail _ (.tail _ (.head _)))), h⟩), sub_bx hF.2.2.2.2.1 (.tail _ (.tail _ (.tail _ (.tail _ (.head _))))) rfl, sub_rd0 (rdF_of hF.2.2.2.2.2.1) (fun j h => ⟨_, (.tail _ (.tail _ (.tail _ (.tail _ (.tail _ (.head _)))))), h⟩), sub_bx hF.2.2.2.2.2.2.1 (.tail _ (.tail _ (.tail _ (.tail _ (.tail _ (.tail _ (.head _))))))) rfl, sub_bx hF.2.2.2.2.2.2.2.1 (.tail _ (.tail _ (.tail _ (.tail _ (.tail _ (.tail _ (.tail _ (.head _)))))))) rfl, sub_bx hF.2.2.2.2.2.2.2.2.1 (.tail _ (.tail _ (.tail _ (.tail _ (.tail _ (.tail _ (.tail _ (.tail _ (.head _))))))))) rfl, sub_k hF.2.2.2.2.2.2.2.2.2.1 (.tail _ (.tail _ (.tail _ (.tail _ (.tail _ (.tail _ (.tail _ (.tail _ (.tail _ (.head _)))))))))), trivial⟩, trivial⟩) (fun u7 g => (fams_cons fam_ow fams_nil)) (.inr (fun u7 g => (famx_cons trivial (fun K h => by cases h)))) (fun h => by cases h)) (fun u7 S a w H => H.demote fr 58 46 2 ((u7 9).o 0) t8.length ((u7 9).n 0) (t8.flatMap en_TInterval) (by kernel_rfl) (by decide) hBf)) <|
 .v 34 (.func (.func 79) #[] #[vP ((u1 0).n 0) 0, vP ((u1 1).n 0) 0, vP ((u2 7).n 0) 0, vP ((u1 2).n 0) 0, vP ((u1 3).n 0) 0]) <|
 .v 35 (vP ((u1 2).n 0) 1) <|
 .cons [36] (ok_ldc (vI a2.H) 36 49 1 1 ((u1 2).n 0) [vI a2.T, vI a2.H] 53) <|
 .v 37 (vP ((u1 2).n 0) 1) <|
 .cons [38] (ok_ldc (vI a2.H) 38 49 1 1 ((u1 2).n 0) [vI a2.T, vI a2.H] 53) <|
 .cons [39, 59, 59] (ok_post (fun u7 => [(59, rdF fr 2 ((u7 15).o 0) t9.length ((u7 15).n 0) (t9.flatMap en_TInterval))]) (ok_callY false fr [] [44, 45, 47, 46, 48, 52, 53, 49, 50, 999999] (fun u7 => [rdl anyF 5 p_a0_L c_a0_L a0.L en_TInstruction, rdl anyF 1 p_a0_Out c_a0_Out a0.Out en_i64, .blk ((u1 0).n 0) [vI a0.N, .slice p_a0_L a0.L.length c_a0_L, .slice p_a0_Out a0.Out.length c_a0_Out] 38, rdl fr 2 p_a1 c_a1 a1 en_TInterval, .blk ((u1 1).n 0) [.slice p_a1 a1.length c_a1] 48, rdF fr 2 ((u2 3).o 0) t3.1.length ((u2 3).n 0) (t3.1.flatMap en_TInterval), .blk ((u2 7).n 0) [.slice ((u2 3).o 0) t3.1.length ((u2 3).n 0)] 48, .blk ((u1 2).n 0) [vI a2.T, vI a2.H] 53, .blk ((u1 3).n 0) [vI a3] 3, gk]) [] (fun u7 => []) 79 _ _ _ _ _ [59] 39 (fun u7 w hB hF hM => step_IntervalStep_1_m.calls k0 a2.H a2.H (⟨a0.N, a0.L, a0.Out⟩ : TTape) a1 t3.1 a2 a3 ((u1 0).n 0) p_a0_L c_a0_L p_a0_Out c_a0_Out ((u1 1).n 0) p_a1 c_a1 ((u2 7).n 0) ((u2 3).o 0) ((u2 3).n 0) ((u1 2).n 0) ((u1 3).n 0) t9 w  hB ht9) (fun u7 w hF => ⟨⟨sub_rd0 (rdF_of hF.1) (fun j h => ⟨_, (.head _), h⟩), sub_rd0 (rdF_of hF.2.1) (fun j h => ⟨_, (.tail _ (.head _)), h⟩), sub_bx hF.2.2.1 (.tail _ (.tail _ (.head _))) rfl, sub_rd0 (rdF_of hF.2.2.2.1) (fun j h => ⟨_, (.tail _ (.tail _ (.tail _ (.head _)))), h⟩), sub_bx hF.2.2.2.2.1 (.tail _ (.tail _ (.tail _ (.tail _ (.head _))))) rfl, sub_rd0 (rdF_of hF.2.2.2.2.2.1) (fun j h => ⟨_, (.tail _ (.tail _ (.tail _ (.tail _ (.tail _ (.head _)))))), h⟩), sub_bx hF.2.2.2.2.2.2.1 (.tail _ (.tail _ (.tail _ (.tail _ (.tail _ (.tail _ (.head _))))))) rfl, sub_bx hF.2.2.2.2.2.2.2.1 (.tail _ (.tail _ (.tail _ (.tail _ (.tail _ (.tail _ (.tail _ (.head _)))))))) rfl, sub_bx hF.2.2.2.2.2.2.2.2.1 (.tail _ (.tail _ (.tail _ (.tail _ (.tail _ (.tail _ (.tail _ (.tail _ (.head _))))))))) rfl, sub_k hF.2.2.2.2.2.2.2.2.2.1 (.tail _ (.tail _ (.tail _ (.tail _ (.tail _ (.tail _ (.tail _ (.tail _ (.tail _ (.head _)))))))))), trivial⟩, trivial⟩) (fun u7 g => (fams_cons fam_ow fams_nil)) (.inr (fun u7 g => (famx_cons trivial (fun K h => by cases h)))) (fun h => by cases h)) (fun u7 S a w H => H.demote fr 59 46 2 ((u7 15).o 0) t9.length ((u7 15).n 0) (t9.flatMap en_TInterval) (by kernel_rfl) (by decide) hBf)) <|
 .cons [40] (ok_val (fun u7 => .agg #[vI a2.T, vI a2.H, .slice p_a1 a1.length c_a1, .slice ((u2 3).o 0) t3.1.length ((u2 3).n 0), .slice ((u7 9).o 0) t8.length ((u7 9).n 0), .slice ((u7 15).o 0) t9.length ((u7 15).n 0)]) 40) <|
 .cons [41, 60, 61, 62, 63] (ok_callY true fr [9, 15] [46, 52, 58, 59] (fun u7 => [rdl fr 2 p_a1 c_a1 a1 en_TInterval, rdF fr 2 ((u2 3).o 0) t3.1.length ((u2 3).n 0) (t3.1.flatMap en_TInterval), rdF fr 2 ((u7 9).o 0) t8.length ((u7 9).n 0) (t8.flatMap en_TInterval), rdF fr 2 ((u7 15).o 0) t9.length ((u7 15).n 0) (t9.flatMap en_TInterval)]) [] (fun u7 => []) 81 _ (fun u7 => []) _ _ _ [60, 61, 62, 63] 41 (fun u7 w hB hF hM => step_bounded.calls k0 (⟨a2.T, a2.H, a1, t3.1, t8, t9⟩ : TSegment) p_a1 c_a1 ((u2 3).o 0) ((u2 3).n 0) ((u7 9).o 0) ((u7 9).n 0) ((u7 15).o 0) ((u7 15).n 0) t10 w  hF ht10) (fun u7 w hF => ⟨trivial, ⟨sub_rd1 (rdF_of hF.1) (fun j h => ff_of (.head _) (fun h => h) h (rdF_fr hF.1 _ h)), sub_rd1 (rdF_of hF.2.1) (fun j h => ff_of (.tail _ (.head _)) (fun h => h) h (rdF_fr hF.2.1 _ h)), sub_rd1 (rdF_of hF.2.2.1) (fun j h => ff_of (.tail _ (.tail _ (.head _))) (fun h => h) h (rdF_fr hF.2.2.1 _ h)), sub_rd1 (rdF_of hF.2.2.2.1) (fun j h => ff_of (.tail _ (.tail _ (.tail _ (.head _)))) (fun h => h) h (rdF_fr hF.2.2.2.1 _ h)), trivial⟩⟩) (fun u7 g => (fams_cons (fam_rd (by decide)) (fams_cons (fam_rd (by decide)) (fams_cons (fam_rd (by decide)) (fams_cons (fam_rd (by decide)) fams_nil))))) (.inl rfl) (fun _ => hBf) (hloc := fun u u' h => ⟨by first | rfl | simp only [h 9 (by decide), h 15 (by decide)], by first | rfl | simp only [h 9 (by decide), h 15 (by decide)], by first | rfl | simp only [h 9 (by decide), h 15 (by decide)], by first | rfl | simp only [h 9 (by decide), h 15 (by decide)], by first | rfl | simp only [h 9 (by decide), h 15 (by decide)], by first | rfl | simp only [h 9 (by decide), h 15 (by decide)]⟩)) <|
 .cons [42] (ok_val (fun u7 => .agg #[vI t10.1.T, vI t10.1.H, .slice ((u7 17).o 0) t10.1.From.length ((u7 17).n 0), .slice ((u7 17).o 1) t10.1.Pre.length ((u7 17).n 1), .slice ((u7 17).o 2) t10.1.Tube.length ((u7 17).n 2), .slice ((u7 17).o 3) t10.1.To.length ((u7 17).n 3)]) 42) <|
 .v 43 (.bool t10.2) <|
 .cons [51] (ok_as (u' := fun u7 => [(51, .blk ((u1 4).n 0) [vI t10.1.T, vI t10.1.H, .slice ((u7 17).o 0) t10.1.From.length ((u7 17).n 0), .slice ((u7 17).o 1) t10.1.Pre.length ((u7 17).n 1), .slice ((u7 17).o 2) t10.1.Tube.length ((u7 17).n 2), .slice ((u7 17).o 3) t10.1.To.length ((u7 17).n 3)] 63)]) (ok_store 51 0 (fun u7 => ((u1 4).n 0)) (fun u7 => [vI 0, vI 0, .slice none 0 0, .slice none 0 0, .slice none 0 0, .slice none 0 0]) (fun u7 => [vI t10.1.T, vI t10.1.H, .slice ((u7 17).o 0) t10.1.From.length ((u7 17).n 0), .slice ((u7 17).o 1) t10.1.Pre.length ((u7 17).n 1), .slice ((u7 17).o 2) t10.1.Tube.length ((u7 17).n 2), .slice ((u7 17).o 3) t10.1.To.length ((u7 17).n 3)]) 63) (fun _ => by kernel_rfl)) <|
 .v 9 (.bool t10.2) <| .nil) (by kernel_rfl) fun u7 a w' H => ?_
  replace H := H.kp [8, 9, 51, 60, 61, 62, 63, 999999]
  refine k_ret ?_
  obtain rfl := sj G
  obtain ⟨g, o0, n0, o1, n1, o2, n2, o3, n3⟩ : ∃ g : Gh, g.o 0 = ((u7 17).o 0) ∧ g.n 0 = ((u7 17).n 0) ∧ g.o 1 = ((u7 17).o 1) ∧ g.n 1 = ((u7 17).n 1) ∧ g.o 2 = ((u7 17).o 2) ∧ g.n 2 = ((u7 17).n 2) ∧ g.o 3 = ((u7 17).o 3) ∧ g.n 3 = ((u7 17).n 3) := ⟨⟨fun i => [((u7 17).n 0), ((u7 17).n 1), ((u7 17).n 2), ((u7 17).n 3)].getD i 0, fun i => [((u7 17).o 0), ((u7 17).o 1), ((u7 17).o 2), ((u7 17).o 3)].getD i none, fun i => ([⟨Unit, ()⟩, ⟨Unit, ()⟩, ⟨Unit, ()⟩, ⟨Unit, ()⟩] : List ((T : Type) × T)).getD i ⟨Unit, ()⟩⟩, rfl, rfl, rfl, rfl, rfl, rfl, rfl, rfl⟩
  refine k_doneZ H _ g _ _ _ fr [60, 61, 62, 63] [(51, ⟨((u1 4).n 0), [vI t10.1.T, vI t10.1.H, .slice ((u7 17).o 0) t10.1.From.length ((u7 17).n 0), .slice ((u7 17).o 1) t10.1.Pre.length ((u7 17).n 1), .slice ((u7 17).o 2) t10.1.Tube.length ((u7 17).n 2), .slice ((u7 17).o 3) t10.1.To.length ((u7 17).n 3)], 0, 6⟩)] (.tuple #[.agg #[vI t10.1.T, vI t10.1.H, .slice ((u7 17).o 0) t10.1.From.length ((u7 17).n 0), .slice ((u7 17).o 1) t10.1.Pre.length ((u7 17).n 1), .slice ((u7 17).o 2) t10.1.Tube.length ((u7 17).n 2), .slice ((u7 17).o 3) t10.1.To.length ((u7 17).n 3)], .bool t10.2]) [fun fr => rdF fr 2 ((u7 17).o 0) t10.1.From.length ((u7 17).n 0) (t10.1.From.flatMap en_TInterval), fun fr => rdF fr 2 ((u7 17).o 1) t10.1.Pre.length ((u7 17).n 1) (t10.1.Pre.flatMap en_TInterval), fun fr => rdF fr 2 ((u7 17).o 2) t10.1.Tube.length ((u7 17).n 2) (t10.1.Tube.flatMap en_TInterval), fun fr => rdF fr 2 ((u7 17).o 3) t10.1.To.length ((u7 17).n 3) (t10.1.To.flatMap en_TInterval)] (by simp only [owl, o0, n0, o1, n1, o2, n2, o3, n3]) (by simp only [owl, o0, n0, o1, n1, o2, n2, o3, n3]) hfr (.inl ⟨rfl, rfl⟩) (fams_cons (fam_rd (by decide)) (fams_cons (fam_rd (by decide)) (fams_cons (fam_rd (by decide)) (fams_cons (fam_rd (by decide)) fams_nil)))) (by intro p hp; simp only [List.mem_cons, List.not_mem_nil, or_false] at hp; rcases hp with rfl; exact ⟨⟨63, by kernel_rfl⟩, by kernel_rfl⟩)
theorem control_Accept_1_m.calls (a0 : TInterval) (q0 : TStepControl) (b_q0 : Nat) (r : Bool) (w : World) (hB : AllH [bxK b_q0 [vI q0.Order, vI q0.First, vI q0.Least, vI q0.Most, vI q0.Wide] 27] w) (G : control_Accept_1_m a0 q0 = some r) :
  Calls Tryz.prog 82 #[.agg #[vI a0.Lo, vI a0.Hi], vP b_q0 0] w fun e w' => e = .returned (.bool r) ∧ Below w.heap.size w w' := by
 obtain ⟨fr, hfr⟩ : ∃ fr : Nat → Prop, ∀ j, fr j := ⟨fun _ => True, fun _ => trivial⟩
 have hBf : ∀ j, w.heap.size ≤ j → fr j := fun j _ => hfr j
 refine k_enterF (args := [.agg #[vI a0.Lo, vI a0.Hi], vP b_q0 0]) 9 [(9, bxK b_q0 [vI q0.Order, vI q0.First, vI q0.Least, vI q0.Most, vI q0.Wide] 27)] (by
  intro x hx
  simp only [List.mem_cons, List.not_mem_nil, or_false] at hx
  rcases hx with rfl
  exact bx_fact (hB.1 w (agree.refl _ _)) _) Tryz.func82 rfl (by kernel_rfl) (by kernel_rfl) fun a H => ?_
 unfold control_Accept_1_m at G
 refine k_srk mixed H (.cons [2, 10] (ok_new (fun b => vP b 0) (fun u1 => [vI a0.Lo, vI a0.Hi]) 46 2 10) <|
 .v 3 (.bool false) <| .nil) [1, 2, 10, 9] fun u1 a w' H => ?_
 obtain ⟨t3, ht3, G⟩ := bnd G
 refine k_srk mixed H (.cons [4] (ok_ldc (.agg #[vI a0.Lo, vI a0.Hi]) 4 10 0 2 ((u1 0).n 0) [vI a0.Lo, vI a0.Hi] 46) <|
 .cons [5] (ok_callv 83 _ _ 5 [] (fun u2 w _ => interval_Width.calls a0  t3 w  ht3)) <|
 .v 6 (vP b_q0 4) <|
 .cons [7] (ok_ldK (fun u2 => vI q0.Wide) 7 9 (bxK b_q0 [vI q0.Order, vI q0.First, vI q0.Least, vI q0.Most, vI q0.Wide] 27) b_q0 4 1 [vI q0.Order, vI q0.First, vI q0.Least, vI q0.Most, vI q0.Wide] (fun w h => bx_of h)) <|
 .v 8 (.bool (decide (t3 > q0.Wide))) <|
 .v 3 (.bool (decide (t3 > q0.Wide))) <| .nil) [3, 9] fun u2 a w' H => ?_
 refine k_ret ?_
 obtain rfl := sj G
 exact k_done0 H _ (by kernel_rfl) (by kernel_rfl)
theorem api_Interval_103_s82.calls (k0 : Nat) (a0 : List TInterval) (a1_0 : TStepControl) (p_a0 : Option Addr) (c_a0 : Nat) (b_a1_0 : Nat) (r : Int) (w : World) (hB : AllH [rdl anyF 2 p_a0 c_a0 a0 en_TInterval, bxK b_a1_0 [vI a1_0.Order, vI a1_0.First, vI a1_0.Least, vI a1_0.Most, vI a1_0.Wide] 27] w) (G : api_Interval_103_s82 k0 a0 a1_0 = some r) :
  Calls Tryz.prog 103 #[.slice p_a0 a0.length c_a0, .func (.func 82) #[] #[vP b_a1_0 0]] w fun e w' => e = .returned (vI r) ∧ Below w.heap.size w w' := by
 obtain ⟨fr, hfr⟩ : ∃ fr : Nat → Prop, ∀ j, fr j := ⟨fun _ => True, fun _ => trivial⟩
 have hBf : ∀ j, w.heap.size ≤ j → fr j := fun j _ => hfr j
 refine k_enterF (args := [.slice p_a0 a0.length c_a0, .func (.func 82) #[] #[vP b_a1_0 0]]) 19 [(19, rdl anyF 2 p_a0 c_a0 a0 en_TInterval), (20, bxK b_a1_0 [vI a1_0.Order, vI a1_0.First, vI a1_0.Least, vI a1_0.Most, vI a1_0.Wide] 27)] (by
  intro x hx
  simp only [List.mem_cons, List.not_mem_nil, or_false] at hx
  rcases hx with rfl | rfl
  ·exact rdF_fact (rdF_of hB.1) (fun _ _ => trivial) (by decide) _
  ·exact bx_fact (hB.2.1 w (agree.refl _ _)) _) Tryz.func103 rfl (by kernel_rfl) (by kernel_rfl) fun a H => ?_
 unfold api_Interval_103_s82 at G
 refine k_srk mixed H (.v 4 (vI 0) <| .nil) [0, 1, 19, 20] fun u1 a w' H => ?_
 refine k_seq ?_
 obtain ⟨j2, hj2, Gj2⟩ := bnd G
 refine k_join (fun a w' => ∃ j2v, j2 = Sum.inr j2v ∧ RL w 19 [(20, bxK b_a1_0 [vI a1_0.Order, vI a1_0.First, vI a1_0.Least, vI a1_0.Most, vI a1_0.Wide] 27)] a w') ?_ ?_
 ·clear H; rintro a w' ⟨j2v, rfl, H⟩; have G := Gj2; clear Gj2; dsimp only at G
  refine k_srk mixed H (.v 4 (vI (-1)) <| .nil) [4, 20] fun u3 a w' H => ?_
  refine k_ret ?_
  obtain rfl := sj G
  exact k_done0 H _ (by kernel_rfl) (by kernel_rfl)
 ·have G := hj2; clear hj2
  refine k_srk mixed H (.v 6 (.slice p_a0 a0.length c_a0) <|
 .v 7 (vI (a0.length : Int)) <|
 .v 8 (vI 0) <| .nil) [0, 1, 7, 8, 19, 20] fun u4 a w' H => ?_
  refine k_block ?_
  refine k_loopJ (fun m a w' => ∃ x5 : Int, api_Interval_103_s82.l6 k0 a0 a1_0 m x5 = some j2 ∧ RL w 19 [(0, sS p_a0 a0.length c_a0), (1, .slot true (.func (.func 82) #[] #[vP b_a1_0 0])), (7, (sI (a0.length : Int))), (8, sI x5), (19, rdl anyF 2 p_a0 c_a0 a0 en_TInterval), (20, bxK b_a1_0 [vI a1_0.Order, vI a1_0.First, vI a1_0.Least, vI a1_0.Most, vI a1_0.Wide] 27)] a w') k0 ⟨_, G, H.toM _⟩ ?_
  clear G H
  rintro (_ | k) a w' ⟨x5, G, H⟩
  ·exact absurd G (by unfold api_Interval_103_s82.l6; exact fun h => by cases h)
  ·unfold api_Interval_103_s82.l6 at G
   refine k_srk mixed H (.v 9 (.bool (decide (x5 < (a0.length : Int)))) <| .nil) [0, 1, 7, 8, 9, 19, 20] fun u7 a w' H => ?_
   refine k_seq ?_
   refine k_cnd H (decide (x5 < (a0.length : Int))) (fun c16 => ?_) fun c16 => ?_
   ·rw [if_pos c16] at G
    refine k_skip ?_
    refine k_seq ?_
    refine k_block ?_
    refine k_srk mixed H (.v 10 (vI x5) <|
 .v 5 (vI x5) <| .nil) [0, 1, 5, 7, 8, 19, 20] fun u8 a w' H => ?_
    refine k_seq ?_
    replace G := gd G; obtain ⟨b10, G⟩ := G
    obtain ⟨t11, ht11, G⟩ := bnd G
    obtain ⟨t12, ht12, G⟩ := bnd G
    refine k_rk mixed H (.v 11 (.func (.func 82) #[] #[vP b_a1_0 0]) <|
 .v 12 (.slice p_a0 a0.length c_a0) <|
 .v 13 (vI x5) <|
 .cons [14] (ok_v1 19 (rdl anyF 2 p_a0 c_a0 a0 en_TInterval) (.pointer (some ⟨hdB p_a0, hdO p_a0 + x5.toNat * 2, none⟩)) 14 fun _ w h => ixr 48 .i64 x5 p_a0 a0.length c_a0 a0 en_TInterval (rdF_of h).2 en_TInterval_len rfl b10) <|
 .cons [15] (ok_v1 19 (rdl anyF 2 p_a0 c_a0 a0 en_TInterval) (.agg #[vI t11.Lo, vI t11.Hi]) 15 fun _ w h => ldr en_TInterval (rdF_of h).2 en_TInterval_len ht11 0 2 [vI t11.Lo, vI t11.Hi]) <|
 .cons [16] (ok_callL [20] (fun u9 => [bxK b_a1_0 [vI a1_0.Order, vI a1_0.First, vI a1_0.Least, vI a1_0.Most, vI a1_0.Wide] 27]) 82 _ _ 16 (fun u9 w hF => control_Accept_1_m.calls t11 a1_0 b_a1_0 t12 w  ⟨(bx_fact (hF.1 w (agree.refl _ _)) 0).2.1, trivial⟩ ht12)) <| .nil) [0, 1, 5, 7, 8, 16, 19, 20] fun u9 a w' H => ?_
    refine k_cnd H t12 (fun c15 => ?_) fun c15 => ?_
    ·rw [if_pos c15] at G
     refine k_srk mixed H (.v 17 (vI x5) <|
 .v 4 (vI x5) <| .nil) [4, 20] fun u13 a w' H => ?_
     refine k_ret ?_
     obtain rfl := sj G
     replace G := Gj2
     obtain rfl := sj G
     exact k_done0 H _ (by kernel_rfl) (by kernel_rfl)
    ·rw [if_neg (nt c15)] at G
     refine k_skip ?_
     refine k_rk mixed H (.v 18 (vI (w_i64 (x5 + 1))) <|
 .v 8 (vI (w_i64 (x5 + 1))) <| .nil) [0, 1, 7, 8, 19, 20] fun u14 a w' H => ?_
     exact ⟨k, Nat.lt_succ_self k, _, G, H.toM _⟩
   ·rw [if_neg (nt c16)] at G
    refine k_exit rfl ?_
    obtain rfl := sj G
    exact ⟨_, rfl, H.toM _⟩
theorem api_Interval_84_s82.calls (k0 : Nat) (a0 : List TInterval) (a1_0 : TStepControl) (p_a0 : Option Addr) (c_a0 : Nat) (b_a1_0 : Nat) (r : Bool) (w : World) (hB : AllH [rdl anyF 2 p_a0 c_a0 a0 en_TInterval, bxK b_a1_0 [vI a1_0.Order, vI a1_0.First, vI a1_0.Least, vI a1_0.Most, vI a1_0.Wide] 27] w) (G : api_Interval_84_s82 k0 a0 a1_0 = some r) :
  Calls Tryz.prog 84 #[.slice p_a0 a0.length c_a0, .func (.func 82) #[] #[vP b_a1_0 0]] w fun e w' => e = .returned (.bool r) ∧ Below w.heap.size w w' := by
 obtain ⟨fr, hfr⟩ : ∃ fr : Nat → Prop, ∀ j, fr j := ⟨fun _ => True, fun _ => trivial⟩
 have hBf : ∀ j, w.heap.size ≤ j → fr j := fun j _ => hfr j
 refine k_enterF (args := [.slice p_a0 a0.length c_a0, .func (.func 82) #[] #[vP b_a1_0 0]]) 9 [(9, rdl anyF 2 p_a0 c_a0 a0 en_TInterval), (10, bxK b_a1_0 [vI a1_0.Order, vI a1_0.First, vI a1_0.Least, vI a1_0.Most, vI a1_0.Wide] 27)] (by
  intro x hx
  simp only [List.mem_cons, List.not_mem_nil, or_false] at hx
  rcases hx with rfl | rfl
  ·exact rdF_fact (rdF_of hB.1) (fun _ _ => trivial) (by decide) _
  ·exact bx_fact (hB.2.1 w (agree.refl _ _)) _) Tryz.func84 rfl (by kernel_rfl) (by kernel_rfl) fun a H => ?_
 unfold api_Interval_84_s82 at G
 refine k_srk mixed H (.v 4 (.bool false) <| .nil) [0, 1, 9, 10] fun u1 a w' H => ?_
 obtain ⟨t3, ht3, G⟩ := bnd G
 refine k_srk mixed H (.v 5 (.slice p_a0 a0.length c_a0) <|
 .v 6 (.func (.func 82) #[] #[vP b_a1_0 0]) <|
 .cons [7] (ok_callL [9, 10] (fun u2 => [rdl anyF 2 p_a0 c_a0 a0 en_TInterval, bxK b_a1_0 [vI a1_0.Order, vI a1_0.First, vI a1_0.Least, vI a1_0.Most, vI a1_0.Wide] 27]) 103 _ _ 7 (fun u2 w hF => api_Interval_103_s82.calls k0 a0 a1_0 p_a0 c_a0 b_a1_0 t3 w  ⟨(rdA (rdF_of hF.1)), (bx_fact (hF.2.1 w (agree.refl _ _)) 0).2.1, trivial⟩ ht3)) <|
 .v 8 (.bool (decide (t3 ≥ 0))) <|
 .v 4 (.bool (decide (t3 ≥ 0))) <| .nil) [4, 10] fun u2 a w' H => ?_
 refine k_ret ?_
 obtain rfl := sj G
 exact k_done0 H _ (by kernel_rfl) (by kernel_rfl)
theorem control_Accept.calls (k0 : Nat) (a0 : TStepControl) (a1 : TSegment) (p_a1_From : Option Addr) (c_a1_From : Nat) (p_a1_Pre : Option Addr) (c_a1_Pre : Nat) (p_a1_Tube : Option Addr) (c_a1_Tube : Nat) (p_a1_To : Option Addr) (c_a1_To : Nat) (r : Bool) (w : World) (hB : AllH [rdl anyF 2 p_a1_From c_a1_From a1.From en_TInterval, rdl anyF 2 p_a1_Pre c_a1_Pre a1.Pre en_TInterval, rdl anyF 2 p_a1_Tube c_a1_Tube a1.Tube en_TInterval, rdl anyF 2 p_a1_To c_a1_To a1.To en_TInterval] w) (G : control_Accept k0 a0 a1 = some r) :
  Calls Tryz.prog 57 #[.agg #[vI a0.Order, vI a0.First, vI a0.Least, vI a0.Most, vI a0.Wide], .agg #[vI a1.T, vI a1.H, .slice p_a1_From a1.From.length c_a1_From, .slice p_a1_Pre a1.Pre.length c_a1_Pre, .slice p_a1_Tube a1.Tube.length c_a1_Tube, .slice p_a1_To a1.To.length c_a1_To]] w fun e w' => e = .returned (.bool r) ∧ Below w.heap.size w w' := by
 obtain ⟨fr, hfr⟩ : ∃ fr : Nat → Prop, ∀ j, fr j := ⟨fun _ => True, fun _ => trivial⟩
 have hBf : ∀ j, w.heap.size ≤ j → fr j := fun j _ => hfr j
 refine k_enterF (args := [.agg #[vI a0.Order, vI a0.First, vI a0.Least, vI a0.Most, vI a0.Wide], .agg #[vI a1.T, vI a1.H, .slice p_a1_From a1.From.length c_a1_From, .slice p_a1_Pre a1.Pre.length c_a1_Pre, .slice p_a1_Tube a1.Tube.length c_a1_Tube, .slice p_a1_To a1.To.length c_a1_To]]) 19 [(19, rdl anyF 2 p_a1_From c_a1_From a1.From en_TInterval), (20, rdl anyF 2 p_a1_Pre c_a1_Pre a1.Pre en_TInterval), (21, rdl anyF 2 p_a1_Tube c_a1_Tube a1.Tube en_TInterval), (22, rdl anyF 2 p_a1_To c_a1_To a1.To en_TInterval)] (by
  intro x hx
  simp only [List.mem_cons, List.not_mem_nil, or_false] at hx
  rcases hx with rfl | rfl | rfl | rfl
  ·exact rdF_fact (rdF_of hB.1) (fun _ _ => trivial) (by decide) _
  ·exact rdF_fact (rdF_of hB.2.1) (fun _ _ => trivial) (by decide) _
  ·exact rdF_fact (rdF_of hB.2.2.1) (fun _ _ => trivial) (by decide) _
  ·exact rdF_fact (rdF_of hB.2.2.2.1) (fun _ _ => trivial) (by decide) _) Tryz.func57 rfl (by kernel_rfl) (by kernel_rfl) fun a H => ?_
 unfold control_Accept at G
 refine k_srk mixed H (.cons [2, 23] (ok_new (fun b => vP b 0) (fun u1 => [vI a0.Order, vI a0.First, vI a0.Least, vI a0.Most, vI a0.Wide]) 27 2 23) <|
 .cons [3, 24] (ok_new (fun b => vP b 0) (fun u1 => [vI a1.T, vI a1.H, .slice p_a1_From a1.From.length c_a1_From, .slice p_a1_Pre a1.Pre.length c_a1_Pre, .slice p_a1_Tube a1.Tube.length c_a1_Tube, .slice p_a1_To a1.To.length c_a1_To]) 63 3 24) <|
 .v 4 (.bool false) <| .nil) [2, 3, 19, 20, 21, 22, 23, 24] fun u1 a w' H => ?_
 refine k_srk mixed H (.v 6 (.func (.func 82) #[] #[vP ((u1 0).n 0) 0]) <|
 .v 5 (.func (.func 82) #[] #[vP ((u1 0).n 0) 0]) <| .nil) [3, 5, 19, 20, 21, 22, 23, 24] fun u2 a w' H => ?_
 obtain ⟨t4, ht4, G⟩ := bnd G
 obtain ⟨t5, ht5, G⟩ := bnd G
 refine k_srk mixed H (.v 7 (vP ((u1 1).n 0) 5) <|
 .cons [8] (ok_ldc (.slice p_a1_To a1.To.length c_a1_To) 8 24 5 1 ((u1 1).n 0) [vI a1.T, vI a1.H, .slice p_a1_From a1.From.length c_a1_From, .slice p_a1_Pre a1.Pre.length c_a1_Pre, .slice p_a1_Tube a1.Tube.length c_a1_Tube, .slice p_a1_To a1.To.length c_a1_To] 63) <|
 .v 9 (.func (.func 82) #[] #[vP ((u1 0).n 0) 0]) <|
 .cons [10] (ok_callL [22, 23] (fun u3 => [rdl anyF 2 p_a1_To c_a1_To a1.To en_TInterval, .blk ((u1 0).n 0) [vI a0.Order, vI a0.First, vI a0.Least, vI a0.Most, vI a0.Wide] 27]) 84 _ _ 10 (fun u3 w hF => api_Interval_84_s82.calls k0 a1.To a0 p_a1_To c_a1_To ((u1 0).n 0) t4 w  ⟨(rdA (rdF_of hF.1)), (bx_fact hF.2.1 0).2.1, trivial⟩ ht4)) <|
 .v 11 (.bool (!t4)) <|
 .v 12 (.bool (!t4)) <|
 .cons [13] (ok_valg (fun u3 => vP ((u1 1).n 0) 4) (fun u3 => ((!t4) == true)) [true] 13) <|
 .cons [14] (ok_ldg (fun u3 => .slice p_a1_Tube a1.Tube.length c_a1_Tube) (fun u3 => ((!t4) == true)) [false] 14 24 4 1 (fun u3 => ((u1 1).n 0)) (fun u3 => [vI a1.T, vI a1.H, .slice p_a1_From a1.From.length c_a1_From, .slice p_a1_Pre a1.Pre.length c_a1_Pre, .slice p_a1_Tube a1.Tube.length c_a1_Tube, .slice p_a1_To a1.To.length c_a1_To]) 63) <|
 .cons [15] (ok_valg (fun u3 => .func (.func 82) #[] #[vP ((u1 0).n 0) 0]) (fun u3 => ((!t4) == true)) [true] 15) <|
 .cons [16] (ok_callLg [21, 23] (fun u3 => [rdl anyF 2 p_a1_Tube c_a1_Tube a1.Tube en_TInterval, .blk ((u1 0).n 0) [vI a0.Order, vI a0.First, vI a0.Least, vI a0.Most, vI a0.Wide] 27]) 84 (fun u3 => #[.slice p_a1_Tube a1.Tube.length c_a1_Tube, .func (.func 82) #[] #[vP ((u1 0).n 0) 0]]) (.bool t5) (fun u3 => ((!t4) == true)) [true, false, false] 16 (fun u3 w hg hF => api_Interval_84_s82.calls k0 a1.Tube a0 p_a1_Tube c_a1_Tube ((u1 0).n 0) t5 w  ⟨(rdA (rdF_of hF.1)), (bx_fact hF.2.1 0).2.1, trivial⟩ (ifp ht5 hg))) <|
 .cons [17] (ok_valg (fun u3 => .bool (!t5)) (fun u3 => ((!t4) == true)) [false] 17) <|
 .cons [18] (ok_and 12 17 (fun u3 => true) (fun u3 => true) (fun u3 => (!t4)) (fun u3 => (!t5)) 18) <|
 .v 4 (.bool ((!t4) && (!t5))) <| .nil) [4] fun u3 a w' H => ?_
 refine k_ret ?_
 obtain rfl := sj G
 exact k_done0 H _ (by kernel_rfl) (by kernel_rfl)
theorem control_Grow.calls (a0 : TStepControl) (a1 : Int) (r : Int) (w : World) (G : control_Grow a0 a1 = some r) :
  Calls Tryz.prog 58 #[.agg #[vI a0.Order, vI a0.First, vI a0.Least, vI a0.Most, vI a0.Wide], vI a1] w fun e w' => e = .returned (vI r) ∧ Below w.heap.size w w' := by
 refine k_enter (args := [.agg #[vI a0.Order, vI a0.First, vI a0.Least, vI a0.Most, vI a0.Wide], vI a1]) 10 Tryz.func58 rfl (by kernel_rfl) (by kernel_rfl) fun a H => ?_
 unfold control_Grow at G
 refine k_srk mixed H (.cons [2, 10] (ok_new (fun b => vP b 0) (fun u1 => [vI a0.Order, vI a0.First, vI a0.Least, vI a0.Most, vI a0.Wide]) 27 2 10) <|
 .v 4 (vI 0) <| .nil) [1, 2, 10] fun u1 a w' H => ?_
 refine k_srk mixed H (.v 5 (vI a1) <|
 .v 6 (vI (w_i64 (2 * a1))) <|
 .v 7 (vP ((u1 0).n 0) 3) <|
 .cons [8] (ok_ldc (vI a0.Most) 8 10 3 1 ((u1 0).n 0) [vI a0.Order, vI a0.First, vI a0.Least, vI a0.Most, vI a0.Wide] 27) <|
 .v 9 (vI (mn (w_i64 (2 * a1)) a0.Most)) <|
 .v 4 (vI (mn (w_i64 (2 * a1)) a0.Most)) <| .nil) [4] fun u2 a w' H => ?_
 refine k_ret ?_
 obtain rfl := sj G
 exact k_done0 H _ (by kernel_rfl) (by kernel_rfl)
theorem control_Advance.calls (k0 : Nat) (a0 : TTape) (a1 : List TInterval) (a2 : TStepRequest) (p_a0_L : Option Addr) (c_a0_L : Nat) (p_a0_Out : Option Addr) (c_a0_Out : Nat) (p_a1 : Option Addr) (c_a1 : Nat) (r : TSegment × Int × Int) (w : World) (hB : AllH [rdl anyF 5 p_a0_L c_a0_L a0.L en_TInstruction, rdl anyF 1 p_a0_Out c_a0_Out a0.Out en_i64, gk] w) (hF : AllH [rdl anyF 2 p_a1 c_a1 a1 en_TInterval] w) (G : control_Advance k0 a0 a1 a2 = some r) :
  Calls Tryz.prog 33 #[.agg #[vI a0.N, .slice p_a0_L a0.L.length c_a0_L, .slice p_a0_Out a0.Out.length c_a0_Out], .slice p_a1 a1.length c_a1, .agg #[vI a2.Ctrl.Order, vI a2.Ctrl.First, vI a2.Ctrl.Least, vI a2.Ctrl.Most, vI a2.Ctrl.Wide, vI a2.T, vI a2.Last, vI a2.H]] w fun e w' => ∃ g : Gh, e = .returned (.tuple #[.agg #[vI r.1.T, vI r.1.H, .slice (g.o 0) r.1.From.length (g.n 0), .slice (g.o 1) r.1.Pre.length (g.n 1), .slice (g.o 2) r.1.Tube.length (g.n 2), .slice (g.o 3) r.1.To.length (g.n 3)], vI r.2.1, vI r.2.2]) ∧ But (fpK []) w w' ∧ OutOK w.heap.size (fpK []) (frI w.heap.size [rdl anyF 2 p_a1 c_a1 a1 en_TInterval]) [fun fr => rdF fr 2 (g.o 0) r.1.From.length (g.n 0) (r.1.From.flatMap en_TInterval), fun fr => rdF fr 2 (g.o 1) r.1.Pre.length (g.n 1) (r.1.Pre.flatMap en_TInterval), fun fr => rdF fr 2 (g.o 2) r.1.Tube.length (g.n 2) (r.1.Tube.flatMap en_TInterval), fun fr => rdF fr 2 (g.o 3) r.1.To.length (g.n 3) (r.1.To.flatMap en_TInterval)] w' := by
 obtain ⟨fr, hfr, hBf⟩ := frs w [rdl anyF 2 p_a1 c_a1 a1 en_TInterval]
 refine k_enterM (args := [.agg #[vI a0.N, .slice p_a0_L a0.L.length c_a0_L, .slice p_a0_Out a0.Out.length c_a0_Out], .slice p_a1 a1.length c_a1, .agg #[vI a2.Ctrl.Order, vI a2.Ctrl.First, vI a2.Ctrl.Least, vI a2.Ctrl.Most, vI a2.Ctrl.Wide, vI a2.T, vI a2.Last, vI a2.H]]) 59 [(59, rdl anyF 5 p_a0_L c_a0_L a0.L en_TInstruction), (60, rdl anyF 1 p_a0_Out c_a0_Out a0.Out en_i64), (999999, gk), (61, rdl fr 2 p_a1 c_a1 a1 en_TInterval)] (by
  intro x hx
  simp only [List.mem_cons, List.not_mem_nil, or_false] at hx
  rcases hx with rfl | rfl | rfl | rfl
  ·exact rdF_fact (rdF_of hB.1) (fun _ _ => trivial) (by decide) _
  ·exact rdF_fact (rdF_of hB.2.1) (fun _ _ => trivial) (by decide) _
  ·exact ⟨⟨_, _, rfl⟩, hB.2.2.1, glob_in (glob_of hB.2.2.1)⟩
  ·exact rdF_fact (rdF_of hF.1) (fun j h => by rw [hfr]; exact .inr ⟨_, (.head _), h⟩) (by decide) _) Tryz.func33 rfl (by kernel_rfl) (by kernel_rfl) fun a H => ?_
 unfold control_Advance at G
 refine k_srk mixed H (.cons [3, 62] (ok_new (fun b => vP b 0) (fun u1 => [vI a0.N, .slice p_a0_L a0.L.length c_a0_L, .slice p_a0_Out a0.Out.length c_a0_Out]) 38 3 62) <|
 .cons [4, 63] (ok_new (fun b => vP b 0) (fun u1 => [.slice p_a1 a1.length c_a1]) 48 4 63) <|
 .cons [5, 64] (ok_new (fun b => vP b 0) (fun u1 => [vI a2.Ctrl.Order, vI a2.Ctrl.First, vI a2.Ctrl.Least, vI a2.Ctrl.Most, vI a2.Ctrl.Wide, vI a2.T, vI a2.Last, vI a2.H]) 100 5 64) <|
 .cons [6, 65] (ok_new (fun b => vP b 0) (fun u1 => [vI 0, vI 0, .slice none 0 0, .slice none 0 0, .slice none 0 0, .slice none 0 0]) 63 6 65) <|
 .cons [7, 66] (ok_new (fun b => vP b 0) (fun u1 => [vI 0]) 2 7 66) <|
 .cons [8, 67] (ok_new (fun b => vP b 0) (fun u1 => [vI 0]) 32 8 67) <| .nil) [3, 4, 5, 6, 7, 8, 59, 60, 61, 62, 63, 64, 65, 66, 67, 999999] fun u1 a w' H => ?_
 refine k_srk mixed H (.v 13 (vP ((u1 2).n 0) 7) <|
 .cons [14] (ok_ldc (vI a2.H) 14 64 7 1 ((u1 2).n 0) [vI a2.Ctrl.Order, vI a2.Ctrl.First, vI a2.Ctrl.Least, vI a2.Ctrl.Most, vI a2.Ctrl.Wide, vI a2.T, vI a2.Last, vI a2.H] 100) <|
 .v 15 (vP ((u1 2).n 0) 6) <|
 .cons [16] (ok_ldc (vI a2.Last) 16 64 6 1 ((u1 2).n 0) [vI a2.Ctrl.Order, vI a2.Ctrl.First, vI a2.Ctrl.Least, vI a2.Ctrl.Most, vI a2.Ctrl.Wide, vI a2.T, vI a2.Last, vI a2.H] 100) <|
 .v 17 (vP ((u1 2).n 0) 5) <|
 .cons [18] (ok_ldc (vI a2.T) 18 64 5 1 ((u1 2).n 0) [vI a2.Ctrl.Order, vI a2.Ctrl.First, vI a2.Ctrl.Least, vI a2.Ctrl.Most, vI a2.Ctrl.Wide, vI a2.T, vI a2.Last, vI a2.H] 100) <|
 .v 19 (vI (w_i64 (a2.Last - a2.T))) <|
 .v 20 (vI (mn a2.H (w_i64 (a2.Last - a2.T)))) <|
 .cons [9, 68] (ok_new (fun b => vP b 0) (fun u2 => [vI 0]) 2 9 68) <|
 .cons [68] (ok_as (u' := fun u2 => [(68, .blk ((u2 8).n 0) [vI (mn a2.H (w_i64 (a2.Last - a2.T)))] 2)]) (ok_store 68 0 (fun u2 => ((u2 8).n 0)) (fun u2 => [vI 0]) (fun u2 => [vI (mn a2.H (w_i64 (a2.Last - a2.T)))]) 2) (fun _ => by kernel_rfl)) <| .nil) [3, 4, 5, 6, 7, 8, 9, 59, 60, 61, 62, 63, 64, 65, 66, 67, 68, 999999] fun u2 a w' H => ?_
 refine k_seq ?_
 refine k_srk mixed H (.v 21 (vP ((u1 2).n 0) 0) <|
 .cons [22] (ok_ldc (.agg #[vI a2.Ctrl.Order, vI a2.Ctrl.First, vI a2.Ctrl.Least, vI a2.Ctrl.Most, vI a2.Ctrl.Wide]) 22 64 0 5 ((u1 2).n 0) [vI a2.Ctrl.Order, vI a2.Ctrl.First, vI a2.Ctrl.Least, vI a2.Ctrl.Most, vI a2.Ctrl.Wide, vI a2.T, vI a2.Last, vI a2.H] 100) <|
 .cons [23] (ok_ldc (vI (mn a2.H (w_i64 (a2.Last - a2.T)))) 23 68 0 1 ((u2 8).n 0) [vI (mn a2.H (w_i64 (a2.Last - a2.T)))] 2) <|
 .cons [24, 69, 70] (ok_callB2 55 (fun u3 => #[.agg #[vI a2.Ctrl.Order, vI a2.Ctrl.First, vI a2.Ctrl.Least, vI a2.Ctrl.Most, vI a2.Ctrl.Wide], vI (mn a2.H (w_i64 (a2.Last - a2.T)))]) (fun b1 b2 => .func (.func 76) #[] #[vP b2 0, vP b1 0]) [vI a2.Ctrl.Order, vI a2.Ctrl.First, vI a2.Ctrl.Least, vI a2.Ctrl.Most, vI a2.Ctrl.Wide] [vI (mn a2.H (w_i64 (a2.Last - a2.T)))] 27 2 24 69 70 (fun _ w => control_candidates.calls (⟨a2.Ctrl.Order, a2.Ctrl.First, a2.Ctrl.Least, a2.Ctrl.Most, a2.Ctrl.Wide⟩ : TStepControl) (mn a2.H (w_i64 (a2.Last - a2.T))) w)) <| .nil) [3, 4, 5, 6, 7, 8, 9, 24, 59, 60, 61, 62, 63, 64, 65, 66, 67, 68, 69, 70, 999999] fun u3 a w' H => ?_
 refine k_block ?_
 refine k_noexit ?_
 refine k_rangeO (γ := Unit) (fun _ : Unit => #[vI (mn a2.H (w_i64 (a2.Last - a2.T)))]) (fun _ => []) (fun _ => [(25, (sI (mn a2.H (w_i64 (a2.Last - a2.T)))))]) (fun W => W.heap[((u3 3).n 1)]? = some (.cells [vI (mn a2.H (w_i64 (a2.Last - a2.T)))].toArray 2 (0, 0))) false 71 72 0 _ (fun _ => False) (fun L => ∃ (p_r_1_From : Option Addr) (c_r_1_From np_r_1_From : Nat), np_r_1_From = r.1.From.length ∧ ∃ (p_r_1_Pre : Option Addr) (c_r_1_Pre np_r_1_Pre : Nat), np_r_1_Pre = r.1.Pre.length ∧ ∃ (p_r_1_Tube : Option Addr) (c_r_1_Tube np_r_1_Tube : Nat), np_r_1_Tube = r.1.Tube.length ∧ ∃ (p_r_1_To : Option Addr) (c_r_1_To np_r_1_To : Nat), np_r_1_To = r.1.To.length ∧ L = [(65, .blk ((u1 3).n 0) [vI r.1.T, vI r.1.H, .slice p_r_1_From np_r_1_From c_r_1_From, .slice p_r_1_Pre np_r_1_Pre c_r_1_Pre, .slice p_r_1_Tube np_r_1_Tube c_r_1_Tube, .slice p_r_1_To np_r_1_To c_r_1_To] 63), (66, .blk ((u1 4).n 0) [vI r.2.1] 2), (67, .blk ((u1 5).n 0) [vI r.2.2] 32), (73, rdF fr 2 p_r_1_From np_r_1_From c_r_1_From (r.1.From.flatMap en_TInterval)), (74, rdF fr 2 p_r_1_Pre np_r_1_Pre c_r_1_Pre (r.1.Pre.flatMap en_TInterval)), (75, rdF fr 2 p_r_1_Tube np_r_1_Tube c_r_1_Tube (r.1.Tube.flatMap en_TInterval)), (76, rdF fr 2 p_r_1_To np_r_1_To c_r_1_To (r.1.To.flatMap en_TInterval)), (999999, gk)]) (fun _ => False) H (by kernel_rfl) (by kernel_rfl) (enters_fn Tryz.func76 (by kernel_rfl) rfl) (control_candidates_1.one (mn a2.H (w_i64 (a2.Last - a2.T))) ((u3 3).n 1) ((u3 3).n 0) _) (puts1 25 (fun _ => vI (mn a2.H (w_i64 (a2.Last - a2.T)))) (by rfl)) (fun _ => by kernel_rfl) (fun _ => by kernel_rfl) (by kernel_rfl) (by kernel_rfl) (by kernel_rfl) (by kernel_rfl) (by kernel_rfl) (fun W h => h.holds 70) (fun L W h _ => h.elim) (fun _ L h => h.elim) rfl ?_ ?_ ?_ ?_
 ·clear H; rintro l D oR oD _ a w' H
  replace H := H.kp [3, 4, 5, 6, 7, 8, 9, 24, 25, 59, 60, 61, 62, 63, 64, 65, 66, 67, 68, 69, 70, 999999, 71, 72]
  refine r_reg mixed H (.v 10 (vI (mn a2.H (w_i64 (a2.Last - a2.T)))) <| .nil) (by kernel_rfl) (by kernel_rfl) fun u4 a w' H => ?_
  replace H := H.kp [3, 4, 5, 6, 7, 8, 9, 10, 24, 59, 60, 61, 62, 63, 64, 65, 66, 67, 68, 69, 70, 999999, 71, 72]
  refine ⟨_, H, by kernel_rfl, fun oB w' H => ?_⟩
  replace H := H.kp [3, 4, 5, 6, 7, 8, 9, 10, 24, 59, 60, 61, 62, 63, 64, 65, 66, 67, 68, 69, 70, 999999, 71, 72]
  refine r_block ?_
  refine r_seq ?_
  obtain ⟨t6, ht6, G⟩ := bnd G
  refine r_reg mixed H (.cons [27] (ok_ldc (.agg #[vI a0.N, .slice p_a0_L a0.L.length c_a0_L, .slice p_a0_Out a0.Out.length c_a0_Out]) 27 62 0 3 ((u1 0).n 0) [vI a0.N, .slice p_a0_L a0.L.length c_a0_L, .slice p_a0_Out a0.Out.length c_a0_Out] 38) <|
 .cons [28] (ok_ldc (.slice p_a1 a1.length c_a1) 28 63 0 1 ((u1 1).n 0) [.slice p_a1 a1.length c_a1] 48) <|
 .v 29 (vP ((u1 2).n 0) 5) <|
 .cons [30] (ok_ldc (vI a2.T) 30 64 5 1 ((u1 2).n 0) [vI a2.Ctrl.Order, vI a2.Ctrl.First, vI a2.Ctrl.Least, vI a2.Ctrl.Most, vI a2.Ctrl.Wide, vI a2.T, vI a2.Last, vI a2.H] 100) <|
 .v 31 (vI (mn a2.H (w_i64 (a2.Last - a2.T)))) <|
 .v 32 (.agg #[vI a2.T, vI (mn a2.H (w_i64 (a2.Last - a2.T)))]) <|
 .v 33 (vP ((u1 2).n 0) 0) <|
 .v 34 (vP ((u1 2).n 0) 0) <|
 .cons [35] (ok_ldc (vI a2.Ctrl.Order) 35 64 0 1 ((u1 2).n 0) [vI a2.Ctrl.Order, vI a2.Ctrl.First, vI a2.Ctrl.Least, vI a2.Ctrl.Most, vI a2.Ctrl.Wide, vI a2.T, vI a2.Last, vI a2.H] 100) <|
 .cons [36, 77, 78, 79, 80] (ok_callY true fr [] [59, 60, 61, 999999] (fun u5 => [rdl anyF 5 p_a0_L c_a0_L a0.L en_TInstruction, rdl anyF 1 p_a0_Out c_a0_Out a0.Out en_i64, rdl fr 2 p_a1 c_a1 a1 en_TInterval, gk]) [] (fun u5 => []) 56 _ _ _ _ _ [77, 78, 79, 80] 36 (fun u5 w hB hF hM => step_IntervalStep.calls k0 (⟨a0.N, a0.L, a0.Out⟩ : TTape) a1 (⟨a2.T, mn a2.H (w_i64 (a2.Last - a2.T))⟩ : TTimeStep) a2.Ctrl.Order p_a0_L c_a0_L p_a0_Out c_a0_Out p_a1 c_a1 t6 w  hB hF ht6) (fun u5 w hF => ⟨⟨sub_rd0 (rdF_of hF.1) (fun j h => ⟨_, (.head _), h⟩), sub_rd0 (rdF_of hF.2.1) (fun j h => ⟨_, (.tail _ (.head _)), h⟩), sub_k hF.2.2.2.1 (.tail _ (.tail _ (.tail _ (.head _)))), trivial⟩, ⟨sub_rd1 (rdF_of hF.2.2.1) (fun j h => ff_of (.tail _ (.tail _ (.head _))) (fun h => h) h (rdF_fr hF.2.2.1 _ h)), trivial⟩⟩) (fun u5 g => (fams_cons (fam_rd (by decide)) (fams_cons (fam_rd (by decide)) (fams_cons (fam_rd (by decide)) (fams_cons (fam_rd (by decide)) fams_nil))))) (.inl rfl) (fun _ => hBf)) <|
 .cons [26] (ok_val (fun u5 => .tuple #[.agg #[vI t6.1.T, vI t6.1.H, .slice ((u5 9).o 0) t6.1.From.length ((u5 9).n 0), .slice ((u5 9).o 1) t6.1.Pre.length ((u5 9).n 1), .slice ((u5 9).o 2) t6.1.Tube.length ((u5 9).n 2), .slice ((u5 9).o 3) t6.1.To.length ((u5 9).n 3)], .bool t6.2]) 26) <|
 .cons [37] (ok_val (fun u5 => .agg #[vI t6.1.T, vI t6.1.H, .slice ((u5 9).o 0) t6.1.From.length ((u5 9).n 0), .slice ((u5 9).o 1) t6.1.Pre.length ((u5 9).n 1), .slice ((u5 9).o 2) t6.1.Tube.length ((u5 9).n 2), .slice ((u5 9).o 3) t6.1.To.length ((u5 9).n 3)]) 37) <|
 .v 38 (.bool t6.2) <|
 .cons [11, 81] (ok_new (fun b => vP b 0) (fun u5 => [vI 0, vI 0, .slice none 0 0, .slice none 0 0, .slice none 0 0, .slice none 0 0]) 63 11 81) <|
 .cons [81] (ok_as (u' := fun u5 => [(81, .blk ((u5 13).n 0) [vI t6.1.T, vI t6.1.H, .slice ((u5 9).o 0) t6.1.From.length ((u5 9).n 0), .slice ((u5 9).o 1) t6.1.Pre.length ((u5 9).n 1), .slice ((u5 9).o 2) t6.1.Tube.length ((u5 9).n 2), .slice ((u5 9).o 3) t6.1.To.length ((u5 9).n 3)] 63)]) (ok_store 81 0 (fun u5 => ((u5 13).n 0)) (fun u5 => [vI 0, vI 0, .slice none 0 0, .slice none 0 0, .slice none 0 0, .slice none 0 0]) (fun u5 => [vI t6.1.T, vI t6.1.H, .slice ((u5 9).o 0) t6.1.From.length ((u5 9).n 0), .slice ((u5 9).o 1) t6.1.Pre.length ((u5 9).n 1), .slice ((u5 9).o 2) t6.1.Tube.length ((u5 9).n 2), .slice ((u5 9).o 3) t6.1.To.length ((u5 9).n 3)]) 63) (fun _ => by kernel_rfl)) <|
 .v 12 (.bool t6.2) <| .nil) (by kernel_rfl) (by kernel_rfl) fun u5 a w' H => ?_
  replace H := H.kp [3, 4, 5, 6, 7, 8, 9, 10, 11, 12, 24, 59, 60, 61, 62, 63, 64, 65, 66, 67, 68, 69, 70, 77, 78, 79, 80, 81, 999999, 71, 72]
  refine r_seq ?_
  refine r_seq ?_
  obtain ⟨t8, ht8, G⟩ := bnd G
  refine r_reg mixed H (.v 39 (.bool t6.2) <|
 .v 40 (.bool (!t6.2)) <|
 .v 41 (.bool (!t6.2)) <|
 .cons [42] (ok_valg (fun u7 => vP ((u1 2).n 0) 0) (fun u7 => ((!t6.2) == false)) [true] 42) <|
 .cons [43] (ok_ldg (fun u7 => .agg #[vI a2.Ctrl.Order, vI a2.Ctrl.First, vI a2.Ctrl.Least, vI a2.Ctrl.Most, vI a2.Ctrl.Wide]) (fun u7 => ((!t6.2) == false)) [false] 43 64 0 5 (fun u7 => ((u1 2).n 0)) (fun u7 => [vI a2.Ctrl.Order, vI a2.Ctrl.First, vI a2.Ctrl.Least, vI a2.Ctrl.Most, vI a2.Ctrl.Wide, vI a2.T, vI a2.Last, vI a2.H]) 100) <|
 .cons [44] (ok_ldg (fun u7 => .agg #[vI t6.1.T, vI t6.1.H, .slice ((u5 9).o 0) t6.1.From.length ((u5 9).n 0), .slice ((u5 9).o 1) t6.1.Pre.length ((u5 9).n 1), .slice ((u5 9).o 2) t6.1.Tube.length ((u5 9).n 2), .slice ((u5 9).o 3) t6.1.To.length ((u5 9).n 3)]) (fun u7 => ((!t6.2) == false)) [true] 44 81 0 6 (fun u7 => ((u5 13).n 0)) (fun u7 => [vI t6.1.T, vI t6.1.H, .slice ((u5 9).o 0) t6.1.From.length ((u5 9).n 0), .slice ((u5 9).o 1) t6.1.Pre.length ((u5 9).n 1), .slice ((u5 9).o 2) t6.1.Tube.length ((u5 9).n 2), .slice ((u5 9).o 3) t6.1.To.length ((u5 9).n 3)]) 63) <|
 .cons [45] (ok_callLg [77, 78, 79, 80] (fun u7 => [rdF fr 2 ((u5 9).o 0) t6.1.From.length ((u5 9).n 0) (t6.1.From.flatMap en_TInterval), rdF fr 2 ((u5 9).o 1) t6.1.Pre.length ((u5 9).n 1) (t6.1.Pre.flatMap en_TInterval), rdF fr 2 ((u5 9).o 2) t6.1.Tube.length ((u5 9).n 2) (t6.1.Tube.flatMap en_TInterval), rdF fr 2 ((u5 9).o 3) t6.1.To.length ((u5 9).n 3) (t6.1.To.flatMap en_TInterval)]) 57 (fun u7 => #[.agg #[vI a2.Ctrl.Order, vI a2.Ctrl.First, vI a2.Ctrl.Least, vI a2.Ctrl.Most, vI a2.Ctrl.Wide], .agg #[vI t6.1.T, vI t6.1.H, .slice ((u5 9).o 0) t6.1.From.length ((u5 9).n 0), .slice ((u5 9).o 1) t6.1.Pre.length ((u5 9).n 1), .slice ((u5 9).o 2) t6.1.Tube.length ((u5 9).n 2), .slice ((u5 9).o 3) t6.1.To.length ((u5 9).n 3)]]) (.bool t8) (fun u7 => ((!t6.2) == false)) [true, false, false] 45 (fun u7 w hg hF => control_Accept.calls k0 (⟨a2.Ctrl.Order, a2.Ctrl.First, a2.Ctrl.Least, a2.Ctrl.Most, a2.Ctrl.Wide⟩ : TStepControl) (⟨t6.1.T, t6.1.H, t6.1.From, t6.1.Pre, t6.1.Tube, t6.1.To⟩ : TSegment) ((u5 9).o 0) ((u5 9).n 0) ((u5 9).o 1) ((u5 9).n 1) ((u5 9).o 2) ((u5 9).n 2) ((u5 9).o 3) ((u5 9).n 3) t8 w  ⟨(rdA (rdF_of hF.1)), (rdA (rdF_of hF.2.1)), (rdA (rdF_of hF.2.2.1)), (rdA (rdF_of hF.2.2.2.1)), trivial⟩ (ifp ht8 hg))) <|
 .cons [46] (ok_valg (fun u7 => .bool (!t8)) (fun u7 => ((!t6.2) == false)) [false] 46) <|
 .cons [47] (ok_or 41 46 (fun u7 => true) (fun u7 => true) (fun u7 => (!t6.2)) (fun u7 => (!t8)) 47) <| .nil) (by kernel_rfl) (by kernel_rfl) fun u7 a w' H => ?_
  replace H := H.kp [3, 4, 5, 6, 7, 8, 9, 10, 11, 24, 47, 59, 60, 61, 62, 63, 64, 65, 66, 67, 68, 69, 70, 77, 78, 79, 80, 81, 999999, 71, 72]
  refine r_cond H (by kernel_rfl) (t := ((!t6.2) || (!t8))) (by kernel_rfl) (fun c16 => ?_) (fun c16 => ?_)
  ·rw [if_pos c16] at G
   refine r_exit rfl ?_
   cases G
  ·rw [if_neg (nt c16)] at G
   refine r_skip ?_
   refine r_seq ?_
   obtain ⟨j10, hj10, G⟩ := bnd G
   refine r_join (fun a w' => RL w 59 [(3, (sP ((u1 0).n 0) 0)), (4, (sP ((u1 1).n 0) 0)), (5, (sP ((u1 2).n 0) 0)), (6, (sP ((u1 3).n 0) 0)), (7, (sP ((u1 4).n 0) 0)), (8, (sP ((u1 5).n 0) 0)), (9, (sP ((u2 8).n 0) 0)), (10, sI j10), (11, (sP ((u5 13).n 0) 0)), (24, .slot true (.func (.func 76) #[] #[vP ((u3 3).n 1) 0, vP ((u3 3).n 0) 0])), (59, rdl anyF 5 p_a0_L c_a0_L a0.L en_TInstruction), (60, rdl anyF 1 p_a0_Out c_a0_Out a0.Out en_i64), (61, rdl fr 2 p_a1 c_a1 a1 en_TInterval), (62, .blk ((u1 0).n 0) [vI a0.N, .slice p_a0_L a0.L.length c_a0_L, .slice p_a0_Out a0.Out.length c_a0_Out] 38), (63, .blk ((u1 1).n 0) [.slice p_a1 a1.length c_a1] 48), (64, .blk ((u1 2).n 0) [vI a2.Ctrl.Order, vI a2.Ctrl.First, vI a2.Ctrl.Least, vI a2.Ctrl.Most, vI a2.Ctrl.Wide, vI a2.T, vI a2.Last, vI a2.H] 100), (65, .blk ((u1 3).n 0) [vI 0, vI 0, .slice none 0 0, .slice none 0 0, .slice none 0 0, .slice none 0 0] 63), (66, .blk ((u1 4).n 0) [vI 0] 2), (67, .blk ((u1 5).n 0) [vI 0] 32), (68, .blk ((u2 8).n 0) [vI (mn a2.H (w_i64 (a2.Last - a2.T)))] 2), (69, .blk ((u3 3).n 0) [vI a2.Ctrl.Order, vI a2.Ctrl.First, vI a2.Ctrl.Least, vI a2.Ctrl.Most, vI a2.Ctrl.Wide] 27), (70, .blk ((u3 3).n 1) [vI (mn a2.H (w_i64 (a2.Last - a2.T)))] 2), (77, rdF fr 2 ((u5 9).o 0) t6.1.From.length ((u5 9).n 0) (t6.1.From.flatMap en_TInterval)), (78, rdF fr 2 ((u5 9).o 1) t6.1.Pre.length ((u5 9).n 1) (t6.1.Pre.flatMap en_TInterval)), (79, rdF fr 2 ((u5 9).o 2) t6.1.Tube.length ((u5 9).n 2) (t6.1.Tube.flatMap en_TInterval)), (80, rdF fr 2 ((u5 9).o 3) t6.1.To.length ((u5 9).n 3) (t6.1.To.flatMap en_TInterval)), (81, .blk ((u5 13).n 0) [vI t6.1.T, vI t6.1.H, .slice ((u5 9).o 0) t6.1.From.length ((u5 9).n 0), .slice ((u5 9).o 1) t6.1.Pre.length ((u5 9).n 1), .slice ((u5 9).o 2) t6.1.Tube.length ((u5 9).n 2), .slice ((u5 9).o 3) t6.1.To.length ((u5 9).n 3)] 63), (999999, gk), (71, obK l oB), (72, obK D oD)] a w') ?_ ?_
   ·clear H; intro a w' H
    refine r_seq ?_
    obtain ⟨t12, ht12, G⟩ := bnd G
    refine r_reg mixed H (.cons [53] (ok_ldc (.agg #[vI t6.1.T, vI t6.1.H, .slice ((u5 9).o 0) t6.1.From.length ((u5 9).n 0), .slice ((u5 9).o 1) t6.1.Pre.length ((u5 9).n 1), .slice ((u5 9).o 2) t6.1.Tube.length ((u5 9).n 2), .slice ((u5 9).o 3) t6.1.To.length ((u5 9).n 3)]) 53 81 0 6 ((u5 13).n 0) [vI t6.1.T, vI t6.1.H, .slice ((u5 9).o 0) t6.1.From.length ((u5 9).n 0), .slice ((u5 9).o 1) t6.1.Pre.length ((u5 9).n 1), .slice ((u5 9).o 2) t6.1.Tube.length ((u5 9).n 2), .slice ((u5 9).o 3) t6.1.To.length ((u5 9).n 3)] 63) <|
 .v 54 (vP ((u1 2).n 0) 0) <|
 .cons [55] (ok_ldc (.agg #[vI a2.Ctrl.Order, vI a2.Ctrl.First, vI a2.Ctrl.Least, vI a2.Ctrl.Most, vI a2.Ctrl.Wide]) 55 64 0 5 ((u1 2).n 0) [vI a2.Ctrl.Order, vI a2.Ctrl.First, vI a2.Ctrl.Least, vI a2.Ctrl.Most, vI a2.Ctrl.Wide, vI a2.T, vI a2.Last, vI a2.H] 100) <|
 .v 56 (vI j10) <|
 .cons [57] (ok_callv 58 _ _ 57 [] (fun u11 w _ => control_Grow.calls (⟨a2.Ctrl.Order, a2.Ctrl.First, a2.Ctrl.Least, a2.Ctrl.Most, a2.Ctrl.Wide⟩ : TStepControl) j10  t12 w  ht12)) <|
 .cons [65] (ok_stc 65 0 ((u1 3).n 0) [vI 0, vI 0, .slice none 0 0, .slice none 0 0, .slice none 0 0, .slice none 0 0] [vI t6.1.T, vI t6.1.H, .slice ((u5 9).o 0) t6.1.From.length ((u5 9).n 0), .slice ((u5 9).o 1) t6.1.Pre.length ((u5 9).n 1), .slice ((u5 9).o 2) t6.1.Tube.length ((u5 9).n 2), .slice ((u5 9).o 3) t6.1.To.length ((u5 9).n 3)] 63 [vI t6.1.T, vI t6.1.H, .slice ((u5 9).o 0) t6.1.From.length ((u5 9).n 0), .slice ((u5 9).o 1) t6.1.Pre.length ((u5 9).n 1), .slice ((u5 9).o 2) t6.1.Tube.length ((u5 9).n 2), .slice ((u5 9).o 3) t6.1.To.length ((u5 9).n 3)]) <|
 .cons [66] (ok_stc 66 0 ((u1 4).n 0) [vI 0] [vI t12] 2 [vI t12]) <|
 .cons [67] (ok_stc 67 0 ((u1 5).n 0) [vI 0] [vI 0] 32 [vI 0]) <| .nil) (by kernel_rfl) (by kernel_rfl) fun u11 a w' H => ?_
    replace H := H.kp [3, 4, 5, 6, 7, 8, 9, 24, 59, 60, 61, 62, 63, 64, 65, 66, 67, 68, 69, 70, 77, 78, 79, 80, 999999, 71, 72]
    refine r_ret ?_
    obtain rfl := sj G
    replace H := H.dup (K := rdF fr 2 ((u5 9).o 0) t6.1.From.length ((u5 9).n 0) (t6.1.From.flatMap en_TInterval)) 77 73 (by kernel_rfl) (fun h => h) (by intro _ _ h; cases h)
    replace H := H.dup (K := rdF fr 2 ((u5 9).o 1) t6.1.Pre.length ((u5 9).n 1) (t6.1.Pre.flatMap en_TInterval)) 78 74 (by kernel_rfl) (fun h => h) (by intro _ _ h; cases h)
    replace H := H.dup (K := rdF fr 2 ((u5 9).o 2) t6.1.Tube.length ((u5 9).n 2) (t6.1.Tube.flatMap en_TInterval)) 79 75 (by kernel_rfl) (fun h => h) (by intro _ _ h; cases h)
    replace H := H.dup (K := rdF fr 2 ((u5 9).o 3) t6.1.To.length ((u5 9).n 3) (t6.1.To.flatMap en_TInterval)) 80 76 (by kernel_rfl) (fun h => h) (by intro _ _ h; cases h)
    exact ⟨_, ⟨((u5 9).o 0), ((u5 9).n 0), t6.1.From.length, rfl, ((u5 9).o 1), ((u5 9).n 1), t6.1.Pre.length, rfl, ((u5 9).o 2), ((u5 9).n 2), t6.1.Tube.length, rfl, ((u5 9).o 3), ((u5 9).n 3), t6.1.To.length, rfl, rfl⟩, by kernel_rfl, H.toM _⟩
   ·clear G; replace G := hj10; clear hj10
    refine r_seq ?_
    refine r_reg mixed H (.v 48 (vI (mn a2.H (w_i64 (a2.Last - a2.T)))) <|
 .cons [49] (ok_ldc (vI (mn a2.H (w_i64 (a2.Last - a2.T)))) 49 68 0 1 ((u2 8).n 0) [vI (mn a2.H (w_i64 (a2.Last - a2.T)))] 2) <|
 .v 50 (.bool ((mn a2.H (w_i64 (a2.Last - a2.T))) == (mn a2.H (w_i64 (a2.Last - a2.T))))) <| .nil) (by kernel_rfl) (by kernel_rfl) fun u13 a w' H => ?_
    replace H := H.kp [3, 4, 5, 6, 7, 8, 9, 10, 11, 24, 50, 59, 60, 61, 62, 63, 64, 65, 66, 67, 68, 69, 70, 77, 78, 79, 80, 81, 999999, 71, 72]
    refine r_cond H (by kernel_rfl) (t := ((mn a2.H (w_i64 (a2.Last - a2.T))) == (mn a2.H (w_i64 (a2.Last - a2.T))))) (by kernel_rfl) (fun c15 => ?_) (fun c15 => ?_)
    ·rw [if_pos c15] at G
     refine r_reg mixed H (.v 51 (vP ((u1 2).n 0) 7) <|
 .cons [52] (ok_ldc (vI a2.H) 52 64 7 1 ((u1 2).n 0) [vI a2.Ctrl.Order, vI a2.Ctrl.First, vI a2.Ctrl.Least, vI a2.Ctrl.Most, vI a2.Ctrl.Wide, vI a2.T, vI a2.Last, vI a2.H] 100) <|
 .v 10 (vI a2.H) <| .nil) (by kernel_rfl) (by kernel_rfl) fun u14 a w' H => ?_
     replace H := H.kp [3, 4, 5, 6, 7, 8, 9, 10, 11, 24, 59, 60, 61, 62, 63, 64, 65, 66, 67, 68, 69, 70, 77, 78, 79, 80, 81, 999999, 71, 72]
     obtain rfl := sj G
     exact H.toM _
    ·rw [if_neg (nt c15)] at G
     refine r_skip ?_
     obtain rfl := sj G
     exact H.toM _
 ·clear H G; rintro D L W h H; exact h.elim
 ·clear H G; rintro D L W ⟨p_r_1_From, c_r_1_From, _, rfl, p_r_1_Pre, c_r_1_Pre, _, rfl, p_r_1_Tube, c_r_1_Tube, _, rfl, p_r_1_To, c_r_1_To, _, rfl, rfl⟩ H
  replace H := H.kp [6, 7, 8, 65, 66, 67, 73, 74, 75, 76, 999999, 72]
  obtain ⟨g, o0, n0, o1, n1, o2, n2, o3, n3⟩ : ∃ g : Gh, g.o 0 = p_r_1_From ∧ g.n 0 = c_r_1_From ∧ g.o 1 = p_r_1_Pre ∧ g.n 1 = c_r_1_Pre ∧ g.o 2 = p_r_1_Tube ∧ g.n 2 = c_r_1_Tube ∧ g.o 3 = p_r_1_To ∧ g.n 3 = c_r_1_To := ⟨⟨fun i => [c_r_1_From, c_r_1_Pre, c_r_1_Tube, c_r_1_To].getD i 0, fun i => [p_r_1_From, p_r_1_Pre, p_r_1_Tube, p_r_1_To].getD i none, fun i => ([⟨Unit, ()⟩, ⟨Unit, ()⟩, ⟨Unit, ()⟩, ⟨Unit, ()⟩] : List ((T : Type) × T)).getD i ⟨Unit, ()⟩⟩, rfl, rfl, rfl, rfl, rfl, rfl, rfl, rfl⟩
  refine k_mark 72 H (by kernel_rfl) fun w' H => ?_
  refine k_doneZ H _ g _ _ _ fr [73, 74, 75, 76] [(65, ⟨((u1 3).n 0), [vI r.1.T, vI r.1.H, .slice p_r_1_From r.1.From.length c_r_1_From, .slice p_r_1_Pre r.1.Pre.length c_r_1_Pre, .slice p_r_1_Tube r.1.Tube.length c_r_1_Tube, .slice p_r_1_To r.1.To.length c_r_1_To], 0, 6⟩), (66, ⟨((u1 4).n 0), [vI r.2.1], 0, 1⟩), (67, ⟨((u1 5).n 0), [vI r.2.2], 0, 1⟩)] (.tuple #[.agg #[vI r.1.T, vI r.1.H, .slice p_r_1_From r.1.From.length c_r_1_From, .slice p_r_1_Pre r.1.Pre.length c_r_1_Pre, .slice p_r_1_Tube r.1.Tube.length c_r_1_Tube, .slice p_r_1_To r.1.To.length c_r_1_To], vI r.2.1, vI r.2.2]) [fun fr => rdl fr 2 p_r_1_From c_r_1_From r.1.From en_TInterval, fun fr => rdl fr 2 p_r_1_Pre c_r_1_Pre r.1.Pre en_TInterval, fun fr => rdl fr 2 p_r_1_Tube c_r_1_Tube r.1.Tube en_TInterval, fun fr => rdl fr 2 p_r_1_To c_r_1_To r.1.To en_TInterval] (by simp only [owl, o0, n0, o1, n1, o2, n2, o3, n3]) (by simp only [owl, o0, n0, o1, n1, o2, n2, o3, n3]) hfr (.inl ⟨rfl, rfl⟩) (fams_cons (fam_rd (by decide)) (fams_cons (fam_rd (by decide)) (fams_cons (fam_rd (by decide)) (fams_cons (fam_rd (by decide)) fams_nil)))) (by intro p hp; simp only [List.mem_cons, List.not_mem_nil, or_false] at hp; rcases hp with rfl | rfl | rfl; exact ⟨⟨63, by kernel_rfl⟩, by kernel_rfl⟩; exact ⟨⟨2, by kernel_rfl⟩, by kernel_rfl⟩; exact ⟨⟨32, by kernel_rfl⟩, by kernel_rfl⟩)
 ·clear H G; rintro D L W h H; exact h.elim
end Go.Proofs.YtpmgpcklieincaaGreatDoor
