/- Each function of the program answers as the plain Lean function of its name (part 3). Printed by a program of this session. -/
import Derived.Test.YtpmgpcklieincaaGreatDoorFn2
set_option linter.unusedVariables false
set_option linter.unusedSimpArgs false
set_option maxRecDepth 100000
set_option maxHeartbeats 4000000
namespace Go.Proofs.YtpmgpcklieincaaGreatDoor
open Go Go.RowKit Go.Sx Go.Proofs
theorem flow_Integrate.calls (k0 : Nat) (a0 : TTape) (a1 : List TInterval) (a2 : THorizon) (p_a0_L : Option Addr) (c_a0_L : Nat) (p_a0_Out : Option Addr) (c_a0_Out : Nat) (p_a1 : Option Addr) (c_a1 : Nat) (r : List TSegment × Int) (w : World) (hB : AllH [rdl anyF 5 p_a0_L c_a0_L a0.L en_TInstruction, rdl anyF 1 p_a0_Out c_a0_Out a0.Out en_i64, gk] w) (hF : AllH [rdl anyF 2 p_a1 c_a1 a1 en_TInterval] w) (G : flow_Integrate k0 a0 a1 a2 = some r) :
  Calls Tryz.prog 11 #[.agg #[vI a0.N, .slice p_a0_L a0.L.length c_a0_L, .slice p_a0_Out a0.Out.length c_a0_Out], .slice p_a1 a1.length c_a1, .agg #[vI a2.Ctrl.Order, vI a2.Ctrl.First, vI a2.Ctrl.Least, vI a2.Ctrl.Most, vI a2.Ctrl.Wide, vI a2.T, vI a2.Last]] w fun e w' => ∃ g : Gh, e = .returned (.tuple #[slgd_TSegment g 0 r.1, vI r.2]) ∧ But (fpK []) w w' ∧ OutOK w.heap.size (fpK []) (frI w.heap.size [rdl anyF 2 p_a1 c_a1 a1 en_TInterval]) [fun _ => owl 63 6 (g.o 0) (g.n 0) (dlgd_TSegment g 0 r.1) en_TSegment, fun fr => dnK fr E_TSegment.toPart (dlgd_TSegment g 0 r.1)] w' := by
 obtain ⟨fr, hfr, hBf⟩ := frs w [rdl anyF 2 p_a1 c_a1 a1 en_TInterval]
 refine k_enterF (args := [.agg #[vI a0.N, .slice p_a0_L a0.L.length c_a0_L, .slice p_a0_Out a0.Out.length c_a0_Out], .slice p_a1 a1.length c_a1, .agg #[vI a2.Ctrl.Order, vI a2.Ctrl.First, vI a2.Ctrl.Least, vI a2.Ctrl.Most, vI a2.Ctrl.Wide, vI a2.T, vI a2.Last]]) 90 [(90, rdl anyF 5 p_a0_L c_a0_L a0.L en_TInstruction), (91, rdl anyF 1 p_a0_Out c_a0_Out a0.Out en_i64), (999999, gk), (92, rdl fr 2 p_a1 c_a1 a1 en_TInterval)] (by
  intro x hx
  simp only [List.mem_cons, List.not_mem_nil, or_false] at hx
  rcases hx with rfl | rfl | rfl | rfl
  ·exact rdF_fact (rdF_of hB.1) (fun _ _ => trivial) (by decide) _
  ·exact rdF_fact (rdF_of hB.2.1) (fun _ _ => trivial) (by decide) _
  ·exact ⟨⟨_, _, rfl⟩, hB.2.2.1, glob_in (glob_of hB.2.2.1)⟩
  ·exact rdF_fact (rdF_of hF.1) (fun j h => by rw [hfr]; exact .inr ⟨_, (.head _), h⟩) (by decide) _) Tryz.func11 rfl (by kernel_rfl) (by kernel_rfl) fun a H => ?_
 unfold flow_Integrate at G
 refine k_srk mixed H (.cons [3, 93] (ok_new (fun b => vP b 0) (fun u1 => [vI a0.N, .slice p_a0_L a0.L.length c_a0_L, .slice p_a0_Out a0.Out.length c_a0_Out]) 38 3 93) <|
 .cons [5, 94] (ok_new (fun b => vP b 0) (fun u1 => [vI a2.Ctrl.Order, vI a2.Ctrl.First, vI a2.Ctrl.Least, vI a2.Ctrl.Most, vI a2.Ctrl.Wide, vI a2.T, vI a2.Last]) 29 5 94) <|
 .v 6 (.slice none 0 0) <|
 .v 7 (vI 0) <| .nil) [1, 3, 5, 90, 91, 92, 93, 94, 999999] fun u1 a w' H => ?_
 refine k_seq ?_
 obtain ⟨t3, ht3, G⟩ := bnd G
 obtain ⟨t4, ht4, G⟩ := bnd G
 obtain ⟨t5, ht5, G⟩ := bnd G
 refine k_srk mixed H (.v 13 (vP ((u1 1).n 0) 0) <|
 .cons [14] (ok_ldc (.agg #[vI a2.Ctrl.Order, vI a2.Ctrl.First, vI a2.Ctrl.Least, vI a2.Ctrl.Most, vI a2.Ctrl.Wide]) 14 94 0 5 ((u1 1).n 0) [vI a2.Ctrl.Order, vI a2.Ctrl.First, vI a2.Ctrl.Least, vI a2.Ctrl.Most, vI a2.Ctrl.Wide, vI a2.T, vI a2.Last] 29) <|
 .cons [15] (ok_callv 30 _ _ 15 [] (fun u2 w _ => control_Valid.calls (⟨a2.Ctrl.Order, a2.Ctrl.First, a2.Ctrl.Least, a2.Ctrl.Most, a2.Ctrl.Wide⟩ : TStepControl)  t3 w  ht3)) <|
 .v 16 (.bool (!t3)) <|
 .v 17 (.bool (!t3)) <|
 .cons [18] (ok_valg (fun u2 => vP ((u1 1).n 0) 5) (fun u2 => ((!t3) == false)) [true] 18) <|
 .cons [19] (ok_ldg (fun u2 => vI a2.T) (fun u2 => ((!t3) == false)) [false] 19 94 5 1 (fun u2 => ((u1 1).n 0)) (fun u2 => [vI a2.Ctrl.Order, vI a2.Ctrl.First, vI a2.Ctrl.Least, vI a2.Ctrl.Most, vI a2.Ctrl.Wide, vI a2.T, vI a2.Last]) 29) <|
 .cons [20] (ok_call 31 (fun u2 => #[vI a2.T]) (.bool t4) (fun u2 => ((!t3) == false)) [true, false] 20 [] (fun u2 w hg _ => fixed_Valid.calls a2.T  t4 w  (ifp ht4 hg))) <|
 .cons [21] (ok_valg (fun u2 => .bool (!t4)) (fun u2 => ((!t3) == false)) [false] 21) <|
 .cons [22] (ok_or 17 21 (fun u2 => true) (fun u2 => true) (fun u2 => (!t3)) (fun u2 => (!t4)) 22) <|
 .v 23 (.bool ((!t3) || (!t4))) <|
 .cons [24] (ok_valg (fun u2 => vP ((u1 1).n 0) 6) (fun u2 => (((!t3) || (!t4)) == false)) [true] 24) <|
 .cons [25] (ok_ldg (fun u2 => vI a2.Last) (fun u2 => (((!t3) || (!t4)) == false)) [false] 25 94 6 1 (fun u2 => ((u1 1).n 0)) (fun u2 => [vI a2.Ctrl.Order, vI a2.Ctrl.First, vI a2.Ctrl.Least, vI a2.Ctrl.Most, vI a2.Ctrl.Wide, vI a2.T, vI a2.Last]) 29) <|
 .cons [26] (ok_call 31 (fun u2 => #[vI a2.Last]) (.bool t5) (fun u2 => (((!t3) || (!t4)) == false)) [true, false] 26 [] (fun u2 w hg _ => fixed_Valid.calls a2.Last  t5 w  (ifp ht5 hg))) <|
 .cons [27] (ok_valg (fun u2 => .bool (!t5)) (fun u2 => (((!t3) || (!t4)) == false)) [false] 27) <|
 .cons [28] (ok_or 23 27 (fun u2 => true) (fun u2 => true) (fun u2 => ((!t3) || (!t4))) (fun u2 => (!t5)) 28) <|
 .v 29 (.bool (((!t3) || (!t4)) || (!t5))) <|
 .cons [30] (ok_valg (fun u2 => vP ((u1 1).n 0) 5) (fun u2 => ((((!t3) || (!t4)) || (!t5)) == false)) [true] 30) <|
 .cons [31] (ok_ldg (fun u2 => vI a2.T) (fun u2 => ((((!t3) || (!t4)) || (!t5)) == false)) [false] 31 94 5 1 (fun u2 => ((u1 1).n 0)) (fun u2 => [vI a2.Ctrl.Order, vI a2.Ctrl.First, vI a2.Ctrl.Least, vI a2.Ctrl.Most, vI a2.Ctrl.Wide, vI a2.T, vI a2.Last]) 29) <|
 .cons [32] (ok_valg (fun u2 => vP ((u1 1).n 0) 6) (fun u2 => ((((!t3) || (!t4)) || (!t5)) == false)) [true] 32) <|
 .cons [33] (ok_ldg (fun u2 => vI a2.Last) (fun u2 => ((((!t3) || (!t4)) || (!t5)) == false)) [false] 33 94 6 1 (fun u2 => ((u1 1).n 0)) (fun u2 => [vI a2.Ctrl.Order, vI a2.Ctrl.First, vI a2.Ctrl.Least, vI a2.Ctrl.Most, vI a2.Ctrl.Wide, vI a2.T, vI a2.Last]) 29) <|
 .cons [34] (ok_valg (fun u2 => .bool (decide (a2.T ≥ a2.Last))) (fun u2 => ((((!t3) || (!t4)) || (!t5)) == false)) [false, false] 34) <|
 .cons [35] (ok_or 29 34 (fun u2 => true) (fun u2 => true) (fun u2 => (((!t3) || (!t4)) || (!t5))) (fun u2 => decide (a2.T ≥ a2.Last)) 35) <| .nil) [1, 3, 5, 35, 90, 91, 92, 93, 94, 999999] fun u2 a w' H => ?_
 refine k_cnd H ((((!t3) || (!t4)) || (!t5)) || (decide (a2.T ≥ a2.Last))) (fun c30 => ?_) fun c30 => ?_
 ·rw [if_pos c30] at G
  refine k_srk mixed H (.v 6 (.slice none 0 0) <|
 .v 7 (vI 1) <| .nil) [6, 7, 999999] fun u6 a w' H => ?_
  refine k_ret ?_
  obtain rfl := sj G
  replace H := H.nil_row 95 63 6
  replace H := H.add0 96 (dnK fr E_TSegment.toPart ([] : List G_TSegment)) (by intro _ _ h; cases h) (dn_holds rdl_nil (fun j h => by obtain ⟨_, hy, _⟩ := h; cases hy)) (fun j h => by obtain ⟨_, hy, _⟩ := h; cases hy)
  obtain ⟨g, o0, n0, d0⟩ := gh_d gd_TSegment none 0 (show ([] : List TSegment) = List.map er_TSegment ([] : List G_TSegment) from rfl)
  refine k_doneZ H _ g _ _ _ fr [95, 96] [] (.tuple #[.slice none 0 0, vI 1]) [fun _ => owK 63 6 none 0 0 (([] : List G_TSegment).flatMap en_TSegment), fun fr => dnK fr E_TSegment.toPart ([] : List G_TSegment)] (by simp only [slgd_TSegment, dlgd_TSegment, owl, o0, n0, d0, List.length_set, List.length_cons, List.length_nil, Nat.zero_add, Nat.reduceAdd]) (by simp only [slgd_TSegment, dlgd_TSegment, owl, o0, n0, d0, List.length_set, List.length_cons, List.length_nil, Nat.zero_add, Nat.reduceAdd]) hfr (.inl ⟨rfl, rfl⟩) (fams_cons fam_ow (fams_cons fam_dn fams_nil)) (by simp)
 ·rw [if_neg (nt c30)] at G
  refine k_skip ?_
  refine k_srk mixed H (.v 8 (.slice none 0 0) <| .nil) [1, 3, 5, 8, 90, 91, 92, 93, 94, 999999] fun u7 a w' H => ?_
  obtain ⟨t9, ht9, G⟩ := bnd G
  refine k_srk mixed H (.v 36 (vP ((u1 1).n 0) 0) <|
 .cons [37] (ok_ldc (.agg #[vI a2.Ctrl.Order, vI a2.Ctrl.First, vI a2.Ctrl.Least, vI a2.Ctrl.Most, vI a2.Ctrl.Wide]) 37 94 0 5 ((u1 1).n 0) [vI a2.Ctrl.Order, vI a2.Ctrl.First, vI a2.Ctrl.Least, vI a2.Ctrl.Most, vI a2.Ctrl.Wide, vI a2.T, vI a2.Last] 29) <|
 .v 38 (vP ((u1 1).n 0) 5) <|
 .cons [39] (ok_ldc (vI a2.T) 39 94 5 1 ((u1 1).n 0) [vI a2.Ctrl.Order, vI a2.Ctrl.First, vI a2.Ctrl.Least, vI a2.Ctrl.Most, vI a2.Ctrl.Wide, vI a2.T, vI a2.Last] 29) <|
 .v 40 (vP ((u1 1).n 0) 6) <|
 .cons [41] (ok_ldc (vI a2.Last) 41 94 6 1 ((u1 1).n 0) [vI a2.Ctrl.Order, vI a2.Ctrl.First, vI a2.Ctrl.Least, vI a2.Ctrl.Most, vI a2.Ctrl.Wide, vI a2.T, vI a2.Last] 29) <|
 .v 42 (vP ((u1 1).n 0) 0) <|
 .cons [43] (ok_ldc (.agg #[vI a2.Ctrl.Order, vI a2.Ctrl.First, vI a2.Ctrl.Least, vI a2.Ctrl.Most, vI a2.Ctrl.Wide]) 43 94 0 5 ((u1 1).n 0) [vI a2.Ctrl.Order, vI a2.Ctrl.First, vI a2.Ctrl.Least, vI a2.Ctrl.Most, vI a2.Ctrl.Wide, vI a2.T, vI a2.Last] 29) <|
 .v 44 (vP ((u1 1).n 0) 6) <|
 .cons [45] (ok_ldc (vI a2.Last) 45 94 6 1 ((u1 1).n 0) [vI a2.Ctrl.Order, vI a2.Ctrl.First, vI a2.Ctrl.Least, vI a2.Ctrl.Most, vI a2.Ctrl.Wide, vI a2.T, vI a2.Last] 29) <|
 .v 46 (vP ((u1 1).n 0) 5) <|
 .cons [47] (ok_ldc (vI a2.T) 47 94 5 1 ((u1 1).n 0) [vI a2.Ctrl.Order, vI a2.Ctrl.First, vI a2.Ctrl.Least, vI a2.Ctrl.Most, vI a2.Ctrl.Wide, vI a2.T, vI a2.Last] 29) <|
 .v 48 (vI (w_i64 (a2.Last - a2.T))) <|
 .cons [49] (ok_callv 32 _ _ 49 [] (fun u8 w _ => control_Initial.calls (⟨a2.Ctrl.Order, a2.Ctrl.First, a2.Ctrl.Least, a2.Ctrl.Most, a2.Ctrl.Wide⟩ : TStepControl) (w_i64 (a2.Last - a2.T))  t9 w  ht9)) <|
 .v 50 (.agg #[vI a2.Ctrl.Order, vI a2.Ctrl.First, vI a2.Ctrl.Least, vI a2.Ctrl.Most, vI a2.Ctrl.Wide, vI a2.T, vI a2.Last, vI t9]) <|
 .cons [9, 97] (ok_new (fun b => vP b 0) (fun u8 => [vI 0, vI 0, vI 0, vI 0, vI 0, vI 0, vI 0, vI 0]) 100 9 97) <|
 .cons [97] (ok_as (u' := fun u8 => [(97, .blk ((u8 15).n 0) [vI a2.Ctrl.Order, vI a2.Ctrl.First, vI a2.Ctrl.Least, vI a2.Ctrl.Most, vI a2.Ctrl.Wide, vI a2.T, vI a2.Last, vI t9] 100)]) (ok_store 97 0 (fun u8 => ((u8 15).n 0)) (fun u8 => [vI 0, vI 0, vI 0, vI 0, vI 0, vI 0, vI 0, vI 0]) (fun u8 => [vI a2.Ctrl.Order, vI a2.Ctrl.First, vI a2.Ctrl.Least, vI a2.Ctrl.Most, vI a2.Ctrl.Wide, vI a2.T, vI a2.Last, vI t9]) 100) (fun _ => by kernel_rfl)) <| .nil) [1, 3, 5, 8, 9, 90, 91, 92, 93, 94, 97, 999999] fun u8 a w' H => ?_
  refine k_seq ?_
  obtain ⟨j11, hj11, Gj11⟩ := bnd G
  refine k_join (fun a w' => ∃ j11v, j11 = Sum.inr j11v ∧ ∃ (p_j10 : Option Addr) (c_j10 np_j10 : Nat) (L_j10 : List G_TSegment), np_j10 = L_j10.length ∧ j11v = L_j10.map er_TSegment ∧ RL w 90 [(8, sS p_j10 np_j10 c_j10), (900045, owK 63 6 p_j10 np_j10 c_j10 (L_j10.flatMap en_TSegment)), (900046, dnK fr E_TSegment.toPart L_j10), (999999, gk)] a w') ?_ ?_
  ·clear H; rintro a w' ⟨j11v, rfl, p_j10, c_j10, _, L_j10, rfl, h_j10, H⟩; have G := Gj11; clear Gj11; dsimp only at G
   refine k_srk mixed H (.v 89 (.slice p_j10 L_j10.length c_j10) <|
 .v 6 (.slice p_j10 L_j10.length c_j10) <|
 .v 7 (vI 0) <| .nil) [6, 7, 900045, 900046, 999999] fun u12 a w' H => ?_
   refine k_ret ?_
   obtain rfl := sj G
   obtain ⟨g, o0, n0, d0⟩ := gh_d gd_TSegment p_j10 c_j10 h_j10
   refine k_doneZ H _ g _ _ _ fr [900045, 900046] [] (.tuple #[.slice p_j10 L_j10.length c_j10, vI 0]) [fun _ => owl 63 6 p_j10 c_j10 L_j10 en_TSegment, fun fr => dnK fr E_TSegment.toPart L_j10] (by simp only [slgd_TSegment, dlgd_TSegment, owl, o0, n0, d0]) (by simp only [slgd_TSegment, dlgd_TSegment, owl, o0, n0, d0]) hfr (.inl ⟨rfl, rfl⟩) (fams_cons fam_ow (fams_cons fam_dn fams_nil)) (by simp)
  ·have G := hj11; clear hj11
   refine k_block ?_
   replace H := H.nil_row 113 63 6
   replace H := H.add0 114 (dnK fr E_TSegment.toPart ([] : List G_TSegment)) (by intro _ _ h; cases h) (dn_holds rdl_nil (fun j h => by obtain ⟨_, hy, _⟩ := h; cases hy)) (fun j h => by obtain ⟨_, hy, _⟩ := h; cases hy)
   replace H := H.dup (K := rdl fr 2 p_a1 c_a1 a1 en_TInterval) 92 900047 (by kernel_rfl) (fun h => h) (by intro _ _ h; cases h)
   replace H := H.move (K := owK 63 6 none 0 0 (([] : List G_TSegment).flatMap en_TSegment)) 113 900048 (by kernel_rfl) (by intro _ _ h; cases h)
   replace H := H.dup (K := dnK fr E_TSegment.toPart ([] : List G_TSegment)) 114 900049 (by kernel_rfl) (fun h => h) (by intro _ _ h; cases h)
   refine k_loopJ (fun m a w' => ∃ x13 : Int, ∃ x14 : Int, ∃ x15 : List TInterval, ∃ x16 : List TSegment, flow_Integrate.l17 k0 a0 a1 a2 t3 t4 t5 t9 m x13 x14 x15 x16 = some j11 ∧ ∃ (p_x15 : Option Addr) (c_x15 np_x15 : Nat), np_x15 = x15.length ∧ ∃ (p_x16 : Option Addr) (c_x16 np_x16 : Nat) (L_x16 : List G_TSegment), np_x16 = L_x16.length ∧ x16 = L_x16.map er_TSegment ∧ RL w 90 [(1, sS p_x15 np_x15 c_x15), (3, (sP ((u1 0).n 0) 0)), (5, (sP ((u1 1).n 0) 0)), (8, sS p_x16 np_x16 c_x16), (9, (sP ((u8 15).n 0) 0)), (90, rdl anyF 5 p_a0_L c_a0_L a0.L en_TInstruction), (91, rdl anyF 1 p_a0_Out c_a0_Out a0.Out en_i64), (93, .blk ((u1 0).n 0) [vI a0.N, .slice p_a0_L a0.L.length c_a0_L, .slice p_a0_Out a0.Out.length c_a0_Out] 38), (94, .blk ((u1 1).n 0) [vI a2.Ctrl.Order, vI a2.Ctrl.First, vI a2.Ctrl.Least, vI a2.Ctrl.Most, vI a2.Ctrl.Wide, vI a2.T, vI a2.Last] 29), (97, .blk ((u8 15).n 0) [vI a2.Ctrl.Order, vI a2.Ctrl.First, vI a2.Ctrl.Least, vI a2.Ctrl.Most, vI a2.Ctrl.Wide, vI x13, vI a2.Last, vI x14] 100), (900047, rdF fr 2 p_x15 np_x15 c_x15 (x15.flatMap en_TInterval)), (900048, owK 63 6 p_x16 np_x16 c_x16 (L_x16.flatMap en_TSegment)), (900049, dnK fr E_TSegment.toPart L_x16), (999999, gk)] a w') k0 ⟨_, _, _, _, G, p_a1, c_a1, a1.length, rfl, none, 0, 0, ([] : List G_TSegment), rfl, rfl, H.toM _⟩ ?_
   clear G H
   rintro (_ | k) a w' ⟨x13, x14, x15, x16, G, p_x15, c_x15, _, rfl, p_x16, c_x16, _, L_x16, rfl, h_x16, H⟩
   ·exact absurd G (by unfold flow_Integrate.l17; exact fun h => by cases h)
   ·unfold flow_Integrate.l17 at G
    refine k_seq ?_
    refine k_srk mixed H (.v 51 (vP ((u8 15).n 0) 5) <|
 .cons [52] (ok_ldc (vI x13) 52 97 5 1 ((u8 15).n 0) [vI a2.Ctrl.Order, vI a2.Ctrl.First, vI a2.Ctrl.Least, vI a2.Ctrl.Most, vI a2.Ctrl.Wide, vI x13, vI a2.Last, vI x14] 100) <|
 .v 53 (vP ((u1 1).n 0) 6) <|
 .cons [54] (ok_ldc (vI a2.Last) 54 94 6 1 ((u1 1).n 0) [vI a2.Ctrl.Order, vI a2.Ctrl.First, vI a2.Ctrl.Least, vI a2.Ctrl.Most, vI a2.Ctrl.Wide, vI a2.T, vI a2.Last] 29) <|
 .v 55 (.bool (decide (x13 < a2.Last))) <| .nil) [1, 3, 5, 8, 9, 55, 90, 91, 93, 94, 97, 900047, 900048, 900049, 999999] fun u18 a w' H => ?_
    refine k_cnd H (decide (x13 < a2.Last)) (fun c29 => ?_) fun c29 => ?_
    ·rw [if_pos c29] at G
     refine k_skip ?_
     refine k_block ?_
     obtain ⟨t20, ht20, G⟩ := bnd G
     refine k_srk mixed H (.cons [57] (ok_ldc (.agg #[vI a0.N, .slice p_a0_L a0.L.length c_a0_L, .slice p_a0_Out a0.Out.length c_a0_Out]) 57 93 0 3 ((u1 0).n 0) [vI a0.N, .slice p_a0_L a0.L.length c_a0_L, .slice p_a0_Out a0.Out.length c_a0_Out] 38) <|
 .v 58 (.slice p_x15 x15.length c_x15) <|
 .cons [59] (ok_ldc (.agg #[vI a2.Ctrl.Order, vI a2.Ctrl.First, vI a2.Ctrl.Least, vI a2.Ctrl.Most, vI a2.Ctrl.Wide, vI x13, vI a2.Last, vI x14]) 59 97 0 8 ((u8 15).n 0) [vI a2.Ctrl.Order, vI a2.Ctrl.First, vI a2.Ctrl.Least, vI a2.Ctrl.Most, vI a2.Ctrl.Wide, vI x13, vI a2.Last, vI x14] 100) <|
 .cons [60, 98, 99, 100, 101] (ok_callY true fr [] [90, 91, 900047, 999999] (fun u19 => [rdl anyF 5 p_a0_L c_a0_L a0.L en_TInstruction, rdl anyF 1 p_a0_Out c_a0_Out a0.Out en_i64, rdl fr 2 p_x15 c_x15 x15 en_TInterval, gk]) [] (fun u19 => []) 33 _ _ _ _ _ [98, 99, 100, 101] 60 (fun u19 w hB hF hM => control_Advance.calls k0 (⟨a0.N, a0.L, a0.Out⟩ : TTape) x15 (⟨(⟨a2.Ctrl.Order, a2.Ctrl.First, a2.Ctrl.Least, a2.Ctrl.Most, a2.Ctrl.Wide⟩ : TStepControl), x13, a2.Last, x14⟩ : TStepRequest) p_a0_L c_a0_L p_a0_Out c_a0_Out p_x15 c_x15 t20 w  hB hF ht20) (fun u19 w hF => ⟨⟨sub_rd0 (rdF_of hF.1) (fun j h => ⟨_, (.head _), h⟩), sub_rd0 (rdF_of hF.2.1) (fun j h => ⟨_, (.tail _ (.head _)), h⟩), sub_k hF.2.2.2.1 (.tail _ (.tail _ (.tail _ (.head _)))), trivial⟩, ⟨sub_rd1 (rdF_of hF.2.2.1) (fun j h => ff_of (.tail _ (.tail _ (.head _))) (fun h => h) h (rdF_fr hF.2.2.1 _ h)), trivial⟩⟩) (fun u19 g => (fams_cons (fam_rd (by decide)) (fams_cons (fam_rd (by decide)) (fams_cons (fam_rd (by decide)) (fams_cons (fam_rd (by decide)) fams_nil))))) (.inl rfl) (fun _ => hBf)) <|
 .cons [56] (ok_val (fun u19 => .tuple #[.agg #[vI t20.1.T, vI t20.1.H, .slice ((u19 3).o 0) t20.1.From.length ((u19 3).n 0), .slice ((u19 3).o 1) t20.1.Pre.length ((u19 3).n 1), .slice ((u19 3).o 2) t20.1.Tube.length ((u19 3).n 2), .slice ((u19 3).o 3) t20.1.To.length ((u19 3).n 3)], vI t20.2.1, vI t20.2.2]) 56) <|
 .cons [61] (ok_val (fun u19 => .agg #[vI t20.1.T, vI t20.1.H, .slice ((u19 3).o 0) t20.1.From.length ((u19 3).n 0), .slice ((u19 3).o 1) t20.1.Pre.length ((u19 3).n 1), .slice ((u19 3).o 2) t20.1.Tube.length ((u19 3).n 2), .slice ((u19 3).o 3) t20.1.To.length ((u19 3).n 3)]) 61) <|
 .v 62 (vI t20.2.1) <|
 .v 63 (vI t20.2.2) <|
 .cons [10, 102] (ok_new (fun b => vP b 0) (fun u19 => [vI 0, vI 0, .slice none 0 0, .slice none 0 0, .slice none 0 0, .slice none 0 0]) 63 10 102) <|
 .cons [102] (ok_as (u' := fun u19 => [(102, .blk ((u19 8).n 0) [vI t20.1.T, vI t20.1.H, .slice ((u19 3).o 0) t20.1.From.length ((u19 3).n 0), .slice ((u19 3).o 1) t20.1.Pre.length ((u19 3).n 1), .slice ((u19 3).o 2) t20.1.Tube.length ((u19 3).n 2), .slice ((u19 3).o 3) t20.1.To.length ((u19 3).n 3)] 63)]) (ok_store 102 0 (fun u19 => ((u19 8).n 0)) (fun u19 => [vI 0, vI 0, .slice none 0 0, .slice none 0 0, .slice none 0 0, .slice none 0 0]) (fun u19 => [vI t20.1.T, vI t20.1.H, .slice ((u19 3).o 0) t20.1.From.length ((u19 3).n 0), .slice ((u19 3).o 1) t20.1.Pre.length ((u19 3).n 1), .slice ((u19 3).o 2) t20.1.Tube.length ((u19 3).n 2), .slice ((u19 3).o 3) t20.1.To.length ((u19 3).n 3)]) 63) (fun _ => by kernel_rfl)) <|
 .v 11 (vI t20.2.1) <|
 .v 12 (vI t20.2.2) <| .nil) [3, 5, 8, 9, 10, 11, 12, 90, 91, 93, 94, 97, 98, 99, 100, 101, 102, 900048, 900049, 999999] fun u19 a w' H => ?_
     refine k_seq ?_
     refine k_block ?_
     refine k_seq ?_
     replace G := gd G; obtain ⟨b22, G⟩ := G
     refine k_rk mixed H (.v 65 (vI t20.2.2) <|
 .v 66 (.iface 32 (vI t20.2.2)) <|
 .v 67 (.iface 32 (vI 0)) <|
 .cons [68] (ok_callv 34 _ _ 68 [] (fun u21 w _ => errIs0 b22 w)) <|
 .v 69 (.bool false) <|
 .v 64 (.bool false) <| .nil) [3, 5, 8, 9, 10, 11, 12, 64, 90, 91, 93, 94, 97, 98, 99, 100, 101, 102, 900048, 900049, 999999] fun u21 a w' H => ?_
     refine k_cond_false H (by kernel_rfl) (by kernel_rfl) ?_
     refine k_srk mixed H (.v 72 (.slice p_x16 L_x16.length c_x16) <|
 .cons [73] (ok_v1 900048 (owl 63 6 p_x16 c_x16 L_x16 en_TSegment) (vI (x16.length : Int)) 73 fun _ w h => run_lenN (((owns_rowC (ow_of h)).2.len en_TSegment_len (by decide)).trans (map_len h_x16).symm) (by kernel_rfl)) <|
 .v 74 (.bool ((x16.length : Int) == 256)) <|
 .v 71 (.bool ((x16.length : Int) == 256)) <| .nil) [3, 5, 8, 9, 10, 11, 71, 90, 91, 93, 94, 97, 98, 99, 100, 101, 102, 900048, 900049, 999999] fun u23 a w' H => ?_
     refine k_cnd H ((x16.length : Int) == 256) (fun c28 => ?_) fun c28 => ?_
     ·rw [if_pos c28] at G
      refine k_srk mixed H (.v 6 (.slice none 0 0) <|
 .v 7 (vI 140) <| .nil) [6, 7, 999999] fun u24 a w' H => ?_
      refine k_ret ?_
      obtain rfl := sj G
      replace G := Gj11
      obtain rfl := sj G
      replace H := H.nil_row 103 63 6
      replace H := H.add0 104 (dnK fr E_TSegment.toPart ([] : List G_TSegment)) (by intro _ _ h; cases h) (dn_holds rdl_nil (fun j h => by obtain ⟨_, hy, _⟩ := h; cases hy)) (fun j h => by obtain ⟨_, hy, _⟩ := h; cases hy)
      obtain ⟨g, o0, n0, d0⟩ := gh_d gd_TSegment none 0 (show ([] : List TSegment) = List.map er_TSegment ([] : List G_TSegment) from rfl)
      refine k_doneZ H _ g _ _ _ fr [103, 104] [] (.tuple #[.slice none 0 0, vI 140]) [fun _ => owK 63 6 none 0 0 (([] : List G_TSegment).flatMap en_TSegment), fun fr => dnK fr E_TSegment.toPart ([] : List G_TSegment)] (by simp only [slgd_TSegment, dlgd_TSegment, owl, o0, n0, d0, List.length_set, List.length_cons, List.length_nil, Nat.zero_add, Nat.reduceAdd]) (by simp only [slgd_TSegment, dlgd_TSegment, owl, o0, n0, d0, List.length_set, List.length_cons, List.length_nil, Nat.zero_add, Nat.reduceAdd]) hfr (.inl ⟨rfl, rfl⟩) (fams_cons fam_ow (fams_cons fam_dn fams_nil)) (by simp)
     ·rw [if_neg (nt c28)] at G
      refine k_skip ?_
      refine k_seq ?_
      replace G := gd G; obtain ⟨b26, G⟩ := G
      refine k_rk mixed H (.v 75 (.slice p_x16 L_x16.length c_x16) <|
 .cons [76] (ok_ldc (.agg #[vI t20.1.T, vI t20.1.H, .slice ((u19 3).o 0) t20.1.From.length ((u19 3).n 0), .slice ((u19 3).o 1) t20.1.Pre.length ((u19 3).n 1), .slice ((u19 3).o 2) t20.1.Tube.length ((u19 3).n 2), .slice ((u19 3).o 3) t20.1.To.length ((u19 3).n 3)]) 76 102 0 6 ((u19 8).n 0) [vI t20.1.T, vI t20.1.H, .slice ((u19 3).o 0) t20.1.From.length ((u19 3).n 0), .slice ((u19 3).o 1) t20.1.Pre.length ((u19 3).n 1), .slice ((u19 3).o 2) t20.1.Tube.length ((u19 3).n 2), .slice ((u19 3).o 3) t20.1.To.length ((u19 3).n 3)] 63) <|
 .cons [77, 105] (ok_new (fun b => .slice (some ⟨b, 0, none⟩) 1 1) (fun u25 => [vI t20.1.T, vI t20.1.H, .slice ((u19 3).o 0) t20.1.From.length ((u19 3).n 0), .slice ((u19 3).o 1) t20.1.Pre.length ((u19 3).n 1), .slice ((u19 3).o 2) t20.1.Tube.length ((u19 3).n 2), .slice ((u19 3).o 3) t20.1.To.length ((u19 3).n 3)]) 63 77 105) <|
 .cons [78, 900048, 900048, 106] (ok_ownF [2] [900049, 105, 98, 99, 100, 101] (fun u25 => [dnK fr E_TSegment.toPart L_x16, .blk ((u25 2).n 0) [vI t20.1.T, vI t20.1.H, .slice ((u19 3).o 0) t20.1.From.length ((u19 3).n 0), .slice ((u19 3).o 1) t20.1.Pre.length ((u19 3).n 1), .slice ((u19 3).o 2) t20.1.Tube.length ((u19 3).n 2), .slice ((u19 3).o 3) t20.1.To.length ((u19 3).n 3)] 63, rdF fr 2 ((u19 3).o 0) t20.1.From.length ((u19 3).n 0) (t20.1.From.flatMap en_TInterval), rdF fr 2 ((u19 3).o 1) t20.1.Pre.length ((u19 3).n 1) (t20.1.Pre.flatMap en_TInterval), rdF fr 2 ((u19 3).o 2) t20.1.Tube.length ((u19 3).n 2) (t20.1.Tube.flatMap en_TInterval), rdF fr 2 ((u19 3).o 3) t20.1.To.length ((u19 3).n 3) (t20.1.To.flatMap en_TInterval)]) 900048 106 (fun u25 => owl 63 6 p_x16 c_x16 L_x16 en_TSegment) (some 78) (fun u25 g => .slice (g.o 0) (L_x16 ++ [((⟨t20.1.T, t20.1.H, ⟨((u19 3).o 0), ((u19 3).n 0), t20.1.From⟩, ⟨((u19 3).o 1), ((u19 3).n 1), t20.1.Pre⟩, ⟨((u19 3).o 2), ((u19 3).n 2), t20.1.Tube⟩, ⟨((u19 3).o 3), ((u19 3).n 3), t20.1.To⟩⟩ : G_TSegment) : G_TSegment)]).length (g.n 0)) (fun u25 g => owl 63 6 (g.o 0) (g.n 0) (L_x16 ++ [((⟨t20.1.T, t20.1.H, ⟨((u19 3).o 0), ((u19 3).n 0), t20.1.From⟩, ⟨((u19 3).o 1), ((u19 3).n 1), t20.1.Pre⟩, ⟨((u19 3).o 2), ((u19 3).n 2), t20.1.Tube⟩, ⟨((u19 3).o 3), ((u19 3).n 3), t20.1.To⟩⟩ : G_TSegment) : G_TSegment)]) en_TSegment) (fun u25 g => dnK fr E_TSegment.toPart (L_x16 ++ [((⟨t20.1.T, t20.1.H, ⟨((u19 3).o 0), ((u19 3).n 0), t20.1.From⟩, ⟨((u19 3).o 1), ((u19 3).n 1), t20.1.Pre⟩, ⟨((u19 3).o 2), ((u19 3).n 2), t20.1.Tube⟩, ⟨((u19 3).o 3), ((u19 3).n 3), t20.1.To⟩⟩ : G_TSegment) : G_TSegment)])) (fun u25 w hF hK => tv_appF (run_app_rowN (t := 31) (ty := 31) (en := en_TSegment) en_TSegment_len inf63 (ow_of hK) hF.2.1 (news := [((⟨t20.1.T, t20.1.H, ⟨((u19 3).o 0), ((u19 3).n 0), t20.1.From⟩, ⟨((u19 3).o 1), ((u19 3).n 1), t20.1.Pre⟩, ⟨((u19 3).o 2), ((u19 3).n 2), t20.1.Tube⟩, ⟨((u19 3).o 3), ((u19 3).n 3), t20.1.To⟩⟩ : G_TSegment) : G_TSegment)]) rfl (by simp) (by kernel_rfl) (by rw [← map_len h_x16]; exact b26)) (dn_app hF.1 (.head _) ⟨⟨(rdF_of hF.2.2.1), fun _ _ => trivial⟩, ⟨⟨(rdF_of hF.2.2.2.1), fun _ _ => trivial⟩, ⟨⟨(rdF_of hF.2.2.2.2.1), fun _ _ => trivial⟩, ⟨(rdF_of hF.2.2.2.2.2.1), fun _ _ => trivial⟩⟩⟩⟩ (fun j h => (h.elim (fun h => (h.elim (fun h => ff_of (.tail _ (.tail _ (.head _))) (fun h => h) h (rdF_fr hF.2.2.1 _ h)) (fun ⟨_, _, hz⟩ => hz.elim))) (fun h => (h.elim (fun h => (h.elim (fun h => ff_of (.tail _ (.tail _ (.tail _ (.head _)))) (fun h => h) h (rdF_fr hF.2.2.2.1 _ h)) (fun ⟨_, _, hz⟩ => hz.elim))) (fun h => (h.elim (fun h => (h.elim (fun h => ff_of (.tail _ (.tail _ (.tail _ (.tail _ (.head _))))) (fun h => h) h (rdF_fr hF.2.2.2.2.1 _ h)) (fun ⟨_, _, hz⟩ => hz.elim))) (fun h => (h.elim (fun h => ff_of (.tail _ (.tail _ (.tail _ (.tail _ (.tail _ (.head _)))))) (fun h => h) h (rdF_fr hF.2.2.2.2.2.1 _ h)) (fun ⟨_, _, hz⟩ => hz.elim))))))))))) (hloc := fun u u' h => ⟨by first | rfl | simp only [h 2 (by decide)], by first | rfl | simp only [h 2 (by decide)], by first | rfl | simp only [h 2 (by decide)], by first | rfl | simp only [h 2 (by decide)], by first | rfl | simp only [h 2 (by decide)]⟩)) <|
 .cons [8] (ok_val (fun u25 => .slice ((u25 3).o 0) ((L_x16 ++ [((⟨t20.1.T, t20.1.H, ⟨((u19 3).o 0), ((u19 3).n 0), t20.1.From⟩, ⟨((u19 3).o 1), ((u19 3).n 1), t20.1.Pre⟩, ⟨((u19 3).o 2), ((u19 3).n 2), t20.1.Tube⟩, ⟨((u19 3).o 3), ((u19 3).n 3), t20.1.To⟩⟩ : G_TSegment) : G_TSegment)]).length) ((u25 3).n 0)) 8) <| .nil) [3, 5, 8, 9, 10, 11, 90, 91, 93, 94, 97, 98, 99, 100, 101, 102, 106, 900048, 999999] fun u25 a w' H => ?_
      refine k_rk mixed H (.v 79 (vP ((u19 8).n 0) 0) <|
 .cons [80] (ok_ldc (vI t20.1.T) 80 102 0 1 ((u19 8).n 0) [vI t20.1.T, vI t20.1.H, .slice ((u19 3).o 0) t20.1.From.length ((u19 3).n 0), .slice ((u19 3).o 1) t20.1.Pre.length ((u19 3).n 1), .slice ((u19 3).o 2) t20.1.Tube.length ((u19 3).n 2), .slice ((u19 3).o 3) t20.1.To.length ((u19 3).n 3)] 63) <|
 .v 81 (vP ((u19 8).n 0) 1) <|
 .cons [82] (ok_ldc (vI t20.1.H) 82 102 1 1 ((u19 8).n 0) [vI t20.1.T, vI t20.1.H, .slice ((u19 3).o 0) t20.1.From.length ((u19 3).n 0), .slice ((u19 3).o 1) t20.1.Pre.length ((u19 3).n 1), .slice ((u19 3).o 2) t20.1.Tube.length ((u19 3).n 2), .slice ((u19 3).o 3) t20.1.To.length ((u19 3).n 3)] 63) <|
 .v 83 (vI (w_i64 (t20.1.T + t20.1.H))) <|
 .v 84 (vI t20.2.1) <|
 .v 85 (vP ((u19 8).n 0) 5) <|
 .cons [86] (ok_ldc (.slice ((u19 3).o 3) t20.1.To.length ((u19 3).n 3)) 86 102 5 1 ((u19 8).n 0) [vI t20.1.T, vI t20.1.H, .slice ((u19 3).o 0) t20.1.From.length ((u19 3).n 0), .slice ((u19 3).o 1) t20.1.Pre.length ((u19 3).n 1), .slice ((u19 3).o 2) t20.1.Tube.length ((u19 3).n 2), .slice ((u19 3).o 3) t20.1.To.length ((u19 3).n 3)] 63) <|
 .v 87 (vP ((u8 15).n 0) 5) <|
 .cons [97] (ok_stc 97 5 ((u8 15).n 0) [vI a2.Ctrl.Order, vI a2.Ctrl.First, vI a2.Ctrl.Least, vI a2.Ctrl.Most, vI a2.Ctrl.Wide, vI x13, vI a2.Last, vI x14] [vI (w_i64 (t20.1.T + t20.1.H))] 100 [vI a2.Ctrl.Order, vI a2.Ctrl.First, vI a2.Ctrl.Least, vI a2.Ctrl.Most, vI a2.Ctrl.Wide, vI (w_i64 (t20.1.T + t20.1.H)), vI a2.Last, vI x14]) <|
 .v 88 (vP ((u8 15).n 0) 7) <|
 .cons [97] (ok_stc 97 7 ((u8 15).n 0) [vI a2.Ctrl.Order, vI a2.Ctrl.First, vI a2.Ctrl.Least, vI a2.Ctrl.Most, vI a2.Ctrl.Wide, vI (w_i64 (t20.1.T + t20.1.H)), vI a2.Last, vI x14] [vI t20.2.1] 100 [vI a2.Ctrl.Order, vI a2.Ctrl.First, vI a2.Ctrl.Least, vI a2.Ctrl.Most, vI a2.Ctrl.Wide, vI (w_i64 (t20.1.T + t20.1.H)), vI a2.Last, vI t20.2.1]) <|
 .v 1 (.slice ((u19 3).o 3) t20.1.To.length ((u19 3).n 3)) <| .nil) [1, 3, 5, 8, 9, 90, 91, 93, 94, 97, 101, 106, 900048, 999999] fun u27 a w' H => ?_
      replace H := H.dup (K := rdF fr 2 ((u19 3).o 3) t20.1.To.length ((u19 3).n 3) (t20.1.To.flatMap en_TInterval)) 101 900047 (by kernel_rfl) (fun h => h) (by intro _ _ h; cases h)
      replace H := H.dup (K := dnK fr E_TSegment.toPart (L_x16 ++ [((⟨t20.1.T, t20.1.H, ⟨((u19 3).o 0), ((u19 3).n 0), t20.1.From⟩, ⟨((u19 3).o 1), ((u19 3).n 1), t20.1.Pre⟩, ⟨((u19 3).o 2), ((u19 3).n 2), t20.1.Tube⟩, ⟨((u19 3).o 3), ((u19 3).n 3), t20.1.To⟩⟩ : G_TSegment) : G_TSegment)])) 106 900049 (by kernel_rfl) (fun h => h) (by intro _ _ h; cases h)
      exact ⟨k, Nat.lt_succ_self k, _, _, _, _, G, ((u19 3).o 3), ((u19 3).n 3), t20.1.To.length, rfl, ((u25 3).o 0), ((u25 3).n 0), (L_x16 ++ [((⟨t20.1.T, t20.1.H, ⟨((u19 3).o 0), ((u19 3).n 0), t20.1.From⟩, ⟨((u19 3).o 1), ((u19 3).n 1), t20.1.Pre⟩, ⟨((u19 3).o 2), ((u19 3).n 2), t20.1.Tube⟩, ⟨((u19 3).o 3), ((u19 3).n 3), t20.1.To⟩⟩ : G_TSegment) : G_TSegment)]).length, (L_x16 ++ [((⟨t20.1.T, t20.1.H, ⟨((u19 3).o 0), ((u19 3).n 0), t20.1.From⟩, ⟨((u19 3).o 1), ((u19 3).n 1), t20.1.Pre⟩, ⟨((u19 3).o 2), ((u19 3).n 2), t20.1.Tube⟩, ⟨((u19 3).o 3), ((u19 3).n 3), t20.1.To⟩⟩ : G_TSegment) : G_TSegment)]), rfl, (map_app h_x16 ((⟨t20.1.T, t20.1.H, ⟨((u19 3).o 0), ((u19 3).n 0), t20.1.From⟩, ⟨((u19 3).o 1), ((u19 3).n 1), t20.1.Pre⟩, ⟨((u19 3).o 2), ((u19 3).n 2), t20.1.Tube⟩, ⟨((u19 3).o 3), ((u19 3).n 3), t20.1.To⟩⟩ : G_TSegment) : G_TSegment)), H.toM _⟩
    ·rw [if_neg (nt c29)] at G
     refine k_exit rfl ?_
     obtain rfl := sj G
     replace H := H.move (K := owl 63 6 p_x16 c_x16 L_x16 en_TSegment) 900048 900045 (by kernel_rfl) (by intro _ _ h; cases h)
     replace H := H.dup (K := dnK fr E_TSegment.toPart L_x16) 900049 900046 (by kernel_rfl) (fun h => h) (by intro _ _ h; cases h)
     exact ⟨_, rfl, p_x16, c_x16, L_x16.length, L_x16, rfl, h_x16, H.toM _⟩
theorem ode_arity.calls (a0 : Int) (r : Int) (w : World) (G : ode_arity a0 = some r) :
  Calls Tryz.prog 61 #[vI a0] w fun e w' => e = .returned (vI r) ∧ Below w.heap.size w w' := by
 refine k_enter (args := [vI a0]) 24 Tryz.func61 rfl (by kernel_rfl) (by kernel_rfl) fun a H => ?_
 unfold ode_arity at G
 refine k_srk mixed H (.v 2 (vI 0) <| .nil) [0] fun u1 a w' H => ?_
 refine k_seq ?_
 refine k_block ?_
 refine k_srk mixed H (.v 4 (vI a0) <|
 .v 5 (.bool (decide (a0 ≥ 1))) <|
 .v 6 (.bool (decide (a0 ≥ 1))) <|
 .cons [7] (ok_valg (fun u2 => vI a0) (fun u2 => ((decide (a0 ≥ 1)) == true)) [true] 7) <|
 .cons [8] (ok_valg (fun u2 => .bool (decide (a0 ≤ 3))) (fun u2 => ((decide (a0 ≥ 1)) == true)) [false, true] 8) <|
 .cons [9] (ok_and 6 8 (fun u2 => true) (fun u2 => true) (fun u2 => decide (a0 ≥ 1)) (fun u2 => decide (a0 ≤ 3)) 9) <|
 .v 3 (.bool ((decide (a0 ≥ 1)) && (decide (a0 ≤ 3)))) <| .nil) [0, 3] fun u2 a w' H => ?_
 refine k_cnd H ((decide (a0 ≥ 1)) && (decide (a0 ≤ 3))) (fun c11 => ?_) fun c11 => ?_
 ·rw [if_pos c11] at G
  refine k_srk mixed H (.v 2 (vI 0) <| .nil) [2] fun u3 a w' H => ?_
  refine k_ret ?_
  obtain rfl := sj G
  exact k_done0 H _ (by kernel_rfl) (by kernel_rfl)
 ·rw [if_neg (nt c11)] at G
  refine k_srk mixed H (.v 11 (vI a0) <|
 .v 12 (.bool (decide (a0 ≥ 4))) <|
 .v 13 (.bool (decide (a0 ≥ 4))) <|
 .cons [14] (ok_valg (fun u4 => vI a0) (fun u4 => ((decide (a0 ≥ 4)) == true)) [true] 14) <|
 .cons [15] (ok_valg (fun u4 => .bool (decide (a0 ≤ 6))) (fun u4 => ((decide (a0 ≥ 4)) == true)) [false, true] 15) <|
 .cons [16] (ok_and 13 15 (fun u4 => true) (fun u4 => true) (fun u4 => decide (a0 ≥ 4)) (fun u4 => decide (a0 ≤ 6)) 16) <|
 .v 10 (.bool ((decide (a0 ≥ 4)) && (decide (a0 ≤ 6)))) <| .nil) [0, 10] fun u4 a w' H => ?_
  refine k_cnd H ((decide (a0 ≥ 4)) && (decide (a0 ≤ 6))) (fun c10 => ?_) fun c10 => ?_
  ·rw [if_pos c10] at G
   refine k_srk mixed H (.v 2 (vI 1) <| .nil) [2] fun u5 a w' H => ?_
   refine k_ret ?_
   obtain rfl := sj G
   exact k_done0 H _ (by kernel_rfl) (by kernel_rfl)
  ·rw [if_neg (nt c10)] at G
   refine k_srk mixed H (.v 18 (vI a0) <|
 .v 19 (.bool (decide (a0 ≥ 7))) <|
 .v 20 (.bool (decide (a0 ≥ 7))) <|
 .cons [21] (ok_valg (fun u6 => vI a0) (fun u6 => ((decide (a0 ≥ 7)) == true)) [true] 21) <|
 .cons [22] (ok_valg (fun u6 => .bool (decide (a0 ≤ 10))) (fun u6 => ((decide (a0 ≥ 7)) == true)) [false, true] 22) <|
 .cons [23] (ok_and 20 22 (fun u6 => true) (fun u6 => true) (fun u6 => decide (a0 ≥ 7)) (fun u6 => decide (a0 ≤ 10)) 23) <|
 .v 17 (.bool ((decide (a0 ≥ 7)) && (decide (a0 ≤ 10)))) <| .nil) [17] fun u6 a w' H => ?_
   refine k_cnd H ((decide (a0 ≥ 7)) && (decide (a0 ≤ 10))) (fun c9 => ?_) fun c9 => ?_
   ·rw [if_pos c9] at G
    refine k_srk mixed H (.v 2 (vI 2) <| .nil) [2] fun u7 a w' H => ?_
    refine k_ret ?_
    obtain rfl := sj G
    exact k_done0 H _ (by kernel_rfl) (by kernel_rfl)
   ·rw [if_neg (nt c9)] at G
    refine k_skip ?_
    refine k_srk mixed H (.v 2 (vI (-1)) <| .nil) [2] fun u8 a w' H => ?_
    refine k_ret ?_
    obtain rfl := sj G
    exact k_done0 H _ (by kernel_rfl) (by kernel_rfl)
theorem ode_exprLen.calls (k0 : Nat) (a0 : List TNode) (p_a0 : Option Addr) (c_a0 : Nat) (r : Int) (w : World) (hB : AllH [rdl anyF 4 p_a0 c_a0 a0 en_TNode] w) (G : ode_exprLen k0 a0 = some r) :
  Calls Tryz.prog 62 #[.slice p_a0 a0.length c_a0] w fun e w' => e = .returned (vI r) ∧ Below w.heap.size w w' := by
 obtain ⟨fr, hfr⟩ : ∃ fr : Nat → Prop, ∀ j, fr j := ⟨fun _ => True, fun _ => trivial⟩
 have hBf : ∀ j, w.heap.size ≤ j → fr j := fun j _ => hfr j
 refine k_enterF (args := [.slice p_a0 a0.length c_a0]) 27 [(27, rdl anyF 4 p_a0 c_a0 a0 en_TNode)] (by
  intro x hx
  simp only [List.mem_cons, List.not_mem_nil, or_false] at hx
  rcases hx with rfl
  exact rdF_fact (rdF_of hB.1) (fun _ _ => trivial) (by decide) _) Tryz.func62 rfl (by kernel_rfl) (by kernel_rfl) fun a H => ?_
 unfold ode_exprLen at G
 refine k_srk mixed H (.v 2 (vI 0) <| .nil) [0, 27] fun u1 a w' H => ?_
 refine k_srk mixed H (.v 3 (vI 1) <| .nil) [0, 3, 27] fun u2 a w' H => ?_
 refine k_seq ?_
 obtain ⟨j3, hj3, Gj3⟩ := bnd G
 refine k_join (fun a w' => ∃ j3v, j3 = Sum.inr j3v ∧ RL w 27 [(0, sS p_a0 a0.length c_a0), (27, rdl anyF 4 p_a0 c_a0 a0 en_TNode)] a w') ?_ ?_
 ·clear H; rintro a w' ⟨j3v, rfl, H⟩; have G := Gj3; clear Gj3; dsimp only at G
  refine k_srk mixed H (.v 24 (.slice p_a0 a0.length c_a0) <|
 .v 25 (vI (a0.length : Int)) <|
 .v 26 (vI (w_i64 ((a0.length : Int) + 1))) <|
 .v 2 (vI (w_i64 ((a0.length : Int) + 1))) <| .nil) [2] fun u4 a w' H => ?_
  refine k_ret ?_
  obtain rfl := sj G
  exact k_done0 H _ (by kernel_rfl) (by kernel_rfl)
 ·have G := hj3; clear hj3
  refine k_srk mixed H (.v 6 (.slice p_a0 a0.length c_a0) <|
 .v 7 (vI (a0.length : Int)) <|
 .v 8 (vI 0) <| .nil) [0, 3, 6, 7, 8, 27] fun u5 a w' H => ?_
  refine k_block ?_
  refine k_loopJ (fun m a w' => ∃ x6 : Int, ∃ x7 : Int, ode_exprLen.l8 k0 a0 m x6 x7 = some j3 ∧ RL w 27 [(0, sS p_a0 a0.length c_a0), (3, sI x6), (6, sS p_a0 a0.length c_a0), (7, (sI (a0.length : Int))), (8, sI x7), (27, rdl anyF 4 p_a0 c_a0 a0 en_TNode)] a w') k0 ⟨_, _, G, H.toM _⟩ ?_
  clear G H
  rintro (_ | k) a w' ⟨x6, x7, G, H⟩
  ·exact absurd G (by unfold ode_exprLen.l8; exact fun h => by cases h)
  ·unfold ode_exprLen.l8 at G
   refine k_srk mixed H (.v 9 (.bool (decide (x7 < (a0.length : Int)))) <| .nil) [0, 3, 6, 7, 8, 9, 27] fun u9 a w' H => ?_
   refine k_seq ?_
   refine k_cnd H (decide (x7 < (a0.length : Int))) (fun c19 => ?_) fun c19 => ?_
   ·rw [if_pos c19] at G
    refine k_skip ?_
    refine k_seq ?_
    refine k_block ?_
    refine k_seq ?_
    replace G := gd G; obtain ⟨b11, G⟩ := G
    obtain ⟨t12, ht12, G⟩ := bnd G
    refine k_rk mixed H (.v 10 (vI x7) <|
 .cons [11] (ok_v1 27 (rdl anyF 4 p_a0 c_a0 a0 en_TNode) (.pointer (some ⟨hdB p_a0, hdO p_a0 + x7.toNat * 4, none⟩)) 11 fun _ w h => ixr 59 .i64 x7 p_a0 a0.length c_a0 a0 en_TNode (rdF_of h).2 en_TNode_len rfl b11) <|
 .cons [12] (ok_v1 27 (rdl anyF 4 p_a0 c_a0 a0 en_TNode) (.agg #[vI t12.Op, vI t12.N, vI t12.C.Lo, vI t12.C.Hi]) 12 fun _ w h => ldr en_TNode (rdF_of h).2 en_TNode_len ht12 0 4 [vI t12.Op, vI t12.N, vI t12.C.Lo, vI t12.C.Hi]) <|
 .cons [5, 28] (ok_new (fun b => vP b 0) (fun u10 => [vI 0, vI 0, vI 0, vI 0]) 61 5 28) <|
 .v 4 (vI x7) <|
 .cons [28] (ok_as (u' := fun u10 => [(28, .blk ((u10 3).n 0) [vI t12.Op, vI t12.N, vI t12.C.Lo, vI t12.C.Hi] 61)]) (ok_store 28 0 (fun u10 => ((u10 3).n 0)) (fun u10 => [vI 0, vI 0, vI 0, vI 0]) (fun u10 => [vI t12.Op, vI t12.N, vI t12.C.Lo, vI t12.C.Hi]) 61) (fun _ => by kernel_rfl)) <| .nil) [0, 3, 4, 5, 6, 7, 8, 27, 28] fun u10 a w' H => ?_
    obtain ⟨t14, ht14, G⟩ := bnd G
    refine k_srk mixed H (.v 13 (vI x6) <|
 .v 14 (vP ((u10 3).n 0) 0) <|
 .cons [15] (ok_ldc (vI t12.Op) 15 28 0 1 ((u10 3).n 0) [vI t12.Op, vI t12.N, vI t12.C.Lo, vI t12.C.Hi] 61) <|
 .cons [16] (ok_callv 61 _ _ 16 [] (fun u13 w _ => ode_arity.calls t12.Op  t14 w  ht14)) <|
 .v 17 (vI (w_i64 (t14 - 1))) <|
 .v 18 (vI (w_i64 (x6 + (w_i64 (t14 - 1))))) <|
 .v 3 (vI (w_i64 (x6 + (w_i64 (t14 - 1))))) <| .nil) [0, 3, 4, 6, 7, 8, 27] fun u13 a w' H => ?_
    refine k_srk mixed H (.v 19 (vI (w_i64 (x6 + (w_i64 (t14 - 1))))) <|
 .v 20 (.bool ((w_i64 (x6 + (w_i64 (t14 - 1)))) == 0)) <| .nil) [0, 3, 4, 6, 7, 8, 20, 27] fun u15 a w' H => ?_
    refine k_cnd H ((w_i64 (x6 + (w_i64 (t14 - 1)))) == 0) (fun c18 => ?_) fun c18 => ?_
    ·rw [if_pos c18] at G
     refine k_srk mixed H (.v 21 (vI x7) <|
 .v 22 (vI (w_i64 (x7 + 1))) <|
 .v 2 (vI (w_i64 (x7 + 1))) <| .nil) [2] fun u16 a w' H => ?_
     refine k_ret ?_
     obtain rfl := sj G
     replace G := Gj3
     obtain rfl := sj G
     exact k_done0 H _ (by kernel_rfl) (by kernel_rfl)
    ·rw [if_neg (nt c18)] at G
     refine k_skip ?_
     refine k_rk mixed H (.v 23 (vI (w_i64 (x7 + 1))) <|
 .v 8 (vI (w_i64 (x7 + 1))) <| .nil) [0, 3, 6, 7, 8, 27] fun u17 a w' H => ?_
     exact ⟨k, Nat.lt_succ_self k, _, _, G, H.toM _⟩
   ·rw [if_neg (nt c19)] at G
    refine k_exit rfl ?_
    obtain rfl := sj G
    exact ⟨_, rfl, H.toM _⟩
theorem ode_Operands.calls (k0 : Nat) (a0 : List TNode) (p_a0 : Option Addr) (c_a0 : Nat) (r : List (List TNode)) (w : World) (hF : AllH [rdl anyF 4 p_a0 c_a0 a0 en_TNode] w) (G : ode_Operands k0 a0 = some r) :
  Calls Tryz.prog 36 #[.slice p_a0 a0.length c_a0] w fun e w' => ∃ g : Gh, e = .returned (slgd_S_TNode g 0 r) ∧ But (fpK []) w w' ∧ OutOK w.heap.size (fpK []) (frI w.heap.size [rdl anyF 4 p_a0 c_a0 a0 en_TNode]) [fun _ => owl 59 1 (g.o 0) (g.n 0) (dlgd_S_TNode g 0 r) enSl, fun fr => dnK fr E_S_TNode.toPart (dlgd_S_TNode g 0 r)] w' := by
 obtain ⟨fr, hfr, hBf⟩ := frs w [rdl anyF 4 p_a0 c_a0 a0 en_TNode]
 refine k_enterF (args := [.slice p_a0 a0.length c_a0]) 30 [(30, rdl fr 4 p_a0 c_a0 a0 en_TNode)] (by
  intro x hx
  simp only [List.mem_cons, List.not_mem_nil, or_false] at hx
  rcases hx with rfl
  exact rdF_fact (rdF_of hF.1) (fun j h => by rw [hfr]; exact .inr ⟨_, (.head _), h⟩) (by decide) _) Tryz.func36 rfl (by kernel_rfl) (by kernel_rfl) fun a H => ?_
 unfold ode_Operands at G
 refine k_srk mixed H (.v 2 (.slice none 0 0) <| .nil) [0, 30] fun u1 a w' H => ?_
 refine k_srk mixed H (.v 3 (.slice none 0 0) <| .nil) [0, 3, 30] fun u2 a w' H => ?_
 refine k_srk mixed H (.v 4 (vI 1) <| .nil) [0, 3, 4, 30] fun u3 a w' H => ?_
 refine k_seq ?_
 obtain ⟨j5, hj5, G⟩ := bnd G
 refine k_join (fun a w' => ∃ (p_j4 : Option Addr) (c_j4 np_j4 : Nat) (L_j4 : List (Sl TNode)), np_j4 = L_j4.length ∧ j5 = L_j4.map Sl.l ∧ RL w 30 [(3, sS p_j4 np_j4 c_j4), (900052, owK 59 1 p_j4 np_j4 c_j4 (L_j4.flatMap enSl)), (900053, dnK fr E_S_TNode.toPart L_j4)] a w') ?_ ?_
 ·clear H; rintro a w' ⟨p_j4, c_j4, _, L_j4, rfl, h_j4, H⟩
  refine k_srk mixed H (.v 29 (.slice p_j4 L_j4.length c_j4) <|
 .v 2 (.slice p_j4 L_j4.length c_j4) <| .nil) [2, 900052, 900053] fun u6 a w' H => ?_
  refine k_ret ?_
  obtain rfl := sj G
  obtain ⟨g, o0, n0, d0⟩ := gh_d gd_S_TNode p_j4 c_j4 h_j4
  refine k_doneZ H _ g _ _ _ fr [900052, 900053] [] (.slice p_j4 L_j4.length c_j4) [fun _ => owl 59 1 p_j4 c_j4 L_j4 enSl, fun fr => dnK fr E_S_TNode.toPart L_j4] (by simp only [slgd_S_TNode, dlgd_S_TNode, ns_en_TNodeg, ns_en_TNodel, ns_en_TNode, owl, o0, n0, d0]) (by simp only [slgd_S_TNode, dlgd_S_TNode, ns_en_TNodeg, ns_en_TNodel, ns_en_TNode, owl, o0, n0, d0]) hfr (.inl ⟨rfl, rfl⟩) (fams_cons fam_ow (fams_cons fam_dn fams_nil)) (by simp)
 ·clear G; replace G := hj5; clear hj5
  refine k_seq ?_
  replace G := gd G; obtain ⟨b8, G⟩ := G
  obtain ⟨t9, ht9, G⟩ := bnd G
  obtain ⟨t10, ht10, G⟩ := bnd G
  refine k_rk mixed H (.v 6 (.slice p_a0 a0.length c_a0) <|
 .cons [7] (ok_v1 30 (rdl fr 4 p_a0 c_a0 a0 en_TNode) (.pointer (some ⟨hdB p_a0, hdO p_a0 + ((0 : Int).toNat) * 4, none⟩)) 7 fun _ w h => ixr 59 .i64 (0 : Int) p_a0 a0.length c_a0 a0 en_TNode (rdF_of h).2 en_TNode_len rfl b8) <|
 .v 8 (.pointer (some ⟨hdB p_a0, hdO p_a0 + ((0 : Int).toNat) * 4 + 0, none⟩)) <|
 .cons [9] (ok_v1 30 (rdl fr 4 p_a0 c_a0 a0 en_TNode) (vI t9.Op) 9 fun _ w h => ldr en_TNode (rdF_of h).2 en_TNode_len ht9 0 1 [vI t9.Op]) <|
 .cons [10] (ok_callv 61 _ _ 10 [] (fun u7 w _ => ode_arity.calls t9.Op  t10 w  ht10)) <|
 .v 11 (vI 0) <| .nil) [0, 3, 4, 10, 11, 30] fun u7 a w' H => ?_
  refine k_block ?_
  replace H := H.nil_row 37 59 1
  replace H := H.add0 38 (dnK fr E_S_TNode.toPart ([] : List (Sl TNode))) (by intro _ _ h; cases h) (dn_holds rdl_nil (fun j h => by obtain ⟨_, hy, _⟩ := h; cases hy)) (fun j h => by obtain ⟨_, hy, _⟩ := h; cases hy)
  replace H := H.move (K := owK 59 1 none 0 0 (([] : List (Sl TNode)).flatMap enSl)) 37 900054 (by kernel_rfl) (by intro _ _ h; cases h)
  replace H := H.dup (K := dnK fr E_S_TNode.toPart ([] : List (Sl TNode))) 38 900055 (by kernel_rfl) (fun h => h) (by intro _ _ h; cases h)
  refine k_loopJ (fun m a w' => ∃ x11 : List (List TNode), ∃ x12 : Int, ∃ x13 : Int, ode_Operands.l14 k0 a0 t9 t10 m x11 x12 x13 = some j5 ∧ ∃ (p_x11 : Option Addr) (c_x11 np_x11 : Nat) (L_x11 : List (Sl TNode)), np_x11 = L_x11.length ∧ x11 = L_x11.map Sl.l ∧ RL w 30 [(0, sS p_a0 a0.length c_a0), (3, sS p_x11 np_x11 c_x11), (4, sI x12), (10, sI t10), (11, sI x13), (30, rdl fr 4 p_a0 c_a0 a0 en_TNode), (900054, owK 59 1 p_x11 np_x11 c_x11 (L_x11.flatMap enSl)), (900055, dnK fr E_S_TNode.toPart L_x11)] a w') k0 ⟨_, _, _, G, none, 0, 0, ([] : List (Sl TNode)), rfl, rfl, H.toM _⟩ ?_
  clear G H
  rintro (_ | k) a w' ⟨x11, x12, x13, G, p_x11, c_x11, _, L_x11, rfl, h_x11, H⟩
  ·exact absurd G (by unfold ode_Operands.l14; exact fun h => by cases h)
  ·unfold ode_Operands.l14 at G
   refine k_srk mixed H (.v 12 (.bool (decide (x13 < t10))) <| .nil) [0, 3, 4, 10, 11, 12, 30, 900054, 900055] fun u15 a w' H => ?_
   refine k_seq ?_
   refine k_cnd H (decide (x13 < t10)) (fun c24 => ?_) fun c24 => ?_
   ·rw [if_pos c24] at G
    refine k_skip ?_
    refine k_seq ?_
    refine k_block ?_
    refine k_seq ?_
    replace G := gd G; obtain ⟨b17, G⟩ := G
    obtain ⟨t18, ht18, G⟩ := bnd G
    refine k_rk mixed H (.v 13 (vI x12) <|
 .v 14 (.slice p_a0 a0.length c_a0) <|
 .v 15 (vI x12) <|
 .cons [16] (ok_valL [30] (fun u16 => [rdl fr 4 p_a0 c_a0 a0 en_TNode]) (fun u16 => .slice (viewP p_a0 x12.toNat 4 c_a0) ((a0.drop x12.toNat).length) (c_a0 - x12.toNat)) (fun u16 => true) [true, true] 16 (fun u16 w _ hF => run_of (by kernel_rfl) (run_low (t := 59) (sz := 4) (l := a0) (k := .i64) rfl b17))) <|
 .cons [17] (ok_callL [30] (fun u16 => [rdl fr 4 p_a0 c_a0 a0 en_TNode]) 62 _ _ 17 (fun u16 w hF => ode_exprLen.calls k0 (a0.drop x12.toNat) (viewP p_a0 x12.toNat 4 c_a0) (c_a0 - x12.toNat) t18 w  ⟨(rdA (RowC.low (en := en_TNode) (rdF_of hF.1) en_TNode_len b17)), trivial⟩ ht18)) <|
 .v 18 (vI (w_i64 (x12 + t18))) <|
 .v 5 (vI (w_i64 (x12 + t18))) <| .nil) [0, 3, 4, 5, 10, 11, 30, 900054, 900055] fun u16 a w' H => ?_
    refine k_seq ?_
    replace G := gd G; obtain ⟨b20, G⟩ := G
    replace G := gd G; obtain ⟨b21, G⟩ := G
    refine k_rk mixed H (.v 19 (.slice p_x11 L_x11.length c_x11) <|
 .v 20 (.slice p_a0 a0.length c_a0) <|
 .v 21 (vI x12) <|
 .v 22 (vI (w_i64 (x12 + t18))) <|
 .v 23 (vI (w_i64 (x12 + t18))) <|
 .cons [24] (ok_valL [30] (fun u19 => [rdl fr 4 p_a0 c_a0 a0 en_TNode]) (fun u19 => .slice (viewP p_a0 x12.toNat 4 ((w_i64 (x12 + t18)).toNat)) (((a0.take (w_i64 (x12 + t18)).toNat).drop x12.toNat).length) ((w_i64 (x12 + t18)).toNat - x12.toNat)) (fun u19 => true) [true, true, true, true] 24 (fun u19 w _ hF => run_of (by kernel_rfl) (run_lohim (t := 59) (sz := 4) (l := a0) (k := .i64) (k' := .i64) (k2 := .i64) rfl b20 (rdF_of hF.1).1))) <|
 .cons [25, 31] (ok_new (fun b => .slice (some ⟨b, 0, none⟩) 1 1) (fun u19 => [.slice (viewP p_a0 x12.toNat 4 ((w_i64 (x12 + t18)).toNat)) (((a0.take (w_i64 (x12 + t18)).toNat).drop x12.toNat).length) ((w_i64 (x12 + t18)).toNat - x12.toNat)]) 59 25 31) <|
 .cons [26, 900054, 900054, 32] (ok_ownF [6] [900055, 31, 30] (fun u19 => [dnK fr E_S_TNode.toPart L_x11, .blk ((u19 6).n 0) [.slice (viewP p_a0 x12.toNat 4 ((w_i64 (x12 + t18)).toNat)) (((a0.take (w_i64 (x12 + t18)).toNat).drop x12.toNat).length) ((w_i64 (x12 + t18)).toNat - x12.toNat)] 59, rdl fr 4 p_a0 c_a0 a0 en_TNode]) 900054 32 (fun u19 => owl 59 1 p_x11 c_x11 L_x11 enSl) (some 26) (fun u19 g => .slice (g.o 0) (L_x11 ++ [(⟨(viewP p_a0 x12.toNat 4 ((w_i64 (x12 + t18)).toNat)), ((w_i64 (x12 + t18)).toNat - x12.toNat), ((a0.take (w_i64 (x12 + t18)).toNat).drop x12.toNat)⟩ : Sl TNode)]).length (g.n 0)) (fun u19 g => owl 59 1 (g.o 0) (g.n 0) (L_x11 ++ [(⟨(viewP p_a0 x12.toNat 4 ((w_i64 (x12 + t18)).toNat)), ((w_i64 (x12 + t18)).toNat - x12.toNat), ((a0.take (w_i64 (x12 + t18)).toNat).drop x12.toNat)⟩ : Sl TNode)]) enSl) (fun u19 g => dnK fr E_S_TNode.toPart (L_x11 ++ [(⟨(viewP p_a0 x12.toNat 4 ((w_i64 (x12 + t18)).toNat)), ((w_i64 (x12 + t18)).toNat - x12.toNat), ((a0.take (w_i64 (x12 + t18)).toNat).drop x12.toNat)⟩ : Sl TNode)])) (fun u19 w hF hK => tv_appF (run_app_rowN (t := 41) (ty := 41) (en := enSl) enSl_len inf59 (ow_of hK) hF.2.1 (news := [(⟨(viewP p_a0 x12.toNat 4 ((w_i64 (x12 + t18)).toNat)), ((w_i64 (x12 + t18)).toNat - x12.toNat), ((a0.take (w_i64 (x12 + t18)).toNat).drop x12.toNat)⟩ : Sl TNode)]) rfl (by simp) (by kernel_rfl) (by rw [← map_len h_x11]; exact b21)) (dn_app hF.1 (.head _) ⟨(RowC.lohim (en := en_TNode) (rdF_of hF.2.2.1) en_TNode_len b20), fun _ _ => trivial⟩ (fun j h => (h.elim (fun h => ff_of (.tail _ (.tail _ (.head _))) (fun h => h) (fpRow_low (by simp only [List.length_drop, List.length_take]; omega) h) (rdF_fr hF.2.2.1 _ (fpRow_low (by simp only [List.length_drop, List.length_take]; omega) h))) (fun ⟨_, _, hz⟩ => hz.elim))))) (hloc := fun u u' h => ⟨by first | rfl | simp only [h 6 (by decide)], by first | rfl | simp only [h 6 (by decide)], by first | rfl | simp only [h 6 (by decide)], by first | rfl | simp only [h 6 (by decide)], by first | rfl | simp only [h 6 (by decide)]⟩)) <|
 .cons [3] (ok_val (fun u19 => .slice ((u19 7).o 0) ((L_x11 ++ [(⟨(viewP p_a0 x12.toNat 4 ((w_i64 (x12 + t18)).toNat)), ((w_i64 (x12 + t18)).toNat - x12.toNat), ((a0.take (w_i64 (x12 + t18)).toNat).drop x12.toNat)⟩ : Sl TNode)]).length) ((u19 7).n 0)) 3) <| .nil) [0, 3, 5, 10, 11, 30, 32, 900054] fun u19 a w' H => ?_
    refine k_rk mixed H (.v 27 (vI (w_i64 (x12 + t18))) <|
 .v 4 (vI (w_i64 (x12 + t18))) <| .nil) [0, 3, 4, 10, 11, 30, 32, 900054] fun u22 a w' H => ?_
    refine k_rk mixed H (.v 28 (vI (w_i64 (x13 + 1))) <|
 .v 11 (vI (w_i64 (x13 + 1))) <| .nil) [0, 3, 4, 10, 11, 30, 32, 900054] fun u23 a w' H => ?_
    replace H := H.dup (K := dnK fr E_S_TNode.toPart (L_x11 ++ [(⟨(viewP p_a0 x12.toNat 4 ((w_i64 (x12 + t18)).toNat)), ((w_i64 (x12 + t18)).toNat - x12.toNat), ((a0.take (w_i64 (x12 + t18)).toNat).drop x12.toNat)⟩ : Sl TNode)])) 32 900055 (by kernel_rfl) (fun h => h) (by intro _ _ h; cases h)
    exact ⟨k, Nat.lt_succ_self k, _, _, _, G, ((u19 7).o 0), ((u19 7).n 0), (L_x11 ++ [(⟨(viewP p_a0 x12.toNat 4 ((w_i64 (x12 + t18)).toNat)), ((w_i64 (x12 + t18)).toNat - x12.toNat), ((a0.take (w_i64 (x12 + t18)).toNat).drop x12.toNat)⟩ : Sl TNode)]).length, (L_x11 ++ [(⟨(viewP p_a0 x12.toNat 4 ((w_i64 (x12 + t18)).toNat)), ((w_i64 (x12 + t18)).toNat - x12.toNat), ((a0.take (w_i64 (x12 + t18)).toNat).drop x12.toNat)⟩ : Sl TNode)]), rfl, (map_app h_x11 (⟨(viewP p_a0 x12.toNat 4 ((w_i64 (x12 + t18)).toNat)), ((w_i64 (x12 + t18)).toNat - x12.toNat), ((a0.take (w_i64 (x12 + t18)).toNat).drop x12.toNat)⟩ : Sl TNode)), H.toM _⟩
   ·rw [if_neg (nt c24)] at G
    refine k_exit rfl ?_
    obtain rfl := sj G
    replace H := H.move (K := owl 59 1 p_x11 c_x11 L_x11 enSl) 900054 900052 (by kernel_rfl) (by intro _ _ h; cases h)
    replace H := H.dup (K := dnK fr E_S_TNode.toPart L_x11) 900055 900053 (by kernel_rfl) (fun h => h) (by intro _ _ h; cases h)
    exact ⟨p_x11, c_x11, L_x11.length, L_x11, rfl, h_x11, H.toM _⟩
theorem tape_builder_emit_m.calls (a0_0 : List TInstruction) (a0_1 : List (TInstruction × Int)) (a1 : TInstruction) (b_a0 : Nat) (p_a0_0 : Option Addr) (c_a0_0 : Nat) (b_a0_1 : Nat) (r : Int × List TInstruction × (List (TInstruction × Int))) (w : World) (hM : OwnH [owl 110 5 p_a0_0 c_a0_0 a0_0 en_TInstruction, mpK b_a0_1 ek_TInstruction .i64 a0_1, .blk b_a0 [.slice p_a0_0 a0_0.length c_a0_0, .map (some b_a0_1)] 107] ([] ++ []) w) (G : tape_builder_emit_m a0_0 a0_1 a1 = some r) :
  Calls Tryz.prog 37 #[vP b_a0 0, .agg #[vI a1.Op, vI a1.A, vI a1.B, vI a1.C.Lo, vI a1.C.Hi]] w fun e w' => ∃ g : Gh, e = .returned (vI r.1) ∧ But (fpK [owl 110 5 p_a0_0 c_a0_0 a0_0 en_TInstruction, mpK b_a0_1 ek_TInstruction .i64 a0_1, .blk b_a0 [.slice p_a0_0 a0_0.length c_a0_0, .map (some b_a0_1)] 107]) w w' ∧ OutOK w.heap.size (fpK [owl 110 5 p_a0_0 c_a0_0 a0_0 en_TInstruction, mpK b_a0_1 ek_TInstruction .i64 a0_1, .blk b_a0 [.slice p_a0_0 a0_0.length c_a0_0, .map (some b_a0_1)] 107]) (frI w.heap.size []) [fun _ => owl 110 5 (g.o 0) (g.n 0) r.2.1 en_TInstruction, fun _ => .blk b_a0 [.slice (g.o 0) r.2.1.length (g.n 0), .map (some b_a0_1)] 107, fun _ => mpK b_a0_1 ek_TInstruction .i64 r.2.2] w' := by
 obtain ⟨fr, hfr, hBf⟩ := frs w []
 refine k_enterY (args := [vP b_a0 0, .agg #[vI a1.Op, vI a1.A, vI a1.B, vI a1.C.Lo, vI a1.C.Hi]]) 43 [] [(44, owl 110 5 p_a0_0 c_a0_0 a0_0 en_TInstruction), (45, mpK b_a0_1 ek_TInstruction .i64 a0_1), (43, .blk b_a0 [.slice p_a0_0 a0_0.length c_a0_0, .map (some b_a0_1)] 107)] (ownH_fps hM (by rfl)) (fun x hx => by cases hx) (by rfl) Tryz.func37 rfl (by kernel_rfl) (by kernel_rfl) fun a H => ?_
 unfold tape_builder_emit_m at G
 refine k_srk mixed H (.cons [3, 46] (ok_new (fun b => vP b 0) (fun u1 => [vI a1.Op, vI a1.A, vI a1.B, vI a1.C.Lo, vI a1.C.Hi]) 110 3 46) <|
 .v 4 (vI 0) <| .nil) [0, 3, 43, 44, 45, 46, 999998] fun u1 a w' H => ?_
 refine k_seq ?_
 obtain ⟨z3, hz3, G⟩ := bnd G
 replace hz3 := Option.some.inj hz3
 refine k_srk mixed H (.v 9 (vP b_a0 0) <|
 .v 10 (vP b_a0 0) <|
 .v 11 (vP b_a0 1) <|
 .cons [12] (ok_ldc (.map (some b_a0_1)) 12 43 1 1 b_a0 [.slice p_a0_0 a0_0.length c_a0_0, .map (some b_a0_1)] 107) <|
 .cons [13] (ok_ldc (.agg #[vI a1.Op, vI a1.A, vI a1.B, vI a1.C.Lo, vI a1.C.Hi]) 13 46 0 5 ((u1 0).n 0) [vI a1.Op, vI a1.A, vI a1.B, vI a1.C.Lo, vI a1.C.Hi] 110) <|
 .cons [14] (ok_v1 45 (mpK b_a0_1 ek_TInstruction .i64 a0_1) (.tuple #[vI ((mget a0_1 (⟨a1.Op, a1.A, a1.B, (⟨a1.C.Lo, a1.C.Hi⟩ : TInterval)⟩ : TInstruction)).getD 0), .bool ((mget a0_1 (⟨a1.Op, a1.A, a1.B, (⟨a1.C.Lo, a1.C.Hi⟩ : TInterval)⟩ : TInstruction)).isSome)]) 14 fun _ w h => r_mlook (t := 105) (e := 3) (x := (⟨a1.Op, a1.A, a1.B, (⟨a1.C.Lo, a1.C.Hi⟩ : TInterval)⟩ : TInstruction)) kek_TInstruction (ob_of h)) <|
 .v 8 (.tuple #[vI ((mget a0_1 (⟨a1.Op, a1.A, a1.B, (⟨a1.C.Lo, a1.C.Hi⟩ : TInterval)⟩ : TInstruction)).getD 0), .bool ((mget a0_1 (⟨a1.Op, a1.A, a1.B, (⟨a1.C.Lo, a1.C.Hi⟩ : TInterval)⟩ : TInstruction)).isSome)]) <|
 .cons [15] (ok_as (u' := fun u2 => [(15, sI z3)]) (ok_val (fun u2 => vI ((mget a0_1 (⟨a1.Op, a1.A, a1.B, (⟨a1.C.Lo, a1.C.Hi⟩ : TInterval)⟩ : TInstruction)).getD 0)) 15) (fun _ => by rw [← hz3])) <|
 .v 16 (.bool ((mget a0_1 (⟨a1.Op, a1.A, a1.B, (⟨a1.C.Lo, a1.C.Hi⟩ : TInterval)⟩ : TInstruction)).isSome)) <|
 .v 5 (vI z3) <|
 .v 6 (.bool ((mget a0_1 (⟨a1.Op, a1.A, a1.B, (⟨a1.C.Lo, a1.C.Hi⟩ : TInterval)⟩ : TInstruction)).isSome)) <| .nil) [0, 3, 5, 6, 43, 44, 45, 46, 999998] fun u2 a w' H => ?_
 refine k_srk mixed H (.v 17 (.bool ((mget a0_1 (⟨a1.Op, a1.A, a1.B, (⟨a1.C.Lo, a1.C.Hi⟩ : TInterval)⟩ : TInstruction)).isSome)) <| .nil) [0, 3, 5, 17, 43, 44, 45, 46, 999998] fun u4 a w' H => ?_
 refine k_cnd H (mget a0_1 (⟨a1.Op, a1.A, a1.B, (⟨a1.C.Lo, a1.C.Hi⟩ : TInterval)⟩ : TInstruction)).isSome (fun c11 => ?_) fun c11 => ?_
 ·rw [if_pos c11] at G
  refine k_srk mixed H (.v 18 (vI z3) <|
 .v 4 (vI z3) <| .nil) [4, 43, 44, 45, 999998] fun u5 a w' H => ?_
  refine k_ret ?_
  obtain rfl := sj G
  obtain ⟨g, o0, n0⟩ := gh_r p_a0_0 c_a0_0
  refine k_doneZ H _ g _ _ _ fr [44, 43, 45] [] (vI z3) [fun _ => owl 110 5 p_a0_0 c_a0_0 a0_0 en_TInstruction, fun _ => .blk b_a0 [.slice p_a0_0 a0_0.length c_a0_0, .map (some b_a0_1)] 107, fun _ => mpK b_a0_1 ek_TInstruction .i64 a0_1] (by simp only [owl, o0, n0]) (by simp only [owl, o0, n0]) hfr (.inr (by kernel_rfl)) (fams_cons fam_ow (fams_cons fam_blk (fams_cons fam_ob fams_nil))) (by simp)
 ·rw [if_neg (nt c11)] at G
  refine k_skip ?_
  refine k_srk mixed H (.v 19 (vP b_a0 0) <|
 .v 20 (vP b_a0 0) <|
 .v 21 (vP b_a0 0) <|
 .cons [22] (ok_ldc (.slice p_a0_0 a0_0.length c_a0_0) 22 43 0 1 b_a0 [.slice p_a0_0 a0_0.length c_a0_0, .map (some b_a0_1)] 107) <|
 .v 23 (vI (a0_0.length : Int)) <|
 .v 7 (vI (a0_0.length : Int)) <| .nil) [0, 3, 7, 43, 44, 45, 46, 999998] fun u6 a w' H => ?_
  refine k_seq ?_
  replace G := gd G; obtain ⟨b8, G⟩ := G
  replace G := gd G; obtain ⟨b9, G⟩ := G
  refine k_rk mixed H (.v 24 (vP b_a0 0) <|
 .v 25 (vP b_a0 0) <|
 .v 26 (vP b_a0 0) <|
 .v 27 (vP b_a0 1) <|
 .cons [28] (ok_ldc (.map (some b_a0_1)) 28 43 1 1 b_a0 [.slice p_a0_0 a0_0.length c_a0_0, .map (some b_a0_1)] 107) <|
 .cons [29] (ok_ldc (.agg #[vI a1.Op, vI a1.A, vI a1.B, vI a1.C.Lo, vI a1.C.Hi]) 29 46 0 5 ((u1 0).n 0) [vI a1.Op, vI a1.A, vI a1.B, vI a1.C.Lo, vI a1.C.Hi] 110) <|
 .v 30 (vP b_a0 0) <|
 .v 31 (vP b_a0 0) <|
 .v 32 (vP b_a0 0) <|
 .cons [33] (ok_ldc (.slice p_a0_0 a0_0.length c_a0_0) 33 43 0 1 b_a0 [.slice p_a0_0 a0_0.length c_a0_0, .map (some b_a0_1)] 107) <|
 .cons [34] (ok_ldc (.agg #[vI a1.Op, vI a1.A, vI a1.B, vI a1.C.Lo, vI a1.C.Hi]) 34 46 0 5 ((u1 0).n 0) [vI a1.Op, vI a1.A, vI a1.B, vI a1.C.Lo, vI a1.C.Hi] 110) <|
 .cons [35, 47] (ok_new (fun b => .slice (some ⟨b, 0, none⟩) 1 1) (fun u7 => [vI a1.Op, vI a1.A, vI a1.B, vI a1.C.Lo, vI a1.C.Hi]) 110 35 47) <|
 .cons [36, 44, 44] (ok_own1 [11] [47] (fun u7 => [.blk ((u7 11).n 0) [vI a1.Op, vI a1.A, vI a1.B, vI a1.C.Lo, vI a1.C.Hi] 110]) 44 (fun u7 => owl 110 5 p_a0_0 c_a0_0 a0_0 en_TInstruction) (some 36) (fun u7 g => .slice (g.o 0) (a0_0 ++ [(⟨a1.Op, a1.A, a1.B, (⟨a1.C.Lo, a1.C.Hi⟩ : TInterval)⟩ : TInstruction)]).length (g.n 0)) (fun u7 g => owl 110 5 (g.o 0) (g.n 0) (a0_0 ++ [(⟨a1.Op, a1.A, a1.B, (⟨a1.C.Lo, a1.C.Hi⟩ : TInterval)⟩ : TInstruction)]) en_TInstruction) (fun u7 w hF hK => tv_app (run_app_rowN (t := 35) (ty := 35) (en := en_TInstruction) en_TInstruction_len inf110 (ow_of hK) hF.1 (news := [(⟨a1.Op, a1.A, a1.B, (⟨a1.C.Lo, a1.C.Hi⟩ : TInterval)⟩ : TInstruction)]) rfl (by simp) (by kernel_rfl) b8)) (hloc := fun u u' h => ⟨by first | rfl | simp only [h 11 (by decide)], by first | rfl | simp only [h 11 (by decide)], by first | rfl | simp only [h 11 (by decide)], by first | rfl | simp only [h 11 (by decide)]⟩)) <|
 .v 37 (vI (a0_0.length : Int)) <|
 .v 38 (vP b_a0 0) <|
 .v 39 (vP b_a0 0) <|
 .cons [43] (ok_as (u' := fun u7 => [(43, .blk b_a0 [.slice ((u7 12).o 0) ((a0_0 ++ [(⟨a1.Op, a1.A, a1.B, (⟨a1.C.Lo, a1.C.Hi⟩ : TInterval)⟩ : TInstruction)]).length) ((u7 12).n 0), .map (some b_a0_1)] 107)]) (ok_store 43 0 (fun u7 => b_a0) (fun u7 => [.slice p_a0_0 a0_0.length c_a0_0, .map (some b_a0_1)]) (fun u7 => [.slice ((u7 12).o 0) ((a0_0 ++ [(⟨a1.Op, a1.A, a1.B, (⟨a1.C.Lo, a1.C.Hi⟩ : TInterval)⟩ : TInstruction)]).length) ((u7 12).n 0)]) 107) (fun _ => by kernel_rfl)) <|
 .cons [40, 45, 45] (ok_own1 [] [] (fun u7 => []) 45 (fun u7 => mpK b_a0_1 ek_TInstruction .i64 a0_1) (some 40) (fun u7 g => .tuple #[vI 0, vI (a0_1.length : Int)]) (fun u7 g => mpK b_a0_1 ek_TInstruction .i64 (a0_1 ++ [((⟨a1.Op, a1.A, a1.B, (⟨a1.C.Lo, a1.C.Hi⟩ : TInterval)⟩ : TInstruction), 0)])) (fun u7 w hF hK => tv_ob hK (r_ment (t := 105) (e := 3) (x := (⟨a1.Op, a1.A, a1.B, (⟨a1.C.Lo, a1.C.Hi⟩ : TInterval)⟩ : TInstruction)) kek_TInstruction (ob_of hK) b9))) <|
 .v 41 (vI (a0_1.length : Int)) <|
 .cons [45, 45] (ok_own1 [] [] (fun u7 => []) 45 (fun u7 => mpK b_a0_1 ek_TInstruction .i64 (a0_1 ++ [((⟨a1.Op, a1.A, a1.B, (⟨a1.C.Lo, a1.C.Hi⟩ : TInterval)⟩ : TInstruction), 0)])) none (fun u7 g => .nilFunc) (fun u7 g => mpK b_a0_1 ek_TInstruction .i64 (a0_1 ++ [((⟨a1.Op, a1.A, a1.B, (⟨a1.C.Lo, a1.C.Hi⟩ : TInterval)⟩ : TInstruction), (a0_0.length : Int))])) (fun u7 w hF hK => tv_ob hK (r_mest (t := 105) (l := a0_1) (x := (⟨a1.Op, a1.A, a1.B, (⟨a1.C.Lo, a1.C.Hi⟩ : TInterval)⟩ : TInstruction)) (ob_of hK)))) <| .nil) [7, 43, 44, 45, 999998] fun u7 a w' H => ?_
  refine k_srk mixed H (.v 42 (vI (a0_0.length : Int)) <|
 .v 4 (vI (a0_0.length : Int)) <| .nil) [4, 43, 44, 45, 999998] fun u10 a w' H => ?_
  refine k_ret ?_
  obtain rfl := sj G
  obtain ⟨g, o0, n0⟩ := gh_r ((u7 12).o 0) ((u7 12).n 0)
  refine k_doneZ H _ g _ _ _ fr [44, 43, 45] [] (vI (a0_0.length : Int)) [fun _ => owl 110 5 ((u7 12).o 0) ((u7 12).n 0) (a0_0 ++ [(⟨a1.Op, a1.A, a1.B, (⟨a1.C.Lo, a1.C.Hi⟩ : TInterval)⟩ : TInstruction)]) en_TInstruction, fun _ => .blk b_a0 [.slice ((u7 12).o 0) ((a0_0 ++ [(⟨a1.Op, a1.A, a1.B, (⟨a1.C.Lo, a1.C.Hi⟩ : TInterval)⟩ : TInstruction)]).length) ((u7 12).n 0), .map (some b_a0_1)] 107, fun _ => mpK b_a0_1 ek_TInstruction .i64 (a0_1 ++ [((⟨a1.Op, a1.A, a1.B, (⟨a1.C.Lo, a1.C.Hi⟩ : TInterval)⟩ : TInstruction), (a0_0.length : Int))])] (by simp only [owl, o0, n0]) (by simp only [owl, o0, n0]) hfr (.inr (by kernel_rfl)) (fams_cons fam_ow (fams_cons fam_blk (fams_cons fam_ob fams_nil))) (by simp)
theorem tape_Compile_1_m.calls : ∀ (k0 : Nat) (a0 : List TNode) (q1_0_0 : List TInstruction) (q1_0_1 : List (TInstruction × Int)) (p_a0 : Option Addr) (c_a0 : Nat) (b_q0 : Nat) (b_q1 : Nat) (b_q1_0 : Nat) (p_q1_0_0 : Option Addr) (c_q1_0_0 : Nat) (b_q1_0_1 : Nat) (r : Int × List TInstruction × (List (TInstruction × Int))) (w : World) (hB : AllH [bxK b_q0 [.func (.func 35) #[] #[vP b_q0 0, vP b_q1 0]] 108, bxK b_q1 [vP b_q1_0 0] 104] w) (hF : AllH [rdl anyF 4 p_a0 c_a0 a0 en_TNode] w) (hM : OwnH [owl 110 5 p_q1_0_0 c_q1_0_0 q1_0_0 en_TInstruction, mpK b_q1_0_1 ek_TInstruction .i64 q1_0_1, .blk b_q1_0 [.slice p_q1_0_0 q1_0_0.length c_q1_0_0, .map (some b_q1_0_1)] 107] ([bxK b_q0 [.func (.func 35) #[] #[vP b_q0 0, vP b_q1 0]] 108, bxK b_q1 [vP b_q1_0 0] 104] ++ [rdl anyF 4 p_a0 c_a0 a0 en_TNode]) w) (G : tape_Compile_1_m k0 a0 q1_0_0 q1_0_1 = some r),
  Calls Tryz.prog 35 #[.slice p_a0 a0.length c_a0, vP b_q0 0, vP b_q1 0] w fun e w' => ∃ g : Gh, e = .returned (vI r.1) ∧ But (fpK [owl 110 5 p_q1_0_0 c_q1_0_0 q1_0_0 en_TInstruction, mpK b_q1_0_1 ek_TInstruction .i64 q1_0_1, .blk b_q1_0 [.slice p_q1_0_0 q1_0_0.length c_q1_0_0, .map (some b_q1_0_1)] 107]) w w' ∧ OutOK w.heap.size (fpK [owl 110 5 p_q1_0_0 c_q1_0_0 q1_0_0 en_TInstruction, mpK b_q1_0_1 ek_TInstruction .i64 q1_0_1, .blk b_q1_0 [.slice p_q1_0_0 q1_0_0.length c_q1_0_0, .map (some b_q1_0_1)] 107]) (frI w.heap.size [rdl anyF 4 p_a0 c_a0 a0 en_TNode]) [fun _ => owl 110 5 (g.o 0) (g.n 0) r.2.1 en_TInstruction, fun _ => .blk b_q1_0 [.slice (g.o 0) r.2.1.length (g.n 0), .map (some b_q1_0_1)] 107, fun _ => mpK b_q1_0_1 ek_TInstruction .i64 r.2.2] w' := by
 intro k0
 induction k0 with
 | zero => intros; rename_i G; exact absurd G (by unfold tape_Compile_1_m; exact fun h => by cases h)
 | succ k0 IH => ?_
 intro a0 q1_0_0 q1_0_1 p_a0 c_a0 b_q0 b_q1 b_q1_0 p_q1_0_0 c_q1_0_0 b_q1_0_1 r w hB hF hM G
 obtain ⟨fr, hfr, hBf⟩ := frs w [rdl anyF 4 p_a0 c_a0 a0 en_TNode]
 refine k_enterY (args := [.slice p_a0 a0.length c_a0, vP b_q0 0, vP b_q1 0]) 47 [(48, bxK b_q0 [.func (.func 35) #[] #[vP b_q0 0, vP b_q1 0]] 108), (49, bxK b_q1 [vP b_q1_0 0] 104), (47, rdl fr 4 p_a0 c_a0 a0 en_TNode)] [(51, owl 110 5 p_q1_0_0 c_q1_0_0 q1_0_0 en_TInstruction), (52, mpK b_q1_0_1 ek_TInstruction .i64 q1_0_1), (50, .blk b_q1_0 [.slice p_q1_0_0 q1_0_0.length c_q1_0_0, .map (some b_q1_0_1)] 107)] (ownH_fps hM (by rfl)) (by
  intro x hx
  simp only [List.mem_cons, List.not_mem_nil, or_false] at hx
  rcases hx with rfl | rfl | rfl
  ·exact bx_fact (hB.1 w (agree.refl _ _)) _
  ·exact bx_fact (hB.2.1 w (agree.refl _ _)) _
  ·exact rdF_fact (rdF_of hF.1) (fun j h => by rw [hfr]; exact .inr ⟨_, (.head _), h⟩) (by decide) _) (by rfl) Tryz.func35 rfl (by kernel_rfl) (by kernel_rfl) fun a H => ?_
 unfold tape_Compile_1_m at G
 generalize tape_Compile_1_m k0 = rec at G IH
 unfold tape_Compile_1_m.body at G
 refine k_srk mixed H (.v 4 (vI 0) <| .nil) [0, 1, 2, 47, 50, 51, 52, 48, 49, 999998] fun u1 a w' H => ?_
 refine k_seq ?_
 replace G := gd G; obtain ⟨b3, G⟩ := G
 obtain ⟨t4, ht4, G⟩ := bnd G
 have P5 := ptr_of (en := en_TNode) (l := a0) (rdF_of (H.at (K := rdl fr 4 p_a0 c_a0 a0 en_TNode) 47 (by kernel_rfl))).2 en_TNode_len
 replace G := gd G; obtain ⟨b6, G⟩ := G
 obtain ⟨t7, ht7, G⟩ := bnd G
 refine k_rk mixed H (.v 9 (.slice p_a0 a0.length c_a0) <|
 .cons [10] (ok_val (fun u2 => .pointer (some ⟨hdB p_a0, hdO p_a0 + ((0 : Int).toNat) * 4, none⟩)) 10 (hv := fun _ _ => ix_pure (t := 59) (k := .i64) (i := (0 : Int)) (p := p_a0) (n := a0.length) (cap := c_a0) (x := a0) P5 rfl b3 (by kernel_rfl))) <|
 .v 11 (.pointer (some ⟨hdB p_a0, hdO p_a0 + ((0 : Int).toNat) * 4 + 0, none⟩)) <|
 .cons [12] (ok_v1 47 (rdl fr 4 p_a0 c_a0 a0 en_TNode) (vI t4.Op) 12 fun _ w h => ldr en_TNode (rdF_of h).2 en_TNode_len ht4 0 1 [vI t4.Op]) <|
 .v 13 (.slice p_a0 a0.length c_a0) <|
 .cons [14] (ok_val (fun u2 => .pointer (some ⟨hdB p_a0, hdO p_a0 + ((0 : Int).toNat) * 4, none⟩)) 14 (hv := fun _ _ => ix_pure (t := 59) (k := .i64) (i := (0 : Int)) (p := p_a0) (n := a0.length) (cap := c_a0) (x := a0) P5 rfl b6 (by kernel_rfl))) <|
 .v 15 (.pointer (some ⟨hdB p_a0, hdO p_a0 + ((0 : Int).toNat) * 4 + 2, none⟩)) <|
 .cons [16] (ok_v1 47 (rdl fr 4 p_a0 c_a0 a0 en_TNode) (.agg #[vI t7.C.Lo, vI t7.C.Hi]) 16 fun _ w h => ldr en_TNode (rdF_of h).2 en_TNode_len ht7 2 2 [vI t7.C.Lo, vI t7.C.Hi]) <|
 .v 17 (.agg #[vI t4.Op, vI 0, vI 0, vI t7.C.Lo, vI t7.C.Hi]) <|
 .cons [5, 53] (ok_new (fun b => vP b 0) (fun u2 => [vI 0, vI 0, vI 0, vI 0, vI 0]) 110 5 53) <|
 .cons [53] (ok_as (u' := fun u2 => [(53, .blk ((u2 9).n 0) [vI t4.Op, vI 0, vI 0, vI t7.C.Lo, vI t7.C.Hi] 110)]) (ok_store 53 0 (fun u2 => ((u2 9).n 0)) (fun u2 => [vI 0, vI 0, vI 0, vI 0, vI 0]) (fun u2 => [vI t4.Op, vI 0, vI 0, vI t7.C.Lo, vI t7.C.Hi]) 110) (fun _ => by kernel_rfl)) <| .nil) [0, 1, 2, 5, 47, 50, 51, 52, 53, 48, 49, 999998] fun u2 a w' H => ?_
 refine k_seq ?_
 obtain ⟨j9, hj9, G⟩ := bnd G
 refine k_join (fun a w' => Rep 0 w 47 (ofL [(0, sS p_a0 a0.length c_a0), (1, sP b_q0 0), (2, sP b_q1 0), (5, (sP ((u2 9).n 0) 0)), (47, rdl fr 4 p_a0 c_a0 a0 en_TNode), (50, .blk b_q1_0 [.slice p_q1_0_0 q1_0_0.length c_q1_0_0, .map (some b_q1_0_1)] 107), (51, owl 110 5 p_q1_0_0 c_q1_0_0 q1_0_0 en_TInstruction), (52, mpK b_q1_0_1 ek_TInstruction .i64 q1_0_1), (53, .blk ((u2 9).n 0) [vI t4.Op, vI j9, vI 0, vI t7.C.Lo, vI t7.C.Hi] 110), (48, bxK b_q0 [.func (.func 35) #[] #[vP b_q0 0, vP b_q1 0]] 108), (49, bxK b_q1 [vP b_q1_0 0] 104), (999998, frM [owl 110 5 p_q1_0_0 c_q1_0_0 q1_0_0 en_TInstruction, mpK b_q1_0_1 ek_TInstruction .i64 q1_0_1, .blk b_q1_0 [.slice p_q1_0_0 q1_0_0.length c_q1_0_0, .map (some b_q1_0_1)] 107] w)]) a w') ?_ ?_
 ·clear H; intro a w' H
  refine k_seq ?_
  obtain ⟨j14, hj14, G⟩ := bnd G
  refine k_join (fun a w' => ∃ (p_j10 : Option Addr) (c_j10 np_j10 : Nat), np_j10 = j14.1.length ∧ Rep 0 w 47 (ofL [(2, sP b_q1 0), (5, (sP ((u2 9).n 0) 0)), (50, .blk b_q1_0 [.slice p_j10 np_j10 c_j10, .map (some b_q1_0_1)] 107), (52, mpK b_q1_0_1 ek_TInstruction .i64 j14.2.2.2), (53, .blk ((u2 9).n 0) [vI t4.Op, vI j14.2.1, vI j14.2.2.1, vI t7.C.Lo, vI t7.C.Hi] 110), (900057, owK 110 5 p_j10 np_j10 c_j10 (j14.1.flatMap en_TInstruction)), (48, bxK b_q0 [.func (.func 35) #[] #[vP b_q0 0, vP b_q1 0]] 108), (49, bxK b_q1 [vP b_q1_0 0] 104), (999998, frM [owl 110 5 p_q1_0_0 c_q1_0_0 q1_0_0 en_TInstruction, mpK b_q1_0_1 ek_TInstruction .i64 q1_0_1, .blk b_q1_0 [.slice p_q1_0_0 q1_0_0.length c_q1_0_0, .map (some b_q1_0_1)] 107] w)]) a w') ?_ ?_
  ·clear H; rintro a w' ⟨p_j10, c_j10, _, rfl, H⟩
   obtain ⟨t16, ht16, G⟩ := bnd G
   refine k_srk mixed H (.cons [44] (ok_ldK (fun u15 => vP b_q1_0 0) 44 49 (bxK b_q1 [vP b_q1_0 0] 104) b_q1 0 1 [vP b_q1_0 0] (fun w h => bx_of h)) <|
 .cons [45] (ok_ldc (.agg #[vI t4.Op, vI j14.2.1, vI j14.2.2.1, vI t7.C.Lo, vI t7.C.Hi]) 45 53 0 5 ((u2 9).n 0) [vI t4.Op, vI j14.2.1, vI j14.2.2.1, vI t7.C.Lo, vI t7.C.Hi] 110) <|
 .cons [46, 900057, 52, 50, 54, 50, 52] (ok_callY false fr [] [] (fun u15 => []) [900057, 52, 50] (fun u15 => [owl 110 5 p_j10 c_j10 j14.1 en_TInstruction, mpK b_q1_0_1 ek_TInstruction .i64 j14.2.2.2, .blk b_q1_0 [.slice p_j10 j14.1.length c_j10, .map (some b_q1_0_1)] 107]) 37 _ (fun u15 => []) _ _ _ [54, 50, 52] 46 (fun u15 w hB hF hM => tape_builder_emit_m.calls j14.1 j14.2.2.2 (⟨t4.Op, j14.2.1, j14.2.2.1, (⟨t7.C.Lo, t7.C.Hi⟩ : TInterval)⟩ : TInstruction) b_q1_0 p_j10 c_j10 b_q1_0_1 t16 w  hM ht16) (fun u15 w hF => ⟨trivial, trivial⟩) (fun u15 g => (fams_cons fam_ow (fams_cons fam_blk (fams_cons fam_ob fams_nil)))) (.inr (fun u15 g => (famx_cons trivial (famx_cons trivial (famx_cons trivial (fun K h => by cases h)))))) (fun h => by cases h)) <|
 .v 4 (vI t16.1) <| .nil) [4, 50, 52, 54, 48, 49, 999998] fun u15 a w' H => ?_
   refine k_ret ?_
   obtain rfl := sj G
   obtain ⟨g, o0, n0⟩ := gh_r ((u15 2).o 0) ((u15 2).n 0)
   refine k_doneZ H _ g _ _ _ fr [54, 50, 52] [] (vI t16.1) [fun _ => owl 110 5 ((u15 2).o 0) ((u15 2).n 0) t16.2.1 en_TInstruction, fun _ => .blk b_q1_0 [.slice ((u15 2).o 0) t16.2.1.length ((u15 2).n 0), .map (some b_q1_0_1)] 107, fun _ => mpK b_q1_0_1 ek_TInstruction .i64 t16.2.2] (by simp only [owl, o0, n0]) (by simp only [owl, o0, n0]) hfr (.inr (by kernel_rfl)) (fams_cons fam_ow (fams_cons fam_blk (fams_cons fam_ob fams_nil))) (by simp)
  ·clear G; replace G := hj14; clear hj14
   obtain ⟨t18, ht18, G⟩ := bnd G
   refine k_srk mixed H (.v 26 (.slice p_a0 a0.length c_a0) <|
 .cons [27, 55, 56] (ok_callY true fr [] [47] (fun u17 => [rdl fr 4 p_a0 c_a0 a0 en_TNode]) [] (fun u17 => []) 36 _ (fun u17 => []) _ _ _ [55, 56] 27 (fun u17 w hB hF hM => ode_Operands.calls k0 a0 p_a0 c_a0 t18 w  hF ht18) (fun u17 w hF => ⟨trivial, ⟨sub_rd1 (rdF_of hF.1) (fun j h => ff_of (.head _) (fun h => h) h (rdF_fr hF.1 _ h)), trivial⟩⟩) (fun u17 g => (fams_cons fam_ow (fams_cons fam_dn fams_nil))) (.inl rfl) (fun _ => hBf)) <|
 .cons [28] (ok_valL [55] (fun u17 => [owl 59 1 ((u17 1).o 0) ((u17 1).n 0) (dlgd_S_TNode (u17 1) 0 t18) enSl]) (fun u17 => vI (t18.length : Int)) (fun u17 => true) [true] 28 (fun u17 w hg hF => run_lenN (((owns_rowC (ow_of hF.1)).2.len enSl_len (by decide)).trans (map_len (dl_er ergd_S_TNode (u17 1) 0 t18)).symm) (by kernel_rfl))) <|
 .v 29 (vI 0) <| .nil) [1, 2, 5, 27, 28, 29, 50, 51, 52, 53, 55, 56, 48, 49, 999998] fun u17 a w' H => ?_
   refine k_block ?_
   replace H := H.move (K := owl 110 5 p_q1_0_0 c_q1_0_0 q1_0_0 en_TInstruction) 51 900058 (by kernel_rfl) (by intro _ _ h; cases h)
   refine k_loopJ (fun m a w' => ∃ x19 : List TInstruction, ∃ x20 : Int, ∃ x21 : Int, ∃ x22 : List (TInstruction × Int), ∃ x23 : Int, tape_Compile_1_m.l24 k0 rec a0 q1_0_0 q1_0_1 t4 t7 j9 t18 m x19 x20 x21 x22 x23 = some j14 ∧ ∃ (p_x19 : Option Addr) (c_x19 np_x19 : Nat), np_x19 = x19.length ∧ Rep 0 w 47 (ofL [(1, sP b_q0 0), (2, sP b_q1 0), (5, (sP ((u2 9).n 0) 0)), (27, (sS ((u17 1).o 0) ((dlgd_S_TNode (u17 1) 0 t18).length) ((u17 1).n 0))), (28, (sI (t18.length : Int))), (29, sI x23), (50, .blk b_q1_0 [.slice p_x19 np_x19 c_x19, .map (some b_q1_0_1)] 107), (52, mpK b_q1_0_1 ek_TInstruction .i64 x22), (53, .blk ((u2 9).n 0) [vI t4.Op, vI x20, vI x21, vI t7.C.Lo, vI t7.C.Hi] 110), (55, owl 59 1 ((u17 1).o 0) ((u17 1).n 0) (dlgd_S_TNode (u17 1) 0 t18) enSl), (56, dnK fr E_S_TNode.toPart (dlgd_S_TNode (u17 1) 0 t18)), (900058, owK 110 5 p_x19 np_x19 c_x19 (x19.flatMap en_TInstruction)), (48, bxK b_q0 [.func (.func 35) #[] #[vP b_q0 0, vP b_q1 0]] 108), (49, bxK b_q1 [vP b_q1_0 0] 104), (999998, frM [owl 110 5 p_q1_0_0 c_q1_0_0 q1_0_0 en_TInstruction, mpK b_q1_0_1 ek_TInstruction .i64 q1_0_1, .blk b_q1_0 [.slice p_q1_0_0 q1_0_0.length c_q1_0_0, .map (some b_q1_0_1)] 107] w)]) a w') k0 ⟨_, _, _, _, _, G, p_q1_0_0, c_q1_0_0, q1_0_0.length, rfl, H.toM _⟩ ?_
   clear G H
   rintro (_ | k) a w' ⟨x19, x20, x21, x22, x23, G, p_x19, c_x19, _, rfl, H⟩
   ·exact absurd G (by unfold tape_Compile_1_m.l24; exact fun h => by cases h)
   ·unfold tape_Compile_1_m.l24 at G
    refine k_srk mixed H (.v 30 (.bool (decide (x23 < (t18.length : Int)))) <| .nil) [1, 2, 5, 27, 28, 29, 30, 50, 52, 53, 55, 56, 900058, 48, 49, 999998] fun u25 a w' H => ?_
    refine k_seq ?_
    refine k_cnd H (decide (x23 < (t18.length : Int))) (fun c41 => ?_) fun c41 => ?_
    ·rw [if_pos c41] at G
     refine k_skip ?_
     refine k_seq ?_
     obtain ⟨j30, hj30, G⟩ := bnd G
     refine k_join (fun a w' => ∃ (p_j26 : Option Addr) (c_j26 np_j26 : Nat), np_j26 = j30.1.length ∧ Rep 0 w 47 (ofL [(1, sP b_q0 0), (2, sP b_q1 0), (5, (sP ((u2 9).n 0) 0)), (27, (sS ((u17 1).o 0) ((dlgd_S_TNode (u17 1) 0 t18).length) ((u17 1).n 0))), (28, (sI (t18.length : Int))), (29, sI x23), (50, .blk b_q1_0 [.slice p_j26 np_j26 c_j26, .map (some b_q1_0_1)] 107), (52, mpK b_q1_0_1 ek_TInstruction .i64 j30.2.2.2), (53, .blk ((u2 9).n 0) [vI t4.Op, vI j30.2.1, vI j30.2.2.1, vI t7.C.Lo, vI t7.C.Hi] 110), (55, owl 59 1 ((u17 1).o 0) ((u17 1).n 0) (dlgd_S_TNode (u17 1) 0 t18) enSl), (56, dnK fr E_S_TNode.toPart (dlgd_S_TNode (u17 1) 0 t18)), (900059, owK 110 5 p_j26 np_j26 c_j26 (j30.1.flatMap en_TInstruction)), (48, bxK b_q0 [.func (.func 35) #[] #[vP b_q0 0, vP b_q1 0]] 108), (49, bxK b_q1 [vP b_q1_0 0] 104), (999998, frM [owl 110 5 p_q1_0_0 c_q1_0_0 q1_0_0 en_TInstruction, mpK b_q1_0_1 ek_TInstruction .i64 q1_0_1, .blk b_q1_0 [.slice p_q1_0_0 q1_0_0.length c_q1_0_0, .map (some b_q1_0_1)] 107] w)]) a w') ?_ ?_
     ·clear H; rintro a w' ⟨p_j26, c_j26, _, rfl, H⟩
      refine k_rk mixed H (.v 43 (vI (w_i64 (x23 + 1))) <|
 .v 29 (vI (w_i64 (x23 + 1))) <| .nil) [1, 2, 5, 27, 28, 29, 50, 52, 53, 55, 56, 900059, 48, 49, 999998] fun u31 a w' H => ?_
      replace H := H.move (K := owl 110 5 p_j26 c_j26 j30.1 en_TInstruction) 900059 900058 (by kernel_rfl) (by intro _ _ h; cases h)
      exact ⟨k, Nat.lt_succ_self k, _, _, _, _, _, G, p_j26, c_j26, j30.1.length, rfl, H.toM _⟩
     ·clear G; replace G := hj30; clear hj30
      refine k_block ?_
      refine k_seq ?_
      replace G := gd G; obtain ⟨b33, G⟩ := G
      obtain ⟨t34, ht34, G⟩ := bnd G
      obtain ⟨p_t34, c_t34, y_t34⟩ := sl_get (dl_er ergd_S_TNode (u17 1) 0 t18) ht34
      refine k_rk mixed H (.v 31 (vI x23) <|
 .cons [32] (ok_v1 55 (owl 59 1 ((u17 1).o 0) ((u17 1).n 0) (dlgd_S_TNode (u17 1) 0 t18) enSl) (.pointer (some ⟨hdB ((u17 1).o 0), hdO ((u17 1).o 0) + x23.toNat * 1, none⟩)) 32 fun _ w h => ix_row (t := 41) (k := .i64) (i := x23) (p := ((u17 1).o 0)) (n := (dlgd_S_TNode (u17 1) 0 t18).length) (cap := ((u17 1).n 0)) (x := t18) (en := enSl) (owns_rowC (ow_of h)).2 enSl_len (map_len (dl_er ergd_S_TNode (u17 1) 0 t18)) b33 (by kernel_rfl)) <|
 .cons [33] (ok_v1 55 (owl 59 1 ((u17 1).o 0) ((u17 1).n 0) (dlgd_S_TNode (u17 1) 0 t18) enSl) (.slice p_t34 t34.length c_t34) 33 fun _ w h => ldr enSl (owns_rowC (ow_of h)).2 enSl_len y_t34 0 1 [.slice p_t34 t34.length c_t34]) <|
 .v 6 (vI x23) <|
 .v 7 (.slice p_t34 t34.length c_t34) <| .nil) [1, 2, 5, 6, 7, 27, 28, 29, 50, 52, 53, 55, 56, 900058, 48, 49, 999998] fun u32 a w' H => ?_
      obtain ⟨t36, ht36, G⟩ := bnd G
      refine k_srk mixed H (.cons [34] (ok_ldK (fun u35 => .func (.func 35) #[] #[vP b_q0 0, vP b_q1 0]) 34 48 (bxK b_q0 [.func (.func 35) #[] #[vP b_q0 0, vP b_q1 0]] 108) b_q0 0 1 [.func (.func 35) #[] #[vP b_q0 0, vP b_q1 0]] (fun w h => bx_of h)) <|
 .v 35 (.slice p_t34 t34.length c_t34) <|
 .cons [36, 900058, 52, 50, 58, 50, 52] (ok_callY false fr [] [56, 48, 49] (fun u35 => [dnK fr E_S_TNode.toPart (dlgd_S_TNode (u17 1) 0 t18), bxK b_q0 [.func (.func 35) #[] #[vP b_q0 0, vP b_q1 0]] 108, bxK b_q1 [vP b_q1_0 0] 104]) [900058, 52, 50] (fun u35 => [owl 110 5 p_x19 c_x19 x19 en_TInstruction, mpK b_q1_0_1 ek_TInstruction .i64 x22, .blk b_q1_0 [.slice p_x19 x19.length c_x19, .map (some b_q1_0_1)] 107]) 35 _ _ _ _ _ [58, 50, 52] 36 (fun u35 w hB hF hM => IH t34 x19 x22 p_t34 c_t34 b_q0 b_q1 b_q1_0 p_x19 c_x19 b_q1_0_1 t36 w  hB hF hM ht36) (fun u35 w hF => ⟨⟨sub_bx (hF.2.1 w (agree.refl _ _)) (.tail _ (.head _)) rfl, sub_bx (hF.2.2.1 w (agree.refl _ _)) (.tail _ (.tail _ (.head _))) rfl, trivial⟩, ⟨sub_rd0 (show RowC _ 4 p_t34 t34.length c_t34 (t34.flatMap en_TNode) from ((dn_of hF.1) _ (List.mem_of_getElem? y_t34)).1) (fun j h => ⟨_, (.head _), ⟨_, (List.mem_of_getElem? y_t34), (.inl h)⟩⟩), trivial⟩⟩) (fun u35 g => (fams_cons fam_ow (fams_cons fam_blk (fams_cons fam_ob fams_nil)))) (.inr (fun u35 g => (famx_cons trivial (famx_cons trivial (famx_cons trivial (fun K h => by cases h)))))) (fun h => by cases h)) <|
 .v 8 (vI t36.1) <| .nil) [1, 2, 5, 6, 8, 27, 28, 29, 50, 52, 53, 55, 56, 58, 48, 49, 999998] fun u35 a w' H => ?_
      refine k_srk mixed H (.v 37 (vI x23) <|
 .v 38 (.bool (x23 == 0)) <| .nil) [1, 2, 5, 8, 27, 28, 29, 38, 50, 52, 53, 55, 56, 58, 48, 49, 999998] fun u37 a w' H => ?_
      refine k_cnd H (x23 == 0) (fun c40 => ?_) fun c40 => ?_
      ·rw [if_pos c40] at G
       refine k_rk mixed H (.v 39 (vI t36.1) <|
 .v 40 (vP ((u2 9).n 0) 1) <|
 .cons [53] (ok_stc 53 1 ((u2 9).n 0) [vI t4.Op, vI x20, vI x21, vI t7.C.Lo, vI t7.C.Hi] [vI t36.1] 110 [vI t4.Op, vI t36.1, vI x21, vI t7.C.Lo, vI t7.C.Hi]) <| .nil) [1, 2, 5, 27, 28, 29, 50, 52, 53, 55, 56, 58, 48, 49, 999998] fun u38 a w' H => ?_
       obtain rfl := sj G
       replace H := H.move (K := owl 110 5 ((u35 2).o 0) ((u35 2).n 0) t36.2.1 en_TInstruction) 58 900059 (by kernel_rfl) (by intro _ _ h; cases h)
       exact ⟨((u35 2).o 0), ((u35 2).n 0), t36.2.1.length, rfl, H.toM _⟩
      ·rw [if_neg (nt c40)] at G
       refine k_rk mixed H (.v 41 (vI t36.1) <|
 .v 42 (vP ((u2 9).n 0) 2) <|
 .cons [53] (ok_stc 53 2 ((u2 9).n 0) [vI t4.Op, vI x20, vI x21, vI t7.C.Lo, vI t7.C.Hi] [vI t36.1] 110 [vI t4.Op, vI x20, vI t36.1, vI t7.C.Lo, vI t7.C.Hi]) <| .nil) [1, 2, 5, 27, 28, 29, 50, 52, 53, 55, 56, 58, 48, 49, 999998] fun u39 a w' H => ?_
       obtain rfl := sj G
       replace H := H.move (K := owl 110 5 ((u35 2).o 0) ((u35 2).n 0) t36.2.1 en_TInstruction) 58 900059 (by kernel_rfl) (by intro _ _ h; cases h)
       exact ⟨((u35 2).o 0), ((u35 2).n 0), t36.2.1.length, rfl, H.toM _⟩
    ·rw [if_neg (nt c41)] at G
     refine k_exit rfl ?_
     obtain rfl := sj G
     replace H := H.move (K := owl 110 5 p_x19 c_x19 x19 en_TInstruction) 900058 900057 (by kernel_rfl) (by intro _ _ h; cases h)
     exact ⟨p_x19, c_x19, x19.length, rfl, H.toM _⟩
 ·clear G; replace G := hj9; clear hj9
  refine k_srk mixed H (.v 18 (vP ((u2 9).n 0) 0) <|
 .cons [19] (ok_ldc (vI t4.Op) 19 53 0 1 ((u2 9).n 0) [vI t4.Op, vI 0, vI 0, vI t7.C.Lo, vI t7.C.Hi] 110) <|
 .v 20 (.bool (t4.Op == 2)) <| .nil) [0, 1, 2, 5, 20, 47, 50, 51, 52, 53, 48, 49, 999998] fun u42 a w' H => ?_
  refine k_cnd H (t4.Op == 2) (fun c46 => ?_) fun c46 => ?_
  ·rw [if_pos c46] at G
   replace G := gd G; obtain ⟨b44, G⟩ := G
   obtain ⟨t45, ht45, G⟩ := bnd G
   refine k_rk mixed H (.v 21 (.slice p_a0 a0.length c_a0) <|
 .cons [22] (ok_v1 47 (rdl fr 4 p_a0 c_a0 a0 en_TNode) (.pointer (some ⟨hdB p_a0, hdO p_a0 + ((0 : Int).toNat) * 4, none⟩)) 22 fun _ w h => ixr 59 .i64 (0 : Int) p_a0 a0.length c_a0 a0 en_TNode (rdF_of h).2 en_TNode_len rfl b44) <|
 .v 23 (.pointer (some ⟨hdB p_a0, hdO p_a0 + ((0 : Int).toNat) * 4 + 1, none⟩)) <|
 .cons [24] (ok_v1 47 (rdl fr 4 p_a0 c_a0 a0 en_TNode) (vI t45.N) 24 fun _ w h => ldr en_TNode (rdF_of h).2 en_TNode_len ht45 1 1 [vI t45.N]) <|
 .v 25 (vP ((u2 9).n 0) 1) <|
 .cons [53] (ok_stc 53 1 ((u2 9).n 0) [vI t4.Op, vI 0, vI 0, vI t7.C.Lo, vI t7.C.Hi] [vI t45.N] 110 [vI t4.Op, vI t45.N, vI 0, vI t7.C.Lo, vI t7.C.Hi]) <| .nil) [0, 1, 2, 5, 47, 50, 51, 52, 53, 48, 49, 999998] fun u43 a w' H => ?_
   obtain rfl := sj G
   exact H.toM _
  ·rw [if_neg (nt c46)] at G
   refine k_skip ?_
   obtain rfl := sj G
   exact H.toM _
theorem tape_Compile.calls (k0 : Nat) (a0 : TSystem) (p_a0_Names : Option Addr) (c_a0_Names : Nat) (p_a0_F : Option Addr) (c_a0_F : Nat) (L_a0_F : List (Sl TNode)) (r : TTape) (w : World) (h_a0_F : a0.F = L_a0_F.map Sl.l) (hB : AllH [rdl anyF 1 p_a0_Names c_a0_Names a0.Names en_str, rdl anyF 1 p_a0_F c_a0_F L_a0_F enSl, dnK anyF E_S_TNode.toPart L_a0_F] w) (G : tape_Compile k0 a0 = some r) :
  Calls Tryz.prog 12 #[.agg #[.slice p_a0_Names a0.Names.length c_a0_Names, .slice p_a0_F L_a0_F.length c_a0_F]] w fun e w' => ∃ g : Gh, e = .returned (.agg #[vI r.N, .slice (g.o 0) r.L.length (g.n 0), .slice (g.o 1) r.Out.length (g.n 1)]) ∧ But (fpK []) w w' ∧ OutOK w.heap.size (fpK []) (frI w.heap.size []) [fun _ => owl 110 5 (g.o 0) (g.n 0) r.L en_TInstruction, fun _ => owl 3 1 (g.o 1) (g.n 1) r.Out en_i64] w' := by
 obtain ⟨fr, hfr, hBf⟩ := frs w []
 refine k_enterF (args := [.agg #[.slice p_a0_Names a0.Names.length c_a0_Names, .slice p_a0_F L_a0_F.length c_a0_F]]) 45 [(45, rdl anyF 1 p_a0_Names c_a0_Names a0.Names en_str), (46, rdl anyF 1 p_a0_F c_a0_F L_a0_F enSl), (47, dnK anyF E_S_TNode.toPart L_a0_F)] (by
  intro x hx
  simp only [List.mem_cons, List.not_mem_nil, or_false] at hx
  rcases hx with rfl | rfl | rfl
  ·exact rdF_fact (rdF_of hB.1) (fun _ _ => trivial) (by decide) _
  ·exact rdF_fact (rdF_of hB.2.1) (fun _ _ => trivial) (by decide) _
  ·exact dn_fact (dn_of hB.2.2.1) (fun _ _ => trivial) _) Tryz.func12 rfl (by kernel_rfl) (by kernel_rfl) fun a H => ?_
 unfold tape_Compile at G
 refine k_srk mixed H (.cons [1, 48] (ok_new (fun b => vP b 0) (fun u1 => [.slice p_a0_Names a0.Names.length c_a0_Names, .slice p_a0_F L_a0_F.length c_a0_F]) 43 1 48) <|
 .cons [2, 49] (ok_new (fun b => vP b 0) (fun u1 => [vI 0, .slice none 0 0, .slice none 0 0]) 38 2 49) <| .nil) [1, 2, 45, 46, 47, 48, 49] fun u1 a w' H => ?_
 refine k_srk mixed H (.cons [8, 50] (ok_mkmap 8 50) <|
 .cons [9] (ok_val (fun u2 => .agg #[.slice none 0 0, .map (some ((u2 0).n 0))]) 9) <|
 .cons [10, 51] (ok_new (fun b => vP b 0) (fun u2 => [.slice none 0 0, .map (some ((u2 0).n 0))]) 107 10 51) <|
 .cons [3, 52] (ok_new (fun b => vP b 0) (fun u2 => [.pointer none]) 104 3 52) <|
 .cons [52] (ok_as (u' := fun u2 => [(52, .blk ((u2 3).n 0) [vP ((u2 2).n 0) 0] 104)]) (ok_store 52 0 (fun u2 => ((u2 3).n 0)) (fun u2 => [.pointer none]) (fun u2 => [vP ((u2 2).n 0) 0]) 104) (fun _ => by kernel_rfl)) <| .nil) [1, 2, 3, 45, 46, 47, 48, 49, 50, 51, 52] fun u2 a w' H => ?_
 refine k_srk mixed H (.v 11 (vP ((u1 0).n 0) 1) <|
 .cons [12] (ok_ldc (.slice p_a0_F L_a0_F.length c_a0_F) 12 48 1 1 ((u1 0).n 0) [.slice p_a0_Names a0.Names.length c_a0_Names, .slice p_a0_F L_a0_F.length c_a0_F] 43) <|
 .cons [13] (ok_v1 46 (rdl anyF 1 p_a0_F c_a0_F L_a0_F enSl) (vI (a0.F.length : Int)) 13 fun _ w h => run_lenN (((rdF_of h).2.len enSl_len (by decide)).trans (map_len h_a0_F).symm) (by kernel_rfl)) <|
 .v 14 (.agg #[vI (a0.F.length : Int), .slice none 0 0, .slice none 0 0]) <|
 .cons [4, 53] (ok_new (fun b => vP b 0) (fun u3 => [vI 0, .slice none 0 0, .slice none 0 0]) 38 4 53) <|
 .cons [53] (ok_as (u' := fun u3 => [(53, .blk ((u3 4).n 0) [vI (a0.F.length : Int), .slice none 0 0, .slice none 0 0] 38)]) (ok_store 53 0 (fun u3 => ((u3 4).n 0)) (fun u3 => [vI 0, .slice none 0 0, .slice none 0 0]) (fun u3 => [vI (a0.F.length : Int), .slice none 0 0, .slice none 0 0]) 38) (fun _ => by kernel_rfl)) <| .nil) [1, 2, 3, 4, 45, 46, 47, 48, 49, 50, 51, 52, 53] fun u3 a w' H => ?_
 refine k_srk mixed H (.cons [5, 54] (ok_new (fun b => vP b 0) (fun u4 => [.nilFunc]) 108 5 54) <| .nil) [1, 2, 3, 4, 5, 45, 46, 47, 48, 49, 50, 51, 52, 53, 54] fun u4 a w' H => ?_
 refine k_srk mixed H (.v 15 (.func (.func 35) #[] #[vP ((u4 0).n 0) 0, vP ((u2 3).n 0) 0]) <|
 .cons [54] (ok_stc 54 0 ((u4 0).n 0) [.nilFunc] [.func (.func 35) #[] #[vP ((u4 0).n 0) 0, vP ((u2 3).n 0) 0]] 108 [.func (.func 35) #[] #[vP ((u4 0).n 0) 0, vP ((u2 3).n 0) 0]]) <| .nil) [1, 2, 3, 4, 5, 45, 46, 47, 48, 49, 50, 51, 52, 53, 54] fun u5 a w' H => ?_
 refine k_seq ?_
 obtain ⟨j9, hj9, G⟩ := bnd G
 refine k_join (fun a w' => ∃ (p_j6 : Option Addr) (c_j6 np_j6 : Nat), np_j6 = j9.1.length ∧ ∃ (p_j7 : Option Addr) (c_j7 np_j7 : Nat), np_j7 = j9.2.1.length ∧ RL w 45 [(2, (sP ((u1 1).n 0) 0)), (3, (sP ((u2 3).n 0) 0)), (4, (sP ((u3 4).n 0) 0)), (49, .blk ((u1 1).n 0) [vI 0, .slice none 0 0, .slice none 0 0] 38), (50, mpK ((u2 0).n 0) ek_TInstruction .i64 j9.2.2), (51, .blk ((u2 2).n 0) [.slice p_j6 np_j6 c_j6, .map (some ((u2 0).n 0))] 107), (52, .blk ((u2 3).n 0) [vP ((u2 2).n 0) 0] 104), (53, .blk ((u3 4).n 0) [vI (a0.F.length : Int), .slice none 0 0, .slice p_j7 np_j7 c_j7] 38), (900060, owK 110 5 p_j6 np_j6 c_j6 (j9.1.flatMap en_TInstruction)), (900061, owK 3 1 p_j7 np_j7 c_j7 (j9.2.1.flatMap en_i64))] a w') ?_ ?_
 ·clear H; rintro a w' ⟨p_j6, c_j6, _, rfl, p_j7, c_j7, _, rfl, H⟩
  refine k_seq ?_
  refine k_srk mixed H (.cons [32] (ok_ldc (vP ((u2 2).n 0) 0) 32 52 0 1 ((u2 3).n 0) [vP ((u2 2).n 0) 0] 104) <|
 .v 33 (vP ((u2 2).n 0) 0) <|
 .v 34 (vP ((u2 2).n 0) 0) <|
 .cons [35] (ok_ldc (.slice p_j6 j9.1.length c_j6) 35 51 0 1 ((u2 2).n 0) [.slice p_j6 j9.1.length c_j6, .map (some ((u2 0).n 0))] 107) <|
 .v 36 (vI (j9.1.length : Int)) <|
 .v 37 (.bool (decide ((j9.1.length : Int) > 400))) <| .nil) [2, 3, 4, 37, 49, 50, 51, 52, 53, 900060, 900061] fun u10 a w' H => ?_
  refine k_cnd H (decide ((j9.1.length : Int) > 400)) (fun c14 => ?_) fun c14 => ?_
  ·rw [if_pos c14] at G
   refine k_srk mixed H (.v 38 (.agg #[vI 0, .slice none 0 0, .slice none 0 0]) <|
 .cons [49] (ok_stc 49 0 ((u1 1).n 0) [vI 0, .slice none 0 0, .slice none 0 0] [vI 0, .slice none 0 0, .slice none 0 0] 38 [vI 0, .slice none 0 0, .slice none 0 0]) <| .nil) [2, 49] fun u11 a w' H => ?_
   refine k_ret ?_
   obtain rfl := sj G
   replace H := H.nil_row 55 110 5
   replace H := H.nil_row 56 3 1
   obtain ⟨g, o0, n0, o1, n1⟩ : ∃ g : Gh, g.o 0 = none ∧ g.n 0 = 0 ∧ g.o 1 = none ∧ g.n 1 = 0 := ⟨⟨fun i => [0, 0].getD i 0, fun i => [none, none].getD i none, fun i => ([⟨Unit, ()⟩, ⟨Unit, ()⟩] : List ((T : Type) × T)).getD i ⟨Unit, ()⟩⟩, rfl, rfl, rfl, rfl⟩
   refine k_doneZ H _ g _ _ _ fr [55, 56] [(49, ⟨((u1 1).n 0), [vI 0, .slice none 0 0, .slice none 0 0], 0, 3⟩)] (.agg #[vI 0, .slice none 0 0, .slice none 0 0]) [fun _ => owK 110 5 none 0 0 (([] : List TInstruction).flatMap en_TInstruction), fun _ => owK 3 1 none 0 0 (([] : List Int).flatMap en_i64)] (by simp only [owl, o0, n0, o1, n1, List.length_set, List.length_cons, List.length_nil, Nat.zero_add, Nat.reduceAdd]) (by simp only [owl, o0, n0, o1, n1, List.length_set, List.length_cons, List.length_nil, Nat.zero_add, Nat.reduceAdd]) hfr (.inl ⟨rfl, rfl⟩) (fams_cons fam_ow (fams_cons fam_ow fams_nil)) (by intro p hp; simp only [List.mem_cons, List.not_mem_nil, or_false] at hp; rcases hp with rfl; exact ⟨⟨38, by kernel_rfl⟩, by kernel_rfl⟩)
  ·rw [if_neg (nt c14)] at G
   refine k_skip ?_
   refine k_srk mixed H (.cons [39] (ok_ldc (vP ((u2 2).n 0) 0) 39 52 0 1 ((u2 3).n 0) [vP ((u2 2).n 0) 0] 104) <|
 .v 40 (vP ((u2 2).n 0) 0) <|
 .v 41 (vP ((u2 2).n 0) 0) <|
 .cons [42] (ok_ldc (.slice p_j6 j9.1.length c_j6) 42 51 0 1 ((u2 2).n 0) [.slice p_j6 j9.1.length c_j6, .map (some ((u2 0).n 0))] 107) <|
 .v 43 (vP ((u3 4).n 0) 1) <|
 .cons [53] (ok_stc 53 1 ((u3 4).n 0) [vI (a0.F.length : Int), .slice none 0 0, .slice p_j7 j9.2.1.length c_j7] [.slice p_j6 j9.1.length c_j6] 38 [vI (a0.F.length : Int), .slice p_j6 j9.1.length c_j6, .slice p_j7 j9.2.1.length c_j7]) <| .nil) [2, 4, 49, 53, 900060, 900061] fun u12 a w' H => ?_
   refine k_srk mixed H (.cons [44] (ok_ldc (.agg #[vI (a0.F.length : Int), .slice p_j6 j9.1.length c_j6, .slice p_j7 j9.2.1.length c_j7]) 44 53 0 3 ((u3 4).n 0) [vI (a0.F.length : Int), .slice p_j6 j9.1.length c_j6, .slice p_j7 j9.2.1.length c_j7] 38) <|
 .cons [49] (ok_stc 49 0 ((u1 1).n 0) [vI 0, .slice none 0 0, .slice none 0 0] [vI (a0.F.length : Int), .slice p_j6 j9.1.length c_j6, .slice p_j7 j9.2.1.length c_j7] 38 [vI (a0.F.length : Int), .slice p_j6 j9.1.length c_j6, .slice p_j7 j9.2.1.length c_j7]) <| .nil) [2, 49, 900060, 900061] fun u13 a w' H => ?_
   refine k_ret ?_
   obtain rfl := sj G
   obtain ⟨g, o0, n0, o1, n1⟩ : ∃ g : Gh, g.o 0 = p_j6 ∧ g.n 0 = c_j6 ∧ g.o 1 = p_j7 ∧ g.n 1 = c_j7 := ⟨⟨fun i => [c_j6, c_j7].getD i 0, fun i => [p_j6, p_j7].getD i none, fun i => ([⟨Unit, ()⟩, ⟨Unit, ()⟩] : List ((T : Type) × T)).getD i ⟨Unit, ()⟩⟩, rfl, rfl, rfl, rfl⟩
   refine k_doneZ H _ g _ _ _ fr [900060, 900061] [(49, ⟨((u1 1).n 0), [vI (a0.F.length : Int), .slice p_j6 j9.1.length c_j6, .slice p_j7 j9.2.1.length c_j7], 0, 3⟩)] (.agg #[vI (a0.F.length : Int), .slice p_j6 j9.1.length c_j6, .slice p_j7 j9.2.1.length c_j7]) [fun _ => owl 110 5 p_j6 c_j6 j9.1 en_TInstruction, fun _ => owl 3 1 p_j7 c_j7 j9.2.1 en_i64] (by simp only [owl, o0, n0, o1, n1]) (by simp only [owl, o0, n0, o1, n1]) hfr (.inl ⟨rfl, rfl⟩) (fams_cons fam_ow (fams_cons fam_ow fams_nil)) (by intro p hp; simp only [List.mem_cons, List.not_mem_nil, or_false] at hp; rcases hp with rfl; exact ⟨⟨38, by kernel_rfl⟩, by kernel_rfl⟩)
 ·clear G; replace G := hj9; clear hj9
  refine k_srk mixed H (.v 16 (vP ((u1 0).n 0) 1) <|
 .cons [17] (ok_ldc (.slice p_a0_F L_a0_F.length c_a0_F) 17 48 1 1 ((u1 0).n 0) [.slice p_a0_Names a0.Names.length c_a0_Names, .slice p_a0_F L_a0_F.length c_a0_F] 43) <|
 .cons [18] (ok_v1 46 (rdl anyF 1 p_a0_F c_a0_F L_a0_F enSl) (vI (a0.F.length : Int)) 18 fun _ w h => run_lenN (((rdF_of h).2.len enSl_len (by decide)).trans (map_len h_a0_F).symm) (by kernel_rfl)) <|
 .v 19 (vI 0) <| .nil) [2, 3, 4, 5, 17, 18, 19, 46, 47, 49, 50, 51, 52, 53, 54] fun u15 a w' H => ?_
  refine k_block ?_
  replace H := H.nil_row 63 110 5
  replace H := H.nil_row 65 3 1
  replace H := H.move (K := owK 110 5 none 0 0 (([] : List TInstruction).flatMap en_TInstruction)) 63 900062 (by kernel_rfl) (by intro _ _ h; cases h)
  replace H := H.move (K := owK 3 1 none 0 0 (([] : List Int).flatMap en_i64)) 65 900063 (by kernel_rfl) (by intro _ _ h; cases h)
  refine k_loopJ (fun m a w' => ∃ x16 : List TInstruction, ∃ x17 : List Int, ∃ x18 : List (TInstruction × Int), ∃ x19 : Int, tape_Compile.l20 k0 a0 m x16 x17 x18 x19 = some j9 ∧ ∃ (p_x16 : Option Addr) (c_x16 np_x16 : Nat), np_x16 = x16.length ∧ ∃ (p_x17 : Option Addr) (c_x17 np_x17 : Nat), np_x17 = x17.length ∧ RL w 45 [(2, (sP ((u1 1).n 0) 0)), (3, (sP ((u2 3).n 0) 0)), (4, (sP ((u3 4).n 0) 0)), (5, (sP ((u4 0).n 0) 0)), (17, sS p_a0_F L_a0_F.length c_a0_F), (18, (sI (a0.F.length : Int))), (19, sI x19), (46, rdl anyF 1 p_a0_F c_a0_F L_a0_F enSl), (47, dnK anyF E_S_TNode.toPart L_a0_F), (49, .blk ((u1 1).n 0) [vI 0, .slice none 0 0, .slice none 0 0] 38), (50, mpK ((u2 0).n 0) ek_TInstruction .i64 x18), (51, .blk ((u2 2).n 0) [.slice p_x16 np_x16 c_x16, .map (some ((u2 0).n 0))] 107), (52, .blk ((u2 3).n 0) [vP ((u2 2).n 0) 0] 104), (53, .blk ((u3 4).n 0) [vI (a0.F.length : Int), .slice none 0 0, .slice p_x17 np_x17 c_x17] 38), (54, .blk ((u4 0).n 0) [.func (.func 35) #[] #[vP ((u4 0).n 0) 0, vP ((u2 3).n 0) 0]] 108), (900062, owK 110 5 p_x16 np_x16 c_x16 (x16.flatMap en_TInstruction)), (900063, owK 3 1 p_x17 np_x17 c_x17 (x17.flatMap en_i64))] a w') k0 ⟨_, _, _, _, G, none, 0, 0, rfl, none, 0, 0, rfl, H.toM _⟩ ?_
  clear G H
  rintro (_ | k) a w' ⟨x16, x17, x18, x19, G, p_x16, c_x16, _, rfl, p_x17, c_x17, _, rfl, H⟩
  ·exact absurd G (by unfold tape_Compile.l20; exact fun h => by cases h)
  ·unfold tape_Compile.l20 at G
   refine k_srk mixed H (.v 20 (.bool (decide (x19 < (a0.F.length : Int)))) <| .nil) [2, 3, 4, 5, 17, 18, 19, 20, 46, 47, 49, 50, 51, 52, 53, 54, 900062, 900063] fun u21 a w' H => ?_
   refine k_seq ?_
   refine k_cnd H (decide (x19 < (a0.F.length : Int))) (fun c29 => ?_) fun c29 => ?_
   ·rw [if_pos c29] at G
    refine k_skip ?_
    refine k_seq ?_
    refine k_block ?_
    refine k_seq ?_
    replace G := gd G; obtain ⟨b23, G⟩ := G
    obtain ⟨t24, ht24, G⟩ := bnd G
    obtain ⟨p_t24, c_t24, y_t24⟩ := sl_get h_a0_F ht24
    refine k_rk mixed H (.cons [21] (ok_v1 46 (rdl anyF 1 p_a0_F c_a0_F L_a0_F enSl) (.pointer (some ⟨hdB p_a0_F, hdO p_a0_F + x19.toNat * 1, none⟩)) 21 fun _ w h => ixr 41 .i64 x19 p_a0_F L_a0_F.length c_a0_F a0.F enSl (rdF_of h).2 enSl_len (map_len h_a0_F) b23) <|
 .cons [22] (ok_v1 46 (rdl anyF 1 p_a0_F c_a0_F L_a0_F enSl) (.slice p_t24 t24.length c_t24) 22 fun _ w h => ldr enSl (rdF_of h).2 enSl_len y_t24 0 1 [.slice p_t24 t24.length c_t24]) <|
 .v 7 (.slice p_t24 t24.length c_t24) <| .nil) [2, 3, 4, 5, 7, 17, 18, 19, 46, 47, 49, 50, 51, 52, 53, 54, 900062, 900063] fun u22 a w' H => ?_
    obtain ⟨t26, ht26, G⟩ := bnd G
    replace G := gd G; obtain ⟨b27, G⟩ := G
    refine k_regT mixed H (.v 23 (vP ((u3 4).n 0) 2) <|
 .cons [24] (ok_ldc (.slice p_x17 x17.length c_x17) 24 53 2 1 ((u3 4).n 0) [vI (a0.F.length : Int), .slice none 0 0, .slice p_x17 x17.length c_x17] 38) <|
 .cons [25] (ok_ldc (.func (.func 35) #[] #[vP ((u4 0).n 0) 0, vP ((u2 3).n 0) 0]) 25 54 0 1 ((u4 0).n 0) [.func (.func 35) #[] #[vP ((u4 0).n 0) 0, vP ((u2 3).n 0) 0]] 108) <|
 .v 26 (.slice p_t24 t24.length c_t24) <|
 .cons [27, 900062, 50, 51, 57, 51, 50] (ok_callY false fr [] [47, 54, 52] (fun u25 => [dnK anyF E_S_TNode.toPart L_a0_F, .blk ((u4 0).n 0) [.func (.func 35) #[] #[vP ((u4 0).n 0) 0, vP ((u2 3).n 0) 0]] 108, .blk ((u2 3).n 0) [vP ((u2 2).n 0) 0] 104]) [900062, 50, 51] (fun u25 => [owl 110 5 p_x16 c_x16 x16 en_TInstruction, mpK ((u2 0).n 0) ek_TInstruction .i64 x18, .blk ((u2 2).n 0) [.slice p_x16 x16.length c_x16, .map (some ((u2 0).n 0))] 107]) 35 _ _ _ _ _ [57, 51, 50] 27 (fun u25 w hB hF hM => tape_Compile_1_m.calls k0 t24 x16 x18 p_t24 c_t24 ((u4 0).n 0) ((u2 3).n 0) ((u2 2).n 0) p_x16 c_x16 ((u2 0).n 0) t26 w  hB hF hM ht26) (fun u25 w hF => ⟨⟨sub_bx hF.2.1 (.tail _ (.head _)) rfl, sub_bx hF.2.2.1 (.tail _ (.tail _ (.head _))) rfl, trivial⟩, ⟨sub_rd0 (show RowC _ 4 p_t24 t24.length c_t24 (t24.flatMap en_TNode) from ((dn_of hF.1) _ (List.mem_of_getElem? y_t24)).1) (fun j h => ⟨_, (.head _), ⟨_, (List.mem_of_getElem? y_t24), (.inl h)⟩⟩), trivial⟩⟩) (fun u25 g => (fams_cons fam_ow (fams_cons fam_blk (fams_cons fam_ob fams_nil)))) (.inr (fun u25 g => (famx_cons trivial (famx_cons trivial (famx_cons trivial (fun K h => by cases h)))))) (fun h => by cases h)) <|
 .cons [28, 58] (ok_new (fun b => .slice (some ⟨b, 0, none⟩) 1 1) (fun u25 => [vI t26.1]) 3 28 58) <|
 .cons [29, 900063, 900063] (ok_own1 [5] [58] (fun u25 => [.blk ((u25 5).n 0) [vI t26.1] 3]) 900063 (fun u25 => owl 3 1 p_x17 c_x17 x17 en_i64) (some 29) (fun u25 g => .slice (g.o 0) (x17 ++ [t26.1]).length (g.n 0)) (fun u25 g => owl 3 1 (g.o 0) (g.n 0) (x17 ++ [t26.1]) en_i64) (fun u25 w hF hK => tv_app (run_app_rowN (t := 36) (ty := 36) (en := en_i64) en_i64_len inf3 (ow_of hK) hF.1 (news := [t26.1]) rfl (by simp) (by kernel_rfl) b27)) (hloc := fun u u' h => ⟨by first | rfl | simp only [h 5 (by decide)], by first | rfl | simp only [h 5 (by decide)], by first | rfl | simp only [h 5 (by decide)], by first | rfl | simp only [h 5 (by decide)]⟩)) <|
 .v 30 (vP ((u3 4).n 0) 2) <|
 .cons [53] (ok_as (u' := fun u25 => [(53, .blk ((u3 4).n 0) [vI (a0.F.length : Int), .slice none 0 0, .slice ((u25 6).o 0) ((x17 ++ [t26.1]).length) ((u25 6).n 0)] 38)]) (ok_store 53 2 (fun u25 => ((u3 4).n 0)) (fun u25 => [vI (a0.F.length : Int), .slice none 0 0, .slice p_x17 x17.length c_x17]) (fun u25 => [.slice ((u25 6).o 0) ((x17 ++ [t26.1]).length) ((u25 6).n 0)]) 38) (fun _ => by kernel_rfl)) <| .nil) (by kernel_rfl) fun u25 a w' H => ?_
    replace H := H.kp [2, 3, 4, 5, 17, 18, 19, 46, 47, 49, 50, 51, 52, 53, 54, 57, 900063]
    refine k_rk mixed H (.v 31 (vI (w_i64 (x19 + 1))) <|
 .v 19 (vI (w_i64 (x19 + 1))) <| .nil) [2, 3, 4, 5, 17, 18, 19, 46, 47, 49, 50, 51, 52, 53, 54, 57, 900063] fun u28 a w' H => ?_
    replace H := H.move (K := owl 110 5 ((u25 4).o 0) ((u25 4).n 0) t26.2.1 en_TInstruction) 57 900062 (by kernel_rfl) (by intro _ _ h; cases h)
    exact ⟨k, Nat.lt_succ_self k, _, _, _, _, G, ((u25 4).o 0), ((u25 4).n 0), t26.2.1.length, rfl, ((u25 6).o 0), ((u25 6).n 0), (x17 ++ [t26.1]).length, rfl, H.toM _⟩
   ·rw [if_neg (nt c29)] at G
    refine k_exit rfl ?_
    obtain rfl := sj G
    replace H := H.move (K := owl 110 5 p_x16 c_x16 x16 en_TInstruction) 900062 900060 (by kernel_rfl) (by intro _ _ h; cases h)
    replace H := H.move (K := owl 3 1 p_x17 c_x17 x17 en_i64) 900063 900061 (by kernel_rfl) (by intro _ _ h; cases h)
    exact ⟨p_x16, c_x16, x16.length, rfl, p_x17, c_x17, x17.length, rfl, H.toM _⟩
theorem armillarytop_drift.calls (a0 : TInterval) (r : TSystem) (w : World) (G : armillarytop_drift a0 = some r) :
  Calls Tryz.prog 13 #[.agg #[vI a0.Lo, vI a0.Hi]] w fun e w' => ∃ g : Gh, e = .returned (.agg #[.slice (g.o 0) r.Names.length (g.n 0), .slice (g.o 1) ((g.dl Sl.l gd_S_TNode 1 r.F).length) (g.n 1)]) ∧ But (fpK []) w w' ∧ OutOK w.heap.size (fpK []) (frI w.heap.size []) [fun _ => owK 9 1 (g.o 0) r.Names.length (g.n 0) (r.Names.flatMap en_str), fun _ => nsK 59 61 4 en_TNode (g.o 1) ((g.dl Sl.l gd_S_TNode 1 r.F).length) (g.n 1) (g.dl Sl.l gd_S_TNode 1 r.F) (g.dl Sl.l gd_S_TNode 1 r.F)] w' := by
 obtain ⟨fr, hfr⟩ : ∃ fr : Nat → Prop, fr = frI w.heap.size [] := ⟨_, rfl⟩
 have hBf : ∀ j, w.heap.size ≤ j → fr j := fun j h => by rw [hfr]; exact .inl h
 refine k_enter (args := [.agg #[vI a0.Lo, vI a0.Hi]]) 9 Tryz.func13 rfl (by kernel_rfl) (by kernel_rfl) fun a H => ?_
 unfold armillarytop_drift at G
 refine k_seq ?_
 refine k_rg mixed H (.cons [1, 9] (ok_new (fun b => vP b 0) (fun u1 => [vI a0.Lo, vI a0.Hi]) 46 1 9) <|
   .cons [2, 10] (ok_new (fun b => vP b 0) (fun u1 => [.slice none 0 0, .slice none 0 0]) 43 2 10) <| .nil) fun u1 a w' H => ?_
 replace H := H.kp [1, 2, 9, 10]
 refine k_seq ?_
 refine k_rg mixed H (.cons [3, 11] (ok_new (fun b => .slice (some ⟨b, 0, none⟩) 1 1) (fun u2 => [.string (⟨#[120]⟩ : ByteArray)]) 9 3 11) <|
   .cons [4] (ok_ld (fun u2 => .agg #[vI a0.Lo, vI a0.Hi]) 4 9 0 2 (fun u2 => ((u1 0).n 0)) (fun u2 => [vI a0.Lo, vI a0.Hi]) 46) <|
   .v 5 (.agg #[vI 1, vI 0, vI a0.Lo, vI a0.Hi]) <|
   .cons [6, 12] (ok_new (fun b => .slice (some ⟨b, 0, none⟩) 1 1) (fun u2 => [vI 1, vI 0, vI a0.Lo, vI a0.Hi]) 61 6 12) <|
   .cons [7, 13] (ok_new (fun b => .slice (some ⟨b, 0, none⟩) 1 1) (fun u2 => [.slice (some ⟨((u2 3).n 0), 0, none⟩) 1 1]) 59 7 13) <|
   .cons [8] (ok_val (fun u2 => .agg #[.slice (some ⟨((u2 0).n 0), 0, none⟩) 1 1, .slice (some ⟨((u2 4).n 0), 0, none⟩) 1 1]) 8) <|
   .cons [10] (ok_as (u' := fun u2 => [(10, .blk ((u1 1).n 0) [.slice (some ⟨((u2 0).n 0), 0, none⟩) 1 1, .slice (some ⟨((u2 4).n 0), 0, none⟩) 1 1] 43)]) (ok_store 10 0 (fun u2 => ((u1 1).n 0)) (fun u2 => [.slice none 0 0, .slice none 0 0]) (fun u2 => [.slice (some ⟨((u2 0).n 0), 0, none⟩) 1 1, .slice (some ⟨((u2 4).n 0), 0, none⟩) 1 1]) 43) (fun _ => by kernel_rfl)) <| .nil) fun u2 a w' H => ?_
 replace H := H.kp [2, 10, 11, 12, 13]
 refine k_ret ?_
 obtain rfl := Option.some.inj G
 replace H := H.blk_row 11 ((u2 0).n 0) [.string (⟨#[120]⟩ : ByteArray)] 9 1 1 (by kernel_rfl) (by kernel_rfl) (by decide)
 replace H := H.blk_row 12 ((u2 3).n 0) [vI 1, vI 0, vI a0.Lo, vI a0.Hi] 61 4 1 (by kernel_rfl) (by kernel_rfl) (by decide)
 replace H := H.blk_row 13 ((u2 4).n 0) [.slice (some ⟨((u2 3).n 0), 0, none⟩) 1 1] 59 1 1 (by kernel_rfl) (by kernel_rfl) (by decide)
 replace H := H.nestOpen (e := 59) (m := 1) (cap := 1) (p := (some ⟨((u2 4).n 0), 0, none⟩)) (H := ([⟨(some ⟨((u2 3).n 0), 0, none⟩), 1, ([(⟨1, 0, a0⟩ : TNode)] : List TNode)⟩] : List (Sl TNode))) 13 61 4 en_TNode (by kernel_rfl)
 replace H := H.nestTake (e := 59) (e2 := 61) (m := 1) (cap := 1) (p := (some ⟨((u2 4).n 0), 0, none⟩)) (H := ([⟨(some ⟨((u2 3).n 0), 0, none⟩), 1, ([(⟨1, 0, a0⟩ : TNode)] : List TNode)⟩] : List (Sl TNode))) (L := ([] : List (Sl TNode))) (n2 := 1) (c := 1) (q := (some ⟨((u2 3).n 0), 0, none⟩)) (en := en_TNode) (l := ([(⟨1, 0, a0⟩ : TNode)] : List TNode)) 13 12 (by kernel_rfl) (by kernel_rfl) (by rfl) en_TNode_len (by decide)
 obtain ⟨g, o0, n0, o1, n1, d1⟩ : ∃ g : Gh, g.o 0 = (some ⟨((u2 0).n 0), 0, none⟩) ∧ g.n 0 = 1 ∧ g.o 1 = (some ⟨((u2 4).n 0), 0, none⟩) ∧ g.n 1 = 1 ∧ g.dl Sl.l gd_S_TNode 1 ([([(⟨1, 0, a0⟩ : TNode)] : List TNode)] : List (List TNode)) = ([⟨(some ⟨((u2 3).n 0), 0, none⟩), 1, ([(⟨1, 0, a0⟩ : TNode)] : List TNode)⟩] : List (Sl TNode)) := ⟨⟨fun i => [1, 1].getD i 0, fun i => [(some ⟨((u2 0).n 0), 0, none⟩), (some ⟨((u2 4).n 0), 0, none⟩)].getD i none, fun i => ([⟨Unit, ()⟩, ⟨List (Sl TNode), ([⟨(some ⟨((u2 3).n 0), 0, none⟩), 1, ([(⟨1, 0, a0⟩ : TNode)] : List TNode)⟩] : List (Sl TNode))⟩] : List ((T : Type) × T)).getD i ⟨Unit, ()⟩⟩, rfl, rfl, rfl, rfl, dl_mk rfl rfl⟩
 refine k_doneZ H (fun g => .agg #[.slice (g.o 0) (([(⟨#[120]⟩ : ByteArray)] : List ByteArray).length) (g.n 0), .slice (g.o 1) ((g.dl Sl.l gd_S_TNode 1 ([([(⟨1, 0, a0⟩ : TNode)] : List TNode)] : List (List TNode))).length) (g.n 1)]) g [] [] (fun g => [fun _ => owK 9 1 (g.o 0) (([(⟨#[120]⟩ : ByteArray)] : List ByteArray).length) (g.n 0) (([(⟨#[120]⟩ : ByteArray)] : List ByteArray).flatMap en_str), fun _ => nsK 59 61 4 en_TNode (g.o 1) ((g.dl Sl.l gd_S_TNode 1 ([([(⟨1, 0, a0⟩ : TNode)] : List TNode)] : List (List TNode))).length) (g.n 1) (g.dl Sl.l gd_S_TNode 1 ([([(⟨1, 0, a0⟩ : TNode)] : List TNode)] : List (List TNode))) (g.dl Sl.l gd_S_TNode 1 ([([(⟨1, 0, a0⟩ : TNode)] : List TNode)] : List (List TNode)))]) fr [11, 13] [(10, ⟨((u1 1).n 0), [.slice (some ⟨((u2 0).n 0), 0, none⟩) 1 1, .slice (some ⟨((u2 4).n 0), 0, none⟩) 1 1], 0, 2⟩)] (.agg #[.slice (some ⟨((u2 0).n 0), 0, none⟩) 1 1, .slice (some ⟨((u2 4).n 0), 0, none⟩) 1 1]) [fun _ => owK 9 1 (some ⟨((u2 0).n 0), 0, none⟩) 1 1 (([(⟨#[120]⟩ : ByteArray)] : List ByteArray).flatMap en_str), fun _ => nsK 59 61 4 en_TNode (some ⟨((u2 4).n 0), 0, none⟩) 1 1 ([⟨(some ⟨((u2 3).n 0), 0, none⟩), 1, ([(⟨1, 0, a0⟩ : TNode)] : List TNode)⟩] : List (Sl TNode)) ([⟨(some ⟨((u2 3).n 0), 0, none⟩), 1, ([(⟨1, 0, a0⟩ : TNode)] : List TNode)⟩] : List (Sl TNode))] (by simp only [o0, n0, o1, n1, d1, List.length_set, List.length_cons, List.length_nil, Nat.zero_add, Nat.reduceAdd]) (by simp only [o0, n0, o1, n1, d1, List.length_set, List.length_cons, List.length_nil, Nat.zero_add, Nat.reduceAdd]) hfr (.inl ⟨rfl, rfl⟩) (fams_cons fam_ow (fams_cons fam_ns fams_nil)) (by intro p hp; simp only [List.mem_cons, List.not_mem_nil, or_false] at hp; rcases hp with rfl; exact ⟨⟨43, by kernel_rfl⟩, by kernel_rfl⟩)
theorem armillaryref02_Number.calls (a0 : Int) (r : Bool) (w : World) (G : armillaryref02_Number a0 = some r) :
  Calls Tryz.prog 63 #[vI a0] w fun e w' => e = .returned (.bool r) ∧ Below w.heap.size w w' := by
 refine k_enter (args := [vI a0]) 9 Tryz.func63 rfl (by kernel_rfl) (by kernel_rfl) fun a H => ?_
 unfold armillaryref02_Number at G
 refine k_srk mixed H (.v 2 (.bool false) <| .nil) [0] fun u1 a w' H => ?_
 refine k_srk mixed H (.v 3 (vI a0) <|
 .v 4 (.bool (decide (a0 > (-2147483648)))) <|
 .v 5 (.bool (decide (a0 > (-2147483648)))) <|
 .cons [6] (ok_valg (fun u2 => vI a0) (fun u2 => ((decide (a0 > (-2147483648))) == true)) [true] 6) <|
 .cons [7] (ok_valg (fun u2 => .bool (decide (a0 < 2147483648))) (fun u2 => ((decide (a0 > (-2147483648))) == true)) [false, true] 7) <|
 .cons [8] (ok_and 5 7 (fun u2 => true) (fun u2 => true) (fun u2 => decide (a0 > (-2147483648))) (fun u2 => decide (a0 < 2147483648)) 8) <|
 .v 2 (.bool ((decide (a0 > (-2147483648))) && (decide (a0 < 2147483648)))) <| .nil) [2] fun u2 a w' H => ?_
 refine k_ret ?_
 obtain rfl := sj G
 exact k_done0 H _ (by kernel_rfl) (by kernel_rfl)
theorem armillaryref02_Entire.calls (r : TInterval) (w : World) (G : armillaryref02_Entire = some r) :
  Calls Tryz.prog 64 #[] w fun e w' => e = .returned (.agg #[vI r.Lo, vI r.Hi]) ∧ Below w.heap.size w w' := by
 refine k_enter (args := []) 2 Tryz.func64 rfl (by kernel_rfl) (by kernel_rfl) fun a H => ?_
 unfold armillaryref02_Entire at G
 refine k_srk mixed H (.cons [0, 2] (ok_new (fun b => vP b 0) (fun u1 => [vI 0, vI 0]) 46 0 2) <| .nil) [0, 2] fun u1 a w' H => ?_
 refine k_srk mixed H (.v 1 (.agg #[vI (-2147483648), vI 2147483648]) <|
 .cons [2] (ok_stc 2 0 ((u1 0).n 0) [vI 0, vI 0] [vI (-2147483648), vI 2147483648] 46 [vI (-2147483648), vI 2147483648]) <| .nil) [0, 2] fun u2 a w' H => ?_
 refine k_ret ?_
 obtain rfl := sj G
 exact k_done1 H _ 2 ((u1 0).n 0) [vI (-2147483648), vI 2147483648] 46 0 2 (by kernel_rfl) (by kernel_rfl) (by kernel_rfl) (by kernel_rfl)
theorem armillaryref02_New.calls (a0 : Int) (a1 : Int) (r : TInterval) (w : World) (G : armillaryref02_New a0 a1 = some r) :
  Calls Tryz.prog 38 #[vI a0, vI a1] w fun e w' => e = .returned (.agg #[vI r.Lo, vI r.Hi]) ∧ Below w.heap.size w w' := by
 refine k_enter (args := [vI a0, vI a1]) 17 Tryz.func38 rfl (by kernel_rfl) (by kernel_rfl) fun a H => ?_
 unfold armillaryref02_New at G
 refine k_srk mixed H (.cons [4, 17] (ok_new (fun b => vP b 0) (fun u1 => [vI 0, vI 0]) 46 4 17) <| .nil) [0, 1, 4, 17] fun u1 a w' H => ?_
 refine k_seq ?_
 obtain ⟨t3, ht3, G⟩ := bnd G
 obtain ⟨t4, ht4, G⟩ := bnd G
 refine k_srk mixed H (.v 5 (vI a0) <|
 .cons [6] (ok_callv 63 _ _ 6 [] (fun u2 w _ => armillaryref02_Number.calls a0  t3 w  ht3)) <|
 .v 7 (.bool (!t3)) <|
 .v 8 (.bool (!t3)) <|
 .cons [9] (ok_valg (fun u2 => vI a1) (fun u2 => ((!t3) == false)) [true] 9) <|
 .cons [10] (ok_call 63 (fun u2 => #[vI a1]) (.bool t4) (fun u2 => ((!t3) == false)) [true, false] 10 [] (fun u2 w hg _ => armillaryref02_Number.calls a1  t4 w  (ifp ht4 hg))) <|
 .cons [11] (ok_valg (fun u2 => .bool (!t4)) (fun u2 => ((!t3) == false)) [false] 11) <|
 .cons [12] (ok_or 8 11 (fun u2 => true) (fun u2 => true) (fun u2 => (!t3)) (fun u2 => (!t4)) 12) <| .nil) [0, 1, 4, 12, 17] fun u2 a w' H => ?_
 refine k_cnd H ((!t3) || (!t4)) (fun c8 => ?_) fun c8 => ?_
 ·rw [if_pos c8] at G
  obtain ⟨t6, ht6, G⟩ := bnd G
  refine k_srk mixed H (.cons [13] (ok_callv 64 _ _ 13 [] (fun u5 w _ => armillaryref02_Entire.calls   t6 w  ht6)) <|
 .cons [17] (ok_stc 17 0 ((u1 0).n 0) [vI 0, vI 0] [vI t6.Lo, vI t6.Hi] 46 [vI t6.Lo, vI t6.Hi]) <| .nil) [4, 17] fun u5 a w' H => ?_
  refine k_ret ?_
  obtain rfl := sj G
  exact k_done1 H _ 17 ((u1 0).n 0) [vI t6.Lo, vI t6.Hi] 46 0 2 (by kernel_rfl) (by kernel_rfl) (by kernel_rfl) (by kernel_rfl)
 ·rw [if_neg (nt c8)] at G
  refine k_skip ?_
  refine k_srk mixed H (.v 14 (vI a0) <|
 .v 15 (vI a1) <|
 .v 16 (.agg #[vI a0, vI a1]) <|
 .cons [17] (ok_stc 17 0 ((u1 0).n 0) [vI 0, vI 0] [vI a0, vI a1] 46 [vI a0, vI a1]) <| .nil) [4, 17] fun u7 a w' H => ?_
  refine k_ret ?_
  obtain rfl := sj G
  exact k_done1 H _ 17 ((u1 0).n 0) [vI a0, vI a1] 46 0 2 (by kernel_rfl) (by kernel_rfl) (by kernel_rfl) (by kernel_rfl)
theorem armillaryref02_Point.calls (a0 : Int) (r : TInterval) (w : World) (G : armillaryref02_Point a0 = some r) :
  Calls Tryz.prog 14 #[vI a0] w fun e w' => e = .returned (.agg #[vI r.Lo, vI r.Hi]) ∧ Below w.heap.size w w' := by
 refine k_enter (args := [vI a0]) 6 Tryz.func14 rfl (by kernel_rfl) (by kernel_rfl) fun a H => ?_
 unfold armillaryref02_Point at G
 refine k_srk mixed H (.cons [2, 6] (ok_new (fun b => vP b 0) (fun u1 => [vI 0, vI 0]) 46 2 6) <| .nil) [0, 2, 6] fun u1 a w' H => ?_
 obtain ⟨t3, ht3, G⟩ := bnd G
 refine k_srk mixed H (.v 3 (vI a0) <|
 .v 4 (vI a0) <|
 .cons [5] (ok_callv 38 _ _ 5 [] (fun u2 w _ => armillaryref02_New.calls a0 a0  t3 w  ht3)) <|
 .cons [6] (ok_stc 6 0 ((u1 0).n 0) [vI 0, vI 0] [vI t3.Lo, vI t3.Hi] 46 [vI t3.Lo, vI t3.Hi]) <| .nil) [2, 6] fun u2 a w' H => ?_
 refine k_ret ?_
 obtain rfl := sj G
 exact k_done1 H _ 6 ((u1 0).n 0) [vI t3.Lo, vI t3.Hi] 46 0 2 (by kernel_rfl) (by kernel_rfl) (by kernel_rfl) (by kernel_rfl)
theorem armillaryref14_Control.calls (a0 : Int) (r : TStepControl) (w : World) (G : armillaryref14_Control a0 = some r) :
  Calls Tryz.prog 29 #[.int .u8 a0] w fun e w' => e = .returned (.agg #[vI r.Order, vI r.First, vI r.Least, vI r.Most, vI r.Wide]) ∧ Below w.heap.size w w' := by
 refine k_enter (args := [.int .u8 a0]) 8 Tryz.func29 rfl (by kernel_rfl) (by kernel_rfl) fun a H => ?_
 unfold armillaryref14_Control at G
 refine k_srk mixed H (.cons [2, 8] (ok_new (fun b => vP b 0) (fun u1 => [vI 0, vI 0, vI 0, vI 0, vI 0]) 27 2 8) <| .nil) [0, 2, 8] fun u1 a w' H => ?_
 refine k_srk mixed H (.v 3 (.int .u8 a0) <|
 .v 4 (.int .u8 (Int.tmod a0 3)) <|
 .v 5 (vI (w_i64 (Int.tmod a0 3))) <|
 .v 6 (vI (w_i64 (1 + (w_i64 (Int.tmod a0 3))))) <|
 .v 7 (.agg #[vI (w_i64 (1 + (w_i64 (Int.tmod a0 3)))), vI 4096, vI 1024, vI 16384, vI 16777216]) <|
 .cons [8] (ok_stc 8 0 ((u1 0).n 0) [vI 0, vI 0, vI 0, vI 0, vI 0] [vI (w_i64 (1 + (w_i64 (Int.tmod a0 3)))), vI 4096, vI 1024, vI 16384, vI 16777216] 27 [vI (w_i64 (1 + (w_i64 (Int.tmod a0 3)))), vI 4096, vI 1024, vI 16384, vI 16777216]) <| .nil) [2, 8] fun u2 a w' H => ?_
 refine k_ret ?_
 obtain rfl := sj G
 exact k_done1 H _ 8 ((u1 0).n 0) [vI (w_i64 (1 + (w_i64 (Int.tmod a0 3)))), vI 4096, vI 1024, vI 16384, vI 16777216] 27 0 5 (by kernel_rfl) (by kernel_rfl) (by kernel_rfl) (by kernel_rfl)
theorem armillarytop_trajectory24.calls (k0 : Nat) (a0 : Int) (a1 : TBody) (r : TTrajectory × Bool) (w : World) (hg : Glob w) (G : armillarytop_trajectory24 k0 a0 a1 = some r) :
  Calls Tryz.prog 23 #[vI a0, .agg #[.int .i32 a1.X, .int .i16 a1.V]] w fun e w' => ∃ g : Gh, e = .returned (.tuple #[.agg #[vI r.1.Id, slgd_TSegment g 0 r.1.Segs], .bool r.2]) ∧ But (fpK []) w w' ∧ OutOK w.heap.size (fpK []) (frI w.heap.size []) [fun _ => owl 63 6 (g.o 0) (g.n 0) (dlgd_TSegment g 0 r.1.Segs) en_TSegment, fun fr => dnK fr E_TSegment.toPart (dlgd_TSegment g 0 r.1.Segs)] w' := by
 obtain ⟨fr, hfr, hBf⟩ := frs w []
 refine k_enterG (args := [vI a0, .agg #[.int .i32 a1.X, .int .i16 a1.V]]) 39 999999 globFp Glob (glob_local hg) (glob_in hg) Tryz.func23 rfl (by kernel_rfl) (by kernel_rfl) fun a H => ?_
 unfold armillarytop_trajectory24 at G
 refine k_srk mixed H (.cons [3, 39] (ok_new (fun b => vP b 0) (fun u1 => [.int .i32 a1.X, .int .i16 a1.V]) 75 3 39) <|
 .cons [4, 40] (ok_new (fun b => vP b 0) (fun u1 => [vI 0, .slice none 0 0]) 78 4 40) <|
 .v 5 (.bool false) <| .nil) [0, 3, 4, 39, 40, 999999] fun u1 a w' H => ?_
 obtain ⟨t3, ht3, G⟩ := bnd G
 refine k_srk mixed H (.cons [9] (ok_callv 29 _ _ 9 [] (fun u2 w _ => armillaryref14_Control.calls 1  t3 w  ht3)) <|
 .v 10 (.agg #[vI t3.Order, vI t3.First, vI t3.Least, vI t3.Most, vI t3.Wide, vI 0, vI 65536]) <|
 .cons [6, 41] (ok_new (fun b => vP b 0) (fun u2 => [vI 0, vI 0, vI 0, vI 0, vI 0, vI 0, vI 0]) 29 6 41) <|
 .cons [41] (ok_as (u' := fun u2 => [(41, .blk ((u2 2).n 0) [vI t3.Order, vI t3.First, vI t3.Least, vI t3.Most, vI t3.Wide, vI 0, vI 65536] 29)]) (ok_store 41 0 (fun u2 => ((u2 2).n 0)) (fun u2 => [vI 0, vI 0, vI 0, vI 0, vI 0, vI 0, vI 0]) (fun u2 => [vI t3.Order, vI t3.First, vI t3.Least, vI t3.Most, vI t3.Wide, vI 0, vI 65536]) 29) (fun _ => by kernel_rfl)) <| .nil) [0, 3, 4, 6, 39, 40, 41, 999999] fun u2 a w' H => ?_
 refine k_seq ?_
 obtain ⟨t5, ht5, G⟩ := bnd G
 obtain ⟨t6, ht6, G⟩ := bnd G
 obtain ⟨t7, ht7, G⟩ := bnd G
 obtain ⟨t8, ht8, G⟩ := bnd G
 obtain ⟨t9, ht9, G⟩ := bnd G
 refine k_regT mixed H (.v 12 (vP ((u1 0).n 0) 1) <|
 .cons [13] (ok_ldc (.int .i16 a1.V) 13 39 1 1 ((u1 0).n 0) [.int .i32 a1.X, .int .i16 a1.V] 75) <|
 .v 14 (vI (w_i64 a1.V)) <|
 .v 15 (vI (w_i64 ((w_i64 a1.V) * 16))) <|
 .cons [16] (ok_callv 14 _ _ 16 [] (fun u4 w _ => armillaryref02_Point.calls (w_i64 ((w_i64 a1.V) * 16))  t5 w  ht5)) <|
 .cons [17, 42, 43] (ok_callY false fr [] [] (fun u4 => []) [] (fun u4 => []) 13 _ (fun u4 => []) _ _ _ [42, 43] 17 (fun u4 w hB hF hM => armillarytop_drift.calls t5  t6 w  ht6) (fun u4 w hF => ⟨trivial, trivial⟩) (fun u4 g => (fams_cons fam_ow (fams_cons fam_ns fams_nil))) (.inr (fun u4 g => (famx_cons trivial (famx_cons trivial (fun K h => by cases h))))) (fun h => by cases h)) <|
 .cons [18, 44, 45] (ok_callY false fr [5] [42, 43] (fun u4 => [owl 9 1 ((u4 5).o 0) ((u4 5).n 0) t6.Names en_str, ns_en_TNodeg (u4 5) 1 t6.F]) [] (fun u4 => []) 12 _ _ _ _ _ [44, 45] 18 (fun u4 w hB hF hM => tape_Compile.calls k0 t6 ((u4 5).o 0) ((u4 5).n 0) ((u4 5).o 1) ((u4 5).n 1) (dlgd_S_TNode (u4 5) 1 t6.F) t7 w (dl_er ergd_S_TNode (u4 5) 1 t6.F) hB ht7) (fun u4 w hF => ⟨⟨sub_rd0 (owns_rowC (ow_of hF.1)) (fun j h => ⟨_, (.head _), (fp_own h)⟩), sub_rd0 (ns_of hF.2.1).row (fun j h => ⟨_, (.tail _ (.head _)), (ns_fpH h)⟩), sub_dn0 (ns_of hF.2.1).all (fun j h => ⟨_, (.tail _ (.head _)), (ns_fpA h)⟩), trivial⟩, trivial⟩) (fun u4 g => (fams_cons fam_ow (fams_cons fam_ow fams_nil))) (.inr (fun u4 g => (famx_cons trivial (famx_cons trivial (fun K h => by cases h))))) (fun h => by cases h) (hloc := fun u u' h => ⟨by first | rfl | simp only [h 5 (by decide)], by first | rfl | simp only [h 5 (by decide)], by first | rfl | simp only [h 5 (by decide)], by first | rfl | simp only [h 5 (by decide)], by first | rfl | simp only [h 5 (by decide)], by first | rfl | simp only [h 5 (by decide)]⟩)) <|
 .v 19 (vP ((u1 0).n 0) 0) <|
 .cons [20] (ok_ldc (.int .i32 a1.X) 20 39 0 1 ((u1 0).n 0) [.int .i32 a1.X, .int .i16 a1.V] 75) <|
 .v 21 (.int .i32 (Int.tmod a1.X 4194304)) <|
 .v 22 (vI (w_i64 (Int.tmod a1.X 4194304))) <|
 .cons [23] (ok_callv 14 _ _ 23 [] (fun u4 w _ => armillaryref02_Point.calls (w_i64 (Int.tmod a1.X 4194304))  t8 w  ht8)) <|
 .cons [24, 46, 46] (ok_post (fun u4 => [(46, rdF fr 2 (some ⟨((u4 12).n 0), 0, none⟩) 1 1 (([t8] : List TInterval).flatMap en_TInterval))]) (ok_blkrow 2 1 (ok_new (fun b => .slice (some ⟨b, 0, none⟩) 1 1) (fun u4 => [vI t8.Lo, vI t8.Hi]) 46 24 46) (fun _ => rfl) (by decide)) (fun u4 S a w H => H.demote fr 46 46 2 (some ⟨((u4 12).n 0), 0, none⟩) 1 1 (([t8] : List TInterval).flatMap en_TInterval) (by kernel_rfl) (by decide) hBf)) <|
 .cons [25] (ok_ldc (.agg #[vI t3.Order, vI t3.First, vI t3.Least, vI t3.Most, vI t3.Wide, vI 0, vI 65536]) 25 41 0 7 ((u2 2).n 0) [vI t3.Order, vI t3.First, vI t3.Least, vI t3.Most, vI t3.Wide, vI 0, vI 65536] 29) <|
 .cons [26, 47, 48] (ok_callY true fr [6, 12] [44, 45, 46, 999999] (fun u4 => [owl 110 5 ((u4 6).o 0) ((u4 6).n 0) t7.L en_TInstruction, owl 3 1 ((u4 6).o 1) ((u4 6).n 1) t7.Out en_i64, rdF fr 2 (some ⟨((u4 12).n 0), 0, none⟩) 1 1 (([t8] : List TInterval).flatMap en_TInterval), gk]) [] (fun u4 => []) 11 _ _ _ _ _ [47, 48] 26 (fun u4 w hB hF hM => flow_Integrate.calls k0 t7 ([t8] : List TInterval) (⟨t3, 0, 65536⟩ : THorizon) ((u4 6).o 0) ((u4 6).n 0) ((u4 6).o 1) ((u4 6).n 1) (some ⟨((u4 12).n 0), 0, none⟩) 1 t9 w  hB hF ht9) (fun u4 w hF => ⟨⟨sub_rd0 (owns_rowC (ow_of hF.1)) (fun j h => ⟨_, (.head _), (fp_own h)⟩), sub_rd0 (owns_rowC (ow_of hF.2.1)) (fun j h => ⟨_, (.tail _ (.head _)), (fp_own h)⟩), sub_k hF.2.2.2.1 (.tail _ (.tail _ (.tail _ (.head _)))), trivial⟩, ⟨sub_rd1 (rdF_of hF.2.2.1) (fun j h => ff_of (.tail _ (.tail _ (.head _))) (fun h => h) h (rdF_fr hF.2.2.1 _ h)), trivial⟩⟩) (fun u4 g => (fams_cons fam_ow (fams_cons fam_dn fams_nil))) (.inl rfl) (fun _ => hBf) (hloc := fun u u' h => ⟨by first | rfl | simp only [h 6 (by decide), h 12 (by decide)], by first | rfl | simp only [h 6 (by decide), h 12 (by decide)], by first | rfl | simp only [h 6 (by decide), h 12 (by decide)], by first | rfl | simp only [h 6 (by decide), h 12 (by decide)], by first | rfl | simp only [h 6 (by decide), h 12 (by decide)], by first | rfl | simp only [h 6 (by decide), h 12 (by decide)]⟩)) <|
 .cons [11] (ok_val (fun u4 => .tuple #[slgd_TSegment (u4 14) 0 t9.1, vI t9.2]) 11) <|
 .cons [27] (ok_val (fun u4 => slgd_TSegment (u4 14) 0 t9.1) 27) <|
 .v 28 (vI t9.2) <|
 .cons [7] (ok_val (fun u4 => slgd_TSegment (u4 14) 0 t9.1) 7) <|
 .v 8 (vI t9.2) <| .nil) (by kernel_rfl) fun u4 a w' H => ?_
 replace H := H.kp [0, 4, 7, 8, 40, 47, 48, 999999]
 refine k_srk mixed H (.v 29 (vI a0) <|
 .v 30 (slgd_TSegment (u4 14) 0 t9.1) <|
 .v 31 (.agg #[vI a0, slgd_TSegment (u4 14) 0 t9.1]) <|
 .v 32 (vI t9.2) <|
 .v 33 (.bool (t9.2 == 0)) <|
 .v 34 (.bool (t9.2 == 0)) <|
 .cons [35] (ok_valg (fun u10 => slgd_TSegment (u4 14) 0 t9.1) (fun u10 => ((t9.2 == 0) == true)) [true] 35) <|
 .cons [36] (ok_valL [47] (fun u10 => [owl 63 6 ((u4 14).o 0) ((u4 14).n 0) (dlgd_TSegment (u4 14) 0 t9.1) en_TSegment]) (fun u10 => vI (t9.1.length : Int)) (fun u10 => ((t9.2 == 0) == true)) [false] 36 (fun u10 w hg hF => run_lenN (((owns_rowC (ow_of hF.1)).2.len en_TSegment_len (by decide)).trans (map_len (dl_er ergd_TSegment (u4 14) 0 t9.1)).symm) (by kernel_rfl))) <|
 .cons [37] (ok_valg (fun u10 => .bool (decide ((t9.1.length : Int) > 0))) (fun u10 => ((t9.2 == 0) == true)) [false, true] 37) <|
 .cons [38] (ok_and 34 37 (fun u10 => true) (fun u10 => true) (fun u10 => (t9.2 == 0)) (fun u10 => decide ((t9.1.length : Int) > 0)) 38) <|
 .cons [40] (ok_stc 40 0 ((u1 1).n 0) [vI 0, .slice none 0 0] [vI a0, slgd_TSegment (u4 14) 0 t9.1] 78 [vI a0, slgd_TSegment (u4 14) 0 t9.1]) <|
 .v 5 (.bool ((t9.2 == 0) && (decide ((t9.1.length : Int) > 0)))) <| .nil) [4, 5, 40, 47, 48, 999999] fun u10 a w' H => ?_
 refine k_ret ?_
 obtain rfl := sj G
 obtain ⟨g, o0, n0, d0⟩ := gh_d gd_TSegment ((u4 14).o 0) ((u4 14).n 0) (dl_er ergd_TSegment (u4 14) 0 t9.1)
 refine k_doneZ H _ g _ _ _ fr [47, 48] [(40, ⟨((u1 1).n 0), [vI a0, slgd_TSegment (u4 14) 0 t9.1], 0, 2⟩)] (.tuple #[.agg #[vI a0, slgd_TSegment (u4 14) 0 t9.1], .bool ((t9.2 == 0) && (decide ((t9.1.length : Int) > 0)))]) [fun _ => owl 63 6 ((u4 14).o 0) ((u4 14).n 0) (dlgd_TSegment (u4 14) 0 t9.1) en_TSegment, fun fr => dnK fr E_TSegment.toPart (dlgd_TSegment (u4 14) 0 t9.1)] (by simp only [slgd_TSegment, dlgd_TSegment, owl, o0, n0, d0]) (by simp only [slgd_TSegment, dlgd_TSegment, owl, o0, n0, d0]) hfr (.inl ⟨rfl, rfl⟩) (fams_cons fam_ow (fams_cons fam_dn fams_nil)) (by intro p hp; simp only [List.mem_cons, List.not_mem_nil, or_false] at hp; rcases hp with rfl; exact ⟨⟨78, by kernel_rfl⟩, by kernel_rfl⟩)
theorem screening_check.calls (k0 : Nat) (a0 : List TTrajectory) (p_a0 : Option Addr) (c_a0 : Nat) (L_a0 : List G_TTrajectory) (r : Int) (w : World) (h_a0 : a0 = L_a0.map er_TTrajectory) (hB : AllH [rdl anyF 2 p_a0 c_a0 L_a0 en_TTrajectory, dnK anyF E_TTrajectory.toPart L_a0] w) (G : screening_check k0 a0 = some r) :
  Calls Tryz.prog 69 #[.slice p_a0 L_a0.length c_a0] w fun e w' => e = .returned (vI r) ∧ Below w.heap.size w w' := by
 obtain ⟨fr, hfr⟩ : ∃ fr : Nat → Prop, ∀ j, fr j := ⟨fun _ => True, fun _ => trivial⟩
 have hBf : ∀ j, w.heap.size ≤ j → fr j := fun j _ => hfr j
 refine k_enterF (args := [.slice p_a0 L_a0.length c_a0]) 27 [(27, rdl anyF 2 p_a0 c_a0 L_a0 en_TTrajectory), (28, dnK anyF E_TTrajectory.toPart L_a0)] (by
  intro x hx
  simp only [List.mem_cons, List.not_mem_nil, or_false] at hx
  rcases hx with rfl | rfl
  ·exact rdF_fact (rdF_of hB.1) (fun _ _ => trivial) (by decide) _
  ·exact dn_fact (dn_of hB.2.1) (fun _ _ => trivial) _) Tryz.func69 rfl (by kernel_rfl) (by kernel_rfl) fun a H => ?_
 unfold screening_check at G
 refine k_srk mixed H (.v 2 (vI 0) <| .nil) [0, 27, 28] fun u1 a w' H => ?_
 refine k_seq ?_
 refine k_srk mixed H (.v 6 (.slice p_a0 L_a0.length c_a0) <|
 .cons [7] (ok_v1 27 (rdl anyF 2 p_a0 c_a0 L_a0 en_TTrajectory) (vI (a0.length : Int)) 7 fun _ w h => run_lenN (((rdF_of h).2.len en_TTrajectory_len (by decide)).trans (map_len h_a0).symm) (by kernel_rfl)) <|
 .v 8 (.bool (decide ((a0.length : Int) > 32))) <| .nil) [0, 8, 27, 28] fun u2 a w' H => ?_
 refine k_cnd H (decide ((a0.length : Int) > 32)) (fun c21 => ?_) fun c21 => ?_
 ·rw [if_pos c21] at G
  refine k_srk mixed H (.v 2 (vI 2) <| .nil) [2] fun u3 a w' H => ?_
  refine k_ret ?_
  obtain rfl := sj G
  exact k_done0 H _ (by kernel_rfl) (by kernel_rfl)
 ·rw [if_neg (nt c21)] at G
  refine k_skip ?_
  refine k_srk mixed H (.v 3 (vI (-1)) <| .nil) [0, 3, 27, 28] fun u4 a w' H => ?_
  refine k_seq ?_
  obtain ⟨j5, hj5, Gj5⟩ := bnd G
  refine k_join (fun a w' => ∃ j5v, j5 = Sum.inr j5v ∧ RL w 27 [] a w') ?_ ?_
  ·clear H; rintro a w' ⟨j5v, rfl, H⟩; have G := Gj5; clear Gj5; dsimp only at G
   refine k_srk mixed H (.v 2 (vI 0) <| .nil) [2] fun u6 a w' H => ?_
   refine k_ret ?_
   obtain rfl := sj G
   exact k_done0 H _ (by kernel_rfl) (by kernel_rfl)
  ·have G := hj5; clear hj5
   refine k_srk mixed H (.v 9 (.slice p_a0 L_a0.length c_a0) <|
 .cons [10] (ok_v1 27 (rdl anyF 2 p_a0 c_a0 L_a0 en_TTrajectory) (vI (a0.length : Int)) 10 fun _ w h => run_lenN (((rdF_of h).2.len en_TTrajectory_len (by decide)).trans (map_len h_a0).symm) (by kernel_rfl)) <|
 .v 11 (vI 0) <| .nil) [3, 9, 10, 11, 27, 28] fun u7 a w' H => ?_
   refine k_block ?_
   refine k_loopJ (fun m a w' => ∃ x8 : Int, ∃ x9 : Int, screening_check.l10 k0 a0 m x8 x9 = some j5 ∧ RL w 27 [(3, sI x8), (9, sS p_a0 L_a0.length c_a0), (10, (sI (a0.length : Int))), (11, sI x9), (27, rdl anyF 2 p_a0 c_a0 L_a0 en_TTrajectory), (28, dnK anyF E_TTrajectory.toPart L_a0)] a w') k0 ⟨_, _, G, H.toM _⟩ ?_
   clear G H
   rintro (_ | k) a w' ⟨x8, x9, G, H⟩
   ·exact absurd G (by unfold screening_check.l10; exact fun h => by cases h)
   ·unfold screening_check.l10 at G
    refine k_srk mixed H (.v 12 (.bool (decide (x9 < (a0.length : Int)))) <| .nil) [3, 9, 10, 11, 12, 27, 28] fun u11 a w' H => ?_
    refine k_seq ?_
    refine k_cnd H (decide (x9 < (a0.length : Int))) (fun c20 => ?_) fun c20 => ?_
    ·rw [if_pos c20] at G
     refine k_skip ?_
     refine k_seq ?_
     refine k_block ?_
     refine k_seq ?_
     replace G := gd G; obtain ⟨b13, G⟩ := G
     obtain ⟨t14, ht14, G⟩ := bnd G
     obtain ⟨p_t14_Segs, c_t14_Segs, L_t14_Segs, h_t14_0, y_t14⟩ := get_TTrajectory h_a0 ht14
     refine k_rk mixed H (.cons [13] (ok_v1 27 (rdl anyF 2 p_a0 c_a0 L_a0 en_TTrajectory) (.pointer (some ⟨hdB p_a0, hdO p_a0 + x9.toNat * 2, none⟩)) 13 fun _ w h => ixr 84 .i64 x9 p_a0 L_a0.length c_a0 a0 en_TTrajectory (rdF_of h).2 en_TTrajectory_len (map_len h_a0) b13) <|
 .cons [14] (ok_v1 27 (rdl anyF 2 p_a0 c_a0 L_a0 en_TTrajectory) (.agg #[vI t14.Id, .slice p_t14_Segs L_t14_Segs.length c_t14_Segs]) 14 fun _ w h => ldr en_TTrajectory (rdF_of h).2 en_TTrajectory_len y_t14 0 2 [vI t14.Id, .slice p_t14_Segs L_t14_Segs.length c_t14_Segs]) <|
 .cons [5, 29] (ok_new (fun b => vP b 0) (fun u12 => [vI 0, .slice none 0 0]) 78 5 29) <|
 .cons [29] (ok_as (u' := fun u12 => [(29, .blk ((u12 2).n 0) [vI t14.Id, .slice p_t14_Segs L_t14_Segs.length c_t14_Segs] 78)]) (ok_store 29 0 (fun u12 => ((u12 2).n 0)) (fun u12 => [vI 0, .slice none 0 0]) (fun u12 => [vI t14.Id, .slice p_t14_Segs L_t14_Segs.length c_t14_Segs]) 78) (fun _ => by kernel_rfl)) <| .nil) [3, 5, 9, 10, 11, 27, 28, 29] fun u12 a w' H => ?_
     refine k_seq ?_
     refine k_srk mixed H (.v 15 (vP ((u12 2).n 0) 0) <|
 .cons [16] (ok_ldc (vI t14.Id) 16 29 0 1 ((u12 2).n 0) [vI t14.Id, .slice p_t14_Segs L_t14_Segs.length c_t14_Segs] 78) <|
 .v 17 (vI x8) <|
 .v 18 (.bool (decide (t14.Id ≤ x8))) <|
 .v 19 (.bool (decide (t14.Id ≤ x8))) <|
 .cons [20] (ok_valg (fun u15 => vP ((u12 2).n 0) 0) (fun u15 => ((decide (t14.Id ≤ x8)) == false)) [true] 20) <|
 .cons [21] (ok_ldg (fun u15 => vI t14.Id) (fun u15 => ((decide (t14.Id ≤ x8)) == false)) [false] 21 29 0 1 (fun u15 => ((u12 2).n 0)) (fun u15 => [vI t14.Id, .slice p_t14_Segs L_t14_Segs.length c_t14_Segs]) 78) <|
 .cons [22] (ok_valg (fun u15 => .bool (decide (t14.Id > 1000000))) (fun u15 => ((decide (t14.Id ≤ x8)) == false)) [false, true] 22) <|
 .cons [23] (ok_or 19 22 (fun u15 => true) (fun u15 => true) (fun u15 => decide (t14.Id ≤ x8)) (fun u15 => decide (t14.Id > 1000000)) 23) <| .nil) [5, 9, 10, 11, 20, 21, 22, 23, 27, 28, 29] fun u15 a w' H => ?_
     refine k_cnd H ((decide (t14.Id ≤ x8)) || (decide (t14.Id > 1000000))) (fun c19 => ?_) fun c19 => ?_
     ·rw [if_pos c19] at G
      refine k_srk mixed H (.v 2 (vI 1) <| .nil) [2] fun u16 a w' H => ?_
      refine k_ret ?_
      obtain rfl := sj G
      replace G := Gj5
      obtain rfl := sj G
      exact k_done0 H _ (by kernel_rfl) (by kernel_rfl)
     ·rw [if_neg (nt c19)] at G
      refine k_skip ?_
      refine k_rk mixed H (.v 24 (vP ((u12 2).n 0) 0) <|
 .cons [25] (ok_ldc (vI t14.Id) 25 29 0 1 ((u12 2).n 0) [vI t14.Id, .slice p_t14_Segs L_t14_Segs.length c_t14_Segs] 78) <|
 .v 3 (vI t14.Id) <| .nil) [3, 9, 10, 11, 20, 21, 22, 27, 28, 29] fun u17 a w' H => ?_
      refine k_rk mixed H (.v 26 (vI (w_i64 (x9 + 1))) <|
 .v 11 (vI (w_i64 (x9 + 1))) <| .nil) [3, 9, 10, 11, 20, 21, 22, 27, 28, 29] fun u18 a w' H => ?_
      exact ⟨k, Nat.lt_succ_self k, _, _, G, H.toM _⟩
    ·rw [if_neg (nt c20)] at G
     refine k_exit rfl ?_
     obtain rfl := sj G
     exact ⟨_, rfl, H.toM _⟩
theorem approach_end.calls (a0 : TSegment) (p_a0_From : Option Addr) (c_a0_From : Nat) (p_a0_Pre : Option Addr) (c_a0_Pre : Nat) (p_a0_Tube : Option Addr) (c_a0_Tube : Nat) (p_a0_To : Option Addr) (c_a0_To : Nat) (r : Int) (w : World) (hB : AllH [rdl anyF 2 p_a0_From c_a0_From a0.From en_TInterval, rdl anyF 2 p_a0_Pre c_a0_Pre a0.Pre en_TInterval, rdl anyF 2 p_a0_Tube c_a0_Tube a0.Tube en_TInterval, rdl anyF 2 p_a0_To c_a0_To a0.To en_TInterval] w) (G : approach_end a0 = some r) :
  Calls Tryz.prog 87 #[.agg #[vI a0.T, vI a0.H, .slice p_a0_From a0.From.length c_a0_From, .slice p_a0_Pre a0.Pre.length c_a0_Pre, .slice p_a0_Tube a0.Tube.length c_a0_Tube, .slice p_a0_To a0.To.length c_a0_To]] w fun e w' => e = .returned (vI r) ∧ Below w.heap.size w w' := by
 obtain ⟨fr, hfr⟩ : ∃ fr : Nat → Prop, ∀ j, fr j := ⟨fun _ => True, fun _ => trivial⟩
 have hBf : ∀ j, w.heap.size ≤ j → fr j := fun j _ => hfr j
 refine k_enterF (args := [.agg #[vI a0.T, vI a0.H, .slice p_a0_From a0.From.length c_a0_From, .slice p_a0_Pre a0.Pre.length c_a0_Pre, .slice p_a0_Tube a0.Tube.length c_a0_Tube, .slice p_a0_To a0.To.length c_a0_To]]) 8 [(8, rdl anyF 2 p_a0_From c_a0_From a0.From en_TInterval), (9, rdl anyF 2 p_a0_Pre c_a0_Pre a0.Pre en_TInterval), (10, rdl anyF 2 p_a0_Tube c_a0_Tube a0.Tube en_TInterval), (11, rdl anyF 2 p_a0_To c_a0_To a0.To en_TInterval)] (by
  intro x hx
  simp only [List.mem_cons, List.not_mem_nil, or_false] at hx
  rcases hx with rfl | rfl | rfl | rfl
  ·exact rdF_fact (rdF_of hB.1) (fun _ _ => trivial) (by decide) _
  ·exact rdF_fact (rdF_of hB.2.1) (fun _ _ => trivial) (by decide) _
  ·exact rdF_fact (rdF_of hB.2.2.1) (fun _ _ => trivial) (by decide) _
  ·exact rdF_fact (rdF_of hB.2.2.2.1) (fun _ _ => trivial) (by decide) _) Tryz.func87 rfl (by kernel_rfl) (by kernel_rfl) fun a H => ?_
 unfold approach_end at G
 refine k_srk mixed H (.cons [1, 12] (ok_new (fun b => vP b 0) (fun u1 => [vI a0.T, vI a0.H, .slice p_a0_From a0.From.length c_a0_From, .slice p_a0_Pre a0.Pre.length c_a0_Pre, .slice p_a0_Tube a0.Tube.length c_a0_Tube, .slice p_a0_To a0.To.length c_a0_To]) 63 1 12) <|
 .v 2 (vI 0) <| .nil) [1, 8, 9, 10, 11, 12] fun u1 a w' H => ?_
 refine k_srk mixed H (.v 3 (vP ((u1 0).n 0) 0) <|
 .cons [4] (ok_ldc (vI a0.T) 4 12 0 1 ((u1 0).n 0) [vI a0.T, vI a0.H, .slice p_a0_From a0.From.length c_a0_From, .slice p_a0_Pre a0.Pre.length c_a0_Pre, .slice p_a0_Tube a0.Tube.length c_a0_Tube, .slice p_a0_To a0.To.length c_a0_To] 63) <|
 .v 5 (vP ((u1 0).n 0) 1) <|
 .cons [6] (ok_ldc (vI a0.H) 6 12 1 1 ((u1 0).n 0) [vI a0.T, vI a0.H, .slice p_a0_From a0.From.length c_a0_From, .slice p_a0_Pre a0.Pre.length c_a0_Pre, .slice p_a0_Tube a0.Tube.length c_a0_Tube, .slice p_a0_To a0.To.length c_a0_To] 63) <|
 .v 7 (vI (w_i64 (a0.T + a0.H))) <|
 .v 2 (vI (w_i64 (a0.T + a0.H))) <| .nil) [2] fun u2 a w' H => ?_
 refine k_ret ?_
 obtain rfl := sj G
 exact k_done0 H _ (by kernel_rfl) (by kernel_rfl)
theorem box_SquaredDistance.calls (k0 : Nat) (a0 : List TInterval) (a1 : List TInterval) (p_a0 : Option Addr) (c_a0 : Nat) (p_a1 : Option Addr) (c_a1 : Nat) (r : TInterval) (w : World) (hB : AllH [rdl anyF 2 p_a0 c_a0 a0 en_TInterval, rdl anyF 2 p_a1 c_a1 a1 en_TInterval] w) (G : box_SquaredDistance k0 a0 a1 = some r) :
  Calls Tryz.prog 74 #[.slice p_a0 a0.length c_a0, .slice p_a1 a1.length c_a1] w fun e w' => e = .returned (.agg #[vI r.Lo, vI r.Hi]) ∧ Below w.heap.size w w' := by
 obtain ⟨fr, hfr⟩ : ∃ fr : Nat → Prop, ∀ j, fr j := ⟨fun _ => True, fun _ => trivial⟩
 have hBf : ∀ j, w.heap.size ≤ j → fr j := fun j _ => hfr j
 refine k_enterM (args := [.slice p_a0 a0.length c_a0, .slice p_a1 a1.length c_a1]) 20 [(20, rdl anyF 2 p_a0 c_a0 a0 en_TInterval), (21, rdl anyF 2 p_a1 c_a1 a1 en_TInterval)] (by
  intro x hx
  simp only [List.mem_cons, List.not_mem_nil, or_false] at hx
  rcases hx with rfl | rfl
  ·exact rdF_fact (rdF_of hB.1) (fun _ _ => trivial) (by decide) _
  ·exact rdF_fact (rdF_of hB.2.1) (fun _ _ => trivial) (by decide) _) Tryz.func74 rfl (by kernel_rfl) (by kernel_rfl) fun a H => ?_
 unfold box_SquaredDistance at G
 refine k_srk mixed H (.cons [4, 22] (ok_new (fun b => vP b 0) (fun u1 => [vI 0, vI 0]) 46 4 22) <| .nil) [0, 1, 4, 20, 21, 22] fun u1 a w' H => ?_
 refine k_srk mixed H (.cons [5, 23] (ok_new (fun b => vP b 0) (fun u2 => [vI 0, vI 0]) 46 5 23) <| .nil) [0, 1, 4, 5, 20, 21, 22, 23] fun u2 a w' H => ?_
 refine k_seq ?_
 refine k_srk mixed H (.v 8 (.slice p_a0 a0.length c_a0) <|
 .v 9 (.slice p_a1 a1.length c_a1) <|
 .cons [10, 24, 25] (ok_callB2 43 (fun u3 => #[.slice p_a0 a0.length c_a0, .slice p_a1 a1.length c_a1]) (fun b1 b2 => .func (.func 66) #[] #[vP b1 0, vP b2 0]) [.slice p_a0 a0.length c_a0] [.slice p_a1 a1.length c_a1] 48 48 10 24 25 (fun _ w => box_pairs.calls a0 p_a0 a0.length c_a0 a1 p_a1 a1.length c_a1 w)) <| .nil) [4, 5, 10, 20, 21, 22, 23, 24, 25] fun u3 a w' H => ?_
 refine k_block ?_
 replace G := gd G; obtain ⟨b4, G⟩ := G
 obtain ⟨t5, ht5, G⟩ := bnd G
 obtain ⟨t6, ht6, G⟩ := bnd G
 refine k_noexit ?_
 refine k_rangeO (γ := Unit) (fun _ : Unit => #[enI t5, enI t6]) (fun _ => []) (fun _ => [(11, .slot true (enI t5)), (12, .slot true (enI t6))]) (pairsFx ((u3 2).n 0) ((u3 2).n 1) p_a0 p_a1 c_a0 c_a1 a0 a1) true 26 27 0 _ (fun L => ∃ x7 : Int, ∃ x8 : Int, box_SquaredDistance.l9 k0 a0 a1 t5 t6 x7 x8 = some r ∧ L = [(20, rdl anyF 2 p_a0 c_a0 a0 en_TInterval), (21, rdl anyF 2 p_a1 c_a1 a1 en_TInterval), (22, .blk ((u1 0).n 0) [vI 0, vI 0] 46), (23, .blk ((u2 0).n 0) [vI x7, vI x8] 46), (24, .blk ((u3 2).n 0) [.slice p_a0 a0.length c_a0] 48), (25, .blk ((u3 2).n 1) [.slice p_a1 a1.length c_a1] 48)]) (fun _ => False) (fun _ => False) H (by kernel_rfl) (by kernel_rfl) (enters_fn Tryz.func66 (by kernel_rfl) rfl) (box_pairs_1.one (one_get b4 ht5) ht6 ((u3 2).n 0) ((u3 2).n 1) p_a0 p_a1 c_a0 c_a1 _) (puts2 11 12 (fun _ => enI t5) (fun _ => enI t6) (by rfl) (by rfl)) (fun _ => by kernel_rfl) (fun _ => by kernel_rfl) (by kernel_rfl) (by kernel_rfl) (by kernel_rfl) (by kernel_rfl) (by kernel_rfl) (fun W h => ⟨h.holds 24, h.holds 25, (rdF_of (h.at (K := rdl anyF 2 p_a0 c_a0 a0 en_TInterval) 20 (by kernel_rfl))).2, (rdF_of (h.at (K := rdl anyF 2 p_a1 c_a1 a1 en_TInterval) 21 (by kernel_rfl))).2⟩) (by rintro L W ⟨x7, x8, G, rfl⟩ h; exact ⟨h.holds 24, h.holds 25, (rdF_of (h.at (K := rdl anyF 2 p_a0 c_a0 a0 en_TInterval) 20 (by kernel_rfl))).2, (rdF_of (h.at (K := rdl anyF 2 p_a1 c_a1 a1 en_TInterval) 21 (by kernel_rfl))).2⟩) (fun e => by cases e) rfl ?_ ?_ ?_ ?_
 ·clear H; rintro l D oR oD _ a w' H
  replace H := H.kp [4, 5, 10, 11, 12, 20, 21, 22, 23, 24, 25, 26, 27]
  refine r_seq ?_
  refine r_reg mixed H (.cons [6, 28] (ok_new (fun b => vP b 0) (fun u10 => [vI 0, vI 0]) 46 6 28) <|
 .cons [28] (ok_as (u' := fun u10 => [(28, .blk ((u10 0).n 0) [vI t5.Lo, vI t5.Hi] 46)]) (ok_store 28 0 (fun u10 => ((u10 0).n 0)) (fun u10 => [vI 0, vI 0]) (fun u10 => [vI t5.Lo, vI t5.Hi]) 46) (fun _ => by kernel_rfl)) <| .nil) (by kernel_rfl) (by kernel_rfl) fun u10 a w' H => ?_
  replace H := H.kp [4, 5, 6, 10, 12, 20, 21, 22, 23, 24, 25, 28, 26, 27]
  refine r_reg mixed H (.cons [7, 29] (ok_new (fun b => vP b 0) (fun u11 => [vI 0, vI 0]) 46 7 29) <|
 .cons [29] (ok_as (u' := fun u11 => [(29, .blk ((u11 0).n 0) [vI t6.Lo, vI t6.Hi] 46)]) (ok_store 29 0 (fun u11 => ((u11 0).n 0)) (fun u11 => [vI 0, vI 0]) (fun u11 => [vI t6.Lo, vI t6.Hi]) 46) (fun _ => by kernel_rfl)) <| .nil) (by kernel_rfl) (by kernel_rfl) fun u11 a w' H => ?_
  replace H := H.kp [4, 5, 6, 7, 10, 20, 21, 22, 23, 24, 25, 28, 29, 26, 27]
  refine ⟨_, H, by kernel_rfl, fun oB w' H => ?_⟩
  replace H := H.kp [4, 5, 6, 7, 10, 20, 21, 22, 23, 24, 25, 28, 29, 26, 27]
  refine r_block ?_
  obtain ⟨t13, ht13, G⟩ := bnd G
  obtain ⟨t14, ht14, G⟩ := bnd G
  obtain ⟨t15, ht15, G⟩ := bnd G
  refine r_reg mixed H (.cons [13] (ok_ldc (.agg #[vI 0, vI 0]) 13 23 0 2 ((u2 0).n 0) [vI 0, vI 0] 46) <|
 .cons [14] (ok_ldc (.agg #[vI t5.Lo, vI t5.Hi]) 14 28 0 2 ((u10 0).n 0) [vI t5.Lo, vI t5.Hi] 46) <|
 .cons [15] (ok_ldc (.agg #[vI t6.Lo, vI t6.Hi]) 15 29 0 2 ((u11 0).n 0) [vI t6.Lo, vI t6.Hi] 46) <|
 .cons [16] (ok_callv 92 _ _ 16 [] (fun u12 w _ => interval_Sub.calls t5 t6  t13 w  ht13)) <|
 .cons [17] (ok_callv 91 _ _ 17 [] (fun u12 w _ => interval_Square.calls t13  t14 w  ht14)) <|
 .cons [18] (ok_callv 90 _ _ 18 [] (fun u12 w _ => interval_Add.calls (⟨0, 0⟩ : TInterval) t14  t15 w  ht15)) <|
 .cons [23] (ok_stc 23 0 ((u2 0).n 0) [vI 0, vI 0] [vI t15.Lo, vI t15.Hi] 46 [vI t15.Lo, vI t15.Hi]) <| .nil) (by kernel_rfl) (by kernel_rfl) fun u12 a w' H => ?_
  replace H := H.kp [4, 5, 10, 20, 21, 22, 23, 24, 25, 26, 27]
  exact ⟨_, ⟨_, _, G, rfl⟩, by kernel_rfl, H.toM _⟩
 ·clear H G; rintro D L W ⟨x7, x8, G, rfl⟩ H
  unfold box_SquaredDistance.l9 at G
  replace H := H.toM [(4, (sP ((u1 0).n 0) 0)), (5, (sP ((u2 0).n 0) 0)), (10, .slot true (.func (.func 66) #[] #[vP ((u3 2).n 0) 0, vP ((u3 2).n 1) 0])), (20, rdl anyF 2 p_a0 c_a0 a0 en_TInterval), (21, rdl anyF 2 p_a1 c_a1 a1 en_TInterval), (22, .blk ((u1 0).n 0) [vI 0, vI 0] 46), (23, .blk ((u2 0).n 0) [vI x7, vI x8] 46), (24, .blk ((u3 2).n 0) [.slice p_a0 a0.length c_a0] 48), (25, .blk ((u3 2).n 1) [.slice p_a1 a1.length c_a1] 48), (27, obK D (.deferred (some [])))]
  refine k_after ?_
  refine r_seq ?_
  refine r_reg mixed H (.cons [19] (ok_ldc (.agg #[vI x7, vI x8]) 19 23 0 2 ((u2 0).n 0) [vI x7, vI x8] 46) <|
 .cons [22] (ok_stc 22 0 ((u1 0).n 0) [vI 0, vI 0] [vI x7, vI x8] 46 [vI x7, vI x8]) <| .nil) (by kernel_rfl) (by kernel_rfl) fun u16 a w' H => ?_
  replace H := H.kp [4, 22, 27]
  refine r_ret ?_
  obtain rfl := sj G
  refine k_mark 27 H (by kernel_rfl) fun w' H => ?_
  exact k_done1 H _ 22 ((u1 0).n 0) [vI x7, vI x8] 46 0 2 (by kernel_rfl) (by kernel_rfl) (by kernel_rfl) (by kernel_rfl)
 ·clear H G; rintro D L W h H; exact h.elim
 ·clear H G; rintro D L W h H; exact h.elim
theorem box_Separated.calls (k0 : Nat) (a0 : List TInterval) (a1 : List TInterval) (a2 : Int) (p_a0 : Option Addr) (c_a0 : Nat) (p_a1 : Option Addr) (c_a1 : Nat) (r : Bool) (w : World) (hB : AllH [rdl anyF 2 p_a0 c_a0 a0 en_TInterval, rdl anyF 2 p_a1 c_a1 a1 en_TInterval] w) (G : box_Separated k0 a0 a1 a2 = some r) :
  Calls Tryz.prog 88 #[.slice p_a0 a0.length c_a0, .slice p_a1 a1.length c_a1, vI a2] w fun e w' => e = .returned (.bool r) ∧ Below w.heap.size w w' := by
 obtain ⟨fr, hfr⟩ : ∃ fr : Nat → Prop, ∀ j, fr j := ⟨fun _ => True, fun _ => trivial⟩
 have hBf : ∀ j, w.heap.size ≤ j → fr j := fun j _ => hfr j
 refine k_enterF (args := [.slice p_a0 a0.length c_a0, .slice p_a1 a1.length c_a1, vI a2]) 28 [(28, rdl anyF 2 p_a0 c_a0 a0 en_TInterval), (29, rdl anyF 2 p_a1 c_a1 a1 en_TInterval)] (by
  intro x hx
  simp only [List.mem_cons, List.not_mem_nil, or_false] at hx
  rcases hx with rfl | rfl
  ·exact rdF_fact (rdF_of hB.1) (fun _ _ => trivial) (by decide) _
  ·exact rdF_fact (rdF_of hB.2.1) (fun _ _ => trivial) (by decide) _) Tryz.func88 rfl (by kernel_rfl) (by kernel_rfl) fun a H => ?_
 unfold box_Separated at G
 refine k_srk mixed H (.v 6 (.bool false) <| .nil) [0, 1, 2, 28, 29] fun u1 a w' H => ?_
 obtain ⟨t3, ht3, G⟩ := bnd G
 refine k_srk mixed H (.v 10 (.slice p_a0 a0.length c_a0) <|
 .v 11 (.slice p_a1 a1.length c_a1) <|
 .cons [12] (ok_callL [28, 29] (fun u2 => [rdl anyF 2 p_a0 c_a0 a0 en_TInterval, rdl anyF 2 p_a1 c_a1 a1 en_TInterval]) 74 _ _ 12 (fun u2 w hF => box_SquaredDistance.calls k0 a0 a1 p_a0 c_a0 p_a1 c_a1 t3 w  ⟨(rdA (rdF_of hF.1)), (rdA (rdF_of hF.2.1)), trivial⟩ ht3)) <|
 .cons [7, 30] (ok_new (fun b => vP b 0) (fun u2 => [vI 0, vI 0]) 46 7 30) <|
 .cons [30] (ok_as (u' := fun u2 => [(30, .blk ((u2 3).n 0) [vI t3.Lo, vI t3.Hi] 46)]) (ok_store 30 0 (fun u2 => ((u2 3).n 0)) (fun u2 => [vI 0, vI 0]) (fun u2 => [vI t3.Lo, vI t3.Hi]) 46) (fun _ => by kernel_rfl)) <| .nil) [2, 7, 30] fun u2 a w' H => ?_
 obtain ⟨t5, ht5, G⟩ := bnd G
 refine k_srk mixed H (.v 14 (vI a2) <|
 .v 15 (vI a2) <|
 .cons [16] (ok_callv 54 _ _ 16 [] (fun u4 w _ => fixed_Mul.calls a2 a2  t5 w  ht5)) <|
 .v 13 (.tuple #[vI t5.1, vI t5.2]) <|
 .v 17 (vI t5.1) <|
 .v 18 (vI t5.2) <|
 .v 8 (vI t5.1) <|
 .v 9 (vI t5.2) <| .nil) [7, 9, 30] fun u4 a w' H => ?_
 obtain ⟨t7, ht7, G⟩ := bnd G
 refine k_srk mixed H (.cons [19] (ok_ldc (.agg #[vI t3.Lo, vI t3.Hi]) 19 30 0 2 ((u2 3).n 0) [vI t3.Lo, vI t3.Hi] 46) <|
 .cons [20] (ok_callv 21 _ _ 20 [] (fun u6 w _ => interval_IsEntire.calls t3  t7 w  ht7)) <|
 .v 21 (.bool (!t7)) <|
 .v 22 (.bool (!t7)) <|
 .cons [23] (ok_valg (fun u6 => vP ((u2 3).n 0) 0) (fun u6 => ((!t7) == true)) [true] 23) <|
 .cons [24] (ok_ldg (fun u6 => vI t3.Lo) (fun u6 => ((!t7) == true)) [false] 24 30 0 1 (fun u6 => ((u2 3).n 0)) (fun u6 => [vI t3.Lo, vI t3.Hi]) 46) <|
 .cons [25] (ok_valg (fun u6 => vI t5.2) (fun u6 => ((!t7) == true)) [true] 25) <|
 .cons [26] (ok_valg (fun u6 => .bool (decide (t3.Lo > t5.2))) (fun u6 => ((!t7) == true)) [false, false] 26) <|
 .cons [27] (ok_and 22 26 (fun u6 => true) (fun u6 => true) (fun u6 => (!t7)) (fun u6 => decide (t3.Lo > t5.2)) 27) <|
 .v 6 (.bool ((!t7) && (decide (t3.Lo > t5.2)))) <| .nil) [6] fun u6 a w' H => ?_
 refine k_ret ?_
 obtain rfl := sj G
 exact k_done0 H _ (by kernel_rfl) (by kernel_rfl)
theorem approach_separated.calls (k0 : Nat) (a0 : List TInterval) (a1 : List TInterval) (a2 : Int) (p_a0 : Option Addr) (c_a0 : Nat) (p_a1 : Option Addr) (c_a1 : Nat) (r : Bool) (w : World) (hB : AllH [rdl anyF 2 p_a0 c_a0 a0 en_TInterval, rdl anyF 2 p_a1 c_a1 a1 en_TInterval] w) (G : approach_separated k0 a0 a1 a2 = some r) :
  Calls Tryz.prog 72 #[.slice p_a0 a0.length c_a0, .slice p_a1 a1.length c_a1, vI a2] w fun e w' => e = .returned (.bool r) ∧ Below w.heap.size w w' := by
 obtain ⟨fr, hfr⟩ : ∃ fr : Nat → Prop, ∀ j, fr j := ⟨fun _ => True, fun _ => trivial⟩
 have hBf : ∀ j, w.heap.size ≤ j → fr j := fun j _ => hfr j
 refine k_enterF (args := [.slice p_a0 a0.length c_a0, .slice p_a1 a1.length c_a1, vI a2]) 49 [(49, rdl anyF 2 p_a0 c_a0 a0 en_TInterval), (50, rdl anyF 2 p_a1 c_a1 a1 en_TInterval)] (by
  intro x hx
  simp only [List.mem_cons, List.not_mem_nil, or_false] at hx
  rcases hx with rfl | rfl
  ·exact rdF_fact (rdF_of hB.1) (fun _ _ => trivial) (by decide) _
  ·exact rdF_fact (rdF_of hB.2.1) (fun _ _ => trivial) (by decide) _) Tryz.func72 rfl (by kernel_rfl) (by kernel_rfl) fun a H => ?_
 unfold approach_separated at G
 refine k_srk mixed H (.v 6 (.bool false) <| .nil) [0, 1, 2, 49, 50] fun u1 a w' H => ?_
 refine k_seq ?_
 obtain ⟨j2, hj2, Gj2⟩ := bnd G
 refine k_join (fun a w' => ∃ j2v, j2 = Sum.inr j2v ∧ RL w 49 [(0, sS p_a0 a0.length c_a0), (1, sS p_a1 a1.length c_a1), (2, sI a2), (49, rdl anyF 2 p_a0 c_a0 a0 en_TInterval), (50, rdl anyF 2 p_a1 c_a1 a1 en_TInterval)] a w') ?_ ?_
 ·clear H; rintro a w' ⟨j2v, rfl, H⟩; have G := Gj2; clear Gj2; dsimp only at G
  obtain ⟨t4, ht4, G⟩ := bnd G
  refine k_srk mixed H (.v 45 (.slice p_a0 a0.length c_a0) <|
 .v 46 (.slice p_a1 a1.length c_a1) <|
 .v 47 (vI a2) <|
 .cons [48] (ok_callL [49, 50] (fun u3 => [rdl anyF 2 p_a0 c_a0 a0 en_TInterval, rdl anyF 2 p_a1 c_a1 a1 en_TInterval]) 88 _ _ 48 (fun u3 w hF => box_Separated.calls k0 a0 a1 a2 p_a0 c_a0 p_a1 c_a1 t4 w  ⟨(rdA (rdF_of hF.1)), (rdA (rdF_of hF.2.1)), trivial⟩ ht4)) <|
 .v 6 (.bool t4) <| .nil) [6] fun u3 a w' H => ?_
  refine k_ret ?_
  obtain rfl := sj G
  exact k_done0 H _ (by kernel_rfl) (by kernel_rfl)
 ·have G := hj2; clear hj2
  refine k_srk mixed H (.v 10 (.slice p_a0 a0.length c_a0) <|
 .v 11 (vI (a0.length : Int)) <|
 .v 12 (vI 0) <| .nil) [0, 1, 2, 10, 11, 12, 49, 50] fun u5 a w' H => ?_
  refine k_block ?_
  refine k_loopJ (fun m a w' => ∃ x6 : Int, approach_separated.l7 k0 a0 a1 a2 m x6 = some j2 ∧ RL w 49 [(0, sS p_a0 a0.length c_a0), (1, sS p_a1 a1.length c_a1), (2, sI a2), (10, sS p_a0 a0.length c_a0), (11, (sI (a0.length : Int))), (12, sI x6), (49, rdl anyF 2 p_a0 c_a0 a0 en_TInterval), (50, rdl anyF 2 p_a1 c_a1 a1 en_TInterval)] a w') k0 ⟨_, G, H.toM _⟩ ?_
  clear G H
  rintro (_ | k) a w' ⟨x6, G, H⟩
  ·exact absurd G (by unfold approach_separated.l7; exact fun h => by cases h)
  ·unfold approach_separated.l7 at G
   refine k_srk mixed H (.v 13 (.bool (decide (x6 < (a0.length : Int)))) <| .nil) [0, 1, 2, 10, 11, 12, 13, 49, 50] fun u8 a w' H => ?_
   refine k_seq ?_
   refine k_cnd H (decide (x6 < (a0.length : Int))) (fun c21 => ?_) fun c21 => ?_
   ·rw [if_pos c21] at G
    refine k_skip ?_
    refine k_seq ?_
    refine k_block ?_
    refine k_seq ?_
    replace G := gd G; obtain ⟨b10, G⟩ := G
    obtain ⟨t11, ht11, G⟩ := bnd G
    refine k_rk mixed H (.v 14 (vI x6) <|
 .cons [15] (ok_v1 49 (rdl anyF 2 p_a0 c_a0 a0 en_TInterval) (.pointer (some ⟨hdB p_a0, hdO p_a0 + x6.toNat * 2, none⟩)) 15 fun _ w h => ixr 48 .i64 x6 p_a0 a0.length c_a0 a0 en_TInterval (rdF_of h).2 en_TInterval_len rfl b10) <|
 .cons [16] (ok_v1 49 (rdl anyF 2 p_a0 c_a0 a0 en_TInterval) (.agg #[vI t11.Lo, vI t11.Hi]) 16 fun _ w h => ldr en_TInterval (rdF_of h).2 en_TInterval_len ht11 0 2 [vI t11.Lo, vI t11.Hi]) <|
 .cons [8, 51] (ok_new (fun b => vP b 0) (fun u9 => [vI 0, vI 0]) 46 8 51) <|
 .v 7 (vI x6) <|
 .cons [51] (ok_as (u' := fun u9 => [(51, .blk ((u9 3).n 0) [vI t11.Lo, vI t11.Hi] 46)]) (ok_store 51 0 (fun u9 => ((u9 3).n 0)) (fun u9 => [vI 0, vI 0]) (fun u9 => [vI t11.Lo, vI t11.Hi]) 46) (fun _ => by kernel_rfl)) <| .nil) [0, 1, 2, 7, 8, 10, 11, 12, 49, 50, 51] fun u9 a w' H => ?_
    refine k_seq ?_
    replace G := gd G; obtain ⟨b13, G⟩ := G
    obtain ⟨t14, ht14, G⟩ := bnd G
    refine k_rk mixed H (.v 17 (.slice p_a1 a1.length c_a1) <|
 .v 18 (vI x6) <|
 .cons [19] (ok_v1 50 (rdl anyF 2 p_a1 c_a1 a1 en_TInterval) (.pointer (some ⟨hdB p_a1, hdO p_a1 + x6.toNat * 2, none⟩)) 19 fun _ w h => ixr 48 .i64 x6 p_a1 a1.length c_a1 a1 en_TInterval (rdF_of h).2 en_TInterval_len rfl b13) <|
 .cons [20] (ok_v1 50 (rdl anyF 2 p_a1 c_a1 a1 en_TInterval) (.agg #[vI t14.Lo, vI t14.Hi]) 20 fun _ w h => ldr en_TInterval (rdF_of h).2 en_TInterval_len ht14 0 2 [vI t14.Lo, vI t14.Hi]) <|
 .cons [9, 52] (ok_new (fun b => vP b 0) (fun u12 => [vI 0, vI 0]) 46 9 52) <|
 .cons [52] (ok_as (u' := fun u12 => [(52, .blk ((u12 4).n 0) [vI t14.Lo, vI t14.Hi] 46)]) (ok_store 52 0 (fun u12 => ((u12 4).n 0)) (fun u12 => [vI 0, vI 0]) (fun u12 => [vI t14.Lo, vI t14.Hi]) 46) (fun _ => by kernel_rfl)) <| .nil) [0, 1, 2, 8, 9, 10, 11, 12, 49, 50, 51, 52] fun u12 a w' H => ?_
    obtain ⟨t16, ht16, G⟩ := bnd G
    obtain ⟨t17, ht17, G⟩ := bnd G
    refine k_srk mixed H (.cons [21] (ok_ldc (.agg #[vI t11.Lo, vI t11.Hi]) 21 51 0 2 ((u9 3).n 0) [vI t11.Lo, vI t11.Hi] 46) <|
 .cons [22] (ok_callv 21 _ _ 22 [] (fun u15 w _ => interval_IsEntire.calls t11  t16 w  ht16)) <|
 .v 23 (.bool (!t16)) <|
 .v 24 (.bool (!t16)) <|
 .cons [25] (ok_ldg (fun u15 => .agg #[vI t14.Lo, vI t14.Hi]) (fun u15 => ((!t16) == true)) [true] 25 52 0 2 (fun u15 => ((u12 4).n 0)) (fun u15 => [vI t14.Lo, vI t14.Hi]) 46) <|
 .cons [26] (ok_call 21 (fun u15 => #[.agg #[vI t14.Lo, vI t14.Hi]]) (.bool t17) (fun u15 => ((!t16) == true)) [true, false] 26 [] (fun u15 w hg _ => interval_IsEntire.calls t14  t17 w  (ifp ht17 hg))) <|
 .cons [27] (ok_valg (fun u15 => .bool (!t17)) (fun u15 => ((!t16) == true)) [false] 27) <|
 .cons [28] (ok_and 24 27 (fun u15 => true) (fun u15 => true) (fun u15 => (!t16)) (fun u15 => (!t17)) 28) <|
 .v 29 (.bool ((!t16) && (!t17))) <|
 .cons [30] (ok_valg (fun u15 => vP ((u9 3).n 0) 0) (fun u15 => (((!t16) && (!t17)) == true)) [true] 30) <|
 .cons [31] (ok_ldg (fun u15 => vI t11.Lo) (fun u15 => (((!t16) && (!t17)) == true)) [false] 31 51 0 1 (fun u15 => ((u9 3).n 0)) (fun u15 => [vI t11.Lo, vI t11.Hi]) 46) <|
 .cons [32] (ok_valg (fun u15 => vP ((u12 4).n 0) 1) (fun u15 => (((!t16) && (!t17)) == true)) [true] 32) <|
 .cons [33] (ok_ldg (fun u15 => vI t14.Hi) (fun u15 => (((!t16) && (!t17)) == true)) [false] 33 52 1 1 (fun u15 => ((u12 4).n 0)) (fun u15 => [vI t14.Lo, vI t14.Hi]) 46) <|
 .cons [34] (ok_valg (fun u15 => vI (w_i64 (t11.Lo - t14.Hi))) (fun u15 => (((!t16) && (!t17)) == true)) [false, false] 34) <|
 .cons [35] (ok_valg (fun u15 => vP ((u12 4).n 0) 0) (fun u15 => (((!t16) && (!t17)) == true)) [true] 35) <|
 .cons [36] (ok_ldg (fun u15 => vI t14.Lo) (fun u15 => (((!t16) && (!t17)) == true)) [false] 36 52 0 1 (fun u15 => ((u12 4).n 0)) (fun u15 => [vI t14.Lo, vI t14.Hi]) 46) <|
 .cons [37] (ok_valg (fun u15 => vP ((u9 3).n 0) 1) (fun u15 => (((!t16) && (!t17)) == true)) [true] 37) <|
 .cons [38] (ok_ldg (fun u15 => vI t11.Hi) (fun u15 => (((!t16) && (!t17)) == true)) [false] 38 51 1 1 (fun u15 => ((u9 3).n 0)) (fun u15 => [vI t11.Lo, vI t11.Hi]) 46) <|
 .cons [39] (ok_valg (fun u15 => vI (w_i64 (t14.Lo - t11.Hi))) (fun u15 => (((!t16) && (!t17)) == true)) [false, false] 39) <|
 .cons [40] (ok_valg (fun u15 => vI (mx (w_i64 (t11.Lo - t14.Hi)) (w_i64 (t14.Lo - t11.Hi)))) (fun u15 => (((!t16) && (!t17)) == true)) [false, false] 40) <|
 .cons [41] (ok_valg (fun u15 => vI a2) (fun u15 => (((!t16) && (!t17)) == true)) [true] 41) <|
 .cons [42] (ok_valg (fun u15 => .bool (decide ((mx (w_i64 (t11.Lo - t14.Hi)) (w_i64 (t14.Lo - t11.Hi))) > a2))) (fun u15 => (((!t16) && (!t17)) == true)) [false, false] 42) <|
 .cons [43] (ok_and 29 42 (fun u15 => true) (fun u15 => true) (fun u15 => ((!t16) && (!t17))) (fun u15 => decide ((mx (w_i64 (t11.Lo - t14.Hi)) (w_i64 (t14.Lo - t11.Hi))) > a2)) 43) <| .nil) [0, 1, 2, 10, 11, 12, 25, 26, 27, 30, 31, 32, 33, 34, 35, 36, 37, 38, 39, 40, 41, 42, 43, 49, 50, 51, 52] fun u15 a w' H => ?_
    refine k_cnd H (((!t16) && (!t17)) && (decide ((mx (w_i64 (t11.Lo - t14.Hi)) (w_i64 (t14.Lo - t11.Hi))) > a2))) (fun c20 => ?_) fun c20 => ?_
    ·rw [if_pos c20] at G
     refine k_srk mixed H (.v 6 (.bool true) <| .nil) [6] fun u18 a w' H => ?_
     refine k_ret ?_
     obtain rfl := sj G
     replace G := Gj2
     obtain rfl := sj G
     exact k_done0 H _ (by kernel_rfl) (by kernel_rfl)
    ·rw [if_neg (nt c20)] at G
     refine k_skip ?_
     refine k_rk mixed H (.v 44 (vI (w_i64 (x6 + 1))) <|
 .v 12 (vI (w_i64 (x6 + 1))) <| .nil) [0, 1, 2, 10, 11, 12, 25, 26, 27, 30, 31, 32, 33, 34, 35, 36, 37, 38, 39, 40, 41, 42, 49, 50, 51, 52] fun u19 a w' H => ?_
     exact ⟨k, Nat.lt_succ_self k, _, G, H.toM _⟩
   ·rw [if_neg (nt c21)] at G
    refine k_exit rfl ?_
    obtain rfl := sj G
    exact ⟨_, rfl, H.toM _⟩
def ovC (x y : G_TSegment) : Value := .agg (en_TSegment x ++ en_TSegment y ++ [vI (mx x.T y.T), vI (mn (w_i64 (x.T + x.H)) (w_i64 (y.T + y.H)))]).toArray
def ovV (La Lb : List G_TSegment) (z : Nat × Nat) : Value := match La[z.1]?, Lb[z.2]? with
 | some x, some y => ovC x y
 | _, _ => .nilFunc
theorem ovV_eq {La Lb : List G_TSegment} {z : Nat × Nat} {x y : G_TSegment} (h1 : La[z.1]? = some x) (h2 : Lb[z.2]? = some y) : ovV La Lb z = ovC x y := by unfold ovV; rw [h1, h2]
theorem approach_overlaps_1_m.ok (k0 : Nat) (q0 : List TSegment) (q1 : List TSegment) (b_q0 : Nat) (p_q0 : Option Addr) (c_q0 : Nat) (L_q0 : List G_TSegment) (b_q1 : Nat) (p_q1 : Option Addr) (c_q1 : Nat) (L_q1 : List G_TSegment) (r : List (Nat × Nat)) (h_q0 : q0 = L_q0.map er_TSegment) (h_q1 : q1 = L_q1.map er_TSegment) (G : approach_overlaps_1_m k0 q0 q1 = some r) :
  IterL Tryz.prog 86 #[vP b_q0 0, vP b_q1 0] (fun z => #[ovV L_q0 L_q1 z]) r (fun w => AllH [rdl anyF 6 p_q0 c_q0 L_q0 en_TSegment, dnK anyF E_TSegment.toPart L_q0, bxK b_q0 [.slice p_q0 L_q0.length c_q0] 31, rdl anyF 6 p_q1 c_q1 L_q1 en_TSegment, dnK anyF E_TSegment.toPart L_q1, bxK b_q1 [.slice p_q1 L_q1.length c_q1] 31] w) := by
 intro l J JX base hJ hJX hF w hJc hXc hY W h0 hsz
 have hB := hF _ _ h0
 obtain ⟨fr, hfr⟩ : ∃ fr : Nat → Prop, ∀ j, fr j := ⟨fun _ => True, fun _ => trivial⟩
 have hBf : ∀ j, w.heap.size ≤ j → fr j := fun j _ => hfr j
 have hFB : ∀ x ∈ ([(64, rdl anyF 6 p_q0 c_q0 L_q0 en_TSegment), (65, dnK anyF E_TSegment.toPart L_q0), (63, bxK b_q0 [.slice p_q0 L_q0.length c_q0] 31), (67, rdl anyF 6 p_q1 c_q1 L_q1 en_TSegment), (68, dnK anyF E_TSegment.toPart L_q1), (66, bxK b_q1 [.slice p_q1 L_q1.length c_q1] 31)] : List (Nat × KV)), (∃ fp F, x.2 = .fact fp F) ∧ x.2.holds W ∧ ∀ i, x.2.fp i → i < W.heap.size := by
  intro x hx
  simp only [List.mem_cons, List.not_mem_nil, or_false] at hx
  rcases hx with rfl | rfl | rfl | rfl | rfl | rfl
  ·exact rdF_fact (rdF_of hB.1) (fun _ _ => trivial) (by decide) _
  ·exact dn_fact (dn_of hB.2.1) (fun _ _ => trivial) _
  ·exact bx_fact (hB.2.2.1 W (agree.refl _ _)) _
  ·exact rdF_fact (rdF_of hB.2.2.2.1) (fun _ _ => trivial) (by decide) _
  ·exact dn_fact (dn_of hB.2.2.2.2.1) (fun _ _ => trivial) _
  ·exact bx_fact (hB.2.2.2.2.2.1 W (agree.refl _ _)) _
 have hFX : ∀ x ∈ ([(64, rdl anyF 6 p_q0 c_q0 L_q0 en_TSegment), (65, dnK anyF E_TSegment.toPart L_q0), (63, bxK b_q0 [.slice p_q0 L_q0.length c_q0] 31), (67, rdl anyF 6 p_q1 c_q1 L_q1 en_TSegment), (68, dnK anyF E_TSegment.toPart L_q1), (66, bxK b_q1 [.slice p_q1 L_q1.length c_q1] 31)] : List (Nat × KV)), (∃ fp F, x.2 = .fact fp F) ∧ ∀ i, x.2.fp i → i < base := fun x hx => ⟨(hFB x hx).1, by rw [← hsz]; exact (hFB x hx).2.2⟩
 have hFJ : ∀ s W, J s W → ∀ x ∈ ([(64, rdl anyF 6 p_q0 c_q0 L_q0 en_TSegment), (65, dnK anyF E_TSegment.toPart L_q0), (63, bxK b_q0 [.slice p_q0 L_q0.length c_q0] 31), (67, rdl anyF 6 p_q1 c_q1 L_q1 en_TSegment), (68, dnK anyF E_TSegment.toPart L_q1), (66, bxK b_q1 [.slice p_q1 L_q1.length c_q1] 31)] : List (Nat × KV)), x.2.holds W := fun s W h => allH_fs _ (hF _ _ h)
 have hbase : 0 < base := Nat.lt_of_le_of_lt (Nat.zero_le _) ((hFX _ (.tail _ (.tail _ (.head _)))).2 b_q0 rfl)
 refine y_enter (args := [.func (.yield l) #[] #[], vP b_q0 0, vP b_q1 0]) 63 Tryz.func86 rfl (by kernel_rfl) (by kernel_rfl) fun a H => ?_
 replace H := (H.again W (hJc _ _ h0) (Nat.zero_le _) ([(64, rdl anyF 6 p_q0 c_q0 L_q0 en_TSegment), (65, dnK anyF E_TSegment.toPart L_q0), (63, bxK b_q0 [.slice p_q0 L_q0.length c_q0] 31), (67, rdl anyF 6 p_q1 c_q1 L_q1 en_TSegment), (68, dnK anyF E_TSegment.toPart L_q1), (66, bxK b_q1 [.slice p_q1 L_q1.length c_q1] 31)] ++ [(69, jK base w (J r))]) (fun x hx => (List.mem_append.1 hx).elim (hFB x) fun hx => by
  rw [List.mem_singleton.1 hx]
  exact ⟨⟨_, _, rfl⟩, jK_same hbase (Nat.le_of_eq hsz.symm) (fun W' hs => hJ _ _ _ h0 hs) (hJc _ _ h0), fun i hi => by rw [hsz]; exact hi⟩)).toL [(0, .slot true (.func (.yield l) #[] #[])), (1, sP b_q0 0), (2, sP b_q1 0), (64, rdl anyF 6 p_q0 c_q0 L_q0 en_TSegment), (65, dnK anyF E_TSegment.toPart L_q0), (67, rdl anyF 6 p_q1 c_q1 L_q1 en_TSegment), (68, dnK anyF E_TSegment.toPart L_q1), (63, bxK b_q0 [.slice p_q0 L_q0.length c_q0] 31), (66, bxK b_q1 [.slice p_q1 L_q1.length c_q1] 31), (69, jK base w (J r))] (by kernel_rfl)
 clear hB hFB h0 hsz
 unfold approach_overlaps_1_m at G
 refine r_scope ?_
 refine r_seq ?_
 refine r_reg mixed H (.v 4 (vI 0) <| .nil) (by kernel_rfl) (by kernel_rfl) fun u1 a w' H => ?_
 replace H := H.kp [0, 1, 2, 4, 64, 65, 67, 68, 63, 66, 69]
 refine r_seq ?_
 refine r_label ?_
 refine r_seq ?_
 refine r_reg mixed H (.cons [9] (ok_ldK (fun u2 => .slice p_q0 L_q0.length c_q0) 9 63 (bxK b_q0 [.slice p_q0 L_q0.length c_q0] 31) b_q0 0 1 [.slice p_q0 L_q0.length c_q0] (fun w h => bx_of h)) <|
 .cons [10] (ok_v1 64 (rdl anyF 6 p_q0 c_q0 L_q0 en_TSegment) (vI (q0.length : Int)) 10 fun _ w h => run_lenN (((rdF_of h).2.len en_TSegment_len (by decide)).trans (map_len h_q0).symm) (by kernel_rfl)) <|
 .v 11 (vI 0) <| .nil) (by kernel_rfl) (by kernel_rfl) fun u2 a w' H => ?_
 replace H := H.kp [0, 2, 4, 9, 10, 11, 64, 65, 67, 68, 63, 66, 69]
 refine r_block ?_
 refine r_loopJ (fun m a w' => ∃ r, ∃ x3 : Int, ∃ x4 : Int, approach_overlaps_1_m.l5 k0 q0 q1 m x3 x4 = some r ∧ Rep 0 w 63 (ofL [(0, .slot true (.func (.yield l) #[] #[])), (2, sP b_q1 0), (4, sI x3), (9, sS p_q0 L_q0.length c_q0), (10, (sI (q0.length : Int))), (11, sI x4), (64, rdl anyF 6 p_q0 c_q0 L_q0 en_TSegment), (65, dnK anyF E_TSegment.toPart L_q0), (67, rdl anyF 6 p_q1 c_q1 L_q1 en_TSegment), (68, dnK anyF E_TSegment.toPart L_q1), (63, bxK b_q0 [.slice p_q0 L_q0.length c_q0] 31), (66, bxK b_q1 [.slice p_q1 L_q1.length c_q1] 31), (69, jK base w (J r))]) a w') k0 ⟨_, _, _, G, H.toM _⟩ ?_
 clear H G
 rintro (_ | k1) a w' ⟨r, x3, x4, G, H⟩
 ·exact absurd G (by unfold approach_overlaps_1_m.l5; exact fun h => by cases h)
 ·unfold approach_overlaps_1_m.l5 at G
  refine r_seq ?_
  refine r_reg mixed H (.v 12 (.bool (decide (x4 < (q0.length : Int)))) <| .nil) (by kernel_rfl) (by kernel_rfl) fun u6 a w' H => ?_
  replace H := H.kp [0, 2, 4, 9, 10, 11, 12, 64, 65, 67, 68, 63, 66, 69]
  refine r_seq ?_
  refine r_cond H (by kernel_rfl) (t := decide (x4 < (q0.length : Int))) (by kernel_rfl) (fun c36 => ?_) (fun c36 => ?_)
  ·rw [if_pos c36] at G
   refine r_skip ?_
   refine r_seq ?_
   refine r_block ?_
   refine r_seq ?_
   replace G := gd G; obtain ⟨b8, G⟩ := G
   replace G := bnd G; obtain ⟨t9, ht9, G⟩ := G
   obtain ⟨p_t9_From, c_t9_From, p_t9_Pre, c_t9_Pre, p_t9_Tube, c_t9_Tube, p_t9_To, c_t9_To, y_t9⟩ := get_TSegment h_q0 ht9
   refine r_reg mixed H (.cons [13] (ok_v1 64 (rdl anyF 6 p_q0 c_q0 L_q0 en_TSegment) (.pointer (some ⟨hdB p_q0, hdO p_q0 + x4.toNat * 6, none⟩)) 13 fun _ w h => ixr 31 .i64 x4 p_q0 L_q0.length c_q0 q0 en_TSegment (rdF_of h).2 en_TSegment_len (map_len h_q0) b8) <|
 .cons [14] (ok_v1 64 (rdl anyF 6 p_q0 c_q0 L_q0 en_TSegment) (.agg #[vI t9.T, vI t9.H, .slice p_t9_From t9.From.length c_t9_From, .slice p_t9_Pre t9.Pre.length c_t9_Pre, .slice p_t9_Tube t9.Tube.length c_t9_Tube, .slice p_t9_To t9.To.length c_t9_To]) 14 fun _ w h => ldr en_TSegment (rdF_of h).2 en_TSegment_len y_t9 0 6 [vI t9.T, vI t9.H, .slice p_t9_From t9.From.length c_t9_From, .slice p_t9_Pre t9.Pre.length c_t9_Pre, .slice p_t9_Tube t9.Tube.length c_t9_Tube, .slice p_t9_To t9.To.length c_t9_To]) <|
 .cons [6, 70] (ok_new (fun b => vP b 0) (fun u7 => [vI 0, vI 0, .slice none 0 0, .slice none 0 0, .slice none 0 0, .slice none 0 0]) 63 6 70) <|
 .cons [70] (ok_as (u' := fun u7 => [(70, .blk ((u7 2).n 0) [vI t9.T, vI t9.H, .slice p_t9_From t9.From.length c_t9_From, .slice p_t9_Pre t9.Pre.length c_t9_Pre, .slice p_t9_Tube t9.Tube.length c_t9_Tube, .slice p_t9_To t9.To.length c_t9_To] 63)]) (ok_store 70 0 (fun u7 => ((u7 2).n 0)) (fun u7 => [vI 0, vI 0, .slice none 0 0, .slice none 0 0, .slice none 0 0, .slice none 0 0]) (fun u7 => [vI t9.T, vI t9.H, .slice p_t9_From t9.From.length c_t9_From, .slice p_t9_Pre t9.Pre.length c_t9_Pre, .slice p_t9_Tube t9.Tube.length c_t9_Tube, .slice p_t9_To t9.To.length c_t9_To]) 63) (fun _ => by kernel_rfl)) <| .nil) (by kernel_rfl) (by kernel_rfl) fun u7 a w' H => ?_
   replace H := H.kp [0, 2, 4, 6, 9, 10, 11, 64, 65, 67, 68, 70, 63, 66, 69]
   refine r_seq ?_
   replace G := bnd G; obtain ⟨j11, hj11, G⟩ := G
   refine r_join (fun a w' => Rep 0 w 63 (ofL [(0, .slot true (.func (.yield l) #[] #[])), (2, sP b_q1 0), (4, sI j11), (6, (sP ((u7 2).n 0) 0)), (9, sS p_q0 L_q0.length c_q0), (10, (sI (q0.length : Int))), (11, sI x4), (64, rdl anyF 6 p_q0 c_q0 L_q0 en_TSegment), (65, dnK anyF E_TSegment.toPart L_q0), (67, rdl anyF 6 p_q1 c_q1 L_q1 en_TSegment), (68, dnK anyF E_TSegment.toPart L_q1), (70, .blk ((u7 2).n 0) [vI t9.T, vI t9.H, .slice p_t9_From t9.From.length c_t9_From, .slice p_t9_Pre t9.Pre.length c_t9_Pre, .slice p_t9_Tube t9.Tube.length c_t9_Tube, .slice p_t9_To t9.To.length c_t9_To] 63), (63, bxK b_q0 [.slice p_q0 L_q0.length c_q0] 31), (66, bxK b_q1 [.slice p_q1 L_q1.length c_q1] 31), (69, jK base w (J r))]) a w') ?_ ?_
   ·clear H; intro a w' H
    refine r_seq ?_
    replace G := gd G; obtain ⟨b13, G⟩ := G
    refine r_reg mixed H (.cons [31] (ok_ldK (fun u12 => .slice p_q1 L_q1.length c_q1) 31 66 (bxK b_q1 [.slice p_q1 L_q1.length c_q1] 31) b_q1 0 1 [.slice p_q1 L_q1.length c_q1] (fun w h => bx_of h)) <|
 .v 32 (vI j11) <|
 .cons [33] (ok_valL [67] (fun u12 => [rdl anyF 6 p_q1 c_q1 L_q1 en_TSegment]) (fun u12 => .slice (viewP p_q1 j11.toNat 6 c_q1) ((L_q1.drop j11.toNat).length) (c_q1 - j11.toNat)) (fun u12 => true) [true, true] 33 (fun u12 w _ hF => run_of (by kernel_rfl) (run_low (t := 31) (sz := 6) (l := L_q1) (k := .i64) rfl (by rw [← map_len h_q1]; exact b13)))) <|
 .cons [34] (ok_v1 67 (rdl anyF 6 p_q1 c_q1 L_q1 en_TSegment) (vI ((q1.drop j11.toNat).length : Int)) 34 fun _ w h => run_lenN (((RowC.low (en := en_TSegment) (rdF_of h) en_TSegment_len (by rw [← map_len h_q1]; exact b13)).2.len en_TSegment_len (by decide)).trans (map_len (map_drop h_q1 j11.toNat)).symm) (by kernel_rfl)) <|
 .v 35 (vI 0) <| .nil) (by kernel_rfl) (by kernel_rfl) fun u12 a w' H => ?_
    replace H := H.kp [0, 2, 4, 6, 9, 10, 11, 33, 34, 35, 64, 65, 67, 68, 70, 63, 66, 69]
    refine r_block ?_
    refine r_loopJ (fun m a w' => ∃ r, ∃ x14 : Int, approach_overlaps_1_m.l15 k0 q0 q1 x3 x4 t9 j11 (approach_overlaps_1_m.l5 k0 q0 q1 k1) m x14 = some r ∧ Rep 0 w 63 (ofL [(0, .slot true (.func (.yield l) #[] #[])), (2, sP b_q1 0), (4, sI j11), (6, (sP ((u7 2).n 0) 0)), (9, sS p_q0 L_q0.length c_q0), (10, (sI (q0.length : Int))), (11, sI x4), (33, (sS (viewP p_q1 j11.toNat 6 c_q1) ((L_q1.drop j11.toNat).length) (c_q1 - j11.toNat))), (34, (sI ((q1.drop j11.toNat).length : Int))), (35, sI x14), (64, rdl anyF 6 p_q0 c_q0 L_q0 en_TSegment), (65, dnK anyF E_TSegment.toPart L_q0), (67, rdl anyF 6 p_q1 c_q1 L_q1 en_TSegment), (68, dnK anyF E_TSegment.toPart L_q1), (70, .blk ((u7 2).n 0) [vI t9.T, vI t9.H, .slice p_t9_From t9.From.length c_t9_From, .slice p_t9_Pre t9.Pre.length c_t9_Pre, .slice p_t9_Tube t9.Tube.length c_t9_Tube, .slice p_t9_To t9.To.length c_t9_To] 63), (63, bxK b_q0 [.slice p_q0 L_q0.length c_q0] 31), (66, bxK b_q1 [.slice p_q1 L_q1.length c_q1] 31), (69, jK base w (J r))]) a w') k0 ⟨_, _, G, H.toM _⟩ ?_
    clear H G
    rintro (_ | k2) a w' ⟨r, x14, G, H⟩
    ·exact absurd G (by unfold approach_overlaps_1_m.l15; exact fun h => by cases h)
    ·unfold approach_overlaps_1_m.l15 at G
     refine r_seq ?_
     refine r_reg mixed H (.v 36 (.bool (decide (x14 < ((q1.drop j11.toNat).length : Int)))) <| .nil) (by kernel_rfl) (by kernel_rfl) fun u16 a w' H => ?_
     replace H := H.kp [0, 2, 4, 6, 9, 10, 11, 33, 34, 35, 36, 64, 65, 67, 68, 70, 63, 66, 69]
     refine r_seq ?_
     refine r_cond H (by kernel_rfl) (t := decide (x14 < ((q1.drop j11.toNat).length : Int))) (by kernel_rfl) (fun c29 => ?_) (fun c29 => ?_)
     ·rw [if_pos c29] at G
      refine r_skip ?_
      refine r_seq ?_
      refine r_block ?_
      refine r_seq ?_
      replace G := gd G; obtain ⟨b18, G⟩ := G
      replace G := bnd G; obtain ⟨t19, ht19, G⟩ := G
      obtain ⟨p_t19_From, c_t19_From, p_t19_Pre, c_t19_Pre, p_t19_Tube, c_t19_Tube, p_t19_To, c_t19_To, y_t19⟩ := get_TSegment (map_drop h_q1 j11.toNat) ht19
      refine r_reg mixed H (.cons [37] (ok_v1 67 (rdl anyF 6 p_q1 c_q1 L_q1 en_TSegment) (.pointer (some ⟨hdB (viewP p_q1 j11.toNat 6 c_q1), hdO (viewP p_q1 j11.toNat 6 c_q1) + x14.toNat * 6, none⟩)) 37 fun _ w h => ixr 31 .i64 x14 (viewP p_q1 j11.toNat 6 c_q1) (L_q1.drop j11.toNat).length (c_q1 - j11.toNat) (q1.drop j11.toNat) en_TSegment (RowC.low (en := en_TSegment) (rdF_of h) en_TSegment_len (by rw [← map_len h_q1]; exact b13)).2 en_TSegment_len (map_len (map_drop h_q1 j11.toNat)) b18) <|
 .cons [38] (ok_v1 67 (rdl anyF 6 p_q1 c_q1 L_q1 en_TSegment) (.agg #[vI t19.T, vI t19.H, .slice p_t19_From t19.From.length c_t19_From, .slice p_t19_Pre t19.Pre.length c_t19_Pre, .slice p_t19_Tube t19.Tube.length c_t19_Tube, .slice p_t19_To t19.To.length c_t19_To]) 38 fun _ w h => ldr en_TSegment (RowC.low (en := en_TSegment) (rdF_of h) en_TSegment_len (by rw [← map_len h_q1]; exact b13)).2 en_TSegment_len y_t19 0 6 [vI t19.T, vI t19.H, .slice p_t19_From t19.From.length c_t19_From, .slice p_t19_Pre t19.Pre.length c_t19_Pre, .slice p_t19_Tube t19.Tube.length c_t19_Tube, .slice p_t19_To t19.To.length c_t19_To]) <|
 .cons [8, 71] (ok_new (fun b => vP b 0) (fun u17 => [vI 0, vI 0, .slice none 0 0, .slice none 0 0, .slice none 0 0, .slice none 0 0]) 63 8 71) <|
 .cons [71] (ok_as (u' := fun u17 => [(71, .blk ((u17 2).n 0) [vI t19.T, vI t19.H, .slice p_t19_From t19.From.length c_t19_From, .slice p_t19_Pre t19.Pre.length c_t19_Pre, .slice p_t19_Tube t19.Tube.length c_t19_Tube, .slice p_t19_To t19.To.length c_t19_To] 63)]) (ok_store 71 0 (fun u17 => ((u17 2).n 0)) (fun u17 => [vI 0, vI 0, .slice none 0 0, .slice none 0 0, .slice none 0 0, .slice none 0 0]) (fun u17 => [vI t19.T, vI t19.H, .slice p_t19_From t19.From.length c_t19_From, .slice p_t19_Pre t19.Pre.length c_t19_Pre, .slice p_t19_Tube t19.Tube.length c_t19_Tube, .slice p_t19_To t19.To.length c_t19_To]) 63) (fun _ => by kernel_rfl)) <| .nil) (by kernel_rfl) (by kernel_rfl) fun u17 a w' H => ?_
      replace H := H.kp [0, 2, 4, 6, 8, 9, 10, 11, 33, 34, 35, 64, 65, 67, 68, 70, 71, 63, 66, 69]
      refine r_seq ?_
      refine r_seq ?_
      replace G := bnd G; obtain ⟨t21, ht21, G⟩ := G
      refine r_regT mixed H (.v 39 (vP ((u17 2).n 0) 0) <|
 .cons [40] (ok_ldc (vI t19.T) 40 71 0 1 ((u17 2).n 0) [vI t19.T, vI t19.H, .slice p_t19_From t19.From.length c_t19_From, .slice p_t19_Pre t19.Pre.length c_t19_Pre, .slice p_t19_Tube t19.Tube.length c_t19_Tube, .slice p_t19_To t19.To.length c_t19_To] 63) <|
 .cons [41] (ok_ldc (.agg #[vI t9.T, vI t9.H, .slice p_t9_From t9.From.length c_t9_From, .slice p_t9_Pre t9.Pre.length c_t9_Pre, .slice p_t9_Tube t9.Tube.length c_t9_Tube, .slice p_t9_To t9.To.length c_t9_To]) 41 70 0 6 ((u7 2).n 0) [vI t9.T, vI t9.H, .slice p_t9_From t9.From.length c_t9_From, .slice p_t9_Pre t9.Pre.length c_t9_Pre, .slice p_t9_Tube t9.Tube.length c_t9_Tube, .slice p_t9_To t9.To.length c_t9_To] 63) <|
 .cons [42] (ok_callL [65] (fun u20 => [dnK anyF E_TSegment.toPart L_q0]) 87 _ _ 42 (fun u20 w hF => approach_end.calls (⟨t9.T, t9.H, t9.From, t9.Pre, t9.Tube, t9.To⟩ : TSegment) p_t9_From c_t9_From p_t9_Pre c_t9_Pre p_t9_Tube c_t9_Tube p_t9_To c_t9_To t21 w  ⟨(rdA (show RowC _ 2 p_t9_From t9.From.length c_t9_From (t9.From.flatMap en_TInterval) from ((dn_of hF.1) _ (List.mem_of_getElem? y_t9)).1.1)), (rdA (show RowC _ 2 p_t9_Pre t9.Pre.length c_t9_Pre (t9.Pre.flatMap en_TInterval) from ((dn_of hF.1) _ (List.mem_of_getElem? y_t9)).2.1.1)), (rdA (show RowC _ 2 p_t9_Tube t9.Tube.length c_t9_Tube (t9.Tube.flatMap en_TInterval) from ((dn_of hF.1) _ (List.mem_of_getElem? y_t9)).2.2.1.1)), (rdA (show RowC _ 2 p_t9_To t9.To.length c_t9_To (t9.To.flatMap en_TInterval) from ((dn_of hF.1) _ (List.mem_of_getElem? y_t9)).2.2.2.1)), trivial⟩ ht21)) <|
 .v 43 (.bool (decide (t19.T > t21))) <| .nil) (by kernel_rfl) (by kernel_rfl) fun u20 a w' H => ?_
      replace H := H.kp [0, 2, 4, 6, 8, 9, 10, 11, 33, 34, 35, 43, 64, 65, 67, 68, 70, 71, 63, 66, 69]
      refine r_cond H (by kernel_rfl) (t := decide (t19.T > t21)) (by kernel_rfl) (fun c27 => ?_) (fun c27 => ?_)
      ·rw [if_pos c27] at G
       refine r_exit rfl ?_
       refine r_reg mixed H (.v 62 (vI (w_i64 (x4 + 1))) <|
 .v 11 (vI (w_i64 (x4 + 1))) <| .nil) (by kernel_rfl) (by kernel_rfl) fun u22 a w' H => ?_
       replace H := H.kp [0, 2, 4, 9, 10, 11, 64, 65, 67, 68, 63, 66, 69]
       exact ⟨k1, Nat.lt_succ_self k1, _, _, _, G, H.toM _⟩
      ·rw [if_neg (nt c27)] at G
       refine r_skip ?_
       refine r_seq ?_
       replace G := bnd G; obtain ⟨t24, ht24, G⟩ := G
       replace G := bnd G; obtain ⟨t25, ht25, G⟩ := G
       replace G := bnd G; obtain ⟨r, hr, G⟩ := G; obtain rfl := sj G; replace G := hr; clear hr
       refine r_of (y_reg (Rp := RepK 69 [64, 65, 63, 67, 68, 66] base w 63) mixed ⟨H.toM [(0, .slot true (.func (.yield l) #[] #[])), (2, sP b_q1 0), (4, sI j11), (6, (sP ((u7 2).n 0) 0)), (8, (sP ((u17 2).n 0) 0)), (9, sS p_q0 L_q0.length c_q0), (10, (sI (q0.length : Int))), (11, sI x4), (33, (sS (viewP p_q1 j11.toNat 6 c_q1) ((L_q1.drop j11.toNat).length) (c_q1 - j11.toNat))), (34, (sI ((q1.drop j11.toNat).length : Int))), (35, sI x14), (43, (sB (decide (t19.T > t21)))), (64, rdl anyF 6 p_q0 c_q0 L_q0 en_TSegment), (65, dnK anyF E_TSegment.toPart L_q0), (67, rdl anyF 6 p_q1 c_q1 L_q1 en_TSegment), (68, dnK anyF E_TSegment.toPart L_q1), (70, .blk ((u7 2).n 0) [vI t9.T, vI t9.H, .slice p_t9_From t9.From.length c_t9_From, .slice p_t9_Pre t9.Pre.length c_t9_Pre, .slice p_t9_Tube t9.Tube.length c_t9_Tube, .slice p_t9_To t9.To.length c_t9_To] 63), (71, .blk ((u17 2).n 0) [vI t19.T, vI t19.H, .slice p_t19_From t19.From.length c_t19_From, .slice p_t19_Pre t19.Pre.length c_t19_Pre, .slice p_t19_Tube t19.Tube.length c_t19_Tube, .slice p_t19_To t19.To.length c_t19_To] 63), (63, bxK b_q0 [.slice p_q0 L_q0.length c_q0] 31), (66, bxK b_q1 [.slice p_q1 L_q1.length c_q1] 31), (69, jK base w (J ((x4.toNat, j11.toNat + x14.toNat) :: r)))] (by kernel_rfl), onlyK_of _ (by kernel_rfl)⟩ (.cons [44] (okk (ok_val (fun u23 => .func (.yield l) #[] #[]) 44)) <|
 .cons [45] (okk (ok_ldc (.agg #[vI t9.T, vI t9.H, .slice p_t9_From t9.From.length c_t9_From, .slice p_t9_Pre t9.Pre.length c_t9_Pre, .slice p_t9_Tube t9.Tube.length c_t9_Tube, .slice p_t9_To t9.To.length c_t9_To]) 45 70 0 6 ((u7 2).n 0) [vI t9.T, vI t9.H, .slice p_t9_From t9.From.length c_t9_From, .slice p_t9_Pre t9.Pre.length c_t9_Pre, .slice p_t9_Tube t9.Tube.length c_t9_Tube, .slice p_t9_To t9.To.length c_t9_To] 63)) <|
 .cons [46] (okk (ok_ldc (.agg #[vI t19.T, vI t19.H, .slice p_t19_From t19.From.length c_t19_From, .slice p_t19_Pre t19.Pre.length c_t19_Pre, .slice p_t19_Tube t19.Tube.length c_t19_Tube, .slice p_t19_To t19.To.length c_t19_To]) 46 71 0 6 ((u17 2).n 0) [vI t19.T, vI t19.H, .slice p_t19_From t19.From.length c_t19_From, .slice p_t19_Pre t19.Pre.length c_t19_Pre, .slice p_t19_Tube t19.Tube.length c_t19_Tube, .slice p_t19_To t19.To.length c_t19_To] 63)) <|
 .cons [47] (okk (ok_val (fun u23 => vP ((u7 2).n 0) 0) 47)) <|
 .cons [48] (okk (ok_ldc (vI t9.T) 48 70 0 1 ((u7 2).n 0) [vI t9.T, vI t9.H, .slice p_t9_From t9.From.length c_t9_From, .slice p_t9_Pre t9.Pre.length c_t9_Pre, .slice p_t9_Tube t9.Tube.length c_t9_Tube, .slice p_t9_To t9.To.length c_t9_To] 63)) <|
 .cons [49] (okk (ok_val (fun u23 => vP ((u17 2).n 0) 0) 49)) <|
 .cons [50] (okk (ok_ldc (vI t19.T) 50 71 0 1 ((u17 2).n 0) [vI t19.T, vI t19.H, .slice p_t19_From t19.From.length c_t19_From, .slice p_t19_Pre t19.Pre.length c_t19_Pre, .slice p_t19_Tube t19.Tube.length c_t19_Tube, .slice p_t19_To t19.To.length c_t19_To] 63)) <|
 .cons [51] (okk (ok_val (fun u23 => vI (mx t9.T t19.T)) 51)) <|
 .cons [52] (okk (ok_ldc (.agg #[vI t9.T, vI t9.H, .slice p_t9_From t9.From.length c_t9_From, .slice p_t9_Pre t9.Pre.length c_t9_Pre, .slice p_t9_Tube t9.Tube.length c_t9_Tube, .slice p_t9_To t9.To.length c_t9_To]) 52 70 0 6 ((u7 2).n 0) [vI t9.T, vI t9.H, .slice p_t9_From t9.From.length c_t9_From, .slice p_t9_Pre t9.Pre.length c_t9_Pre, .slice p_t9_Tube t9.Tube.length c_t9_Tube, .slice p_t9_To t9.To.length c_t9_To] 63)) <|
 .cons [53] (okk (ok_callL [65] (fun u23 => [dnK anyF E_TSegment.toPart L_q0]) 87 _ _ 53 (fun u23 w hF => approach_end.calls (⟨t9.T, t9.H, t9.From, t9.Pre, t9.Tube, t9.To⟩ : TSegment) p_t9_From c_t9_From p_t9_Pre c_t9_Pre p_t9_Tube c_t9_Tube p_t9_To c_t9_To t24 w  ⟨(rdA (show RowC _ 2 p_t9_From t9.From.length c_t9_From (t9.From.flatMap en_TInterval) from ((dn_of hF.1) _ (List.mem_of_getElem? y_t9)).1.1)), (rdA (show RowC _ 2 p_t9_Pre t9.Pre.length c_t9_Pre (t9.Pre.flatMap en_TInterval) from ((dn_of hF.1) _ (List.mem_of_getElem? y_t9)).2.1.1)), (rdA (show RowC _ 2 p_t9_Tube t9.Tube.length c_t9_Tube (t9.Tube.flatMap en_TInterval) from ((dn_of hF.1) _ (List.mem_of_getElem? y_t9)).2.2.1.1)), (rdA (show RowC _ 2 p_t9_To t9.To.length c_t9_To (t9.To.flatMap en_TInterval) from ((dn_of hF.1) _ (List.mem_of_getElem? y_t9)).2.2.2.1)), trivial⟩ ht24))) <|
 .cons [54] (okk (ok_ldc (.agg #[vI t19.T, vI t19.H, .slice p_t19_From t19.From.length c_t19_From, .slice p_t19_Pre t19.Pre.length c_t19_Pre, .slice p_t19_Tube t19.Tube.length c_t19_Tube, .slice p_t19_To t19.To.length c_t19_To]) 54 71 0 6 ((u17 2).n 0) [vI t19.T, vI t19.H, .slice p_t19_From t19.From.length c_t19_From, .slice p_t19_Pre t19.Pre.length c_t19_Pre, .slice p_t19_Tube t19.Tube.length c_t19_Tube, .slice p_t19_To t19.To.length c_t19_To] 63)) <|
 .cons [55] (okk (ok_callL [68] (fun u23 => [dnK anyF E_TSegment.toPart L_q1]) 87 _ _ 55 (fun u23 w hF => approach_end.calls (⟨t19.T, t19.H, t19.From, t19.Pre, t19.Tube, t19.To⟩ : TSegment) p_t19_From c_t19_From p_t19_Pre c_t19_Pre p_t19_Tube c_t19_Tube p_t19_To c_t19_To t25 w  ⟨(rdA (show RowC _ 2 p_t19_From t19.From.length c_t19_From (t19.From.flatMap en_TInterval) from ((rdl_drop (dn_of hF.1)) _ (List.mem_of_getElem? y_t19)).1.1)), (rdA (show RowC _ 2 p_t19_Pre t19.Pre.length c_t19_Pre (t19.Pre.flatMap en_TInterval) from ((rdl_drop (dn_of hF.1)) _ (List.mem_of_getElem? y_t19)).2.1.1)), (rdA (show RowC _ 2 p_t19_Tube t19.Tube.length c_t19_Tube (t19.Tube.flatMap en_TInterval) from ((rdl_drop (dn_of hF.1)) _ (List.mem_of_getElem? y_t19)).2.2.1.1)), (rdA (show RowC _ 2 p_t19_To t19.To.length c_t19_To (t19.To.flatMap en_TInterval) from ((rdl_drop (dn_of hF.1)) _ (List.mem_of_getElem? y_t19)).2.2.2.1)), trivial⟩ ht25))) <|
 .cons [56] (okk (ok_val (fun u23 => vI (mn t24 t25)) 56)) <|
 .cons [57] (okk (ok_val (fun u23 => .agg #[vI (mx t9.T t19.T), vI (mn t24 t25)]) 57)) <|
 .cons [58] (okk (ok_val (fun u23 => .agg #[vI t9.T, vI t9.H, .slice p_t9_From t9.From.length c_t9_From, .slice p_t9_Pre t9.Pre.length c_t9_Pre, .slice p_t9_Tube t9.Tube.length c_t9_Tube, .slice p_t9_To t9.To.length c_t9_To, vI t19.T, vI t19.H, .slice p_t19_From t19.From.length c_t19_From, .slice p_t19_Pre t19.Pre.length c_t19_Pre, .slice p_t19_Tube t19.Tube.length c_t19_Tube, .slice p_t19_To t19.To.length c_t19_To, vI (mx t9.T t19.T), vI (mn t24 t25)]) 58)) <|
 .cons [59, 69, 64, 65, 63, 67, 68, 66] (ok_yieldK (base := base) 69 [64, 65, 63, 67, 68, 66] l (fun u23 => #[.agg #[vI t9.T, vI t9.H, .slice p_t9_From t9.From.length c_t9_From, .slice p_t9_Pre t9.Pre.length c_t9_Pre, .slice p_t9_Tube t9.Tube.length c_t9_Tube, .slice p_t9_To t9.To.length c_t9_To, vI t19.T, vI t19.H, .slice p_t19_From t19.From.length c_t19_From, .slice p_t19_Pre t19.Pre.length c_t19_Pre, .slice p_t19_Tube t19.Tube.length c_t19_Tube, .slice p_t19_To t19.To.length c_t19_To, vI (mx t9.T t19.T), vI (mn t24 t25)]]) (J ((x4.toNat, j11.toNat + x14.toNat) :: r)) (J r) JX 59 hbase (by intro _; kernel_rfl) (fun u23 W1 h1 hb1 => (show #[ovV L_q0 L_q1 (x4.toNat, j11.toNat + x14.toNat)] = #[.agg #[vI t9.T, vI t9.H, .slice p_t9_From t9.From.length c_t9_From, .slice p_t9_Pre t9.Pre.length c_t9_Pre, .slice p_t9_Tube t9.Tube.length c_t9_Tube, .slice p_t9_To t9.To.length c_t9_To, vI t19.T, vI t19.H, .slice p_t19_From t19.From.length c_t19_From, .slice p_t19_Pre t19.Pre.length c_t19_Pre, .slice p_t19_Tube t19.Tube.length c_t19_Tube, .slice p_t19_To t19.To.length c_t19_To, vI (mx t9.T t19.T), vI (mn t24 t25)]] from by
   rw [ovV_eq (z := (x4.toNat, j11.toNat + x14.toNat)) y_t9 (List.getElem?_drop.symm.trans y_t19), ← Option.some.inj (show some (w_i64 (t9.T + t9.H)) = some t24 from ht24), ← Option.some.inj (show some (w_i64 (t19.T + t19.H)) = some t25 from ht25)]
   rfl) ▸ hY (x4.toNat, j11.toNat + x14.toNat) r W1 h1 hb1) (fun W1 W2 h1 h2 => hJ _ _ _ h1 h2) hJX (fun W1 h1 => hJc _ _ h1) hXc (by rfl) (by rfl)) <|
 .cons [60] (okk (ok_val (fun u23 => .bool (!(decide ((u23 15).n 0 = 1)))) 60)) <| (.nil)) (by kernel_rfl) (fun S a w1 h => ⟨h.1.world ⟨rfl, rfl, rfl, Nat.le_refl _, fun _ _ => rfl⟩, h.2⟩) fun u23 a w' H => ?_)
       replace H := H.1.toL [(0, .slot true (.func (.yield l) #[] #[])), (2, sP b_q1 0), (4, sI j11), (6, (sP ((u7 2).n 0) 0)), (9, sS p_q0 L_q0.length c_q0), (10, (sI (q0.length : Int))), (11, sI x4), (33, (sS (viewP p_q1 j11.toNat 6 c_q1) ((L_q1.drop j11.toNat).length) (c_q1 - j11.toNat))), (34, (sI ((q1.drop j11.toNat).length : Int))), (35, sI x14), (60, (sB (!(decide ((u23 15).n 0 = 1))))), (70, .blk ((u7 2).n 0) [vI t9.T, vI t9.H, .slice p_t9_From t9.From.length c_t9_From, .slice p_t9_Pre t9.Pre.length c_t9_Pre, .slice p_t9_Tube t9.Tube.length c_t9_Tube, .slice p_t9_To t9.To.length c_t9_To] 63), (69, bif decide ((u23 15).n 0 = 1) then jK base w (J r) else jK base w JX)] (by kernel_rfl)
       rcases Bool.eq_false_or_eq_true (decide ((u23 15).n 0 = 1)) with hb | hb
       ·rw [hb] at H
        replace H := H.kp [0, 2, 4, 6, 9, 10, 11, 33, 34, 35, 60, 70, 69]
        replace H := (Rep.readd (J := J r) 69 [(64, rdl anyF 6 p_q0 c_q0 L_q0 en_TSegment), (65, dnK anyF E_TSegment.toPart L_q0), (63, bxK b_q0 [.slice p_q0 L_q0.length c_q0] 31), (67, rdl anyF 6 p_q1 c_q1 L_q1 en_TSegment), (68, dnK anyF E_TSegment.toPart L_q1), (66, bxK b_q1 [.slice p_q1 L_q1.length c_q1] 31)] _ H hFX (fun W1 h1 => hFJ _ _ h1) (by kernel_rfl) (jK_size (J := J r) hbase 69 H (by kernel_rfl)) (by rfl)).toL [(0, .slot true (.func (.yield l) #[] #[])), (2, sP b_q1 0), (4, sI j11), (6, (sP ((u7 2).n 0) 0)), (9, sS p_q0 L_q0.length c_q0), (10, (sI (q0.length : Int))), (11, sI x4), (33, (sS (viewP p_q1 j11.toNat 6 c_q1) ((L_q1.drop j11.toNat).length) (c_q1 - j11.toNat))), (34, (sI ((q1.drop j11.toNat).length : Int))), (35, sI x14), (60, sB false), (64, rdl anyF 6 p_q0 c_q0 L_q0 en_TSegment), (65, dnK anyF E_TSegment.toPart L_q0), (67, rdl anyF 6 p_q1 c_q1 L_q1 en_TSegment), (68, dnK anyF E_TSegment.toPart L_q1), (70, .blk ((u7 2).n 0) [vI t9.T, vI t9.H, .slice p_t9_From t9.From.length c_t9_From, .slice p_t9_Pre t9.Pre.length c_t9_Pre, .slice p_t9_Tube t9.Tube.length c_t9_Tube, .slice p_t9_To t9.To.length c_t9_To] 63), (63, bxK b_q0 [.slice p_q0 L_q0.length c_q0] 31), (66, bxK b_q1 [.slice p_q1 L_q1.length c_q1] 31), (69, jK base w (J r))] (by kernel_rfl)
        refine r_cond_false H (by kernel_rfl) (by kernel_rfl) ?_
        refine r_skip ?_
        refine r_reg mixed H (.v 61 (vI (w_i64 (x14 + 1))) <|
 .v 35 (vI (w_i64 (x14 + 1))) <| .nil) (by kernel_rfl) (by kernel_rfl) fun u26 a w' H => ?_
        replace H := H.kp [0, 2, 4, 6, 9, 10, 11, 33, 34, 35, 64, 65, 67, 68, 70, 63, 66, 69]
        exact ⟨k2, Nat.lt_succ_self k2, _, _, G, H.toM _⟩
       ·clear G; rw [hb] at H
        replace H := H.kp [0, 2, 4, 6, 9, 10, 11, 33, 34, 35, 60, 70, 69]
        refine r_cond_true H (by kernel_rfl) (by kernel_rfl) ?_
        refine r_ret ?_
        exact ⟨H.defers, _, run_results H (.tuple #[]) [] (by kernel_rfl) (by simp) (by kernel_rfl), ⟨_, rfl⟩, .inr ((show (jK base w JX).holds _ from H.holds 69) _ (agree.refl _ _) H.below)⟩
     ·rw [if_neg (nt c29)] at G
      refine r_exit rfl ?_
      refine r_reg mixed H (.v 62 (vI (w_i64 (x4 + 1))) <|
 .v 11 (vI (w_i64 (x4 + 1))) <| .nil) (by kernel_rfl) (by kernel_rfl) fun u28 a w' H => ?_
      replace H := H.kp [0, 2, 4, 9, 10, 11, 64, 65, 67, 68, 63, 66, 69]
      exact ⟨k1, Nat.lt_succ_self k1, _, _, _, G, H.toM _⟩
   ·clear G; replace G := hj11; clear hj11
    refine r_block ?_
    refine r_loopJ (fun m a w' => ∃ x30 : Int, approach_overlaps_1_m.l31 k0 q0 q1 x3 x4 t9 m x30 = some j11 ∧ Rep 0 w 63 (ofL [(0, .slot true (.func (.yield l) #[] #[])), (2, sP b_q1 0), (4, sI x30), (6, (sP ((u7 2).n 0) 0)), (9, sS p_q0 L_q0.length c_q0), (10, (sI (q0.length : Int))), (11, sI x4), (64, rdl anyF 6 p_q0 c_q0 L_q0 en_TSegment), (65, dnK anyF E_TSegment.toPart L_q0), (67, rdl anyF 6 p_q1 c_q1 L_q1 en_TSegment), (68, dnK anyF E_TSegment.toPart L_q1), (70, .blk ((u7 2).n 0) [vI t9.T, vI t9.H, .slice p_t9_From t9.From.length c_t9_From, .slice p_t9_Pre t9.Pre.length c_t9_Pre, .slice p_t9_Tube t9.Tube.length c_t9_Tube, .slice p_t9_To t9.To.length c_t9_To] 63), (63, bxK b_q0 [.slice p_q0 L_q0.length c_q0] 31), (66, bxK b_q1 [.slice p_q1 L_q1.length c_q1] 31), (69, jK base w (J r))]) a w') k0 ⟨_, G, H.toM _⟩ ?_
    clear G H
    rintro (_ | k) a w' ⟨x30, G, H⟩
    ·exact absurd G (by unfold approach_overlaps_1_m.l31; exact fun h => by cases h)
    ·unfold approach_overlaps_1_m.l31 at G
     refine r_seq ?_
     refine r_seq ?_
     replace G := bnd G; obtain ⟨z33, hz33, G⟩ := G
     replace hz33 := Option.some.inj hz33
     by_cases c34 : z33 = true
     ·rw [if_pos c34] at G; subst c34
      replace G := gd G; obtain ⟨b34, G⟩ := G
      replace G := bnd G; obtain ⟨t35, ht35, G⟩ := G
      obtain ⟨p_t35_From, c_t35_From, p_t35_Pre, c_t35_Pre, p_t35_Tube, c_t35_Tube, p_t35_To, c_t35_To, y_t35⟩ := get_TSegment h_q1 ht35
      have P36 := ptr_of (en := en_TSegment) (l := L_q1) (rdF_of (H.at (K := rdl anyF 6 p_q1 c_q1 L_q1 en_TSegment) 67 (by kernel_rfl))).2 en_TSegment_len
      replace G := bnd G; obtain ⟨t37, ht37, G⟩ := G
      refine r_regT mixed H (.v 15 (vI x30) <|
 .cons [16] (ok_ldK (fun u32 => .slice p_q1 L_q1.length c_q1) 16 66 (bxK b_q1 [.slice p_q1 L_q1.length c_q1] 31) b_q1 0 1 [.slice p_q1 L_q1.length c_q1] (fun w h => bx_of h)) <|
 .cons [17] (ok_v1 67 (rdl anyF 6 p_q1 c_q1 L_q1 en_TSegment) (vI (q1.length : Int)) 17 fun _ w h => run_lenN (((rdF_of h).2.len en_TSegment_len (by decide)).trans (map_len h_q1).symm) (by kernel_rfl)) <|
 .v 18 (.bool (decide (x30 < (q1.length : Int)))) <|
 .cons [19] (ok_as (u' := fun u32 => [(19, sB true)]) (ok_val (fun u32 => .bool (decide (x30 < (q1.length : Int)))) 19) (fun _ => by rw [hz33])) <|
 .cons [20] (ok_gd (ok_ldK (fun u32 => .slice p_q1 L_q1.length c_q1) 20 66 (bxK b_q1 [.slice p_q1 L_q1.length c_q1] 31) b_q1 0 1 [.slice p_q1 L_q1.length c_q1] (fun w h => bx_of h)) (by intro _; kernel_rfl)) <|
 .cons [21] (ok_gd (ok_val (fun u32 => vI x30) 21) (by intro _; kernel_rfl)) <|
 .cons [22] (ok_gd (ok_val (fun u32 => .pointer (some ⟨hdB p_q1, hdO p_q1 + x30.toNat * 6, none⟩)) 22 (hv := fun _ _ => ix_pure (t := 31) (k := .i64) (i := x30) (p := p_q1) (n := L_q1.length) (cap := c_q1) (x := q1) P36 (map_len h_q1) b34 (by kernel_rfl))) (by intro _; kernel_rfl)) <|
 .cons [23] (ok_gd (ok_v1 67 (rdl anyF 6 p_q1 c_q1 L_q1 en_TSegment) (.agg #[vI t35.T, vI t35.H, .slice p_t35_From t35.From.length c_t35_From, .slice p_t35_Pre t35.Pre.length c_t35_Pre, .slice p_t35_Tube t35.Tube.length c_t35_Tube, .slice p_t35_To t35.To.length c_t35_To]) 23 fun _ w h => ldr en_TSegment (rdF_of h).2 en_TSegment_len y_t35 0 6 [vI t35.T, vI t35.H, .slice p_t35_From t35.From.length c_t35_From, .slice p_t35_Pre t35.Pre.length c_t35_Pre, .slice p_t35_Tube t35.Tube.length c_t35_Tube, .slice p_t35_To t35.To.length c_t35_To]) (by intro _; kernel_rfl)) <|
 .cons [24] (ok_gd (ok_callL [68] (fun u32 => [dnK anyF E_TSegment.toPart L_q1]) 87 _ _ 24 (fun u32 w hF => approach_end.calls t35 p_t35_From c_t35_From p_t35_Pre c_t35_Pre p_t35_Tube c_t35_Tube p_t35_To c_t35_To t37 w  ⟨(rdA (show RowC _ 2 p_t35_From t35.From.length c_t35_From (t35.From.flatMap en_TInterval) from ((dn_of hF.1) _ (List.mem_of_getElem? y_t35)).1.1)), (rdA (show RowC _ 2 p_t35_Pre t35.Pre.length c_t35_Pre (t35.Pre.flatMap en_TInterval) from ((dn_of hF.1) _ (List.mem_of_getElem? y_t35)).2.1.1)), (rdA (show RowC _ 2 p_t35_Tube t35.Tube.length c_t35_Tube (t35.Tube.flatMap en_TInterval) from ((dn_of hF.1) _ (List.mem_of_getElem? y_t35)).2.2.1.1)), (rdA (show RowC _ 2 p_t35_To t35.To.length c_t35_To (t35.To.flatMap en_TInterval) from ((dn_of hF.1) _ (List.mem_of_getElem? y_t35)).2.2.2.1)), trivial⟩ ht37)) (by intro _; kernel_rfl)) <|
 .cons [25] (ok_gd (ok_val (fun u32 => vP ((u7 2).n 0) 0) 25) (by intro _; kernel_rfl)) <|
 .cons [26] (ok_gd (ok_ldc (vI t9.T) 26 70 0 1 ((u7 2).n 0) [vI t9.T, vI t9.H, .slice p_t9_From t9.From.length c_t9_From, .slice p_t9_Pre t9.Pre.length c_t9_Pre, .slice p_t9_Tube t9.Tube.length c_t9_Tube, .slice p_t9_To t9.To.length c_t9_To] 63) (by intro _; kernel_rfl)) <|
 .cons [27] (ok_gd (ok_val (fun u32 => .bool (decide (t37 < t9.T))) 27) (by intro _; kernel_rfl)) <|
 .cons [28] (ok_pickK (fun u32 => .bool (decide (t37 < t9.T))) 28) <| .nil) (by kernel_rfl) (by kernel_rfl) fun u32 a w' H => ?_
      replace H := H.kp [0, 2, 4, 6, 9, 10, 11, 20, 21, 22, 23, 24, 25, 26, 27, 28, 64, 65, 67, 68, 70, 63, 66, 69]
      refine r_cond H (by kernel_rfl) (t := decide (t37 < t9.T)) (by kernel_rfl) (fun c39 => ?_) (fun c39 => ?_)
      ·rw [if_pos c39] at G
       refine r_skip ?_
       refine r_block ?_
       refine r_reg mixed H (.v 29 (vI x30) <|
 .v 30 (vI (w_i64 (x30 + 1))) <|
 .v 4 (vI (w_i64 (x30 + 1))) <| .nil) (by kernel_rfl) (by kernel_rfl) fun u38 a w' H => ?_
       replace H := H.kp [0, 2, 4, 6, 9, 10, 11, 20, 21, 22, 23, 24, 25, 26, 27, 64, 65, 67, 68, 70, 63, 66, 69]
       exact ⟨k, Nat.lt_succ_self k, _, G, H.toM _⟩
      ·rw [if_neg (nt c39)] at G
       refine r_exit rfl ?_
       obtain rfl := sj G
       exact H.toM _
     rw [if_neg c34] at G
     by_cases c35 : z33 = false
     ·rw [if_pos c35] at G; subst c35
      refine r_regT mixed H (.v 15 (vI x30) <|
 .cons [16] (ok_ldK (fun u32 => .slice p_q1 L_q1.length c_q1) 16 66 (bxK b_q1 [.slice p_q1 L_q1.length c_q1] 31) b_q1 0 1 [.slice p_q1 L_q1.length c_q1] (fun w h => bx_of h)) <|
 .cons [17] (ok_v1 67 (rdl anyF 6 p_q1 c_q1 L_q1 en_TSegment) (vI (q1.length : Int)) 17 fun _ w h => run_lenN (((rdF_of h).2.len en_TSegment_len (by decide)).trans (map_len h_q1).symm) (by kernel_rfl)) <|
 .v 18 (.bool (decide (x30 < (q1.length : Int)))) <|
 .cons [19] (ok_as (u' := fun u32 => [(19, sB false)]) (ok_val (fun u32 => .bool (decide (x30 < (q1.length : Int)))) 19) (fun _ => by rw [hz33])) <|
 .cons [20] (ok_offB 20) <|
 .cons [21] (ok_offB 21) <|
 .cons [22] (ok_offB 22) <|
 .cons [23] (ok_offB 23) <|
 .cons [24] (ok_offB 24) <|
 .cons [25] (ok_offB 25) <|
 .cons [26] (ok_offB 26) <|
 .cons [27] (ok_offB 27) <|
 .cons [28] (ok_pickK (fun u32 => .bool false) 28) <| .nil) (by kernel_rfl) (by kernel_rfl) fun u32 a w' H => ?_
      replace H := H.kp [0, 2, 4, 6, 9, 10, 11, 20, 21, 22, 23, 24, 25, 26, 27, 28, 64, 65, 67, 68, 70, 63, 66, 69]
      refine r_cond_false H (by kernel_rfl) (by kernel_rfl) ?_
      refine r_exit rfl ?_
      obtain rfl := sj G
      exact H.toM _
     rw [if_neg c35] at G
     cases G
  ·rw [if_neg (nt c36)] at G
   refine r_exit rfl ?_
   obtain rfl := sj G
   exact ⟨H.defers, _, run_results H (.tuple #[]) [] (by kernel_rfl) (by simp) (by kernel_rfl), ⟨_, rfl⟩, .inl ((show (jK base w (J [])).holds _ from H.holds 69) _ (agree.refl _ _) H.below)⟩
theorem approach_minimum_1_m.calls (a0 : TInterval) (q0 : TInterval) (b_q0 : Nat) (r : TInterval × TInterval) (w : World) (hM : OwnH [.blk b_q0 [vI q0.Lo, vI q0.Hi] 46] ([] ++ []) w) (G : approach_minimum_1_m a0 q0 = some r) :
  Calls Tryz.prog 89 #[.agg #[vI a0.Lo, vI a0.Hi], vP b_q0 0] w fun e w' => ∃ g : Gh, e = .returned (.agg #[vI r.1.Lo, vI r.1.Hi]) ∧ But (fpK [.blk b_q0 [vI q0.Lo, vI q0.Hi] 46]) w w' ∧ OutOK w.heap.size (fpK [.blk b_q0 [vI q0.Lo, vI q0.Hi] 46]) (frI w.heap.size []) [fun _ => .blk b_q0 [vI r.2.Lo, vI r.2.Hi] 46] w' := by
 obtain ⟨fr, hfr, hBf⟩ := frs w []
 refine k_enterY (args := [.agg #[vI a0.Lo, vI a0.Hi], vP b_q0 0]) 19 [] [(19, .blk b_q0 [vI q0.Lo, vI q0.Hi] 46)] (ownH_fps hM (by rfl)) (fun x hx => by cases hx) (by rfl) Tryz.func89 rfl (by kernel_rfl) (by kernel_rfl) fun a H => ?_
 unfold approach_minimum_1_m at G
 refine k_srk mixed H (.cons [2, 20] (ok_new (fun b => vP b 0) (fun u1 => [vI a0.Lo, vI a0.Hi]) 46 2 20) <|
 .cons [3, 21] (ok_new (fun b => vP b 0) (fun u1 => [vI 0, vI 0]) 46 3 21) <| .nil) [1, 2, 3, 19, 20, 21, 999998] fun u1 a w' H => ?_
 refine k_seq ?_
 obtain ⟨j4, hj4, G⟩ := bnd G
 refine k_join (fun a w' => Rep 0 w 19 (ofL [(1, sP b_q0 0), (2, (sP ((u1 0).n 0) 0)), (3, (sP ((u1 1).n 0) 0)), (19, .blk b_q0 [vI q0.Lo, vI q0.Hi] 46), (20, .blk ((u1 0).n 0) [vI j4.1, vI j4.2] 46), (21, .blk ((u1 1).n 0) [vI 0, vI 0] 46), (999998, frM [.blk b_q0 [vI q0.Lo, vI q0.Hi] 46] w)]) a w') ?_ ?_
 ·clear H; intro a w' H
  refine k_srk mixed H (.v 7 (vP b_q0 0) <|
 .cons [8] (ok_ldc (vI q0.Lo) 8 19 0 1 b_q0 [vI q0.Lo, vI q0.Hi] 46) <|
 .v 9 (vP ((u1 0).n 0) 0) <|
 .cons [10] (ok_ldc (vI j4.1) 10 20 0 1 ((u1 0).n 0) [vI j4.1, vI j4.2] 46) <|
 .v 11 (vI (mn q0.Lo j4.1)) <|
 .v 12 (vP b_q0 1) <|
 .cons [13] (ok_ldc (vI q0.Hi) 13 19 1 1 b_q0 [vI q0.Lo, vI q0.Hi] 46) <|
 .v 14 (vP ((u1 0).n 0) 1) <|
 .cons [15] (ok_ldc (vI j4.2) 15 20 1 1 ((u1 0).n 0) [vI j4.1, vI j4.2] 46) <|
 .v 16 (vI (mn q0.Hi j4.2)) <|
 .v 17 (.agg #[vI (mn q0.Lo j4.1), vI (mn q0.Hi j4.2)]) <|
 .cons [19] (ok_stc 19 0 b_q0 [vI q0.Lo, vI q0.Hi] [vI (mn q0.Lo j4.1), vI (mn q0.Hi j4.2)] 46 [vI (mn q0.Lo j4.1), vI (mn q0.Hi j4.2)]) <| .nil) [1, 3, 19, 21, 999998] fun u5 a w' H => ?_
  refine k_srk mixed H (.cons [18] (ok_ldc (.agg #[vI (mn q0.Lo j4.1), vI (mn q0.Hi j4.2)]) 18 19 0 2 b_q0 [vI (mn q0.Lo j4.1), vI (mn q0.Hi j4.2)] 46) <|
 .cons [21] (ok_stc 21 0 ((u1 1).n 0) [vI 0, vI 0] [vI (mn q0.Lo j4.1), vI (mn q0.Hi j4.2)] 46 [vI (mn q0.Lo j4.1), vI (mn q0.Hi j4.2)]) <| .nil) [3, 19, 21, 999998] fun u6 a w' H => ?_
  refine k_ret ?_
  obtain rfl := sj G
  have g : Gh := default
  refine k_doneZ H _ g _ _ _ fr [19] [(21, ⟨((u1 1).n 0), [vI (mn q0.Lo j4.1), vI (mn q0.Hi j4.2)], 0, 2⟩)] (.agg #[vI (mn q0.Lo j4.1), vI (mn q0.Hi j4.2)]) [fun _ => .blk b_q0 [vI (mn q0.Lo j4.1), vI (mn q0.Hi j4.2)] 46] (by rfl) (by rfl) hfr (.inr (by kernel_rfl)) (fams_cons fam_blk fams_nil) (by intro p hp; simp only [List.mem_cons, List.not_mem_nil, or_false] at hp; rcases hp with rfl; exact ⟨⟨46, by kernel_rfl⟩, by kernel_rfl⟩)
 ·clear G; replace G := hj4; clear hj4
  obtain ⟨t8, ht8, G⟩ := bnd G
  refine k_srk mixed H (.cons [4] (ok_ldc (.agg #[vI a0.Lo, vI a0.Hi]) 4 20 0 2 ((u1 0).n 0) [vI a0.Lo, vI a0.Hi] 46) <|
 .cons [5] (ok_callv 21 _ _ 5 [] (fun u7 w _ => interval_IsEntire.calls a0  t8 w  ht8)) <| .nil) [1, 2, 3, 5, 19, 20, 21, 999998] fun u7 a w' H => ?_
  refine k_cnd H t8 (fun c10 => ?_) fun c10 => ?_
  ·rw [if_pos c10] at G
   refine k_rk mixed H (.v 6 (.agg #[vI 0, vI 2147483648]) <|
 .cons [20] (ok_stc 20 0 ((u1 0).n 0) [vI a0.Lo, vI a0.Hi] [vI 0, vI 2147483648] 46 [vI 0, vI 2147483648]) <| .nil) [1, 2, 3, 19, 20, 21, 999998] fun u9 a w' H => ?_
   obtain rfl := sj G
   exact H.toM _
  ·rw [if_neg (nt c10)] at G
   refine k_skip ?_
   obtain rfl := sj G
   exact H.toM _
theorem approach_MinDistance.calls (k0 : Nat) (a0 : List TSegment) (a1 : List TSegment) (a2 : Int) (p_a0 : Option Addr) (c_a0 : Nat) (L_a0 : List G_TSegment) (p_a1 : Option Addr) (c_a1 : Nat) (L_a1 : List G_TSegment) (r : TInterval × Bool) (w : World) (h_a0 : a0 = L_a0.map er_TSegment) (h_a1 : a1 = L_a1.map er_TSegment) (hB : AllH [rdl anyF 6 p_a0 c_a0 L_a0 en_TSegment, dnK anyF E_TSegment.toPart L_a0, rdl anyF 6 p_a1 c_a1 L_a1 en_TSegment, dnK anyF E_TSegment.toPart L_a1] w) (G : approach_MinDistance k0 a0 a1 a2 = some r) :
  Calls Tryz.prog 53 #[.slice p_a0 L_a0.length c_a0, .slice p_a1 L_a1.length c_a1, vI a2] w fun e w' => e = .returned (.tuple #[.agg #[vI r.1.Lo, vI r.1.Hi], .bool r.2]) ∧ Below w.heap.size w w' := by
 obtain ⟨fr, hfr⟩ : ∃ fr : Nat → Prop, ∀ j, fr j := ⟨fun _ => True, fun _ => trivial⟩
 have hBf : ∀ j, w.heap.size ≤ j → fr j := fun j _ => hfr j
 refine k_enterM (args := [.slice p_a0 L_a0.length c_a0, .slice p_a1 L_a1.length c_a1, vI a2]) 38 [(38, rdl anyF 6 p_a0 c_a0 L_a0 en_TSegment), (39, dnK anyF E_TSegment.toPart L_a0), (40, rdl anyF 6 p_a1 c_a1 L_a1 en_TSegment), (41, dnK anyF E_TSegment.toPart L_a1)] (by
  intro x hx
  simp only [List.mem_cons, List.not_mem_nil, or_false] at hx
  rcases hx with rfl | rfl | rfl | rfl
  ·exact rdF_fact (rdF_of hB.1) (fun _ _ => trivial) (by decide) _
  ·exact dn_fact (dn_of hB.2.1) (fun _ _ => trivial) _
  ·exact rdF_fact (rdF_of hB.2.2.1) (fun _ _ => trivial) (by decide) _
  ·exact dn_fact (dn_of hB.2.2.2.1) (fun _ _ => trivial) _) Tryz.func53 rfl (by kernel_rfl) (by kernel_rfl) fun a H => ?_
 unfold approach_MinDistance at G
 refine k_srk mixed H (.cons [5, 42] (ok_new (fun b => vP b 0) (fun u1 => [vI a2]) 3 5 42) <|
 .cons [6, 43] (ok_new (fun b => vP b 0) (fun u1 => [vI 0, vI 0]) 46 6 43) <|
 .v 7 (.bool false) <| .nil) [0, 1, 5, 6, 7, 38, 39, 40, 41, 42, 43] fun u1 a w' H => ?_
 refine k_srk mixed H (.cons [8, 44] (ok_new (fun b => vP b 0) (fun u2 => [vI 0, vI 0]) 46 8 44) <| .nil) [0, 1, 5, 6, 7, 8, 38, 39, 40, 41, 42, 43, 44] fun u2 a w' H => ?_
 refine k_srk mixed H (.cons [12, 45] (ok_callB1 73 (fun u3 => #[]) (fun b1 => .func (.func 89) #[] #[vP b1 0]) [vI 2147483648, vI 2147483648] 46 12 45 (fun _ w => approach_minimum.calls w)) <|
 .cons [9, 46] (ok_new (fun b => vP b 0) (fun u3 => [.bool false]) 4 9 46) <|
 .cons [10, 47] (ok_new (fun b => vP b 0) (fun u3 => [.nilFunc]) 116 10 47) <|
 .cons [46] (ok_as (u' := fun u3 => [(46, .blk ((u3 1).n 0) [.bool false] 4)]) (ok_store 46 0 (fun u3 => ((u3 1).n 0)) (fun u3 => [.bool false]) (fun u3 => [.bool false]) 4) (fun _ => by kernel_rfl)) <|
 .cons [47] (ok_as (u' := fun u3 => [(47, .blk ((u3 2).n 0) [.func (.func 89) #[] #[vP ((u3 0).n 0) 0]] 116)]) (ok_store 47 0 (fun u3 => ((u3 2).n 0)) (fun u3 => [.nilFunc]) (fun u3 => [.func (.func 89) #[] #[vP ((u3 0).n 0) 0]]) 116) (fun _ => by kernel_rfl)) <| .nil) [0, 1, 5, 6, 7, 8, 9, 10, 38, 39, 40, 41, 42, 43, 44, 45, 46, 47] fun u3 a w' H => ?_
 refine k_seq ?_
 refine k_srk mixed H (.v 13 (.slice p_a0 L_a0.length c_a0) <|
 .v 14 (.slice p_a1 L_a1.length c_a1) <|
 .cons [15, 48, 49] (ok_callB2 71 (fun u4 => #[.slice p_a0 L_a0.length c_a0, .slice p_a1 L_a1.length c_a1]) (fun b1 b2 => .func (.func 86) #[] #[vP b1 0, vP b2 0]) [.slice p_a0 L_a0.length c_a0] [.slice p_a1 L_a1.length c_a1] 31 31 15 48 49 (fun _ w => approach_overlaps.calls a0 p_a0 L_a0.length c_a0 a1 p_a1 L_a1.length c_a1 w)) <| .nil) [5, 6, 7, 8, 9, 10, 15, 38, 39, 40, 41, 42, 43, 44, 45, 46, 47, 48, 49] fun u4 a w' H => ?_
 refine k_block ?_
 obtain ⟨t6, ht6, G⟩ := bnd G
 refine k_rangeL (fun z => #[ovV L_a0 L_a1 z]) (fun z => [(16, .slot true (ovV L_a0 L_a1 z))]) t6 (fun w => AllH [rdl anyF 6 p_a0 c_a0 L_a0 en_TSegment, dnK anyF E_TSegment.toPart L_a0, bxK ((u4 2).n 0) [.slice p_a0 L_a0.length c_a0] 31, rdl anyF 6 p_a1 c_a1 L_a1 en_TSegment, dnK anyF E_TSegment.toPart L_a1, bxK ((u4 2).n 1) [.slice p_a1 L_a1.length c_a1] 31] w) 50 51 52 (fun zs L => ∃ x9 : Int, ∃ x10 : Int, ∃ x11 : Int, ∃ x12 : Int, ∃ x13 : Bool, approach_MinDistance.l14 k0 a0 a1 a2 zs x9 x10 x11 x12 x13 = some r ∧ L = [(38, rdl anyF 6 p_a0 c_a0 L_a0 en_TSegment), (39, dnK anyF E_TSegment.toPart L_a0), (40, rdl anyF 6 p_a1 c_a1 L_a1 en_TSegment), (41, dnK anyF E_TSegment.toPart L_a1), (42, .blk ((u1 0).n 0) [vI a2] 3), (43, .blk ((u1 1).n 0) [vI 0, vI 0] 46), (44, .blk ((u2 0).n 0) [vI x9, vI x10] 46), (45, .blk ((u3 0).n 0) [vI x11, vI x12] 46), (46, .blk ((u3 1).n 0) [.bool x13] 4), (47, .blk ((u3 2).n 0) [.func (.func 89) #[] #[vP ((u3 0).n 0) 0]] 116), (48, .blk ((u4 2).n 0) [.slice p_a0 L_a0.length c_a0] 31), (49, .blk ((u4 2).n 1) [.slice p_a1 L_a1.length c_a1] 31)]) (fun _ => False) [(38, rdl anyF 6 p_a0 c_a0 L_a0 en_TSegment), (39, dnK anyF E_TSegment.toPart L_a0), (40, rdl anyF 6 p_a1 c_a1 L_a1 en_TSegment), (41, dnK anyF E_TSegment.toPart L_a1), (42, .blk ((u1 0).n 0) [vI a2] 3), (43, .blk ((u1 1).n 0) [vI 0, vI 0] 46), (44, .blk ((u2 0).n 0) [vI 0, vI 0] 46), (45, .blk ((u3 0).n 0) [vI 2147483648, vI 2147483648] 46), (46, .blk ((u3 1).n 0) [.bool false] 4), (47, .blk ((u3 2).n 0) [.func (.func 89) #[] #[vP ((u3 0).n 0) 0]] 116), (48, .blk ((u4 2).n 0) [.slice p_a0 L_a0.length c_a0] 31), (49, .blk ((u4 2).n 1) [.slice p_a1 L_a1.length c_a1] 31)] H (by kernel_rfl) (by kernel_rfl) (enters_fn Tryz.func86 (by kernel_rfl) rfl) (approach_overlaps_1_m.ok k0 a0 a1 ((u4 2).n 0) p_a0 c_a0 L_a0 ((u4 2).n 1) p_a1 c_a1 L_a1 t6 h_a0 h_a1 ht6) (puts1 16 (fun z : Nat × Nat => ovV L_a0 L_a1 z) (by rfl)) ⟨_, _, _, _, _, G, rfl⟩ (by kernel_rfl) (by kernel_rfl) (by kernel_rfl) (by kernel_rfl) (by kernel_rfl) (by kernel_rfl) (by rintro zs L ⟨x9, x10, x11, x12, x13, G, rfl⟩ x hx i hi; simp only [List.mem_cons, List.not_mem_nil, or_false] at hx; rcases hx with rfl | rfl | rfl | rfl | rfl | rfl | rfl | rfl | rfl | rfl | rfl | rfl; all_goals exact hi) (fun _ h => h.elim) (by rintro zs L a w ⟨x9, x10, x11, x12, x13, G, rfl⟩ h; have hF : AllH [rdl anyF 6 p_a0 c_a0 L_a0 en_TSegment, dnK anyF E_TSegment.toPart L_a0, .blk ((u4 2).n 0) [.slice p_a0 L_a0.length c_a0] 31, rdl anyF 6 p_a1 c_a1 L_a1 en_TSegment, dnK anyF E_TSegment.toPart L_a1, .blk ((u4 2).n 1) [.slice p_a1 L_a1.length c_a1] 31] w := ⟨h.at (K := rdl anyF 6 p_a0 c_a0 L_a0 en_TSegment) 38 (by kernel_rfl), h.at (K := dnK anyF E_TSegment.toPart L_a0) 39 (by kernel_rfl), h.at (K := .blk ((u4 2).n 0) [.slice p_a0 L_a0.length c_a0] 31) 48 (by kernel_rfl), h.at (K := rdl anyF 6 p_a1 c_a1 L_a1 en_TSegment) 40 (by kernel_rfl), h.at (K := dnK anyF E_TSegment.toPart L_a1) 41 (by kernel_rfl), h.at (K := .blk ((u4 2).n 1) [.slice p_a1 L_a1.length c_a1] 31) 49 (by kernel_rfl), trivial⟩; exact ⟨(rdA (rdF_of hF.1)), (dnA (dn_of hF.2.1)), (bx_fact hF.2.2.1 0).2.1, (rdA (rdF_of hF.2.2.2.1)), (dnA (dn_of hF.2.2.2.2.1)), (bx_fact hF.2.2.2.2.2.1 0).2.1, trivial⟩) ?_ ?_ ?_
 ·clear H G; rintro li Di bi oR oD Wi z zs L a w' hbi ⟨x9, x10, x11, x12, x13, G, rfl⟩ H
  unfold approach_MinDistance.l14 at G
  obtain ⟨t7, ht7, G⟩ := bnd G
  obtain ⟨t8, ht8, G⟩ := bnd G
  obtain ⟨p_t7_From, c_t7_From, p_t7_Pre, c_t7_Pre, p_t7_Tube, c_t7_Tube, p_t7_To, c_t7_To, y_t7⟩ := get_TSegment h_a0 ht7
  obtain ⟨p_t8_From, c_t8_From, p_t8_Pre, c_t8_Pre, p_t8_Tube, c_t8_Tube, p_t8_To, c_t8_To, y_t8⟩ := get_TSegment h_a1 ht8
  rw [ovV_eq y_t7 y_t8] at H
  replace H := H.kp [5, 6, 7, 8, 9, 10, 15, 16, 38, 39, 40, 41, 42, 43, 44, 45, 46, 47, 48, 49, 50, 51, 52]
  refine r_reg mixed H (.cons [11, 53] (ok_new (fun b => vP b 0) (fun u15 => [vI 0, vI 0, .slice none 0 0, .slice none 0 0, .slice none 0 0, .slice none 0 0, vI 0, vI 0, .slice none 0 0, .slice none 0 0, .slice none 0 0, .slice none 0 0, vI 0, vI 0]) 157 11 53) <|
 .cons [53] (ok_as (u' := fun u15 => [(53, .blk ((u15 0).n 0) [vI t7.T, vI t7.H, .slice p_t7_From t7.From.length c_t7_From, .slice p_t7_Pre t7.Pre.length c_t7_Pre, .slice p_t7_Tube t7.Tube.length c_t7_Tube, .slice p_t7_To t7.To.length c_t7_To, vI t8.T, vI t8.H, .slice p_t8_From t8.From.length c_t8_From, .slice p_t8_Pre t8.Pre.length c_t8_Pre, .slice p_t8_Tube t8.Tube.length c_t8_Tube, .slice p_t8_To t8.To.length c_t8_To, vI (mx t7.T t8.T), vI (mn (w_i64 (t7.T + t7.H)) (w_i64 (t8.T + t8.H)))] 157)]) (ok_store 53 0 (fun u15 => ((u15 0).n 0)) (fun u15 => [vI 0, vI 0, .slice none 0 0, .slice none 0 0, .slice none 0 0, .slice none 0 0, vI 0, vI 0, .slice none 0 0, .slice none 0 0, .slice none 0 0, .slice none 0 0, vI 0, vI 0]) (fun u15 => [vI t7.T, vI t7.H, .slice p_t7_From t7.From.length c_t7_From, .slice p_t7_Pre t7.Pre.length c_t7_Pre, .slice p_t7_Tube t7.Tube.length c_t7_Tube, .slice p_t7_To t7.To.length c_t7_To, vI t8.T, vI t8.H, .slice p_t8_From t8.From.length c_t8_From, .slice p_t8_Pre t8.Pre.length c_t8_Pre, .slice p_t8_Tube t8.Tube.length c_t8_Tube, .slice p_t8_To t8.To.length c_t8_To, vI (mx t7.T t8.T), vI (mn (w_i64 (t7.T + t7.H)) (w_i64 (t8.T + t8.H)))]) 157) (fun _ => by kernel_rfl)) <| .nil) (by kernel_rfl) (by kernel_rfl) fun u15 a w' H => ?_
  replace H := H.kp [5, 6, 7, 8, 9, 10, 11, 15, 38, 39, 40, 41, 42, 43, 44, 45, 46, 47, 48, 49, 53, 50, 51, 52]
  refine ⟨_, H, by kernel_rfl, fun oB w' H => ?_⟩
  replace H := H.kp [5, 6, 7, 8, 9, 10, 11, 15, 38, 39, 40, 41, 42, 43, 44, 45, 46, 47, 48, 49, 53, 50, 51, 52]
  refine r_block ?_
  replace G := gd G; obtain ⟨b17, G⟩ := G
  replace G := gd G; obtain ⟨b18, G⟩ := G
  obtain ⟨t19, ht19, G⟩ := bnd G
  obtain ⟨t20, ht20, G⟩ := bnd G
  refine r_reg mixed H (.cons [17] (ok_ldc (.func (.func 89) #[] #[vP ((u3 0).n 0) 0]) 17 47 0 1 ((u3 2).n 0) [.func (.func 89) #[] #[vP ((u3 0).n 0) 0]] 116) <|
 .v 18 (vP ((u15 0).n 0) 0) <|
 .v 19 (vP ((u15 0).n 0) 4) <|
 .cons [20] (ok_ldc (.slice p_t7_Tube t7.Tube.length c_t7_Tube) 20 53 4 1 ((u15 0).n 0) [vI t7.T, vI t7.H, .slice p_t7_From t7.From.length c_t7_From, .slice p_t7_Pre t7.Pre.length c_t7_Pre, .slice p_t7_Tube t7.Tube.length c_t7_Tube, .slice p_t7_To t7.To.length c_t7_To, vI t8.T, vI t8.H, .slice p_t8_From t8.From.length c_t8_From, .slice p_t8_Pre t8.Pre.length c_t8_Pre, .slice p_t8_Tube t8.Tube.length c_t8_Tube, .slice p_t8_To t8.To.length c_t8_To, vI (mx t7.T t8.T), vI (mn (w_i64 (t7.T + t7.H)) (w_i64 (t8.T + t8.H)))] 157) <|
 .cons [21] (ok_ldc (vI a2) 21 42 0 1 ((u1 0).n 0) [vI a2] 3) <|
 .cons [22] (ok_valL [39] (fun u16 => [dnK anyF E_TSegment.toPart L_a0]) (fun u16 => .slice p_t7_Tube ((t7.Tube.take a2.toNat).length) c_t7_Tube) (fun u16 => true) [true, true] 22 (fun u16 w _ hF => run_of (by kernel_rfl) (run_high (t := 48) (sz := 2) (l := t7.Tube) (k := .i64) rfl b17 (show RowC _ 2 p_t7_Tube t7.Tube.length c_t7_Tube (t7.Tube.flatMap en_TInterval) from ((dn_of hF.1) _ (List.mem_of_getElem? y_t7)).2.2.1.1).1))) <|
 .v 23 (vP ((u15 0).n 0) 6) <|
 .v 24 (vP ((u15 0).n 0) 10) <|
 .cons [25] (ok_ldc (.slice p_t8_Tube t8.Tube.length c_t8_Tube) 25 53 10 1 ((u15 0).n 0) [vI t7.T, vI t7.H, .slice p_t7_From t7.From.length c_t7_From, .slice p_t7_Pre t7.Pre.length c_t7_Pre, .slice p_t7_Tube t7.Tube.length c_t7_Tube, .slice p_t7_To t7.To.length c_t7_To, vI t8.T, vI t8.H, .slice p_t8_From t8.From.length c_t8_From, .slice p_t8_Pre t8.Pre.length c_t8_Pre, .slice p_t8_Tube t8.Tube.length c_t8_Tube, .slice p_t8_To t8.To.length c_t8_To, vI (mx t7.T t8.T), vI (mn (w_i64 (t7.T + t7.H)) (w_i64 (t8.T + t8.H)))] 157) <|
 .cons [26] (ok_ldc (vI a2) 26 42 0 1 ((u1 0).n 0) [vI a2] 3) <|
 .cons [27] (ok_valL [41] (fun u16 => [dnK anyF E_TSegment.toPart L_a1]) (fun u16 => .slice p_t8_Tube ((t8.Tube.take a2.toNat).length) c_t8_Tube) (fun u16 => true) [true, true] 27 (fun u16 w _ hF => run_of (by kernel_rfl) (run_high (t := 48) (sz := 2) (l := t8.Tube) (k := .i64) rfl b18 (show RowC _ 2 p_t8_Tube t8.Tube.length c_t8_Tube (t8.Tube.flatMap en_TInterval) from ((dn_of hF.1) _ (List.mem_of_getElem? y_t8)).2.2.1.1).1))) <|
 .cons [28] (ok_callL [39, 41] (fun u16 => [dnK anyF E_TSegment.toPart L_a0, dnK anyF E_TSegment.toPart L_a1]) 74 _ _ 28 (fun u16 w hF => box_SquaredDistance.calls k0 (t7.Tube.take a2.toNat) (t8.Tube.take a2.toNat) p_t7_Tube c_t7_Tube p_t8_Tube c_t8_Tube t19 w  ⟨(rdA (RowC.high (en := en_TInterval) (show RowC _ 2 p_t7_Tube t7.Tube.length c_t7_Tube (t7.Tube.flatMap en_TInterval) from ((dn_of hF.1) _ (List.mem_of_getElem? y_t7)).2.2.1.1) en_TInterval_len b17)), (rdA (RowC.high (en := en_TInterval) (show RowC _ 2 p_t8_Tube t8.Tube.length c_t8_Tube (t8.Tube.flatMap en_TInterval) from ((dn_of hF.2.1) _ (List.mem_of_getElem? y_t8)).2.2.1.1) en_TInterval_len b18)), trivial⟩ ht19)) <|
 .cons [29, 45, 45] (ok_callY false fr [] [] (fun u16 => []) [45] (fun u16 => [.blk ((u3 0).n 0) [vI x11, vI x12] 46]) 89 _ (fun u16 => []) _ _ _ [45] 29 (fun u16 w hB hF hM => approach_minimum_1_m.calls t19 (⟨x11, x12⟩ : TInterval) ((u3 0).n 0) t20 w  hM ht20) (fun u16 w hF => ⟨trivial, trivial⟩) (fun u16 g => (fams_cons fam_blk fams_nil)) (.inr (fun u16 g => (famx_cons trivial (fun K h => by cases h)))) (fun h => by cases h)) <|
 .cons [44] (ok_stc 44 0 ((u2 0).n 0) [vI x9, vI x10] [vI t20.1.Lo, vI t20.1.Hi] 46 [vI t20.1.Lo, vI t20.1.Hi]) <|
 .cons [46] (ok_stc 46 0 ((u3 1).n 0) [.bool x13] [.bool true] 4 [.bool true]) <| .nil) (by kernel_rfl) (by kernel_rfl) fun u16 a w' H => ?_
  replace H := H.kp [5, 6, 7, 8, 9, 10, 15, 38, 39, 40, 41, 42, 43, 44, 45, 46, 47, 48, 49, 50, 51, 52]
  exact ⟨_, ⟨_, _, _, _, _, G, rfl⟩, by kernel_rfl, H.toM _⟩
 ·clear H G; rintro Di L W ⟨x9, x10, x11, x12, x13, G, rfl⟩ H
  unfold approach_MinDistance.l14 at G
  replace H := H.toM [(5, (sP ((u1 0).n 0) 0)), (6, (sP ((u1 1).n 0) 0)), (7, sB false), (8, (sP ((u2 0).n 0) 0)), (9, (sP ((u3 1).n 0) 0)), (10, (sP ((u3 2).n 0) 0)), (15, .slot true (.func (.func 86) #[] #[vP ((u4 2).n 0) 0, vP ((u4 2).n 1) 0])), (38, rdl anyF 6 p_a0 c_a0 L_a0 en_TSegment), (39, dnK anyF E_TSegment.toPart L_a0), (40, rdl anyF 6 p_a1 c_a1 L_a1 en_TSegment), (41, dnK anyF E_TSegment.toPart L_a1), (42, .blk ((u1 0).n 0) [vI a2] 3), (43, .blk ((u1 1).n 0) [vI 0, vI 0] 46), (44, .blk ((u2 0).n 0) [vI x9, vI x10] 46), (45, .blk ((u3 0).n 0) [vI x11, vI x12] 46), (46, .blk ((u3 1).n 0) [.bool x13] 4), (47, .blk ((u3 2).n 0) [.func (.func 89) #[] #[vP ((u3 0).n 0) 0]] 116), (48, .blk ((u4 2).n 0) [.slice p_a0 L_a0.length c_a0] 31), (49, .blk ((u4 2).n 1) [.slice p_a1 L_a1.length c_a1] 31), (51, obK Di (.deferred (some [])))]
  refine k_after ?_
  refine r_seq ?_
  refine r_seq ?_
  refine r_reg mixed H (.cons [30] (ok_ldc (.bool x13) 30 46 0 1 ((u3 1).n 0) [.bool x13] 4) <|
 .v 31 (.bool (!x13)) <| .nil) (by kernel_rfl) (by kernel_rfl) fun u21 a w' H => ?_
  replace H := H.kp [6, 7, 8, 31, 43, 44, 51]
  refine r_cond H (by kernel_rfl) (t := (!x13)) (by kernel_rfl) (fun c25 => ?_) (fun c25 => ?_)
  ·rw [if_pos c25] at G
   refine r_seq ?_
   refine r_reg mixed H (.cons [32] (ok_ldc (.agg #[vI x9, vI x10]) 32 44 0 2 ((u2 0).n 0) [vI x9, vI x10] 46) <|
 .cons [43] (ok_stc 43 0 ((u1 1).n 0) [vI 0, vI 0] [vI x9, vI x10] 46 [vI x9, vI x10]) <|
 .v 7 (.bool false) <| .nil) (by kernel_rfl) (by kernel_rfl) fun u22 a w' H => ?_
   replace H := H.kp [6, 7, 8, 43, 44, 51]
   refine r_ret ?_
   obtain rfl := sj G
   refine k_mark 51 H (by kernel_rfl) fun w' H => ?_
   exact k_done1 H _ 43 ((u1 1).n 0) [vI x9, vI x10] 46 0 2 (by kernel_rfl) (by kernel_rfl) (by kernel_rfl) (by kernel_rfl)
  ·rw [if_neg (nt c25)] at G
   refine r_skip ?_
   refine r_seq ?_
   obtain ⟨t24, ht24, G⟩ := bnd G
   refine r_reg mixed H (.v 33 (vP ((u2 0).n 0) 0) <|
 .cons [34] (ok_ldc (vI x9) 34 44 0 1 ((u2 0).n 0) [vI x9, vI x10] 46) <|
 .v 35 (vP ((u2 0).n 0) 1) <|
 .cons [36] (ok_ldc (vI x10) 36 44 1 1 ((u2 0).n 0) [vI x9, vI x10] 46) <|
 .cons [37] (ok_callv 68 _ _ 37 [] (fun u23 w _ => interval_New.calls x9 x10  t24 w  ht24)) <|
 .cons [43] (ok_stc 43 0 ((u1 1).n 0) [vI 0, vI 0] [vI t24.Lo, vI t24.Hi] 46 [vI t24.Lo, vI t24.Hi]) <|
 .v 7 (.bool true) <| .nil) (by kernel_rfl) (by kernel_rfl) fun u23 a w' H => ?_
   replace H := H.kp [6, 7, 43, 51]
   refine r_ret ?_
   obtain rfl := sj G
   refine k_mark 51 H (by kernel_rfl) fun w' H => ?_
   exact k_done1 H _ 43 ((u1 1).n 0) [vI t24.Lo, vI t24.Hi] 46 0 2 (by kernel_rfl) (by kernel_rfl) (by kernel_rfl) (by kernel_rfl)
 ·clear H G; rintro Di L W h H; exact h.elim
end Go.Proofs.YtpmgpcklieincaaGreatDoor
