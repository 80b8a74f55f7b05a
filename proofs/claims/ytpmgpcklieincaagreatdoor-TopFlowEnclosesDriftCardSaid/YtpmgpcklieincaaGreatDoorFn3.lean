/- Each function of the program answers as the plain Lean function of its name (part 3). Printed by a program of this session. -/
import Derived.Test.YtpmgpcklieincaaGreatDoorFn2
set_option linter.unusedVariables false
set_option linter.unusedSimpArgs false
set_option maxRecDepth 100000
namespace Go.Proofs.YtpmgpcklieincaaGreatDoor
open Go Go.RowKit Go.Sx Go.Proofs
set_option maxHeartbeats 4000000 in
theorem flow_Integrate.calls (k0 : Nat) (a0 : TTape) (a1 : List TInterval) (a2 : THorizon) (p_a0_L : Option Addr) (c_a0_L : Nat) (p_a0_Out : Option Addr) (c_a0_Out : Nat) (p_a1 : Option Addr) (c_a1 : Nat) (r : List TSegment × Int) (w : World) (hB : AllH [rdl anyF 5 p_a0_L c_a0_L a0.L en_TInstruction, rdl anyF 1 p_a0_Out c_a0_Out a0.Out en_i64, gk] w) (hF : AllH [rdl anyF 2 p_a1 c_a1 a1 en_TInterval] w) (G : flow_Integrate k0 a0 a1 a2 = some r) :
  Calls Tryz.prog 11 #[.agg #[vI a0.N, .slice p_a0_L a0.L.length c_a0_L, .slice p_a0_Out a0.Out.length c_a0_Out], .slice p_a1 a1.length c_a1, .agg #[vI a2.Ctrl.Order, vI a2.Ctrl.First, vI a2.Ctrl.Least, vI a2.Ctrl.Most, vI a2.Ctrl.Wide, vI a2.T, vI a2.Last]] w fun e w' => ∃ g : Gh, e = .returned (.tuple #[.slice (g.o 0) ((g.dl er_TSegment gd_TSegment 0 r.1).length) (g.n 0), vI r.2]) ∧ But (fpK []) w w' ∧ OutOK w.heap.size (fpK []) (frI w.heap.size [rdl anyF 2 p_a1 c_a1 a1 en_TInterval]) [fun _ => owK 63 6 (g.o 0) ((g.dl er_TSegment gd_TSegment 0 r.1).length) (g.n 0) ((g.dl er_TSegment gd_TSegment 0 r.1).flatMap en_TSegment), fun fr => dnK fr E_TSegment.toPart (g.dl er_TSegment gd_TSegment 0 r.1)] w' := by
 obtain ⟨fr, hfr⟩ : ∃ fr : Nat → Prop, fr = frI w.heap.size [rdl anyF 2 p_a1 c_a1 a1 en_TInterval] := ⟨_, rfl⟩
 have hBf : ∀ j, w.heap.size ≤ j → fr j := fun j h => by rw [hfr]; exact .inl h
 refine k_enterF (args := [.agg #[vI a0.N, .slice p_a0_L a0.L.length c_a0_L, .slice p_a0_Out a0.Out.length c_a0_Out], .slice p_a1 a1.length c_a1, .agg #[vI a2.Ctrl.Order, vI a2.Ctrl.First, vI a2.Ctrl.Least, vI a2.Ctrl.Most, vI a2.Ctrl.Wide, vI a2.T, vI a2.Last]]) 90 [(90, rdl anyF 5 p_a0_L c_a0_L a0.L en_TInstruction), (91, rdl anyF 1 p_a0_Out c_a0_Out a0.Out en_i64), (999999, gk), (92, rdl fr 2 p_a1 c_a1 a1 en_TInterval)] (by
  intro x hx
  simp only [List.mem_cons, List.not_mem_nil, or_false] at hx
  rcases hx with rfl | rfl | rfl | rfl
  ·exact rdF_fact (rdF_of hB.1) (fun _ _ => trivial) (by decide) _
  ·exact rdF_fact (rdF_of hB.2.1) (fun _ _ => trivial) (by decide) _
  ·exact ⟨⟨_, _, rfl⟩, hB.2.2.1, glob_in (glob_of hB.2.2.1)⟩
  ·exact rdF_fact (rdF_of hF.1) (fun j h => by rw [hfr]; exact .inr ⟨_, (.head _), h⟩) (by decide) _) Tryz.func11 rfl (by kernel_rfl) (by kernel_rfl) fun a H => ?_
 unfold flow_Integrate at G
 refine k_seq ?_
 refine k_rg mixed H (.cons [3, 93] (ok_new (fun b => vP b 0) (fun u1 => [vI a0.N, .slice p_a0_L a0.L.length c_a0_L, .slice p_a0_Out a0.Out.length c_a0_Out]) 38 3 93) <|
   .cons [5, 94] (ok_new (fun b => vP b 0) (fun u1 => [vI a2.Ctrl.Order, vI a2.Ctrl.First, vI a2.Ctrl.Least, vI a2.Ctrl.Most, vI a2.Ctrl.Wide, vI a2.T, vI a2.Last]) 29 5 94) <|
   .v 6 (.slice none 0 0) <|
   .v 7 (vI 0) <| .nil) fun u1 a w' H => ?_
 replace H := H.kp [1, 3, 5, 90, 91, 92, 93, 94, 999999]
 refine k_seq ?_
 refine k_seq ?_
 replace G := bnd G; obtain ⟨t3, ht3, G⟩ := G
 replace G := bnd G; obtain ⟨t4, ht4, G⟩ := G
 replace G := bnd G; obtain ⟨t5, ht5, G⟩ := G
 refine k_rg mixed H (.v 13 (vP ((u1 1).n 0) 0) <|
   .cons [14] (ok_ld (fun u2 => .agg #[vI a2.Ctrl.Order, vI a2.Ctrl.First, vI a2.Ctrl.Least, vI a2.Ctrl.Most, vI a2.Ctrl.Wide]) 14 94 0 5 (fun u2 => ((u1 1).n 0)) (fun u2 => [vI a2.Ctrl.Order, vI a2.Ctrl.First, vI a2.Ctrl.Least, vI a2.Ctrl.Most, vI a2.Ctrl.Wide, vI a2.T, vI a2.Last]) 29) <|
   .cons [15] (ok_callv 30 (fun u2 => #[.agg #[vI a2.Ctrl.Order, vI a2.Ctrl.First, vI a2.Ctrl.Least, vI a2.Ctrl.Most, vI a2.Ctrl.Wide]]) (.bool t3) 15 [] (fun u2 w _ => control_Valid.calls (⟨a2.Ctrl.Order, a2.Ctrl.First, a2.Ctrl.Least, a2.Ctrl.Most, a2.Ctrl.Wide⟩ : TStepControl)  t3 w  ht3)) <|
   .v 16 (.bool (!t3)) <|
   .v 17 (.bool (!t3)) <|
   .cons [18] (ok_valg (fun u2 => vP ((u1 1).n 0) 5) (fun u2 => ((!t3) == false)) [true] 18) <|
   .cons [19] (ok_ldg (fun u2 => vI a2.T) (fun u2 => ((!t3) == false)) [false] 19 94 5 1 (fun u2 => ((u1 1).n 0)) (fun u2 => [vI a2.Ctrl.Order, vI a2.Ctrl.First, vI a2.Ctrl.Least, vI a2.Ctrl.Most, vI a2.Ctrl.Wide, vI a2.T, vI a2.Last]) 29) <|
   .cons [20] (ok_call 31 (fun u2 => #[vI a2.T]) (.bool t4) (fun u2 => ((!t3) == false)) [true, false] 20 [] (fun u2 w hg _ => fixed_Valid.calls a2.T  t4 w  (ifp ht4 hg))) <|
   .cons [21] (ok_valg (fun u2 => .bool (!t4)) (fun u2 => ((!t3) == false)) [false] 21) <|
   .cons [22] (ok_or 17 21 (fun u2 => true) (fun u2 => true) (fun u2 => (!t3)) (fun u2 => (!t4)) 22) <|
   .v 23 (.bool ((!t3) || (!t4))) <|
   .cons [24] (ok_valg (fun u2 => vP ((u1 1).n 0) 6) (fun u2 => (((!t3) || (!t4)) == false)) [true] 24) <|
   .cons [25] (ok_ldg (fun u2 => vI a2.Last) (fun u2 => (((!t3) || (!t4)) == false)) [false] 25 94 6 1 (fun u2 => ((u1 1).n 0)) (fun u2 => [vI a2.Ctrl.Order, vI a2.Ctrl.First, vI a2.Ctrl.Least, vI a2.Ctrl.Most, vI a2.Ctrl.Wide, vI a2.T, vI a2.Last]) 29) <|
   .cons [26] (ok_call 31 (fun u2 => #[vI a2.Last]) (.bool t5) (fun u2 => (((!t3) || (!t4)) == false)) [true, false] 26 [] (fun u2 w hg _ => fixed_Valid.calls a2.Last  t5 w  (ifp ht5 hg))) <|
   .cons [27] (ok_valg (fun u2 => .bool (!t5)) (fun u2 => (((!t3) || (!t4)) == false)) [false] 27) <|
   .cons [28] (ok_or 23 27 (fun u2 => true) (fun u2 => true) (fun u2 => ((!t3) || (!t4))) (fun u2 => (!t5)) 28) <|
   .v 29 (.bool (((!t3) || (!t4)) || (!t5))) <|
   .cons [30] (ok_valg (fun u2 => vP ((u1 1).n 0) 5) (fun u2 => ((((!t3) || (!t4)) || (!t5)) == false)) [true] 30) <|
   .cons [31] (ok_ldg (fun u2 => vI a2.T) (fun u2 => ((((!t3) || (!t4)) || (!t5)) == false)) [false] 31 94 5 1 (fun u2 => ((u1 1).n 0)) (fun u2 => [vI a2.Ctrl.Order, vI a2.Ctrl.First, vI a2.Ctrl.Least, vI a2.Ctrl.Most, vI a2.Ctrl.Wide, vI a2.T, vI a2.Last]) 29) <|
   .cons [32] (ok_valg (fun u2 => vP ((u1 1).n 0) 6) (fun u2 => ((((!t3) || (!t4)) || (!t5)) == false)) [true] 32) <|
   .cons [33] (ok_ldg (fun u2 => vI a2.Last) (fun u2 => ((((!t3) || (!t4)) || (!t5)) == false)) [false] 33 94 6 1 (fun u2 => ((u1 1).n 0)) (fun u2 => [vI a2.Ctrl.Order, vI a2.Ctrl.First, vI a2.Ctrl.Least, vI a2.Ctrl.Most, vI a2.Ctrl.Wide, vI a2.T, vI a2.Last]) 29) <|
   .cons [34] (ok_valg (fun u2 => .bool (decide (a2.T ≥ a2.Last))) (fun u2 => ((((!t3) || (!t4)) || (!t5)) == false)) [false, false] 34) <|
   .cons [35] (ok_or 29 34 (fun u2 => true) (fun u2 => true) (fun u2 => (((!t3) || (!t4)) || (!t5))) (fun u2 => decide (a2.T ≥ a2.Last)) 35) <| .nil) fun u2 a w' H => ?_
 replace H := H.kp [1, 3, 5, 35, 90, 91, 92, 93, 94, 999999]
 refine k_cond H (by kernel_rfl) (t := ((((!t3) || (!t4)) || (!t5)) || (decide (a2.T ≥ a2.Last)))) (by kernel_rfl) (fun c30 => ?_) (fun c30 => ?_)
 ·rw [if_pos c30] at G
  refine k_seq ?_
  refine k_rg mixed H (.v 6 (.slice none 0 0) <|
   .v 7 (vI 1) <| .nil) fun u6 a w' H => ?_
  replace H := H.kp [6, 7, 999999]
  refine k_ret ?_
  obtain rfl := Option.some.inj G
  replace H := H.nil_row 95 63 6
  replace H := H.add0 96 (dnK fr E_TSegment.toPart ([] : List G_TSegment)) (by intro _ _ h; cases h) (dn_holds rdl_nil (fun j h => by obtain ⟨_, hy, _⟩ := h; cases hy)) (fun j h => by obtain ⟨_, hy, _⟩ := h; cases hy)
  obtain ⟨g, o0, n0, d0⟩ : ∃ g : Gh, g.o 0 = none ∧ g.n 0 = 0 ∧ g.dl er_TSegment gd_TSegment 0 ([] : List TSegment) = ([] : List G_TSegment) := ⟨⟨fun i => [0].getD i 0, fun i => [none].getD i none, fun i => ([⟨List G_TSegment, ([] : List G_TSegment)⟩] : List ((T : Type) × T)).getD i ⟨Unit, ()⟩⟩, rfl, rfl, dl_mk rfl rfl⟩
  refine k_doneZ H (fun g => .tuple #[.slice (g.o 0) ((g.dl er_TSegment gd_TSegment 0 ([] : List TSegment)).length) (g.n 0), vI 1]) g [] [rdl anyF 2 p_a1 c_a1 a1 en_TInterval] (fun g => [fun _ => owK 63 6 (g.o 0) ((g.dl er_TSegment gd_TSegment 0 ([] : List TSegment)).length) (g.n 0) ((g.dl er_TSegment gd_TSegment 0 ([] : List TSegment)).flatMap en_TSegment), fun fr => dnK fr E_TSegment.toPart (g.dl er_TSegment gd_TSegment 0 ([] : List TSegment))]) fr [95, 96] [] (.tuple #[.slice none 0 0, vI 1]) [fun _ => owK 63 6 none 0 0 (([] : List G_TSegment).flatMap en_TSegment), fun fr => dnK fr E_TSegment.toPart ([] : List G_TSegment)] (by simp only [o0, n0, d0, List.length_set, List.length_cons, List.length_nil, Nat.zero_add, Nat.reduceAdd]) (by simp only [o0, n0, d0, List.length_set, List.length_cons, List.length_nil, Nat.zero_add, Nat.reduceAdd]) hfr (.inl ⟨rfl, rfl⟩) (fams_cons fam_ow (fams_cons fam_dn fams_nil)) (by simp)
 ·rw [if_neg (nt c30)] at G
  refine k_skip ?_
  refine k_seq ?_
  refine k_rg mixed H (.v 8 (.slice none 0 0) <| .nil) fun u7 a w' H => ?_
  replace H := H.kp [1, 3, 5, 8, 90, 91, 92, 93, 94, 999999]
  refine k_seq ?_
  replace G := bnd G; obtain ⟨t9, ht9, G⟩ := G
  refine k_rg mixed H (.v 36 (vP ((u1 1).n 0) 0) <|
   .cons [37] (ok_ld (fun u8 => .agg #[vI a2.Ctrl.Order, vI a2.Ctrl.First, vI a2.Ctrl.Least, vI a2.Ctrl.Most, vI a2.Ctrl.Wide]) 37 94 0 5 (fun u8 => ((u1 1).n 0)) (fun u8 => [vI a2.Ctrl.Order, vI a2.Ctrl.First, vI a2.Ctrl.Least, vI a2.Ctrl.Most, vI a2.Ctrl.Wide, vI a2.T, vI a2.Last]) 29) <|
   .v 38 (vP ((u1 1).n 0) 5) <|
   .cons [39] (ok_ld (fun u8 => vI a2.T) 39 94 5 1 (fun u8 => ((u1 1).n 0)) (fun u8 => [vI a2.Ctrl.Order, vI a2.Ctrl.First, vI a2.Ctrl.Least, vI a2.Ctrl.Most, vI a2.Ctrl.Wide, vI a2.T, vI a2.Last]) 29) <|
   .v 40 (vP ((u1 1).n 0) 6) <|
   .cons [41] (ok_ld (fun u8 => vI a2.Last) 41 94 6 1 (fun u8 => ((u1 1).n 0)) (fun u8 => [vI a2.Ctrl.Order, vI a2.Ctrl.First, vI a2.Ctrl.Least, vI a2.Ctrl.Most, vI a2.Ctrl.Wide, vI a2.T, vI a2.Last]) 29) <|
   .v 42 (vP ((u1 1).n 0) 0) <|
   .cons [43] (ok_ld (fun u8 => .agg #[vI a2.Ctrl.Order, vI a2.Ctrl.First, vI a2.Ctrl.Least, vI a2.Ctrl.Most, vI a2.Ctrl.Wide]) 43 94 0 5 (fun u8 => ((u1 1).n 0)) (fun u8 => [vI a2.Ctrl.Order, vI a2.Ctrl.First, vI a2.Ctrl.Least, vI a2.Ctrl.Most, vI a2.Ctrl.Wide, vI a2.T, vI a2.Last]) 29) <|
   .v 44 (vP ((u1 1).n 0) 6) <|
   .cons [45] (ok_ld (fun u8 => vI a2.Last) 45 94 6 1 (fun u8 => ((u1 1).n 0)) (fun u8 => [vI a2.Ctrl.Order, vI a2.Ctrl.First, vI a2.Ctrl.Least, vI a2.Ctrl.Most, vI a2.Ctrl.Wide, vI a2.T, vI a2.Last]) 29) <|
   .v 46 (vP ((u1 1).n 0) 5) <|
   .cons [47] (ok_ld (fun u8 => vI a2.T) 47 94 5 1 (fun u8 => ((u1 1).n 0)) (fun u8 => [vI a2.Ctrl.Order, vI a2.Ctrl.First, vI a2.Ctrl.Least, vI a2.Ctrl.Most, vI a2.Ctrl.Wide, vI a2.T, vI a2.Last]) 29) <|
   .v 48 (vI (w_i64 (a2.Last - a2.T))) <|
   .cons [49] (ok_callv 32 (fun u8 => #[.agg #[vI a2.Ctrl.Order, vI a2.Ctrl.First, vI a2.Ctrl.Least, vI a2.Ctrl.Most, vI a2.Ctrl.Wide], vI (w_i64 (a2.Last - a2.T))]) (vI t9) 49 [] (fun u8 w _ => control_Initial.calls (⟨a2.Ctrl.Order, a2.Ctrl.First, a2.Ctrl.Least, a2.Ctrl.Most, a2.Ctrl.Wide⟩ : TStepControl) (w_i64 (a2.Last - a2.T))  t9 w  ht9)) <|
   .v 50 (.agg #[vI a2.Ctrl.Order, vI a2.Ctrl.First, vI a2.Ctrl.Least, vI a2.Ctrl.Most, vI a2.Ctrl.Wide, vI a2.T, vI a2.Last, vI t9]) <|
   .cons [9, 97] (ok_new (fun b => vP b 0) (fun u8 => [vI 0, vI 0, vI 0, vI 0, vI 0, vI 0, vI 0, vI 0]) 100 9 97) <|
   .cons [97] (ok_as (u' := fun u8 => [(97, .blk ((u8 15).n 0) [vI a2.Ctrl.Order, vI a2.Ctrl.First, vI a2.Ctrl.Least, vI a2.Ctrl.Most, vI a2.Ctrl.Wide, vI a2.T, vI a2.Last, vI t9] 100)]) (ok_store 97 0 (fun u8 => ((u8 15).n 0)) (fun u8 => [vI 0, vI 0, vI 0, vI 0, vI 0, vI 0, vI 0, vI 0]) (fun u8 => [vI a2.Ctrl.Order, vI a2.Ctrl.First, vI a2.Ctrl.Least, vI a2.Ctrl.Most, vI a2.Ctrl.Wide, vI a2.T, vI a2.Last, vI t9]) 100) (fun _ => by kernel_rfl)) <| .nil) fun u8 a w' H => ?_
  replace H := H.kp [1, 3, 5, 8, 9, 90, 91, 92, 93, 94, 97, 999999]
  refine k_seq ?_
  replace G := bnd G; obtain ⟨j11, hj11, Gj11⟩ := G
  refine k_join (fun a w' => ∃ j11v, j11 = Sum.inr j11v ∧ ∃ (p_j10 : Option Addr) (c_j10 np_j10 : Nat) (L_j10 : List G_TSegment), np_j10 = L_j10.length ∧ j11v = L_j10.map er_TSegment ∧ Rep w.heap.size w 90 (ofL [(8, sS p_j10 np_j10 c_j10), (900045, owK 63 6 p_j10 np_j10 c_j10 (L_j10.flatMap en_TSegment)), (900046, dnK fr E_TSegment.toPart L_j10), (999999, gk)]) a w') ?_ ?_
  ·clear H; rintro a w' ⟨j11v, rfl, p_j10, c_j10, _, L_j10, rfl, h_j10, H⟩; have G := Gj11; clear Gj11; dsimp only at G
   refine k_seq ?_
   refine k_rg mixed H (.v 89 (.slice p_j10 L_j10.length c_j10) <|
   .v 6 (.slice p_j10 L_j10.length c_j10) <|
   .v 7 (vI 0) <| .nil) fun u12 a w' H => ?_
   replace H := H.kp [6, 7, 900045, 900046, 999999]
   refine k_ret ?_
   obtain rfl := Option.some.inj G
   obtain ⟨g, o0, n0, d0⟩ : ∃ g : Gh, g.o 0 = p_j10 ∧ g.n 0 = c_j10 ∧ g.dl er_TSegment gd_TSegment 0 j11v = L_j10 := ⟨⟨fun i => [c_j10].getD i 0, fun i => [p_j10].getD i none, fun i => ([⟨List G_TSegment, L_j10⟩] : List ((T : Type) × T)).getD i ⟨Unit, ()⟩⟩, rfl, rfl, dl_mk rfl h_j10⟩
   refine k_doneZ H (fun g => .tuple #[.slice (g.o 0) ((g.dl er_TSegment gd_TSegment 0 j11v).length) (g.n 0), vI 0]) g [] [rdl anyF 2 p_a1 c_a1 a1 en_TInterval] (fun g => [fun _ => owK 63 6 (g.o 0) ((g.dl er_TSegment gd_TSegment 0 j11v).length) (g.n 0) ((g.dl er_TSegment gd_TSegment 0 j11v).flatMap en_TSegment), fun fr => dnK fr E_TSegment.toPart (g.dl er_TSegment gd_TSegment 0 j11v)]) fr [900045, 900046] [] (.tuple #[.slice p_j10 L_j10.length c_j10, vI 0]) [fun _ => owK 63 6 p_j10 L_j10.length c_j10 (L_j10.flatMap en_TSegment), fun fr => dnK fr E_TSegment.toPart L_j10] (by simp only [o0, n0, d0]) (by simp only [o0, n0, d0]) hfr (.inl ⟨rfl, rfl⟩) (fams_cons fam_ow (fams_cons fam_dn fams_nil)) (by simp)
  ·have G := hj11; clear hj11
   refine k_block ?_
   replace H := H.nil_row 113 63 6
   replace H := H.add0 114 (dnK fr E_TSegment.toPart ([] : List G_TSegment)) (by intro _ _ h; cases h) (dn_holds rdl_nil (fun j h => by obtain ⟨_, hy, _⟩ := h; cases hy)) (fun j h => by obtain ⟨_, hy, _⟩ := h; cases hy)
   replace H := H.dup (K := rdl fr 2 p_a1 c_a1 a1 en_TInterval) 92 900047 (by kernel_rfl) (fun h => h) (by intro _ _ h; cases h)
   replace H := H.move (K := owK 63 6 none 0 0 (([] : List G_TSegment).flatMap en_TSegment)) 113 900048 (by kernel_rfl) (by intro _ _ h; cases h)
   replace H := H.dup (K := dnK fr E_TSegment.toPart ([] : List G_TSegment)) 114 900049 (by kernel_rfl) (fun h => h) (by intro _ _ h; cases h)
   refine k_loopJ (fun m a w' => ∃ x13 : Int, ∃ x14 : Int, ∃ x15 : List TInterval, ∃ x16 : List TSegment, flow_Integrate.l17 k0 a0 a1 a2 t3 t4 t5 t9 m x13 x14 x15 x16 = some j11 ∧ ∃ (p_x15 : Option Addr) (c_x15 np_x15 : Nat), np_x15 = x15.length ∧ ∃ (p_x16 : Option Addr) (c_x16 np_x16 : Nat) (L_x16 : List G_TSegment), np_x16 = L_x16.length ∧ x16 = L_x16.map er_TSegment ∧ Rep w.heap.size w 90 (ofL [(1, sS p_x15 np_x15 c_x15), (3, (sP ((u1 0).n 0) 0)), (5, (sP ((u1 1).n 0) 0)), (8, sS p_x16 np_x16 c_x16), (9, (sP ((u8 15).n 0) 0)), (90, rdl anyF 5 p_a0_L c_a0_L a0.L en_TInstruction), (91, rdl anyF 1 p_a0_Out c_a0_Out a0.Out en_i64), (93, .blk ((u1 0).n 0) [vI a0.N, .slice p_a0_L a0.L.length c_a0_L, .slice p_a0_Out a0.Out.length c_a0_Out] 38), (94, .blk ((u1 1).n 0) [vI a2.Ctrl.Order, vI a2.Ctrl.First, vI a2.Ctrl.Least, vI a2.Ctrl.Most, vI a2.Ctrl.Wide, vI a2.T, vI a2.Last] 29), (97, .blk ((u8 15).n 0) [vI a2.Ctrl.Order, vI a2.Ctrl.First, vI a2.Ctrl.Least, vI a2.Ctrl.Most, vI a2.Ctrl.Wide, vI x13, vI a2.Last, vI x14] 100), (900047, rdF fr 2 p_x15 np_x15 c_x15 (x15.flatMap en_TInterval)), (900048, owK 63 6 p_x16 np_x16 c_x16 (L_x16.flatMap en_TSegment)), (900049, dnK fr E_TSegment.toPart L_x16), (999999, gk)]) a w') k0 ⟨_, _, _, _, G, p_a1, c_a1, a1.length, rfl, none, 0, 0, ([] : List G_TSegment), rfl, rfl, H.toL _ (by kernel_rfl)⟩ ?_
   clear G H
   rintro (_ | k) a w' ⟨x13, x14, x15, x16, G, p_x15, c_x15, _, rfl, p_x16, c_x16, _, L_x16, rfl, h_x16, H⟩
   ·exact absurd G (by unfold flow_Integrate.l17; exact fun h => by cases h)
   ·unfold flow_Integrate.l17 at G
    refine k_seq ?_
    refine k_seq ?_
    refine k_rg mixed H (.v 51 (vP ((u8 15).n 0) 5) <|
   .cons [52] (ok_ld (fun u18 => vI x13) 52 97 5 1 (fun u18 => ((u8 15).n 0)) (fun u18 => [vI a2.Ctrl.Order, vI a2.Ctrl.First, vI a2.Ctrl.Least, vI a2.Ctrl.Most, vI a2.Ctrl.Wide, vI x13, vI a2.Last, vI x14]) 100) <|
   .v 53 (vP ((u1 1).n 0) 6) <|
   .cons [54] (ok_ld (fun u18 => vI a2.Last) 54 94 6 1 (fun u18 => ((u1 1).n 0)) (fun u18 => [vI a2.Ctrl.Order, vI a2.Ctrl.First, vI a2.Ctrl.Least, vI a2.Ctrl.Most, vI a2.Ctrl.Wide, vI a2.T, vI a2.Last]) 29) <|
   .v 55 (.bool (decide (x13 < a2.Last))) <| .nil) fun u18 a w' H => ?_
    replace H := H.kp [1, 3, 5, 8, 9, 55, 90, 91, 93, 94, 97, 900047, 900048, 900049, 999999]
    refine k_cond H (by kernel_rfl) (t := decide (x13 < a2.Last)) (by kernel_rfl) (fun c29 => ?_) (fun c29 => ?_)
    ·rw [if_pos c29] at G
     refine k_skip ?_
     refine k_block ?_
     refine k_seq ?_
     replace G := bnd G; obtain ⟨t20, ht20, G⟩ := G
     refine k_rg mixed H (.cons [57] (ok_ld (fun u19 => .agg #[vI a0.N, .slice p_a0_L a0.L.length c_a0_L, .slice p_a0_Out a0.Out.length c_a0_Out]) 57 93 0 3 (fun u19 => ((u1 0).n 0)) (fun u19 => [vI a0.N, .slice p_a0_L a0.L.length c_a0_L, .slice p_a0_Out a0.Out.length c_a0_Out]) 38) <|
   .v 58 (.slice p_x15 x15.length c_x15) <|
   .cons [59] (ok_ld (fun u19 => .agg #[vI a2.Ctrl.Order, vI a2.Ctrl.First, vI a2.Ctrl.Least, vI a2.Ctrl.Most, vI a2.Ctrl.Wide, vI x13, vI a2.Last, vI x14]) 59 97 0 8 (fun u19 => ((u8 15).n 0)) (fun u19 => [vI a2.Ctrl.Order, vI a2.Ctrl.First, vI a2.Ctrl.Least, vI a2.Ctrl.Most, vI a2.Ctrl.Wide, vI x13, vI a2.Last, vI x14]) 100) <|
   .cons [60, 98, 99, 100, 101] (ok_callY true fr [] [90, 91, 900047, 999999] (fun u19 => [rdl anyF 5 p_a0_L c_a0_L a0.L en_TInstruction, rdl anyF 1 p_a0_Out c_a0_Out a0.Out en_i64, rdl fr 2 p_x15 c_x15 x15 en_TInterval, gk]) [] (fun u19 => []) 33 (fun u19 => #[.agg #[vI a0.N, .slice p_a0_L a0.L.length c_a0_L, .slice p_a0_Out a0.Out.length c_a0_Out], .slice p_x15 x15.length c_x15, .agg #[vI a2.Ctrl.Order, vI a2.Ctrl.First, vI a2.Ctrl.Least, vI a2.Ctrl.Most, vI a2.Ctrl.Wide, vI x13, vI a2.Last, vI x14]]) (fun u19 => [rdl anyF 5 p_a0_L c_a0_L a0.L en_TInstruction, rdl anyF 1 p_a0_Out c_a0_Out a0.Out en_i64, gk]) (fun u19 => [rdl anyF 2 p_x15 c_x15 x15 en_TInterval]) (fun u19 g => .tuple #[.agg #[vI t20.1.T, vI t20.1.H, .slice (g.o 0) t20.1.From.length (g.n 0), .slice (g.o 1) t20.1.Pre.length (g.n 1), .slice (g.o 2) t20.1.Tube.length (g.n 2), .slice (g.o 3) t20.1.To.length (g.n 3)], vI t20.2.1, vI t20.2.2]) (fun u19 g => [fun fr => rdF fr 2 (g.o 0) t20.1.From.length (g.n 0) (t20.1.From.flatMap en_TInterval), fun fr => rdF fr 2 (g.o 1) t20.1.Pre.length (g.n 1) (t20.1.Pre.flatMap en_TInterval), fun fr => rdF fr 2 (g.o 2) t20.1.Tube.length (g.n 2) (t20.1.Tube.flatMap en_TInterval), fun fr => rdF fr 2 (g.o 3) t20.1.To.length (g.n 3) (t20.1.To.flatMap en_TInterval)]) [98, 99, 100, 101] 60 (fun u19 w hB hF hM => control_Advance.calls k0 (⟨a0.N, a0.L, a0.Out⟩ : TTape) x15 (⟨(⟨a2.Ctrl.Order, a2.Ctrl.First, a2.Ctrl.Least, a2.Ctrl.Most, a2.Ctrl.Wide⟩ : TStepControl), x13, a2.Last, x14⟩ : TStepRequest) p_a0_L c_a0_L p_a0_Out c_a0_Out p_x15 c_x15 t20 w  hB hF ht20) (fun u19 w hF => ⟨⟨sub_rd0 (rdF_of hF.1) (fun j h => ⟨_, (.head _), h⟩), sub_rd0 (rdF_of hF.2.1) (fun j h => ⟨_, (.tail _ (.head _)), h⟩), sub_k hF.2.2.2.1 (.tail _ (.tail _ (.tail _ (.head _)))), trivial⟩, ⟨sub_rd1 (rdF_of hF.2.2.1) (fun j h => ff_of (.tail _ (.tail _ (.head _))) (fun h => h) h (rdF_fr hF.2.2.1 _ h)), trivial⟩⟩) (fun u19 g => (fams_cons (fam_rd (by decide)) (fams_cons (fam_rd (by decide)) (fams_cons (fam_rd (by decide)) (fams_cons (fam_rd (by decide)) fams_nil))))) (.inl rfl) (fun _ => hBf)) <|
   .cons [56] (ok_val (fun u19 => .tuple #[.agg #[vI t20.1.T, vI t20.1.H, .slice ((u19 3).o 0) t20.1.From.length ((u19 3).n 0), .slice ((u19 3).o 1) t20.1.Pre.length ((u19 3).n 1), .slice ((u19 3).o 2) t20.1.Tube.length ((u19 3).n 2), .slice ((u19 3).o 3) t20.1.To.length ((u19 3).n 3)], vI t20.2.1, vI t20.2.2]) 56) <|
   .cons [61] (ok_val (fun u19 => .agg #[vI t20.1.T, vI t20.1.H, .slice ((u19 3).o 0) t20.1.From.length ((u19 3).n 0), .slice ((u19 3).o 1) t20.1.Pre.length ((u19 3).n 1), .slice ((u19 3).o 2) t20.1.Tube.length ((u19 3).n 2), .slice ((u19 3).o 3) t20.1.To.length ((u19 3).n 3)]) 61) <|
   .v 62 (vI t20.2.1) <|
   .v 63 (vI t20.2.2) <|
   .cons [10, 102] (ok_new (fun b => vP b 0) (fun u19 => [vI 0, vI 0, .slice none 0 0, .slice none 0 0, .slice none 0 0, .slice none 0 0]) 63 10 102) <|
   .cons [102] (ok_as (u' := fun u19 => [(102, .blk ((u19 8).n 0) [vI t20.1.T, vI t20.1.H, .slice ((u19 3).o 0) t20.1.From.length ((u19 3).n 0), .slice ((u19 3).o 1) t20.1.Pre.length ((u19 3).n 1), .slice ((u19 3).o 2) t20.1.Tube.length ((u19 3).n 2), .slice ((u19 3).o 3) t20.1.To.length ((u19 3).n 3)] 63)]) (ok_store 102 0 (fun u19 => ((u19 8).n 0)) (fun u19 => [vI 0, vI 0, .slice none 0 0, .slice none 0 0, .slice none 0 0, .slice none 0 0]) (fun u19 => [vI t20.1.T, vI t20.1.H, .slice ((u19 3).o 0) t20.1.From.length ((u19 3).n 0), .slice ((u19 3).o 1) t20.1.Pre.length ((u19 3).n 1), .slice ((u19 3).o 2) t20.1.Tube.length ((u19 3).n 2), .slice ((u19 3).o 3) t20.1.To.length ((u19 3).n 3)]) 63) (fun _ => by kernel_rfl)) <|
   .v 11 (vI t20.2.1) <|
   .v 12 (vI t20.2.2) <| .nil) fun u19 a w' H => ?_
     replace H := H.kp [3, 5, 8, 9, 10, 11, 12, 90, 91, 93, 94, 97, 98, 99, 100, 101, 102, 900048, 900049, 999999]
     refine k_seq ?_
     refine k_block ?_
     refine k_seq ?_
     replace G := gd G; obtain ⟨b22, G⟩ := G
     refine k_rg mixed H (.v 65 (vI t20.2.2) <|
   .v 66 (.iface 32 (vI t20.2.2)) <|
   .v 67 (.iface 32 (vI 0)) <|
   .cons [68] (ok_callv 34 (fun u21 => #[.iface 32 (vI t20.2.2), .iface 32 (vI 0)]) (.bool true) 68 [] (fun u21 w _ => errIs0 b22 w)) <|
   .v 69 (.bool false) <|
   .v 64 (.bool false) <| .nil) fun u21 a w' H => ?_
     replace H := H.kp [3, 5, 8, 9, 10, 11, 12, 64, 90, 91, 93, 94, 97, 98, 99, 100, 101, 102, 900048, 900049, 999999]
     refine k_cond_false H (by kernel_rfl) (by kernel_rfl) ?_
     refine k_seq ?_
     refine k_rg mixed H (.v 72 (.slice p_x16 L_x16.length c_x16) <|
   .cons [73] (ok_valL [900048] (fun u23 => [owK 63 6 p_x16 L_x16.length c_x16 (L_x16.flatMap en_TSegment)]) (fun u23 => vI (x16.length : Int)) (fun u23 => true) [true] 73 (fun u23 w hg hF => run_lenN (((owns_rowC (ow_of hF.1)).2.len en_TSegment_len (by decide)).trans (map_len h_x16).symm) (by kernel_rfl))) <|
   .v 74 (.bool ((x16.length : Int) == 256)) <|
   .v 71 (.bool ((x16.length : Int) == 256)) <| .nil) fun u23 a w' H => ?_
     replace H := H.kp [3, 5, 8, 9, 10, 11, 71, 90, 91, 93, 94, 97, 98, 99, 100, 101, 102, 900048, 900049, 999999]
     refine k_cond H (by kernel_rfl) (t := ((x16.length : Int) == 256)) (by kernel_rfl) (fun c28 => ?_) (fun c28 => ?_)
     ·rw [if_pos c28] at G
      refine k_seq ?_
      refine k_rg mixed H (.v 6 (.slice none 0 0) <|
   .v 7 (vI 140) <| .nil) fun u24 a w' H => ?_
      replace H := H.kp [6, 7, 999999]
      refine k_ret ?_
      obtain rfl := Option.some.inj G
      replace G := Gj11
      obtain rfl := Option.some.inj G
      replace H := H.nil_row 103 63 6
      replace H := H.add0 104 (dnK fr E_TSegment.toPart ([] : List G_TSegment)) (by intro _ _ h; cases h) (dn_holds rdl_nil (fun j h => by obtain ⟨_, hy, _⟩ := h; cases hy)) (fun j h => by obtain ⟨_, hy, _⟩ := h; cases hy)
      obtain ⟨g, o0, n0, d0⟩ : ∃ g : Gh, g.o 0 = none ∧ g.n 0 = 0 ∧ g.dl er_TSegment gd_TSegment 0 ([] : List TSegment) = ([] : List G_TSegment) := ⟨⟨fun i => [0].getD i 0, fun i => [none].getD i none, fun i => ([⟨List G_TSegment, ([] : List G_TSegment)⟩] : List ((T : Type) × T)).getD i ⟨Unit, ()⟩⟩, rfl, rfl, dl_mk rfl rfl⟩
      refine k_doneZ H (fun g => .tuple #[.slice (g.o 0) ((g.dl er_TSegment gd_TSegment 0 ([] : List TSegment)).length) (g.n 0), vI 140]) g [] [rdl anyF 2 p_a1 c_a1 a1 en_TInterval] (fun g => [fun _ => owK 63 6 (g.o 0) ((g.dl er_TSegment gd_TSegment 0 ([] : List TSegment)).length) (g.n 0) ((g.dl er_TSegment gd_TSegment 0 ([] : List TSegment)).flatMap en_TSegment), fun fr => dnK fr E_TSegment.toPart (g.dl er_TSegment gd_TSegment 0 ([] : List TSegment))]) fr [103, 104] [] (.tuple #[.slice none 0 0, vI 140]) [fun _ => owK 63 6 none 0 0 (([] : List G_TSegment).flatMap en_TSegment), fun fr => dnK fr E_TSegment.toPart ([] : List G_TSegment)] (by simp only [o0, n0, d0, List.length_set, List.length_cons, List.length_nil, Nat.zero_add, Nat.reduceAdd]) (by simp only [o0, n0, d0, List.length_set, List.length_cons, List.length_nil, Nat.zero_add, Nat.reduceAdd]) hfr (.inl ⟨rfl, rfl⟩) (fams_cons fam_ow (fams_cons fam_dn fams_nil)) (by simp)
     ·rw [if_neg (nt c28)] at G
      refine k_skip ?_
      refine k_seq ?_
      replace G := gd G; obtain ⟨b26, G⟩ := G
      refine k_rg mixed H (.v 75 (.slice p_x16 L_x16.length c_x16) <|
   .cons [76] (ok_ld (fun u25 => .agg #[vI t20.1.T, vI t20.1.H, .slice ((u19 3).o 0) t20.1.From.length ((u19 3).n 0), .slice ((u19 3).o 1) t20.1.Pre.length ((u19 3).n 1), .slice ((u19 3).o 2) t20.1.Tube.length ((u19 3).n 2), .slice ((u19 3).o 3) t20.1.To.length ((u19 3).n 3)]) 76 102 0 6 (fun u25 => ((u19 8).n 0)) (fun u25 => [vI t20.1.T, vI t20.1.H, .slice ((u19 3).o 0) t20.1.From.length ((u19 3).n 0), .slice ((u19 3).o 1) t20.1.Pre.length ((u19 3).n 1), .slice ((u19 3).o 2) t20.1.Tube.length ((u19 3).n 2), .slice ((u19 3).o 3) t20.1.To.length ((u19 3).n 3)]) 63) <|
   .cons [77, 105] (ok_new (fun b => .slice (some ⟨b, 0, none⟩) 1 1) (fun u25 => [vI t20.1.T, vI t20.1.H, .slice ((u19 3).o 0) t20.1.From.length ((u19 3).n 0), .slice ((u19 3).o 1) t20.1.Pre.length ((u19 3).n 1), .slice ((u19 3).o 2) t20.1.Tube.length ((u19 3).n 2), .slice ((u19 3).o 3) t20.1.To.length ((u19 3).n 3)]) 63 77 105) <|
   .cons [78, 900048, 900048, 106] (ok_ownF [2] [900049, 105, 98, 99, 100, 101] (fun u25 => [dnK fr E_TSegment.toPart L_x16, .blk ((u25 2).n 0) [vI t20.1.T, vI t20.1.H, .slice ((u19 3).o 0) t20.1.From.length ((u19 3).n 0), .slice ((u19 3).o 1) t20.1.Pre.length ((u19 3).n 1), .slice ((u19 3).o 2) t20.1.Tube.length ((u19 3).n 2), .slice ((u19 3).o 3) t20.1.To.length ((u19 3).n 3)] 63, rdF fr 2 ((u19 3).o 0) t20.1.From.length ((u19 3).n 0) (t20.1.From.flatMap en_TInterval), rdF fr 2 ((u19 3).o 1) t20.1.Pre.length ((u19 3).n 1) (t20.1.Pre.flatMap en_TInterval), rdF fr 2 ((u19 3).o 2) t20.1.Tube.length ((u19 3).n 2) (t20.1.Tube.flatMap en_TInterval), rdF fr 2 ((u19 3).o 3) t20.1.To.length ((u19 3).n 3) (t20.1.To.flatMap en_TInterval)]) 900048 106 (fun u25 => owK 63 6 p_x16 L_x16.length c_x16 (L_x16.flatMap en_TSegment)) (some 78) (fun u25 g => .slice (g.o 0) (L_x16 ++ [((⟨t20.1.T, t20.1.H, ⟨((u19 3).o 0), ((u19 3).n 0), t20.1.From⟩, ⟨((u19 3).o 1), ((u19 3).n 1), t20.1.Pre⟩, ⟨((u19 3).o 2), ((u19 3).n 2), t20.1.Tube⟩, ⟨((u19 3).o 3), ((u19 3).n 3), t20.1.To⟩⟩ : G_TSegment) : G_TSegment)]).length (g.n 0)) (fun u25 g => owK 63 6 (g.o 0) ((L_x16 ++ [((⟨t20.1.T, t20.1.H, ⟨((u19 3).o 0), ((u19 3).n 0), t20.1.From⟩, ⟨((u19 3).o 1), ((u19 3).n 1), t20.1.Pre⟩, ⟨((u19 3).o 2), ((u19 3).n 2), t20.1.Tube⟩, ⟨((u19 3).o 3), ((u19 3).n 3), t20.1.To⟩⟩ : G_TSegment) : G_TSegment)]).length) (g.n 0) ((L_x16 ++ [((⟨t20.1.T, t20.1.H, ⟨((u19 3).o 0), ((u19 3).n 0), t20.1.From⟩, ⟨((u19 3).o 1), ((u19 3).n 1), t20.1.Pre⟩, ⟨((u19 3).o 2), ((u19 3).n 2), t20.1.Tube⟩, ⟨((u19 3).o 3), ((u19 3).n 3), t20.1.To⟩⟩ : G_TSegment) : G_TSegment)]).flatMap en_TSegment)) (fun u25 g => dnK fr E_TSegment.toPart (L_x16 ++ [((⟨t20.1.T, t20.1.H, ⟨((u19 3).o 0), ((u19 3).n 0), t20.1.From⟩, ⟨((u19 3).o 1), ((u19 3).n 1), t20.1.Pre⟩, ⟨((u19 3).o 2), ((u19 3).n 2), t20.1.Tube⟩, ⟨((u19 3).o 3), ((u19 3).n 3), t20.1.To⟩⟩ : G_TSegment) : G_TSegment)])) (fun u25 w hF hK => tv_appF (run_app_rowN (t := 31) (ty := 31) (en := en_TSegment) en_TSegment_len inf63 (ow_of hK) hF.2.1 (news := [((⟨t20.1.T, t20.1.H, ⟨((u19 3).o 0), ((u19 3).n 0), t20.1.From⟩, ⟨((u19 3).o 1), ((u19 3).n 1), t20.1.Pre⟩, ⟨((u19 3).o 2), ((u19 3).n 2), t20.1.Tube⟩, ⟨((u19 3).o 3), ((u19 3).n 3), t20.1.To⟩⟩ : G_TSegment) : G_TSegment)]) rfl (by simp) (by kernel_rfl) (by rw [← map_len h_x16]; exact b26)) (dn_app hF.1 (.head _) ⟨⟨(rdF_of hF.2.2.1), fun _ _ => trivial⟩, ⟨⟨(rdF_of hF.2.2.2.1), fun _ _ => trivial⟩, ⟨⟨(rdF_of hF.2.2.2.2.1), fun _ _ => trivial⟩, ⟨(rdF_of hF.2.2.2.2.2.1), fun _ _ => trivial⟩⟩⟩⟩ (fun j h => (h.elim (fun h => (h.elim (fun h => ff_of (.tail _ (.tail _ (.head _))) (fun h => h) h (rdF_fr hF.2.2.1 _ h)) (fun ⟨_, _, hz⟩ => hz.elim))) (fun h => (h.elim (fun h => (h.elim (fun h => ff_of (.tail _ (.tail _ (.tail _ (.head _)))) (fun h => h) h (rdF_fr hF.2.2.2.1 _ h)) (fun ⟨_, _, hz⟩ => hz.elim))) (fun h => (h.elim (fun h => (h.elim (fun h => ff_of (.tail _ (.tail _ (.tail _ (.tail _ (.head _))))) (fun h => h) h (rdF_fr hF.2.2.2.2.1 _ h)) (fun ⟨_, _, hz⟩ => hz.elim))) (fun h => (h.elim (fun h => ff_of (.tail _ (.tail _ (.tail _ (.tail _ (.tail _ (.head _)))))) (fun h => h) h (rdF_fr hF.2.2.2.2.2.1 _ h)) (fun ⟨_, _, hz⟩ => hz.elim))))))))))) (hloc := fun u u' h => ⟨by first | rfl | simp only [h 2 (by decide)], by first | rfl | simp only [h 2 (by decide)], by first | rfl | simp only [h 2 (by decide)], by first | rfl | simp only [h 2 (by decide)], by first | rfl | simp only [h 2 (by decide)]⟩)) <|
   .cons [8] (ok_val (fun u25 => .slice ((u25 3).o 0) ((L_x16 ++ [((⟨t20.1.T, t20.1.H, ⟨((u19 3).o 0), ((u19 3).n 0), t20.1.From⟩, ⟨((u19 3).o 1), ((u19 3).n 1), t20.1.Pre⟩, ⟨((u19 3).o 2), ((u19 3).n 2), t20.1.Tube⟩, ⟨((u19 3).o 3), ((u19 3).n 3), t20.1.To⟩⟩ : G_TSegment) : G_TSegment)]).length) ((u25 3).n 0)) 8) <| .nil) fun u25 a w' H => ?_
      replace H := H.kp [3, 5, 8, 9, 10, 11, 90, 91, 93, 94, 97, 98, 99, 100, 101, 102, 106, 900048, 999999]
      refine k_rg mixed H (.v 79 (vP ((u19 8).n 0) 0) <|
   .cons [80] (ok_ld (fun u27 => vI t20.1.T) 80 102 0 1 (fun u27 => ((u19 8).n 0)) (fun u27 => [vI t20.1.T, vI t20.1.H, .slice ((u19 3).o 0) t20.1.From.length ((u19 3).n 0), .slice ((u19 3).o 1) t20.1.Pre.length ((u19 3).n 1), .slice ((u19 3).o 2) t20.1.Tube.length ((u19 3).n 2), .slice ((u19 3).o 3) t20.1.To.length ((u19 3).n 3)]) 63) <|
   .v 81 (vP ((u19 8).n 0) 1) <|
   .cons [82] (ok_ld (fun u27 => vI t20.1.H) 82 102 1 1 (fun u27 => ((u19 8).n 0)) (fun u27 => [vI t20.1.T, vI t20.1.H, .slice ((u19 3).o 0) t20.1.From.length ((u19 3).n 0), .slice ((u19 3).o 1) t20.1.Pre.length ((u19 3).n 1), .slice ((u19 3).o 2) t20.1.Tube.length ((u19 3).n 2), .slice ((u19 3).o 3) t20.1.To.length ((u19 3).n 3)]) 63) <|
   .v 83 (vI (w_i64 (t20.1.T + t20.1.H))) <|
   .v 84 (vI t20.2.1) <|
   .v 85 (vP ((u19 8).n 0) 5) <|
   .cons [86] (ok_ld (fun u27 => .slice ((u19 3).o 3) t20.1.To.length ((u19 3).n 3)) 86 102 5 1 (fun u27 => ((u19 8).n 0)) (fun u27 => [vI t20.1.T, vI t20.1.H, .slice ((u19 3).o 0) t20.1.From.length ((u19 3).n 0), .slice ((u19 3).o 1) t20.1.Pre.length ((u19 3).n 1), .slice ((u19 3).o 2) t20.1.Tube.length ((u19 3).n 2), .slice ((u19 3).o 3) t20.1.To.length ((u19 3).n 3)]) 63) <|
   .v 87 (vP ((u8 15).n 0) 5) <|
   .cons [97] (ok_as (u' := fun u27 => [(97, .blk ((u8 15).n 0) [vI a2.Ctrl.Order, vI a2.Ctrl.First, vI a2.Ctrl.Least, vI a2.Ctrl.Most, vI a2.Ctrl.Wide, vI (w_i64 (t20.1.T + t20.1.H)), vI a2.Last, vI x14] 100)]) (ok_store 97 5 (fun u27 => ((u8 15).n 0)) (fun u27 => [vI a2.Ctrl.Order, vI a2.Ctrl.First, vI a2.Ctrl.Least, vI a2.Ctrl.Most, vI a2.Ctrl.Wide, vI x13, vI a2.Last, vI x14]) (fun u27 => [vI (w_i64 (t20.1.T + t20.1.H))]) 100) (fun _ => by kernel_rfl)) <|
   .v 88 (vP ((u8 15).n 0) 7) <|
   .cons [97] (ok_as (u' := fun u27 => [(97, .blk ((u8 15).n 0) [vI a2.Ctrl.Order, vI a2.Ctrl.First, vI a2.Ctrl.Least, vI a2.Ctrl.Most, vI a2.Ctrl.Wide, vI (w_i64 (t20.1.T + t20.1.H)), vI a2.Last, vI t20.2.1] 100)]) (ok_store 97 7 (fun u27 => ((u8 15).n 0)) (fun u27 => [vI a2.Ctrl.Order, vI a2.Ctrl.First, vI a2.Ctrl.Least, vI a2.Ctrl.Most, vI a2.Ctrl.Wide, vI (w_i64 (t20.1.T + t20.1.H)), vI a2.Last, vI x14]) (fun u27 => [vI t20.2.1]) 100) (fun _ => by kernel_rfl)) <|
   .v 1 (.slice ((u19 3).o 3) t20.1.To.length ((u19 3).n 3)) <| .nil) fun u27 a w' H => ?_
      replace H := H.kp [1, 3, 5, 8, 9, 90, 91, 93, 94, 97, 101, 106, 900048, 999999]
      replace H := H.dup (K := rdF fr 2 ((u19 3).o 3) t20.1.To.length ((u19 3).n 3) (t20.1.To.flatMap en_TInterval)) 101 900047 (by kernel_rfl) (fun h => h) (by intro _ _ h; cases h)
      replace H := H.dup (K := dnK fr E_TSegment.toPart (L_x16 ++ [((⟨t20.1.T, t20.1.H, ⟨((u19 3).o 0), ((u19 3).n 0), t20.1.From⟩, ⟨((u19 3).o 1), ((u19 3).n 1), t20.1.Pre⟩, ⟨((u19 3).o 2), ((u19 3).n 2), t20.1.Tube⟩, ⟨((u19 3).o 3), ((u19 3).n 3), t20.1.To⟩⟩ : G_TSegment) : G_TSegment)])) 106 900049 (by kernel_rfl) (fun h => h) (by intro _ _ h; cases h)
      exact ⟨k, Nat.lt_succ_self k, _, _, _, _, G, ((u19 3).o 3), ((u19 3).n 3), t20.1.To.length, rfl, ((u25 3).o 0), ((u25 3).n 0), (L_x16 ++ [((⟨t20.1.T, t20.1.H, ⟨((u19 3).o 0), ((u19 3).n 0), t20.1.From⟩, ⟨((u19 3).o 1), ((u19 3).n 1), t20.1.Pre⟩, ⟨((u19 3).o 2), ((u19 3).n 2), t20.1.Tube⟩, ⟨((u19 3).o 3), ((u19 3).n 3), t20.1.To⟩⟩ : G_TSegment) : G_TSegment)]).length, (L_x16 ++ [((⟨t20.1.T, t20.1.H, ⟨((u19 3).o 0), ((u19 3).n 0), t20.1.From⟩, ⟨((u19 3).o 1), ((u19 3).n 1), t20.1.Pre⟩, ⟨((u19 3).o 2), ((u19 3).n 2), t20.1.Tube⟩, ⟨((u19 3).o 3), ((u19 3).n 3), t20.1.To⟩⟩ : G_TSegment) : G_TSegment)]), rfl, (map_app h_x16 ((⟨t20.1.T, t20.1.H, ⟨((u19 3).o 0), ((u19 3).n 0), t20.1.From⟩, ⟨((u19 3).o 1), ((u19 3).n 1), t20.1.Pre⟩, ⟨((u19 3).o 2), ((u19 3).n 2), t20.1.Tube⟩, ⟨((u19 3).o 3), ((u19 3).n 3), t20.1.To⟩⟩ : G_TSegment) : G_TSegment)), H.toL _ (by kernel_rfl)⟩
    ·rw [if_neg (nt c29)] at G
     refine k_exit rfl ?_
     obtain rfl := Option.some.inj G
     replace H := H.move (K := owK 63 6 p_x16 L_x16.length c_x16 (L_x16.flatMap en_TSegment)) 900048 900045 (by kernel_rfl) (by intro _ _ h; cases h)
     replace H := H.dup (K := dnK fr E_TSegment.toPart L_x16) 900049 900046 (by kernel_rfl) (fun h => h) (by intro _ _ h; cases h)
     exact ⟨_, rfl, p_x16, c_x16, L_x16.length, L_x16, rfl, h_x16, H.toL _ (by kernel_rfl)⟩
set_option maxHeartbeats 4000000 in
theorem ode_arity.calls (a0 : Int) (r : Int) (w : World) (G : ode_arity a0 = some r) :
  Calls Tryz.prog 61 #[vI a0] w fun e w' => e = .returned (vI r) ∧ Below w.heap.size w w' := by
 refine k_enter (args := [vI a0]) 24 Tryz.func61 rfl (by kernel_rfl) (by kernel_rfl) fun a H => ?_
 unfold ode_arity at G
 refine k_seq ?_
 refine k_rg mixed H (.v 2 (vI 0) <| .nil) fun u1 a w' H => ?_
 replace H := H.kp [0]
 refine k_seq ?_
 refine k_block ?_
 refine k_seq ?_
 refine k_rg mixed H (.v 4 (vI a0) <|
   .v 5 (.bool (decide (a0 ≥ 1))) <|
   .v 6 (.bool (decide (a0 ≥ 1))) <|
   .cons [7] (ok_valg (fun u2 => vI a0) (fun u2 => ((decide (a0 ≥ 1)) == true)) [true] 7) <|
   .cons [8] (ok_valg (fun u2 => .bool (decide (a0 ≤ 3))) (fun u2 => ((decide (a0 ≥ 1)) == true)) [false, true] 8) <|
   .cons [9] (ok_and 6 8 (fun u2 => true) (fun u2 => true) (fun u2 => decide (a0 ≥ 1)) (fun u2 => decide (a0 ≤ 3)) 9) <|
   .v 3 (.bool ((decide (a0 ≥ 1)) && (decide (a0 ≤ 3)))) <| .nil) fun u2 a w' H => ?_
 replace H := H.kp [0, 3]
 refine k_cond H (by kernel_rfl) (t := ((decide (a0 ≥ 1)) && (decide (a0 ≤ 3)))) (by kernel_rfl) (fun c11 => ?_) (fun c11 => ?_)
 ·rw [if_pos c11] at G
  refine k_seq ?_
  refine k_rg mixed H (.v 2 (vI 0) <| .nil) fun u3 a w' H => ?_
  replace H := H.kp [2]
  refine k_ret ?_
  obtain rfl := Option.some.inj G
  exact k_done0 H _ (by kernel_rfl) (by kernel_rfl)
 ·rw [if_neg (nt c11)] at G
  refine k_seq ?_
  refine k_rg mixed H (.v 11 (vI a0) <|
   .v 12 (.bool (decide (a0 ≥ 4))) <|
   .v 13 (.bool (decide (a0 ≥ 4))) <|
   .cons [14] (ok_valg (fun u4 => vI a0) (fun u4 => ((decide (a0 ≥ 4)) == true)) [true] 14) <|
   .cons [15] (ok_valg (fun u4 => .bool (decide (a0 ≤ 6))) (fun u4 => ((decide (a0 ≥ 4)) == true)) [false, true] 15) <|
   .cons [16] (ok_and 13 15 (fun u4 => true) (fun u4 => true) (fun u4 => decide (a0 ≥ 4)) (fun u4 => decide (a0 ≤ 6)) 16) <|
   .v 10 (.bool ((decide (a0 ≥ 4)) && (decide (a0 ≤ 6)))) <| .nil) fun u4 a w' H => ?_
  replace H := H.kp [0, 10]
  refine k_cond H (by kernel_rfl) (t := ((decide (a0 ≥ 4)) && (decide (a0 ≤ 6)))) (by kernel_rfl) (fun c10 => ?_) (fun c10 => ?_)
  ·rw [if_pos c10] at G
   refine k_seq ?_
   refine k_rg mixed H (.v 2 (vI 1) <| .nil) fun u5 a w' H => ?_
   replace H := H.kp [2]
   refine k_ret ?_
   obtain rfl := Option.some.inj G
   exact k_done0 H _ (by kernel_rfl) (by kernel_rfl)
  ·rw [if_neg (nt c10)] at G
   refine k_seq ?_
   refine k_rg mixed H (.v 18 (vI a0) <|
   .v 19 (.bool (decide (a0 ≥ 7))) <|
   .v 20 (.bool (decide (a0 ≥ 7))) <|
   .cons [21] (ok_valg (fun u6 => vI a0) (fun u6 => ((decide (a0 ≥ 7)) == true)) [true] 21) <|
   .cons [22] (ok_valg (fun u6 => .bool (decide (a0 ≤ 10))) (fun u6 => ((decide (a0 ≥ 7)) == true)) [false, true] 22) <|
   .cons [23] (ok_and 20 22 (fun u6 => true) (fun u6 => true) (fun u6 => decide (a0 ≥ 7)) (fun u6 => decide (a0 ≤ 10)) 23) <|
   .v 17 (.bool ((decide (a0 ≥ 7)) && (decide (a0 ≤ 10)))) <| .nil) fun u6 a w' H => ?_
   replace H := H.kp [17]
   refine k_cond H (by kernel_rfl) (t := ((decide (a0 ≥ 7)) && (decide (a0 ≤ 10)))) (by kernel_rfl) (fun c9 => ?_) (fun c9 => ?_)
   ·rw [if_pos c9] at G
    refine k_seq ?_
    refine k_rg mixed H (.v 2 (vI 2) <| .nil) fun u7 a w' H => ?_
    replace H := H.kp [2]
    refine k_ret ?_
    obtain rfl := Option.some.inj G
    exact k_done0 H _ (by kernel_rfl) (by kernel_rfl)
   ·rw [if_neg (nt c9)] at G
    refine k_skip ?_
    refine k_seq ?_
    refine k_rg mixed H (.v 2 (vI (-1)) <| .nil) fun u8 a w' H => ?_
    replace H := H.kp [2]
    refine k_ret ?_
    obtain rfl := Option.some.inj G
    exact k_done0 H _ (by kernel_rfl) (by kernel_rfl)
set_option maxHeartbeats 4000000 in
theorem ode_exprLen.calls (k0 : Nat) (a0 : List TNode) (p_a0 : Option Addr) (c_a0 : Nat) (r : Int) (w : World) (hB : AllH [rdl anyF 4 p_a0 c_a0 a0 en_TNode] w) (G : ode_exprLen k0 a0 = some r) :
  Calls Tryz.prog 62 #[.slice p_a0 a0.length c_a0] w fun e w' => e = .returned (vI r) ∧ Below w.heap.size w w' := by
 obtain ⟨fr, hfr⟩ : ∃ fr : Nat → Prop, ∀ j, fr j := ⟨fun _ => True, fun _ => trivial⟩
 have hBf : ∀ j, w.heap.size ≤ j → fr j := fun j _ => hfr j
 refine k_enterF (args := [.slice p_a0 a0.length c_a0]) 27 [(27, rdl anyF 4 p_a0 c_a0 a0 en_TNode)] (by
  intro x hx
  simp only [List.mem_cons, List.not_mem_nil, or_false] at hx
  rcases hx with rfl
  exact rdF_fact (rdF_of hB.1) (fun _ _ => trivial) (by decide) _) Tryz.func62 rfl (by kernel_rfl) (by kernel_rfl) fun a H => ?_
 unfold ode_exprLen at G
 refine k_seq ?_
 refine k_rg mixed H (.v 2 (vI 0) <| .nil) fun u1 a w' H => ?_
 replace H := H.kp [0, 27]
 refine k_seq ?_
 refine k_rg mixed H (.v 3 (vI 1) <| .nil) fun u2 a w' H => ?_
 replace H := H.kp [0, 3, 27]
 refine k_seq ?_
 replace G := bnd G; obtain ⟨j3, hj3, Gj3⟩ := G
 refine k_join (fun a w' => ∃ j3v, j3 = Sum.inr j3v ∧ Rep w.heap.size w 27 (ofL [(0, sS p_a0 a0.length c_a0), (27, rdl anyF 4 p_a0 c_a0 a0 en_TNode)]) a w') ?_ ?_
 ·clear H; rintro a w' ⟨j3v, rfl, H⟩; have G := Gj3; clear Gj3; dsimp only at G
  refine k_seq ?_
  refine k_rg mixed H (.v 24 (.slice p_a0 a0.length c_a0) <|
   .v 25 (vI (a0.length : Int)) <|
   .v 26 (vI (w_i64 ((a0.length : Int) + 1))) <|
   .v 2 (vI (w_i64 ((a0.length : Int) + 1))) <| .nil) fun u4 a w' H => ?_
  replace H := H.kp [2]
  refine k_ret ?_
  obtain rfl := Option.some.inj G
  exact k_done0 H _ (by kernel_rfl) (by kernel_rfl)
 ·have G := hj3; clear hj3
  refine k_seq ?_
  refine k_rg mixed H (.v 6 (.slice p_a0 a0.length c_a0) <|
   .v 7 (vI (a0.length : Int)) <|
   .v 8 (vI 0) <| .nil) fun u5 a w' H => ?_
  replace H := H.kp [0, 3, 6, 7, 8, 27]
  refine k_block ?_
  refine k_loopJ (fun m a w' => ∃ x6 : Int, ∃ x7 : Int, ode_exprLen.l8 k0 a0 m x6 x7 = some j3 ∧ Rep w.heap.size w 27 (ofL [(0, sS p_a0 a0.length c_a0), (3, sI x6), (6, sS p_a0 a0.length c_a0), (7, (sI (a0.length : Int))), (8, sI x7), (27, rdl anyF 4 p_a0 c_a0 a0 en_TNode)]) a w') k0 ⟨_, _, G, H.toL _ (by kernel_rfl)⟩ ?_
  clear G H
  rintro (_ | k) a w' ⟨x6, x7, G, H⟩
  ·exact absurd G (by unfold ode_exprLen.l8; exact fun h => by cases h)
  ·unfold ode_exprLen.l8 at G
   refine k_seq ?_
   refine k_rg mixed H (.v 9 (.bool (decide (x7 < (a0.length : Int)))) <| .nil) fun u9 a w' H => ?_
   replace H := H.kp [0, 3, 6, 7, 8, 9, 27]
   refine k_seq ?_
   refine k_cond H (by kernel_rfl) (t := decide (x7 < (a0.length : Int))) (by kernel_rfl) (fun c19 => ?_) (fun c19 => ?_)
   ·rw [if_pos c19] at G
    refine k_skip ?_
    refine k_seq ?_
    refine k_block ?_
    refine k_seq ?_
    replace G := gd G; obtain ⟨b11, G⟩ := G
    replace G := bnd G; obtain ⟨t12, ht12, G⟩ := G
    refine k_rg mixed H (.v 10 (vI x7) <|
   .cons [11] (ok_valL [27] (fun u10 => [rdl anyF 4 p_a0 c_a0 a0 en_TNode]) (fun u10 => .pointer (some ⟨hdB p_a0, hdO p_a0 + x7.toNat * 4, none⟩)) (fun u10 => true) [true, true] 11 (fun u10 w hg hF => ix_row (t := 59) (k := .i64) (i := x7) (p := p_a0) (n := a0.length) (cap := c_a0) (x := a0) (en := en_TNode) (rdF_of hF.1).2 en_TNode_len rfl b11 (by kernel_rfl))) <|
   .cons [12] (ok_valL [27] (fun u10 => [rdl anyF 4 p_a0 c_a0 a0 en_TNode]) (fun u10 => .agg #[vI t12.Op, vI t12.N, vI t12.C.Lo, vI t12.C.Hi]) (fun u10 => true) [true] 12 (fun u10 w hg hF => ld_row (en := en_TNode) (rdF_of hF.1).2 en_TNode_len ht12 0 4 [vI t12.Op, vI t12.N, vI t12.C.Lo, vI t12.C.Hi] rfl (by kernel_rfl))) <|
   .cons [5, 28] (ok_new (fun b => vP b 0) (fun u10 => [vI 0, vI 0, vI 0, vI 0]) 61 5 28) <|
   .v 4 (vI x7) <|
   .cons [28] (ok_as (u' := fun u10 => [(28, .blk ((u10 3).n 0) [vI t12.Op, vI t12.N, vI t12.C.Lo, vI t12.C.Hi] 61)]) (ok_store 28 0 (fun u10 => ((u10 3).n 0)) (fun u10 => [vI 0, vI 0, vI 0, vI 0]) (fun u10 => [vI t12.Op, vI t12.N, vI t12.C.Lo, vI t12.C.Hi]) 61) (fun _ => by kernel_rfl)) <| .nil) fun u10 a w' H => ?_
    replace H := H.kp [0, 3, 4, 5, 6, 7, 8, 27, 28]
    refine k_seq ?_
    replace G := bnd G; obtain ⟨t14, ht14, G⟩ := G
    refine k_rg mixed H (.v 13 (vI x6) <|
   .v 14 (vP ((u10 3).n 0) 0) <|
   .cons [15] (ok_ld (fun u13 => vI t12.Op) 15 28 0 1 (fun u13 => ((u10 3).n 0)) (fun u13 => [vI t12.Op, vI t12.N, vI t12.C.Lo, vI t12.C.Hi]) 61) <|
   .cons [16] (ok_callv 61 (fun u13 => #[vI t12.Op]) (vI t14) 16 [] (fun u13 w _ => ode_arity.calls t12.Op  t14 w  ht14)) <|
   .v 17 (vI (w_i64 (t14 - 1))) <|
   .v 18 (vI (w_i64 (x6 + (w_i64 (t14 - 1))))) <|
   .v 3 (vI (w_i64 (x6 + (w_i64 (t14 - 1))))) <| .nil) fun u13 a w' H => ?_
    replace H := H.kp [0, 3, 4, 6, 7, 8, 27]
    refine k_seq ?_
    refine k_rg mixed H (.v 19 (vI (w_i64 (x6 + (w_i64 (t14 - 1))))) <|
   .v 20 (.bool ((w_i64 (x6 + (w_i64 (t14 - 1)))) == 0)) <| .nil) fun u15 a w' H => ?_
    replace H := H.kp [0, 3, 4, 6, 7, 8, 20, 27]
    refine k_cond H (by kernel_rfl) (t := ((w_i64 (x6 + (w_i64 (t14 - 1)))) == 0)) (by kernel_rfl) (fun c18 => ?_) (fun c18 => ?_)
    ·rw [if_pos c18] at G
     refine k_seq ?_
     refine k_rg mixed H (.v 21 (vI x7) <|
   .v 22 (vI (w_i64 (x7 + 1))) <|
   .v 2 (vI (w_i64 (x7 + 1))) <| .nil) fun u16 a w' H => ?_
     replace H := H.kp [2]
     refine k_ret ?_
     obtain rfl := Option.some.inj G
     replace G := Gj3
     obtain rfl := Option.some.inj G
     exact k_done0 H _ (by kernel_rfl) (by kernel_rfl)
    ·rw [if_neg (nt c18)] at G
     refine k_skip ?_
     refine k_rg mixed H (.v 23 (vI (w_i64 (x7 + 1))) <|
   .v 8 (vI (w_i64 (x7 + 1))) <| .nil) fun u17 a w' H => ?_
     replace H := H.kp [0, 3, 6, 7, 8, 27]
     exact ⟨k, Nat.lt_succ_self k, _, _, G, H.toL _ (by kernel_rfl)⟩
   ·rw [if_neg (nt c19)] at G
    refine k_exit rfl ?_
    obtain rfl := Option.some.inj G
    exact ⟨_, rfl, H.toL _ (by kernel_rfl)⟩
set_option maxHeartbeats 4000000 in
theorem ode_Operands.calls (k0 : Nat) (a0 : List TNode) (p_a0 : Option Addr) (c_a0 : Nat) (r : List (List TNode)) (w : World) (hF : AllH [rdl anyF 4 p_a0 c_a0 a0 en_TNode] w) (G : ode_Operands k0 a0 = some r) :
  Calls Tryz.prog 36 #[.slice p_a0 a0.length c_a0] w fun e w' => ∃ g : Gh, e = .returned (.slice (g.o 0) ((g.dl Sl.l gd_S_TNode 0 r).length) (g.n 0)) ∧ But (fpK []) w w' ∧ OutOK w.heap.size (fpK []) (frI w.heap.size [rdl anyF 4 p_a0 c_a0 a0 en_TNode]) [fun _ => owK 59 1 (g.o 0) ((g.dl Sl.l gd_S_TNode 0 r).length) (g.n 0) ((g.dl Sl.l gd_S_TNode 0 r).flatMap enSl), fun fr => dnK fr E_S_TNode.toPart (g.dl Sl.l gd_S_TNode 0 r)] w' := by
 obtain ⟨fr, hfr⟩ : ∃ fr : Nat → Prop, fr = frI w.heap.size [rdl anyF 4 p_a0 c_a0 a0 en_TNode] := ⟨_, rfl⟩
 have hBf : ∀ j, w.heap.size ≤ j → fr j := fun j h => by rw [hfr]; exact .inl h
 refine k_enterF (args := [.slice p_a0 a0.length c_a0]) 30 [(30, rdl fr 4 p_a0 c_a0 a0 en_TNode)] (by
  intro x hx
  simp only [List.mem_cons, List.not_mem_nil, or_false] at hx
  rcases hx with rfl
  exact rdF_fact (rdF_of hF.1) (fun j h => by rw [hfr]; exact .inr ⟨_, (.head _), h⟩) (by decide) _) Tryz.func36 rfl (by kernel_rfl) (by kernel_rfl) fun a H => ?_
 unfold ode_Operands at G
 refine k_seq ?_
 refine k_rg mixed H (.v 2 (.slice none 0 0) <| .nil) fun u1 a w' H => ?_
 replace H := H.kp [0, 30]
 refine k_seq ?_
 refine k_rg mixed H (.v 3 (.slice none 0 0) <| .nil) fun u2 a w' H => ?_
 replace H := H.kp [0, 3, 30]
 refine k_seq ?_
 refine k_rg mixed H (.v 4 (vI 1) <| .nil) fun u3 a w' H => ?_
 replace H := H.kp [0, 3, 4, 30]
 refine k_seq ?_
 replace G := bnd G; obtain ⟨j5, hj5, G⟩ := G
 refine k_join (fun a w' => ∃ (p_j4 : Option Addr) (c_j4 np_j4 : Nat) (L_j4 : List (Sl TNode)), np_j4 = L_j4.length ∧ j5 = L_j4.map Sl.l ∧ Rep w.heap.size w 30 (ofL [(3, sS p_j4 np_j4 c_j4), (900052, owK 59 1 p_j4 np_j4 c_j4 (L_j4.flatMap enSl)), (900053, dnK fr E_S_TNode.toPart L_j4)]) a w') ?_ ?_
 ·clear H; rintro a w' ⟨p_j4, c_j4, _, L_j4, rfl, h_j4, H⟩
  refine k_seq ?_
  refine k_rg mixed H (.v 29 (.slice p_j4 L_j4.length c_j4) <|
   .v 2 (.slice p_j4 L_j4.length c_j4) <| .nil) fun u6 a w' H => ?_
  replace H := H.kp [2, 900052, 900053]
  refine k_ret ?_
  obtain rfl := Option.some.inj G
  obtain ⟨g, o0, n0, d0⟩ : ∃ g : Gh, g.o 0 = p_j4 ∧ g.n 0 = c_j4 ∧ g.dl Sl.l gd_S_TNode 0 j5 = L_j4 := ⟨⟨fun i => [c_j4].getD i 0, fun i => [p_j4].getD i none, fun i => ([⟨List (Sl TNode), L_j4⟩] : List ((T : Type) × T)).getD i ⟨Unit, ()⟩⟩, rfl, rfl, dl_mk rfl h_j4⟩
  refine k_doneZ H (fun g => .slice (g.o 0) ((g.dl Sl.l gd_S_TNode 0 j5).length) (g.n 0)) g [] [rdl anyF 4 p_a0 c_a0 a0 en_TNode] (fun g => [fun _ => owK 59 1 (g.o 0) ((g.dl Sl.l gd_S_TNode 0 j5).length) (g.n 0) ((g.dl Sl.l gd_S_TNode 0 j5).flatMap enSl), fun fr => dnK fr E_S_TNode.toPart (g.dl Sl.l gd_S_TNode 0 j5)]) fr [900052, 900053] [] (.slice p_j4 L_j4.length c_j4) [fun _ => owK 59 1 p_j4 L_j4.length c_j4 (L_j4.flatMap enSl), fun fr => dnK fr E_S_TNode.toPart L_j4] (by simp only [o0, n0, d0]) (by simp only [o0, n0, d0]) hfr (.inl ⟨rfl, rfl⟩) (fams_cons fam_ow (fams_cons fam_dn fams_nil)) (by simp)
 ·clear G; replace G := hj5; clear hj5
  refine k_seq ?_
  replace G := gd G; obtain ⟨b8, G⟩ := G
  replace G := bnd G; obtain ⟨t9, ht9, G⟩ := G
  replace G := bnd G; obtain ⟨t10, ht10, G⟩ := G
  refine k_rg mixed H (.v 6 (.slice p_a0 a0.length c_a0) <|
   .cons [7] (ok_valL [30] (fun u7 => [rdl fr 4 p_a0 c_a0 a0 en_TNode]) (fun u7 => .pointer (some ⟨hdB p_a0, hdO p_a0 + ((0 : Int).toNat) * 4, none⟩)) (fun u7 => true) [true, true] 7 (fun u7 w hg hF => ix_row (t := 59) (k := .i64) (i := (0 : Int)) (p := p_a0) (n := a0.length) (cap := c_a0) (x := a0) (en := en_TNode) (rdF_of hF.1).2 en_TNode_len rfl b8 (by kernel_rfl))) <|
   .v 8 (.pointer (some ⟨hdB p_a0, hdO p_a0 + ((0 : Int).toNat) * 4 + 0, none⟩)) <|
   .cons [9] (ok_valL [30] (fun u7 => [rdl fr 4 p_a0 c_a0 a0 en_TNode]) (fun u7 => vI t9.Op) (fun u7 => true) [true] 9 (fun u7 w hg hF => ld_row (en := en_TNode) (rdF_of hF.1).2 en_TNode_len ht9 0 1 [vI t9.Op] rfl (by kernel_rfl))) <|
   .cons [10] (ok_callv 61 (fun u7 => #[vI t9.Op]) (vI t10) 10 [] (fun u7 w _ => ode_arity.calls t9.Op  t10 w  ht10)) <|
   .v 11 (vI 0) <| .nil) fun u7 a w' H => ?_
  replace H := H.kp [0, 3, 4, 10, 11, 30]
  refine k_block ?_
  replace H := H.nil_row 37 59 1
  replace H := H.add0 38 (dnK fr E_S_TNode.toPart ([] : List (Sl TNode))) (by intro _ _ h; cases h) (dn_holds rdl_nil (fun j h => by obtain ⟨_, hy, _⟩ := h; cases hy)) (fun j h => by obtain ⟨_, hy, _⟩ := h; cases hy)
  replace H := H.move (K := owK 59 1 none 0 0 (([] : List (Sl TNode)).flatMap enSl)) 37 900054 (by kernel_rfl) (by intro _ _ h; cases h)
  replace H := H.dup (K := dnK fr E_S_TNode.toPart ([] : List (Sl TNode))) 38 900055 (by kernel_rfl) (fun h => h) (by intro _ _ h; cases h)
  refine k_loopJ (fun m a w' => ∃ x11 : List (List TNode), ∃ x12 : Int, ∃ x13 : Int, ode_Operands.l14 k0 a0 t9 t10 m x11 x12 x13 = some j5 ∧ ∃ (p_x11 : Option Addr) (c_x11 np_x11 : Nat) (L_x11 : List (Sl TNode)), np_x11 = L_x11.length ∧ x11 = L_x11.map Sl.l ∧ Rep w.heap.size w 30 (ofL [(0, sS p_a0 a0.length c_a0), (3, sS p_x11 np_x11 c_x11), (4, sI x12), (10, sI t10), (11, sI x13), (30, rdl fr 4 p_a0 c_a0 a0 en_TNode), (900054, owK 59 1 p_x11 np_x11 c_x11 (L_x11.flatMap enSl)), (900055, dnK fr E_S_TNode.toPart L_x11)]) a w') k0 ⟨_, _, _, G, none, 0, 0, ([] : List (Sl TNode)), rfl, rfl, H.toL _ (by kernel_rfl)⟩ ?_
  clear G H
  rintro (_ | k) a w' ⟨x11, x12, x13, G, p_x11, c_x11, _, L_x11, rfl, h_x11, H⟩
  ·exact absurd G (by unfold ode_Operands.l14; exact fun h => by cases h)
  ·unfold ode_Operands.l14 at G
   refine k_seq ?_
   refine k_rg mixed H (.v 12 (.bool (decide (x13 < t10))) <| .nil) fun u15 a w' H => ?_
   replace H := H.kp [0, 3, 4, 10, 11, 12, 30, 900054, 900055]
   refine k_seq ?_
   refine k_cond H (by kernel_rfl) (t := decide (x13 < t10)) (by kernel_rfl) (fun c24 => ?_) (fun c24 => ?_)
   ·rw [if_pos c24] at G
    refine k_skip ?_
    refine k_seq ?_
    refine k_block ?_
    refine k_seq ?_
    replace G := gd G; obtain ⟨b17, G⟩ := G
    replace G := bnd G; obtain ⟨t18, ht18, G⟩ := G
    refine k_rg mixed H (.v 13 (vI x12) <|
   .v 14 (.slice p_a0 a0.length c_a0) <|
   .v 15 (vI x12) <|
   .cons [16] (ok_valL [30] (fun u16 => [rdl fr 4 p_a0 c_a0 a0 en_TNode]) (fun u16 => .slice (viewP p_a0 x12.toNat 4 c_a0) ((a0.drop x12.toNat).length) (c_a0 - x12.toNat)) (fun u16 => true) [true, true] 16 (fun u16 w _ hF => run_of (by kernel_rfl) (run_low (t := 59) (sz := 4) (l := a0) (k := .i64) rfl b17))) <|
   .cons [17] (ok_callL [30] (fun u16 => [rdl fr 4 p_a0 c_a0 a0 en_TNode]) 62 (fun u16 => #[.slice (viewP p_a0 x12.toNat 4 c_a0) ((a0.drop x12.toNat).length) (c_a0 - x12.toNat)]) (vI t18) 17 (fun u16 w hF => ode_exprLen.calls k0 (a0.drop x12.toNat) (viewP p_a0 x12.toNat 4 c_a0) (c_a0 - x12.toNat) t18 w  ⟨(rdA (RowC.low (en := en_TNode) (rdF_of hF.1) en_TNode_len b17)), trivial⟩ ht18)) <|
   .v 18 (vI (w_i64 (x12 + t18))) <|
   .v 5 (vI (w_i64 (x12 + t18))) <| .nil) fun u16 a w' H => ?_
    replace H := H.kp [0, 3, 4, 5, 10, 11, 30, 900054, 900055]
    refine k_seq ?_
    replace G := gd G; obtain ⟨b20, G⟩ := G
    replace G := gd G; obtain ⟨b21, G⟩ := G
    refine k_rg mixed H (.v 19 (.slice p_x11 L_x11.length c_x11) <|
   .v 20 (.slice p_a0 a0.length c_a0) <|
   .v 21 (vI x12) <|
   .v 22 (vI (w_i64 (x12 + t18))) <|
   .v 23 (vI (w_i64 (x12 + t18))) <|
   .cons [24] (ok_valL [30] (fun u19 => [rdl fr 4 p_a0 c_a0 a0 en_TNode]) (fun u19 => .slice (viewP p_a0 x12.toNat 4 ((w_i64 (x12 + t18)).toNat)) (((a0.take (w_i64 (x12 + t18)).toNat).drop x12.toNat).length) ((w_i64 (x12 + t18)).toNat - x12.toNat)) (fun u19 => true) [true, true, true, true] 24 (fun u19 w _ hF => run_of (by kernel_rfl) (run_lohim (t := 59) (sz := 4) (l := a0) (k := .i64) (k' := .i64) (k2 := .i64) rfl b20 (rdF_of hF.1).1))) <|
   .cons [25, 31] (ok_new (fun b => .slice (some ⟨b, 0, none⟩) 1 1) (fun u19 => [.slice (viewP p_a0 x12.toNat 4 ((w_i64 (x12 + t18)).toNat)) (((a0.take (w_i64 (x12 + t18)).toNat).drop x12.toNat).length) ((w_i64 (x12 + t18)).toNat - x12.toNat)]) 59 25 31) <|
   .cons [26, 900054, 900054, 32] (ok_ownF [6] [900055, 31, 30] (fun u19 => [dnK fr E_S_TNode.toPart L_x11, .blk ((u19 6).n 0) [.slice (viewP p_a0 x12.toNat 4 ((w_i64 (x12 + t18)).toNat)) (((a0.take (w_i64 (x12 + t18)).toNat).drop x12.toNat).length) ((w_i64 (x12 + t18)).toNat - x12.toNat)] 59, rdl fr 4 p_a0 c_a0 a0 en_TNode]) 900054 32 (fun u19 => owK 59 1 p_x11 L_x11.length c_x11 (L_x11.flatMap enSl)) (some 26) (fun u19 g => .slice (g.o 0) (L_x11 ++ [(⟨(viewP p_a0 x12.toNat 4 ((w_i64 (x12 + t18)).toNat)), ((w_i64 (x12 + t18)).toNat - x12.toNat), ((a0.take (w_i64 (x12 + t18)).toNat).drop x12.toNat)⟩ : Sl TNode)]).length (g.n 0)) (fun u19 g => owK 59 1 (g.o 0) ((L_x11 ++ [(⟨(viewP p_a0 x12.toNat 4 ((w_i64 (x12 + t18)).toNat)), ((w_i64 (x12 + t18)).toNat - x12.toNat), ((a0.take (w_i64 (x12 + t18)).toNat).drop x12.toNat)⟩ : Sl TNode)]).length) (g.n 0) ((L_x11 ++ [(⟨(viewP p_a0 x12.toNat 4 ((w_i64 (x12 + t18)).toNat)), ((w_i64 (x12 + t18)).toNat - x12.toNat), ((a0.take (w_i64 (x12 + t18)).toNat).drop x12.toNat)⟩ : Sl TNode)]).flatMap enSl)) (fun u19 g => dnK fr E_S_TNode.toPart (L_x11 ++ [(⟨(viewP p_a0 x12.toNat 4 ((w_i64 (x12 + t18)).toNat)), ((w_i64 (x12 + t18)).toNat - x12.toNat), ((a0.take (w_i64 (x12 + t18)).toNat).drop x12.toNat)⟩ : Sl TNode)])) (fun u19 w hF hK => tv_appF (run_app_rowN (t := 41) (ty := 41) (en := enSl) enSl_len inf59 (ow_of hK) hF.2.1 (news := [(⟨(viewP p_a0 x12.toNat 4 ((w_i64 (x12 + t18)).toNat)), ((w_i64 (x12 + t18)).toNat - x12.toNat), ((a0.take (w_i64 (x12 + t18)).toNat).drop x12.toNat)⟩ : Sl TNode)]) rfl (by simp) (by kernel_rfl) (by rw [← map_len h_x11]; exact b21)) (dn_app hF.1 (.head _) ⟨(RowC.lohim (en := en_TNode) (rdF_of hF.2.2.1) en_TNode_len b20), fun _ _ => trivial⟩ (fun j h => (h.elim (fun h => ff_of (.tail _ (.tail _ (.head _))) (fun h => h) (fpRow_low (by simp only [List.length_drop, List.length_take]; omega) h) (rdF_fr hF.2.2.1 _ (fpRow_low (by simp only [List.length_drop, List.length_take]; omega) h))) (fun ⟨_, _, hz⟩ => hz.elim))))) (hloc := fun u u' h => ⟨by first | rfl | simp only [h 6 (by decide)], by first | rfl | simp only [h 6 (by decide)], by first | rfl | simp only [h 6 (by decide)], by first | rfl | simp only [h 6 (by decide)], by first | rfl | simp only [h 6 (by decide)]⟩)) <|
   .cons [3] (ok_val (fun u19 => .slice ((u19 7).o 0) ((L_x11 ++ [(⟨(viewP p_a0 x12.toNat 4 ((w_i64 (x12 + t18)).toNat)), ((w_i64 (x12 + t18)).toNat - x12.toNat), ((a0.take (w_i64 (x12 + t18)).toNat).drop x12.toNat)⟩ : Sl TNode)]).length) ((u19 7).n 0)) 3) <| .nil) fun u19 a w' H => ?_
    replace H := H.kp [0, 3, 5, 10, 11, 30, 32, 900054]
    refine k_rg mixed H (.v 27 (vI (w_i64 (x12 + t18))) <|
   .v 4 (vI (w_i64 (x12 + t18))) <| .nil) fun u22 a w' H => ?_
    replace H := H.kp [0, 3, 4, 10, 11, 30, 32, 900054]
    refine k_rg mixed H (.v 28 (vI (w_i64 (x13 + 1))) <|
   .v 11 (vI (w_i64 (x13 + 1))) <| .nil) fun u23 a w' H => ?_
    replace H := H.kp [0, 3, 4, 10, 11, 30, 32, 900054]
    replace H := H.dup (K := dnK fr E_S_TNode.toPart (L_x11 ++ [(⟨(viewP p_a0 x12.toNat 4 ((w_i64 (x12 + t18)).toNat)), ((w_i64 (x12 + t18)).toNat - x12.toNat), ((a0.take (w_i64 (x12 + t18)).toNat).drop x12.toNat)⟩ : Sl TNode)])) 32 900055 (by kernel_rfl) (fun h => h) (by intro _ _ h; cases h)
    exact ⟨k, Nat.lt_succ_self k, _, _, _, G, ((u19 7).o 0), ((u19 7).n 0), (L_x11 ++ [(⟨(viewP p_a0 x12.toNat 4 ((w_i64 (x12 + t18)).toNat)), ((w_i64 (x12 + t18)).toNat - x12.toNat), ((a0.take (w_i64 (x12 + t18)).toNat).drop x12.toNat)⟩ : Sl TNode)]).length, (L_x11 ++ [(⟨(viewP p_a0 x12.toNat 4 ((w_i64 (x12 + t18)).toNat)), ((w_i64 (x12 + t18)).toNat - x12.toNat), ((a0.take (w_i64 (x12 + t18)).toNat).drop x12.toNat)⟩ : Sl TNode)]), rfl, (map_app h_x11 (⟨(viewP p_a0 x12.toNat 4 ((w_i64 (x12 + t18)).toNat)), ((w_i64 (x12 + t18)).toNat - x12.toNat), ((a0.take (w_i64 (x12 + t18)).toNat).drop x12.toNat)⟩ : Sl TNode)), H.toL _ (by kernel_rfl)⟩
   ·rw [if_neg (nt c24)] at G
    refine k_exit rfl ?_
    obtain rfl := Option.some.inj G
    replace H := H.move (K := owK 59 1 p_x11 L_x11.length c_x11 (L_x11.flatMap enSl)) 900054 900052 (by kernel_rfl) (by intro _ _ h; cases h)
    replace H := H.dup (K := dnK fr E_S_TNode.toPart L_x11) 900055 900053 (by kernel_rfl) (fun h => h) (by intro _ _ h; cases h)
    exact ⟨p_x11, c_x11, L_x11.length, L_x11, rfl, h_x11, H.toL _ (by kernel_rfl)⟩
set_option maxHeartbeats 4000000 in
theorem tape_builder_emit_m.calls (a0_0 : List TInstruction) (a0_1 : List (TInstruction × Int)) (a1 : TInstruction) (b_a0 : Nat) (p_a0_0 : Option Addr) (c_a0_0 : Nat) (b_a0_1 : Nat) (r : Int × List TInstruction × (List (TInstruction × Int))) (w : World) (hM : OwnH [owK 110 5 p_a0_0 a0_0.length c_a0_0 (a0_0.flatMap en_TInstruction), mpK b_a0_1 ek_TInstruction .i64 a0_1, .blk b_a0 [.slice p_a0_0 a0_0.length c_a0_0, .map (some b_a0_1)] 107] ([] ++ []) w) (G : tape_builder_emit_m a0_0 a0_1 a1 = some r) :
  Calls Tryz.prog 37 #[vP b_a0 0, .agg #[vI a1.Op, vI a1.A, vI a1.B, vI a1.C.Lo, vI a1.C.Hi]] w fun e w' => ∃ g : Gh, e = .returned (vI r.1) ∧ But (fpK [owK 110 5 p_a0_0 a0_0.length c_a0_0 (a0_0.flatMap en_TInstruction), mpK b_a0_1 ek_TInstruction .i64 a0_1, .blk b_a0 [.slice p_a0_0 a0_0.length c_a0_0, .map (some b_a0_1)] 107]) w w' ∧ OutOK w.heap.size (fpK [owK 110 5 p_a0_0 a0_0.length c_a0_0 (a0_0.flatMap en_TInstruction), mpK b_a0_1 ek_TInstruction .i64 a0_1, .blk b_a0 [.slice p_a0_0 a0_0.length c_a0_0, .map (some b_a0_1)] 107]) (frI w.heap.size []) [fun _ => owK 110 5 (g.o 0) r.2.1.length (g.n 0) (r.2.1.flatMap en_TInstruction), fun _ => .blk b_a0 [.slice (g.o 0) r.2.1.length (g.n 0), .map (some b_a0_1)] 107, fun _ => mpK b_a0_1 ek_TInstruction .i64 r.2.2] w' := by
 obtain ⟨fr, hfr⟩ : ∃ fr : Nat → Prop, fr = frI w.heap.size [] := ⟨_, rfl⟩
 have hBf : ∀ j, w.heap.size ≤ j → fr j := fun j h => by rw [hfr]; exact .inl h
 refine k_enterY (args := [vP b_a0 0, .agg #[vI a1.Op, vI a1.A, vI a1.B, vI a1.C.Lo, vI a1.C.Hi]]) 43 [] [(44, owK 110 5 p_a0_0 a0_0.length c_a0_0 (a0_0.flatMap en_TInstruction)), (45, mpK b_a0_1 ek_TInstruction .i64 a0_1), (43, .blk b_a0 [.slice p_a0_0 a0_0.length c_a0_0, .map (some b_a0_1)] 107)] (ownH_fps hM (by rfl)) (fun x hx => by cases hx) (by rfl) Tryz.func37 rfl (by kernel_rfl) (by kernel_rfl) fun a H => ?_
 unfold tape_builder_emit_m at G
 refine k_seq ?_
 refine k_rg mixed H (.cons [3, 46] (ok_new (fun b => vP b 0) (fun u1 => [vI a1.Op, vI a1.A, vI a1.B, vI a1.C.Lo, vI a1.C.Hi]) 110 3 46) <|
   .v 4 (vI 0) <| .nil) fun u1 a w' H => ?_
 replace H := H.kp [0, 3, 43, 44, 45, 46, 999998]
 refine k_seq ?_
 refine k_seq ?_
 replace G := bnd G; obtain ⟨z3, hz3, G⟩ := G
 replace hz3 := Option.some.inj hz3
 refine k_rg mixed H (.v 9 (vP b_a0 0) <|
   .v 10 (vP b_a0 0) <|
   .v 11 (vP b_a0 1) <|
   .cons [12] (ok_ld (fun u2 => .map (some b_a0_1)) 12 43 1 1 (fun u2 => b_a0) (fun u2 => [.slice p_a0_0 a0_0.length c_a0_0, .map (some b_a0_1)]) 107) <|
   .cons [13] (ok_ld (fun u2 => .agg #[vI a1.Op, vI a1.A, vI a1.B, vI a1.C.Lo, vI a1.C.Hi]) 13 46 0 5 (fun u2 => ((u1 0).n 0)) (fun u2 => [vI a1.Op, vI a1.A, vI a1.B, vI a1.C.Lo, vI a1.C.Hi]) 110) <|
   .cons [14] (ok_valL [45] (fun u2 => [mpK b_a0_1 ek_TInstruction .i64 a0_1]) (fun u2 => .tuple #[vI ((mget a0_1 (⟨a1.Op, a1.A, a1.B, (⟨a1.C.Lo, a1.C.Hi⟩ : TInterval)⟩ : TInstruction)).getD 0), .bool ((mget a0_1 (⟨a1.Op, a1.A, a1.B, (⟨a1.C.Lo, a1.C.Hi⟩ : TInterval)⟩ : TInstruction)).isSome)]) (fun u2 => true) [true, true] 14 (fun u2 w hg hF => r_mlook (t := 105) (e := 3) (x := (⟨a1.Op, a1.A, a1.B, (⟨a1.C.Lo, a1.C.Hi⟩ : TInterval)⟩ : TInstruction)) kek_TInstruction (ob_of hF.1))) <|
   .v 8 (.tuple #[vI ((mget a0_1 (⟨a1.Op, a1.A, a1.B, (⟨a1.C.Lo, a1.C.Hi⟩ : TInterval)⟩ : TInstruction)).getD 0), .bool ((mget a0_1 (⟨a1.Op, a1.A, a1.B, (⟨a1.C.Lo, a1.C.Hi⟩ : TInterval)⟩ : TInstruction)).isSome)]) <|
   .cons [15] (ok_as (u' := fun u2 => [(15, sI z3)]) (ok_val (fun u2 => vI ((mget a0_1 (⟨a1.Op, a1.A, a1.B, (⟨a1.C.Lo, a1.C.Hi⟩ : TInterval)⟩ : TInstruction)).getD 0)) 15) (fun _ => by rw [← hz3])) <|
   .v 16 (.bool ((mget a0_1 (⟨a1.Op, a1.A, a1.B, (⟨a1.C.Lo, a1.C.Hi⟩ : TInterval)⟩ : TInstruction)).isSome)) <|
   .v 5 (vI z3) <|
   .v 6 (.bool ((mget a0_1 (⟨a1.Op, a1.A, a1.B, (⟨a1.C.Lo, a1.C.Hi⟩ : TInterval)⟩ : TInstruction)).isSome)) <| .nil) fun u2 a w' H => ?_
 replace H := H.kp [0, 3, 5, 6, 43, 44, 45, 46, 999998]
 refine k_seq ?_
 refine k_rg mixed H (.v 17 (.bool ((mget a0_1 (⟨a1.Op, a1.A, a1.B, (⟨a1.C.Lo, a1.C.Hi⟩ : TInterval)⟩ : TInstruction)).isSome)) <| .nil) fun u4 a w' H => ?_
 replace H := H.kp [0, 3, 5, 17, 43, 44, 45, 46, 999998]
 refine k_cond H (by kernel_rfl) (t := (mget a0_1 (⟨a1.Op, a1.A, a1.B, (⟨a1.C.Lo, a1.C.Hi⟩ : TInterval)⟩ : TInstruction)).isSome) (by kernel_rfl) (fun c11 => ?_) (fun c11 => ?_)
 ·rw [if_pos c11] at G
  refine k_seq ?_
  refine k_rg mixed H (.v 18 (vI z3) <|
   .v 4 (vI z3) <| .nil) fun u5 a w' H => ?_
  replace H := H.kp [4, 43, 44, 45, 999998]
  refine k_ret ?_
  obtain rfl := Option.some.inj G
  obtain ⟨g, o0, n0⟩ : ∃ g : Gh, g.o 0 = p_a0_0 ∧ g.n 0 = c_a0_0 := ⟨⟨fun i => [c_a0_0].getD i 0, fun i => [p_a0_0].getD i none, fun i => ([⟨Unit, ()⟩] : List ((T : Type) × T)).getD i ⟨Unit, ()⟩⟩, rfl, rfl⟩
  refine k_doneZ H (fun g => vI z3) g [owK 110 5 p_a0_0 a0_0.length c_a0_0 (a0_0.flatMap en_TInstruction), mpK b_a0_1 ek_TInstruction .i64 a0_1, .blk b_a0 [.slice p_a0_0 a0_0.length c_a0_0, .map (some b_a0_1)] 107] [] (fun g => [fun _ => owK 110 5 (g.o 0) a0_0.length (g.n 0) (a0_0.flatMap en_TInstruction), fun _ => .blk b_a0 [.slice (g.o 0) a0_0.length (g.n 0), .map (some b_a0_1)] 107, fun _ => mpK b_a0_1 ek_TInstruction .i64 a0_1]) fr [44, 43, 45] [] (vI z3) [fun _ => owK 110 5 p_a0_0 a0_0.length c_a0_0 (a0_0.flatMap en_TInstruction), fun _ => .blk b_a0 [.slice p_a0_0 a0_0.length c_a0_0, .map (some b_a0_1)] 107, fun _ => mpK b_a0_1 ek_TInstruction .i64 a0_1] (by simp only [o0, n0]) (by simp only [o0, n0]) hfr (.inr (by kernel_rfl)) (fams_cons fam_ow (fams_cons fam_blk (fams_cons fam_ob fams_nil))) (by simp)
 ·rw [if_neg (nt c11)] at G
  refine k_skip ?_
  refine k_seq ?_
  refine k_rg mixed H (.v 19 (vP b_a0 0) <|
   .v 20 (vP b_a0 0) <|
   .v 21 (vP b_a0 0) <|
   .cons [22] (ok_ld (fun u6 => .slice p_a0_0 a0_0.length c_a0_0) 22 43 0 1 (fun u6 => b_a0) (fun u6 => [.slice p_a0_0 a0_0.length c_a0_0, .map (some b_a0_1)]) 107) <|
   .v 23 (vI (a0_0.length : Int)) <|
   .v 7 (vI (a0_0.length : Int)) <| .nil) fun u6 a w' H => ?_
  replace H := H.kp [0, 3, 7, 43, 44, 45, 46, 999998]
  refine k_seq ?_
  replace G := gd G; obtain ⟨b8, G⟩ := G
  replace G := gd G; obtain ⟨b9, G⟩ := G
  refine k_rg mixed H (.v 24 (vP b_a0 0) <|
   .v 25 (vP b_a0 0) <|
   .v 26 (vP b_a0 0) <|
   .v 27 (vP b_a0 1) <|
   .cons [28] (ok_ld (fun u7 => .map (some b_a0_1)) 28 43 1 1 (fun u7 => b_a0) (fun u7 => [.slice p_a0_0 a0_0.length c_a0_0, .map (some b_a0_1)]) 107) <|
   .cons [29] (ok_ld (fun u7 => .agg #[vI a1.Op, vI a1.A, vI a1.B, vI a1.C.Lo, vI a1.C.Hi]) 29 46 0 5 (fun u7 => ((u1 0).n 0)) (fun u7 => [vI a1.Op, vI a1.A, vI a1.B, vI a1.C.Lo, vI a1.C.Hi]) 110) <|
   .v 30 (vP b_a0 0) <|
   .v 31 (vP b_a0 0) <|
   .v 32 (vP b_a0 0) <|
   .cons [33] (ok_ld (fun u7 => .slice p_a0_0 a0_0.length c_a0_0) 33 43 0 1 (fun u7 => b_a0) (fun u7 => [.slice p_a0_0 a0_0.length c_a0_0, .map (some b_a0_1)]) 107) <|
   .cons [34] (ok_ld (fun u7 => .agg #[vI a1.Op, vI a1.A, vI a1.B, vI a1.C.Lo, vI a1.C.Hi]) 34 46 0 5 (fun u7 => ((u1 0).n 0)) (fun u7 => [vI a1.Op, vI a1.A, vI a1.B, vI a1.C.Lo, vI a1.C.Hi]) 110) <|
   .cons [35, 47] (ok_new (fun b => .slice (some ⟨b, 0, none⟩) 1 1) (fun u7 => [vI a1.Op, vI a1.A, vI a1.B, vI a1.C.Lo, vI a1.C.Hi]) 110 35 47) <|
   .cons [36, 44, 44] (ok_own1 [11] [47] (fun u7 => [.blk ((u7 11).n 0) [vI a1.Op, vI a1.A, vI a1.B, vI a1.C.Lo, vI a1.C.Hi] 110]) 44 (fun u7 => owK 110 5 p_a0_0 a0_0.length c_a0_0 (a0_0.flatMap en_TInstruction)) (some 36) (fun u7 g => .slice (g.o 0) (a0_0 ++ [(⟨a1.Op, a1.A, a1.B, (⟨a1.C.Lo, a1.C.Hi⟩ : TInterval)⟩ : TInstruction)]).length (g.n 0)) (fun u7 g => owK 110 5 (g.o 0) ((a0_0 ++ [(⟨a1.Op, a1.A, a1.B, (⟨a1.C.Lo, a1.C.Hi⟩ : TInterval)⟩ : TInstruction)]).length) (g.n 0) ((a0_0 ++ [(⟨a1.Op, a1.A, a1.B, (⟨a1.C.Lo, a1.C.Hi⟩ : TInterval)⟩ : TInstruction)]).flatMap en_TInstruction)) (fun u7 w hF hK => tv_app (run_app_rowN (t := 35) (ty := 35) (en := en_TInstruction) en_TInstruction_len inf110 (ow_of hK) hF.1 (news := [(⟨a1.Op, a1.A, a1.B, (⟨a1.C.Lo, a1.C.Hi⟩ : TInterval)⟩ : TInstruction)]) rfl (by simp) (by kernel_rfl) b8)) (hloc := fun u u' h => ⟨by first | rfl | simp only [h 11 (by decide)], by first | rfl | simp only [h 11 (by decide)], by first | rfl | simp only [h 11 (by decide)], by first | rfl | simp only [h 11 (by decide)]⟩)) <|
   .v 37 (vI (a0_0.length : Int)) <|
   .v 38 (vP b_a0 0) <|
   .v 39 (vP b_a0 0) <|
   .cons [43] (ok_as (u' := fun u7 => [(43, .blk b_a0 [.slice ((u7 12).o 0) ((a0_0 ++ [(⟨a1.Op, a1.A, a1.B, (⟨a1.C.Lo, a1.C.Hi⟩ : TInterval)⟩ : TInstruction)]).length) ((u7 12).n 0), .map (some b_a0_1)] 107)]) (ok_store 43 0 (fun u7 => b_a0) (fun u7 => [.slice p_a0_0 a0_0.length c_a0_0, .map (some b_a0_1)]) (fun u7 => [.slice ((u7 12).o 0) ((a0_0 ++ [(⟨a1.Op, a1.A, a1.B, (⟨a1.C.Lo, a1.C.Hi⟩ : TInterval)⟩ : TInstruction)]).length) ((u7 12).n 0)]) 107) (fun _ => by kernel_rfl)) <|
   .cons [40, 45, 45] (ok_own1 [] [] (fun u7 => []) 45 (fun u7 => mpK b_a0_1 ek_TInstruction .i64 a0_1) (some 40) (fun u7 g => .tuple #[vI 0, vI (a0_1.length : Int)]) (fun u7 g => mpK b_a0_1 ek_TInstruction .i64 (a0_1 ++ [((⟨a1.Op, a1.A, a1.B, (⟨a1.C.Lo, a1.C.Hi⟩ : TInterval)⟩ : TInstruction), 0)])) (fun u7 w hF hK => tv_ob hK (r_ment (t := 105) (e := 3) (x := (⟨a1.Op, a1.A, a1.B, (⟨a1.C.Lo, a1.C.Hi⟩ : TInterval)⟩ : TInstruction)) kek_TInstruction (ob_of hK) b9))) <|
   .v 41 (vI (a0_1.length : Int)) <|
   .cons [45, 45] (ok_own1 [] [] (fun u7 => []) 45 (fun u7 => mpK b_a0_1 ek_TInstruction .i64 (a0_1 ++ [((⟨a1.Op, a1.A, a1.B, (⟨a1.C.Lo, a1.C.Hi⟩ : TInterval)⟩ : TInstruction), 0)])) none (fun u7 g => .nilFunc) (fun u7 g => mpK b_a0_1 ek_TInstruction .i64 (a0_1 ++ [((⟨a1.Op, a1.A, a1.B, (⟨a1.C.Lo, a1.C.Hi⟩ : TInterval)⟩ : TInstruction), (a0_0.length : Int))])) (fun u7 w hF hK => tv_ob hK (r_mest (t := 105) (l := a0_1) (x := (⟨a1.Op, a1.A, a1.B, (⟨a1.C.Lo, a1.C.Hi⟩ : TInterval)⟩ : TInstruction)) (ob_of hK)))) <| .nil) fun u7 a w' H => ?_
  replace H := H.kp [7, 43, 44, 45, 999998]
  refine k_seq ?_
  refine k_rg mixed H (.v 42 (vI (a0_0.length : Int)) <|
   .v 4 (vI (a0_0.length : Int)) <| .nil) fun u10 a w' H => ?_
  replace H := H.kp [4, 43, 44, 45, 999998]
  refine k_ret ?_
  obtain rfl := Option.some.inj G
  obtain ⟨g, o0, n0⟩ : ∃ g : Gh, g.o 0 = ((u7 12).o 0) ∧ g.n 0 = ((u7 12).n 0) := ⟨⟨fun i => [((u7 12).n 0)].getD i 0, fun i => [((u7 12).o 0)].getD i none, fun i => ([⟨Unit, ()⟩] : List ((T : Type) × T)).getD i ⟨Unit, ()⟩⟩, rfl, rfl⟩
  refine k_doneZ H (fun g => vI (a0_0.length : Int)) g [owK 110 5 p_a0_0 a0_0.length c_a0_0 (a0_0.flatMap en_TInstruction), mpK b_a0_1 ek_TInstruction .i64 a0_1, .blk b_a0 [.slice p_a0_0 a0_0.length c_a0_0, .map (some b_a0_1)] 107] [] (fun g => [fun _ => owK 110 5 (g.o 0) ((a0_0 ++ [(⟨a1.Op, a1.A, a1.B, (⟨a1.C.Lo, a1.C.Hi⟩ : TInterval)⟩ : TInstruction)]).length) (g.n 0) ((a0_0 ++ [(⟨a1.Op, a1.A, a1.B, (⟨a1.C.Lo, a1.C.Hi⟩ : TInterval)⟩ : TInstruction)]).flatMap en_TInstruction), fun _ => .blk b_a0 [.slice (g.o 0) ((a0_0 ++ [(⟨a1.Op, a1.A, a1.B, (⟨a1.C.Lo, a1.C.Hi⟩ : TInterval)⟩ : TInstruction)]).length) (g.n 0), .map (some b_a0_1)] 107, fun _ => mpK b_a0_1 ek_TInstruction .i64 (a0_1 ++ [((⟨a1.Op, a1.A, a1.B, (⟨a1.C.Lo, a1.C.Hi⟩ : TInterval)⟩ : TInstruction), (a0_0.length : Int))])]) fr [44, 43, 45] [] (vI (a0_0.length : Int)) [fun _ => owK 110 5 ((u7 12).o 0) ((a0_0 ++ [(⟨a1.Op, a1.A, a1.B, (⟨a1.C.Lo, a1.C.Hi⟩ : TInterval)⟩ : TInstruction)]).length) ((u7 12).n 0) ((a0_0 ++ [(⟨a1.Op, a1.A, a1.B, (⟨a1.C.Lo, a1.C.Hi⟩ : TInterval)⟩ : TInstruction)]).flatMap en_TInstruction), fun _ => .blk b_a0 [.slice ((u7 12).o 0) ((a0_0 ++ [(⟨a1.Op, a1.A, a1.B, (⟨a1.C.Lo, a1.C.Hi⟩ : TInterval)⟩ : TInstruction)]).length) ((u7 12).n 0), .map (some b_a0_1)] 107, fun _ => mpK b_a0_1 ek_TInstruction .i64 (a0_1 ++ [((⟨a1.Op, a1.A, a1.B, (⟨a1.C.Lo, a1.C.Hi⟩ : TInterval)⟩ : TInstruction), (a0_0.length : Int))])] (by simp only [o0, n0]) (by simp only [o0, n0]) hfr (.inr (by kernel_rfl)) (fams_cons fam_ow (fams_cons fam_blk (fams_cons fam_ob fams_nil))) (by simp)
set_option maxHeartbeats 4000000 in
theorem tape_Compile_1_m.calls : ∀ (k0 : Nat) (a0 : List TNode) (q1_0_0 : List TInstruction) (q1_0_1 : List (TInstruction × Int)) (p_a0 : Option Addr) (c_a0 : Nat) (b_q0 : Nat) (b_q1 : Nat) (b_q1_0 : Nat) (p_q1_0_0 : Option Addr) (c_q1_0_0 : Nat) (b_q1_0_1 : Nat) (r : Int × List TInstruction × (List (TInstruction × Int))) (w : World) (hB : AllH [bxK b_q0 [.func (.func 35) #[] #[vP b_q0 0, vP b_q1 0]] 108, bxK b_q1 [vP b_q1_0 0] 104] w) (hF : AllH [rdl anyF 4 p_a0 c_a0 a0 en_TNode] w) (hM : OwnH [owK 110 5 p_q1_0_0 q1_0_0.length c_q1_0_0 (q1_0_0.flatMap en_TInstruction), mpK b_q1_0_1 ek_TInstruction .i64 q1_0_1, .blk b_q1_0 [.slice p_q1_0_0 q1_0_0.length c_q1_0_0, .map (some b_q1_0_1)] 107] ([bxK b_q0 [.func (.func 35) #[] #[vP b_q0 0, vP b_q1 0]] 108, bxK b_q1 [vP b_q1_0 0] 104] ++ [rdl anyF 4 p_a0 c_a0 a0 en_TNode]) w) (G : tape_Compile_1_m k0 a0 q1_0_0 q1_0_1 = some r),
  Calls Tryz.prog 35 #[.slice p_a0 a0.length c_a0, vP b_q0 0, vP b_q1 0] w fun e w' => ∃ g : Gh, e = .returned (vI r.1) ∧ But (fpK [owK 110 5 p_q1_0_0 q1_0_0.length c_q1_0_0 (q1_0_0.flatMap en_TInstruction), mpK b_q1_0_1 ek_TInstruction .i64 q1_0_1, .blk b_q1_0 [.slice p_q1_0_0 q1_0_0.length c_q1_0_0, .map (some b_q1_0_1)] 107]) w w' ∧ OutOK w.heap.size (fpK [owK 110 5 p_q1_0_0 q1_0_0.length c_q1_0_0 (q1_0_0.flatMap en_TInstruction), mpK b_q1_0_1 ek_TInstruction .i64 q1_0_1, .blk b_q1_0 [.slice p_q1_0_0 q1_0_0.length c_q1_0_0, .map (some b_q1_0_1)] 107]) (frI w.heap.size [rdl anyF 4 p_a0 c_a0 a0 en_TNode]) [fun _ => owK 110 5 (g.o 0) r.2.1.length (g.n 0) (r.2.1.flatMap en_TInstruction), fun _ => .blk b_q1_0 [.slice (g.o 0) r.2.1.length (g.n 0), .map (some b_q1_0_1)] 107, fun _ => mpK b_q1_0_1 ek_TInstruction .i64 r.2.2] w' := by
 intro k0
 induction k0 with
 | zero => intros; rename_i G; exact absurd G (by unfold tape_Compile_1_m; exact fun h => by cases h)
 | succ k0 IH => ?_
 intro a0 q1_0_0 q1_0_1 p_a0 c_a0 b_q0 b_q1 b_q1_0 p_q1_0_0 c_q1_0_0 b_q1_0_1 r w hB hF hM G
 obtain ⟨fr, hfr⟩ : ∃ fr : Nat → Prop, fr = frI w.heap.size [rdl anyF 4 p_a0 c_a0 a0 en_TNode] := ⟨_, rfl⟩
 have hBf : ∀ j, w.heap.size ≤ j → fr j := fun j h => by rw [hfr]; exact .inl h
 refine k_enterY (args := [.slice p_a0 a0.length c_a0, vP b_q0 0, vP b_q1 0]) 47 [(48, bxK b_q0 [.func (.func 35) #[] #[vP b_q0 0, vP b_q1 0]] 108), (49, bxK b_q1 [vP b_q1_0 0] 104), (47, rdl fr 4 p_a0 c_a0 a0 en_TNode)] [(51, owK 110 5 p_q1_0_0 q1_0_0.length c_q1_0_0 (q1_0_0.flatMap en_TInstruction)), (52, mpK b_q1_0_1 ek_TInstruction .i64 q1_0_1), (50, .blk b_q1_0 [.slice p_q1_0_0 q1_0_0.length c_q1_0_0, .map (some b_q1_0_1)] 107)] (ownH_fps hM (by rfl)) (by
  intro x hx
  simp only [List.mem_cons, List.not_mem_nil, or_false] at hx
  rcases hx with rfl | rfl | rfl
  ·exact bx_fact (hB.1 w (agree.refl _ _)) _
  ·exact bx_fact (hB.2.1 w (agree.refl _ _)) _
  ·exact rdF_fact (rdF_of hF.1) (fun j h => by rw [hfr]; exact .inr ⟨_, (.head _), h⟩) (by decide) _) (by rfl) Tryz.func35 rfl (by kernel_rfl) (by kernel_rfl) fun a H => ?_
 unfold tape_Compile_1_m at G
 generalize tape_Compile_1_m k0 = rec at G IH
 unfold tape_Compile_1_m.body at G
 refine k_seq ?_
 refine k_rg mixed H (.v 4 (vI 0) <| .nil) fun u1 a w' H => ?_
 replace H := H.kp [0, 1, 2, 47, 50, 51, 52, 48, 49, 999998]
 refine k_seq ?_
 replace G := gd G; obtain ⟨b3, G⟩ := G
 replace G := bnd G; obtain ⟨t4, ht4, G⟩ := G
 have P5 := ptr_of (en := en_TNode) (l := a0) (rdF_of (H.at (K := rdl fr 4 p_a0 c_a0 a0 en_TNode) 47 (by kernel_rfl))).2 en_TNode_len
 replace G := gd G; obtain ⟨b6, G⟩ := G
 replace G := bnd G; obtain ⟨t7, ht7, G⟩ := G
 refine k_rg mixed H (.v 9 (.slice p_a0 a0.length c_a0) <|
   .cons [10] (ok_val (fun u2 => .pointer (some ⟨hdB p_a0, hdO p_a0 + ((0 : Int).toNat) * 4, none⟩)) 10 (hv := fun _ _ => ix_pure (t := 59) (k := .i64) (i := (0 : Int)) (p := p_a0) (n := a0.length) (cap := c_a0) (x := a0) P5 rfl b3 (by kernel_rfl))) <|
   .v 11 (.pointer (some ⟨hdB p_a0, hdO p_a0 + ((0 : Int).toNat) * 4 + 0, none⟩)) <|
   .cons [12] (ok_valL [47] (fun u2 => [rdl fr 4 p_a0 c_a0 a0 en_TNode]) (fun u2 => vI t4.Op) (fun u2 => true) [true] 12 (fun u2 w hg hF => ld_row (en := en_TNode) (rdF_of hF.1).2 en_TNode_len ht4 0 1 [vI t4.Op] rfl (by kernel_rfl))) <|
   .v 13 (.slice p_a0 a0.length c_a0) <|
   .cons [14] (ok_val (fun u2 => .pointer (some ⟨hdB p_a0, hdO p_a0 + ((0 : Int).toNat) * 4, none⟩)) 14 (hv := fun _ _ => ix_pure (t := 59) (k := .i64) (i := (0 : Int)) (p := p_a0) (n := a0.length) (cap := c_a0) (x := a0) P5 rfl b6 (by kernel_rfl))) <|
   .v 15 (.pointer (some ⟨hdB p_a0, hdO p_a0 + ((0 : Int).toNat) * 4 + 2, none⟩)) <|
   .cons [16] (ok_valL [47] (fun u2 => [rdl fr 4 p_a0 c_a0 a0 en_TNode]) (fun u2 => .agg #[vI t7.C.Lo, vI t7.C.Hi]) (fun u2 => true) [true] 16 (fun u2 w hg hF => ld_row (en := en_TNode) (rdF_of hF.1).2 en_TNode_len ht7 2 2 [vI t7.C.Lo, vI t7.C.Hi] rfl (by kernel_rfl))) <|
   .v 17 (.agg #[vI t4.Op, vI 0, vI 0, vI t7.C.Lo, vI t7.C.Hi]) <|
   .cons [5, 53] (ok_new (fun b => vP b 0) (fun u2 => [vI 0, vI 0, vI 0, vI 0, vI 0]) 110 5 53) <|
   .cons [53] (ok_as (u' := fun u2 => [(53, .blk ((u2 9).n 0) [vI t4.Op, vI 0, vI 0, vI t7.C.Lo, vI t7.C.Hi] 110)]) (ok_store 53 0 (fun u2 => ((u2 9).n 0)) (fun u2 => [vI 0, vI 0, vI 0, vI 0, vI 0]) (fun u2 => [vI t4.Op, vI 0, vI 0, vI t7.C.Lo, vI t7.C.Hi]) 110) (fun _ => by kernel_rfl)) <| .nil) fun u2 a w' H => ?_
 replace H := H.kp [0, 1, 2, 5, 47, 50, 51, 52, 53, 48, 49, 999998]
 refine k_seq ?_
 replace G := bnd G; obtain ⟨j9, hj9, G⟩ := G
 refine k_join (fun a w' => Rep 0 w 47 (ofL [(0, sS p_a0 a0.length c_a0), (1, sP b_q0 0), (2, sP b_q1 0), (5, (sP ((u2 9).n 0) 0)), (47, rdl fr 4 p_a0 c_a0 a0 en_TNode), (50, .blk b_q1_0 [.slice p_q1_0_0 q1_0_0.length c_q1_0_0, .map (some b_q1_0_1)] 107), (51, owK 110 5 p_q1_0_0 q1_0_0.length c_q1_0_0 (q1_0_0.flatMap en_TInstruction)), (52, mpK b_q1_0_1 ek_TInstruction .i64 q1_0_1), (53, .blk ((u2 9).n 0) [vI t4.Op, vI j9, vI 0, vI t7.C.Lo, vI t7.C.Hi] 110), (48, bxK b_q0 [.func (.func 35) #[] #[vP b_q0 0, vP b_q1 0]] 108), (49, bxK b_q1 [vP b_q1_0 0] 104), (999998, frM [owK 110 5 p_q1_0_0 q1_0_0.length c_q1_0_0 (q1_0_0.flatMap en_TInstruction), mpK b_q1_0_1 ek_TInstruction .i64 q1_0_1, .blk b_q1_0 [.slice p_q1_0_0 q1_0_0.length c_q1_0_0, .map (some b_q1_0_1)] 107] w)]) a w') ?_ ?_
 ·clear H; intro a w' H
  refine k_seq ?_
  replace G := bnd G; obtain ⟨j14, hj14, G⟩ := G
  refine k_join (fun a w' => ∃ (p_j10 : Option Addr) (c_j10 np_j10 : Nat), np_j10 = j14.1.length ∧ Rep 0 w 47 (ofL [(2, sP b_q1 0), (5, (sP ((u2 9).n 0) 0)), (50, .blk b_q1_0 [.slice p_j10 np_j10 c_j10, .map (some b_q1_0_1)] 107), (52, mpK b_q1_0_1 ek_TInstruction .i64 j14.2.2.2), (53, .blk ((u2 9).n 0) [vI t4.Op, vI j14.2.1, vI j14.2.2.1, vI t7.C.Lo, vI t7.C.Hi] 110), (900057, owK 110 5 p_j10 np_j10 c_j10 (j14.1.flatMap en_TInstruction)), (48, bxK b_q0 [.func (.func 35) #[] #[vP b_q0 0, vP b_q1 0]] 108), (49, bxK b_q1 [vP b_q1_0 0] 104), (999998, frM [owK 110 5 p_q1_0_0 q1_0_0.length c_q1_0_0 (q1_0_0.flatMap en_TInstruction), mpK b_q1_0_1 ek_TInstruction .i64 q1_0_1, .blk b_q1_0 [.slice p_q1_0_0 q1_0_0.length c_q1_0_0, .map (some b_q1_0_1)] 107] w)]) a w') ?_ ?_
  ·clear H; rintro a w' ⟨p_j10, c_j10, _, rfl, H⟩
   refine k_seq ?_
   replace G := bnd G; obtain ⟨t16, ht16, G⟩ := G
   refine k_rg mixed H (.cons [44] (ok_ldK (fun u15 => vP b_q1_0 0) 44 49 (bxK b_q1 [vP b_q1_0 0] 104) b_q1 0 1 [vP b_q1_0 0] (fun w h => bx_of h)) <|
   .cons [45] (ok_ld (fun u15 => .agg #[vI t4.Op, vI j14.2.1, vI j14.2.2.1, vI t7.C.Lo, vI t7.C.Hi]) 45 53 0 5 (fun u15 => ((u2 9).n 0)) (fun u15 => [vI t4.Op, vI j14.2.1, vI j14.2.2.1, vI t7.C.Lo, vI t7.C.Hi]) 110) <|
   .cons [46, 900057, 52, 50, 54, 50, 52] (ok_callY false fr [] [] (fun u15 => []) [900057, 52, 50] (fun u15 => [owK 110 5 p_j10 j14.1.length c_j10 (j14.1.flatMap en_TInstruction), mpK b_q1_0_1 ek_TInstruction .i64 j14.2.2.2, .blk b_q1_0 [.slice p_j10 j14.1.length c_j10, .map (some b_q1_0_1)] 107]) 37 (fun u15 => #[vP b_q1_0 0, .agg #[vI t4.Op, vI j14.2.1, vI j14.2.2.1, vI t7.C.Lo, vI t7.C.Hi]]) (fun u15 => []) (fun u15 => []) (fun u15 g => vI t16.1) (fun u15 g => [fun _ => owK 110 5 (g.o 0) t16.2.1.length (g.n 0) (t16.2.1.flatMap en_TInstruction), fun _ => .blk b_q1_0 [.slice (g.o 0) t16.2.1.length (g.n 0), .map (some b_q1_0_1)] 107, fun _ => mpK b_q1_0_1 ek_TInstruction .i64 t16.2.2]) [54, 50, 52] 46 (fun u15 w hB hF hM => tape_builder_emit_m.calls j14.1 j14.2.2.2 (⟨t4.Op, j14.2.1, j14.2.2.1, (⟨t7.C.Lo, t7.C.Hi⟩ : TInterval)⟩ : TInstruction) b_q1_0 p_j10 c_j10 b_q1_0_1 t16 w  hM ht16) (fun u15 w hF => ⟨trivial, trivial⟩) (fun u15 g => (fams_cons fam_ow (fams_cons fam_blk (fams_cons fam_ob fams_nil)))) (.inr (fun u15 g => (famx_cons trivial (famx_cons trivial (famx_cons trivial (fun K h => by cases h)))))) (fun h => by cases h)) <|
   .v 4 (vI t16.1) <| .nil) fun u15 a w' H => ?_
   replace H := H.kp [4, 50, 52, 54, 48, 49, 999998]
   refine k_ret ?_
   obtain rfl := Option.some.inj G
   obtain ⟨g, o0, n0⟩ : ∃ g : Gh, g.o 0 = ((u15 2).o 0) ∧ g.n 0 = ((u15 2).n 0) := ⟨⟨fun i => [((u15 2).n 0)].getD i 0, fun i => [((u15 2).o 0)].getD i none, fun i => ([⟨Unit, ()⟩] : List ((T : Type) × T)).getD i ⟨Unit, ()⟩⟩, rfl, rfl⟩
   refine k_doneZ H (fun g => vI t16.1) g [owK 110 5 p_q1_0_0 q1_0_0.length c_q1_0_0 (q1_0_0.flatMap en_TInstruction), mpK b_q1_0_1 ek_TInstruction .i64 q1_0_1, .blk b_q1_0 [.slice p_q1_0_0 q1_0_0.length c_q1_0_0, .map (some b_q1_0_1)] 107] [rdl anyF 4 p_a0 c_a0 a0 en_TNode] (fun g => [fun _ => owK 110 5 (g.o 0) t16.2.1.length (g.n 0) (t16.2.1.flatMap en_TInstruction), fun _ => .blk b_q1_0 [.slice (g.o 0) t16.2.1.length (g.n 0), .map (some b_q1_0_1)] 107, fun _ => mpK b_q1_0_1 ek_TInstruction .i64 t16.2.2]) fr [54, 50, 52] [] (vI t16.1) [fun _ => owK 110 5 ((u15 2).o 0) t16.2.1.length ((u15 2).n 0) (t16.2.1.flatMap en_TInstruction), fun _ => .blk b_q1_0 [.slice ((u15 2).o 0) t16.2.1.length ((u15 2).n 0), .map (some b_q1_0_1)] 107, fun _ => mpK b_q1_0_1 ek_TInstruction .i64 t16.2.2] (by simp only [o0, n0]) (by simp only [o0, n0]) hfr (.inr (by kernel_rfl)) (fams_cons fam_ow (fams_cons fam_blk (fams_cons fam_ob fams_nil))) (by simp)
  ·clear G; replace G := hj14; clear hj14
   refine k_seq ?_
   replace G := bnd G; obtain ⟨t18, ht18, G⟩ := G
   refine k_rg mixed H (.v 26 (.slice p_a0 a0.length c_a0) <|
   .cons [27, 55, 56] (ok_callY true fr [] [47] (fun u17 => [rdl fr 4 p_a0 c_a0 a0 en_TNode]) [] (fun u17 => []) 36 (fun u17 => #[.slice p_a0 a0.length c_a0]) (fun u17 => []) (fun u17 => [rdl anyF 4 p_a0 c_a0 a0 en_TNode]) (fun u17 g => .slice (g.o 0) ((g.dl Sl.l gd_S_TNode 0 t18).length) (g.n 0)) (fun u17 g => [fun _ => owK 59 1 (g.o 0) ((g.dl Sl.l gd_S_TNode 0 t18).length) (g.n 0) ((g.dl Sl.l gd_S_TNode 0 t18).flatMap enSl), fun fr => dnK fr E_S_TNode.toPart (g.dl Sl.l gd_S_TNode 0 t18)]) [55, 56] 27 (fun u17 w hB hF hM => ode_Operands.calls k0 a0 p_a0 c_a0 t18 w  hF ht18) (fun u17 w hF => ⟨trivial, ⟨sub_rd1 (rdF_of hF.1) (fun j h => ff_of (.head _) (fun h => h) h (rdF_fr hF.1 _ h)), trivial⟩⟩) (fun u17 g => (fams_cons fam_ow (fams_cons fam_dn fams_nil))) (.inl rfl) (fun _ => hBf)) <|
   .cons [28] (ok_valL [55] (fun u17 => [owK 59 1 ((u17 1).o 0) (((u17 1).dl Sl.l gd_S_TNode 0 t18).length) ((u17 1).n 0) (((u17 1).dl Sl.l gd_S_TNode 0 t18).flatMap enSl)]) (fun u17 => vI (t18.length : Int)) (fun u17 => true) [true] 28 (fun u17 w hg hF => run_lenN (((owns_rowC (ow_of hF.1)).2.len enSl_len (by decide)).trans (map_len (dl_er ergd_S_TNode (u17 1) 0 t18)).symm) (by kernel_rfl))) <|
   .v 29 (vI 0) <| .nil) fun u17 a w' H => ?_
   replace H := H.kp [1, 2, 5, 27, 28, 29, 50, 51, 52, 53, 55, 56, 48, 49, 999998]
   refine k_block ?_
   replace H := H.move (K := owK 110 5 p_q1_0_0 q1_0_0.length c_q1_0_0 (q1_0_0.flatMap en_TInstruction)) 51 900058 (by kernel_rfl) (by intro _ _ h; cases h)
   refine k_loopJ (fun m a w' => ∃ x19 : List TInstruction, ∃ x20 : Int, ∃ x21 : Int, ∃ x22 : List (TInstruction × Int), ∃ x23 : Int, tape_Compile_1_m.l24 k0 rec a0 q1_0_0 q1_0_1 t4 t7 j9 t18 m x19 x20 x21 x22 x23 = some j14 ∧ ∃ (p_x19 : Option Addr) (c_x19 np_x19 : Nat), np_x19 = x19.length ∧ Rep 0 w 47 (ofL [(1, sP b_q0 0), (2, sP b_q1 0), (5, (sP ((u2 9).n 0) 0)), (27, (sS ((u17 1).o 0) (((u17 1).dl Sl.l gd_S_TNode 0 t18).length) ((u17 1).n 0))), (28, (sI (t18.length : Int))), (29, sI x23), (50, .blk b_q1_0 [.slice p_x19 np_x19 c_x19, .map (some b_q1_0_1)] 107), (52, mpK b_q1_0_1 ek_TInstruction .i64 x22), (53, .blk ((u2 9).n 0) [vI t4.Op, vI x20, vI x21, vI t7.C.Lo, vI t7.C.Hi] 110), (55, owK 59 1 ((u17 1).o 0) (((u17 1).dl Sl.l gd_S_TNode 0 t18).length) ((u17 1).n 0) (((u17 1).dl Sl.l gd_S_TNode 0 t18).flatMap enSl)), (56, dnK fr E_S_TNode.toPart ((u17 1).dl Sl.l gd_S_TNode 0 t18)), (900058, owK 110 5 p_x19 np_x19 c_x19 (x19.flatMap en_TInstruction)), (48, bxK b_q0 [.func (.func 35) #[] #[vP b_q0 0, vP b_q1 0]] 108), (49, bxK b_q1 [vP b_q1_0 0] 104), (999998, frM [owK 110 5 p_q1_0_0 q1_0_0.length c_q1_0_0 (q1_0_0.flatMap en_TInstruction), mpK b_q1_0_1 ek_TInstruction .i64 q1_0_1, .blk b_q1_0 [.slice p_q1_0_0 q1_0_0.length c_q1_0_0, .map (some b_q1_0_1)] 107] w)]) a w') k0 ⟨_, _, _, _, _, G, p_q1_0_0, c_q1_0_0, q1_0_0.length, rfl, H.toL _ (by kernel_rfl)⟩ ?_
   clear G H
   rintro (_ | k) a w' ⟨x19, x20, x21, x22, x23, G, p_x19, c_x19, _, rfl, H⟩
   ·exact absurd G (by unfold tape_Compile_1_m.l24; exact fun h => by cases h)
   ·unfold tape_Compile_1_m.l24 at G
    refine k_seq ?_
    refine k_rg mixed H (.v 30 (.bool (decide (x23 < (t18.length : Int)))) <| .nil) fun u25 a w' H => ?_
    replace H := H.kp [1, 2, 5, 27, 28, 29, 30, 50, 52, 53, 55, 56, 900058, 48, 49, 999998]
    refine k_seq ?_
    refine k_cond H (by kernel_rfl) (t := decide (x23 < (t18.length : Int))) (by kernel_rfl) (fun c41 => ?_) (fun c41 => ?_)
    ·rw [if_pos c41] at G
     refine k_skip ?_
     refine k_seq ?_
     replace G := bnd G; obtain ⟨j30, hj30, G⟩ := G
     refine k_join (fun a w' => ∃ (p_j26 : Option Addr) (c_j26 np_j26 : Nat), np_j26 = j30.1.length ∧ Rep 0 w 47 (ofL [(1, sP b_q0 0), (2, sP b_q1 0), (5, (sP ((u2 9).n 0) 0)), (27, (sS ((u17 1).o 0) (((u17 1).dl Sl.l gd_S_TNode 0 t18).length) ((u17 1).n 0))), (28, (sI (t18.length : Int))), (29, sI x23), (50, .blk b_q1_0 [.slice p_j26 np_j26 c_j26, .map (some b_q1_0_1)] 107), (52, mpK b_q1_0_1 ek_TInstruction .i64 j30.2.2.2), (53, .blk ((u2 9).n 0) [vI t4.Op, vI j30.2.1, vI j30.2.2.1, vI t7.C.Lo, vI t7.C.Hi] 110), (55, owK 59 1 ((u17 1).o 0) (((u17 1).dl Sl.l gd_S_TNode 0 t18).length) ((u17 1).n 0) (((u17 1).dl Sl.l gd_S_TNode 0 t18).flatMap enSl)), (56, dnK fr E_S_TNode.toPart ((u17 1).dl Sl.l gd_S_TNode 0 t18)), (900059, owK 110 5 p_j26 np_j26 c_j26 (j30.1.flatMap en_TInstruction)), (48, bxK b_q0 [.func (.func 35) #[] #[vP b_q0 0, vP b_q1 0]] 108), (49, bxK b_q1 [vP b_q1_0 0] 104), (999998, frM [owK 110 5 p_q1_0_0 q1_0_0.length c_q1_0_0 (q1_0_0.flatMap en_TInstruction), mpK b_q1_0_1 ek_TInstruction .i64 q1_0_1, .blk b_q1_0 [.slice p_q1_0_0 q1_0_0.length c_q1_0_0, .map (some b_q1_0_1)] 107] w)]) a w') ?_ ?_
     ·clear H; rintro a w' ⟨p_j26, c_j26, _, rfl, H⟩
      refine k_rg mixed H (.v 43 (vI (w_i64 (x23 + 1))) <|
   .v 29 (vI (w_i64 (x23 + 1))) <| .nil) fun u31 a w' H => ?_
      replace H := H.kp [1, 2, 5, 27, 28, 29, 50, 52, 53, 55, 56, 900059, 48, 49, 999998]
      replace H := H.move (K := owK 110 5 p_j26 j30.1.length c_j26 (j30.1.flatMap en_TInstruction)) 900059 900058 (by kernel_rfl) (by intro _ _ h; cases h)
      exact ⟨k, Nat.lt_succ_self k, _, _, _, _, _, G, p_j26, c_j26, j30.1.length, rfl, H.toL _ (by kernel_rfl)⟩
     ·clear G; replace G := hj30; clear hj30
      refine k_block ?_
      refine k_seq ?_
      replace G := gd G; obtain ⟨b33, G⟩ := G
      replace G := bnd G; obtain ⟨t34, ht34, G⟩ := G
      obtain ⟨p_t34, c_t34, y_t34⟩ := sl_get (dl_er ergd_S_TNode (u17 1) 0 t18) ht34
      refine k_rg mixed H (.v 31 (vI x23) <|
   .cons [32] (ok_valL [55] (fun u32 => [owK 59 1 ((u17 1).o 0) (((u17 1).dl Sl.l gd_S_TNode 0 t18).length) ((u17 1).n 0) (((u17 1).dl Sl.l gd_S_TNode 0 t18).flatMap enSl)]) (fun u32 => .pointer (some ⟨hdB ((u17 1).o 0), hdO ((u17 1).o 0) + x23.toNat * 1, none⟩)) (fun u32 => true) [true, true] 32 (fun u32 w hg hF => ix_row (t := 41) (k := .i64) (i := x23) (p := ((u17 1).o 0)) (n := ((u17 1).dl Sl.l gd_S_TNode 0 t18).length) (cap := ((u17 1).n 0)) (x := t18) (en := enSl) (owns_rowC (ow_of hF.1)).2 enSl_len (map_len (dl_er ergd_S_TNode (u17 1) 0 t18)) b33 (by kernel_rfl))) <|
   .cons [33] (ok_valL [55] (fun u32 => [owK 59 1 ((u17 1).o 0) (((u17 1).dl Sl.l gd_S_TNode 0 t18).length) ((u17 1).n 0) (((u17 1).dl Sl.l gd_S_TNode 0 t18).flatMap enSl)]) (fun u32 => .slice p_t34 t34.length c_t34) (fun u32 => true) [true] 33 (fun u32 w hg hF => ld_row (en := enSl) (owns_rowC (ow_of hF.1)).2 enSl_len y_t34 0 1 [.slice p_t34 t34.length c_t34] rfl (by kernel_rfl))) <|
   .v 6 (vI x23) <|
   .v 7 (.slice p_t34 t34.length c_t34) <| .nil) fun u32 a w' H => ?_
      replace H := H.kp [1, 2, 5, 6, 7, 27, 28, 29, 50, 52, 53, 55, 56, 900058, 48, 49, 999998]
      refine k_seq ?_
      replace G := bnd G; obtain ⟨t36, ht36, G⟩ := G
      refine k_rg mixed H (.cons [34] (ok_ldK (fun u35 => .func (.func 35) #[] #[vP b_q0 0, vP b_q1 0]) 34 48 (bxK b_q0 [.func (.func 35) #[] #[vP b_q0 0, vP b_q1 0]] 108) b_q0 0 1 [.func (.func 35) #[] #[vP b_q0 0, vP b_q1 0]] (fun w h => bx_of h)) <|
   .v 35 (.slice p_t34 t34.length c_t34) <|
   .cons [36, 900058, 52, 50, 58, 50, 52] (ok_callY false fr [] [56, 48, 49] (fun u35 => [dnK fr E_S_TNode.toPart ((u17 1).dl Sl.l gd_S_TNode 0 t18), bxK b_q0 [.func (.func 35) #[] #[vP b_q0 0, vP b_q1 0]] 108, bxK b_q1 [vP b_q1_0 0] 104]) [900058, 52, 50] (fun u35 => [owK 110 5 p_x19 x19.length c_x19 (x19.flatMap en_TInstruction), mpK b_q1_0_1 ek_TInstruction .i64 x22, .blk b_q1_0 [.slice p_x19 x19.length c_x19, .map (some b_q1_0_1)] 107]) 35 (fun u35 => #[.slice p_t34 t34.length c_t34, vP b_q0 0, vP b_q1 0]) (fun u35 => [bxK b_q0 [.func (.func 35) #[] #[vP b_q0 0, vP b_q1 0]] 108, bxK b_q1 [vP b_q1_0 0] 104]) (fun u35 => [rdl anyF 4 p_t34 c_t34 t34 en_TNode]) (fun u35 g => vI t36.1) (fun u35 g => [fun _ => owK 110 5 (g.o 0) t36.2.1.length (g.n 0) (t36.2.1.flatMap en_TInstruction), fun _ => .blk b_q1_0 [.slice (g.o 0) t36.2.1.length (g.n 0), .map (some b_q1_0_1)] 107, fun _ => mpK b_q1_0_1 ek_TInstruction .i64 t36.2.2]) [58, 50, 52] 36 (fun u35 w hB hF hM => IH t34 x19 x22 p_t34 c_t34 b_q0 b_q1 b_q1_0 p_x19 c_x19 b_q1_0_1 t36 w  hB hF hM ht36) (fun u35 w hF => ⟨⟨sub_bx (hF.2.1 w (agree.refl _ _)) (.tail _ (.head _)) rfl, sub_bx (hF.2.2.1 w (agree.refl _ _)) (.tail _ (.tail _ (.head _))) rfl, trivial⟩, ⟨sub_rd0 (show RowC _ 4 p_t34 t34.length c_t34 (t34.flatMap en_TNode) from ((dn_of hF.1) _ (List.mem_of_getElem? y_t34)).1) (fun j h => ⟨_, (.head _), ⟨_, (List.mem_of_getElem? y_t34), (.inl h)⟩⟩), trivial⟩⟩) (fun u35 g => (fams_cons fam_ow (fams_cons fam_blk (fams_cons fam_ob fams_nil)))) (.inr (fun u35 g => (famx_cons trivial (famx_cons trivial (famx_cons trivial (fun K h => by cases h)))))) (fun h => by cases h)) <|
   .v 8 (vI t36.1) <| .nil) fun u35 a w' H => ?_
      replace H := H.kp [1, 2, 5, 6, 8, 27, 28, 29, 50, 52, 53, 55, 56, 58, 48, 49, 999998]
      refine k_seq ?_
      refine k_rg mixed H (.v 37 (vI x23) <|
   .v 38 (.bool (x23 == 0)) <| .nil) fun u37 a w' H => ?_
      replace H := H.kp [1, 2, 5, 8, 27, 28, 29, 38, 50, 52, 53, 55, 56, 58, 48, 49, 999998]
      refine k_cond H (by kernel_rfl) (t := (x23 == 0)) (by kernel_rfl) (fun c40 => ?_) (fun c40 => ?_)
      ·rw [if_pos c40] at G
       refine k_rg mixed H (.v 39 (vI t36.1) <|
   .v 40 (vP ((u2 9).n 0) 1) <|
   .cons [53] (ok_as (u' := fun u38 => [(53, .blk ((u2 9).n 0) [vI t4.Op, vI t36.1, vI x21, vI t7.C.Lo, vI t7.C.Hi] 110)]) (ok_store 53 1 (fun u38 => ((u2 9).n 0)) (fun u38 => [vI t4.Op, vI x20, vI x21, vI t7.C.Lo, vI t7.C.Hi]) (fun u38 => [vI t36.1]) 110) (fun _ => by kernel_rfl)) <| .nil) fun u38 a w' H => ?_
       replace H := H.kp [1, 2, 5, 27, 28, 29, 50, 52, 53, 55, 56, 58, 48, 49, 999998]
       obtain rfl := Option.some.inj G
       replace H := H.move (K := owK 110 5 ((u35 2).o 0) t36.2.1.length ((u35 2).n 0) (t36.2.1.flatMap en_TInstruction)) 58 900059 (by kernel_rfl) (by intro _ _ h; cases h)
       exact ⟨((u35 2).o 0), ((u35 2).n 0), t36.2.1.length, rfl, H.toL _ (by kernel_rfl)⟩
      ·rw [if_neg (nt c40)] at G
       refine k_rg mixed H (.v 41 (vI t36.1) <|
   .v 42 (vP ((u2 9).n 0) 2) <|
   .cons [53] (ok_as (u' := fun u39 => [(53, .blk ((u2 9).n 0) [vI t4.Op, vI x20, vI t36.1, vI t7.C.Lo, vI t7.C.Hi] 110)]) (ok_store 53 2 (fun u39 => ((u2 9).n 0)) (fun u39 => [vI t4.Op, vI x20, vI x21, vI t7.C.Lo, vI t7.C.Hi]) (fun u39 => [vI t36.1]) 110) (fun _ => by kernel_rfl)) <| .nil) fun u39 a w' H => ?_
       replace H := H.kp [1, 2, 5, 27, 28, 29, 50, 52, 53, 55, 56, 58, 48, 49, 999998]
       obtain rfl := Option.some.inj G
       replace H := H.move (K := owK 110 5 ((u35 2).o 0) t36.2.1.length ((u35 2).n 0) (t36.2.1.flatMap en_TInstruction)) 58 900059 (by kernel_rfl) (by intro _ _ h; cases h)
       exact ⟨((u35 2).o 0), ((u35 2).n 0), t36.2.1.length, rfl, H.toL _ (by kernel_rfl)⟩
    ·rw [if_neg (nt c41)] at G
     refine k_exit rfl ?_
     obtain rfl := Option.some.inj G
     replace H := H.move (K := owK 110 5 p_x19 x19.length c_x19 (x19.flatMap en_TInstruction)) 900058 900057 (by kernel_rfl) (by intro _ _ h; cases h)
     exact ⟨p_x19, c_x19, x19.length, rfl, H.toL _ (by kernel_rfl)⟩
 ·clear G; replace G := hj9; clear hj9
  refine k_seq ?_
  refine k_rg mixed H (.v 18 (vP ((u2 9).n 0) 0) <|
   .cons [19] (ok_ld (fun u42 => vI t4.Op) 19 53 0 1 (fun u42 => ((u2 9).n 0)) (fun u42 => [vI t4.Op, vI 0, vI 0, vI t7.C.Lo, vI t7.C.Hi]) 110) <|
   .v 20 (.bool (t4.Op == 2)) <| .nil) fun u42 a w' H => ?_
  replace H := H.kp [0, 1, 2, 5, 20, 47, 50, 51, 52, 53, 48, 49, 999998]
  refine k_cond H (by kernel_rfl) (t := (t4.Op == 2)) (by kernel_rfl) (fun c46 => ?_) (fun c46 => ?_)
  ·rw [if_pos c46] at G
   replace G := gd G; obtain ⟨b44, G⟩ := G
   replace G := bnd G; obtain ⟨t45, ht45, G⟩ := G
   refine k_rg mixed H (.v 21 (.slice p_a0 a0.length c_a0) <|
   .cons [22] (ok_valL [47] (fun u43 => [rdl fr 4 p_a0 c_a0 a0 en_TNode]) (fun u43 => .pointer (some ⟨hdB p_a0, hdO p_a0 + ((0 : Int).toNat) * 4, none⟩)) (fun u43 => true) [true, true] 22 (fun u43 w hg hF => ix_row (t := 59) (k := .i64) (i := (0 : Int)) (p := p_a0) (n := a0.length) (cap := c_a0) (x := a0) (en := en_TNode) (rdF_of hF.1).2 en_TNode_len rfl b44 (by kernel_rfl))) <|
   .v 23 (.pointer (some ⟨hdB p_a0, hdO p_a0 + ((0 : Int).toNat) * 4 + 1, none⟩)) <|
   .cons [24] (ok_valL [47] (fun u43 => [rdl fr 4 p_a0 c_a0 a0 en_TNode]) (fun u43 => vI t45.N) (fun u43 => true) [true] 24 (fun u43 w hg hF => ld_row (en := en_TNode) (rdF_of hF.1).2 en_TNode_len ht45 1 1 [vI t45.N] rfl (by kernel_rfl))) <|
   .v 25 (vP ((u2 9).n 0) 1) <|
   .cons [53] (ok_as (u' := fun u43 => [(53, .blk ((u2 9).n 0) [vI t4.Op, vI t45.N, vI 0, vI t7.C.Lo, vI t7.C.Hi] 110)]) (ok_store 53 1 (fun u43 => ((u2 9).n 0)) (fun u43 => [vI t4.Op, vI 0, vI 0, vI t7.C.Lo, vI t7.C.Hi]) (fun u43 => [vI t45.N]) 110) (fun _ => by kernel_rfl)) <| .nil) fun u43 a w' H => ?_
   replace H := H.kp [0, 1, 2, 5, 47, 50, 51, 52, 53, 48, 49, 999998]
   obtain rfl := Option.some.inj G
   exact H.toL _ (by kernel_rfl)
  ·rw [if_neg (nt c46)] at G
   refine k_skip ?_
   obtain rfl := Option.some.inj G
   exact H.toL _ (by kernel_rfl)
set_option maxHeartbeats 4000000 in
theorem tape_Compile.calls (k0 : Nat) (a0 : TSystem) (p_a0_Names : Option Addr) (c_a0_Names : Nat) (p_a0_F : Option Addr) (c_a0_F : Nat) (L_a0_F : List (Sl TNode)) (r : TTape) (w : World) (h_a0_F : a0.F = L_a0_F.map Sl.l) (hB : AllH [rdl anyF 1 p_a0_Names c_a0_Names a0.Names en_str, rdl anyF 1 p_a0_F c_a0_F L_a0_F enSl, dnK anyF E_S_TNode.toPart L_a0_F] w) (G : tape_Compile k0 a0 = some r) :
  Calls Tryz.prog 12 #[.agg #[.slice p_a0_Names a0.Names.length c_a0_Names, .slice p_a0_F L_a0_F.length c_a0_F]] w fun e w' => ∃ g : Gh, e = .returned (.agg #[vI r.N, .slice (g.o 0) r.L.length (g.n 0), .slice (g.o 1) r.Out.length (g.n 1)]) ∧ But (fpK []) w w' ∧ OutOK w.heap.size (fpK []) (frI w.heap.size []) [fun _ => owK 110 5 (g.o 0) r.L.length (g.n 0) (r.L.flatMap en_TInstruction), fun _ => owK 3 1 (g.o 1) r.Out.length (g.n 1) (r.Out.flatMap en_i64)] w' := by
 obtain ⟨fr, hfr⟩ : ∃ fr : Nat → Prop, fr = frI w.heap.size [] := ⟨_, rfl⟩
 have hBf : ∀ j, w.heap.size ≤ j → fr j := fun j h => by rw [hfr]; exact .inl h
 refine k_enterF (args := [.agg #[.slice p_a0_Names a0.Names.length c_a0_Names, .slice p_a0_F L_a0_F.length c_a0_F]]) 45 [(45, rdl anyF 1 p_a0_Names c_a0_Names a0.Names en_str), (46, rdl anyF 1 p_a0_F c_a0_F L_a0_F enSl), (47, dnK anyF E_S_TNode.toPart L_a0_F)] (by
  intro x hx
  simp only [List.mem_cons, List.not_mem_nil, or_false] at hx
  rcases hx with rfl | rfl | rfl
  ·exact rdF_fact (rdF_of hB.1) (fun _ _ => trivial) (by decide) _
  ·exact rdF_fact (rdF_of hB.2.1) (fun _ _ => trivial) (by decide) _
  ·exact dn_fact (dn_of hB.2.2.1) (fun _ _ => trivial) _) Tryz.func12 rfl (by kernel_rfl) (by kernel_rfl) fun a H => ?_
 unfold tape_Compile at G
 refine k_seq ?_
 refine k_rg mixed H (.cons [1, 48] (ok_new (fun b => vP b 0) (fun u1 => [.slice p_a0_Names a0.Names.length c_a0_Names, .slice p_a0_F L_a0_F.length c_a0_F]) 43 1 48) <|
   .cons [2, 49] (ok_new (fun b => vP b 0) (fun u1 => [vI 0, .slice none 0 0, .slice none 0 0]) 38 2 49) <| .nil) fun u1 a w' H => ?_
 replace H := H.kp [1, 2, 45, 46, 47, 48, 49]
 refine k_seq ?_
 refine k_rg mixed H (.cons [8, 50] (ok_mkmap 8 50) <|
   .cons [9] (ok_val (fun u2 => .agg #[.slice none 0 0, .map (some ((u2 0).n 0))]) 9) <|
   .cons [10, 51] (ok_new (fun b => vP b 0) (fun u2 => [.slice none 0 0, .map (some ((u2 0).n 0))]) 107 10 51) <|
   .cons [3, 52] (ok_new (fun b => vP b 0) (fun u2 => [.pointer none]) 104 3 52) <|
   .cons [52] (ok_as (u' := fun u2 => [(52, .blk ((u2 3).n 0) [vP ((u2 2).n 0) 0] 104)]) (ok_store 52 0 (fun u2 => ((u2 3).n 0)) (fun u2 => [.pointer none]) (fun u2 => [vP ((u2 2).n 0) 0]) 104) (fun _ => by kernel_rfl)) <| .nil) fun u2 a w' H => ?_
 replace H := H.kp [1, 2, 3, 45, 46, 47, 48, 49, 50, 51, 52]
 refine k_seq ?_
 refine k_rg mixed H (.v 11 (vP ((u1 0).n 0) 1) <|
   .cons [12] (ok_ld (fun u3 => .slice p_a0_F L_a0_F.length c_a0_F) 12 48 1 1 (fun u3 => ((u1 0).n 0)) (fun u3 => [.slice p_a0_Names a0.Names.length c_a0_Names, .slice p_a0_F L_a0_F.length c_a0_F]) 43) <|
   .cons [13] (ok_valL [46] (fun u3 => [rdl anyF 1 p_a0_F c_a0_F L_a0_F enSl]) (fun u3 => vI (a0.F.length : Int)) (fun u3 => true) [true] 13 (fun u3 w hg hF => run_lenN (((rdF_of hF.1).2.len enSl_len (by decide)).trans (map_len h_a0_F).symm) (by kernel_rfl))) <|
   .v 14 (.agg #[vI (a0.F.length : Int), .slice none 0 0, .slice none 0 0]) <|
   .cons [4, 53] (ok_new (fun b => vP b 0) (fun u3 => [vI 0, .slice none 0 0, .slice none 0 0]) 38 4 53) <|
   .cons [53] (ok_as (u' := fun u3 => [(53, .blk ((u3 4).n 0) [vI (a0.F.length : Int), .slice none 0 0, .slice none 0 0] 38)]) (ok_store 53 0 (fun u3 => ((u3 4).n 0)) (fun u3 => [vI 0, .slice none 0 0, .slice none 0 0]) (fun u3 => [vI (a0.F.length : Int), .slice none 0 0, .slice none 0 0]) 38) (fun _ => by kernel_rfl)) <| .nil) fun u3 a w' H => ?_
 replace H := H.kp [1, 2, 3, 4, 45, 46, 47, 48, 49, 50, 51, 52, 53]
 refine k_seq ?_
 refine k_rg mixed H (.cons [5, 54] (ok_new (fun b => vP b 0) (fun u4 => [.nilFunc]) 108 5 54) <| .nil) fun u4 a w' H => ?_
 replace H := H.kp [1, 2, 3, 4, 5, 45, 46, 47, 48, 49, 50, 51, 52, 53, 54]
 refine k_seq ?_
 refine k_rg mixed H (.v 15 (.func (.func 35) #[] #[vP ((u4 0).n 0) 0, vP ((u2 3).n 0) 0]) <|
   .cons [54] (ok_as (u' := fun u5 => [(54, .blk ((u4 0).n 0) [.func (.func 35) #[] #[vP ((u4 0).n 0) 0, vP ((u2 3).n 0) 0]] 108)]) (ok_store 54 0 (fun u5 => ((u4 0).n 0)) (fun u5 => [.nilFunc]) (fun u5 => [.func (.func 35) #[] #[vP ((u4 0).n 0) 0, vP ((u2 3).n 0) 0]]) 108) (fun _ => by kernel_rfl)) <| .nil) fun u5 a w' H => ?_
 replace H := H.kp [1, 2, 3, 4, 5, 45, 46, 47, 48, 49, 50, 51, 52, 53, 54]
 refine k_seq ?_
 replace G := bnd G; obtain ⟨j9, hj9, G⟩ := G
 refine k_join (fun a w' => ∃ (p_j6 : Option Addr) (c_j6 np_j6 : Nat), np_j6 = j9.1.length ∧ ∃ (p_j7 : Option Addr) (c_j7 np_j7 : Nat), np_j7 = j9.2.1.length ∧ Rep w.heap.size w 45 (ofL [(2, (sP ((u1 1).n 0) 0)), (3, (sP ((u2 3).n 0) 0)), (4, (sP ((u3 4).n 0) 0)), (49, .blk ((u1 1).n 0) [vI 0, .slice none 0 0, .slice none 0 0] 38), (50, mpK ((u2 0).n 0) ek_TInstruction .i64 j9.2.2), (51, .blk ((u2 2).n 0) [.slice p_j6 np_j6 c_j6, .map (some ((u2 0).n 0))] 107), (52, .blk ((u2 3).n 0) [vP ((u2 2).n 0) 0] 104), (53, .blk ((u3 4).n 0) [vI (a0.F.length : Int), .slice none 0 0, .slice p_j7 np_j7 c_j7] 38), (900060, owK 110 5 p_j6 np_j6 c_j6 (j9.1.flatMap en_TInstruction)), (900061, owK 3 1 p_j7 np_j7 c_j7 (j9.2.1.flatMap en_i64))]) a w') ?_ ?_
 ·clear H; rintro a w' ⟨p_j6, c_j6, _, rfl, p_j7, c_j7, _, rfl, H⟩
  refine k_seq ?_
  refine k_seq ?_
  refine k_rg mixed H (.cons [32] (ok_ld (fun u10 => vP ((u2 2).n 0) 0) 32 52 0 1 (fun u10 => ((u2 3).n 0)) (fun u10 => [vP ((u2 2).n 0) 0]) 104) <|
   .v 33 (vP ((u2 2).n 0) 0) <|
   .v 34 (vP ((u2 2).n 0) 0) <|
   .cons [35] (ok_ld (fun u10 => .slice p_j6 j9.1.length c_j6) 35 51 0 1 (fun u10 => ((u2 2).n 0)) (fun u10 => [.slice p_j6 j9.1.length c_j6, .map (some ((u2 0).n 0))]) 107) <|
   .v 36 (vI (j9.1.length : Int)) <|
   .v 37 (.bool (decide ((j9.1.length : Int) > 400))) <| .nil) fun u10 a w' H => ?_
  replace H := H.kp [2, 3, 4, 37, 49, 50, 51, 52, 53, 900060, 900061]
  refine k_cond H (by kernel_rfl) (t := decide ((j9.1.length : Int) > 400)) (by kernel_rfl) (fun c14 => ?_) (fun c14 => ?_)
  ·rw [if_pos c14] at G
   refine k_seq ?_
   refine k_rg mixed H (.v 38 (.agg #[vI 0, .slice none 0 0, .slice none 0 0]) <|
   .cons [49] (ok_as (u' := fun u11 => [(49, .blk ((u1 1).n 0) [vI 0, .slice none 0 0, .slice none 0 0] 38)]) (ok_store 49 0 (fun u11 => ((u1 1).n 0)) (fun u11 => [vI 0, .slice none 0 0, .slice none 0 0]) (fun u11 => [vI 0, .slice none 0 0, .slice none 0 0]) 38) (fun _ => by kernel_rfl)) <| .nil) fun u11 a w' H => ?_
   replace H := H.kp [2, 49]
   refine k_ret ?_
   obtain rfl := Option.some.inj G
   replace H := H.nil_row 55 110 5
   replace H := H.nil_row 56 3 1
   obtain ⟨g, o0, n0, o1, n1⟩ : ∃ g : Gh, g.o 0 = none ∧ g.n 0 = 0 ∧ g.o 1 = none ∧ g.n 1 = 0 := ⟨⟨fun i => [0, 0].getD i 0, fun i => [none, none].getD i none, fun i => ([⟨Unit, ()⟩, ⟨Unit, ()⟩] : List ((T : Type) × T)).getD i ⟨Unit, ()⟩⟩, rfl, rfl, rfl, rfl⟩
   refine k_doneZ H (fun g => .agg #[vI 0, .slice (g.o 0) (([] : List TInstruction).length) (g.n 0), .slice (g.o 1) (([] : List Int).length) (g.n 1)]) g [] [] (fun g => [fun _ => owK 110 5 (g.o 0) (([] : List TInstruction).length) (g.n 0) (([] : List TInstruction).flatMap en_TInstruction), fun _ => owK 3 1 (g.o 1) (([] : List Int).length) (g.n 1) (([] : List Int).flatMap en_i64)]) fr [55, 56] [(49, ⟨((u1 1).n 0), [vI 0, .slice none 0 0, .slice none 0 0], 0, 3⟩)] (.agg #[vI 0, .slice none 0 0, .slice none 0 0]) [fun _ => owK 110 5 none 0 0 (([] : List TInstruction).flatMap en_TInstruction), fun _ => owK 3 1 none 0 0 (([] : List Int).flatMap en_i64)] (by simp only [o0, n0, o1, n1, List.length_set, List.length_cons, List.length_nil, Nat.zero_add, Nat.reduceAdd]) (by simp only [o0, n0, o1, n1, List.length_set, List.length_cons, List.length_nil, Nat.zero_add, Nat.reduceAdd]) hfr (.inl ⟨rfl, rfl⟩) (fams_cons fam_ow (fams_cons fam_ow fams_nil)) (by intro p hp; simp only [List.mem_cons, List.not_mem_nil, or_false] at hp; rcases hp with rfl; exact ⟨⟨38, by kernel_rfl⟩, by kernel_rfl⟩)
  ·rw [if_neg (nt c14)] at G
   refine k_skip ?_
   refine k_seq ?_
   refine k_rg mixed H (.cons [39] (ok_ld (fun u12 => vP ((u2 2).n 0) 0) 39 52 0 1 (fun u12 => ((u2 3).n 0)) (fun u12 => [vP ((u2 2).n 0) 0]) 104) <|
   .v 40 (vP ((u2 2).n 0) 0) <|
   .v 41 (vP ((u2 2).n 0) 0) <|
   .cons [42] (ok_ld (fun u12 => .slice p_j6 j9.1.length c_j6) 42 51 0 1 (fun u12 => ((u2 2).n 0)) (fun u12 => [.slice p_j6 j9.1.length c_j6, .map (some ((u2 0).n 0))]) 107) <|
   .v 43 (vP ((u3 4).n 0) 1) <|
   .cons [53] (ok_as (u' := fun u12 => [(53, .blk ((u3 4).n 0) [vI (a0.F.length : Int), .slice p_j6 j9.1.length c_j6, .slice p_j7 j9.2.1.length c_j7] 38)]) (ok_store 53 1 (fun u12 => ((u3 4).n 0)) (fun u12 => [vI (a0.F.length : Int), .slice none 0 0, .slice p_j7 j9.2.1.length c_j7]) (fun u12 => [.slice p_j6 j9.1.length c_j6]) 38) (fun _ => by kernel_rfl)) <| .nil) fun u12 a w' H => ?_
   replace H := H.kp [2, 4, 49, 53, 900060, 900061]
   refine k_seq ?_
   refine k_rg mixed H (.cons [44] (ok_ld (fun u13 => .agg #[vI (a0.F.length : Int), .slice p_j6 j9.1.length c_j6, .slice p_j7 j9.2.1.length c_j7]) 44 53 0 3 (fun u13 => ((u3 4).n 0)) (fun u13 => [vI (a0.F.length : Int), .slice p_j6 j9.1.length c_j6, .slice p_j7 j9.2.1.length c_j7]) 38) <|
   .cons [49] (ok_as (u' := fun u13 => [(49, .blk ((u1 1).n 0) [vI (a0.F.length : Int), .slice p_j6 j9.1.length c_j6, .slice p_j7 j9.2.1.length c_j7] 38)]) (ok_store 49 0 (fun u13 => ((u1 1).n 0)) (fun u13 => [vI 0, .slice none 0 0, .slice none 0 0]) (fun u13 => [vI (a0.F.length : Int), .slice p_j6 j9.1.length c_j6, .slice p_j7 j9.2.1.length c_j7]) 38) (fun _ => by kernel_rfl)) <| .nil) fun u13 a w' H => ?_
   replace H := H.kp [2, 49, 900060, 900061]
   refine k_ret ?_
   obtain rfl := Option.some.inj G
   obtain ⟨g, o0, n0, o1, n1⟩ : ∃ g : Gh, g.o 0 = p_j6 ∧ g.n 0 = c_j6 ∧ g.o 1 = p_j7 ∧ g.n 1 = c_j7 := ⟨⟨fun i => [c_j6, c_j7].getD i 0, fun i => [p_j6, p_j7].getD i none, fun i => ([⟨Unit, ()⟩, ⟨Unit, ()⟩] : List ((T : Type) × T)).getD i ⟨Unit, ()⟩⟩, rfl, rfl, rfl, rfl⟩
   refine k_doneZ H (fun g => .agg #[vI (a0.F.length : Int), .slice (g.o 0) j9.1.length (g.n 0), .slice (g.o 1) j9.2.1.length (g.n 1)]) g [] [] (fun g => [fun _ => owK 110 5 (g.o 0) j9.1.length (g.n 0) (j9.1.flatMap en_TInstruction), fun _ => owK 3 1 (g.o 1) j9.2.1.length (g.n 1) (j9.2.1.flatMap en_i64)]) fr [900060, 900061] [(49, ⟨((u1 1).n 0), [vI (a0.F.length : Int), .slice p_j6 j9.1.length c_j6, .slice p_j7 j9.2.1.length c_j7], 0, 3⟩)] (.agg #[vI (a0.F.length : Int), .slice p_j6 j9.1.length c_j6, .slice p_j7 j9.2.1.length c_j7]) [fun _ => owK 110 5 p_j6 j9.1.length c_j6 (j9.1.flatMap en_TInstruction), fun _ => owK 3 1 p_j7 j9.2.1.length c_j7 (j9.2.1.flatMap en_i64)] (by simp only [o0, n0, o1, n1]) (by simp only [o0, n0, o1, n1]) hfr (.inl ⟨rfl, rfl⟩) (fams_cons fam_ow (fams_cons fam_ow fams_nil)) (by intro p hp; simp only [List.mem_cons, List.not_mem_nil, or_false] at hp; rcases hp with rfl; exact ⟨⟨38, by kernel_rfl⟩, by kernel_rfl⟩)
 ·clear G; replace G := hj9; clear hj9
  refine k_seq ?_
  refine k_rg mixed H (.v 16 (vP ((u1 0).n 0) 1) <|
   .cons [17] (ok_ld (fun u15 => .slice p_a0_F L_a0_F.length c_a0_F) 17 48 1 1 (fun u15 => ((u1 0).n 0)) (fun u15 => [.slice p_a0_Names a0.Names.length c_a0_Names, .slice p_a0_F L_a0_F.length c_a0_F]) 43) <|
   .cons [18] (ok_valL [46] (fun u15 => [rdl anyF 1 p_a0_F c_a0_F L_a0_F enSl]) (fun u15 => vI (a0.F.length : Int)) (fun u15 => true) [true] 18 (fun u15 w hg hF => run_lenN (((rdF_of hF.1).2.len enSl_len (by decide)).trans (map_len h_a0_F).symm) (by kernel_rfl))) <|
   .v 19 (vI 0) <| .nil) fun u15 a w' H => ?_
  replace H := H.kp [2, 3, 4, 5, 17, 18, 19, 46, 47, 49, 50, 51, 52, 53, 54]
  refine k_block ?_
  replace H := H.nil_row 63 110 5
  replace H := H.nil_row 65 3 1
  replace H := H.move (K := owK 110 5 none 0 0 (([] : List TInstruction).flatMap en_TInstruction)) 63 900062 (by kernel_rfl) (by intro _ _ h; cases h)
  replace H := H.move (K := owK 3 1 none 0 0 (([] : List Int).flatMap en_i64)) 65 900063 (by kernel_rfl) (by intro _ _ h; cases h)
  refine k_loopJ (fun m a w' => ∃ x16 : List TInstruction, ∃ x17 : List Int, ∃ x18 : List (TInstruction × Int), ∃ x19 : Int, tape_Compile.l20 k0 a0 m x16 x17 x18 x19 = some j9 ∧ ∃ (p_x16 : Option Addr) (c_x16 np_x16 : Nat), np_x16 = x16.length ∧ ∃ (p_x17 : Option Addr) (c_x17 np_x17 : Nat), np_x17 = x17.length ∧ Rep w.heap.size w 45 (ofL [(2, (sP ((u1 1).n 0) 0)), (3, (sP ((u2 3).n 0) 0)), (4, (sP ((u3 4).n 0) 0)), (5, (sP ((u4 0).n 0) 0)), (17, sS p_a0_F L_a0_F.length c_a0_F), (18, (sI (a0.F.length : Int))), (19, sI x19), (46, rdl anyF 1 p_a0_F c_a0_F L_a0_F enSl), (47, dnK anyF E_S_TNode.toPart L_a0_F), (49, .blk ((u1 1).n 0) [vI 0, .slice none 0 0, .slice none 0 0] 38), (50, mpK ((u2 0).n 0) ek_TInstruction .i64 x18), (51, .blk ((u2 2).n 0) [.slice p_x16 np_x16 c_x16, .map (some ((u2 0).n 0))] 107), (52, .blk ((u2 3).n 0) [vP ((u2 2).n 0) 0] 104), (53, .blk ((u3 4).n 0) [vI (a0.F.length : Int), .slice none 0 0, .slice p_x17 np_x17 c_x17] 38), (54, .blk ((u4 0).n 0) [.func (.func 35) #[] #[vP ((u4 0).n 0) 0, vP ((u2 3).n 0) 0]] 108), (900062, owK 110 5 p_x16 np_x16 c_x16 (x16.flatMap en_TInstruction)), (900063, owK 3 1 p_x17 np_x17 c_x17 (x17.flatMap en_i64))]) a w') k0 ⟨_, _, _, _, G, none, 0, 0, rfl, none, 0, 0, rfl, H.toL _ (by kernel_rfl)⟩ ?_
  clear G H
  rintro (_ | k) a w' ⟨x16, x17, x18, x19, G, p_x16, c_x16, _, rfl, p_x17, c_x17, _, rfl, H⟩
  ·exact absurd G (by unfold tape_Compile.l20; exact fun h => by cases h)
  ·unfold tape_Compile.l20 at G
   refine k_seq ?_
   refine k_rg mixed H (.v 20 (.bool (decide (x19 < (a0.F.length : Int)))) <| .nil) fun u21 a w' H => ?_
   replace H := H.kp [2, 3, 4, 5, 17, 18, 19, 20, 46, 47, 49, 50, 51, 52, 53, 54, 900062, 900063]
   refine k_seq ?_
   refine k_cond H (by kernel_rfl) (t := decide (x19 < (a0.F.length : Int))) (by kernel_rfl) (fun c29 => ?_) (fun c29 => ?_)
   ·rw [if_pos c29] at G
    refine k_skip ?_
    refine k_seq ?_
    refine k_block ?_
    refine k_seq ?_
    replace G := gd G; obtain ⟨b23, G⟩ := G
    replace G := bnd G; obtain ⟨t24, ht24, G⟩ := G
    obtain ⟨p_t24, c_t24, y_t24⟩ := sl_get h_a0_F ht24
    refine k_rg mixed H (.cons [21] (ok_valL [46] (fun u22 => [rdl anyF 1 p_a0_F c_a0_F L_a0_F enSl]) (fun u22 => .pointer (some ⟨hdB p_a0_F, hdO p_a0_F + x19.toNat * 1, none⟩)) (fun u22 => true) [true, true] 21 (fun u22 w hg hF => ix_row (t := 41) (k := .i64) (i := x19) (p := p_a0_F) (n := L_a0_F.length) (cap := c_a0_F) (x := a0.F) (en := enSl) (rdF_of hF.1).2 enSl_len (map_len h_a0_F) b23 (by kernel_rfl))) <|
   .cons [22] (ok_valL [46] (fun u22 => [rdl anyF 1 p_a0_F c_a0_F L_a0_F enSl]) (fun u22 => .slice p_t24 t24.length c_t24) (fun u22 => true) [true] 22 (fun u22 w hg hF => ld_row (en := enSl) (rdF_of hF.1).2 enSl_len y_t24 0 1 [.slice p_t24 t24.length c_t24] rfl (by kernel_rfl))) <|
   .v 7 (.slice p_t24 t24.length c_t24) <| .nil) fun u22 a w' H => ?_
    replace H := H.kp [2, 3, 4, 5, 7, 17, 18, 19, 46, 47, 49, 50, 51, 52, 53, 54, 900062, 900063]
    replace G := bnd G; obtain ⟨t26, ht26, G⟩ := G
    replace G := gd G; obtain ⟨b27, G⟩ := G
    refine k_regT mixed H (.v 23 (vP ((u3 4).n 0) 2) <|
   .cons [24] (ok_ld (fun u25 => .slice p_x17 x17.length c_x17) 24 53 2 1 (fun u25 => ((u3 4).n 0)) (fun u25 => [vI (a0.F.length : Int), .slice none 0 0, .slice p_x17 x17.length c_x17]) 38) <|
   .cons [25] (ok_ld (fun u25 => .func (.func 35) #[] #[vP ((u4 0).n 0) 0, vP ((u2 3).n 0) 0]) 25 54 0 1 (fun u25 => ((u4 0).n 0)) (fun u25 => [.func (.func 35) #[] #[vP ((u4 0).n 0) 0, vP ((u2 3).n 0) 0]]) 108) <|
   .v 26 (.slice p_t24 t24.length c_t24) <|
   .cons [27, 900062, 50, 51, 57, 51, 50] (ok_callY false fr [] [47, 54, 52] (fun u25 => [dnK anyF E_S_TNode.toPart L_a0_F, .blk ((u4 0).n 0) [.func (.func 35) #[] #[vP ((u4 0).n 0) 0, vP ((u2 3).n 0) 0]] 108, .blk ((u2 3).n 0) [vP ((u2 2).n 0) 0] 104]) [900062, 50, 51] (fun u25 => [owK 110 5 p_x16 x16.length c_x16 (x16.flatMap en_TInstruction), mpK ((u2 0).n 0) ek_TInstruction .i64 x18, .blk ((u2 2).n 0) [.slice p_x16 x16.length c_x16, .map (some ((u2 0).n 0))] 107]) 35 (fun u25 => #[.slice p_t24 t24.length c_t24, vP ((u4 0).n 0) 0, vP ((u2 3).n 0) 0]) (fun u25 => [bxK ((u4 0).n 0) [.func (.func 35) #[] #[vP ((u4 0).n 0) 0, vP ((u2 3).n 0) 0]] 108, bxK ((u2 3).n 0) [vP ((u2 2).n 0) 0] 104]) (fun u25 => [rdl anyF 4 p_t24 c_t24 t24 en_TNode]) (fun u25 g => vI t26.1) (fun u25 g => [fun _ => owK 110 5 (g.o 0) t26.2.1.length (g.n 0) (t26.2.1.flatMap en_TInstruction), fun _ => .blk ((u2 2).n 0) [.slice (g.o 0) t26.2.1.length (g.n 0), .map (some ((u2 0).n 0))] 107, fun _ => mpK ((u2 0).n 0) ek_TInstruction .i64 t26.2.2]) [57, 51, 50] 27 (fun u25 w hB hF hM => tape_Compile_1_m.calls k0 t24 x16 x18 p_t24 c_t24 ((u4 0).n 0) ((u2 3).n 0) ((u2 2).n 0) p_x16 c_x16 ((u2 0).n 0) t26 w  hB hF hM ht26) (fun u25 w hF => ⟨⟨sub_bx hF.2.1 (.tail _ (.head _)) rfl, sub_bx hF.2.2.1 (.tail _ (.tail _ (.head _))) rfl, trivial⟩, ⟨sub_rd0 (show RowC _ 4 p_t24 t24.length c_t24 (t24.flatMap en_TNode) from ((dn_of hF.1) _ (List.mem_of_getElem? y_t24)).1) (fun j h => ⟨_, (.head _), ⟨_, (List.mem_of_getElem? y_t24), (.inl h)⟩⟩), trivial⟩⟩) (fun u25 g => (fams_cons fam_ow (fams_cons fam_blk (fams_cons fam_ob fams_nil)))) (.inr (fun u25 g => (famx_cons trivial (famx_cons trivial (famx_cons trivial (fun K h => by cases h)))))) (fun h => by cases h)) <|
   .cons [28, 58] (ok_new (fun b => .slice (some ⟨b, 0, none⟩) 1 1) (fun u25 => [vI t26.1]) 3 28 58) <|
   .cons [29, 900063, 900063] (ok_own1 [5] [58] (fun u25 => [.blk ((u25 5).n 0) [vI t26.1] 3]) 900063 (fun u25 => owK 3 1 p_x17 x17.length c_x17 (x17.flatMap en_i64)) (some 29) (fun u25 g => .slice (g.o 0) (x17 ++ [t26.1]).length (g.n 0)) (fun u25 g => owK 3 1 (g.o 0) ((x17 ++ [t26.1]).length) (g.n 0) ((x17 ++ [t26.1]).flatMap en_i64)) (fun u25 w hF hK => tv_app (run_app_rowN (t := 36) (ty := 36) (en := en_i64) en_i64_len inf3 (ow_of hK) hF.1 (news := [t26.1]) rfl (by simp) (by kernel_rfl) b27)) (hloc := fun u u' h => ⟨by first | rfl | simp only [h 5 (by decide)], by first | rfl | simp only [h 5 (by decide)], by first | rfl | simp only [h 5 (by decide)], by first | rfl | simp only [h 5 (by decide)]⟩)) <|
   .v 30 (vP ((u3 4).n 0) 2) <|
   .cons [53] (ok_as (u' := fun u25 => [(53, .blk ((u3 4).n 0) [vI (a0.F.length : Int), .slice none 0 0, .slice ((u25 6).o 0) ((x17 ++ [t26.1]).length) ((u25 6).n 0)] 38)]) (ok_store 53 2 (fun u25 => ((u3 4).n 0)) (fun u25 => [vI (a0.F.length : Int), .slice none 0 0, .slice p_x17 x17.length c_x17]) (fun u25 => [.slice ((u25 6).o 0) ((x17 ++ [t26.1]).length) ((u25 6).n 0)]) 38) (fun _ => by kernel_rfl)) <| .nil) (by kernel_rfl) fun u25 a w' H => ?_
    replace H := H.kp [2, 3, 4, 5, 17, 18, 19, 46, 47, 49, 50, 51, 52, 53, 54, 57, 900063]
    refine k_rg mixed H (.v 31 (vI (w_i64 (x19 + 1))) <|
   .v 19 (vI (w_i64 (x19 + 1))) <| .nil) fun u28 a w' H => ?_
    replace H := H.kp [2, 3, 4, 5, 17, 18, 19, 46, 47, 49, 50, 51, 52, 53, 54, 57, 900063]
    replace H := H.move (K := owK 110 5 ((u25 4).o 0) t26.2.1.length ((u25 4).n 0) (t26.2.1.flatMap en_TInstruction)) 57 900062 (by kernel_rfl) (by intro _ _ h; cases h)
    exact ⟨k, Nat.lt_succ_self k, _, _, _, _, G, ((u25 4).o 0), ((u25 4).n 0), t26.2.1.length, rfl, ((u25 6).o 0), ((u25 6).n 0), (x17 ++ [t26.1]).length, rfl, H.toL _ (by kernel_rfl)⟩
   ·rw [if_neg (nt c29)] at G
    refine k_exit rfl ?_
    obtain rfl := Option.some.inj G
    replace H := H.move (K := owK 110 5 p_x16 x16.length c_x16 (x16.flatMap en_TInstruction)) 900062 900060 (by kernel_rfl) (by intro _ _ h; cases h)
    replace H := H.move (K := owK 3 1 p_x17 x17.length c_x17 (x17.flatMap en_i64)) 900063 900061 (by kernel_rfl) (by intro _ _ h; cases h)
    exact ⟨p_x16, c_x16, x16.length, rfl, p_x17, c_x17, x17.length, rfl, H.toL _ (by kernel_rfl)⟩
set_option maxHeartbeats 4000000 in
theorem armillarytop_drift.calls (a0 : TInterval) (r : TSystem) (w : World) (G : armillarytop_drift a0 = some r) :
  Calls Tryz.prog 13 #[.agg #[vI a0.Lo, vI a0.Hi]] w fun e w' => ∃ g : Gh, e = .returned (.agg #[.slice (g.o 0) r.Names.length (g.n 0), .slice (g.o 1) ((g.dl Sl.l gd_S_TNode 1 r.F).length) (g.n 1)]) ∧ But (fpK []) w w' ∧ OutOK w.heap.size (fpK []) (frI w.heap.size []) [fun _ => owK 9 1 (g.o 0) r.Names.length (g.n 0) (r.Names.flatMap en_str), fun _ => nsK 59 61 4 en_TNode (g.o 1) ((g.dl Sl.l gd_S_TNode 1 r.F).length) (g.n 1) (g.dl Sl.l gd_S_TNode 1 r.F) (g.dl Sl.l gd_S_TNode 1 r.F)] w' := by
 obtain ⟨fr, hfr⟩ : ∃ fr : Nat → Prop, fr = frI w.heap.size [] := ⟨_, rfl⟩
 have hBf : ∀ j, w.heap.size ≤ j → fr j := fun j h => by rw [hfr]; exact .inl h
 refine k_enter (args := [.agg #[vI a0.Lo, vI a0.Hi]]) 9 Tryz.func13 rfl (by kernel_rfl) (by kernel_rfl) fun a H => ?_
 unfold armillarytop_drift at G
 refine k_seq ?_
 refine k_rg mixed H (.cons [1, 9] (ok_new (fun b => vP b 0) (fun u1 => [vI a0.Lo, vI a0.Hi]) 46 1 9) <|
   .cons [2, 10] (ok_new (fun b => vP b 0) (fun u1 => [.slice none 0 0, .slice none 0 0]) 43 2 10) <| .nil) fun u1 a w' H => ?_
 replace H := H.kp [1, 2, 9, 10]
 refine k_seq ?_
 refine k_rg mixed H (.cons [3, 11] (ok_new (fun b => .slice (some ⟨b, 0, none⟩) 1 1) (fun u2 => [.string (⟨#[120]⟩ : ByteArray)]) 9 3 11) <|
   .cons [4] (ok_ld (fun u2 => .agg #[vI a0.Lo, vI a0.Hi]) 4 9 0 2 (fun u2 => ((u1 0).n 0)) (fun u2 => [vI a0.Lo, vI a0.Hi]) 46) <|
   .v 5 (.agg #[vI 1, vI 0, vI a0.Lo, vI a0.Hi]) <|
   .cons [6, 12] (ok_new (fun b => .slice (some ⟨b, 0, none⟩) 1 1) (fun u2 => [vI 1, vI 0, vI a0.Lo, vI a0.Hi]) 61 6 12) <|
   .cons [7, 13] (ok_new (fun b => .slice (some ⟨b, 0, none⟩) 1 1) (fun u2 => [.slice (some ⟨((u2 3).n 0), 0, none⟩) 1 1]) 59 7 13) <|
   .cons [8] (ok_val (fun u2 => .agg #[.slice (some ⟨((u2 0).n 0), 0, none⟩) 1 1, .slice (some ⟨((u2 4).n 0), 0, none⟩) 1 1]) 8) <|
   .cons [10] (ok_as (u' := fun u2 => [(10, .blk ((u1 1).n 0) [.slice (some ⟨((u2 0).n 0), 0, none⟩) 1 1, .slice (some ⟨((u2 4).n 0), 0, none⟩) 1 1] 43)]) (ok_store 10 0 (fun u2 => ((u1 1).n 0)) (fun u2 => [.slice none 0 0, .slice none 0 0]) (fun u2 => [.slice (some ⟨((u2 0).n 0), 0, none⟩) 1 1, .slice (some ⟨((u2 4).n 0), 0, none⟩) 1 1]) 43) (fun _ => by kernel_rfl)) <| .nil) fun u2 a w' H => ?_
 replace H := H.kp [2, 10, 11, 12, 13]
 refine k_ret ?_
 obtain rfl := Option.some.inj G
 replace H := H.blk_row 11 ((u2 0).n 0) [.string (⟨#[120]⟩ : ByteArray)] 9 1 1 (by kernel_rfl) (by kernel_rfl) (by decide)
 replace H := H.blk_row 12 ((u2 3).n 0) [vI 1, vI 0, vI a0.Lo, vI a0.Hi] 61 4 1 (by kernel_rfl) (by kernel_rfl) (by decide)
 replace H := H.blk_row 13 ((u2 4).n 0) [.slice (some ⟨((u2 3).n 0), 0, none⟩) 1 1] 59 1 1 (by kernel_rfl) (by kernel_rfl) (by decide)
 replace H := H.nestOpen (e := 59) (m := 1) (cap := 1) (p := (some ⟨((u2 4).n 0), 0, none⟩)) (H := ([⟨(some ⟨((u2 3).n 0), 0, none⟩), 1, ([(⟨1, 0, a0⟩ : TNode)] : List TNode)⟩] : List (Sl TNode))) 13 61 4 en_TNode (by kernel_rfl)
 replace H := H.nestTake (e := 59) (e2 := 61) (m := 1) (cap := 1) (p := (some ⟨((u2 4).n 0), 0, none⟩)) (H := ([⟨(some ⟨((u2 3).n 0), 0, none⟩), 1, ([(⟨1, 0, a0⟩ : TNode)] : List TNode)⟩] : List (Sl TNode))) (L := ([] : List (Sl TNode))) (n2 := 1) (c := 1) (q := (some ⟨((u2 3).n 0), 0, none⟩)) (en := en_TNode) (l := ([(⟨1, 0, a0⟩ : TNode)] : List TNode)) 13 12 (by kernel_rfl) (by kernel_rfl) (by rfl) en_TNode_len (by decide)
 obtain ⟨g, o0, n0, o1, n1, d1⟩ : ∃ g : Gh, g.o 0 = (some ⟨((u2 0).n 0), 0, none⟩) ∧ g.n 0 = 1 ∧ g.o 1 = (some ⟨((u2 4).n 0), 0, none⟩) ∧ g.n 1 = 1 ∧ g.dl Sl.l gd_S_TNode 1 ([([(⟨1, 0, a0⟩ : TNode)] : List TNode)] : List (List TNode)) = ([⟨(some ⟨((u2 3).n 0), 0, none⟩), 1, ([(⟨1, 0, a0⟩ : TNode)] : List TNode)⟩] : List (Sl TNode)) := ⟨⟨fun i => [1, 1].getD i 0, fun i => [(some ⟨((u2 0).n 0), 0, none⟩), (some ⟨((u2 4).n 0), 0, none⟩)].getD i none, fun i => ([⟨Unit, ()⟩, ⟨List (Sl TNode), ([⟨(some ⟨((u2 3).n 0), 0, none⟩), 1, ([(⟨1, 0, a0⟩ : TNode)] : List TNode)⟩] : List (Sl TNode))⟩] : List ((T : Type) × T)).getD i ⟨Unit, ()⟩⟩, rfl, rfl, rfl, rfl, dl_mk rfl rfl⟩
 refine k_doneZ H (fun g => .agg #[.slice (g.o 0) (([(⟨#[120]⟩ : ByteArray)] : List ByteArray).length) (g.n 0), .slice (g.o 1) ((g.dl Sl.l gd_S_TNode 1 ([([(⟨1, 0, a0⟩ : TNode)] : List TNode)] : List (List TNode))).length) (g.n 1)]) g [] [] (fun g => [fun _ => owK 9 1 (g.o 0) (([(⟨#[120]⟩ : ByteArray)] : List ByteArray).length) (g.n 0) (([(⟨#[120]⟩ : ByteArray)] : List ByteArray).flatMap en_str), fun _ => nsK 59 61 4 en_TNode (g.o 1) ((g.dl Sl.l gd_S_TNode 1 ([([(⟨1, 0, a0⟩ : TNode)] : List TNode)] : List (List TNode))).length) (g.n 1) (g.dl Sl.l gd_S_TNode 1 ([([(⟨1, 0, a0⟩ : TNode)] : List TNode)] : List (List TNode))) (g.dl Sl.l gd_S_TNode 1 ([([(⟨1, 0, a0⟩ : TNode)] : List TNode)] : List (List TNode)))]) fr [11, 13] [(10, ⟨((u1 1).n 0), [.slice (some ⟨((u2 0).n 0), 0, none⟩) 1 1, .slice (some ⟨((u2 4).n 0), 0, none⟩) 1 1], 0, 2⟩)] (.agg #[.slice (some ⟨((u2 0).n 0), 0, none⟩) 1 1, .slice (some ⟨((u2 4).n 0), 0, none⟩) 1 1]) [fun _ => owK 9 1 (some ⟨((u2 0).n 0), 0, none⟩) 1 1 (([(⟨#[120]⟩ : ByteArray)] : List ByteArray).flatMap en_str), fun _ => nsK 59 61 4 en_TNode (some ⟨((u2 4).n 0), 0, none⟩) 1 1 ([⟨(some ⟨((u2 3).n 0), 0, none⟩), 1, ([(⟨1, 0, a0⟩ : TNode)] : List TNode)⟩] : List (Sl TNode)) ([⟨(some ⟨((u2 3).n 0), 0, none⟩), 1, ([(⟨1, 0, a0⟩ : TNode)] : List TNode)⟩] : List (Sl TNode))] (by simp only [o0, n0, o1, n1, d1, List.length_set, List.length_cons, List.length_nil, Nat.zero_add, Nat.reduceAdd]) (by simp only [o0, n0, o1, n1, d1, List.length_set, List.length_cons, List.length_nil, Nat.zero_add, Nat.reduceAdd]) hfr (.inl ⟨rfl, rfl⟩) (fams_cons fam_ow (fams_cons fam_ns fams_nil)) (by intro p hp; simp only [List.mem_cons, List.not_mem_nil, or_false] at hp; rcases hp with rfl; exact ⟨⟨43, by kernel_rfl⟩, by kernel_rfl⟩)
set_option maxHeartbeats 4000000 in
theorem flow_End.calls (a0 : List TSegment) (p_a0 : Option Addr) (c_a0 : Nat) (L_a0 : List G_TSegment) (r : List TInterval × Int × Bool) (w : World) (h_a0 : a0 = L_a0.map er_TSegment) (hB : AllH [rdl anyF 6 p_a0 c_a0 L_a0 en_TSegment] w) (hF : AllH [dnK anyF E_TSegment.toPart L_a0] w) (G : flow_End a0 = some r) :
  Calls Tryz.prog 28 #[.slice p_a0 L_a0.length c_a0] w fun e w' => ∃ g : Gh, e = .returned (.tuple #[.slice (g.o 0) r.1.length (g.n 0), vI r.2.1, .bool r.2.2]) ∧ But (fpK []) w w' ∧ OutOK w.heap.size (fpK []) (frI w.heap.size [dnK anyF E_TSegment.toPart L_a0]) [fun fr => rdF fr 2 (g.o 0) r.1.length (g.n 0) (r.1.flatMap en_TInterval)] w' := by
 obtain ⟨fr, hfr⟩ : ∃ fr : Nat → Prop, fr = frI w.heap.size [dnK anyF E_TSegment.toPart L_a0] := ⟨_, rfl⟩
 have hBf : ∀ j, w.heap.size ≤ j → fr j := fun j h => by rw [hfr]; exact .inl h
 refine k_enterF (args := [.slice p_a0 L_a0.length c_a0]) 22 [(22, rdl anyF 6 p_a0 c_a0 L_a0 en_TSegment), (23, dnK fr E_TSegment.toPart L_a0)] (by
  intro x hx
  simp only [List.mem_cons, List.not_mem_nil, or_false] at hx
  rcases hx with rfl | rfl
  ·exact rdF_fact (rdF_of hB.1) (fun _ _ => trivial) (by decide) _
  ·exact dn_fact (dn_of hF.1) (fun j h => by rw [hfr]; exact .inr ⟨_, (.head _), h⟩) _) Tryz.func28 rfl (by kernel_rfl) (by kernel_rfl) fun a H => ?_
 unfold flow_End at G
 refine k_seq ?_
 refine k_rg mixed H (.v 2 (.slice none 0 0) <|
   .v 3 (vI 0) <|
   .v 4 (.bool false) <| .nil) fun u1 a w' H => ?_
 replace H := H.kp [0, 22, 23]
 refine k_seq ?_
 refine k_seq ?_
 refine k_rg mixed H (.v 6 (.slice p_a0 L_a0.length c_a0) <|
   .cons [7] (ok_valL [22] (fun u2 => [rdl anyF 6 p_a0 c_a0 L_a0 en_TSegment]) (fun u2 => vI (a0.length : Int)) (fun u2 => true) [true] 7 (fun u2 w hg hF => run_lenN (((rdF_of hF.1).2.len en_TSegment_len (by decide)).trans (map_len h_a0).symm) (by kernel_rfl))) <|
   .v 8 (.bool ((a0.length : Int) == 0)) <| .nil) fun u2 a w' H => ?_
 replace H := H.kp [0, 8, 22, 23]
 refine k_cond H (by kernel_rfl) (t := ((a0.length : Int) == 0)) (by kernel_rfl) (fun c8 => ?_) (fun c8 => ?_)
 ·rw [if_pos c8] at G
  refine k_seq ?_
  refine k_rg mixed H (.v 2 (.slice none 0 0) <|
   .v 3 (vI 0) <|
   .v 4 (.bool false) <| .nil) fun u3 a w' H => ?_
  replace H := H.kp [2, 3, 4]
  refine k_ret ?_
  obtain rfl := Option.some.inj G
  replace H := H.nil_row 24 46 2
  replace H := H.demote fr 24 46 2 none 0 0 (([] : List TInterval).flatMap en_TInterval) (by kernel_rfl) (by decide) hBf
  obtain ⟨g, o0, n0⟩ : ∃ g : Gh, g.o 0 = none ∧ g.n 0 = 0 := ⟨⟨fun i => [0].getD i 0, fun i => [none].getD i none, fun i => ([⟨Unit, ()⟩] : List ((T : Type) × T)).getD i ⟨Unit, ()⟩⟩, rfl, rfl⟩
  refine k_doneZ H (fun g => .tuple #[.slice (g.o 0) (([] : List TInterval).length) (g.n 0), vI 0, .bool false]) g [] [dnK anyF E_TSegment.toPart L_a0] (fun g => [fun fr => rdF fr 2 (g.o 0) (([] : List TInterval).length) (g.n 0) (([] : List TInterval).flatMap en_TInterval)]) fr [24] [] (.tuple #[.slice none 0 0, vI 0, .bool false]) [fun fr => rdF fr 2 none 0 0 (([] : List TInterval).flatMap en_TInterval)] (by simp only [o0, n0, List.length_set, List.length_cons, List.length_nil, Nat.zero_add, Nat.reduceAdd]) (by simp only [o0, n0, List.length_set, List.length_cons, List.length_nil, Nat.zero_add, Nat.reduceAdd]) hfr (.inl ⟨rfl, rfl⟩) (fams_cons (fam_rd (by decide)) fams_nil) (by simp)
 ·rw [if_neg (nt c8)] at G
  refine k_skip ?_
  refine k_seq ?_
  replace G := gd G; obtain ⟨b5, G⟩ := G
  replace G := bnd G; obtain ⟨t6, ht6, G⟩ := G
  obtain ⟨p_t6_From, c_t6_From, p_t6_Pre, c_t6_Pre, p_t6_Tube, c_t6_Tube, p_t6_To, c_t6_To, y_t6⟩ := get_TSegment h_a0 ht6
  refine k_rg mixed H (.v 9 (.slice p_a0 L_a0.length c_a0) <|
   .v 10 (.slice p_a0 L_a0.length c_a0) <|
   .cons [11] (ok_valL [22] (fun u4 => [rdl anyF 6 p_a0 c_a0 L_a0 en_TSegment]) (fun u4 => vI (a0.length : Int)) (fun u4 => true) [true] 11 (fun u4 w hg hF => run_lenN (((rdF_of hF.1).2.len en_TSegment_len (by decide)).trans (map_len h_a0).symm) (by kernel_rfl))) <|
   .v 12 (vI (w_i64 ((a0.length : Int) - 1))) <|
   .cons [13] (ok_valL [22] (fun u4 => [rdl anyF 6 p_a0 c_a0 L_a0 en_TSegment]) (fun u4 => .pointer (some ⟨hdB p_a0, hdO p_a0 + ((w_i64 ((a0.length : Int) - 1)).toNat) * 6, none⟩)) (fun u4 => true) [true, true] 13 (fun u4 w hg hF => ix_row (t := 31) (k := .i64) (i := w_i64 ((a0.length : Int) - 1)) (p := p_a0) (n := L_a0.length) (cap := c_a0) (x := a0) (en := en_TSegment) (rdF_of hF.1).2 en_TSegment_len (map_len h_a0) b5 (by kernel_rfl))) <|
   .cons [14] (ok_valL [22] (fun u4 => [rdl anyF 6 p_a0 c_a0 L_a0 en_TSegment]) (fun u4 => .agg #[vI t6.T, vI t6.H, .slice p_t6_From t6.From.length c_t6_From, .slice p_t6_Pre t6.Pre.length c_t6_Pre, .slice p_t6_Tube t6.Tube.length c_t6_Tube, .slice p_t6_To t6.To.length c_t6_To]) (fun u4 => true) [true] 14 (fun u4 w hg hF => ld_row (en := en_TSegment) (rdF_of hF.1).2 en_TSegment_len y_t6 0 6 [vI t6.T, vI t6.H, .slice p_t6_From t6.From.length c_t6_From, .slice p_t6_Pre t6.Pre.length c_t6_Pre, .slice p_t6_Tube t6.Tube.length c_t6_Tube, .slice p_t6_To t6.To.length c_t6_To] rfl (by kernel_rfl))) <|
   .cons [5, 25] (ok_new (fun b => vP b 0) (fun u4 => [vI 0, vI 0, .slice none 0 0, .slice none 0 0, .slice none 0 0, .slice none 0 0]) 63 5 25) <|
   .cons [25] (ok_as (u' := fun u4 => [(25, .blk ((u4 6).n 0) [vI t6.T, vI t6.H, .slice p_t6_From t6.From.length c_t6_From, .slice p_t6_Pre t6.Pre.length c_t6_Pre, .slice p_t6_Tube t6.Tube.length c_t6_Tube, .slice p_t6_To t6.To.length c_t6_To] 63)]) (ok_store 25 0 (fun u4 => ((u4 6).n 0)) (fun u4 => [vI 0, vI 0, .slice none 0 0, .slice none 0 0, .slice none 0 0, .slice none 0 0]) (fun u4 => [vI t6.T, vI t6.H, .slice p_t6_From t6.From.length c_t6_From, .slice p_t6_Pre t6.Pre.length c_t6_Pre, .slice p_t6_Tube t6.Tube.length c_t6_Tube, .slice p_t6_To t6.To.length c_t6_To]) 63) (fun _ => by kernel_rfl)) <| .nil) fun u4 a w' H => ?_
  replace H := H.kp [5, 23, 25]
  refine k_seq ?_
  refine k_rg mixed H (.v 15 (vP ((u4 6).n 0) 5) <|
   .cons [16] (ok_ld (fun u7 => .slice p_t6_To t6.To.length c_t6_To) 16 25 5 1 (fun u7 => ((u4 6).n 0)) (fun u7 => [vI t6.T, vI t6.H, .slice p_t6_From t6.From.length c_t6_From, .slice p_t6_Pre t6.Pre.length c_t6_Pre, .slice p_t6_Tube t6.Tube.length c_t6_Tube, .slice p_t6_To t6.To.length c_t6_To]) 63) <|
   .v 17 (vP ((u4 6).n 0) 0) <|
   .cons [18] (ok_ld (fun u7 => vI t6.T) 18 25 0 1 (fun u7 => ((u4 6).n 0)) (fun u7 => [vI t6.T, vI t6.H, .slice p_t6_From t6.From.length c_t6_From, .slice p_t6_Pre t6.Pre.length c_t6_Pre, .slice p_t6_Tube t6.Tube.length c_t6_Tube, .slice p_t6_To t6.To.length c_t6_To]) 63) <|
   .v 19 (vP ((u4 6).n 0) 1) <|
   .cons [20] (ok_ld (fun u7 => vI t6.H) 20 25 1 1 (fun u7 => ((u4 6).n 0)) (fun u7 => [vI t6.T, vI t6.H, .slice p_t6_From t6.From.length c_t6_From, .slice p_t6_Pre t6.Pre.length c_t6_Pre, .slice p_t6_Tube t6.Tube.length c_t6_Tube, .slice p_t6_To t6.To.length c_t6_To]) 63) <|
   .v 21 (vI (w_i64 (t6.T + t6.H))) <|
   .v 2 (.slice p_t6_To t6.To.length c_t6_To) <|
   .v 3 (vI (w_i64 (t6.T + t6.H))) <|
   .v 4 (.bool true) <| .nil) fun u7 a w' H => ?_
  replace H := H.kp [2, 3, 4, 23]
  refine k_ret ?_
  obtain rfl := Option.some.inj G
  replace H := H.addF 26 (rdl fr 2 p_t6_To c_t6_To t6.To en_TInterval) [23] [dnK fr E_TSegment.toPart L_a0] (by kernel_rfl) (fun h => h) (by intro _ _ h; cases h) (fun hF => (rdF_fact (show RowC _ 2 p_t6_To t6.To.length c_t6_To (t6.To.flatMap en_TInterval) from ((dn_of hF.1) _ (List.mem_of_getElem? y_t6)).2.2.2.1) (fun j h => (dn_fr hF.1 _ ⟨_, (List.mem_of_getElem? y_t6), (.inr (.inr (.inr (.inl h))))⟩)) (by decide) 0).2.1) (fun hF j h => ⟨_, .head _, (fun h => h), ⟨_, (List.mem_of_getElem? y_t6), (.inr (.inr (.inr (.inl h))))⟩⟩)
  obtain ⟨g, o0, n0⟩ : ∃ g : Gh, g.o 0 = p_t6_To ∧ g.n 0 = c_t6_To := ⟨⟨fun i => [c_t6_To].getD i 0, fun i => [p_t6_To].getD i none, fun i => ([⟨Unit, ()⟩] : List ((T : Type) × T)).getD i ⟨Unit, ()⟩⟩, rfl, rfl⟩
  refine k_doneZ H (fun g => .tuple #[.slice (g.o 0) t6.To.length (g.n 0), vI (w_i64 (t6.T + t6.H)), .bool true]) g [] [dnK anyF E_TSegment.toPart L_a0] (fun g => [fun fr => rdF fr 2 (g.o 0) t6.To.length (g.n 0) (t6.To.flatMap en_TInterval)]) fr [26] [] (.tuple #[.slice p_t6_To t6.To.length c_t6_To, vI (w_i64 (t6.T + t6.H)), .bool true]) [fun fr => rdl fr 2 p_t6_To c_t6_To t6.To en_TInterval] (by simp only [o0, n0]) (by simp only [o0, n0]) hfr (.inl ⟨rfl, rfl⟩) (fams_cons (fam_rd (by decide)) fams_nil) (by simp)
set_option maxHeartbeats 4000000 in
theorem flow_At_1_m.calls (a0 : Int) (q0 : List TSegment) (q1 : Int) (b_q0 : Nat) (p_q0 : Option Addr) (c_q0 : Nat) (L_q0 : List G_TSegment) (b_q1 : Nat) (r : Bool) (w : World) (h_q0 : q0 = L_q0.map er_TSegment) (hB : AllH [rdl anyF 6 p_q0 c_q0 L_q0 en_TSegment, dnK anyF E_TSegment.toPart L_q0, bxK b_q0 [.slice p_q0 L_q0.length c_q0] 31, bxK b_q1 [vI q1] 2] w) (G : flow_At_1_m a0 q0 q1 = some r) :
  Calls Tryz.prog 40 #[vI a0, vP b_q0 0, vP b_q1 0] w fun e w' => e = .returned (.bool r) ∧ Below w.heap.size w w' := by
 obtain ⟨fr, hfr⟩ : ∃ fr : Nat → Prop, ∀ j, fr j := ⟨fun _ => True, fun _ => trivial⟩
 have hBf : ∀ j, w.heap.size ≤ j → fr j := fun j _ => hfr j
 refine k_enterF (args := [vI a0, vP b_q0 0, vP b_q1 0]) 12 [(13, rdl anyF 6 p_q0 c_q0 L_q0 en_TSegment), (14, dnK anyF E_TSegment.toPart L_q0), (12, bxK b_q0 [.slice p_q0 L_q0.length c_q0] 31), (15, bxK b_q1 [vI q1] 2)] (by
  intro x hx
  simp only [List.mem_cons, List.not_mem_nil, or_false] at hx
  rcases hx with rfl | rfl | rfl | rfl
  ·exact rdF_fact (rdF_of hB.1) (fun _ _ => trivial) (by decide) _
  ·exact dn_fact (dn_of hB.2.1) (fun _ _ => trivial) _
  ·exact bx_fact (hB.2.2.1 w (agree.refl _ _)) _
  ·exact bx_fact (hB.2.2.2.1 w (agree.refl _ _)) _) Tryz.func40 rfl (by kernel_rfl) (by kernel_rfl) fun a H => ?_
 unfold flow_At_1_m at G
 refine k_seq ?_
 refine k_rg mixed H (.v 4 (.bool false) <| .nil) fun u1 a w' H => ?_
 replace H := H.kp [0, 1, 2, 13, 14, 12, 15]
 refine k_seq ?_
 replace G := gd G; obtain ⟨b3, G⟩ := G
 replace G := bnd G; obtain ⟨t4, ht4, G⟩ := G
 obtain ⟨p_t4_From, c_t4_From, p_t4_Pre, c_t4_Pre, p_t4_Tube, c_t4_Tube, p_t4_To, c_t4_To, y_t4⟩ := get_TSegment h_q0 ht4
 have P5 := ptr_of (en := en_TSegment) (l := L_q0) (rdF_of (H.at (K := rdl anyF 6 p_q0 c_q0 L_q0 en_TSegment) 13 (by kernel_rfl))).2 en_TSegment_len
 refine k_rg mixed H (.cons [5] (ok_ldK (fun u2 => .slice p_q0 L_q0.length c_q0) 5 12 (bxK b_q0 [.slice p_q0 L_q0.length c_q0] 31) b_q0 0 1 [.slice p_q0 L_q0.length c_q0] (fun w h => bx_of h)) <|
   .v 6 (vI a0) <|
   .cons [7] (ok_val (fun u2 => .pointer (some ⟨hdB p_q0, hdO p_q0 + a0.toNat * 6, none⟩)) 7 (hv := fun _ _ => ix_pure (t := 31) (k := .i64) (i := a0) (p := p_q0) (n := L_q0.length) (cap := c_q0) (x := q0) P5 (map_len h_q0) b3 (by kernel_rfl))) <|
   .v 8 (.pointer (some ⟨hdB p_q0, hdO p_q0 + a0.toNat * 6 + 0, none⟩)) <|
   .cons [9] (ok_valL [13] (fun u2 => [rdl anyF 6 p_q0 c_q0 L_q0 en_TSegment]) (fun u2 => vI t4.T) (fun u2 => true) [true] 9 (fun u2 w hg hF => ld_row (en := en_TSegment) (rdF_of hF.1).2 en_TSegment_len y_t4 0 1 [vI t4.T] rfl (by kernel_rfl))) <|
   .cons [10] (ok_ldK (fun u2 => vI q1) 10 15 (bxK b_q1 [vI q1] 2) b_q1 0 1 [vI q1] (fun w h => bx_of h)) <|
   .v 11 (.bool (decide (t4.T > q1))) <|
   .v 4 (.bool (decide (t4.T > q1))) <| .nil) fun u2 a w' H => ?_
 replace H := H.kp [4, 13, 14, 12, 15]
 refine k_ret ?_
 obtain rfl := Option.some.inj G
 exact k_done0 H _ (by kernel_rfl) (by kernel_rfl)
set_option maxHeartbeats 4000000 in
theorem sort_Search_s40.calls (k0 : Nat) (a0 : Int) (a1_0 : List TSegment) (a1_1 : Int) (b_a1_0 : Nat) (p_a1_0 : Option Addr) (c_a1_0 : Nat) (L_a1_0 : List G_TSegment) (b_a1_1 : Nat) (r : Int) (w : World) (h_a1_0 : a1_0 = L_a1_0.map er_TSegment) (hB : AllH [rdl anyF 6 p_a1_0 c_a1_0 L_a1_0 en_TSegment, dnK anyF E_TSegment.toPart L_a1_0, bxK b_a1_0 [.slice p_a1_0 L_a1_0.length c_a1_0] 31, bxK b_a1_1 [vI a1_1] 2] w) (G : sort_Search_s40 k0 a0 a1_0 a1_1 = some r) :
  Calls Tryz.prog 39 #[vI a0, .func (.func 40) #[] #[vP b_a1_0 0, vP b_a1_1 0]] w fun e w' => e = .returned (vI r) ∧ Below w.heap.size w w' := by
 obtain ⟨fr, hfr⟩ : ∃ fr : Nat → Prop, ∀ j, fr j := ⟨fun _ => True, fun _ => trivial⟩
 have hBf : ∀ j, w.heap.size ≤ j → fr j := fun j _ => hfr j
 refine k_enterF (args := [vI a0, .func (.func 40) #[] #[vP b_a1_0 0, vP b_a1_1 0]]) 26 [(27, rdl anyF 6 p_a1_0 c_a1_0 L_a1_0 en_TSegment), (28, dnK anyF E_TSegment.toPart L_a1_0), (26, bxK b_a1_0 [.slice p_a1_0 L_a1_0.length c_a1_0] 31), (29, bxK b_a1_1 [vI a1_1] 2)] (by
  intro x hx
  simp only [List.mem_cons, List.not_mem_nil, or_false] at hx
  rcases hx with rfl | rfl | rfl | rfl
  ·exact rdF_fact (rdF_of hB.1) (fun _ _ => trivial) (by decide) _
  ·exact dn_fact (dn_of hB.2.1) (fun _ _ => trivial) _
  ·exact bx_fact (hB.2.2.1 w (agree.refl _ _)) _
  ·exact bx_fact (hB.2.2.2.1 w (agree.refl _ _)) _) Tryz.func39 rfl (by kernel_rfl) (by kernel_rfl) fun a H => ?_
 unfold sort_Search_s40 at G
 refine k_seq ?_
 refine k_rg mixed H (.v 4 (vI 0) <| .nil) fun u1 a w' H => ?_
 replace H := H.kp [0, 1, 27, 28, 26, 29]
 refine k_seq ?_
 refine k_rg mixed H (.v 8 (vI a0) <|
   .v 5 (vI 0) <|
   .v 6 (vI a0) <| .nil) fun u2 a w' H => ?_
 replace H := H.kp [1, 5, 6, 27, 28, 26, 29]
 refine k_seq ?_
 replace G := bnd G; obtain ⟨j4, hj4, G⟩ := G
 refine k_join (fun a w' => Rep w.heap.size w 26 (ofL [(5, sI j4), (27, rdl anyF 6 p_a1_0 c_a1_0 L_a1_0 en_TSegment), (28, dnK anyF E_TSegment.toPart L_a1_0), (26, bxK b_a1_0 [.slice p_a1_0 L_a1_0.length c_a1_0] 31), (29, bxK b_a1_1 [vI a1_1] 2)]) a w') ?_ ?_
 ·clear H; intro a w' H
  refine k_seq ?_
  refine k_rg mixed H (.v 25 (vI j4) <|
   .v 4 (vI j4) <| .nil) fun u5 a w' H => ?_
  replace H := H.kp [4, 27, 28, 26, 29]
  refine k_ret ?_
  obtain rfl := Option.some.inj G
  exact k_done0 H _ (by kernel_rfl) (by kernel_rfl)
 ·clear G; replace G := hj4; clear hj4
  refine k_block ?_
  refine k_loopJ (fun m a w' => ∃ x6 : Int, ∃ x7 : Int, sort_Search_s40.l8 k0 a0 a1_0 a1_1 m x6 x7 = some j4 ∧ Rep w.heap.size w 26 (ofL [(1, .slot true (.func (.func 40) #[] #[vP b_a1_0 0, vP b_a1_1 0])), (5, sI x6), (6, sI x7), (27, rdl anyF 6 p_a1_0 c_a1_0 L_a1_0 en_TSegment), (28, dnK anyF E_TSegment.toPart L_a1_0), (26, bxK b_a1_0 [.slice p_a1_0 L_a1_0.length c_a1_0] 31), (29, bxK b_a1_1 [vI a1_1] 2)]) a w') k0 ⟨_, _, G, H.toL _ (by kernel_rfl)⟩ ?_
  clear G H
  rintro (_ | k) a w' ⟨x6, x7, G, H⟩
  ·exact absurd G (by unfold sort_Search_s40.l8; exact fun h => by cases h)
  ·unfold sort_Search_s40.l8 at G
   refine k_seq ?_
   refine k_seq ?_
   refine k_rg mixed H (.v 9 (vI x6) <|
   .v 10 (vI x7) <|
   .v 11 (.bool (decide (x6 < x7))) <| .nil) fun u9 a w' H => ?_
   replace H := H.kp [1, 5, 6, 11, 27, 28, 26, 29]
   refine k_cond H (by kernel_rfl) (t := decide (x6 < x7)) (by kernel_rfl) (fun c16 => ?_) (fun c16 => ?_)
   ·rw [if_pos c16] at G
    refine k_skip ?_
    refine k_block ?_
    refine k_seq ?_
    refine k_rg mixed H (.v 12 (vI x6) <|
   .v 13 (vI x7) <|
   .v 14 (vI (w_i64 (x6 + x7))) <|
   .v 15 (.int .u64 (w_u64 (w_i64 (x6 + x7)))) <|
   .v 16 (.int .u64 (Int.fdiv (w_u64 (w_i64 (x6 + x7))) 2)) <|
   .v 17 (vI (w_i64 (Int.fdiv (w_u64 (w_i64 (x6 + x7))) 2))) <|
   .v 7 (vI (w_i64 (Int.fdiv (w_u64 (w_i64 (x6 + x7))) 2))) <| .nil) fun u10 a w' H => ?_
    replace H := H.kp [1, 5, 6, 7, 27, 28, 26, 29]
    refine k_seq ?_
    replace G := bnd G; obtain ⟨t12, ht12, G⟩ := G
    refine k_rg mixed H (.v 18 (.func (.func 40) #[] #[vP b_a1_0 0, vP b_a1_1 0]) <|
   .v 19 (vI (w_i64 (Int.fdiv (w_u64 (w_i64 (x6 + x7))) 2))) <|
   .cons [20] (ok_callL [27, 28, 26, 29] (fun u11 => [rdl anyF 6 p_a1_0 c_a1_0 L_a1_0 en_TSegment, dnK anyF E_TSegment.toPart L_a1_0, bxK b_a1_0 [.slice p_a1_0 L_a1_0.length c_a1_0] 31, bxK b_a1_1 [vI a1_1] 2]) 40 (fun u11 => #[vI (w_i64 (Int.fdiv (w_u64 (w_i64 (x6 + x7))) 2)), vP b_a1_0 0, vP b_a1_1 0]) (.bool t12) 20 (fun u11 w hF => flow_At_1_m.calls (w_i64 (Int.fdiv (w_u64 (w_i64 (x6 + x7))) 2)) a1_0 a1_1 b_a1_0 p_a1_0 c_a1_0 L_a1_0 b_a1_1 t12 w h_a1_0 ⟨(rdA (rdF_of hF.1)), (dnA (dn_of hF.2.1)), (bx_fact (hF.2.2.1 w (agree.refl _ _)) 0).2.1, (bx_fact (hF.2.2.2.1 w (agree.refl _ _)) 0).2.1, trivial⟩ ht12)) <|
   .v 21 (.bool (!t12)) <| .nil) fun u11 a w' H => ?_
    replace H := H.kp [1, 5, 6, 7, 21, 27, 28, 26, 29]
    refine k_cond H (by kernel_rfl) (t := (!t12)) (by kernel_rfl) (fun c15 => ?_) (fun c15 => ?_)
    ·rw [if_pos c15] at G
     refine k_rg mixed H (.v 22 (vI (w_i64 (Int.fdiv (w_u64 (w_i64 (x6 + x7))) 2))) <|
   .v 23 (vI (w_i64 ((w_i64 (Int.fdiv (w_u64 (w_i64 (x6 + x7))) 2)) + 1))) <|
   .v 5 (vI (w_i64 ((w_i64 (Int.fdiv (w_u64 (w_i64 (x6 + x7))) 2)) + 1))) <| .nil) fun u13 a w' H => ?_
     replace H := H.kp [1, 5, 6, 27, 28, 26, 29]
     exact ⟨k, Nat.lt_succ_self k, _, _, G, H.toL _ (by kernel_rfl)⟩
    ·rw [if_neg (nt c15)] at G
     refine k_rg mixed H (.v 24 (vI (w_i64 (Int.fdiv (w_u64 (w_i64 (x6 + x7))) 2))) <|
   .v 6 (vI (w_i64 (Int.fdiv (w_u64 (w_i64 (x6 + x7))) 2))) <| .nil) fun u14 a w' H => ?_
     replace H := H.kp [1, 5, 6, 27, 28, 26, 29]
     exact ⟨k, Nat.lt_succ_self k, _, _, G, H.toL _ (by kernel_rfl)⟩
   ·rw [if_neg (nt c16)] at G
    refine k_exit rfl ?_
    obtain rfl := Option.some.inj G
    exact H.toL _ (by kernel_rfl)
set_option maxHeartbeats 4000000 in
theorem flow_At.calls (k0 : Nat) (a0 : List TSegment) (a1 : Int) (p_a0 : Option Addr) (c_a0 : Nat) (L_a0 : List G_TSegment) (r : List TInterval × Bool) (w : World) (h_a0 : a0 = L_a0.map er_TSegment) (hB : AllH [rdl anyF 6 p_a0 c_a0 L_a0 en_TSegment] w) (hF : AllH [dnK anyF E_TSegment.toPart L_a0] w) (G : flow_At k0 a0 a1 = some r) :
  Calls Tryz.prog 15 #[.slice p_a0 L_a0.length c_a0, vI a1] w fun e w' => ∃ g : Gh, e = .returned (.tuple #[.slice (g.o 0) r.1.length (g.n 0), .bool r.2]) ∧ But (fpK []) w w' ∧ OutOK w.heap.size (fpK []) (frI w.heap.size [dnK anyF E_TSegment.toPart L_a0]) [fun fr => rdF fr 2 (g.o 0) r.1.length (g.n 0) (r.1.flatMap en_TInterval)] w' := by
 obtain ⟨fr, hfr⟩ : ∃ fr : Nat → Prop, fr = frI w.heap.size [dnK anyF E_TSegment.toPart L_a0] := ⟨_, rfl⟩
 have hBf : ∀ j, w.heap.size ≤ j → fr j := fun j h => by rw [hfr]; exact .inl h
 refine k_enterF (args := [.slice p_a0 L_a0.length c_a0, vI a1]) 59 [(59, rdl anyF 6 p_a0 c_a0 L_a0 en_TSegment), (60, dnK fr E_TSegment.toPart L_a0)] (by
  intro x hx
  simp only [List.mem_cons, List.not_mem_nil, or_false] at hx
  rcases hx with rfl | rfl
  ·exact rdF_fact (rdF_of hB.1) (fun _ _ => trivial) (by decide) _
  ·exact dn_fact (dn_of hF.1) (fun j h => by rw [hfr]; exact .inr ⟨_, (.head _), h⟩) _) Tryz.func15 rfl (by kernel_rfl) (by kernel_rfl) fun a H => ?_
 unfold flow_At at G
 refine k_seq ?_
 refine k_rg mixed H (.cons [2, 61] (ok_new (fun b => vP b 0) (fun u1 => [.slice p_a0 L_a0.length c_a0]) 31 2 61) <|
   .cons [3, 62] (ok_new (fun b => vP b 0) (fun u1 => [vI a1]) 2 3 62) <|
   .v 4 (.slice none 0 0) <|
   .v 5 (.bool false) <| .nil) fun u1 a w' H => ?_
 replace H := H.kp [2, 3, 59, 60, 61, 62]
 refine k_seq ?_
 replace G := bnd G; obtain ⟨t3, ht3, G⟩ := G
 refine k_rg mixed H (.cons [11] (ok_ld (fun u2 => .slice p_a0 L_a0.length c_a0) 11 61 0 1 (fun u2 => ((u1 0).n 0)) (fun u2 => [.slice p_a0 L_a0.length c_a0]) 31) <|
   .cons [12, 63] (ok_callY true fr [] [59, 60] (fun u2 => [rdl anyF 6 p_a0 c_a0 L_a0 en_TSegment, dnK fr E_TSegment.toPart L_a0]) [] (fun u2 => []) 28 (fun u2 => #[.slice p_a0 L_a0.length c_a0]) (fun u2 => [rdl anyF 6 p_a0 c_a0 L_a0 en_TSegment]) (fun u2 => [dnK anyF E_TSegment.toPart L_a0]) (fun u2 g => .tuple #[.slice (g.o 0) t3.1.length (g.n 0), vI t3.2.1, .bool t3.2.2]) (fun u2 g => [fun fr => rdF fr 2 (g.o 0) t3.1.length (g.n 0) (t3.1.flatMap en_TInterval)]) [63] 12 (fun u2 w hB hF hM => flow_End.calls a0 p_a0 c_a0 L_a0 t3 w h_a0 hB hF ht3) (fun u2 w hF => ⟨⟨sub_rd0 (rdF_of hF.1) (fun j h => ⟨_, (.head _), h⟩), trivial⟩, ⟨sub_dn1 (dn_of hF.2.1) (fun j h => ff_of (.tail _ (.head _)) (fun h => h) h (dn_fr hF.2.1 _ h)), trivial⟩⟩) (fun u2 g => (fams_cons (fam_rd (by decide)) fams_nil)) (.inl rfl) (fun _ => hBf)) <|
   .cons [10] (ok_val (fun u2 => .tuple #[.slice ((u2 1).o 0) t3.1.length ((u2 1).n 0), vI t3.2.1, .bool t3.2.2]) 10) <|
   .cons [13] (ok_val (fun u2 => .slice ((u2 1).o 0) t3.1.length ((u2 1).n 0)) 13) <|
   .v 14 (vI t3.2.1) <|
   .v 15 (.bool t3.2.2) <|
   .cons [6] (ok_val (fun u2 => .slice ((u2 1).o 0) t3.1.length ((u2 1).n 0)) 6) <|
   .v 7 (vI t3.2.1) <|
   .v 8 (.bool t3.2.2) <| .nil) fun u2 a w' H => ?_
 replace H := H.kp [2, 3, 6, 7, 8, 59, 60, 61, 62, 63]
 refine k_seq ?_
 refine k_seq ?_
 replace G := bnd G; obtain ⟨z5, hz5, G⟩ := G
 replace hz5 := Option.some.inj hz5
 by_cases c27 : z5 = true
 ·rw [if_pos c27] at G; subst c27
  refine k_rg mixed H (.v 16 (.bool t3.2.2) <|
   .v 17 (.bool (!t3.2.2)) <|
   .cons [18] (ok_as (u' := fun u4 => [(18, sB true)]) (ok_val (fun u4 => .bool (!t3.2.2)) 18) (fun _ => by rw [hz5])) <|
   .cons [19] (ok_offB 19) <|
   .cons [20] (ok_offB 20) <|
   .cons [21] (ok_offB 21) <|
   .cons [22] (ok_offB 22) <|
   .cons [23] (ok_offB 23) <|
   .cons [24] (ok_offB 24) <|
   .cons [25] (ok_pickK (fun u4 => .bool true) 25) <|
   .v 26 (.bool true) <|
   .cons [27] (ok_offB 27) <|
   .cons [28] (ok_offB 28) <|
   .cons [29] (ok_offB 29) <|
   .cons [30] (ok_pickK (fun u4 => .bool true) 30) <| .nil) fun u4 a w' H => ?_
  replace H := H.kp [2, 3, 6, 7, 30, 59, 60, 61, 62, 63]
  refine k_cond_true H (by kernel_rfl) (by kernel_rfl) ?_
  refine k_seq ?_
  refine k_rg mixed H (.v 4 (.slice none 0 0) <|
   .v 5 (.bool false) <| .nil) fun u6 a w' H => ?_
  replace H := H.kp [4, 5]
  refine k_ret ?_
  obtain rfl := Option.some.inj G
  replace H := H.nil_row 64 46 2
  replace H := H.demote fr 64 46 2 none 0 0 (([] : List TInterval).flatMap en_TInterval) (by kernel_rfl) (by decide) hBf
  obtain ⟨g, o0, n0⟩ : ∃ g : Gh, g.o 0 = none ∧ g.n 0 = 0 := ⟨⟨fun i => [0].getD i 0, fun i => [none].getD i none, fun i => ([⟨Unit, ()⟩] : List ((T : Type) × T)).getD i ⟨Unit, ()⟩⟩, rfl, rfl⟩
  refine k_doneZ H (fun g => .tuple #[.slice (g.o 0) (([] : List TInterval).length) (g.n 0), .bool false]) g [] [dnK anyF E_TSegment.toPart L_a0] (fun g => [fun fr => rdF fr 2 (g.o 0) (([] : List TInterval).length) (g.n 0) (([] : List TInterval).flatMap en_TInterval)]) fr [64] [] (.tuple #[.slice none 0 0, .bool false]) [fun fr => rdF fr 2 none 0 0 (([] : List TInterval).flatMap en_TInterval)] (by simp only [o0, n0, List.length_set, List.length_cons, List.length_nil, Nat.zero_add, Nat.reduceAdd]) (by simp only [o0, n0, List.length_set, List.length_cons, List.length_nil, Nat.zero_add, Nat.reduceAdd]) hfr (.inl ⟨rfl, rfl⟩) (fams_cons (fam_rd (by decide)) fams_nil) (by simp)
 rw [if_neg c27] at G
 by_cases c28 : z5 = false
 ·rw [if_pos c28] at G; subst c28
  replace G := gd G; obtain ⟨b6, G⟩ := G
  replace G := bnd G; obtain ⟨t7, ht7, G⟩ := G
  obtain ⟨p_t7_From, c_t7_From, p_t7_Pre, c_t7_Pre, p_t7_Tube, c_t7_Tube, p_t7_To, c_t7_To, y_t7⟩ := get_TSegment h_a0 ht7
  have P8 := ptr_of (en := en_TSegment) (l := L_a0) (rdF_of (H.at (K := rdl anyF 6 p_a0 c_a0 L_a0 en_TSegment) 59 (by kernel_rfl))).2 en_TSegment_len
  refine k_rg mixed H (.v 16 (.bool t3.2.2) <|
   .v 17 (.bool (!t3.2.2)) <|
   .cons [18] (ok_as (u' := fun u4 => [(18, sB false)]) (ok_val (fun u4 => .bool (!t3.2.2)) 18) (fun _ => by rw [hz5])) <|
   .cons [19] (ok_gd (ok_ld (fun u4 => vI a1) 19 62 0 1 (fun u4 => ((u1 1).n 0)) (fun u4 => [vI a1]) 2) (by intro _; kernel_rfl)) <|
   .cons [20] (ok_gd (ok_ld (fun u4 => .slice p_a0 L_a0.length c_a0) 20 61 0 1 (fun u4 => ((u1 0).n 0)) (fun u4 => [.slice p_a0 L_a0.length c_a0]) 31) (by intro _; kernel_rfl)) <|
   .cons [21] (ok_gd (ok_val (fun u4 => .pointer (some ⟨hdB p_a0, hdO p_a0 + ((0 : Int).toNat) * 6, none⟩)) 21 (hv := fun _ _ => ix_pure (t := 31) (k := .i64) (i := (0 : Int)) (p := p_a0) (n := L_a0.length) (cap := c_a0) (x := a0) P8 (map_len h_a0) b6 (by kernel_rfl))) (by intro _; kernel_rfl)) <|
   .cons [22] (ok_gd (ok_val (fun u4 => .pointer (some ⟨hdB p_a0, hdO p_a0 + ((0 : Int).toNat) * 6 + 0, none⟩)) 22) (by intro _; kernel_rfl)) <|
   .cons [23] (ok_gd (ok_valL [59] (fun u4 => [rdl anyF 6 p_a0 c_a0 L_a0 en_TSegment]) (fun u4 => vI t7.T) (fun u4 => true) [true] 23 (fun u4 w hg hF => ld_row (en := en_TSegment) (rdF_of hF.1).2 en_TSegment_len y_t7 0 1 [vI t7.T] rfl (by kernel_rfl))) (by intro _; kernel_rfl)) <|
   .cons [24] (ok_gd (ok_val (fun u4 => .bool (decide (a1 < t7.T))) 24) (by intro _; kernel_rfl)) <|
   .cons [25] (ok_pickK (fun u4 => .bool (decide (a1 < t7.T))) 25) <|
   .v 26 (.bool (decide (a1 < t7.T))) <|
   .cons [27] (ok_ldg (fun u4 => vI a1) (fun u4 => ((decide (a1 < t7.T)) == false)) [true] 27 62 0 1 (fun u4 => ((u1 1).n 0)) (fun u4 => [vI a1]) 2) <|
   .cons [28] (ok_valg (fun u4 => vI t3.2.1) (fun u4 => ((decide (a1 < t7.T)) == false)) [true] 28) <|
   .cons [29] (ok_valg (fun u4 => .bool (decide (a1 > t3.2.1))) (fun u4 => ((decide (a1 < t7.T)) == false)) [false, false] 29) <|
   .cons [30] (ok_or 26 29 (fun u4 => true) (fun u4 => true) (fun u4 => decide (a1 < t7.T)) (fun u4 => decide (a1 > t3.2.1)) 30) <| .nil) fun u4 a w' H => ?_
  replace H := H.kp [2, 3, 6, 7, 30, 59, 60, 61, 62, 63]
  refine k_cond H (by kernel_rfl) (t := ((decide (a1 < t7.T)) || (decide (a1 > t3.2.1)))) (by kernel_rfl) (fun c26 => ?_) (fun c26 => ?_)
  ·rw [if_pos c26] at G
   refine k_seq ?_
   refine k_rg mixed H (.v 4 (.slice none 0 0) <|
   .v 5 (.bool false) <| .nil) fun u9 a w' H => ?_
   replace H := H.kp [4, 5]
   refine k_ret ?_
   obtain rfl := Option.some.inj G
   replace H := H.nil_row 64 46 2
   replace H := H.demote fr 64 46 2 none 0 0 (([] : List TInterval).flatMap en_TInterval) (by kernel_rfl) (by decide) hBf
   obtain ⟨g, o0, n0⟩ : ∃ g : Gh, g.o 0 = none ∧ g.n 0 = 0 := ⟨⟨fun i => [0].getD i 0, fun i => [none].getD i none, fun i => ([⟨Unit, ()⟩] : List ((T : Type) × T)).getD i ⟨Unit, ()⟩⟩, rfl, rfl⟩
   refine k_doneZ H (fun g => .tuple #[.slice (g.o 0) (([] : List TInterval).length) (g.n 0), .bool false]) g [] [dnK anyF E_TSegment.toPart L_a0] (fun g => [fun fr => rdF fr 2 (g.o 0) (([] : List TInterval).length) (g.n 0) (([] : List TInterval).flatMap en_TInterval)]) fr [64] [] (.tuple #[.slice none 0 0, .bool false]) [fun fr => rdF fr 2 none 0 0 (([] : List TInterval).flatMap en_TInterval)] (by simp only [o0, n0, List.length_set, List.length_cons, List.length_nil, Nat.zero_add, Nat.reduceAdd]) (by simp only [o0, n0, List.length_set, List.length_cons, List.length_nil, Nat.zero_add, Nat.reduceAdd]) hfr (.inl ⟨rfl, rfl⟩) (fams_cons (fam_rd (by decide)) fams_nil) (by simp)
  ·rw [if_neg (nt c26)] at G
   refine k_skip ?_
   refine k_seq ?_
   replace G := bnd G; obtain ⟨t11, ht11, G⟩ := G
   refine k_rg mixed H (.cons [31] (ok_ld (fun u10 => .slice p_a0 L_a0.length c_a0) 31 61 0 1 (fun u10 => ((u1 0).n 0)) (fun u10 => [.slice p_a0 L_a0.length c_a0]) 31) <|
   .cons [32] (ok_valL [59] (fun u10 => [rdl anyF 6 p_a0 c_a0 L_a0 en_TSegment]) (fun u10 => vI (a0.length : Int)) (fun u10 => true) [true] 32 (fun u10 w hg hF => run_lenN (((rdF_of hF.1).2.len en_TSegment_len (by decide)).trans (map_len h_a0).symm) (by kernel_rfl))) <|
   .v 33 (.func (.func 40) #[] #[vP ((u1 0).n 0) 0, vP ((u1 1).n 0) 0]) <|
   .cons [34] (ok_callL [59, 60, 61, 62] (fun u10 => [rdl anyF 6 p_a0 c_a0 L_a0 en_TSegment, dnK fr E_TSegment.toPart L_a0, .blk ((u1 0).n 0) [.slice p_a0 L_a0.length c_a0] 31, .blk ((u1 1).n 0) [vI a1] 2]) 39 (fun u10 => #[vI (a0.length : Int), .func (.func 40) #[] #[vP ((u1 0).n 0) 0, vP ((u1 1).n 0) 0]]) (vI t11) 34 (fun u10 w hF => sort_Search_s40.calls k0 (a0.length : Int) a0 a1 ((u1 0).n 0) p_a0 c_a0 L_a0 ((u1 1).n 0) t11 w h_a0 ⟨(rdA (rdF_of hF.1)), (dnA (dn_of hF.2.1)), (bx_fact hF.2.2.1 0).2.1, (bx_fact hF.2.2.2.1 0).2.1, trivial⟩ ht11)) <|
   .v 35 (vI (w_i64 (t11 - 1))) <|
   .v 9 (vI (w_i64 (t11 - 1))) <| .nil) fun u10 a w' H => ?_
   replace H := H.kp [2, 3, 6, 7, 9, 59, 60, 61, 62, 63]
   refine k_seq ?_
   refine k_block ?_
   refine k_seq ?_
   replace G := gd G; obtain ⟨b13, G⟩ := G
   replace G := bnd G; obtain ⟨t14, ht14, G⟩ := G
   obtain ⟨p_t14_From, c_t14_From, p_t14_Pre, c_t14_Pre, p_t14_Tube, c_t14_Tube, p_t14_To, c_t14_To, y_t14⟩ := get_TSegment h_a0 ht14
   have P15 := ptr_of (en := en_TSegment) (l := L_a0) (rdF_of (H.at (K := rdl anyF 6 p_a0 c_a0 L_a0 en_TSegment) 59 (by kernel_rfl))).2 en_TSegment_len
   refine k_rg mixed H (.cons [37] (ok_ld (fun u12 => .slice p_a0 L_a0.length c_a0) 37 61 0 1 (fun u12 => ((u1 0).n 0)) (fun u12 => [.slice p_a0 L_a0.length c_a0]) 31) <|
   .v 38 (vI (w_i64 (t11 - 1))) <|
   .cons [39] (ok_val (fun u12 => .pointer (some ⟨hdB p_a0, hdO p_a0 + ((w_i64 (t11 - 1)).toNat) * 6, none⟩)) 39 (hv := fun _ _ => ix_pure (t := 31) (k := .i64) (i := w_i64 (t11 - 1)) (p := p_a0) (n := L_a0.length) (cap := c_a0) (x := a0) P15 (map_len h_a0) b13 (by kernel_rfl))) <|
   .v 40 (.pointer (some ⟨hdB p_a0, hdO p_a0 + ((w_i64 (t11 - 1)).toNat) * 6 + 0, none⟩)) <|
   .cons [41] (ok_valL [59] (fun u12 => [rdl anyF 6 p_a0 c_a0 L_a0 en_TSegment]) (fun u12 => vI t14.T) (fun u12 => true) [true] 41 (fun u12 w hg hF => ld_row (en := en_TSegment) (rdF_of hF.1).2 en_TSegment_len y_t14 0 1 [vI t14.T] rfl (by kernel_rfl))) <|
   .cons [42] (ok_ld (fun u12 => vI a1) 42 62 0 1 (fun u12 => ((u1 1).n 0)) (fun u12 => [vI a1]) 2) <|
   .v 43 (.bool (t14.T == a1)) <|
   .v 36 (.bool (t14.T == a1)) <| .nil) fun u12 a w' H => ?_
   replace H := H.kp [2, 3, 6, 7, 9, 36, 59, 60, 61, 62, 63]
   refine k_cond H (by kernel_rfl) (t := (t14.T == a1)) (by kernel_rfl) (fun c25 => ?_) (fun c25 => ?_)
   ·rw [if_pos c25] at G
    refine k_seq ?_
    replace G := gd G; obtain ⟨b17, G⟩ := G
    replace G := bnd G; obtain ⟨t18, ht18, G⟩ := G
    obtain ⟨p_t18_From, c_t18_From, p_t18_Pre, c_t18_Pre, p_t18_Tube, c_t18_Tube, p_t18_To, c_t18_To, y_t18⟩ := get_TSegment h_a0 ht18
    refine k_rg mixed H (.cons [44] (ok_ld (fun u16 => .slice p_a0 L_a0.length c_a0) 44 61 0 1 (fun u16 => ((u1 0).n 0)) (fun u16 => [.slice p_a0 L_a0.length c_a0]) 31) <|
   .v 45 (vI (w_i64 (t11 - 1))) <|
   .cons [46] (ok_valL [59] (fun u16 => [rdl anyF 6 p_a0 c_a0 L_a0 en_TSegment]) (fun u16 => .pointer (some ⟨hdB p_a0, hdO p_a0 + ((w_i64 (t11 - 1)).toNat) * 6, none⟩)) (fun u16 => true) [true, true] 46 (fun u16 w hg hF => ix_row (t := 31) (k := .i64) (i := w_i64 (t11 - 1)) (p := p_a0) (n := L_a0.length) (cap := c_a0) (x := a0) (en := en_TSegment) (rdF_of hF.1).2 en_TSegment_len (map_len h_a0) b17 (by kernel_rfl))) <|
   .v 47 (.pointer (some ⟨hdB p_a0, hdO p_a0 + ((w_i64 (t11 - 1)).toNat) * 6 + 2, none⟩)) <|
   .cons [48] (ok_valL [59] (fun u16 => [rdl anyF 6 p_a0 c_a0 L_a0 en_TSegment]) (fun u16 => .slice p_t18_From t18.From.length c_t18_From) (fun u16 => true) [true] 48 (fun u16 w hg hF => ld_row (en := en_TSegment) (rdF_of hF.1).2 en_TSegment_len y_t18 2 1 [.slice p_t18_From t18.From.length c_t18_From] rfl (by kernel_rfl))) <|
   .v 4 (.slice p_t18_From t18.From.length c_t18_From) <|
   .v 5 (.bool true) <| .nil) fun u16 a w' H => ?_
    replace H := H.toM [(4, sS p_t18_From t18.From.length c_t18_From), (5, sB true), (60, dnK fr E_TSegment.toPart L_a0)]
    refine k_ret ?_
    obtain rfl := Option.some.inj G
    replace H := H.addF 65 (rdl fr 2 p_t18_From c_t18_From t18.From en_TInterval) [60] [dnK fr E_TSegment.toPart L_a0] (by kernel_rfl) (fun h => h) (by intro _ _ h; cases h) (fun hF => (rdF_fact (show RowC _ 2 p_t18_From t18.From.length c_t18_From (t18.From.flatMap en_TInterval) from ((dn_of hF.1) _ (List.mem_of_getElem? y_t18)).1.1) (fun j h => (dn_fr hF.1 _ ⟨_, (List.mem_of_getElem? y_t18), (.inl (.inl h))⟩)) (by decide) 0).2.1) (fun hF j h => ⟨_, .head _, (fun h => h), ⟨_, (List.mem_of_getElem? y_t18), (.inl (.inl h))⟩⟩)
    obtain ⟨g, o0, n0⟩ : ∃ g : Gh, g.o 0 = p_t18_From ∧ g.n 0 = c_t18_From := ⟨⟨fun i => [c_t18_From].getD i 0, fun i => [p_t18_From].getD i none, fun i => ([⟨Unit, ()⟩] : List ((T : Type) × T)).getD i ⟨Unit, ()⟩⟩, rfl, rfl⟩
    refine k_doneZ H (fun g => .tuple #[.slice (g.o 0) t18.From.length (g.n 0), .bool true]) g [] [dnK anyF E_TSegment.toPart L_a0] (fun g => [fun fr => rdF fr 2 (g.o 0) t18.From.length (g.n 0) (t18.From.flatMap en_TInterval)]) fr [65] [] (.tuple #[.slice p_t18_From t18.From.length c_t18_From, .bool true]) [fun fr => rdl fr 2 p_t18_From c_t18_From t18.From en_TInterval] (by simp only [o0, n0]) (by simp only [o0, n0]) hfr (.inl ⟨rfl, rfl⟩) (fams_cons (fam_rd (by decide)) fams_nil) (by simp)
   ·rw [if_neg (nt c25)] at G
    refine k_seq ?_
    refine k_rg mixed H (.cons [50] (ok_ld (fun u19 => vI a1) 50 62 0 1 (fun u19 => ((u1 1).n 0)) (fun u19 => [vI a1]) 2) <|
   .v 51 (vI t3.2.1) <|
   .v 52 (.bool (a1 == t3.2.1)) <|
   .v 49 (.bool (a1 == t3.2.1)) <| .nil) fun u19 a w' H => ?_
    replace H := H.kp [2, 6, 9, 49, 59, 60, 61, 63]
    refine k_cond H (by kernel_rfl) (t := (a1 == t3.2.1)) (by kernel_rfl) (fun c24 => ?_) (fun c24 => ?_)
    ·rw [if_pos c24] at G
     refine k_seq ?_
     refine k_rg mixed H (.v 53 (.slice ((u2 1).o 0) t3.1.length ((u2 1).n 0)) <|
   .v 4 (.slice ((u2 1).o 0) t3.1.length ((u2 1).n 0)) <|
   .v 5 (.bool true) <| .nil) fun u20 a w' H => ?_
     replace H := H.kp [4, 5, 63]
     refine k_ret ?_
     obtain rfl := Option.some.inj G
     obtain ⟨g, o0, n0⟩ : ∃ g : Gh, g.o 0 = ((u2 1).o 0) ∧ g.n 0 = ((u2 1).n 0) := ⟨⟨fun i => [((u2 1).n 0)].getD i 0, fun i => [((u2 1).o 0)].getD i none, fun i => ([⟨Unit, ()⟩] : List ((T : Type) × T)).getD i ⟨Unit, ()⟩⟩, rfl, rfl⟩
     refine k_doneZ H (fun g => .tuple #[.slice (g.o 0) t3.1.length (g.n 0), .bool true]) g [] [dnK anyF E_TSegment.toPart L_a0] (fun g => [fun fr => rdF fr 2 (g.o 0) t3.1.length (g.n 0) (t3.1.flatMap en_TInterval)]) fr [63] [] (.tuple #[.slice ((u2 1).o 0) t3.1.length ((u2 1).n 0), .bool true]) [fun fr => rdF fr 2 ((u2 1).o 0) t3.1.length ((u2 1).n 0) (t3.1.flatMap en_TInterval)] (by simp only [o0, n0]) (by simp only [o0, n0]) hfr (.inl ⟨rfl, rfl⟩) (fams_cons (fam_rd (by decide)) fams_nil) (by simp)
    ·rw [if_neg (nt c24)] at G
     refine k_skip ?_
     refine k_seq ?_
     replace G := gd G; obtain ⟨b22, G⟩ := G
     replace G := bnd G; obtain ⟨t23, ht23, G⟩ := G
     obtain ⟨p_t23_From, c_t23_From, p_t23_Pre, c_t23_Pre, p_t23_Tube, c_t23_Tube, p_t23_To, c_t23_To, y_t23⟩ := get_TSegment h_a0 ht23
     refine k_rg mixed H (.cons [54] (ok_ld (fun u21 => .slice p_a0 L_a0.length c_a0) 54 61 0 1 (fun u21 => ((u1 0).n 0)) (fun u21 => [.slice p_a0 L_a0.length c_a0]) 31) <|
   .v 55 (vI (w_i64 (t11 - 1))) <|
   .cons [56] (ok_valL [59] (fun u21 => [rdl anyF 6 p_a0 c_a0 L_a0 en_TSegment]) (fun u21 => .pointer (some ⟨hdB p_a0, hdO p_a0 + ((w_i64 (t11 - 1)).toNat) * 6, none⟩)) (fun u21 => true) [true, true] 56 (fun u21 w hg hF => ix_row (t := 31) (k := .i64) (i := w_i64 (t11 - 1)) (p := p_a0) (n := L_a0.length) (cap := c_a0) (x := a0) (en := en_TSegment) (rdF_of hF.1).2 en_TSegment_len (map_len h_a0) b22 (by kernel_rfl))) <|
   .v 57 (.pointer (some ⟨hdB p_a0, hdO p_a0 + ((w_i64 (t11 - 1)).toNat) * 6 + 4, none⟩)) <|
   .cons [58] (ok_valL [59] (fun u21 => [rdl anyF 6 p_a0 c_a0 L_a0 en_TSegment]) (fun u21 => .slice p_t23_Tube t23.Tube.length c_t23_Tube) (fun u21 => true) [true] 58 (fun u21 w hg hF => ld_row (en := en_TSegment) (rdF_of hF.1).2 en_TSegment_len y_t23 4 1 [.slice p_t23_Tube t23.Tube.length c_t23_Tube] rfl (by kernel_rfl))) <|
   .v 4 (.slice p_t23_Tube t23.Tube.length c_t23_Tube) <|
   .v 5 (.bool true) <| .nil) fun u21 a w' H => ?_
     replace H := H.kp [4, 5, 60]
     refine k_ret ?_
     obtain rfl := Option.some.inj G
     replace H := H.addF 66 (rdl fr 2 p_t23_Tube c_t23_Tube t23.Tube en_TInterval) [60] [dnK fr E_TSegment.toPart L_a0] (by kernel_rfl) (fun h => h) (by intro _ _ h; cases h) (fun hF => (rdF_fact (show RowC _ 2 p_t23_Tube t23.Tube.length c_t23_Tube (t23.Tube.flatMap en_TInterval) from ((dn_of hF.1) _ (List.mem_of_getElem? y_t23)).2.2.1.1) (fun j h => (dn_fr hF.1 _ ⟨_, (List.mem_of_getElem? y_t23), (.inr (.inr (.inl (.inl h))))⟩)) (by decide) 0).2.1) (fun hF j h => ⟨_, .head _, (fun h => h), ⟨_, (List.mem_of_getElem? y_t23), (.inr (.inr (.inl (.inl h))))⟩⟩)
     obtain ⟨g, o0, n0⟩ : ∃ g : Gh, g.o 0 = p_t23_Tube ∧ g.n 0 = c_t23_Tube := ⟨⟨fun i => [c_t23_Tube].getD i 0, fun i => [p_t23_Tube].getD i none, fun i => ([⟨Unit, ()⟩] : List ((T : Type) × T)).getD i ⟨Unit, ()⟩⟩, rfl, rfl⟩
     refine k_doneZ H (fun g => .tuple #[.slice (g.o 0) t23.Tube.length (g.n 0), .bool true]) g [] [dnK anyF E_TSegment.toPart L_a0] (fun g => [fun fr => rdF fr 2 (g.o 0) t23.Tube.length (g.n 0) (t23.Tube.flatMap en_TInterval)]) fr [66] [] (.tuple #[.slice p_t23_Tube t23.Tube.length c_t23_Tube, .bool true]) [fun fr => rdl fr 2 p_t23_Tube c_t23_Tube t23.Tube en_TInterval] (by simp only [o0, n0]) (by simp only [o0, n0]) hfr (.inl ⟨rfl, rfl⟩) (fams_cons (fam_rd (by decide)) fams_nil) (by simp)
 rw [if_neg c28] at G
 cases G
set_option maxHeartbeats 4000000 in
theorem armillarytop_integer.calls (a0 : Int) (r : TInterval) (w : World) (G : armillarytop_integer a0 = some r) :
  Calls Tryz.prog 27 #[vI a0] w fun e w' => e = .returned (.agg #[vI r.Lo, vI r.Hi]) ∧ Below w.heap.size w w' := by
 refine k_enter (args := [vI a0]) 8 Tryz.func27 rfl (by kernel_rfl) (by kernel_rfl) fun a H => ?_
 unfold armillarytop_integer at G
 refine k_seq ?_
 refine k_rg mixed H (.cons [2, 8] (ok_new (fun b => vP b 0) (fun u1 => [vI 0, vI 0]) 46 2 8) <| .nil) fun u1 a w' H => ?_
 replace H := H.kp [0, 2, 8]
 refine k_seq ?_
 refine k_rg mixed H (.v 3 (vI a0) <|
   .v 4 (vI (w_i64 (a0 * 65536))) <|
   .v 5 (vI a0) <|
   .v 6 (vI (w_i64 (a0 * 65536))) <|
   .v 7 (.agg #[vI (w_i64 (a0 * 65536)), vI (w_i64 (a0 * 65536))]) <|
   .cons [8] (ok_as (u' := fun u2 => [(8, .blk ((u1 0).n 0) [vI (w_i64 (a0 * 65536)), vI (w_i64 (a0 * 65536))] 46)]) (ok_store 8 0 (fun u2 => ((u1 0).n 0)) (fun u2 => [vI 0, vI 0]) (fun u2 => [vI (w_i64 (a0 * 65536)), vI (w_i64 (a0 * 65536))]) 46) (fun _ => by kernel_rfl)) <| .nil) fun u2 a w' H => ?_
 replace H := H.kp [2, 8]
 refine k_ret ?_
 obtain rfl := Option.some.inj G
 exact k_done1 H _ 8 ((u1 0).n 0) [vI (w_i64 (a0 * 65536)), vI (w_i64 (a0 * 65536))] 46 0 2 (by kernel_rfl) (by kernel_rfl) (by kernel_rfl) (by kernel_rfl)
set_option maxHeartbeats 4000000 in
theorem armillarytop_sanity14.calls (k0 : Nat)  (r : Bool) (w : World) (hg : Glob w) (G : armillarytop_sanity14 k0 = some r) :
  Calls Tryz.prog 9 #[] w fun e w' => e = .returned (.bool r) ∧ Below w.heap.size w w' := by
 obtain ⟨fr, hfr⟩ : ∃ fr : Nat → Prop, ∀ j, fr j := ⟨fun _ => True, fun _ => trivial⟩
 have hBf : ∀ j, w.heap.size ≤ j → fr j := fun j _ => hfr j
 refine k_enterG (args := []) 63 999999 globFp Glob (glob_local hg) (glob_in hg) Tryz.func9 rfl (by kernel_rfl) (by kernel_rfl) fun a H => ?_
 unfold armillarytop_sanity14 at G
 refine k_seq ?_
 refine k_rg mixed H (.v 0 (.bool false) <| .nil) fun u1 a w' H => ?_
 replace H := H.kp [999999]
 refine k_seq ?_
 replace G := bnd G; obtain ⟨t3, ht3, G⟩ := G
 replace G := bnd G; obtain ⟨t4, ht4, G⟩ := G
 replace G := bnd G; obtain ⟨t5, ht5, G⟩ := G
 replace G := bnd G; obtain ⟨t6, ht6, G⟩ := G
 replace G := bnd G; obtain ⟨t7, ht7, G⟩ := G
 replace G := bnd G; obtain ⟨t8, ht8, G⟩ := G
 refine k_rg mixed H (.cons [9] (ok_callv 27 (fun u2 => #[vI 2]) (.agg #[vI t3.Lo, vI t3.Hi]) 9 [] (fun u2 w _ => armillarytop_integer.calls 2  t3 w  ht3)) <|
   .cons [10, 63, 64] (ok_callY false fr [] [] (fun u2 => []) [] (fun u2 => []) 13 (fun u2 => #[.agg #[vI t3.Lo, vI t3.Hi]]) (fun u2 => []) (fun u2 => []) (fun u2 g => .agg #[.slice (g.o 0) t4.Names.length (g.n 0), .slice (g.o 1) ((g.dl Sl.l gd_S_TNode 1 t4.F).length) (g.n 1)]) (fun u2 g => [fun _ => owK 9 1 (g.o 0) t4.Names.length (g.n 0) (t4.Names.flatMap en_str), fun _ => nsK 59 61 4 en_TNode (g.o 1) ((g.dl Sl.l gd_S_TNode 1 t4.F).length) (g.n 1) (g.dl Sl.l gd_S_TNode 1 t4.F) (g.dl Sl.l gd_S_TNode 1 t4.F)]) [63, 64] 10 (fun u2 w hB hF hM => armillarytop_drift.calls t3  t4 w  ht4) (fun u2 w hF => ⟨trivial, trivial⟩) (fun u2 g => (fams_cons fam_ow (fams_cons fam_ns fams_nil))) (.inr (fun u2 g => (famx_cons trivial (famx_cons trivial (fun K h => by cases h))))) (fun h => by cases h)) <|
   .cons [11, 65, 66] (ok_callY false fr [1] [63, 64] (fun u2 => [owK 9 1 ((u2 1).o 0) t4.Names.length ((u2 1).n 0) (t4.Names.flatMap en_str), nsK 59 61 4 en_TNode ((u2 1).o 1) (((u2 1).dl Sl.l gd_S_TNode 1 t4.F).length) ((u2 1).n 1) ((u2 1).dl Sl.l gd_S_TNode 1 t4.F) ((u2 1).dl Sl.l gd_S_TNode 1 t4.F)]) [] (fun u2 => []) 12 (fun u2 => #[.agg #[.slice ((u2 1).o 0) t4.Names.length ((u2 1).n 0), .slice ((u2 1).o 1) (((u2 1).dl Sl.l gd_S_TNode 1 t4.F).length) ((u2 1).n 1)]]) (fun u2 => [rdF anyF 1 ((u2 1).o 0) t4.Names.length ((u2 1).n 0) (t4.Names.flatMap en_str), rdF anyF 1 ((u2 1).o 1) (((u2 1).dl Sl.l gd_S_TNode 1 t4.F).length) ((u2 1).n 1) (((u2 1).dl Sl.l gd_S_TNode 1 t4.F).flatMap enSl), dnK anyF E_S_TNode.toPart ((u2 1).dl Sl.l gd_S_TNode 1 t4.F)]) (fun u2 => []) (fun u2 g => .agg #[vI t5.N, .slice (g.o 0) t5.L.length (g.n 0), .slice (g.o 1) t5.Out.length (g.n 1)]) (fun u2 g => [fun _ => owK 110 5 (g.o 0) t5.L.length (g.n 0) (t5.L.flatMap en_TInstruction), fun _ => owK 3 1 (g.o 1) t5.Out.length (g.n 1) (t5.Out.flatMap en_i64)]) [65, 66] 11 (fun u2 w hB hF hM => tape_Compile.calls k0 t4 ((u2 1).o 0) ((u2 1).n 0) ((u2 1).o 1) ((u2 1).n 1) ((u2 1).dl Sl.l gd_S_TNode 1 t4.F) t5 w (dl_er ergd_S_TNode (u2 1) 1 t4.F) hB ht5) (fun u2 w hF => ⟨⟨sub_rd0 (owns_rowC (ow_of hF.1)) (fun j h => ⟨_, (.head _), (fp_own h)⟩), sub_rd0 (ns_of hF.2.1).row (fun j h => ⟨_, (.tail _ (.head _)), (ns_fpH h)⟩), sub_dn0 (ns_of hF.2.1).all (fun j h => ⟨_, (.tail _ (.head _)), (ns_fpA h)⟩), trivial⟩, trivial⟩) (fun u2 g => (fams_cons fam_ow (fams_cons fam_ow fams_nil))) (.inr (fun u2 g => (famx_cons trivial (famx_cons trivial (fun K h => by cases h))))) (fun h => by cases h) (hloc := fun u u' h => ⟨by first | rfl | simp only [h 1 (by decide)], by first | rfl | simp only [h 1 (by decide)], by first | rfl | simp only [h 1 (by decide)], by first | rfl | simp only [h 1 (by decide)], by first | rfl | simp only [h 1 (by decide)], by first | rfl | simp only [h 1 (by decide)]⟩)) <|
   .cons [12] (ok_callv 27 (fun u2 => #[vI 1]) (.agg #[vI t6.Lo, vI t6.Hi]) 12 [] (fun u2 w _ => armillarytop_integer.calls 1  t6 w  ht6)) <|
   .cons [13, 67, 67] (ok_post (fun u2 => [(67, rdF fr 2 (some ⟨((u2 4).n 0), 0, none⟩) 1 1 (([t6] : List TInterval).flatMap en_TInterval))]) (ok_blkrow 2 1 (ok_new (fun b => .slice (some ⟨b, 0, none⟩) 1 1) (fun u2 => [vI t6.Lo, vI t6.Hi]) 46 13 67) (fun _ => rfl) (by decide)) (fun u2 S a w H => H.demote fr 67 46 2 (some ⟨((u2 4).n 0), 0, none⟩) 1 1 (([t6] : List TInterval).flatMap en_TInterval) (by kernel_rfl) (by decide) hBf)) <|
   .cons [14] (ok_callv 10 (fun u2 => #[.int .u8 2, .int .i8 0, .int .u8 31]) (.agg #[vI t7.Ctrl.Order, vI t7.Ctrl.First, vI t7.Ctrl.Least, vI t7.Ctrl.Most, vI t7.Ctrl.Wide, vI t7.T, vI t7.Last]) 14 [] (fun u2 w _ => armillarytop_horizon14.calls 2 0 31  t7 w  ht7)) <|
   .cons [15, 68, 69] (ok_callY true fr [2, 4] [65, 66, 67, 999999] (fun u2 => [owK 110 5 ((u2 2).o 0) t5.L.length ((u2 2).n 0) (t5.L.flatMap en_TInstruction), owK 3 1 ((u2 2).o 1) t5.Out.length ((u2 2).n 1) (t5.Out.flatMap en_i64), rdF fr 2 (some ⟨((u2 4).n 0), 0, none⟩) 1 1 (([t6] : List TInterval).flatMap en_TInterval), gk]) [] (fun u2 => []) 11 (fun u2 => #[.agg #[vI t5.N, .slice ((u2 2).o 0) t5.L.length ((u2 2).n 0), .slice ((u2 2).o 1) t5.Out.length ((u2 2).n 1)], .slice (some ⟨((u2 4).n 0), 0, none⟩) 1 1, .agg #[vI t7.Ctrl.Order, vI t7.Ctrl.First, vI t7.Ctrl.Least, vI t7.Ctrl.Most, vI t7.Ctrl.Wide, vI t7.T, vI t7.Last]]) (fun u2 => [rdF anyF 5 ((u2 2).o 0) t5.L.length ((u2 2).n 0) (t5.L.flatMap en_TInstruction), rdF anyF 1 ((u2 2).o 1) t5.Out.length ((u2 2).n 1) (t5.Out.flatMap en_i64), gk]) (fun u2 => [rdF anyF 2 (some ⟨((u2 4).n 0), 0, none⟩) 1 1 (([t6] : List TInterval).flatMap en_TInterval)]) (fun u2 g => .tuple #[.slice (g.o 0) ((g.dl er_TSegment gd_TSegment 0 t8.1).length) (g.n 0), vI t8.2]) (fun u2 g => [fun _ => owK 63 6 (g.o 0) ((g.dl er_TSegment gd_TSegment 0 t8.1).length) (g.n 0) ((g.dl er_TSegment gd_TSegment 0 t8.1).flatMap en_TSegment), fun fr => dnK fr E_TSegment.toPart (g.dl er_TSegment gd_TSegment 0 t8.1)]) [68, 69] 15 (fun u2 w hB hF hM => flow_Integrate.calls k0 t5 ([t6] : List TInterval) t7 ((u2 2).o 0) ((u2 2).n 0) ((u2 2).o 1) ((u2 2).n 1) (some ⟨((u2 4).n 0), 0, none⟩) 1 t8 w  hB hF ht8) (fun u2 w hF => ⟨⟨sub_rd0 (owns_rowC (ow_of hF.1)) (fun j h => ⟨_, (.head _), (fp_own h)⟩), sub_rd0 (owns_rowC (ow_of hF.2.1)) (fun j h => ⟨_, (.tail _ (.head _)), (fp_own h)⟩), sub_k hF.2.2.2.1 (.tail _ (.tail _ (.tail _ (.head _)))), trivial⟩, ⟨sub_rd1 (rdF_of hF.2.2.1) (fun j h => ff_of (.tail _ (.tail _ (.head _))) (fun h => h) h (rdF_fr hF.2.2.1 _ h)), trivial⟩⟩) (fun u2 g => (fams_cons fam_ow (fams_cons fam_dn fams_nil))) (.inl rfl) (fun _ => hBf) (hloc := fun u u' h => ⟨by first | rfl | simp only [h 2 (by decide), h 4 (by decide)], by first | rfl | simp only [h 2 (by decide), h 4 (by decide)], by first | rfl | simp only [h 2 (by decide), h 4 (by decide)], by first | rfl | simp only [h 2 (by decide), h 4 (by decide)], by first | rfl | simp only [h 2 (by decide), h 4 (by decide)], by first | rfl | simp only [h 2 (by decide), h 4 (by decide)]⟩)) <|
   .cons [8] (ok_val (fun u2 => .tuple #[.slice ((u2 6).o 0) (((u2 6).dl er_TSegment gd_TSegment 0 t8.1).length) ((u2 6).n 0), vI t8.2]) 8) <|
   .cons [16] (ok_val (fun u2 => .slice ((u2 6).o 0) (((u2 6).dl er_TSegment gd_TSegment 0 t8.1).length) ((u2 6).n 0)) 16) <|
   .v 17 (vI t8.2) <|
   .cons [1] (ok_val (fun u2 => .slice ((u2 6).o 0) (((u2 6).dl er_TSegment gd_TSegment 0 t8.1).length) ((u2 6).n 0)) 1) <|
   .v 2 (vI t8.2) <| .nil) fun u2 a w' H => ?_
 replace H := H.kp [1, 2, 68, 69, 999999]
 refine k_seq ?_
 replace G := bnd G; obtain ⟨t10, ht10, G⟩ := G
 refine k_rg mixed H (.v 19 (.slice ((u2 6).o 0) (((u2 6).dl er_TSegment gd_TSegment 0 t8.1).length) ((u2 6).n 0)) <|
   .cons [20, 70] (ok_callY true fr [] [68, 69] (fun u9 => [owK 63 6 ((u2 6).o 0) (((u2 6).dl er_TSegment gd_TSegment 0 t8.1).length) ((u2 6).n 0) (((u2 6).dl er_TSegment gd_TSegment 0 t8.1).flatMap en_TSegment), dnK fr E_TSegment.toPart ((u2 6).dl er_TSegment gd_TSegment 0 t8.1)]) [] (fun u9 => []) 28 (fun u9 => #[.slice ((u2 6).o 0) (((u2 6).dl er_TSegment gd_TSegment 0 t8.1).length) ((u2 6).n 0)]) (fun u9 => [rdF anyF 6 ((u2 6).o 0) (((u2 6).dl er_TSegment gd_TSegment 0 t8.1).length) ((u2 6).n 0) (((u2 6).dl er_TSegment gd_TSegment 0 t8.1).flatMap en_TSegment)]) (fun u9 => [dnK anyF E_TSegment.toPart ((u2 6).dl er_TSegment gd_TSegment 0 t8.1)]) (fun u9 g => .tuple #[.slice (g.o 0) t10.1.length (g.n 0), vI t10.2.1, .bool t10.2.2]) (fun u9 g => [fun fr => rdF fr 2 (g.o 0) t10.1.length (g.n 0) (t10.1.flatMap en_TInterval)]) [70] 20 (fun u9 w hB hF hM => flow_End.calls t8.1 ((u2 6).o 0) ((u2 6).n 0) ((u2 6).dl er_TSegment gd_TSegment 0 t8.1) t10 w (dl_er ergd_TSegment (u2 6) 0 t8.1) hB hF ht10) (fun u9 w hF => ⟨⟨sub_rd0 (owns_rowC (ow_of hF.1)) (fun j h => ⟨_, (.head _), (fp_own h)⟩), trivial⟩, ⟨sub_dn1 (dn_of hF.2.1) (fun j h => ff_of (.tail _ (.head _)) (fun h => h) h (dn_fr hF.2.1 _ h)), trivial⟩⟩) (fun u9 g => (fams_cons (fam_rd (by decide)) fams_nil)) (.inl rfl) (fun _ => hBf)) <|
   .cons [18] (ok_val (fun u9 => .tuple #[.slice ((u9 1).o 0) t10.1.length ((u9 1).n 0), vI t10.2.1, .bool t10.2.2]) 18) <|
   .cons [21] (ok_val (fun u9 => .slice ((u9 1).o 0) t10.1.length ((u9 1).n 0)) 21) <|
   .v 22 (vI t10.2.1) <|
   .v 23 (.bool t10.2.2) <|
   .cons [3] (ok_val (fun u9 => .slice ((u9 1).o 0) t10.1.length ((u9 1).n 0)) 3) <|
   .v 4 (vI t10.2.1) <|
   .v 5 (.bool t10.2.2) <| .nil) fun u9 a w' H => ?_
 replace H := H.kp [1, 2, 3, 4, 5, 68, 69, 70, 999999]
 refine k_seq ?_
 replace G := bnd G; obtain ⟨t12, ht12, G⟩ := G
 refine k_rg mixed H (.v 25 (.slice ((u2 6).o 0) (((u2 6).dl er_TSegment gd_TSegment 0 t8.1).length) ((u2 6).n 0)) <|
   .cons [26, 71] (ok_callY true fr [] [68, 69] (fun u11 => [owK 63 6 ((u2 6).o 0) (((u2 6).dl er_TSegment gd_TSegment 0 t8.1).length) ((u2 6).n 0) (((u2 6).dl er_TSegment gd_TSegment 0 t8.1).flatMap en_TSegment), dnK fr E_TSegment.toPart ((u2 6).dl er_TSegment gd_TSegment 0 t8.1)]) [] (fun u11 => []) 15 (fun u11 => #[.slice ((u2 6).o 0) (((u2 6).dl er_TSegment gd_TSegment 0 t8.1).length) ((u2 6).n 0), vI 131072]) (fun u11 => [rdF anyF 6 ((u2 6).o 0) (((u2 6).dl er_TSegment gd_TSegment 0 t8.1).length) ((u2 6).n 0) (((u2 6).dl er_TSegment gd_TSegment 0 t8.1).flatMap en_TSegment)]) (fun u11 => [dnK anyF E_TSegment.toPart ((u2 6).dl er_TSegment gd_TSegment 0 t8.1)]) (fun u11 g => .tuple #[.slice (g.o 0) t12.1.length (g.n 0), .bool t12.2]) (fun u11 g => [fun fr => rdF fr 2 (g.o 0) t12.1.length (g.n 0) (t12.1.flatMap en_TInterval)]) [71] 26 (fun u11 w hB hF hM => flow_At.calls k0 t8.1 131072 ((u2 6).o 0) ((u2 6).n 0) ((u2 6).dl er_TSegment gd_TSegment 0 t8.1) t12 w (dl_er ergd_TSegment (u2 6) 0 t8.1) hB hF ht12) (fun u11 w hF => ⟨⟨sub_rd0 (owns_rowC (ow_of hF.1)) (fun j h => ⟨_, (.head _), (fp_own h)⟩), trivial⟩, ⟨sub_dn1 (dn_of hF.2.1) (fun j h => ff_of (.tail _ (.head _)) (fun h => h) h (dn_fr hF.2.1 _ h)), trivial⟩⟩) (fun u11 g => (fams_cons (fam_rd (by decide)) fams_nil)) (.inl rfl) (fun _ => hBf)) <|
   .cons [24] (ok_val (fun u11 => .tuple #[.slice ((u11 1).o 0) t12.1.length ((u11 1).n 0), .bool t12.2]) 24) <|
   .cons [27] (ok_val (fun u11 => .slice ((u11 1).o 0) t12.1.length ((u11 1).n 0)) 27) <|
   .v 28 (.bool t12.2) <|
   .cons [6] (ok_val (fun u11 => .slice ((u11 1).o 0) t12.1.length ((u11 1).n 0)) 6) <|
   .v 7 (.bool t12.2) <| .nil) fun u11 a w' H => ?_
 replace H := H.kp [2, 3, 4, 5, 6, 7, 70, 71, 999999]
 refine k_seq ?_
 refine k_seq ?_
 refine k_rg mixed H (.v 29 (.slice ((u9 1).o 0) t10.1.length ((u9 1).n 0)) <|
   .v 30 (vI (t10.1.length : Int)) <|
   .v 31 (.bool ((t10.1.length : Int) != 1)) <|
   .v 32 (.bool ((t10.1.length : Int) != 1)) <|
   .cons [33] (ok_valg (fun u13 => .slice ((u11 1).o 0) t12.1.length ((u11 1).n 0)) (fun u13 => (((t10.1.length : Int) != 1) == false)) [true] 33) <|
   .cons [34] (ok_valg (fun u13 => vI (t12.1.length : Int)) (fun u13 => (((t10.1.length : Int) != 1) == false)) [false] 34) <|
   .cons [35] (ok_valg (fun u13 => .bool ((t12.1.length : Int) != 1)) (fun u13 => (((t10.1.length : Int) != 1) == false)) [false, true] 35) <|
   .cons [36] (ok_or 32 35 (fun u13 => true) (fun u13 => true) (fun u13 => ((t10.1.length : Int) != 1)) (fun u13 => ((t12.1.length : Int) != 1)) 36) <| .nil) fun u13 a w' H => ?_
 replace H := H.kp [2, 3, 4, 5, 6, 7, 36, 70, 71, 999999]
 refine k_cond H (by kernel_rfl) (t := (((t10.1.length : Int) != 1) || ((t12.1.length : Int) != 1))) (by kernel_rfl) (fun c25 => ?_) (fun c25 => ?_)
 ·rw [if_pos c25] at G
  refine k_seq ?_
  refine k_rg mixed H (.v 0 (.bool false) <| .nil) fun u14 a w' H => ?_
  replace H := H.kp [0, 999999]
  refine k_ret ?_
  obtain rfl := Option.some.inj G
  exact k_done0 H _ (by kernel_rfl) (by kernel_rfl)
 ·rw [if_neg (nt c25)] at G
  refine k_skip ?_
  refine k_seq ?_
  replace G := gd G; obtain ⟨b16, G⟩ := G
  replace G := bnd G; obtain ⟨t17, ht17, G⟩ := G
  have P18 := ptr_of (en := en_TInterval) (l := t10.1) (rdF_of (H.at (K := rdF fr 2 ((u9 1).o 0) t10.1.length ((u9 1).n 0) (t10.1.flatMap en_TInterval)) 70 (by kernel_rfl))).2 en_TInterval_len
  replace G := bnd G; obtain ⟨t19, ht19, G⟩ := G
  replace G := bnd G; obtain ⟨z20, hz20, G⟩ := G
  replace hz20 := Option.some.inj hz20
  replace G := gd G; obtain ⟨b21, G⟩ := G
  replace G := bnd G; obtain ⟨t22, ht22, G⟩ := G
  have P23 := ptr_of (en := en_TInterval) (l := t12.1) (rdF_of (H.at (K := rdF fr 2 ((u11 1).o 0) t12.1.length ((u11 1).n 0) (t12.1.flatMap en_TInterval)) 71 (by kernel_rfl))).2 en_TInterval_len
  replace G := bnd G; obtain ⟨t24, ht24, G⟩ := G
  refine k_rg mixed H (.v 37 (vI t8.2) <|
   .v 38 (.bool (t8.2 == 0)) <|
   .v 39 (.bool (t8.2 == 0)) <|
   .cons [40] (ok_valg (fun u15 => .bool t10.2.2) (fun u15 => ((t8.2 == 0) == true)) [true] 40) <|
   .cons [41] (ok_and 39 40 (fun u15 => true) (fun u15 => true) (fun u15 => (t8.2 == 0)) (fun u15 => t10.2.2) 41) <|
   .v 42 (.bool ((t8.2 == 0) && t10.2.2)) <|
   .cons [43] (ok_valg (fun u15 => vI t10.2.1) (fun u15 => (((t8.2 == 0) && t10.2.2) == true)) [true] 43) <|
   .cons [44] (ok_valg (fun u15 => .bool (t10.2.1 == 131072)) (fun u15 => (((t8.2 == 0) && t10.2.2) == true)) [false, true] 44) <|
   .cons [45] (ok_and 42 44 (fun u15 => true) (fun u15 => true) (fun u15 => ((t8.2 == 0) && t10.2.2)) (fun u15 => (t10.2.1 == 131072)) 45) <|
   .v 46 (.bool (((t8.2 == 0) && t10.2.2) && (t10.2.1 == 131072))) <|
   .cons [47] (ok_valg (fun u15 => .slice ((u9 1).o 0) t10.1.length ((u9 1).n 0)) (fun u15 => ((((t8.2 == 0) && t10.2.2) && (t10.2.1 == 131072)) == true)) [true] 47) <|
   .cons [48] (ok_valgP (fun u15 => .pointer (some ⟨hdB ((u9 1).o 0), hdO ((u9 1).o 0) + ((0 : Int).toNat) * 2, none⟩)) (fun u15 => ((((t8.2 == 0) && t10.2.2) && (t10.2.1 == 131072)) == true)) [false, true] 48 (fun _ _ hg => ix_pure (t := 48) (k := .i64) (i := (0 : Int)) (p := ((u9 1).o 0)) (n := t10.1.length) (cap := ((u9 1).n 0)) (x := t10.1) P18 rfl (b16 hg) (by kernel_rfl))) <|
   .cons [49] (ok_valL [70] (fun u15 => [rdF fr 2 ((u9 1).o 0) t10.1.length ((u9 1).n 0) (t10.1.flatMap en_TInterval)]) (fun u15 => .agg #[vI t17.Lo, vI t17.Hi]) (fun u15 => ((((t8.2 == 0) && t10.2.2) && (t10.2.1 == 131072)) == true)) [false] 49 (fun u15 w hg hF => ld_row (en := en_TInterval) (rdF_of hF.1).2 en_TInterval_len (ifp ht17 hg) 0 2 [vI t17.Lo, vI t17.Hi] rfl (by kernel_rfl))) <|
   .cons [50] (ok_call 27 (fun u15 => #[vI 5]) (.agg #[vI t19.Lo, vI t19.Hi]) (fun u15 => ((((t8.2 == 0) && t10.2.2) && (t10.2.1 == 131072)) == true)) [true, true] 50 [] (fun u15 w hg _ => armillarytop_integer.calls 5  t19 w  (ifp ht19 hg))) <|
   .cons [51] (ok_valg (fun u15 => .bool ((t17.Lo == t19.Lo) && ((t17.Hi == t19.Hi) && true))) (fun u15 => ((((t8.2 == 0) && t10.2.2) && (t10.2.1 == 131072)) == true)) [false, false] 51 (hv := fun _ _ => run_of (by kernel_rfl) (run_eql_agg (t := 46) (x := (.tmp 49)) (y := (.tmp 50)) (xs := #[vI t17.Lo, vI t17.Hi]) (ys := #[vI t19.Lo, vI t19.Hi]) (b := ((t17.Lo == t19.Lo) && ((t17.Hi == t19.Hi) && true))) (by kernel_rfl) (by kernel_rfl)))) <|
   .cons [52] (ok_and 46 51 (fun u15 => true) (fun u15 => true) (fun u15 => (((t8.2 == 0) && t10.2.2) && (t10.2.1 == 131072))) (fun u15 => ((t17.Lo == t19.Lo) && ((t17.Hi == t19.Hi) && true))) 52) <|
   .cons [53] (ok_as (u' := fun u15 => [(53, sB z20)]) (ok_val (fun u15 => .bool ((((t8.2 == 0) && t10.2.2) && (t10.2.1 == 131072)) && ((t17.Lo == t19.Lo) && ((t17.Hi == t19.Hi) && true)))) 53) (fun _ => by rw [← hz20])) <|
   .cons [54] (ok_valg (fun u15 => .bool t12.2) (fun u15 => (z20 == true)) [true] 54) <|
   .cons [55] (ok_and 53 54 (fun u15 => true) (fun u15 => true) (fun u15 => z20) (fun u15 => t12.2) 55) <|
   .v 56 (.bool (z20 && t12.2)) <|
   .cons [57] (ok_valg (fun u15 => .slice ((u11 1).o 0) t12.1.length ((u11 1).n 0)) (fun u15 => ((z20 && t12.2) == true)) [true] 57) <|
   .cons [58] (ok_valgP (fun u15 => .pointer (some ⟨hdB ((u11 1).o 0), hdO ((u11 1).o 0) + ((0 : Int).toNat) * 2, none⟩)) (fun u15 => ((z20 && t12.2) == true)) [false, true] 58 (fun _ _ hg => ix_pure (t := 48) (k := .i64) (i := (0 : Int)) (p := ((u11 1).o 0)) (n := t12.1.length) (cap := ((u11 1).n 0)) (x := t12.1) P23 rfl (b21 hg) (by kernel_rfl))) <|
   .cons [59] (ok_valL [71] (fun u15 => [rdF fr 2 ((u11 1).o 0) t12.1.length ((u11 1).n 0) (t12.1.flatMap en_TInterval)]) (fun u15 => .agg #[vI t22.Lo, vI t22.Hi]) (fun u15 => ((z20 && t12.2) == true)) [false] 59 (fun u15 w hg hF => ld_row (en := en_TInterval) (rdF_of hF.1).2 en_TInterval_len (ifp ht22 hg) 0 2 [vI t22.Lo, vI t22.Hi] rfl (by kernel_rfl))) <|
   .cons [60] (ok_call 27 (fun u15 => #[vI 5]) (.agg #[vI t24.Lo, vI t24.Hi]) (fun u15 => ((z20 && t12.2) == true)) [true, true] 60 [] (fun u15 w hg _ => armillarytop_integer.calls 5  t24 w  (ifp ht24 hg))) <|
   .cons [61] (ok_valg (fun u15 => .bool ((t22.Lo == t24.Lo) && ((t22.Hi == t24.Hi) && true))) (fun u15 => ((z20 && t12.2) == true)) [false, false] 61 (hv := fun _ _ => run_of (by kernel_rfl) (run_eql_agg (t := 46) (x := (.tmp 59)) (y := (.tmp 60)) (xs := #[vI t22.Lo, vI t22.Hi]) (ys := #[vI t24.Lo, vI t24.Hi]) (b := ((t22.Lo == t24.Lo) && ((t22.Hi == t24.Hi) && true))) (by kernel_rfl) (by kernel_rfl)))) <|
   .cons [62] (ok_and 56 61 (fun u15 => true) (fun u15 => true) (fun u15 => (z20 && t12.2)) (fun u15 => ((t22.Lo == t24.Lo) && ((t22.Hi == t24.Hi) && true))) 62) <|
   .v 0 (.bool ((z20 && t12.2) && ((t22.Lo == t24.Lo) && ((t22.Hi == t24.Hi) && true)))) <| .nil) fun u15 a w' H => ?_
  replace H := H.kp [0, 999999]
  refine k_ret ?_
  obtain rfl := Option.some.inj G
  exact k_done0 H _ (by kernel_rfl) (by kernel_rfl)
set_option maxHeartbeats 4000000 in
theorem armillaryref02_Number.calls (a0 : Int) (r : Bool) (w : World) (G : armillaryref02_Number a0 = some r) :
  Calls Tryz.prog 63 #[vI a0] w fun e w' => e = .returned (.bool r) ∧ Below w.heap.size w w' := by
 refine k_enter (args := [vI a0]) 9 Tryz.func63 rfl (by kernel_rfl) (by kernel_rfl) fun a H => ?_
 unfold armillaryref02_Number at G
 refine k_seq ?_
 refine k_rg mixed H (.v 2 (.bool false) <| .nil) fun u1 a w' H => ?_
 replace H := H.kp [0]
 refine k_seq ?_
 refine k_rg mixed H (.v 3 (vI a0) <|
   .v 4 (.bool (decide (a0 > (-2147483648)))) <|
   .v 5 (.bool (decide (a0 > (-2147483648)))) <|
   .cons [6] (ok_valg (fun u2 => vI a0) (fun u2 => ((decide (a0 > (-2147483648))) == true)) [true] 6) <|
   .cons [7] (ok_valg (fun u2 => .bool (decide (a0 < 2147483648))) (fun u2 => ((decide (a0 > (-2147483648))) == true)) [false, true] 7) <|
   .cons [8] (ok_and 5 7 (fun u2 => true) (fun u2 => true) (fun u2 => decide (a0 > (-2147483648))) (fun u2 => decide (a0 < 2147483648)) 8) <|
   .v 2 (.bool ((decide (a0 > (-2147483648))) && (decide (a0 < 2147483648)))) <| .nil) fun u2 a w' H => ?_
 replace H := H.kp [2]
 refine k_ret ?_
 obtain rfl := Option.some.inj G
 exact k_done0 H _ (by kernel_rfl) (by kernel_rfl)
set_option maxHeartbeats 4000000 in
theorem armillaryref02_Entire.calls (r : TInterval) (w : World) (G : armillaryref02_Entire = some r) :
  Calls Tryz.prog 64 #[] w fun e w' => e = .returned (.agg #[vI r.Lo, vI r.Hi]) ∧ Below w.heap.size w w' := by
 refine k_enter (args := []) 2 Tryz.func64 rfl (by kernel_rfl) (by kernel_rfl) fun a H => ?_
 unfold armillaryref02_Entire at G
 refine k_seq ?_
 refine k_rg mixed H (.cons [0, 2] (ok_new (fun b => vP b 0) (fun u1 => [vI 0, vI 0]) 46 0 2) <| .nil) fun u1 a w' H => ?_
 replace H := H.kp [0, 2]
 refine k_seq ?_
 refine k_rg mixed H (.v 1 (.agg #[vI (-2147483648), vI 2147483648]) <|
   .cons [2] (ok_as (u' := fun u2 => [(2, .blk ((u1 0).n 0) [vI (-2147483648), vI 2147483648] 46)]) (ok_store 2 0 (fun u2 => ((u1 0).n 0)) (fun u2 => [vI 0, vI 0]) (fun u2 => [vI (-2147483648), vI 2147483648]) 46) (fun _ => by kernel_rfl)) <| .nil) fun u2 a w' H => ?_
 replace H := H.kp [0, 2]
 refine k_ret ?_
 obtain rfl := Option.some.inj G
 exact k_done1 H _ 2 ((u1 0).n 0) [vI (-2147483648), vI 2147483648] 46 0 2 (by kernel_rfl) (by kernel_rfl) (by kernel_rfl) (by kernel_rfl)
set_option maxHeartbeats 4000000 in
theorem armillaryref02_New.calls (a0 : Int) (a1 : Int) (r : TInterval) (w : World) (G : armillaryref02_New a0 a1 = some r) :
  Calls Tryz.prog 38 #[vI a0, vI a1] w fun e w' => e = .returned (.agg #[vI r.Lo, vI r.Hi]) ∧ Below w.heap.size w w' := by
 refine k_enter (args := [vI a0, vI a1]) 17 Tryz.func38 rfl (by kernel_rfl) (by kernel_rfl) fun a H => ?_
 unfold armillaryref02_New at G
 refine k_seq ?_
 refine k_rg mixed H (.cons [4, 17] (ok_new (fun b => vP b 0) (fun u1 => [vI 0, vI 0]) 46 4 17) <| .nil) fun u1 a w' H => ?_
 replace H := H.kp [0, 1, 4, 17]
 refine k_seq ?_
 refine k_seq ?_
 replace G := bnd G; obtain ⟨t3, ht3, G⟩ := G
 replace G := bnd G; obtain ⟨t4, ht4, G⟩ := G
 refine k_rg mixed H (.v 5 (vI a0) <|
   .cons [6] (ok_callv 63 (fun u2 => #[vI a0]) (.bool t3) 6 [] (fun u2 w _ => armillaryref02_Number.calls a0  t3 w  ht3)) <|
   .v 7 (.bool (!t3)) <|
   .v 8 (.bool (!t3)) <|
   .cons [9] (ok_valg (fun u2 => vI a1) (fun u2 => ((!t3) == false)) [true] 9) <|
   .cons [10] (ok_call 63 (fun u2 => #[vI a1]) (.bool t4) (fun u2 => ((!t3) == false)) [true, false] 10 [] (fun u2 w hg _ => armillaryref02_Number.calls a1  t4 w  (ifp ht4 hg))) <|
   .cons [11] (ok_valg (fun u2 => .bool (!t4)) (fun u2 => ((!t3) == false)) [false] 11) <|
   .cons [12] (ok_or 8 11 (fun u2 => true) (fun u2 => true) (fun u2 => (!t3)) (fun u2 => (!t4)) 12) <| .nil) fun u2 a w' H => ?_
 replace H := H.kp [0, 1, 4, 12, 17]
 refine k_cond H (by kernel_rfl) (t := ((!t3) || (!t4))) (by kernel_rfl) (fun c8 => ?_) (fun c8 => ?_)
 ·rw [if_pos c8] at G
  refine k_seq ?_
  replace G := bnd G; obtain ⟨t6, ht6, G⟩ := G
  refine k_rg mixed H (.cons [13] (ok_callv 64 (fun u5 => #[]) (.agg #[vI t6.Lo, vI t6.Hi]) 13 [] (fun u5 w _ => armillaryref02_Entire.calls   t6 w  ht6)) <|
   .cons [17] (ok_as (u' := fun u5 => [(17, .blk ((u1 0).n 0) [vI t6.Lo, vI t6.Hi] 46)]) (ok_store 17 0 (fun u5 => ((u1 0).n 0)) (fun u5 => [vI 0, vI 0]) (fun u5 => [vI t6.Lo, vI t6.Hi]) 46) (fun _ => by kernel_rfl)) <| .nil) fun u5 a w' H => ?_
  replace H := H.kp [4, 17]
  refine k_ret ?_
  obtain rfl := Option.some.inj G
  exact k_done1 H _ 17 ((u1 0).n 0) [vI t6.Lo, vI t6.Hi] 46 0 2 (by kernel_rfl) (by kernel_rfl) (by kernel_rfl) (by kernel_rfl)
 ·rw [if_neg (nt c8)] at G
  refine k_skip ?_
  refine k_seq ?_
  refine k_rg mixed H (.v 14 (vI a0) <|
   .v 15 (vI a1) <|
   .v 16 (.agg #[vI a0, vI a1]) <|
   .cons [17] (ok_as (u' := fun u7 => [(17, .blk ((u1 0).n 0) [vI a0, vI a1] 46)]) (ok_store 17 0 (fun u7 => ((u1 0).n 0)) (fun u7 => [vI 0, vI 0]) (fun u7 => [vI a0, vI a1]) 46) (fun _ => by kernel_rfl)) <| .nil) fun u7 a w' H => ?_
  replace H := H.kp [4, 17]
  refine k_ret ?_
  obtain rfl := Option.some.inj G
  exact k_done1 H _ 17 ((u1 0).n 0) [vI a0, vI a1] 46 0 2 (by kernel_rfl) (by kernel_rfl) (by kernel_rfl) (by kernel_rfl)
set_option maxHeartbeats 4000000 in
theorem armillaryref02_Point.calls (a0 : Int) (r : TInterval) (w : World) (G : armillaryref02_Point a0 = some r) :
  Calls Tryz.prog 14 #[vI a0] w fun e w' => e = .returned (.agg #[vI r.Lo, vI r.Hi]) ∧ Below w.heap.size w w' := by
 refine k_enter (args := [vI a0]) 6 Tryz.func14 rfl (by kernel_rfl) (by kernel_rfl) fun a H => ?_
 unfold armillaryref02_Point at G
 refine k_seq ?_
 refine k_rg mixed H (.cons [2, 6] (ok_new (fun b => vP b 0) (fun u1 => [vI 0, vI 0]) 46 2 6) <| .nil) fun u1 a w' H => ?_
 replace H := H.kp [0, 2, 6]
 refine k_seq ?_
 replace G := bnd G; obtain ⟨t3, ht3, G⟩ := G
 refine k_rg mixed H (.v 3 (vI a0) <|
   .v 4 (vI a0) <|
   .cons [5] (ok_callv 38 (fun u2 => #[vI a0, vI a0]) (.agg #[vI t3.Lo, vI t3.Hi]) 5 [] (fun u2 w _ => armillaryref02_New.calls a0 a0  t3 w  ht3)) <|
   .cons [6] (ok_as (u' := fun u2 => [(6, .blk ((u1 0).n 0) [vI t3.Lo, vI t3.Hi] 46)]) (ok_store 6 0 (fun u2 => ((u1 0).n 0)) (fun u2 => [vI 0, vI 0]) (fun u2 => [vI t3.Lo, vI t3.Hi]) 46) (fun _ => by kernel_rfl)) <| .nil) fun u2 a w' H => ?_
 replace H := H.kp [2, 6]
 refine k_ret ?_
 obtain rfl := Option.some.inj G
 exact k_done1 H _ 6 ((u1 0).n 0) [vI t3.Lo, vI t3.Hi] 46 0 2 (by kernel_rfl) (by kernel_rfl) (by kernel_rfl) (by kernel_rfl)
end Go.Proofs.YtpmgpcklieincaaGreatDoor
