/- Each function of the program answers as the plain Lean function of its name (part 1). Printed by a program of this session. -/
import Derived.Test.YtbpgobecpmjaeaaDoorFn0
set_option linter.unusedVariables false
set_option linter.unusedSimpArgs false
set_option maxRecDepth 100000
namespace Go.Proofs.YtbpgobecpmjaeaaDoor
open Go Go.RowKit Go.Sx Go.Proofs
set_option maxHeartbeats 4000000 in
theorem ode_Operands.calls (k0 : Nat) (a0 : List TNode) (p_a0 : Option Addr) (c_a0 : Nat) (r : List (List TNode)) (w : World) (hF : AllH [rdl anyF 4 p_a0 c_a0 a0 en_TNode] w) (G : ode_Operands k0 a0 = some r) :
  Calls Tryd.prog 30 #[.slice p_a0 a0.length c_a0] w fun e w' => ∃ g : Gh, e = .returned (.slice (g.o 0) ((g.dl Sl.l gd_S_TNode 0 r).length) (g.n 0)) ∧ But (fpK []) w w' ∧ OutOK w.heap.size (fpK []) (frI w.heap.size [rdl anyF 4 p_a0 c_a0 a0 en_TNode]) [fun _ => owK 48 1 (g.o 0) ((g.dl Sl.l gd_S_TNode 0 r).length) (g.n 0) ((g.dl Sl.l gd_S_TNode 0 r).flatMap enSl), fun fr => dnK fr E_S_TNode.toPart (g.dl Sl.l gd_S_TNode 0 r)] w' := by
 obtain ⟨fr, hfr⟩ : ∃ fr : Nat → Prop, fr = frI w.heap.size [rdl anyF 4 p_a0 c_a0 a0 en_TNode] := ⟨_, rfl⟩
 have hBf : ∀ j, w.heap.size ≤ j → fr j := fun j h => by rw [hfr]; exact .inl h
 refine k_enterF (args := [.slice p_a0 a0.length c_a0]) 30 [(30, rdl fr 4 p_a0 c_a0 a0 en_TNode)] (by
  intro x hx
  simp only [List.mem_cons, List.not_mem_nil, or_false] at hx
  rcases hx with rfl
  exact rdF_fact (rdF_of hF.1) (fun j h => by rw [hfr]; exact .inr ⟨_, (.head _), h⟩) (by decide) _) Tryd.func30 rfl (by kernel_rfl) (by kernel_rfl) fun a H => ?_
 unfold ode_Operands at G
 refine k_seq ?_
 refine k_rg mixed H (.v 2 (.slice none 0 0) <| .nil) fun u1 a w' H => ?_
 replace H := H.kp [0, 30]
 refine k_seq ?_
 refine k_rg mixed H (.v 3 (.slice none 0 0) <| .nil) fun u2 a w' H => ?_
 replace H := H.kp [0, 3, 30]
 refine k_seq ?_
 refine k_rg mixed H (.v 4 (vI 1) <| .nil) fun u3 a w' H => ?_
 replace H := H.kp [0, 3, 4, 30]
 refine k_seq ?_
 replace G := bnd G; obtain ⟨j5, hj5, G⟩ := G
 refine k_join (fun a w' => ∃ (p_j4 : Option Addr) (c_j4 np_j4 : Nat) (L_j4 : List (Sl TNode)), np_j4 = L_j4.length ∧ j5 = L_j4.map Sl.l ∧ Rep w.heap.size w 30 (ofL [(3, sS p_j4 np_j4 c_j4), (900008, owK 48 1 p_j4 np_j4 c_j4 (L_j4.flatMap enSl)), (900009, dnK fr E_S_TNode.toPart L_j4)]) a w') ?_ ?_
 ·clear H; rintro a w' ⟨p_j4, c_j4, _, L_j4, rfl, h_j4, H⟩
  refine k_seq ?_
  refine k_rg mixed H (.v 29 (.slice p_j4 L_j4.length c_j4) <|
   .v 2 (.slice p_j4 L_j4.length c_j4) <| .nil) fun u6 a w' H => ?_
  replace H := H.kp [2, 900008, 900009]
  refine k_ret ?_
  obtain rfl := Option.some.inj G
  obtain ⟨g, o0, n0, d0⟩ : ∃ g : Gh, g.o 0 = p_j4 ∧ g.n 0 = c_j4 ∧ g.dl Sl.l gd_S_TNode 0 j5 = L_j4 := ⟨⟨fun i => [c_j4].getD i 0, fun i => [p_j4].getD i none, fun i => ([⟨List (Sl TNode), L_j4⟩] : List ((T : Type) × T)).getD i ⟨Unit, ()⟩⟩, rfl, rfl, dl_mk rfl h_j4⟩
  refine k_doneZ H (fun g => .slice (g.o 0) ((g.dl Sl.l gd_S_TNode 0 j5).length) (g.n 0)) g [] [rdl anyF 4 p_a0 c_a0 a0 en_TNode] (fun g => [fun _ => owK 48 1 (g.o 0) ((g.dl Sl.l gd_S_TNode 0 j5).length) (g.n 0) ((g.dl Sl.l gd_S_TNode 0 j5).flatMap enSl), fun fr => dnK fr E_S_TNode.toPart (g.dl Sl.l gd_S_TNode 0 j5)]) fr [900008, 900009] [] (.slice p_j4 L_j4.length c_j4) [fun _ => owK 48 1 p_j4 L_j4.length c_j4 (L_j4.flatMap enSl), fun fr => dnK fr E_S_TNode.toPart L_j4] (by simp only [o0, n0, d0]) (by simp only [o0, n0, d0]) hfr (.inl ⟨rfl, rfl⟩) (fams_cons fam_ow (fams_cons fam_dn fams_nil)) (by simp)
 ·clear G; replace G := hj5; clear hj5
  refine k_seq ?_
  replace G := gd G; obtain ⟨b8, G⟩ := G
  replace G := bnd G; obtain ⟨t9, ht9, G⟩ := G
  replace G := bnd G; obtain ⟨t10, ht10, G⟩ := G
  refine k_rg mixed H (.v 6 (.slice p_a0 a0.length c_a0) <|
   .cons [7] (ok_valL [30] (fun u7 => [rdl fr 4 p_a0 c_a0 a0 en_TNode]) (fun u7 => .pointer (some ⟨hdB p_a0, hdO p_a0 + ((0 : Int).toNat) * 4, none⟩)) (fun u7 => true) [true, true] 7 (fun u7 w hg hF => ix_row (t := 48) (k := .i64) (i := (0 : Int)) (p := p_a0) (n := a0.length) (cap := c_a0) (x := a0) (en := en_TNode) (rdF_of hF.1).2 en_TNode_len rfl b8 (by kernel_rfl))) <|
   .v 8 (.pointer (some ⟨hdB p_a0, hdO p_a0 + ((0 : Int).toNat) * 4 + 0, none⟩)) <|
   .cons [9] (ok_valL [30] (fun u7 => [rdl fr 4 p_a0 c_a0 a0 en_TNode]) (fun u7 => vI t9.Op) (fun u7 => true) [true] 9 (fun u7 w hg hF => ld_row (en := en_TNode) (rdF_of hF.1).2 en_TNode_len ht9 0 1 [vI t9.Op] rfl (by kernel_rfl))) <|
   .cons [10] (ok_callv 42 (fun u7 => #[vI t9.Op]) (vI t10) 10 [] (fun u7 w _ => ode_arity.calls t9.Op  t10 w  ht10)) <|
   .v 11 (vI 0) <| .nil) fun u7 a w' H => ?_
  replace H := H.kp [0, 3, 4, 10, 11, 30]
  refine k_block ?_
  replace H := H.nil_row 37 48 1
  replace H := H.add0 38 (dnK fr E_S_TNode.toPart ([] : List (Sl TNode))) (by intro _ _ h; cases h) (dn_holds rdl_nil (fun j h => by obtain ⟨_, hy, _⟩ := h; cases hy)) (fun j h => by obtain ⟨_, hy, _⟩ := h; cases hy)
  replace H := H.move (K := owK 48 1 none 0 0 (([] : List (Sl TNode)).flatMap enSl)) 37 900010 (by kernel_rfl) (by intro _ _ h; cases h)
  replace H := H.dup (K := dnK fr E_S_TNode.toPart ([] : List (Sl TNode))) 38 900011 (by kernel_rfl) (fun h => h) (by intro _ _ h; cases h)
  refine k_loopJ (fun m a w' => ∃ x11 : List (List TNode), ∃ x12 : Int, ∃ x13 : Int, ode_Operands.l14 k0 a0 t9 t10 m x11 x12 x13 = some j5 ∧ ∃ (p_x11 : Option Addr) (c_x11 np_x11 : Nat) (L_x11 : List (Sl TNode)), np_x11 = L_x11.length ∧ x11 = L_x11.map Sl.l ∧ Rep w.heap.size w 30 (ofL [(0, sS p_a0 a0.length c_a0), (3, sS p_x11 np_x11 c_x11), (4, sI x12), (10, sI t10), (11, sI x13), (30, rdl fr 4 p_a0 c_a0 a0 en_TNode), (900010, owK 48 1 p_x11 np_x11 c_x11 (L_x11.flatMap enSl)), (900011, dnK fr E_S_TNode.toPart L_x11)]) a w') k0 ⟨_, _, _, G, none, 0, 0, ([] : List (Sl TNode)), rfl, rfl, H.toL _ (by kernel_rfl)⟩ ?_
  clear G H
  rintro (_ | k) a w' ⟨x11, x12, x13, G, p_x11, c_x11, _, L_x11, rfl, h_x11, H⟩
  ·exact absurd G (by unfold ode_Operands.l14; exact fun h => by cases h)
  ·unfold ode_Operands.l14 at G
   refine k_seq ?_
   refine k_rg mixed H (.v 12 (.bool (decide (x13 < t10))) <| .nil) fun u15 a w' H => ?_
   replace H := H.kp [0, 3, 4, 10, 11, 12, 30, 900010, 900011]
   refine k_seq ?_
   refine k_cond H (by kernel_rfl) (t := decide (x13 < t10)) (by kernel_rfl) (fun c24 => ?_) (fun c24 => ?_)
   ·rw [if_pos c24] at G
    refine k_skip ?_
    refine k_seq ?_
    refine k_block ?_
    refine k_seq ?_
    replace G := gd G; obtain ⟨b17, G⟩ := G
    replace G := bnd G; obtain ⟨t18, ht18, G⟩ := G
    refine k_rg mixed H (.v 13 (vI x12) <|
   .v 14 (.slice p_a0 a0.length c_a0) <|
   .v 15 (vI x12) <|
   .cons [16] (ok_valL [30] (fun u16 => [rdl fr 4 p_a0 c_a0 a0 en_TNode]) (fun u16 => .slice (viewP p_a0 x12.toNat 4 c_a0) ((a0.drop x12.toNat).length) (c_a0 - x12.toNat)) (fun u16 => true) [true, true] 16 (fun u16 w _ hF => run_of (by kernel_rfl) (run_low (t := 48) (sz := 4) (l := a0) (k := .i64) rfl b17))) <|
   .cons [17] (ok_callL [30] (fun u16 => [rdl fr 4 p_a0 c_a0 a0 en_TNode]) 43 (fun u16 => #[.slice (viewP p_a0 x12.toNat 4 c_a0) ((a0.drop x12.toNat).length) (c_a0 - x12.toNat)]) (vI t18) 17 (fun u16 w hF => ode_exprLen.calls k0 (a0.drop x12.toNat) (viewP p_a0 x12.toNat 4 c_a0) (c_a0 - x12.toNat) t18 w  ⟨(rdA (RowC.low (en := en_TNode) (rdF_of hF.1) en_TNode_len b17)), trivial⟩ ht18)) <|
   .v 18 (vI (w_i64 (x12 + t18))) <|
   .v 5 (vI (w_i64 (x12 + t18))) <| .nil) fun u16 a w' H => ?_
    replace H := H.kp [0, 3, 4, 5, 10, 11, 30, 900010, 900011]
    refine k_seq ?_
    replace G := gd G; obtain ⟨b20, G⟩ := G
    replace G := gd G; obtain ⟨b21, G⟩ := G
    refine k_rg mixed H (.v 19 (.slice p_x11 L_x11.length c_x11) <|
   .v 20 (.slice p_a0 a0.length c_a0) <|
   .v 21 (vI x12) <|
   .v 22 (vI (w_i64 (x12 + t18))) <|
   .v 23 (vI (w_i64 (x12 + t18))) <|
   .cons [24] (ok_valL [30] (fun u19 => [rdl fr 4 p_a0 c_a0 a0 en_TNode]) (fun u19 => .slice (viewP p_a0 x12.toNat 4 ((w_i64 (x12 + t18)).toNat)) (((a0.take (w_i64 (x12 + t18)).toNat).drop x12.toNat).length) ((w_i64 (x12 + t18)).toNat - x12.toNat)) (fun u19 => true) [true, true, true, true] 24 (fun u19 w _ hF => run_of (by kernel_rfl) (run_lohim (t := 48) (sz := 4) (l := a0) (k := .i64) (k' := .i64) (k2 := .i64) rfl b20 (rdF_of hF.1).1))) <|
   .cons [25, 31] (ok_new (fun b => .slice (some ⟨b, 0, none⟩) 1 1) (fun u19 => [.slice (viewP p_a0 x12.toNat 4 ((w_i64 (x12 + t18)).toNat)) (((a0.take (w_i64 (x12 + t18)).toNat).drop x12.toNat).length) ((w_i64 (x12 + t18)).toNat - x12.toNat)]) 48 25 31) <|
   .cons [26, 900010, 900010, 32] (ok_ownF [6] [900011, 31, 30] (fun u19 => [dnK fr E_S_TNode.toPart L_x11, .blk ((u19 6).n 0) [.slice (viewP p_a0 x12.toNat 4 ((w_i64 (x12 + t18)).toNat)) (((a0.take (w_i64 (x12 + t18)).toNat).drop x12.toNat).length) ((w_i64 (x12 + t18)).toNat - x12.toNat)] 48, rdl fr 4 p_a0 c_a0 a0 en_TNode]) 900010 32 (fun u19 => owK 48 1 p_x11 L_x11.length c_x11 (L_x11.flatMap enSl)) (some 26) (fun u19 g => .slice (g.o 0) (L_x11 ++ [(⟨(viewP p_a0 x12.toNat 4 ((w_i64 (x12 + t18)).toNat)), ((w_i64 (x12 + t18)).toNat - x12.toNat), ((a0.take (w_i64 (x12 + t18)).toNat).drop x12.toNat)⟩ : Sl TNode)]).length (g.n 0)) (fun u19 g => owK 48 1 (g.o 0) ((L_x11 ++ [(⟨(viewP p_a0 x12.toNat 4 ((w_i64 (x12 + t18)).toNat)), ((w_i64 (x12 + t18)).toNat - x12.toNat), ((a0.take (w_i64 (x12 + t18)).toNat).drop x12.toNat)⟩ : Sl TNode)]).length) (g.n 0) ((L_x11 ++ [(⟨(viewP p_a0 x12.toNat 4 ((w_i64 (x12 + t18)).toNat)), ((w_i64 (x12 + t18)).toNat - x12.toNat), ((a0.take (w_i64 (x12 + t18)).toNat).drop x12.toNat)⟩ : Sl TNode)]).flatMap enSl)) (fun u19 g => dnK fr E_S_TNode.toPart (L_x11 ++ [(⟨(viewP p_a0 x12.toNat 4 ((w_i64 (x12 + t18)).toNat)), ((w_i64 (x12 + t18)).toNat - x12.toNat), ((a0.take (w_i64 (x12 + t18)).toNat).drop x12.toNat)⟩ : Sl TNode)])) (fun u19 w hF hK => tv_appF (run_app_rowN (t := 36) (ty := 36) (en := enSl) enSl_len inf48 (ow_of hK) hF.2.1 (news := [(⟨(viewP p_a0 x12.toNat 4 ((w_i64 (x12 + t18)).toNat)), ((w_i64 (x12 + t18)).toNat - x12.toNat), ((a0.take (w_i64 (x12 + t18)).toNat).drop x12.toNat)⟩ : Sl TNode)]) rfl (by simp) (by kernel_rfl) (by rw [← map_len h_x11]; exact b21)) (dn_app hF.1 (.head _) ⟨(RowC.lohim (en := en_TNode) (rdF_of hF.2.2.1) en_TNode_len b20), fun _ _ => trivial⟩ (fun j h => (h.elim (fun h => ff_of (.tail _ (.tail _ (.head _))) (fun h => h) (fpRow_low (by simp only [List.length_drop, List.length_take]; omega) h) (rdF_fr hF.2.2.1 _ (fpRow_low (by simp only [List.length_drop, List.length_take]; omega) h))) (fun ⟨_, _, hz⟩ => hz.elim))))) (hloc := fun u u' h => ⟨by first | rfl | simp only [h 6 (by decide)], by first | rfl | simp only [h 6 (by decide)], by first | rfl | simp only [h 6 (by decide)], by first | rfl | simp only [h 6 (by decide)], by first | rfl | simp only [h 6 (by decide)]⟩)) <|
   .cons [3] (ok_val (fun u19 => .slice ((u19 7).o 0) ((L_x11 ++ [(⟨(viewP p_a0 x12.toNat 4 ((w_i64 (x12 + t18)).toNat)), ((w_i64 (x12 + t18)).toNat - x12.toNat), ((a0.take (w_i64 (x12 + t18)).toNat).drop x12.toNat)⟩ : Sl TNode)]).length) ((u19 7).n 0)) 3) <| .nil) fun u19 a w' H => ?_
    replace H := H.kp [0, 3, 5, 10, 11, 30, 32, 900010]
    refine k_rg mixed H (.v 27 (vI (w_i64 (x12 + t18))) <|
   .v 4 (vI (w_i64 (x12 + t18))) <| .nil) fun u22 a w' H => ?_
    replace H := H.kp [0, 3, 4, 10, 11, 30, 32, 900010]
    refine k_rg mixed H (.v 28 (vI (w_i64 (x13 + 1))) <|
   .v 11 (vI (w_i64 (x13 + 1))) <| .nil) fun u23 a w' H => ?_
    replace H := H.kp [0, 3, 4, 10, 11, 30, 32, 900010]
    replace H := H.dup (K := dnK fr E_S_TNode.toPart (L_x11 ++ [(⟨(viewP p_a0 x12.toNat 4 ((w_i64 (x12 + t18)).toNat)), ((w_i64 (x12 + t18)).toNat - x12.toNat), ((a0.take (w_i64 (x12 + t18)).toNat).drop x12.toNat)⟩ : Sl TNode)])) 32 900011 (by kernel_rfl) (fun h => h) (by intro _ _ h; cases h)
    exact ⟨k, Nat.lt_succ_self k, _, _, _, G, ((u19 7).o 0), ((u19 7).n 0), (L_x11 ++ [(⟨(viewP p_a0 x12.toNat 4 ((w_i64 (x12 + t18)).toNat)), ((w_i64 (x12 + t18)).toNat - x12.toNat), ((a0.take (w_i64 (x12 + t18)).toNat).drop x12.toNat)⟩ : Sl TNode)]).length, (L_x11 ++ [(⟨(viewP p_a0 x12.toNat 4 ((w_i64 (x12 + t18)).toNat)), ((w_i64 (x12 + t18)).toNat - x12.toNat), ((a0.take (w_i64 (x12 + t18)).toNat).drop x12.toNat)⟩ : Sl TNode)]), rfl, (map_app h_x11 (⟨(viewP p_a0 x12.toNat 4 ((w_i64 (x12 + t18)).toNat)), ((w_i64 (x12 + t18)).toNat - x12.toNat), ((a0.take (w_i64 (x12 + t18)).toNat).drop x12.toNat)⟩ : Sl TNode)), H.toL _ (by kernel_rfl)⟩
   ·rw [if_neg (nt c24)] at G
    refine k_exit rfl ?_
    obtain rfl := Option.some.inj G
    replace H := H.move (K := owK 48 1 p_x11 L_x11.length c_x11 (L_x11.flatMap enSl)) 900010 900008 (by kernel_rfl) (by intro _ _ h; cases h)
    replace H := H.dup (K := dnK fr E_S_TNode.toPart L_x11) 900011 900009 (by kernel_rfl) (fun h => h) (by intro _ _ h; cases h)
    exact ⟨p_x11, c_x11, L_x11.length, L_x11, rfl, h_x11, H.toL _ (by kernel_rfl)⟩
set_option maxHeartbeats 4000000 in
theorem tape_builder_emit_m.calls (a0_0 : List TInstruction) (a0_1 : List (TInstruction × Int)) (a1 : TInstruction) (b_a0 : Nat) (p_a0_0 : Option Addr) (c_a0_0 : Nat) (b_a0_1 : Nat) (r : Int × List TInstruction × (List (TInstruction × Int))) (w : World) (hB : AllH [gk] w) (hM : OwnH [owK 50 5 p_a0_0 a0_0.length c_a0_0 (a0_0.flatMap en_TInstruction), mpK b_a0_1 ek_TInstruction .i64 a0_1, .blk b_a0 [.slice p_a0_0 a0_0.length c_a0_0, .map (some b_a0_1)] 70] ([gk] ++ []) w) (G : tape_builder_emit_m a0_0 a0_1 a1 = some r) :
  Calls Tryd.prog 31 #[vP b_a0 0, .agg #[vI a1.Op, vI a1.A, vI a1.B, vI a1.C.Lo, vI a1.C.Hi]] w fun e w' => ∃ g : Gh, e = .returned (vI r.1) ∧ But (fpK [owK 50 5 p_a0_0 a0_0.length c_a0_0 (a0_0.flatMap en_TInstruction), mpK b_a0_1 ek_TInstruction .i64 a0_1, .blk b_a0 [.slice p_a0_0 a0_0.length c_a0_0, .map (some b_a0_1)] 70]) w w' ∧ OutOK w.heap.size (fpK [owK 50 5 p_a0_0 a0_0.length c_a0_0 (a0_0.flatMap en_TInstruction), mpK b_a0_1 ek_TInstruction .i64 a0_1, .blk b_a0 [.slice p_a0_0 a0_0.length c_a0_0, .map (some b_a0_1)] 70]) (frI w.heap.size []) [fun _ => owK 50 5 (g.o 0) r.2.1.length (g.n 0) (r.2.1.flatMap en_TInstruction), fun _ => .blk b_a0 [.slice (g.o 0) r.2.1.length (g.n 0), .map (some b_a0_1)] 70, fun _ => mpK b_a0_1 ek_TInstruction .i64 r.2.2] w' := by
 obtain ⟨fr, hfr⟩ : ∃ fr : Nat → Prop, fr = frI w.heap.size [] := ⟨_, rfl⟩
 have hBf : ∀ j, w.heap.size ≤ j → fr j := fun j h => by rw [hfr]; exact .inl h
 refine k_enterY (args := [vP b_a0 0, .agg #[vI a1.Op, vI a1.A, vI a1.B, vI a1.C.Lo, vI a1.C.Hi]]) 43 [(999999, gk)] [(44, owK 50 5 p_a0_0 a0_0.length c_a0_0 (a0_0.flatMap en_TInstruction)), (45, mpK b_a0_1 ek_TInstruction .i64 a0_1), (43, .blk b_a0 [.slice p_a0_0 a0_0.length c_a0_0, .map (some b_a0_1)] 70)] (ownH_fps hM (by rfl)) (by
  intro x hx
  simp only [List.mem_cons, List.not_mem_nil, or_false] at hx
  rcases hx with rfl
  exact ⟨⟨_, _, rfl⟩, hB.1, glob_in (glob_of hB.1)⟩) (by rfl) Tryd.func31 rfl (by kernel_rfl) (by kernel_rfl) fun a H => ?_
 unfold tape_builder_emit_m at G
 refine k_seq ?_
 refine k_rg mixed H (.cons [3, 46] (ok_new (fun b => vP b 0) (fun u1 => [vI a1.Op, vI a1.A, vI a1.B, vI a1.C.Lo, vI a1.C.Hi]) 50 3 46) <|
   .v 4 (vI 0) <| .nil) fun u1 a w' H => ?_
 replace H := H.kp [0, 3, 43, 44, 45, 46, 999999, 999998]
 refine k_seq ?_
 refine k_seq ?_
 replace G := bnd G; obtain ⟨z3, hz3, G⟩ := G
 replace hz3 := Option.some.inj hz3
 refine k_rg mixed H (.v 9 (vP b_a0 0) <|
   .v 10 (vP b_a0 0) <|
   .v 11 (vP b_a0 1) <|
   .cons [12] (ok_ld (fun u2 => .map (some b_a0_1)) 12 43 1 1 (fun u2 => b_a0) (fun u2 => [.slice p_a0_0 a0_0.length c_a0_0, .map (some b_a0_1)]) 70) <|
   .cons [13] (ok_ld (fun u2 => .agg #[vI a1.Op, vI a1.A, vI a1.B, vI a1.C.Lo, vI a1.C.Hi]) 13 46 0 5 (fun u2 => ((u1 0).n 0)) (fun u2 => [vI a1.Op, vI a1.A, vI a1.B, vI a1.C.Lo, vI a1.C.Hi]) 50) <|
   .cons [14] (ok_valL [45] (fun u2 => [mpK b_a0_1 ek_TInstruction .i64 a0_1]) (fun u2 => .tuple #[vI ((mget a0_1 (⟨a1.Op, a1.A, a1.B, (⟨a1.C.Lo, a1.C.Hi⟩ : TInterval)⟩ : TInstruction)).getD 0), .bool ((mget a0_1 (⟨a1.Op, a1.A, a1.B, (⟨a1.C.Lo, a1.C.Hi⟩ : TInterval)⟩ : TInstruction)).isSome)]) (fun u2 => true) [true, true] 14 (fun u2 w hg hF => r_mlook (t := 68) (e := 3) (x := (⟨a1.Op, a1.A, a1.B, (⟨a1.C.Lo, a1.C.Hi⟩ : TInterval)⟩ : TInstruction)) kek_TInstruction (ob_of hF.1))) <|
   .v 8 (.tuple #[vI ((mget a0_1 (⟨a1.Op, a1.A, a1.B, (⟨a1.C.Lo, a1.C.Hi⟩ : TInterval)⟩ : TInstruction)).getD 0), .bool ((mget a0_1 (⟨a1.Op, a1.A, a1.B, (⟨a1.C.Lo, a1.C.Hi⟩ : TInterval)⟩ : TInstruction)).isSome)]) <|
   .cons [15] (ok_as (u' := fun u2 => [(15, sI z3)]) (ok_val (fun u2 => vI ((mget a0_1 (⟨a1.Op, a1.A, a1.B, (⟨a1.C.Lo, a1.C.Hi⟩ : TInterval)⟩ : TInstruction)).getD 0)) 15) (fun _ => by rw [← hz3])) <|
   .v 16 (.bool ((mget a0_1 (⟨a1.Op, a1.A, a1.B, (⟨a1.C.Lo, a1.C.Hi⟩ : TInterval)⟩ : TInstruction)).isSome)) <|
   .v 5 (vI z3) <|
   .v 6 (.bool ((mget a0_1 (⟨a1.Op, a1.A, a1.B, (⟨a1.C.Lo, a1.C.Hi⟩ : TInterval)⟩ : TInstruction)).isSome)) <| .nil) fun u2 a w' H => ?_
 replace H := H.kp [0, 3, 5, 6, 43, 44, 45, 46, 999999, 999998]
 refine k_seq ?_
 refine k_rg mixed H (.v 17 (.bool ((mget a0_1 (⟨a1.Op, a1.A, a1.B, (⟨a1.C.Lo, a1.C.Hi⟩ : TInterval)⟩ : TInstruction)).isSome)) <| .nil) fun u4 a w' H => ?_
 replace H := H.kp [0, 3, 5, 17, 43, 44, 45, 46, 999999, 999998]
 refine k_cond H (by kernel_rfl) (t := (mget a0_1 (⟨a1.Op, a1.A, a1.B, (⟨a1.C.Lo, a1.C.Hi⟩ : TInterval)⟩ : TInstruction)).isSome) (by kernel_rfl) (fun c11 => ?_) (fun c11 => ?_)
 ·rw [if_pos c11] at G
  refine k_seq ?_
  refine k_rg mixed H (.v 18 (vI z3) <|
   .v 4 (vI z3) <| .nil) fun u5 a w' H => ?_
  replace H := H.kp [4, 43, 44, 45, 999999, 999998]
  refine k_ret ?_
  obtain rfl := Option.some.inj G
  obtain ⟨g, o0, n0⟩ : ∃ g : Gh, g.o 0 = p_a0_0 ∧ g.n 0 = c_a0_0 := ⟨⟨fun i => [c_a0_0].getD i 0, fun i => [p_a0_0].getD i none, fun i => ([⟨Unit, ()⟩] : List ((T : Type) × T)).getD i ⟨Unit, ()⟩⟩, rfl, rfl⟩
  refine k_doneZ H (fun g => vI z3) g [owK 50 5 p_a0_0 a0_0.length c_a0_0 (a0_0.flatMap en_TInstruction), mpK b_a0_1 ek_TInstruction .i64 a0_1, .blk b_a0 [.slice p_a0_0 a0_0.length c_a0_0, .map (some b_a0_1)] 70] [] (fun g => [fun _ => owK 50 5 (g.o 0) a0_0.length (g.n 0) (a0_0.flatMap en_TInstruction), fun _ => .blk b_a0 [.slice (g.o 0) a0_0.length (g.n 0), .map (some b_a0_1)] 70, fun _ => mpK b_a0_1 ek_TInstruction .i64 a0_1]) fr [44, 43, 45] [] (vI z3) [fun _ => owK 50 5 p_a0_0 a0_0.length c_a0_0 (a0_0.flatMap en_TInstruction), fun _ => .blk b_a0 [.slice p_a0_0 a0_0.length c_a0_0, .map (some b_a0_1)] 70, fun _ => mpK b_a0_1 ek_TInstruction .i64 a0_1] (by simp only [o0, n0]) (by simp only [o0, n0]) hfr (.inr (by kernel_rfl)) (fams_cons fam_ow (fams_cons fam_blk (fams_cons fam_ob fams_nil))) (by simp)
 ·rw [if_neg (nt c11)] at G
  refine k_skip ?_
  refine k_seq ?_
  refine k_rg mixed H (.v 19 (vP b_a0 0) <|
   .v 20 (vP b_a0 0) <|
   .v 21 (vP b_a0 0) <|
   .cons [22] (ok_ld (fun u6 => .slice p_a0_0 a0_0.length c_a0_0) 22 43 0 1 (fun u6 => b_a0) (fun u6 => [.slice p_a0_0 a0_0.length c_a0_0, .map (some b_a0_1)]) 70) <|
   .v 23 (vI (a0_0.length : Int)) <|
   .v 7 (vI (a0_0.length : Int)) <| .nil) fun u6 a w' H => ?_
  replace H := H.kp [0, 3, 7, 43, 44, 45, 46, 999999, 999998]
  refine k_seq ?_
  replace G := gd G; obtain ⟨b8, G⟩ := G
  replace G := gd G; obtain ⟨b9, G⟩ := G
  refine k_rg mixed H (.v 24 (vP b_a0 0) <|
   .v 25 (vP b_a0 0) <|
   .v 26 (vP b_a0 0) <|
   .v 27 (vP b_a0 1) <|
   .cons [28] (ok_ld (fun u7 => .map (some b_a0_1)) 28 43 1 1 (fun u7 => b_a0) (fun u7 => [.slice p_a0_0 a0_0.length c_a0_0, .map (some b_a0_1)]) 70) <|
   .cons [29] (ok_ld (fun u7 => .agg #[vI a1.Op, vI a1.A, vI a1.B, vI a1.C.Lo, vI a1.C.Hi]) 29 46 0 5 (fun u7 => ((u1 0).n 0)) (fun u7 => [vI a1.Op, vI a1.A, vI a1.B, vI a1.C.Lo, vI a1.C.Hi]) 50) <|
   .v 30 (vP b_a0 0) <|
   .v 31 (vP b_a0 0) <|
   .v 32 (vP b_a0 0) <|
   .cons [33] (ok_ld (fun u7 => .slice p_a0_0 a0_0.length c_a0_0) 33 43 0 1 (fun u7 => b_a0) (fun u7 => [.slice p_a0_0 a0_0.length c_a0_0, .map (some b_a0_1)]) 70) <|
   .cons [34] (ok_ld (fun u7 => .agg #[vI a1.Op, vI a1.A, vI a1.B, vI a1.C.Lo, vI a1.C.Hi]) 34 46 0 5 (fun u7 => ((u1 0).n 0)) (fun u7 => [vI a1.Op, vI a1.A, vI a1.B, vI a1.C.Lo, vI a1.C.Hi]) 50) <|
   .cons [35, 47] (ok_new (fun b => .slice (some ⟨b, 0, none⟩) 1 1) (fun u7 => [vI a1.Op, vI a1.A, vI a1.B, vI a1.C.Lo, vI a1.C.Hi]) 50 35 47) <|
   .cons [36, 44, 44] (ok_own1 [11] [47] (fun u7 => [.blk ((u7 11).n 0) [vI a1.Op, vI a1.A, vI a1.B, vI a1.C.Lo, vI a1.C.Hi] 50]) 44 (fun u7 => owK 50 5 p_a0_0 a0_0.length c_a0_0 (a0_0.flatMap en_TInstruction)) (some 36) (fun u7 g => .slice (g.o 0) (a0_0 ++ [(⟨a1.Op, a1.A, a1.B, (⟨a1.C.Lo, a1.C.Hi⟩ : TInterval)⟩ : TInstruction)]).length (g.n 0)) (fun u7 g => owK 50 5 (g.o 0) ((a0_0 ++ [(⟨a1.Op, a1.A, a1.B, (⟨a1.C.Lo, a1.C.Hi⟩ : TInterval)⟩ : TInstruction)]).length) (g.n 0) ((a0_0 ++ [(⟨a1.Op, a1.A, a1.B, (⟨a1.C.Lo, a1.C.Hi⟩ : TInterval)⟩ : TInstruction)]).flatMap en_TInstruction)) (fun u7 w hF hK => tv_app (run_app_rowN (t := 22) (ty := 22) (en := en_TInstruction) en_TInstruction_len inf50 (ow_of hK) hF.1 (news := [(⟨a1.Op, a1.A, a1.B, (⟨a1.C.Lo, a1.C.Hi⟩ : TInterval)⟩ : TInstruction)]) rfl (by simp) (by kernel_rfl) b8)) (hloc := fun u u' h => ⟨by first | rfl | simp only [h 11 (by decide)], by first | rfl | simp only [h 11 (by decide)], by first | rfl | simp only [h 11 (by decide)], by first | rfl | simp only [h 11 (by decide)]⟩)) <|
   .v 37 (vI (a0_0.length : Int)) <|
   .v 38 (vP b_a0 0) <|
   .v 39 (vP b_a0 0) <|
   .cons [43] (ok_as (u' := fun u7 => [(43, .blk b_a0 [.slice ((u7 12).o 0) ((a0_0 ++ [(⟨a1.Op, a1.A, a1.B, (⟨a1.C.Lo, a1.C.Hi⟩ : TInterval)⟩ : TInstruction)]).length) ((u7 12).n 0), .map (some b_a0_1)] 70)]) (ok_store 43 0 (fun u7 => b_a0) (fun u7 => [.slice p_a0_0 a0_0.length c_a0_0, .map (some b_a0_1)]) (fun u7 => [.slice ((u7 12).o 0) ((a0_0 ++ [(⟨a1.Op, a1.A, a1.B, (⟨a1.C.Lo, a1.C.Hi⟩ : TInterval)⟩ : TInstruction)]).length) ((u7 12).n 0)]) 70) (fun _ => by kernel_rfl)) <|
   .cons [40, 45, 45] (ok_own1 [] [] (fun u7 => []) 45 (fun u7 => mpK b_a0_1 ek_TInstruction .i64 a0_1) (some 40) (fun u7 g => .tuple #[vI 0, vI (a0_1.length : Int)]) (fun u7 g => mpK b_a0_1 ek_TInstruction .i64 (a0_1 ++ [((⟨a1.Op, a1.A, a1.B, (⟨a1.C.Lo, a1.C.Hi⟩ : TInterval)⟩ : TInstruction), 0)])) (fun u7 w hF hK => tv_ob hK (r_ment (t := 68) (e := 3) (x := (⟨a1.Op, a1.A, a1.B, (⟨a1.C.Lo, a1.C.Hi⟩ : TInterval)⟩ : TInstruction)) kek_TInstruction (ob_of hK) b9))) <|
   .v 41 (vI (a0_1.length : Int)) <|
   .cons [45, 45] (ok_own1 [] [] (fun u7 => []) 45 (fun u7 => mpK b_a0_1 ek_TInstruction .i64 (a0_1 ++ [((⟨a1.Op, a1.A, a1.B, (⟨a1.C.Lo, a1.C.Hi⟩ : TInterval)⟩ : TInstruction), 0)])) none (fun u7 g => .nilFunc) (fun u7 g => mpK b_a0_1 ek_TInstruction .i64 (a0_1 ++ [((⟨a1.Op, a1.A, a1.B, (⟨a1.C.Lo, a1.C.Hi⟩ : TInterval)⟩ : TInstruction), (a0_0.length : Int))])) (fun u7 w hF hK => tv_ob hK (r_mest (t := 68) (l := a0_1) (x := (⟨a1.Op, a1.A, a1.B, (⟨a1.C.Lo, a1.C.Hi⟩ : TInterval)⟩ : TInstruction)) (ob_of hK)))) <| .nil) fun u7 a w' H => ?_
  replace H := H.kp [7, 43, 44, 45, 999999, 999998]
  refine k_seq ?_
  refine k_rg mixed H (.v 42 (vI (a0_0.length : Int)) <|
   .v 4 (vI (a0_0.length : Int)) <| .nil) fun u10 a w' H => ?_
  replace H := H.kp [4, 43, 44, 45, 999999, 999998]
  refine k_ret ?_
  obtain rfl := Option.some.inj G
  obtain ⟨g, o0, n0⟩ : ∃ g : Gh, g.o 0 = ((u7 12).o 0) ∧ g.n 0 = ((u7 12).n 0) := ⟨⟨fun i => [((u7 12).n 0)].getD i 0, fun i => [((u7 12).o 0)].getD i none, fun i => ([⟨Unit, ()⟩] : List ((T : Type) × T)).getD i ⟨Unit, ()⟩⟩, rfl, rfl⟩
  refine k_doneZ H (fun g => vI (a0_0.length : Int)) g [owK 50 5 p_a0_0 a0_0.length c_a0_0 (a0_0.flatMap en_TInstruction), mpK b_a0_1 ek_TInstruction .i64 a0_1, .blk b_a0 [.slice p_a0_0 a0_0.length c_a0_0, .map (some b_a0_1)] 70] [] (fun g => [fun _ => owK 50 5 (g.o 0) ((a0_0 ++ [(⟨a1.Op, a1.A, a1.B, (⟨a1.C.Lo, a1.C.Hi⟩ : TInterval)⟩ : TInstruction)]).length) (g.n 0) ((a0_0 ++ [(⟨a1.Op, a1.A, a1.B, (⟨a1.C.Lo, a1.C.Hi⟩ : TInterval)⟩ : TInstruction)]).flatMap en_TInstruction), fun _ => .blk b_a0 [.slice (g.o 0) ((a0_0 ++ [(⟨a1.Op, a1.A, a1.B, (⟨a1.C.Lo, a1.C.Hi⟩ : TInterval)⟩ : TInstruction)]).length) (g.n 0), .map (some b_a0_1)] 70, fun _ => mpK b_a0_1 ek_TInstruction .i64 (a0_1 ++ [((⟨a1.Op, a1.A, a1.B, (⟨a1.C.Lo, a1.C.Hi⟩ : TInterval)⟩ : TInstruction), (a0_0.length : Int))])]) fr [44, 43, 45] [] (vI (a0_0.length : Int)) [fun _ => owK 50 5 ((u7 12).o 0) ((a0_0 ++ [(⟨a1.Op, a1.A, a1.B, (⟨a1.C.Lo, a1.C.Hi⟩ : TInterval)⟩ : TInstruction)]).length) ((u7 12).n 0) ((a0_0 ++ [(⟨a1.Op, a1.A, a1.B, (⟨a1.C.Lo, a1.C.Hi⟩ : TInterval)⟩ : TInstruction)]).flatMap en_TInstruction), fun _ => .blk b_a0 [.slice ((u7 12).o 0) ((a0_0 ++ [(⟨a1.Op, a1.A, a1.B, (⟨a1.C.Lo, a1.C.Hi⟩ : TInterval)⟩ : TInstruction)]).length) ((u7 12).n 0), .map (some b_a0_1)] 70, fun _ => mpK b_a0_1 ek_TInstruction .i64 (a0_1 ++ [((⟨a1.Op, a1.A, a1.B, (⟨a1.C.Lo, a1.C.Hi⟩ : TInterval)⟩ : TInstruction), (a0_0.length : Int))])] (by simp only [o0, n0]) (by simp only [o0, n0]) hfr (.inr (by kernel_rfl)) (fams_cons fam_ow (fams_cons fam_blk (fams_cons fam_ob fams_nil))) (by simp)
set_option maxHeartbeats 4000000 in
theorem tape_Compile_1_m.calls : ∀ (k0 : Nat) (a0 : List TNode) (q1_0_0 : List TInstruction) (q1_0_1 : List (TInstruction × Int)) (p_a0 : Option Addr) (c_a0 : Nat) (b_q0 : Nat) (b_q1 : Nat) (b_q1_0 : Nat) (p_q1_0_0 : Option Addr) (c_q1_0_0 : Nat) (b_q1_0_1 : Nat) (r : Int × List TInstruction × (List (TInstruction × Int))) (w : World) (hB : AllH [bxK b_q0 [.func (.func 29) #[] #[vP b_q0 0, vP b_q1 0]] 71, bxK b_q1 [vP b_q1_0 0] 67, gk] w) (hF : AllH [rdl anyF 4 p_a0 c_a0 a0 en_TNode] w) (hM : OwnH [owK 50 5 p_q1_0_0 q1_0_0.length c_q1_0_0 (q1_0_0.flatMap en_TInstruction), mpK b_q1_0_1 ek_TInstruction .i64 q1_0_1, .blk b_q1_0 [.slice p_q1_0_0 q1_0_0.length c_q1_0_0, .map (some b_q1_0_1)] 70] ([bxK b_q0 [.func (.func 29) #[] #[vP b_q0 0, vP b_q1 0]] 71, bxK b_q1 [vP b_q1_0 0] 67, gk] ++ [rdl anyF 4 p_a0 c_a0 a0 en_TNode]) w) (G : tape_Compile_1_m k0 a0 q1_0_0 q1_0_1 = some r),
  Calls Tryd.prog 29 #[.slice p_a0 a0.length c_a0, vP b_q0 0, vP b_q1 0] w fun e w' => ∃ g : Gh, e = .returned (vI r.1) ∧ But (fpK [owK 50 5 p_q1_0_0 q1_0_0.length c_q1_0_0 (q1_0_0.flatMap en_TInstruction), mpK b_q1_0_1 ek_TInstruction .i64 q1_0_1, .blk b_q1_0 [.slice p_q1_0_0 q1_0_0.length c_q1_0_0, .map (some b_q1_0_1)] 70]) w w' ∧ OutOK w.heap.size (fpK [owK 50 5 p_q1_0_0 q1_0_0.length c_q1_0_0 (q1_0_0.flatMap en_TInstruction), mpK b_q1_0_1 ek_TInstruction .i64 q1_0_1, .blk b_q1_0 [.slice p_q1_0_0 q1_0_0.length c_q1_0_0, .map (some b_q1_0_1)] 70]) (frI w.heap.size [rdl anyF 4 p_a0 c_a0 a0 en_TNode]) [fun _ => owK 50 5 (g.o 0) r.2.1.length (g.n 0) (r.2.1.flatMap en_TInstruction), fun _ => .blk b_q1_0 [.slice (g.o 0) r.2.1.length (g.n 0), .map (some b_q1_0_1)] 70, fun _ => mpK b_q1_0_1 ek_TInstruction .i64 r.2.2] w' := by
 intro k0
 induction k0 with
 | zero => intros; rename_i G; exact absurd G (by unfold tape_Compile_1_m; exact fun h => by cases h)
 | succ k0 IH => ?_
 intro a0 q1_0_0 q1_0_1 p_a0 c_a0 b_q0 b_q1 b_q1_0 p_q1_0_0 c_q1_0_0 b_q1_0_1 r w hB hF hM G
 obtain ⟨fr, hfr⟩ : ∃ fr : Nat → Prop, fr = frI w.heap.size [rdl anyF 4 p_a0 c_a0 a0 en_TNode] := ⟨_, rfl⟩
 have hBf : ∀ j, w.heap.size ≤ j → fr j := fun j h => by rw [hfr]; exact .inl h
 refine k_enterY (args := [.slice p_a0 a0.length c_a0, vP b_q0 0, vP b_q1 0]) 47 [(48, bxK b_q0 [.func (.func 29) #[] #[vP b_q0 0, vP b_q1 0]] 71), (49, bxK b_q1 [vP b_q1_0 0] 67), (999999, gk), (47, rdl fr 4 p_a0 c_a0 a0 en_TNode)] [(51, owK 50 5 p_q1_0_0 q1_0_0.length c_q1_0_0 (q1_0_0.flatMap en_TInstruction)), (52, mpK b_q1_0_1 ek_TInstruction .i64 q1_0_1), (50, .blk b_q1_0 [.slice p_q1_0_0 q1_0_0.length c_q1_0_0, .map (some b_q1_0_1)] 70)] (ownH_fps hM (by rfl)) (by
  intro x hx
  simp only [List.mem_cons, List.not_mem_nil, or_false] at hx
  rcases hx with rfl | rfl | rfl | rfl
  ·exact bx_fact (hB.1 w (agree.refl _ _)) _
  ·exact bx_fact (hB.2.1 w (agree.refl _ _)) _
  ·exact ⟨⟨_, _, rfl⟩, hB.2.2.1, glob_in (glob_of hB.2.2.1)⟩
  ·exact rdF_fact (rdF_of hF.1) (fun j h => by rw [hfr]; exact .inr ⟨_, (.head _), h⟩) (by decide) _) (by rfl) Tryd.func29 rfl (by kernel_rfl) (by kernel_rfl) fun a H => ?_
 unfold tape_Compile_1_m at G
 generalize tape_Compile_1_m k0 = rec at G IH
 unfold tape_Compile_1_m.body at G
 refine k_seq ?_
 refine k_rg mixed H (.v 4 (vI 0) <| .nil) fun u1 a w' H => ?_
 replace H := H.kp [0, 1, 2, 47, 50, 51, 52, 48, 49, 999999, 999998]
 refine k_seq ?_
 replace G := gd G; obtain ⟨b3, G⟩ := G
 replace G := bnd G; obtain ⟨t4, ht4, G⟩ := G
 have P5 := ptr_of (en := en_TNode) (l := a0) (rdF_of (H.at (K := rdl fr 4 p_a0 c_a0 a0 en_TNode) 47 (by kernel_rfl))).2 en_TNode_len
 replace G := gd G; obtain ⟨b6, G⟩ := G
 replace G := bnd G; obtain ⟨t7, ht7, G⟩ := G
 refine k_rg mixed H (.v 9 (.slice p_a0 a0.length c_a0) <|
   .cons [10] (ok_val (fun u2 => .pointer (some ⟨hdB p_a0, hdO p_a0 + ((0 : Int).toNat) * 4, none⟩)) 10 (hv := fun _ _ => ix_pure (t := 48) (k := .i64) (i := (0 : Int)) (p := p_a0) (n := a0.length) (cap := c_a0) (x := a0) P5 rfl b3 (by kernel_rfl))) <|
   .v 11 (.pointer (some ⟨hdB p_a0, hdO p_a0 + ((0 : Int).toNat) * 4 + 0, none⟩)) <|
   .cons [12] (ok_valL [47] (fun u2 => [rdl fr 4 p_a0 c_a0 a0 en_TNode]) (fun u2 => vI t4.Op) (fun u2 => true) [true] 12 (fun u2 w hg hF => ld_row (en := en_TNode) (rdF_of hF.1).2 en_TNode_len ht4 0 1 [vI t4.Op] rfl (by kernel_rfl))) <|
   .v 13 (.slice p_a0 a0.length c_a0) <|
   .cons [14] (ok_val (fun u2 => .pointer (some ⟨hdB p_a0, hdO p_a0 + ((0 : Int).toNat) * 4, none⟩)) 14 (hv := fun _ _ => ix_pure (t := 48) (k := .i64) (i := (0 : Int)) (p := p_a0) (n := a0.length) (cap := c_a0) (x := a0) P5 rfl b6 (by kernel_rfl))) <|
   .v 15 (.pointer (some ⟨hdB p_a0, hdO p_a0 + ((0 : Int).toNat) * 4 + 2, none⟩)) <|
   .cons [16] (ok_valL [47] (fun u2 => [rdl fr 4 p_a0 c_a0 a0 en_TNode]) (fun u2 => .agg #[vI t7.C.Lo, vI t7.C.Hi]) (fun u2 => true) [true] 16 (fun u2 w hg hF => ld_row (en := en_TNode) (rdF_of hF.1).2 en_TNode_len ht7 2 2 [vI t7.C.Lo, vI t7.C.Hi] rfl (by kernel_rfl))) <|
   .v 17 (.agg #[vI t4.Op, vI 0, vI 0, vI t7.C.Lo, vI t7.C.Hi]) <|
   .cons [5, 53] (ok_new (fun b => vP b 0) (fun u2 => [vI 0, vI 0, vI 0, vI 0, vI 0]) 50 5 53) <|
   .cons [53] (ok_as (u' := fun u2 => [(53, .blk ((u2 9).n 0) [vI t4.Op, vI 0, vI 0, vI t7.C.Lo, vI t7.C.Hi] 50)]) (ok_store 53 0 (fun u2 => ((u2 9).n 0)) (fun u2 => [vI 0, vI 0, vI 0, vI 0, vI 0]) (fun u2 => [vI t4.Op, vI 0, vI 0, vI t7.C.Lo, vI t7.C.Hi]) 50) (fun _ => by kernel_rfl)) <| .nil) fun u2 a w' H => ?_
 replace H := H.kp [0, 1, 2, 5, 47, 50, 51, 52, 53, 48, 49, 999999, 999998]
 refine k_seq ?_
 replace G := bnd G; obtain ⟨j9, hj9, G⟩ := G
 refine k_join (fun a w' => Rep 0 w 47 (ofL [(0, sS p_a0 a0.length c_a0), (1, sP b_q0 0), (2, sP b_q1 0), (5, (sP ((u2 9).n 0) 0)), (47, rdl fr 4 p_a0 c_a0 a0 en_TNode), (50, .blk b_q1_0 [.slice p_q1_0_0 q1_0_0.length c_q1_0_0, .map (some b_q1_0_1)] 70), (51, owK 50 5 p_q1_0_0 q1_0_0.length c_q1_0_0 (q1_0_0.flatMap en_TInstruction)), (52, mpK b_q1_0_1 ek_TInstruction .i64 q1_0_1), (53, .blk ((u2 9).n 0) [vI t4.Op, vI j9, vI 0, vI t7.C.Lo, vI t7.C.Hi] 50), (48, bxK b_q0 [.func (.func 29) #[] #[vP b_q0 0, vP b_q1 0]] 71), (49, bxK b_q1 [vP b_q1_0 0] 67), (999999, gk), (999998, frM [owK 50 5 p_q1_0_0 q1_0_0.length c_q1_0_0 (q1_0_0.flatMap en_TInstruction), mpK b_q1_0_1 ek_TInstruction .i64 q1_0_1, .blk b_q1_0 [.slice p_q1_0_0 q1_0_0.length c_q1_0_0, .map (some b_q1_0_1)] 70] w)]) a w') ?_ ?_
 ·clear H; intro a w' H
  refine k_seq ?_
  replace G := bnd G; obtain ⟨j14, hj14, G⟩ := G
  refine k_join (fun a w' => ∃ (p_j10 : Option Addr) (c_j10 np_j10 : Nat), np_j10 = j14.1.length ∧ Rep 0 w 47 (ofL [(2, sP b_q1 0), (5, (sP ((u2 9).n 0) 0)), (50, .blk b_q1_0 [.slice p_j10 np_j10 c_j10, .map (some b_q1_0_1)] 70), (52, mpK b_q1_0_1 ek_TInstruction .i64 j14.2.2.2), (53, .blk ((u2 9).n 0) [vI t4.Op, vI j14.2.1, vI j14.2.2.1, vI t7.C.Lo, vI t7.C.Hi] 50), (900013, owK 50 5 p_j10 np_j10 c_j10 (j14.1.flatMap en_TInstruction)), (48, bxK b_q0 [.func (.func 29) #[] #[vP b_q0 0, vP b_q1 0]] 71), (49, bxK b_q1 [vP b_q1_0 0] 67), (999999, gk), (999998, frM [owK 50 5 p_q1_0_0 q1_0_0.length c_q1_0_0 (q1_0_0.flatMap en_TInstruction), mpK b_q1_0_1 ek_TInstruction .i64 q1_0_1, .blk b_q1_0 [.slice p_q1_0_0 q1_0_0.length c_q1_0_0, .map (some b_q1_0_1)] 70] w)]) a w') ?_ ?_
  ·clear H; rintro a w' ⟨p_j10, c_j10, _, rfl, H⟩
   refine k_seq ?_
   replace G := bnd G; obtain ⟨t16, ht16, G⟩ := G
   refine k_rg mixed H (.cons [44] (ok_ldK (fun u15 => vP b_q1_0 0) 44 49 (bxK b_q1 [vP b_q1_0 0] 67) b_q1 0 1 [vP b_q1_0 0] (fun w h => bx_of h)) <|
   .cons [45] (ok_ld (fun u15 => .agg #[vI t4.Op, vI j14.2.1, vI j14.2.2.1, vI t7.C.Lo, vI t7.C.Hi]) 45 53 0 5 (fun u15 => ((u2 9).n 0)) (fun u15 => [vI t4.Op, vI j14.2.1, vI j14.2.2.1, vI t7.C.Lo, vI t7.C.Hi]) 50) <|
   .cons [46, 900013, 52, 50, 54, 50, 52] (ok_callY false fr [] [999999] (fun u15 => [gk]) [900013, 52, 50] (fun u15 => [owK 50 5 p_j10 j14.1.length c_j10 (j14.1.flatMap en_TInstruction), mpK b_q1_0_1 ek_TInstruction .i64 j14.2.2.2, .blk b_q1_0 [.slice p_j10 j14.1.length c_j10, .map (some b_q1_0_1)] 70]) 31 (fun u15 => #[vP b_q1_0 0, .agg #[vI t4.Op, vI j14.2.1, vI j14.2.2.1, vI t7.C.Lo, vI t7.C.Hi]]) (fun u15 => [gk]) (fun u15 => []) (fun u15 g => vI t16.1) (fun u15 g => [fun _ => owK 50 5 (g.o 0) t16.2.1.length (g.n 0) (t16.2.1.flatMap en_TInstruction), fun _ => .blk b_q1_0 [.slice (g.o 0) t16.2.1.length (g.n 0), .map (some b_q1_0_1)] 70, fun _ => mpK b_q1_0_1 ek_TInstruction .i64 t16.2.2]) [54, 50, 52] 46 (fun u15 w hB hF hM => tape_builder_emit_m.calls j14.1 j14.2.2.2 (⟨t4.Op, j14.2.1, j14.2.2.1, (⟨t7.C.Lo, t7.C.Hi⟩ : TInterval)⟩ : TInstruction) b_q1_0 p_j10 c_j10 b_q1_0_1 t16 w  hB hM ht16) (fun u15 w hF => ⟨⟨sub_k hF.1 (.head _), trivial⟩, trivial⟩) (fun u15 g => (fams_cons fam_ow (fams_cons fam_blk (fams_cons fam_ob fams_nil)))) (.inr (fun u15 g => (famx_cons trivial (famx_cons trivial (famx_cons trivial (fun K h => by cases h)))))) (fun h => by cases h)) <|
   .v 4 (vI t16.1) <| .nil) fun u15 a w' H => ?_
   replace H := H.kp [4, 50, 52, 54, 48, 49, 999999, 999998]
   refine k_ret ?_
   obtain rfl := Option.some.inj G
   obtain ⟨g, o0, n0⟩ : ∃ g : Gh, g.o 0 = ((u15 2).o 0) ∧ g.n 0 = ((u15 2).n 0) := ⟨⟨fun i => [((u15 2).n 0)].getD i 0, fun i => [((u15 2).o 0)].getD i none, fun i => ([⟨Unit, ()⟩] : List ((T : Type) × T)).getD i ⟨Unit, ()⟩⟩, rfl, rfl⟩
   refine k_doneZ H (fun g => vI t16.1) g [owK 50 5 p_q1_0_0 q1_0_0.length c_q1_0_0 (q1_0_0.flatMap en_TInstruction), mpK b_q1_0_1 ek_TInstruction .i64 q1_0_1, .blk b_q1_0 [.slice p_q1_0_0 q1_0_0.length c_q1_0_0, .map (some b_q1_0_1)] 70] [rdl anyF 4 p_a0 c_a0 a0 en_TNode] (fun g => [fun _ => owK 50 5 (g.o 0) t16.2.1.length (g.n 0) (t16.2.1.flatMap en_TInstruction), fun _ => .blk b_q1_0 [.slice (g.o 0) t16.2.1.length (g.n 0), .map (some b_q1_0_1)] 70, fun _ => mpK b_q1_0_1 ek_TInstruction .i64 t16.2.2]) fr [54, 50, 52] [] (vI t16.1) [fun _ => owK 50 5 ((u15 2).o 0) t16.2.1.length ((u15 2).n 0) (t16.2.1.flatMap en_TInstruction), fun _ => .blk b_q1_0 [.slice ((u15 2).o 0) t16.2.1.length ((u15 2).n 0), .map (some b_q1_0_1)] 70, fun _ => mpK b_q1_0_1 ek_TInstruction .i64 t16.2.2] (by simp only [o0, n0]) (by simp only [o0, n0]) hfr (.inr (by kernel_rfl)) (fams_cons fam_ow (fams_cons fam_blk (fams_cons fam_ob fams_nil))) (by simp)
  ·clear G; replace G := hj14; clear hj14
   refine k_seq ?_
   replace G := bnd G; obtain ⟨t18, ht18, G⟩ := G
   refine k_rg mixed H (.v 26 (.slice p_a0 a0.length c_a0) <|
   .cons [27, 55, 56] (ok_callY true fr [] [47] (fun u17 => [rdl fr 4 p_a0 c_a0 a0 en_TNode]) [] (fun u17 => []) 30 (fun u17 => #[.slice p_a0 a0.length c_a0]) (fun u17 => []) (fun u17 => [rdl anyF 4 p_a0 c_a0 a0 en_TNode]) (fun u17 g => .slice (g.o 0) ((g.dl Sl.l gd_S_TNode 0 t18).length) (g.n 0)) (fun u17 g => [fun _ => owK 48 1 (g.o 0) ((g.dl Sl.l gd_S_TNode 0 t18).length) (g.n 0) ((g.dl Sl.l gd_S_TNode 0 t18).flatMap enSl), fun fr => dnK fr E_S_TNode.toPart (g.dl Sl.l gd_S_TNode 0 t18)]) [55, 56] 27 (fun u17 w hB hF hM => ode_Operands.calls k0 a0 p_a0 c_a0 t18 w  hF ht18) (fun u17 w hF => ⟨trivial, ⟨sub_rd1 (rdF_of hF.1) (fun j h => ff_of (.head _) (fun h => h) h (rdF_fr hF.1 _ h)), trivial⟩⟩) (fun u17 g => (fams_cons fam_ow (fams_cons fam_dn fams_nil))) (.inl rfl) (fun _ => hBf)) <|
   .cons [28] (ok_valL [55] (fun u17 => [owK 48 1 ((u17 1).o 0) (((u17 1).dl Sl.l gd_S_TNode 0 t18).length) ((u17 1).n 0) (((u17 1).dl Sl.l gd_S_TNode 0 t18).flatMap enSl)]) (fun u17 => vI (t18.length : Int)) (fun u17 => true) [true] 28 (fun u17 w hg hF => run_lenN (((owns_rowC (ow_of hF.1)).2.len enSl_len (by decide)).trans (map_len (dl_er ergd_S_TNode (u17 1) 0 t18)).symm) (by kernel_rfl))) <|
   .v 29 (vI 0) <| .nil) fun u17 a w' H => ?_
   replace H := H.kp [1, 2, 5, 27, 28, 29, 50, 51, 52, 53, 55, 56, 48, 49, 999999, 999998]
   refine k_block ?_
   replace H := H.move (K := owK 50 5 p_q1_0_0 q1_0_0.length c_q1_0_0 (q1_0_0.flatMap en_TInstruction)) 51 900014 (by kernel_rfl) (by intro _ _ h; cases h)
   refine k_loopJ (fun m a w' => ∃ x19 : List TInstruction, ∃ x20 : Int, ∃ x21 : Int, ∃ x22 : List (TInstruction × Int), ∃ x23 : Int, tape_Compile_1_m.l24 k0 rec a0 q1_0_0 q1_0_1 t4 t7 j9 t18 m x19 x20 x21 x22 x23 = some j14 ∧ ∃ (p_x19 : Option Addr) (c_x19 np_x19 : Nat), np_x19 = x19.length ∧ Rep 0 w 47 (ofL [(1, sP b_q0 0), (2, sP b_q1 0), (5, (sP ((u2 9).n 0) 0)), (27, (sS ((u17 1).o 0) (((u17 1).dl Sl.l gd_S_TNode 0 t18).length) ((u17 1).n 0))), (28, (sI (t18.length : Int))), (29, sI x23), (50, .blk b_q1_0 [.slice p_x19 np_x19 c_x19, .map (some b_q1_0_1)] 70), (52, mpK b_q1_0_1 ek_TInstruction .i64 x22), (53, .blk ((u2 9).n 0) [vI t4.Op, vI x20, vI x21, vI t7.C.Lo, vI t7.C.Hi] 50), (55, owK 48 1 ((u17 1).o 0) (((u17 1).dl Sl.l gd_S_TNode 0 t18).length) ((u17 1).n 0) (((u17 1).dl Sl.l gd_S_TNode 0 t18).flatMap enSl)), (56, dnK fr E_S_TNode.toPart ((u17 1).dl Sl.l gd_S_TNode 0 t18)), (900014, owK 50 5 p_x19 np_x19 c_x19 (x19.flatMap en_TInstruction)), (48, bxK b_q0 [.func (.func 29) #[] #[vP b_q0 0, vP b_q1 0]] 71), (49, bxK b_q1 [vP b_q1_0 0] 67), (999999, gk), (999998, frM [owK 50 5 p_q1_0_0 q1_0_0.length c_q1_0_0 (q1_0_0.flatMap en_TInstruction), mpK b_q1_0_1 ek_TInstruction .i64 q1_0_1, .blk b_q1_0 [.slice p_q1_0_0 q1_0_0.length c_q1_0_0, .map (some b_q1_0_1)] 70] w)]) a w') k0 ⟨_, _, _, _, _, G, p_q1_0_0, c_q1_0_0, q1_0_0.length, rfl, H.toL _ (by kernel_rfl)⟩ ?_
   clear G H
   rintro (_ | k) a w' ⟨x19, x20, x21, x22, x23, G, p_x19, c_x19, _, rfl, H⟩
   ·exact absurd G (by unfold tape_Compile_1_m.l24; exact fun h => by cases h)
   ·unfold tape_Compile_1_m.l24 at G
    refine k_seq ?_
    refine k_rg mixed H (.v 30 (.bool (decide (x23 < (t18.length : Int)))) <| .nil) fun u25 a w' H => ?_
    replace H := H.kp [1, 2, 5, 27, 28, 29, 30, 50, 52, 53, 55, 56, 900014, 48, 49, 999999, 999998]
    refine k_seq ?_
    refine k_cond H (by kernel_rfl) (t := decide (x23 < (t18.length : Int))) (by kernel_rfl) (fun c41 => ?_) (fun c41 => ?_)
    ·rw [if_pos c41] at G
     refine k_skip ?_
     refine k_seq ?_
     replace G := bnd G; obtain ⟨j30, hj30, G⟩ := G
     refine k_join (fun a w' => ∃ (p_j26 : Option Addr) (c_j26 np_j26 : Nat), np_j26 = j30.1.length ∧ Rep 0 w 47 (ofL [(1, sP b_q0 0), (2, sP b_q1 0), (5, (sP ((u2 9).n 0) 0)), (27, (sS ((u17 1).o 0) (((u17 1).dl Sl.l gd_S_TNode 0 t18).length) ((u17 1).n 0))), (28, (sI (t18.length : Int))), (29, sI x23), (50, .blk b_q1_0 [.slice p_j26 np_j26 c_j26, .map (some b_q1_0_1)] 70), (52, mpK b_q1_0_1 ek_TInstruction .i64 j30.2.2.2), (53, .blk ((u2 9).n 0) [vI t4.Op, vI j30.2.1, vI j30.2.2.1, vI t7.C.Lo, vI t7.C.Hi] 50), (55, owK 48 1 ((u17 1).o 0) (((u17 1).dl Sl.l gd_S_TNode 0 t18).length) ((u17 1).n 0) (((u17 1).dl Sl.l gd_S_TNode 0 t18).flatMap enSl)), (56, dnK fr E_S_TNode.toPart ((u17 1).dl Sl.l gd_S_TNode 0 t18)), (900015, owK 50 5 p_j26 np_j26 c_j26 (j30.1.flatMap en_TInstruction)), (48, bxK b_q0 [.func (.func 29) #[] #[vP b_q0 0, vP b_q1 0]] 71), (49, bxK b_q1 [vP b_q1_0 0] 67), (999999, gk), (999998, frM [owK 50 5 p_q1_0_0 q1_0_0.length c_q1_0_0 (q1_0_0.flatMap en_TInstruction), mpK b_q1_0_1 ek_TInstruction .i64 q1_0_1, .blk b_q1_0 [.slice p_q1_0_0 q1_0_0.length c_q1_0_0, .map (some b_q1_0_1)] 70] w)]) a w') ?_ ?_
     ·clear H; rintro a w' ⟨p_j26, c_j26, _, rfl, H⟩
      refine k_rg mixed H (.v 43 (vI (w_i64 (x23 + 1))) <|
   .v 29 (vI (w_i64 (x23 + 1))) <| .nil) fun u31 a w' H => ?_
      replace H := H.kp [1, 2, 5, 27, 28, 29, 50, 52, 53, 55, 56, 900015, 48, 49, 999999, 999998]
      replace H := H.move (K := owK 50 5 p_j26 j30.1.length c_j26 (j30.1.flatMap en_TInstruction)) 900015 900014 (by kernel_rfl) (by intro _ _ h; cases h)
      exact ⟨k, Nat.lt_succ_self k, _, _, _, _, _, G, p_j26, c_j26, j30.1.length, rfl, H.toL _ (by kernel_rfl)⟩
     ·clear G; replace G := hj30; clear hj30
      refine k_block ?_
      refine k_seq ?_
      replace G := gd G; obtain ⟨b33, G⟩ := G
      replace G := bnd G; obtain ⟨t34, ht34, G⟩ := G
      obtain ⟨p_t34, c_t34, y_t34⟩ := sl_get (dl_er ergd_S_TNode (u17 1) 0 t18) ht34
      refine k_rg mixed H (.v 31 (vI x23) <|
   .cons [32] (ok_valL [55] (fun u32 => [owK 48 1 ((u17 1).o 0) (((u17 1).dl Sl.l gd_S_TNode 0 t18).length) ((u17 1).n 0) (((u17 1).dl Sl.l gd_S_TNode 0 t18).flatMap enSl)]) (fun u32 => .pointer (some ⟨hdB ((u17 1).o 0), hdO ((u17 1).o 0) + x23.toNat * 1, none⟩)) (fun u32 => true) [true, true] 32 (fun u32 w hg hF => ix_row (t := 36) (k := .i64) (i := x23) (p := ((u17 1).o 0)) (n := ((u17 1).dl Sl.l gd_S_TNode 0 t18).length) (cap := ((u17 1).n 0)) (x := t18) (en := enSl) (owns_rowC (ow_of hF.1)).2 enSl_len (map_len (dl_er ergd_S_TNode (u17 1) 0 t18)) b33 (by kernel_rfl))) <|
   .cons [33] (ok_valL [55] (fun u32 => [owK 48 1 ((u17 1).o 0) (((u17 1).dl Sl.l gd_S_TNode 0 t18).length) ((u17 1).n 0) (((u17 1).dl Sl.l gd_S_TNode 0 t18).flatMap enSl)]) (fun u32 => .slice p_t34 t34.length c_t34) (fun u32 => true) [true] 33 (fun u32 w hg hF => ld_row (en := enSl) (owns_rowC (ow_of hF.1)).2 enSl_len y_t34 0 1 [.slice p_t34 t34.length c_t34] rfl (by kernel_rfl))) <|
   .v 6 (vI x23) <|
   .v 7 (.slice p_t34 t34.length c_t34) <| .nil) fun u32 a w' H => ?_
      replace H := H.kp [1, 2, 5, 6, 7, 27, 28, 29, 50, 52, 53, 55, 56, 900014, 48, 49, 999999, 999998]
      refine k_seq ?_
      replace G := bnd G; obtain ⟨t36, ht36, G⟩ := G
      refine k_rg mixed H (.cons [34] (ok_ldK (fun u35 => .func (.func 29) #[] #[vP b_q0 0, vP b_q1 0]) 34 48 (bxK b_q0 [.func (.func 29) #[] #[vP b_q0 0, vP b_q1 0]] 71) b_q0 0 1 [.func (.func 29) #[] #[vP b_q0 0, vP b_q1 0]] (fun w h => bx_of h)) <|
   .v 35 (.slice p_t34 t34.length c_t34) <|
   .cons [36, 900014, 52, 50, 58, 50, 52] (ok_callY false fr [] [56, 48, 49, 999999] (fun u35 => [dnK fr E_S_TNode.toPart ((u17 1).dl Sl.l gd_S_TNode 0 t18), bxK b_q0 [.func (.func 29) #[] #[vP b_q0 0, vP b_q1 0]] 71, bxK b_q1 [vP b_q1_0 0] 67, gk]) [900014, 52, 50] (fun u35 => [owK 50 5 p_x19 x19.length c_x19 (x19.flatMap en_TInstruction), mpK b_q1_0_1 ek_TInstruction .i64 x22, .blk b_q1_0 [.slice p_x19 x19.length c_x19, .map (some b_q1_0_1)] 70]) 29 (fun u35 => #[.slice p_t34 t34.length c_t34, vP b_q0 0, vP b_q1 0]) (fun u35 => [bxK b_q0 [.func (.func 29) #[] #[vP b_q0 0, vP b_q1 0]] 71, bxK b_q1 [vP b_q1_0 0] 67, gk]) (fun u35 => [rdl anyF 4 p_t34 c_t34 t34 en_TNode]) (fun u35 g => vI t36.1) (fun u35 g => [fun _ => owK 50 5 (g.o 0) t36.2.1.length (g.n 0) (t36.2.1.flatMap en_TInstruction), fun _ => .blk b_q1_0 [.slice (g.o 0) t36.2.1.length (g.n 0), .map (some b_q1_0_1)] 70, fun _ => mpK b_q1_0_1 ek_TInstruction .i64 t36.2.2]) [58, 50, 52] 36 (fun u35 w hB hF hM => IH t34 x19 x22 p_t34 c_t34 b_q0 b_q1 b_q1_0 p_x19 c_x19 b_q1_0_1 t36 w  hB hF hM ht36) (fun u35 w hF => ⟨⟨sub_bx (hF.2.1 w (agree.refl _ _)) (.tail _ (.head _)) rfl, sub_bx (hF.2.2.1 w (agree.refl _ _)) (.tail _ (.tail _ (.head _))) rfl, sub_k hF.2.2.2.1 (.tail _ (.tail _ (.tail _ (.head _)))), trivial⟩, ⟨sub_rd0 (show RowC _ 4 p_t34 t34.length c_t34 (t34.flatMap en_TNode) from ((dn_of hF.1) _ (List.mem_of_getElem? y_t34)).1) (fun j h => ⟨_, (.head _), ⟨_, (List.mem_of_getElem? y_t34), (.inl h)⟩⟩), trivial⟩⟩) (fun u35 g => (fams_cons fam_ow (fams_cons fam_blk (fams_cons fam_ob fams_nil)))) (.inr (fun u35 g => (famx_cons trivial (famx_cons trivial (famx_cons trivial (fun K h => by cases h)))))) (fun h => by cases h)) <|
   .v 8 (vI t36.1) <| .nil) fun u35 a w' H => ?_
      replace H := H.kp [1, 2, 5, 6, 8, 27, 28, 29, 50, 52, 53, 55, 56, 58, 48, 49, 999999, 999998]
      refine k_seq ?_
      refine k_rg mixed H (.v 37 (vI x23) <|
   .v 38 (.bool (x23 == 0)) <| .nil) fun u37 a w' H => ?_
      replace H := H.kp [1, 2, 5, 8, 27, 28, 29, 38, 50, 52, 53, 55, 56, 58, 48, 49, 999999, 999998]
      refine k_cond H (by kernel_rfl) (t := (x23 == 0)) (by kernel_rfl) (fun c40 => ?_) (fun c40 => ?_)
      ·rw [if_pos c40] at G
       refine k_rg mixed H (.v 39 (vI t36.1) <|
   .v 40 (vP ((u2 9).n 0) 1) <|
   .cons [53] (ok_as (u' := fun u38 => [(53, .blk ((u2 9).n 0) [vI t4.Op, vI t36.1, vI x21, vI t7.C.Lo, vI t7.C.Hi] 50)]) (ok_store 53 1 (fun u38 => ((u2 9).n 0)) (fun u38 => [vI t4.Op, vI x20, vI x21, vI t7.C.Lo, vI t7.C.Hi]) (fun u38 => [vI t36.1]) 50) (fun _ => by kernel_rfl)) <| .nil) fun u38 a w' H => ?_
       replace H := H.kp [1, 2, 5, 27, 28, 29, 50, 52, 53, 55, 56, 58, 48, 49, 999999, 999998]
       obtain rfl := Option.some.inj G
       replace H := H.move (K := owK 50 5 ((u35 2).o 0) t36.2.1.length ((u35 2).n 0) (t36.2.1.flatMap en_TInstruction)) 58 900015 (by kernel_rfl) (by intro _ _ h; cases h)
       exact ⟨((u35 2).o 0), ((u35 2).n 0), t36.2.1.length, rfl, H.toL _ (by kernel_rfl)⟩
      ·rw [if_neg (nt c40)] at G
       refine k_rg mixed H (.v 41 (vI t36.1) <|
   .v 42 (vP ((u2 9).n 0) 2) <|
   .cons [53] (ok_as (u' := fun u39 => [(53, .blk ((u2 9).n 0) [vI t4.Op, vI x20, vI t36.1, vI t7.C.Lo, vI t7.C.Hi] 50)]) (ok_store 53 2 (fun u39 => ((u2 9).n 0)) (fun u39 => [vI t4.Op, vI x20, vI x21, vI t7.C.Lo, vI t7.C.Hi]) (fun u39 => [vI t36.1]) 50) (fun _ => by kernel_rfl)) <| .nil) fun u39 a w' H => ?_
       replace H := H.kp [1, 2, 5, 27, 28, 29, 50, 52, 53, 55, 56, 58, 48, 49, 999999, 999998]
       obtain rfl := Option.some.inj G
       replace H := H.move (K := owK 50 5 ((u35 2).o 0) t36.2.1.length ((u35 2).n 0) (t36.2.1.flatMap en_TInstruction)) 58 900015 (by kernel_rfl) (by intro _ _ h; cases h)
       exact ⟨((u35 2).o 0), ((u35 2).n 0), t36.2.1.length, rfl, H.toL _ (by kernel_rfl)⟩
    ·rw [if_neg (nt c41)] at G
     refine k_exit rfl ?_
     obtain rfl := Option.some.inj G
     replace H := H.move (K := owK 50 5 p_x19 x19.length c_x19 (x19.flatMap en_TInstruction)) 900014 900013 (by kernel_rfl) (by intro _ _ h; cases h)
     exact ⟨p_x19, c_x19, x19.length, rfl, H.toL _ (by kernel_rfl)⟩
 ·clear G; replace G := hj9; clear hj9
  refine k_seq ?_
  refine k_rg mixed H (.v 18 (vP ((u2 9).n 0) 0) <|
   .cons [19] (ok_ld (fun u42 => vI t4.Op) 19 53 0 1 (fun u42 => ((u2 9).n 0)) (fun u42 => [vI t4.Op, vI 0, vI 0, vI t7.C.Lo, vI t7.C.Hi]) 50) <|
   .v 20 (.bool (t4.Op == 2)) <| .nil) fun u42 a w' H => ?_
  replace H := H.kp [0, 1, 2, 5, 20, 47, 50, 51, 52, 53, 48, 49, 999999, 999998]
  refine k_cond H (by kernel_rfl) (t := (t4.Op == 2)) (by kernel_rfl) (fun c46 => ?_) (fun c46 => ?_)
  ·rw [if_pos c46] at G
   replace G := gd G; obtain ⟨b44, G⟩ := G
   replace G := bnd G; obtain ⟨t45, ht45, G⟩ := G
   refine k_rg mixed H (.v 21 (.slice p_a0 a0.length c_a0) <|
   .cons [22] (ok_valL [47] (fun u43 => [rdl fr 4 p_a0 c_a0 a0 en_TNode]) (fun u43 => .pointer (some ⟨hdB p_a0, hdO p_a0 + ((0 : Int).toNat) * 4, none⟩)) (fun u43 => true) [true, true] 22 (fun u43 w hg hF => ix_row (t := 48) (k := .i64) (i := (0 : Int)) (p := p_a0) (n := a0.length) (cap := c_a0) (x := a0) (en := en_TNode) (rdF_of hF.1).2 en_TNode_len rfl b44 (by kernel_rfl))) <|
   .v 23 (.pointer (some ⟨hdB p_a0, hdO p_a0 + ((0 : Int).toNat) * 4 + 1, none⟩)) <|
   .cons [24] (ok_valL [47] (fun u43 => [rdl fr 4 p_a0 c_a0 a0 en_TNode]) (fun u43 => vI t45.N) (fun u43 => true) [true] 24 (fun u43 w hg hF => ld_row (en := en_TNode) (rdF_of hF.1).2 en_TNode_len ht45 1 1 [vI t45.N] rfl (by kernel_rfl))) <|
   .v 25 (vP ((u2 9).n 0) 1) <|
   .cons [53] (ok_as (u' := fun u43 => [(53, .blk ((u2 9).n 0) [vI t4.Op, vI t45.N, vI 0, vI t7.C.Lo, vI t7.C.Hi] 50)]) (ok_store 53 1 (fun u43 => ((u2 9).n 0)) (fun u43 => [vI t4.Op, vI 0, vI 0, vI t7.C.Lo, vI t7.C.Hi]) (fun u43 => [vI t45.N]) 50) (fun _ => by kernel_rfl)) <| .nil) fun u43 a w' H => ?_
   replace H := H.kp [0, 1, 2, 5, 47, 50, 51, 52, 53, 48, 49, 999999, 999998]
   obtain rfl := Option.some.inj G
   exact H.toL _ (by kernel_rfl)
  ·rw [if_neg (nt c46)] at G
   refine k_skip ?_
   obtain rfl := Option.some.inj G
   exact H.toL _ (by kernel_rfl)
set_option maxHeartbeats 4000000 in
theorem tape_Compile.calls (k0 : Nat) (a0 : TSystem) (p_a0_Names : Option Addr) (c_a0_Names : Nat) (p_a0_F : Option Addr) (c_a0_F : Nat) (L_a0_F : List (Sl TNode)) (r : TTape) (w : World) (h_a0_F : a0.F = L_a0_F.map Sl.l) (hB : AllH [rdl anyF 1 p_a0_Names c_a0_Names a0.Names en_str, rdl anyF 1 p_a0_F c_a0_F L_a0_F enSl, dnK anyF E_S_TNode.toPart L_a0_F, gk] w) (G : tape_Compile k0 a0 = some r) :
  Calls Tryd.prog 11 #[.agg #[.slice p_a0_Names a0.Names.length c_a0_Names, .slice p_a0_F L_a0_F.length c_a0_F]] w fun e w' => ∃ g : Gh, e = .returned (.agg #[vI r.N, .slice (g.o 0) r.L.length (g.n 0), .slice (g.o 1) r.Out.length (g.n 1)]) ∧ But (fpK []) w w' ∧ OutOK w.heap.size (fpK []) (frI w.heap.size []) [fun _ => owK 50 5 (g.o 0) r.L.length (g.n 0) (r.L.flatMap en_TInstruction), fun _ => owK 3 1 (g.o 1) r.Out.length (g.n 1) (r.Out.flatMap en_i64)] w' := by
 obtain ⟨fr, hfr⟩ : ∃ fr : Nat → Prop, fr = frI w.heap.size [] := ⟨_, rfl⟩
 have hBf : ∀ j, w.heap.size ≤ j → fr j := fun j h => by rw [hfr]; exact .inl h
 refine k_enterF (args := [.agg #[.slice p_a0_Names a0.Names.length c_a0_Names, .slice p_a0_F L_a0_F.length c_a0_F]]) 45 [(45, rdl anyF 1 p_a0_Names c_a0_Names a0.Names en_str), (46, rdl anyF 1 p_a0_F c_a0_F L_a0_F enSl), (47, dnK anyF E_S_TNode.toPart L_a0_F), (999999, gk)] (by
  intro x hx
  simp only [List.mem_cons, List.not_mem_nil, or_false] at hx
  rcases hx with rfl | rfl | rfl | rfl
  ·exact rdF_fact (rdF_of hB.1) (fun _ _ => trivial) (by decide) _
  ·exact rdF_fact (rdF_of hB.2.1) (fun _ _ => trivial) (by decide) _
  ·exact dn_fact (dn_of hB.2.2.1) (fun _ _ => trivial) _
  ·exact ⟨⟨_, _, rfl⟩, hB.2.2.2.1, glob_in (glob_of hB.2.2.2.1)⟩) Tryd.func11 rfl (by kernel_rfl) (by kernel_rfl) fun a H => ?_
 unfold tape_Compile at G
 refine k_seq ?_
 refine k_rg mixed H (.cons [1, 48] (ok_new (fun b => vP b 0) (fun u1 => [.slice p_a0_Names a0.Names.length c_a0_Names, .slice p_a0_F L_a0_F.length c_a0_F]) 38 1 48) <|
   .cons [2, 49] (ok_new (fun b => vP b 0) (fun u1 => [vI 0, .slice none 0 0, .slice none 0 0]) 25 2 49) <| .nil) fun u1 a w' H => ?_
 replace H := H.kp [1, 2, 45, 46, 47, 48, 49, 999999]
 refine k_seq ?_
 refine k_rg mixed H (.cons [8, 50] (ok_mkmap 8 50) <|
   .cons [9] (ok_val (fun u2 => .agg #[.slice none 0 0, .map (some ((u2 0).n 0))]) 9) <|
   .cons [10, 51] (ok_new (fun b => vP b 0) (fun u2 => [.slice none 0 0, .map (some ((u2 0).n 0))]) 70 10 51) <|
   .cons [3, 52] (ok_new (fun b => vP b 0) (fun u2 => [.pointer none]) 67 3 52) <|
   .cons [52] (ok_as (u' := fun u2 => [(52, .blk ((u2 3).n 0) [vP ((u2 2).n 0) 0] 67)]) (ok_store 52 0 (fun u2 => ((u2 3).n 0)) (fun u2 => [.pointer none]) (fun u2 => [vP ((u2 2).n 0) 0]) 67) (fun _ => by kernel_rfl)) <| .nil) fun u2 a w' H => ?_
 replace H := H.kp [1, 2, 3, 45, 46, 47, 48, 49, 50, 51, 52, 999999]
 refine k_seq ?_
 refine k_rg mixed H (.v 11 (vP ((u1 0).n 0) 1) <|
   .cons [12] (ok_ld (fun u3 => .slice p_a0_F L_a0_F.length c_a0_F) 12 48 1 1 (fun u3 => ((u1 0).n 0)) (fun u3 => [.slice p_a0_Names a0.Names.length c_a0_Names, .slice p_a0_F L_a0_F.length c_a0_F]) 38) <|
   .cons [13] (ok_valL [46] (fun u3 => [rdl anyF 1 p_a0_F c_a0_F L_a0_F enSl]) (fun u3 => vI (a0.F.length : Int)) (fun u3 => true) [true] 13 (fun u3 w hg hF => run_lenN (((rdF_of hF.1).2.len enSl_len (by decide)).trans (map_len h_a0_F).symm) (by kernel_rfl))) <|
   .v 14 (.agg #[vI (a0.F.length : Int), .slice none 0 0, .slice none 0 0]) <|
   .cons [4, 53] (ok_new (fun b => vP b 0) (fun u3 => [vI 0, .slice none 0 0, .slice none 0 0]) 25 4 53) <|
   .cons [53] (ok_as (u' := fun u3 => [(53, .blk ((u3 4).n 0) [vI (a0.F.length : Int), .slice none 0 0, .slice none 0 0] 25)]) (ok_store 53 0 (fun u3 => ((u3 4).n 0)) (fun u3 => [vI 0, .slice none 0 0, .slice none 0 0]) (fun u3 => [vI (a0.F.length : Int), .slice none 0 0, .slice none 0 0]) 25) (fun _ => by kernel_rfl)) <| .nil) fun u3 a w' H => ?_
 replace H := H.kp [1, 2, 3, 4, 45, 46, 47, 48, 49, 50, 51, 52, 53, 999999]
 refine k_seq ?_
 refine k_rg mixed H (.cons [5, 54] (ok_new (fun b => vP b 0) (fun u4 => [.nilFunc]) 71 5 54) <| .nil) fun u4 a w' H => ?_
 replace H := H.kp [1, 2, 3, 4, 5, 45, 46, 47, 48, 49, 50, 51, 52, 53, 54, 999999]
 refine k_seq ?_
 refine k_rg mixed H (.v 15 (.func (.func 29) #[] #[vP ((u4 0).n 0) 0, vP ((u2 3).n 0) 0]) <|
   .cons [54] (ok_as (u' := fun u5 => [(54, .blk ((u4 0).n 0) [.func (.func 29) #[] #[vP ((u4 0).n 0) 0, vP ((u2 3).n 0) 0]] 71)]) (ok_store 54 0 (fun u5 => ((u4 0).n 0)) (fun u5 => [.nilFunc]) (fun u5 => [.func (.func 29) #[] #[vP ((u4 0).n 0) 0, vP ((u2 3).n 0) 0]]) 71) (fun _ => by kernel_rfl)) <| .nil) fun u5 a w' H => ?_
 replace H := H.kp [1, 2, 3, 4, 5, 45, 46, 47, 48, 49, 50, 51, 52, 53, 54, 999999]
 refine k_seq ?_
 replace G := bnd G; obtain ⟨j9, hj9, G⟩ := G
 refine k_join (fun a w' => ∃ (p_j6 : Option Addr) (c_j6 np_j6 : Nat), np_j6 = j9.1.length ∧ ∃ (p_j7 : Option Addr) (c_j7 np_j7 : Nat), np_j7 = j9.2.1.length ∧ Rep w.heap.size w 45 (ofL [(2, (sP ((u1 1).n 0) 0)), (3, (sP ((u2 3).n 0) 0)), (4, (sP ((u3 4).n 0) 0)), (49, .blk ((u1 1).n 0) [vI 0, .slice none 0 0, .slice none 0 0] 25), (50, mpK ((u2 0).n 0) ek_TInstruction .i64 j9.2.2), (51, .blk ((u2 2).n 0) [.slice p_j6 np_j6 c_j6, .map (some ((u2 0).n 0))] 70), (52, .blk ((u2 3).n 0) [vP ((u2 2).n 0) 0] 67), (53, .blk ((u3 4).n 0) [vI (a0.F.length : Int), .slice none 0 0, .slice p_j7 np_j7 c_j7] 25), (900016, owK 50 5 p_j6 np_j6 c_j6 (j9.1.flatMap en_TInstruction)), (900017, owK 3 1 p_j7 np_j7 c_j7 (j9.2.1.flatMap en_i64)), (999999, gk)]) a w') ?_ ?_
 ·clear H; rintro a w' ⟨p_j6, c_j6, _, rfl, p_j7, c_j7, _, rfl, H⟩
  refine k_seq ?_
  refine k_seq ?_
  refine k_rg mixed H (.cons [32] (ok_ld (fun u10 => vP ((u2 2).n 0) 0) 32 52 0 1 (fun u10 => ((u2 3).n 0)) (fun u10 => [vP ((u2 2).n 0) 0]) 67) <|
   .v 33 (vP ((u2 2).n 0) 0) <|
   .v 34 (vP ((u2 2).n 0) 0) <|
   .cons [35] (ok_ld (fun u10 => .slice p_j6 j9.1.length c_j6) 35 51 0 1 (fun u10 => ((u2 2).n 0)) (fun u10 => [.slice p_j6 j9.1.length c_j6, .map (some ((u2 0).n 0))]) 70) <|
   .v 36 (vI (j9.1.length : Int)) <|
   .v 37 (.bool (decide ((j9.1.length : Int) > 400))) <| .nil) fun u10 a w' H => ?_
  replace H := H.kp [2, 3, 4, 37, 49, 50, 51, 52, 53, 900016, 900017, 999999]
  refine k_cond H (by kernel_rfl) (t := decide ((j9.1.length : Int) > 400)) (by kernel_rfl) (fun c14 => ?_) (fun c14 => ?_)
  ·rw [if_pos c14] at G
   refine k_seq ?_
   refine k_rg mixed H (.v 38 (.agg #[vI 0, .slice none 0 0, .slice none 0 0]) <|
   .cons [49] (ok_as (u' := fun u11 => [(49, .blk ((u1 1).n 0) [vI 0, .slice none 0 0, .slice none 0 0] 25)]) (ok_store 49 0 (fun u11 => ((u1 1).n 0)) (fun u11 => [vI 0, .slice none 0 0, .slice none 0 0]) (fun u11 => [vI 0, .slice none 0 0, .slice none 0 0]) 25) (fun _ => by kernel_rfl)) <| .nil) fun u11 a w' H => ?_
   replace H := H.kp [2, 49, 999999]
   refine k_ret ?_
   obtain rfl := Option.some.inj G
   replace H := H.nil_row 55 50 5
   replace H := H.nil_row 56 3 1
   obtain ⟨g, o0, n0, o1, n1⟩ : ∃ g : Gh, g.o 0 = none ∧ g.n 0 = 0 ∧ g.o 1 = none ∧ g.n 1 = 0 := ⟨⟨fun i => [0, 0].getD i 0, fun i => [none, none].getD i none, fun i => ([⟨Unit, ()⟩, ⟨Unit, ()⟩] : List ((T : Type) × T)).getD i ⟨Unit, ()⟩⟩, rfl, rfl, rfl, rfl⟩
   refine k_doneZ H (fun g => .agg #[vI 0, .slice (g.o 0) (([] : List TInstruction).length) (g.n 0), .slice (g.o 1) (([] : List Int).length) (g.n 1)]) g [] [] (fun g => [fun _ => owK 50 5 (g.o 0) (([] : List TInstruction).length) (g.n 0) (([] : List TInstruction).flatMap en_TInstruction), fun _ => owK 3 1 (g.o 1) (([] : List Int).length) (g.n 1) (([] : List Int).flatMap en_i64)]) fr [55, 56] [(49, ⟨((u1 1).n 0), [vI 0, .slice none 0 0, .slice none 0 0], 0, 3⟩)] (.agg #[vI 0, .slice none 0 0, .slice none 0 0]) [fun _ => owK 50 5 none 0 0 (([] : List TInstruction).flatMap en_TInstruction), fun _ => owK 3 1 none 0 0 (([] : List Int).flatMap en_i64)] (by simp only [o0, n0, o1, n1, List.length_set, List.length_cons, List.length_nil, Nat.zero_add, Nat.reduceAdd]) (by simp only [o0, n0, o1, n1, List.length_set, List.length_cons, List.length_nil, Nat.zero_add, Nat.reduceAdd]) hfr (.inl ⟨rfl, rfl⟩) (fams_cons fam_ow (fams_cons fam_ow fams_nil)) (by intro p hp; simp only [List.mem_cons, List.not_mem_nil, or_false] at hp; rcases hp with rfl; exact ⟨⟨25, by kernel_rfl⟩, by kernel_rfl⟩)
  ·rw [if_neg (nt c14)] at G
   refine k_skip ?_
   refine k_seq ?_
   refine k_rg mixed H (.cons [39] (ok_ld (fun u12 => vP ((u2 2).n 0) 0) 39 52 0 1 (fun u12 => ((u2 3).n 0)) (fun u12 => [vP ((u2 2).n 0) 0]) 67) <|
   .v 40 (vP ((u2 2).n 0) 0) <|
   .v 41 (vP ((u2 2).n 0) 0) <|
   .cons [42] (ok_ld (fun u12 => .slice p_j6 j9.1.length c_j6) 42 51 0 1 (fun u12 => ((u2 2).n 0)) (fun u12 => [.slice p_j6 j9.1.length c_j6, .map (some ((u2 0).n 0))]) 70) <|
   .v 43 (vP ((u3 4).n 0) 1) <|
   .cons [53] (ok_as (u' := fun u12 => [(53, .blk ((u3 4).n 0) [vI (a0.F.length : Int), .slice p_j6 j9.1.length c_j6, .slice p_j7 j9.2.1.length c_j7] 25)]) (ok_store 53 1 (fun u12 => ((u3 4).n 0)) (fun u12 => [vI (a0.F.length : Int), .slice none 0 0, .slice p_j7 j9.2.1.length c_j7]) (fun u12 => [.slice p_j6 j9.1.length c_j6]) 25) (fun _ => by kernel_rfl)) <| .nil) fun u12 a w' H => ?_
   replace H := H.kp [2, 4, 49, 53, 900016, 900017, 999999]
   refine k_seq ?_
   refine k_rg mixed H (.cons [44] (ok_ld (fun u13 => .agg #[vI (a0.F.length : Int), .slice p_j6 j9.1.length c_j6, .slice p_j7 j9.2.1.length c_j7]) 44 53 0 3 (fun u13 => ((u3 4).n 0)) (fun u13 => [vI (a0.F.length : Int), .slice p_j6 j9.1.length c_j6, .slice p_j7 j9.2.1.length c_j7]) 25) <|
   .cons [49] (ok_as (u' := fun u13 => [(49, .blk ((u1 1).n 0) [vI (a0.F.length : Int), .slice p_j6 j9.1.length c_j6, .slice p_j7 j9.2.1.length c_j7] 25)]) (ok_store 49 0 (fun u13 => ((u1 1).n 0)) (fun u13 => [vI 0, .slice none 0 0, .slice none 0 0]) (fun u13 => [vI (a0.F.length : Int), .slice p_j6 j9.1.length c_j6, .slice p_j7 j9.2.1.length c_j7]) 25) (fun _ => by kernel_rfl)) <| .nil) fun u13 a w' H => ?_
   replace H := H.kp [2, 49, 900016, 900017, 999999]
   refine k_ret ?_
   obtain rfl := Option.some.inj G
   obtain ⟨g, o0, n0, o1, n1⟩ : ∃ g : Gh, g.o 0 = p_j6 ∧ g.n 0 = c_j6 ∧ g.o 1 = p_j7 ∧ g.n 1 = c_j7 := ⟨⟨fun i => [c_j6, c_j7].getD i 0, fun i => [p_j6, p_j7].getD i none, fun i => ([⟨Unit, ()⟩, ⟨Unit, ()⟩] : List ((T : Type) × T)).getD i ⟨Unit, ()⟩⟩, rfl, rfl, rfl, rfl⟩
   refine k_doneZ H (fun g => .agg #[vI (a0.F.length : Int), .slice (g.o 0) j9.1.length (g.n 0), .slice (g.o 1) j9.2.1.length (g.n 1)]) g [] [] (fun g => [fun _ => owK 50 5 (g.o 0) j9.1.length (g.n 0) (j9.1.flatMap en_TInstruction), fun _ => owK 3 1 (g.o 1) j9.2.1.length (g.n 1) (j9.2.1.flatMap en_i64)]) fr [900016, 900017] [(49, ⟨((u1 1).n 0), [vI (a0.F.length : Int), .slice p_j6 j9.1.length c_j6, .slice p_j7 j9.2.1.length c_j7], 0, 3⟩)] (.agg #[vI (a0.F.length : Int), .slice p_j6 j9.1.length c_j6, .slice p_j7 j9.2.1.length c_j7]) [fun _ => owK 50 5 p_j6 j9.1.length c_j6 (j9.1.flatMap en_TInstruction), fun _ => owK 3 1 p_j7 j9.2.1.length c_j7 (j9.2.1.flatMap en_i64)] (by simp only [o0, n0, o1, n1]) (by simp only [o0, n0, o1, n1]) hfr (.inl ⟨rfl, rfl⟩) (fams_cons fam_ow (fams_cons fam_ow fams_nil)) (by intro p hp; simp only [List.mem_cons, List.not_mem_nil, or_false] at hp; rcases hp with rfl; exact ⟨⟨25, by kernel_rfl⟩, by kernel_rfl⟩)
 ·clear G; replace G := hj9; clear hj9
  refine k_seq ?_
  refine k_rg mixed H (.v 16 (vP ((u1 0).n 0) 1) <|
   .cons [17] (ok_ld (fun u15 => .slice p_a0_F L_a0_F.length c_a0_F) 17 48 1 1 (fun u15 => ((u1 0).n 0)) (fun u15 => [.slice p_a0_Names a0.Names.length c_a0_Names, .slice p_a0_F L_a0_F.length c_a0_F]) 38) <|
   .cons [18] (ok_valL [46] (fun u15 => [rdl anyF 1 p_a0_F c_a0_F L_a0_F enSl]) (fun u15 => vI (a0.F.length : Int)) (fun u15 => true) [true] 18 (fun u15 w hg hF => run_lenN (((rdF_of hF.1).2.len enSl_len (by decide)).trans (map_len h_a0_F).symm) (by kernel_rfl))) <|
   .v 19 (vI 0) <| .nil) fun u15 a w' H => ?_
  replace H := H.kp [2, 3, 4, 5, 17, 18, 19, 46, 47, 49, 50, 51, 52, 53, 54, 999999]
  refine k_block ?_
  replace H := H.nil_row 63 50 5
  replace H := H.nil_row 65 3 1
  replace H := H.move (K := owK 50 5 none 0 0 (([] : List TInstruction).flatMap en_TInstruction)) 63 900018 (by kernel_rfl) (by intro _ _ h; cases h)
  replace H := H.move (K := owK 3 1 none 0 0 (([] : List Int).flatMap en_i64)) 65 900019 (by kernel_rfl) (by intro _ _ h; cases h)
  refine k_loopJ (fun m a w' => ∃ x16 : List TInstruction, ∃ x17 : List Int, ∃ x18 : List (TInstruction × Int), ∃ x19 : Int, tape_Compile.l20 k0 a0 m x16 x17 x18 x19 = some j9 ∧ ∃ (p_x16 : Option Addr) (c_x16 np_x16 : Nat), np_x16 = x16.length ∧ ∃ (p_x17 : Option Addr) (c_x17 np_x17 : Nat), np_x17 = x17.length ∧ Rep w.heap.size w 45 (ofL [(2, (sP ((u1 1).n 0) 0)), (3, (sP ((u2 3).n 0) 0)), (4, (sP ((u3 4).n 0) 0)), (5, (sP ((u4 0).n 0) 0)), (17, sS p_a0_F L_a0_F.length c_a0_F), (18, (sI (a0.F.length : Int))), (19, sI x19), (46, rdl anyF 1 p_a0_F c_a0_F L_a0_F enSl), (47, dnK anyF E_S_TNode.toPart L_a0_F), (49, .blk ((u1 1).n 0) [vI 0, .slice none 0 0, .slice none 0 0] 25), (50, mpK ((u2 0).n 0) ek_TInstruction .i64 x18), (51, .blk ((u2 2).n 0) [.slice p_x16 np_x16 c_x16, .map (some ((u2 0).n 0))] 70), (52, .blk ((u2 3).n 0) [vP ((u2 2).n 0) 0] 67), (53, .blk ((u3 4).n 0) [vI (a0.F.length : Int), .slice none 0 0, .slice p_x17 np_x17 c_x17] 25), (54, .blk ((u4 0).n 0) [.func (.func 29) #[] #[vP ((u4 0).n 0) 0, vP ((u2 3).n 0) 0]] 71), (900018, owK 50 5 p_x16 np_x16 c_x16 (x16.flatMap en_TInstruction)), (900019, owK 3 1 p_x17 np_x17 c_x17 (x17.flatMap en_i64)), (999999, gk)]) a w') k0 ⟨_, _, _, _, G, none, 0, 0, rfl, none, 0, 0, rfl, H.toL _ (by kernel_rfl)⟩ ?_
  clear G H
  rintro (_ | k) a w' ⟨x16, x17, x18, x19, G, p_x16, c_x16, _, rfl, p_x17, c_x17, _, rfl, H⟩
  ·exact absurd G (by unfold tape_Compile.l20; exact fun h => by cases h)
  ·unfold tape_Compile.l20 at G
   refine k_seq ?_
   refine k_rg mixed H (.v 20 (.bool (decide (x19 < (a0.F.length : Int)))) <| .nil) fun u21 a w' H => ?_
   replace H := H.kp [2, 3, 4, 5, 17, 18, 19, 20, 46, 47, 49, 50, 51, 52, 53, 54, 900018, 900019, 999999]
   refine k_seq ?_
   refine k_cond H (by kernel_rfl) (t := decide (x19 < (a0.F.length : Int))) (by kernel_rfl) (fun c29 => ?_) (fun c29 => ?_)
   ·rw [if_pos c29] at G
    refine k_skip ?_
    refine k_seq ?_
    refine k_block ?_
    refine k_seq ?_
    replace G := gd G; obtain ⟨b23, G⟩ := G
    replace G := bnd G; obtain ⟨t24, ht24, G⟩ := G
    obtain ⟨p_t24, c_t24, y_t24⟩ := sl_get h_a0_F ht24
    refine k_rg mixed H (.cons [21] (ok_valL [46] (fun u22 => [rdl anyF 1 p_a0_F c_a0_F L_a0_F enSl]) (fun u22 => .pointer (some ⟨hdB p_a0_F, hdO p_a0_F + x19.toNat * 1, none⟩)) (fun u22 => true) [true, true] 21 (fun u22 w hg hF => ix_row (t := 36) (k := .i64) (i := x19) (p := p_a0_F) (n := L_a0_F.length) (cap := c_a0_F) (x := a0.F) (en := enSl) (rdF_of hF.1).2 enSl_len (map_len h_a0_F) b23 (by kernel_rfl))) <|
   .cons [22] (ok_valL [46] (fun u22 => [rdl anyF 1 p_a0_F c_a0_F L_a0_F enSl]) (fun u22 => .slice p_t24 t24.length c_t24) (fun u22 => true) [true] 22 (fun u22 w hg hF => ld_row (en := enSl) (rdF_of hF.1).2 enSl_len y_t24 0 1 [.slice p_t24 t24.length c_t24] rfl (by kernel_rfl))) <|
   .v 7 (.slice p_t24 t24.length c_t24) <| .nil) fun u22 a w' H => ?_
    replace H := H.kp [2, 3, 4, 5, 7, 17, 18, 19, 46, 47, 49, 50, 51, 52, 53, 54, 900018, 900019, 999999]
    replace G := bnd G; obtain ⟨t26, ht26, G⟩ := G
    replace G := gd G; obtain ⟨b27, G⟩ := G
    refine k_regT mixed H (.v 23 (vP ((u3 4).n 0) 2) <|
   .cons [24] (ok_ld (fun u25 => .slice p_x17 x17.length c_x17) 24 53 2 1 (fun u25 => ((u3 4).n 0)) (fun u25 => [vI (a0.F.length : Int), .slice none 0 0, .slice p_x17 x17.length c_x17]) 25) <|
   .cons [25] (ok_ld (fun u25 => .func (.func 29) #[] #[vP ((u4 0).n 0) 0, vP ((u2 3).n 0) 0]) 25 54 0 1 (fun u25 => ((u4 0).n 0)) (fun u25 => [.func (.func 29) #[] #[vP ((u4 0).n 0) 0, vP ((u2 3).n 0) 0]]) 71) <|
   .v 26 (.slice p_t24 t24.length c_t24) <|
   .cons [27, 900018, 50, 51, 57, 51, 50] (ok_callY false fr [] [47, 54, 52, 999999] (fun u25 => [dnK anyF E_S_TNode.toPart L_a0_F, .blk ((u4 0).n 0) [.func (.func 29) #[] #[vP ((u4 0).n 0) 0, vP ((u2 3).n 0) 0]] 71, .blk ((u2 3).n 0) [vP ((u2 2).n 0) 0] 67, gk]) [900018, 50, 51] (fun u25 => [owK 50 5 p_x16 x16.length c_x16 (x16.flatMap en_TInstruction), mpK ((u2 0).n 0) ek_TInstruction .i64 x18, .blk ((u2 2).n 0) [.slice p_x16 x16.length c_x16, .map (some ((u2 0).n 0))] 70]) 29 (fun u25 => #[.slice p_t24 t24.length c_t24, vP ((u4 0).n 0) 0, vP ((u2 3).n 0) 0]) (fun u25 => [bxK ((u4 0).n 0) [.func (.func 29) #[] #[vP ((u4 0).n 0) 0, vP ((u2 3).n 0) 0]] 71, bxK ((u2 3).n 0) [vP ((u2 2).n 0) 0] 67, gk]) (fun u25 => [rdl anyF 4 p_t24 c_t24 t24 en_TNode]) (fun u25 g => vI t26.1) (fun u25 g => [fun _ => owK 50 5 (g.o 0) t26.2.1.length (g.n 0) (t26.2.1.flatMap en_TInstruction), fun _ => .blk ((u2 2).n 0) [.slice (g.o 0) t26.2.1.length (g.n 0), .map (some ((u2 0).n 0))] 70, fun _ => mpK ((u2 0).n 0) ek_TInstruction .i64 t26.2.2]) [57, 51, 50] 27 (fun u25 w hB hF hM => tape_Compile_1_m.calls k0 t24 x16 x18 p_t24 c_t24 ((u4 0).n 0) ((u2 3).n 0) ((u2 2).n 0) p_x16 c_x16 ((u2 0).n 0) t26 w  hB hF hM ht26) (fun u25 w hF => ⟨⟨sub_bx hF.2.1 (.tail _ (.head _)) rfl, sub_bx hF.2.2.1 (.tail _ (.tail _ (.head _))) rfl, sub_k hF.2.2.2.1 (.tail _ (.tail _ (.tail _ (.head _)))), trivial⟩, ⟨sub_rd0 (show RowC _ 4 p_t24 t24.length c_t24 (t24.flatMap en_TNode) from ((dn_of hF.1) _ (List.mem_of_getElem? y_t24)).1) (fun j h => ⟨_, (.head _), ⟨_, (List.mem_of_getElem? y_t24), (.inl h)⟩⟩), trivial⟩⟩) (fun u25 g => (fams_cons fam_ow (fams_cons fam_blk (fams_cons fam_ob fams_nil)))) (.inr (fun u25 g => (famx_cons trivial (famx_cons trivial (famx_cons trivial (fun K h => by cases h)))))) (fun h => by cases h)) <|
   .cons [28, 58] (ok_new (fun b => .slice (some ⟨b, 0, none⟩) 1 1) (fun u25 => [vI t26.1]) 3 28 58) <|
   .cons [29, 900019, 900019] (ok_own1 [5] [58] (fun u25 => [.blk ((u25 5).n 0) [vI t26.1] 3]) 900019 (fun u25 => owK 3 1 p_x17 x17.length c_x17 (x17.flatMap en_i64)) (some 29) (fun u25 g => .slice (g.o 0) (x17 ++ [t26.1]).length (g.n 0)) (fun u25 g => owK 3 1 (g.o 0) ((x17 ++ [t26.1]).length) (g.n 0) ((x17 ++ [t26.1]).flatMap en_i64)) (fun u25 w hF hK => tv_app (run_app_rowN (t := 23) (ty := 23) (en := en_i64) en_i64_len inf3 (ow_of hK) hF.1 (news := [t26.1]) rfl (by simp) (by kernel_rfl) b27)) (hloc := fun u u' h => ⟨by first | rfl | simp only [h 5 (by decide)], by first | rfl | simp only [h 5 (by decide)], by first | rfl | simp only [h 5 (by decide)], by first | rfl | simp only [h 5 (by decide)]⟩)) <|
   .v 30 (vP ((u3 4).n 0) 2) <|
   .cons [53] (ok_as (u' := fun u25 => [(53, .blk ((u3 4).n 0) [vI (a0.F.length : Int), .slice none 0 0, .slice ((u25 6).o 0) ((x17 ++ [t26.1]).length) ((u25 6).n 0)] 25)]) (ok_store 53 2 (fun u25 => ((u3 4).n 0)) (fun u25 => [vI (a0.F.length : Int), .slice none 0 0, .slice p_x17 x17.length c_x17]) (fun u25 => [.slice ((u25 6).o 0) ((x17 ++ [t26.1]).length) ((u25 6).n 0)]) 25) (fun _ => by kernel_rfl)) <| .nil) (by kernel_rfl) fun u25 a w' H => ?_
    replace H := H.kp [2, 3, 4, 5, 17, 18, 19, 46, 47, 49, 50, 51, 52, 53, 54, 57, 900019, 999999]
    refine k_rg mixed H (.v 31 (vI (w_i64 (x19 + 1))) <|
   .v 19 (vI (w_i64 (x19 + 1))) <| .nil) fun u28 a w' H => ?_
    replace H := H.kp [2, 3, 4, 5, 17, 18, 19, 46, 47, 49, 50, 51, 52, 53, 54, 57, 900019, 999999]
    replace H := H.move (K := owK 50 5 ((u25 4).o 0) t26.2.1.length ((u25 4).n 0) (t26.2.1.flatMap en_TInstruction)) 57 900018 (by kernel_rfl) (by intro _ _ h; cases h)
    exact ⟨k, Nat.lt_succ_self k, _, _, _, _, G, ((u25 4).o 0), ((u25 4).n 0), t26.2.1.length, rfl, ((u25 6).o 0), ((u25 6).n 0), (x17 ++ [t26.1]).length, rfl, H.toL _ (by kernel_rfl)⟩
   ·rw [if_neg (nt c29)] at G
    refine k_exit rfl ?_
    obtain rfl := Option.some.inj G
    replace H := H.move (K := owK 50 5 p_x16 x16.length c_x16 (x16.flatMap en_TInstruction)) 900018 900016 (by kernel_rfl) (by intro _ _ h; cases h)
    replace H := H.move (K := owK 3 1 p_x17 x17.length c_x17 (x17.flatMap en_i64)) 900019 900017 (by kernel_rfl) (by intro _ _ h; cases h)
    exact ⟨p_x16, c_x16, x16.length, rfl, p_x17, c_x17, x17.length, rfl, H.toL _ (by kernel_rfl)⟩
set_option maxHeartbeats 4000000 in
theorem tape_arity.calls (k0 : Nat) (a0 : Int) (r : Int) (w : World) (hg : Glob w) (G : tape_arity k0 a0 = some r) :
  Calls Tryd.prog 34 #[vI a0] w fun e w' => e = .returned (vI r) ∧ Below w.heap.size w w' := by
 refine k_enterG (args := [vI a0]) 22 999999 globFp Glob (glob_local hg) (glob_in hg) Tryd.func34 rfl (by kernel_rfl) (by kernel_rfl) fun a H => ?_
 unfold tape_arity at G
 refine k_seq ?_
 refine k_rg mixed H (.v 2 (vI 0) <| .nil) fun u1 a w' H => ?_
 replace H := H.kp [0, 999999]
 refine k_seq ?_
 refine k_block ?_
 refine k_seq ?_
 refine k_rg mixed H (.v 4 (vI a0) <|
   .v 5 (.bool (decide (a0 < 1))) <|
   .v 6 (.bool (decide (a0 < 1))) <|
   .cons [7] (ok_valg (fun u2 => vI a0) (fun u2 => ((decide (a0 < 1)) == false)) [true] 7) <|
   .cons [8] (ok_valg (fun u2 => .bool (decide (a0 > 10))) (fun u2 => ((decide (a0 < 1)) == false)) [false, true] 8) <|
   .cons [9] (ok_or 6 8 (fun u2 => true) (fun u2 => true) (fun u2 => decide (a0 < 1)) (fun u2 => decide (a0 > 10)) 9) <|
   .v 3 (.bool ((decide (a0 < 1)) || (decide (a0 > 10)))) <| .nil) fun u2 a w' H => ?_
 replace H := H.kp [0, 3, 999999]
 refine k_cond H (by kernel_rfl) (t := ((decide (a0 < 1)) || (decide (a0 > 10)))) (by kernel_rfl) (fun c45 => ?_) (fun c45 => ?_)
 ·rw [if_pos c45] at G
  refine k_seq ?_
  refine k_rg mixed H (.v 2 (vI (-1)) <| .nil) fun u3 a w' H => ?_
  replace H := H.kp [2, 999999]
  refine k_ret ?_
  obtain rfl := Option.some.inj G
  exact k_done0 H _ (by kernel_rfl) (by kernel_rfl)
 ·rw [if_neg (nt c45)] at G
  refine k_seq ?_
  by_cases c34 : a0 = 0
  ·rw [if_pos c34] at G; subst c34
   refine k_rg mixed H (.v 11 (vI 0) <|
   .v 12 (vP 0 0) <|
   .v 13 (vP 0 0) <|
   .cons [14] (ok_ldK (fun u4 => .nilFunc) 14 999999 gk 0 0 1 gTab0 (fun w h => (glob_of h).tab0)) <|
   .v 15 (.bool false) <|
   .v 10 (.bool false) <| .nil) fun u4 a w' H => ?_
   replace H := H.kp [0, 10, 999999]
   refine k_cond_false H (by kernel_rfl) (by kernel_rfl) ?_
   refine k_seq ?_
   refine k_rg mixed H (.v 17 (vI 0) <|
   .v 18 (vP 0 0) <|
   .v 19 (vP 0 1) <|
   .cons [20] (ok_ldK (fun u5 => .nilFunc) 20 999999 gk 0 1 1 gTab0 (fun w h => (glob_of h).tab0)) <|
   .v 21 (.bool false) <|
   .v 16 (.bool false) <| .nil) fun u5 a w' H => ?_
   replace H := H.kp [16, 999999]
   refine k_cond_false H (by kernel_rfl) (by kernel_rfl) ?_
   refine k_skip ?_
   refine k_seq ?_
   refine k_rg mixed H (.v 2 (vI 0) <| .nil) fun u6 a w' H => ?_
   replace H := H.kp [2, 999999]
   refine k_ret ?_
   obtain rfl := Option.some.inj G
   exact k_done0 H _ (by kernel_rfl) (by kernel_rfl)
  rw [if_neg c34] at G
  by_cases c35 : a0 = 1
  ·rw [if_pos c35] at G; subst c35
   refine k_rg mixed H (.v 11 (vI 1) <|
   .v 12 (vP 0 2) <|
   .v 13 (vP 0 2) <|
   .cons [14] (ok_ldK (fun u7 => .nilFunc) 14 999999 gk 0 2 1 gTab0 (fun w h => (glob_of h).tab0)) <|
   .v 15 (.bool false) <|
   .v 10 (.bool false) <| .nil) fun u7 a w' H => ?_
   replace H := H.kp [0, 10, 999999]
   refine k_cond_false H (by kernel_rfl) (by kernel_rfl) ?_
   refine k_seq ?_
   refine k_rg mixed H (.v 17 (vI 1) <|
   .v 18 (vP 0 2) <|
   .v 19 (vP 0 3) <|
   .cons [20] (ok_ldK (fun u8 => .nilFunc) 20 999999 gk 0 3 1 gTab0 (fun w h => (glob_of h).tab0)) <|
   .v 21 (.bool false) <|
   .v 16 (.bool false) <| .nil) fun u8 a w' H => ?_
   replace H := H.kp [16, 999999]
   refine k_cond_false H (by kernel_rfl) (by kernel_rfl) ?_
   refine k_skip ?_
   refine k_seq ?_
   refine k_rg mixed H (.v 2 (vI 0) <| .nil) fun u9 a w' H => ?_
   replace H := H.toM [(2, sI 0), (999999, gk)]
   refine k_ret ?_
   obtain rfl := Option.some.inj G
   exact k_done0 H _ (by kernel_rfl) (by kernel_rfl)
  rw [if_neg c35] at G
  by_cases c36 : a0 = 2
  ·rw [if_pos c36] at G; subst c36
   refine k_rg mixed H (.v 11 (vI 2) <|
   .v 12 (vP 0 4) <|
   .v 13 (vP 0 4) <|
   .cons [14] (ok_ldK (fun u10 => .nilFunc) 14 999999 gk 0 4 1 gTab0 (fun w h => (glob_of h).tab0)) <|
   .v 15 (.bool false) <|
   .v 10 (.bool false) <| .nil) fun u10 a w' H => ?_
   replace H := H.kp [0, 10, 999999]
   refine k_cond_false H (by kernel_rfl) (by kernel_rfl) ?_
   refine k_seq ?_
   refine k_rg mixed H (.v 17 (vI 2) <|
   .v 18 (vP 0 4) <|
   .v 19 (vP 0 5) <|
   .cons [20] (ok_ldK (fun u11 => .nilFunc) 20 999999 gk 0 5 1 gTab0 (fun w h => (glob_of h).tab0)) <|
   .v 21 (.bool false) <|
   .v 16 (.bool false) <| .nil) fun u11 a w' H => ?_
   replace H := H.kp [16, 999999]
   refine k_cond_false H (by kernel_rfl) (by kernel_rfl) ?_
   refine k_skip ?_
   refine k_seq ?_
   refine k_rg mixed H (.v 2 (vI 0) <| .nil) fun u12 a w' H => ?_
   replace H := H.kp [2, 999999]
   refine k_ret ?_
   obtain rfl := Option.some.inj G
   exact k_done0 H _ (by kernel_rfl) (by kernel_rfl)
  rw [if_neg c36] at G
  by_cases c37 : a0 = 3
  ·rw [if_pos c37] at G; subst c37
   refine k_rg mixed H (.v 11 (vI 3) <|
   .v 12 (vP 0 6) <|
   .v 13 (vP 0 6) <|
   .cons [14] (ok_ldK (fun u13 => .nilFunc) 14 999999 gk 0 6 1 gTab0 (fun w h => (glob_of h).tab0)) <|
   .v 15 (.bool false) <|
   .v 10 (.bool false) <| .nil) fun u13 a w' H => ?_
   replace H := H.kp [0, 10, 999999]
   refine k_cond_false H (by kernel_rfl) (by kernel_rfl) ?_
   refine k_seq ?_
   refine k_rg mixed H (.v 17 (vI 3) <|
   .v 18 (vP 0 6) <|
   .v 19 (vP 0 7) <|
   .cons [20] (ok_ldK (fun u14 => .nilFunc) 20 999999 gk 0 7 1 gTab0 (fun w h => (glob_of h).tab0)) <|
   .v 21 (.bool false) <|
   .v 16 (.bool false) <| .nil) fun u14 a w' H => ?_
   replace H := H.kp [16, 999999]
   refine k_cond_false H (by kernel_rfl) (by kernel_rfl) ?_
   refine k_skip ?_
   refine k_seq ?_
   refine k_rg mixed H (.v 2 (vI 0) <| .nil) fun u15 a w' H => ?_
   replace H := H.kp [2, 999999]
   refine k_ret ?_
   obtain rfl := Option.some.inj G
   exact k_done0 H _ (by kernel_rfl) (by kernel_rfl)
  rw [if_neg c37] at G
  by_cases c38 : a0 = 4
  ·rw [if_pos c38] at G; subst c38
   refine k_rg mixed H (.v 11 (vI 4) <|
   .v 12 (vP 0 8) <|
   .v 13 (vP 0 8) <|
   .cons [14] (ok_ldK (fun u16 => .func (.func 46) #[] #[]) 14 999999 gk 0 8 1 gTab0 (fun w h => (glob_of h).tab0)) <|
   .v 15 (.bool true) <|
   .v 10 (.bool true) <| .nil) fun u16 a w' H => ?_
   replace H := H.kp [0, 10, 999999]
   refine k_cond_true H (by kernel_rfl) (by kernel_rfl) ?_
   refine k_seq ?_
   refine k_rg mixed H (.v 2 (vI 1) <| .nil) fun u17 a w' H => ?_
   replace H := H.kp [2, 999999]
   refine k_ret ?_
   obtain rfl := Option.some.inj G
   exact k_done0 H _ (by kernel_rfl) (by kernel_rfl)
  rw [if_neg c38] at G
  by_cases c39 : a0 = 5
  ·rw [if_pos c39] at G; subst c39
   refine k_rg mixed H (.v 11 (vI 5) <|
   .v 12 (vP 0 10) <|
   .v 13 (vP 0 10) <|
   .cons [14] (ok_ldK (fun u18 => .func (.func 47) #[] #[]) 14 999999 gk 0 10 1 gTab0 (fun w h => (glob_of h).tab0)) <|
   .v 15 (.bool true) <|
   .v 10 (.bool true) <| .nil) fun u18 a w' H => ?_
   replace H := H.toM [(0, sI 5), (10, sB true), (999999, gk)]
   refine k_cond_true H (by kernel_rfl) (by kernel_rfl) ?_
   refine k_seq ?_
   refine k_rg mixed H (.v 2 (vI 1) <| .nil) fun u19 a w' H => ?_
   replace H := H.kp [2, 999999]
   refine k_ret ?_
   obtain rfl := Option.some.inj G
   exact k_done0 H _ (by kernel_rfl) (by kernel_rfl)
  rw [if_neg c39] at G
  by_cases c40 : a0 = 6
  ·rw [if_pos c40] at G; subst c40
   refine k_rg mixed H (.v 11 (vI 6) <|
   .v 12 (vP 0 12) <|
   .v 13 (vP 0 12) <|
   .cons [14] (ok_ldK (fun u20 => .func (.func 86) #[] #[]) 14 999999 gk 0 12 1 gTab0 (fun w h => (glob_of h).tab0)) <|
   .v 15 (.bool true) <|
   .v 10 (.bool true) <| .nil) fun u20 a w' H => ?_
   replace H := H.kp [0, 10, 999999]
   refine k_cond_true H (by kernel_rfl) (by kernel_rfl) ?_
   refine k_seq ?_
   refine k_rg mixed H (.v 2 (vI 1) <| .nil) fun u21 a w' H => ?_
   replace H := H.kp [2, 999999]
   refine k_ret ?_
   obtain rfl := Option.some.inj G
   exact k_done0 H _ (by kernel_rfl) (by kernel_rfl)
  rw [if_neg c40] at G
  by_cases c41 : a0 = 7
  ·rw [if_pos c41] at G; subst c41
   refine k_rg mixed H (.v 11 (vI 7) <|
   .v 12 (vP 0 14) <|
   .v 13 (vP 0 14) <|
   .cons [14] (ok_ldK (fun u22 => .nilFunc) 14 999999 gk 0 14 1 gTab0 (fun w h => (glob_of h).tab0)) <|
   .v 15 (.bool false) <|
   .v 10 (.bool false) <| .nil) fun u22 a w' H => ?_
   replace H := H.kp [0, 10, 999999]
   refine k_cond_false H (by kernel_rfl) (by kernel_rfl) ?_
   refine k_seq ?_
   refine k_rg mixed H (.v 17 (vI 7) <|
   .v 18 (vP 0 14) <|
   .v 19 (vP 0 15) <|
   .cons [20] (ok_ldK (fun u23 => .func (.func 53) #[] #[]) 20 999999 gk 0 15 1 gTab0 (fun w h => (glob_of h).tab0)) <|
   .v 21 (.bool true) <|
   .v 16 (.bool true) <| .nil) fun u23 a w' H => ?_
   replace H := H.kp [16, 999999]
   refine k_cond_true H (by kernel_rfl) (by kernel_rfl) ?_
   refine k_seq ?_
   refine k_rg mixed H (.v 2 (vI 2) <| .nil) fun u24 a w' H => ?_
   replace H := H.kp [2, 999999]
   refine k_ret ?_
   obtain rfl := Option.some.inj G
   exact k_done0 H _ (by kernel_rfl) (by kernel_rfl)
  rw [if_neg c41] at G
  by_cases c42 : a0 = 8
  ·rw [if_pos c42] at G; subst c42
   refine k_rg mixed H (.v 11 (vI 8) <|
   .v 12 (vP 0 16) <|
   .v 13 (vP 0 16) <|
   .cons [14] (ok_ldK (fun u25 => .nilFunc) 14 999999 gk 0 16 1 gTab0 (fun w h => (glob_of h).tab0)) <|
   .v 15 (.bool false) <|
   .v 10 (.bool false) <| .nil) fun u25 a w' H => ?_
   replace H := H.kp [0, 10, 999999]
   refine k_cond_false H (by kernel_rfl) (by kernel_rfl) ?_
   refine k_seq ?_
   refine k_rg mixed H (.v 17 (vI 8) <|
   .v 18 (vP 0 16) <|
   .v 19 (vP 0 17) <|
   .cons [20] (ok_ldK (fun u26 => .func (.func 54) #[] #[]) 20 999999 gk 0 17 1 gTab0 (fun w h => (glob_of h).tab0)) <|
   .v 21 (.bool true) <|
   .v 16 (.bool true) <| .nil) fun u26 a w' H => ?_
   replace H := H.kp [16, 999999]
   refine k_cond_true H (by kernel_rfl) (by kernel_rfl) ?_
   refine k_seq ?_
   refine k_rg mixed H (.v 2 (vI 2) <| .nil) fun u27 a w' H => ?_
   replace H := H.toM [(2, sI 2), (999999, gk)]
   refine k_ret ?_
   obtain rfl := Option.some.inj G
   exact k_done0 H _ (by kernel_rfl) (by kernel_rfl)
  rw [if_neg c42] at G
  by_cases c43 : a0 = 9
  ·rw [if_pos c43] at G; subst c43
   refine k_rg mixed H (.v 11 (vI 9) <|
   .v 12 (vP 0 18) <|
   .v 13 (vP 0 18) <|
   .cons [14] (ok_ldK (fun u28 => .nilFunc) 14 999999 gk 0 18 1 gTab0 (fun w h => (glob_of h).tab0)) <|
   .v 15 (.bool false) <|
   .v 10 (.bool false) <| .nil) fun u28 a w' H => ?_
   replace H := H.kp [0, 10, 999999]
   refine k_cond_false H (by kernel_rfl) (by kernel_rfl) ?_
   refine k_seq ?_
   refine k_rg mixed H (.v 17 (vI 9) <|
   .v 18 (vP 0 18) <|
   .v 19 (vP 0 19) <|
   .cons [20] (ok_ldK (fun u29 => .func (.func 55) #[] #[]) 20 999999 gk 0 19 1 gTab0 (fun w h => (glob_of h).tab0)) <|
   .v 21 (.bool true) <|
   .v 16 (.bool true) <| .nil) fun u29 a w' H => ?_
   replace H := H.kp [16, 999999]
   refine k_cond_true H (by kernel_rfl) (by kernel_rfl) ?_
   refine k_seq ?_
   refine k_rg mixed H (.v 2 (vI 2) <| .nil) fun u30 a w' H => ?_
   replace H := H.kp [2, 999999]
   refine k_ret ?_
   obtain rfl := Option.some.inj G
   exact k_done0 H _ (by kernel_rfl) (by kernel_rfl)
  rw [if_neg c43] at G
  by_cases c44 : a0 = 10
  ·rw [if_pos c44] at G; subst c44
   refine k_rg mixed H (.v 11 (vI 10) <|
   .v 12 (vP 0 20) <|
   .v 13 (vP 0 20) <|
   .cons [14] (ok_ldK (fun u31 => .nilFunc) 14 999999 gk 0 20 1 gTab0 (fun w h => (glob_of h).tab0)) <|
   .v 15 (.bool false) <|
   .v 10 (.bool false) <| .nil) fun u31 a w' H => ?_
   replace H := H.kp [0, 10, 999999]
   refine k_cond_false H (by kernel_rfl) (by kernel_rfl) ?_
   refine k_seq ?_
   refine k_rg mixed H (.v 17 (vI 10) <|
   .v 18 (vP 0 20) <|
   .v 19 (vP 0 21) <|
   .cons [20] (ok_ldK (fun u32 => .func (.func 56) #[] #[]) 20 999999 gk 0 21 1 gTab0 (fun w h => (glob_of h).tab0)) <|
   .v 21 (.bool true) <|
   .v 16 (.bool true) <| .nil) fun u32 a w' H => ?_
   replace H := H.kp [16, 999999]
   refine k_cond_true H (by kernel_rfl) (by kernel_rfl) ?_
   refine k_seq ?_
   refine k_rg mixed H (.v 2 (vI 2) <| .nil) fun u33 a w' H => ?_
   replace H := H.kp [2, 999999]
   refine k_ret ?_
   obtain rfl := Option.some.inj G
   exact k_done0 H _ (by kernel_rfl) (by kernel_rfl)
  rw [if_neg c44] at G
  cases G
set_option maxHeartbeats 4000000 in
theorem tape_Optimize_1_m.calls : ∀ (k0 : Nat) (a0 : Int) (q0_0 : List (Int × Int)) (q1 : TTape) (q3_0_0 : List TInstruction) (q3_0_1 : List (TInstruction × Int)) (b_q0 : Nat) (b_q0_0 : Nat) (b_q1 : Nat) (p_q1_L : Option Addr) (c_q1_L : Nat) (p_q1_Out : Option Addr) (c_q1_Out : Nat) (b_q2 : Nat) (b_q3 : Nat) (b_q3_0 : Nat) (p_q3_0_0 : Option Addr) (c_q3_0_0 : Nat) (b_q3_0_1 : Nat) (r : Int × List TInstruction × (List (Int × Int)) × (List (TInstruction × Int))) (w : World) (hB : AllH [bxK b_q0 [.map (some b_q0_0)] 75, rdl anyF 5 p_q1_L c_q1_L q1.L en_TInstruction, rdl anyF 1 p_q1_Out c_q1_Out q1.Out en_i64, bxK b_q1 [vI q1.N, .slice p_q1_L q1.L.length c_q1_L, .slice p_q1_Out q1.Out.length c_q1_Out] 25, bxK b_q2 [.func (.func 33) #[] #[vP b_q0 0, vP b_q1 0, vP b_q2 0, vP b_q3 0]] 59, bxK b_q3 [vP b_q3_0 0] 67, gk] w) (hM : OwnH [mpK b_q0_0 ek_i64 .i64 q0_0, owK 50 5 p_q3_0_0 q3_0_0.length c_q3_0_0 (q3_0_0.flatMap en_TInstruction), mpK b_q3_0_1 ek_TInstruction .i64 q3_0_1, .blk b_q3_0 [.slice p_q3_0_0 q3_0_0.length c_q3_0_0, .map (some b_q3_0_1)] 70] ([bxK b_q0 [.map (some b_q0_0)] 75, rdl anyF 5 p_q1_L c_q1_L q1.L en_TInstruction, rdl anyF 1 p_q1_Out c_q1_Out q1.Out en_i64, bxK b_q1 [vI q1.N, .slice p_q1_L q1.L.length c_q1_L, .slice p_q1_Out q1.Out.length c_q1_Out] 25, bxK b_q2 [.func (.func 33) #[] #[vP b_q0 0, vP b_q1 0, vP b_q2 0, vP b_q3 0]] 59, bxK b_q3 [vP b_q3_0 0] 67, gk] ++ []) w) (G : tape_Optimize_1_m k0 a0 q0_0 q1 q3_0_0 q3_0_1 = some r),
  Calls Tryd.prog 33 #[vI a0, vP b_q0 0, vP b_q1 0, vP b_q2 0, vP b_q3 0] w fun e w' => ∃ g : Gh, e = .returned (vI r.1) ∧ But (fpK [mpK b_q0_0 ek_i64 .i64 q0_0, owK 50 5 p_q3_0_0 q3_0_0.length c_q3_0_0 (q3_0_0.flatMap en_TInstruction), mpK b_q3_0_1 ek_TInstruction .i64 q3_0_1, .blk b_q3_0 [.slice p_q3_0_0 q3_0_0.length c_q3_0_0, .map (some b_q3_0_1)] 70]) w w' ∧ OutOK w.heap.size (fpK [mpK b_q0_0 ek_i64 .i64 q0_0, owK 50 5 p_q3_0_0 q3_0_0.length c_q3_0_0 (q3_0_0.flatMap en_TInstruction), mpK b_q3_0_1 ek_TInstruction .i64 q3_0_1, .blk b_q3_0 [.slice p_q3_0_0 q3_0_0.length c_q3_0_0, .map (some b_q3_0_1)] 70]) (frI w.heap.size []) [fun _ => owK 50 5 (g.o 0) r.2.1.length (g.n 0) (r.2.1.flatMap en_TInstruction), fun _ => .blk b_q3_0 [.slice (g.o 0) r.2.1.length (g.n 0), .map (some b_q3_0_1)] 70, fun _ => mpK b_q0_0 ek_i64 .i64 r.2.2.1, fun _ => mpK b_q3_0_1 ek_TInstruction .i64 r.2.2.2] w' := by
 intro k0
 induction k0 with
 | zero => intros; rename_i G; exact absurd G (by unfold tape_Optimize_1_m; exact fun h => by cases h)
 | succ k0 IH => ?_
 intro a0 q0_0 q1 q3_0_0 q3_0_1 b_q0 b_q0_0 b_q1 p_q1_L c_q1_L p_q1_Out c_q1_Out b_q2 b_q3 b_q3_0 p_q3_0_0 c_q3_0_0 b_q3_0_1 r w hB hM G
 obtain ⟨fr, hfr⟩ : ∃ fr : Nat → Prop, fr = frI w.heap.size [] := ⟨_, rfl⟩
 have hBf : ∀ j, w.heap.size ≤ j → fr j := fun j h => by rw [hfr]; exact .inl h
 refine k_enterY (args := [vI a0, vP b_q0 0, vP b_q1 0, vP b_q2 0, vP b_q3 0]) 49 [(49, bxK b_q0 [.map (some b_q0_0)] 75), (52, rdl anyF 5 p_q1_L c_q1_L q1.L en_TInstruction), (53, rdl anyF 1 p_q1_Out c_q1_Out q1.Out en_i64), (51, bxK b_q1 [vI q1.N, .slice p_q1_L q1.L.length c_q1_L, .slice p_q1_Out q1.Out.length c_q1_Out] 25), (54, bxK b_q2 [.func (.func 33) #[] #[vP b_q0 0, vP b_q1 0, vP b_q2 0, vP b_q3 0]] 59), (55, bxK b_q3 [vP b_q3_0 0] 67), (999999, gk)] [(50, mpK b_q0_0 ek_i64 .i64 q0_0), (57, owK 50 5 p_q3_0_0 q3_0_0.length c_q3_0_0 (q3_0_0.flatMap en_TInstruction)), (58, mpK b_q3_0_1 ek_TInstruction .i64 q3_0_1), (56, .blk b_q3_0 [.slice p_q3_0_0 q3_0_0.length c_q3_0_0, .map (some b_q3_0_1)] 70)] (ownH_fps hM (by rfl)) (by
  intro x hx
  simp only [List.mem_cons, List.not_mem_nil, or_false] at hx
  rcases hx with rfl | rfl | rfl | rfl | rfl | rfl | rfl
  ·exact bx_fact (hB.1 w (agree.refl _ _)) _
  ·exact rdF_fact (rdF_of hB.2.1) (fun _ _ => trivial) (by decide) _
  ·exact rdF_fact (rdF_of hB.2.2.1) (fun _ _ => trivial) (by decide) _
  ·exact bx_fact (hB.2.2.2.1 w (agree.refl _ _)) _
  ·exact bx_fact (hB.2.2.2.2.1 w (agree.refl _ _)) _
  ·exact bx_fact (hB.2.2.2.2.2.1 w (agree.refl _ _)) _
  ·exact ⟨⟨_, _, rfl⟩, hB.2.2.2.2.2.2.1, glob_in (glob_of hB.2.2.2.2.2.2.1)⟩) (by rfl) Tryd.func33 rfl (by kernel_rfl) (by kernel_rfl) fun a H => ?_
 unfold tape_Optimize_1_m at G
 generalize tape_Optimize_1_m k0 = rec at G IH
 unfold tape_Optimize_1_m.body at G
 refine k_seq ?_
 refine k_rg mixed H (.v 6 (vI 0) <| .nil) fun u1 a w' H => ?_
 replace H := H.kp [0, 1, 2, 3, 4, 50, 52, 53, 56, 57, 58, 49, 51, 54, 55, 999999, 999998]
 refine k_seq ?_
 refine k_seq ?_
 refine k_rg mixed H (.cons [11] (ok_ldK (fun u2 => .map (some b_q0_0)) 11 49 (bxK b_q0 [.map (some b_q0_0)] 75) b_q0 0 1 [.map (some b_q0_0)] (fun w h => bx_of h)) <|
   .v 12 (vI a0) <|
   .cons [13] (ok_valL [50] (fun u2 => [mpK b_q0_0 ek_i64 .i64 q0_0]) (fun u2 => .tuple #[vI ((mget q0_0 a0).getD 0), .bool ((mget q0_0 a0).isSome)]) (fun u2 => true) [true, true] 13 (fun u2 w hg hF => r_mlook (t := 75) (e := 3) (x := a0) kek_i64 (ob_of hF.1))) <|
   .v 10 (.tuple #[vI ((mget q0_0 a0).getD 0), .bool ((mget q0_0 a0).isSome)]) <|
   .v 14 (vI ((mget q0_0 a0).getD 0)) <|
   .v 15 (.bool ((mget q0_0 a0).isSome)) <|
   .v 7 (vI ((mget q0_0 a0).getD 0)) <|
   .v 8 (.bool ((mget q0_0 a0).isSome)) <| .nil) fun u2 a w' H => ?_
 replace H := H.kp [0, 1, 2, 3, 4, 7, 8, 50, 52, 53, 56, 57, 58, 49, 51, 54, 55, 999999, 999998]
 refine k_seq ?_
 refine k_rg mixed H (.v 16 (.bool ((mget q0_0 a0).isSome)) <| .nil) fun u3 a w' H => ?_
 replace H := H.kp [0, 1, 2, 3, 4, 7, 16, 50, 52, 53, 56, 57, 58, 49, 51, 54, 55, 999999, 999998]
 refine k_cond H (by kernel_rfl) (t := (mget q0_0 a0).isSome) (by kernel_rfl) (fun c32 => ?_) (fun c32 => ?_)
 ·rw [if_pos c32] at G
  refine k_seq ?_
  refine k_rg mixed H (.v 17 (vI ((mget q0_0 a0).getD 0)) <|
   .v 6 (vI ((mget q0_0 a0).getD 0)) <| .nil) fun u4 a w' H => ?_
  replace H := H.kp [6, 50, 52, 53, 56, 57, 58, 49, 51, 54, 55, 999999, 999998]
  refine k_ret ?_
  obtain rfl := Option.some.inj G
  obtain ⟨g, o0, n0⟩ : ∃ g : Gh, g.o 0 = p_q3_0_0 ∧ g.n 0 = c_q3_0_0 := ⟨⟨fun i => [c_q3_0_0].getD i 0, fun i => [p_q3_0_0].getD i none, fun i => ([⟨Unit, ()⟩] : List ((T : Type) × T)).getD i ⟨Unit, ()⟩⟩, rfl, rfl⟩
  refine k_doneZ H (fun g => vI ((mget q0_0 a0).getD 0)) g [mpK b_q0_0 ek_i64 .i64 q0_0, owK 50 5 p_q3_0_0 q3_0_0.length c_q3_0_0 (q3_0_0.flatMap en_TInstruction), mpK b_q3_0_1 ek_TInstruction .i64 q3_0_1, .blk b_q3_0 [.slice p_q3_0_0 q3_0_0.length c_q3_0_0, .map (some b_q3_0_1)] 70] [] (fun g => [fun _ => owK 50 5 (g.o 0) q3_0_0.length (g.n 0) (q3_0_0.flatMap en_TInstruction), fun _ => .blk b_q3_0 [.slice (g.o 0) q3_0_0.length (g.n 0), .map (some b_q3_0_1)] 70, fun _ => mpK b_q0_0 ek_i64 .i64 q0_0, fun _ => mpK b_q3_0_1 ek_TInstruction .i64 q3_0_1]) fr [57, 56, 50, 58] [] (vI ((mget q0_0 a0).getD 0)) [fun _ => owK 50 5 p_q3_0_0 q3_0_0.length c_q3_0_0 (q3_0_0.flatMap en_TInstruction), fun _ => .blk b_q3_0 [.slice p_q3_0_0 q3_0_0.length c_q3_0_0, .map (some b_q3_0_1)] 70, fun _ => mpK b_q0_0 ek_i64 .i64 q0_0, fun _ => mpK b_q3_0_1 ek_TInstruction .i64 q3_0_1] (by simp only [o0, n0]) (by simp only [o0, n0]) hfr (.inr (by kernel_rfl)) (fams_cons fam_ow (fams_cons fam_blk (fams_cons fam_ob (fams_cons fam_ob fams_nil)))) (by simp)
 ·rw [if_neg (nt c32)] at G
  refine k_skip ?_
  refine k_seq ?_
  replace G := gd G; obtain ⟨b6, G⟩ := G
  replace G := bnd G; obtain ⟨t7, ht7, G⟩ := G
  refine k_rg mixed H (.v 18 (vP b_q1 1) <|
   .cons [19] (ok_ldK (fun u5 => .slice p_q1_L q1.L.length c_q1_L) 19 51 (bxK b_q1 [vI q1.N, .slice p_q1_L q1.L.length c_q1_L, .slice p_q1_Out q1.Out.length c_q1_Out] 25) b_q1 1 1 [vI q1.N, .slice p_q1_L q1.L.length c_q1_L, .slice p_q1_Out q1.Out.length c_q1_Out] (fun w h => bx_of h)) <|
   .v 20 (vI a0) <|
   .cons [21] (ok_valL [52] (fun u5 => [rdl anyF 5 p_q1_L c_q1_L q1.L en_TInstruction]) (fun u5 => .pointer (some ⟨hdB p_q1_L, hdO p_q1_L + a0.toNat * 5, none⟩)) (fun u5 => true) [true, true] 21 (fun u5 w hg hF => ix_row (t := 22) (k := .i64) (i := a0) (p := p_q1_L) (n := q1.L.length) (cap := c_q1_L) (x := q1.L) (en := en_TInstruction) (rdF_of hF.1).2 en_TInstruction_len rfl b6 (by kernel_rfl))) <|
   .cons [22] (ok_valL [52] (fun u5 => [rdl anyF 5 p_q1_L c_q1_L q1.L en_TInstruction]) (fun u5 => .agg #[vI t7.Op, vI t7.A, vI t7.B, vI t7.C.Lo, vI t7.C.Hi]) (fun u5 => true) [true] 22 (fun u5 w hg hF => ld_row (en := en_TInstruction) (rdF_of hF.1).2 en_TInstruction_len ht7 0 5 [vI t7.Op, vI t7.A, vI t7.B, vI t7.C.Lo, vI t7.C.Hi] rfl (by kernel_rfl))) <|
   .cons [9, 59] (ok_new (fun b => vP b 0) (fun u5 => [vI 0, vI 0, vI 0, vI 0, vI 0]) 50 9 59) <|
   .cons [59] (ok_as (u' := fun u5 => [(59, .blk ((u5 5).n 0) [vI t7.Op, vI t7.A, vI t7.B, vI t7.C.Lo, vI t7.C.Hi] 50)]) (ok_store 59 0 (fun u5 => ((u5 5).n 0)) (fun u5 => [vI 0, vI 0, vI 0, vI 0, vI 0]) (fun u5 => [vI t7.Op, vI t7.A, vI t7.B, vI t7.C.Lo, vI t7.C.Hi]) 50) (fun _ => by kernel_rfl)) <| .nil) fun u5 a w' H => ?_
  replace H := H.kp [0, 1, 3, 4, 9, 50, 52, 53, 56, 57, 58, 59, 49, 51, 54, 55, 999999, 999998]
  refine k_seq ?_
  replace G := bnd G; obtain ⟨j12, hj12, G⟩ := G
  refine k_join (fun a w' => ∃ (p_j8 : Option Addr) (c_j8 np_j8 : Nat), np_j8 = j12.1.length ∧ Rep 0 w 49 (ofL [(0, sI a0), (1, sP b_q0 0), (3, sP b_q2 0), (4, sP b_q3 0), (9, (sP ((u5 5).n 0) 0)), (50, mpK b_q0_0 ek_i64 .i64 j12.2.2.1), (52, rdl anyF 5 p_q1_L c_q1_L q1.L en_TInstruction), (53, rdl anyF 1 p_q1_Out c_q1_Out q1.Out en_i64), (56, .blk b_q3_0 [.slice p_j8 np_j8 c_j8, .map (some b_q3_0_1)] 70), (58, mpK b_q3_0_1 ek_TInstruction .i64 j12.2.2.2), (59, .blk ((u5 5).n 0) [vI t7.Op, vI j12.2.1, vI t7.B, vI t7.C.Lo, vI t7.C.Hi] 50), (900020, owK 50 5 p_j8 np_j8 c_j8 (j12.1.flatMap en_TInstruction)), (49, bxK b_q0 [.map (some b_q0_0)] 75), (51, bxK b_q1 [vI q1.N, .slice p_q1_L q1.L.length c_q1_L, .slice p_q1_Out q1.Out.length c_q1_Out] 25), (54, bxK b_q2 [.func (.func 33) #[] #[vP b_q0 0, vP b_q1 0, vP b_q2 0, vP b_q3 0]] 59), (55, bxK b_q3 [vP b_q3_0 0] 67), (999999, gk), (999998, frM [mpK b_q0_0 ek_i64 .i64 q0_0, owK 50 5 p_q3_0_0 q3_0_0.length c_q3_0_0 (q3_0_0.flatMap en_TInstruction), mpK b_q3_0_1 ek_TInstruction .i64 q3_0_1, .blk b_q3_0 [.slice p_q3_0_0 q3_0_0.length c_q3_0_0, .map (some b_q3_0_1)] 70] w)]) a w') ?_ ?_
  ·clear H; rintro a w' ⟨p_j8, c_j8, _, rfl, H⟩
   refine k_seq ?_
   replace G := bnd G; obtain ⟨j17, hj17, G⟩ := G
   refine k_join (fun a w' => ∃ (p_j13 : Option Addr) (c_j13 np_j13 : Nat), np_j13 = j17.1.length ∧ Rep 0 w 49 (ofL [(0, sI a0), (1, sP b_q0 0), (4, sP b_q3 0), (9, (sP ((u5 5).n 0) 0)), (50, mpK b_q0_0 ek_i64 .i64 j17.2.2.1), (52, rdl anyF 5 p_q1_L c_q1_L q1.L en_TInstruction), (53, rdl anyF 1 p_q1_Out c_q1_Out q1.Out en_i64), (56, .blk b_q3_0 [.slice p_j13 np_j13 c_j13, .map (some b_q3_0_1)] 70), (58, mpK b_q3_0_1 ek_TInstruction .i64 j17.2.2.2), (59, .blk ((u5 5).n 0) [vI t7.Op, vI j12.2.1, vI j17.2.1, vI t7.C.Lo, vI t7.C.Hi] 50), (900021, owK 50 5 p_j13 np_j13 c_j13 (j17.1.flatMap en_TInstruction)), (49, bxK b_q0 [.map (some b_q0_0)] 75), (51, bxK b_q1 [vI q1.N, .slice p_q1_L q1.L.length c_q1_L, .slice p_q1_Out q1.Out.length c_q1_Out] 25), (54, bxK b_q2 [.func (.func 33) #[] #[vP b_q0 0, vP b_q1 0, vP b_q2 0, vP b_q3 0]] 59), (55, bxK b_q3 [vP b_q3_0 0] 67), (999999, gk), (999998, frM [mpK b_q0_0 ek_i64 .i64 q0_0, owK 50 5 p_q3_0_0 q3_0_0.length c_q3_0_0 (q3_0_0.flatMap en_TInstruction), mpK b_q3_0_1 ek_TInstruction .i64 q3_0_1, .blk b_q3_0 [.slice p_q3_0_0 q3_0_0.length c_q3_0_0, .map (some b_q3_0_1)] 70] w)]) a w') ?_ ?_
   ·clear H; rintro a w' ⟨p_j13, c_j13, _, rfl, H⟩
    refine k_seq ?_
    replace G := bnd G; obtain ⟨t19, ht19, G⟩ := G
    replace G := gd G; obtain ⟨b20, G⟩ := G
    refine k_rg mixed H (.cons [41] (ok_ldK (fun u18 => .map (some b_q0_0)) 41 49 (bxK b_q0 [.map (some b_q0_0)] 75) b_q0 0 1 [.map (some b_q0_0)] (fun w h => bx_of h)) <|
   .v 42 (vI a0) <|
   .cons [43] (ok_ldK (fun u18 => vP b_q3_0 0) 43 55 (bxK b_q3 [vP b_q3_0 0] 67) b_q3 0 1 [vP b_q3_0 0] (fun w h => bx_of h)) <|
   .cons [44] (ok_ld (fun u18 => .agg #[vI t7.Op, vI j12.2.1, vI j17.2.1, vI t7.C.Lo, vI t7.C.Hi]) 44 59 0 5 (fun u18 => ((u5 5).n 0)) (fun u18 => [vI t7.Op, vI j12.2.1, vI j17.2.1, vI t7.C.Lo, vI t7.C.Hi]) 50) <|
   .cons [45, 900021, 58, 56, 60, 56, 58] (ok_callY false fr [] [999999] (fun u18 => [gk]) [900021, 58, 56] (fun u18 => [owK 50 5 p_j13 j17.1.length c_j13 (j17.1.flatMap en_TInstruction), mpK b_q3_0_1 ek_TInstruction .i64 j17.2.2.2, .blk b_q3_0 [.slice p_j13 j17.1.length c_j13, .map (some b_q3_0_1)] 70]) 31 (fun u18 => #[vP b_q3_0 0, .agg #[vI t7.Op, vI j12.2.1, vI j17.2.1, vI t7.C.Lo, vI t7.C.Hi]]) (fun u18 => [gk]) (fun u18 => []) (fun u18 g => vI t19.1) (fun u18 g => [fun _ => owK 50 5 (g.o 0) t19.2.1.length (g.n 0) (t19.2.1.flatMap en_TInstruction), fun _ => .blk b_q3_0 [.slice (g.o 0) t19.2.1.length (g.n 0), .map (some b_q3_0_1)] 70, fun _ => mpK b_q3_0_1 ek_TInstruction .i64 t19.2.2]) [60, 56, 58] 45 (fun u18 w hB hF hM => tape_builder_emit_m.calls j17.1 j17.2.2.2 (⟨t7.Op, j12.2.1, j17.2.1, (⟨t7.C.Lo, t7.C.Hi⟩ : TInterval)⟩ : TInstruction) b_q3_0 p_j13 c_j13 b_q3_0_1 t19 w  hB hM ht19) (fun u18 w hF => ⟨⟨sub_k hF.1 (.head _), trivial⟩, trivial⟩) (fun u18 g => (fams_cons fam_ow (fams_cons fam_blk (fams_cons fam_ob fams_nil)))) (.inr (fun u18 g => (famx_cons trivial (famx_cons trivial (famx_cons trivial (fun K h => by cases h)))))) (fun h => by cases h)) <|
   .cons [50, 50] (ok_own1 [] [] (fun u18 => []) 50 (fun u18 => mpK b_q0_0 ek_i64 .i64 j17.2.2.1) none (fun u18 g => .nilFunc) (fun u18 g => mpK b_q0_0 ek_i64 .i64 (j17.2.2.1 ++ [(a0, t19.1)])) (fun u18 w hF hK => tv_ob hK (r_mupd (t := 75) (e := 3) (x := a0) kek_i64 (ob_of hK) b20))) <| .nil) fun u18 a w' H => ?_
    replace H := H.kp [0, 1, 50, 52, 53, 56, 58, 60, 49, 51, 54, 55, 999999, 999998]
    refine k_seq ?_
    refine k_rg mixed H (.cons [46] (ok_ldK (fun u21 => .map (some b_q0_0)) 46 49 (bxK b_q0 [.map (some b_q0_0)] 75) b_q0 0 1 [.map (some b_q0_0)] (fun w h => bx_of h)) <|
   .v 47 (vI a0) <|
   .cons [48] (ok_valL [50] (fun u21 => [mpK b_q0_0 ek_i64 .i64 (j17.2.2.1 ++ [(a0, t19.1)])]) (fun u21 => vI ((mget (j17.2.2.1 ++ [(a0, t19.1)]) a0).getD 0)) (fun u21 => true) [true, true] 48 (fun u21 w hg hF => r_mlook0 (t := 75) (e := 3) (x := a0) kek_i64 (ob_of hF.1))) <|
   .v 6 (vI ((mget (j17.2.2.1 ++ [(a0, t19.1)]) a0).getD 0)) <| .nil) fun u21 a w' H => ?_
    replace H := H.kp [6, 50, 52, 53, 56, 58, 60, 49, 51, 54, 55, 999999, 999998]
    refine k_ret ?_
    obtain rfl := Option.some.inj G
    obtain ⟨g, o0, n0⟩ : ∃ g : Gh, g.o 0 = ((u18 4).o 0) ∧ g.n 0 = ((u18 4).n 0) := ⟨⟨fun i => [((u18 4).n 0)].getD i 0, fun i => [((u18 4).o 0)].getD i none, fun i => ([⟨Unit, ()⟩] : List ((T : Type) × T)).getD i ⟨Unit, ()⟩⟩, rfl, rfl⟩
    refine k_doneZ H (fun g => vI ((mget (j17.2.2.1 ++ [(a0, t19.1)]) a0).getD 0)) g [mpK b_q0_0 ek_i64 .i64 q0_0, owK 50 5 p_q3_0_0 q3_0_0.length c_q3_0_0 (q3_0_0.flatMap en_TInstruction), mpK b_q3_0_1 ek_TInstruction .i64 q3_0_1, .blk b_q3_0 [.slice p_q3_0_0 q3_0_0.length c_q3_0_0, .map (some b_q3_0_1)] 70] [] (fun g => [fun _ => owK 50 5 (g.o 0) t19.2.1.length (g.n 0) (t19.2.1.flatMap en_TInstruction), fun _ => .blk b_q3_0 [.slice (g.o 0) t19.2.1.length (g.n 0), .map (some b_q3_0_1)] 70, fun _ => mpK b_q0_0 ek_i64 .i64 (j17.2.2.1 ++ [(a0, t19.1)]), fun _ => mpK b_q3_0_1 ek_TInstruction .i64 t19.2.2]) fr [60, 56, 50, 58] [] (vI ((mget (j17.2.2.1 ++ [(a0, t19.1)]) a0).getD 0)) [fun _ => owK 50 5 ((u18 4).o 0) t19.2.1.length ((u18 4).n 0) (t19.2.1.flatMap en_TInstruction), fun _ => .blk b_q3_0 [.slice ((u18 4).o 0) t19.2.1.length ((u18 4).n 0), .map (some b_q3_0_1)] 70, fun _ => mpK b_q0_0 ek_i64 .i64 (j17.2.2.1 ++ [(a0, t19.1)]), fun _ => mpK b_q3_0_1 ek_TInstruction .i64 t19.2.2] (by simp only [o0, n0]) (by simp only [o0, n0]) hfr (.inr (by kernel_rfl)) (fams_cons fam_ow (fams_cons fam_blk (fams_cons fam_ob (fams_cons fam_ob fams_nil)))) (by simp)
   ·clear G; replace G := hj17; clear hj17
    refine k_seq ?_
    replace G := bnd G; obtain ⟨t23, ht23, G⟩ := G
    refine k_rg mixed H (.v 32 (vP ((u5 5).n 0) 0) <|
   .cons [33] (ok_ld (fun u22 => vI t7.Op) 33 59 0 1 (fun u22 => ((u5 5).n 0)) (fun u22 => [vI t7.Op, vI j12.2.1, vI t7.B, vI t7.C.Lo, vI t7.C.Hi]) 50) <|
   .cons [34] (ok_callL [999999] (fun u22 => [gk]) 34 (fun u22 => #[vI t7.Op]) (vI t23) 34 (fun u22 w hF => tape_arity.calls k0 t7.Op  t23 w  (glob_of hF.1) ht23)) <|
   .v 35 (.bool (decide (t23 > 1))) <| .nil) fun u22 a w' H => ?_
    replace H := H.kp [0, 1, 3, 4, 9, 35, 50, 52, 53, 56, 58, 59, 900020, 49, 51, 54, 55, 999999, 999998]
    refine k_cond H (by kernel_rfl) (t := decide (t23 > 1)) (by kernel_rfl) (fun c26 => ?_) (fun c26 => ?_)
    ·rw [if_pos c26] at G
     replace G := bnd G; obtain ⟨t25, ht25, G⟩ := G
     refine k_rg mixed H (.cons [36] (ok_ldK (fun u24 => .func (.func 33) #[] #[vP b_q0 0, vP b_q1 0, vP b_q2 0, vP b_q3 0]) 36 54 (bxK b_q2 [.func (.func 33) #[] #[vP b_q0 0, vP b_q1 0, vP b_q2 0, vP b_q3 0]] 59) b_q2 0 1 [.func (.func 33) #[] #[vP b_q0 0, vP b_q1 0, vP b_q2 0, vP b_q3 0]] (fun w h => bx_of h)) <|
   .v 37 (vP ((u5 5).n 0) 2) <|
   .cons [38] (ok_ld (fun u24 => vI t7.B) 38 59 2 1 (fun u24 => ((u5 5).n 0)) (fun u24 => [vI t7.Op, vI j12.2.1, vI t7.B, vI t7.C.Lo, vI t7.C.Hi]) 50) <|
   .cons [39, 50, 900020, 58, 56, 61, 56, 50, 58] (ok_callY false fr [] [49, 52, 53, 51, 54, 55, 999999] (fun u24 => [bxK b_q0 [.map (some b_q0_0)] 75, rdl anyF 5 p_q1_L c_q1_L q1.L en_TInstruction, rdl anyF 1 p_q1_Out c_q1_Out q1.Out en_i64, bxK b_q1 [vI q1.N, .slice p_q1_L q1.L.length c_q1_L, .slice p_q1_Out q1.Out.length c_q1_Out] 25, bxK b_q2 [.func (.func 33) #[] #[vP b_q0 0, vP b_q1 0, vP b_q2 0, vP b_q3 0]] 59, bxK b_q3 [vP b_q3_0 0] 67, gk]) [50, 900020, 58, 56] (fun u24 => [mpK b_q0_0 ek_i64 .i64 j12.2.2.1, owK 50 5 p_j8 j12.1.length c_j8 (j12.1.flatMap en_TInstruction), mpK b_q3_0_1 ek_TInstruction .i64 j12.2.2.2, .blk b_q3_0 [.slice p_j8 j12.1.length c_j8, .map (some b_q3_0_1)] 70]) 33 (fun u24 => #[vI t7.B, vP b_q0 0, vP b_q1 0, vP b_q2 0, vP b_q3 0]) (fun u24 => [bxK b_q0 [.map (some b_q0_0)] 75, rdl anyF 5 p_q1_L c_q1_L q1.L en_TInstruction, rdl anyF 1 p_q1_Out c_q1_Out q1.Out en_i64, bxK b_q1 [vI q1.N, .slice p_q1_L q1.L.length c_q1_L, .slice p_q1_Out q1.Out.length c_q1_Out] 25, bxK b_q2 [.func (.func 33) #[] #[vP b_q0 0, vP b_q1 0, vP b_q2 0, vP b_q3 0]] 59, bxK b_q3 [vP b_q3_0 0] 67, gk]) (fun u24 => []) (fun u24 g => vI t25.1) (fun u24 g => [fun _ => owK 50 5 (g.o 0) t25.2.1.length (g.n 0) (t25.2.1.flatMap en_TInstruction), fun _ => .blk b_q3_0 [.slice (g.o 0) t25.2.1.length (g.n 0), .map (some b_q3_0_1)] 70, fun _ => mpK b_q0_0 ek_i64 .i64 t25.2.2.1, fun _ => mpK b_q3_0_1 ek_TInstruction .i64 t25.2.2.2]) [61, 56, 50, 58] 39 (fun u24 w hB hF hM => IH t7.B j12.2.2.1 (⟨q1.N, q1.L, q1.Out⟩ : TTape) j12.1 j12.2.2.2 b_q0 b_q0_0 b_q1 p_q1_L c_q1_L p_q1_Out c_q1_Out b_q2 b_q3 b_q3_0 p_j8 c_j8 b_q3_0_1 t25 w  hB hM ht25) (fun u24 w hF => ⟨⟨sub_bx (hF.1 w (agree.refl _ _)) (.head _) rfl, sub_rd0 (rdF_of hF.2.1) (fun j h => ⟨_, (.tail _ (.head _)), h⟩), sub_rd0 (rdF_of hF.2.2.1) (fun j h => ⟨_, (.tail _ (.tail _ (.head _))), h⟩), sub_bx (hF.2.2.2.1 w (agree.refl _ _)) (.tail _ (.tail _ (.tail _ (.head _)))) rfl, sub_bx (hF.2.2.2.2.1 w (agree.refl _ _)) (.tail _ (.tail _ (.tail _ (.tail _ (.head _))))) rfl, sub_bx (hF.2.2.2.2.2.1 w (agree.refl _ _)) (.tail _ (.tail _ (.tail _ (.tail _ (.tail _ (.head _)))))) rfl, sub_k hF.2.2.2.2.2.2.1 (.tail _ (.tail _ (.tail _ (.tail _ (.tail _ (.tail _ (.head _))))))), trivial⟩, trivial⟩) (fun u24 g => (fams_cons fam_ow (fams_cons fam_blk (fams_cons fam_ob (fams_cons fam_ob fams_nil))))) (.inr (fun u24 g => (famx_cons trivial (famx_cons trivial (famx_cons trivial (famx_cons trivial (fun K h => by cases h))))))) (fun h => by cases h)) <|
   .v 40 (vP ((u5 5).n 0) 2) <|
   .cons [59] (ok_as (u' := fun u24 => [(59, .blk ((u5 5).n 0) [vI t7.Op, vI j12.2.1, vI t25.1, vI t7.C.Lo, vI t7.C.Hi] 50)]) (ok_store 59 2 (fun u24 => ((u5 5).n 0)) (fun u24 => [vI t7.Op, vI j12.2.1, vI t7.B, vI t7.C.Lo, vI t7.C.Hi]) (fun u24 => [vI t25.1]) 50) (fun _ => by kernel_rfl)) <| .nil) fun u24 a w' H => ?_
     replace H := H.kp [0, 1, 4, 9, 50, 52, 53, 56, 58, 59, 61, 49, 51, 54, 55, 999999, 999998]
     obtain rfl := Option.some.inj G
     replace H := H.move (K := owK 50 5 ((u24 3).o 0) t25.2.1.length ((u24 3).n 0) (t25.2.1.flatMap en_TInstruction)) 61 900021 (by kernel_rfl) (by intro _ _ h; cases h)
     exact ⟨((u24 3).o 0), ((u24 3).n 0), t25.2.1.length, rfl, H.toL _ (by kernel_rfl)⟩
    ·rw [if_neg (nt c26)] at G
     refine k_skip ?_
     obtain rfl := Option.some.inj G
     replace H := H.move (K := owK 50 5 p_j8 j12.1.length c_j8 (j12.1.flatMap en_TInstruction)) 900020 900021 (by kernel_rfl) (by intro _ _ h; cases h)
     exact ⟨p_j8, c_j8, j12.1.length, rfl, H.toL _ (by kernel_rfl)⟩
  ·clear G; replace G := hj12; clear hj12
   refine k_seq ?_
   replace G := bnd G; obtain ⟨t28, ht28, G⟩ := G
   refine k_rg mixed H (.v 23 (vP ((u5 5).n 0) 0) <|
   .cons [24] (ok_ld (fun u27 => vI t7.Op) 24 59 0 1 (fun u27 => ((u5 5).n 0)) (fun u27 => [vI t7.Op, vI t7.A, vI t7.B, vI t7.C.Lo, vI t7.C.Hi]) 50) <|
   .cons [25] (ok_callL [999999] (fun u27 => [gk]) 34 (fun u27 => #[vI t7.Op]) (vI t28) 25 (fun u27 w hF => tape_arity.calls k0 t7.Op  t28 w  (glob_of hF.1) ht28)) <|
   .v 26 (.bool (decide (t28 > 0))) <| .nil) fun u27 a w' H => ?_
   replace H := H.kp [0, 1, 3, 4, 9, 26, 50, 52, 53, 56, 57, 58, 59, 49, 51, 54, 55, 999999, 999998]
   refine k_cond H (by kernel_rfl) (t := decide (t28 > 0)) (by kernel_rfl) (fun c31 => ?_) (fun c31 => ?_)
   ·rw [if_pos c31] at G
    replace G := bnd G; obtain ⟨t30, ht30, G⟩ := G
    refine k_rg mixed H (.cons [27] (ok_ldK (fun u29 => .func (.func 33) #[] #[vP b_q0 0, vP b_q1 0, vP b_q2 0, vP b_q3 0]) 27 54 (bxK b_q2 [.func (.func 33) #[] #[vP b_q0 0, vP b_q1 0, vP b_q2 0, vP b_q3 0]] 59) b_q2 0 1 [.func (.func 33) #[] #[vP b_q0 0, vP b_q1 0, vP b_q2 0, vP b_q3 0]] (fun w h => bx_of h)) <|
   .v 28 (vP ((u5 5).n 0) 1) <|
   .cons [29] (ok_ld (fun u29 => vI t7.A) 29 59 1 1 (fun u29 => ((u5 5).n 0)) (fun u29 => [vI t7.Op, vI t7.A, vI t7.B, vI t7.C.Lo, vI t7.C.Hi]) 50) <|
   .cons [30, 50, 57, 58, 56, 64, 56, 50, 58] (ok_callY false fr [] [49, 52, 53, 51, 54, 55, 999999] (fun u29 => [bxK b_q0 [.map (some b_q0_0)] 75, rdl anyF 5 p_q1_L c_q1_L q1.L en_TInstruction, rdl anyF 1 p_q1_Out c_q1_Out q1.Out en_i64, bxK b_q1 [vI q1.N, .slice p_q1_L q1.L.length c_q1_L, .slice p_q1_Out q1.Out.length c_q1_Out] 25, bxK b_q2 [.func (.func 33) #[] #[vP b_q0 0, vP b_q1 0, vP b_q2 0, vP b_q3 0]] 59, bxK b_q3 [vP b_q3_0 0] 67, gk]) [50, 57, 58, 56] (fun u29 => [mpK b_q0_0 ek_i64 .i64 q0_0, owK 50 5 p_q3_0_0 q3_0_0.length c_q3_0_0 (q3_0_0.flatMap en_TInstruction), mpK b_q3_0_1 ek_TInstruction .i64 q3_0_1, .blk b_q3_0 [.slice p_q3_0_0 q3_0_0.length c_q3_0_0, .map (some b_q3_0_1)] 70]) 33 (fun u29 => #[vI t7.A, vP b_q0 0, vP b_q1 0, vP b_q2 0, vP b_q3 0]) (fun u29 => [bxK b_q0 [.map (some b_q0_0)] 75, rdl anyF 5 p_q1_L c_q1_L q1.L en_TInstruction, rdl anyF 1 p_q1_Out c_q1_Out q1.Out en_i64, bxK b_q1 [vI q1.N, .slice p_q1_L q1.L.length c_q1_L, .slice p_q1_Out q1.Out.length c_q1_Out] 25, bxK b_q2 [.func (.func 33) #[] #[vP b_q0 0, vP b_q1 0, vP b_q2 0, vP b_q3 0]] 59, bxK b_q3 [vP b_q3_0 0] 67, gk]) (fun u29 => []) (fun u29 g => vI t30.1) (fun u29 g => [fun _ => owK 50 5 (g.o 0) t30.2.1.length (g.n 0) (t30.2.1.flatMap en_TInstruction), fun _ => .blk b_q3_0 [.slice (g.o 0) t30.2.1.length (g.n 0), .map (some b_q3_0_1)] 70, fun _ => mpK b_q0_0 ek_i64 .i64 t30.2.2.1, fun _ => mpK b_q3_0_1 ek_TInstruction .i64 t30.2.2.2]) [64, 56, 50, 58] 30 (fun u29 w hB hF hM => IH t7.A q0_0 (⟨q1.N, q1.L, q1.Out⟩ : TTape) q3_0_0 q3_0_1 b_q0 b_q0_0 b_q1 p_q1_L c_q1_L p_q1_Out c_q1_Out b_q2 b_q3 b_q3_0 p_q3_0_0 c_q3_0_0 b_q3_0_1 t30 w  hB hM ht30) (fun u29 w hF => ⟨⟨sub_bx (hF.1 w (agree.refl _ _)) (.head _) rfl, sub_rd0 (rdF_of hF.2.1) (fun j h => ⟨_, (.tail _ (.head _)), h⟩), sub_rd0 (rdF_of hF.2.2.1) (fun j h => ⟨_, (.tail _ (.tail _ (.head _))), h⟩), sub_bx (hF.2.2.2.1 w (agree.refl _ _)) (.tail _ (.tail _ (.tail _ (.head _)))) rfl, sub_bx (hF.2.2.2.2.1 w (agree.refl _ _)) (.tail _ (.tail _ (.tail _ (.tail _ (.head _))))) rfl, sub_bx (hF.2.2.2.2.2.1 w (agree.refl _ _)) (.tail _ (.tail _ (.tail _ (.tail _ (.tail _ (.head _)))))) rfl, sub_k hF.2.2.2.2.2.2.1 (.tail _ (.tail _ (.tail _ (.tail _ (.tail _ (.tail _ (.head _))))))), trivial⟩, trivial⟩) (fun u29 g => (fams_cons fam_ow (fams_cons fam_blk (fams_cons fam_ob (fams_cons fam_ob fams_nil))))) (.inr (fun u29 g => (famx_cons trivial (famx_cons trivial (famx_cons trivial (famx_cons trivial (fun K h => by cases h))))))) (fun h => by cases h)) <|
   .v 31 (vP ((u5 5).n 0) 1) <|
   .cons [59] (ok_as (u' := fun u29 => [(59, .blk ((u5 5).n 0) [vI t7.Op, vI t30.1, vI t7.B, vI t7.C.Lo, vI t7.C.Hi] 50)]) (ok_store 59 1 (fun u29 => ((u5 5).n 0)) (fun u29 => [vI t7.Op, vI t7.A, vI t7.B, vI t7.C.Lo, vI t7.C.Hi]) (fun u29 => [vI t30.1]) 50) (fun _ => by kernel_rfl)) <| .nil) fun u29 a w' H => ?_
    replace H := H.kp [0, 1, 3, 4, 9, 50, 52, 53, 56, 58, 59, 64, 49, 51, 54, 55, 999999, 999998]
    obtain rfl := Option.some.inj G
    replace H := H.move (K := owK 50 5 ((u29 3).o 0) t30.2.1.length ((u29 3).n 0) (t30.2.1.flatMap en_TInstruction)) 64 900020 (by kernel_rfl) (by intro _ _ h; cases h)
    exact ⟨((u29 3).o 0), ((u29 3).n 0), t30.2.1.length, rfl, H.toL _ (by kernel_rfl)⟩
   ·rw [if_neg (nt c31)] at G
    refine k_skip ?_
    obtain rfl := Option.some.inj G
    replace H := H.move (K := owK 50 5 p_q3_0_0 q3_0_0.length c_q3_0_0 (q3_0_0.flatMap en_TInstruction)) 57 900020 (by kernel_rfl) (by intro _ _ h; cases h)
    exact ⟨p_q3_0_0, c_q3_0_0, q3_0_0.length, rfl, H.toL _ (by kernel_rfl)⟩
set_option maxHeartbeats 4000000 in
theorem tape_Optimize.calls (k0 : Nat) (a0 : TTape) (p_a0_L : Option Addr) (c_a0_L : Nat) (p_a0_Out : Option Addr) (c_a0_Out : Nat) (r : TTape) (w : World) (hB : AllH [rdl anyF 5 p_a0_L c_a0_L a0.L en_TInstruction, rdl anyF 1 p_a0_Out c_a0_Out a0.Out en_i64, gk] w) (G : tape_Optimize k0 a0 = some r) :
  Calls Tryd.prog 13 #[.agg #[vI a0.N, .slice p_a0_L a0.L.length c_a0_L, .slice p_a0_Out a0.Out.length c_a0_Out]] w fun e w' => ∃ g : Gh, e = .returned (.agg #[vI r.N, .slice (g.o 0) r.L.length (g.n 0), .slice (g.o 1) r.Out.length (g.n 1)]) ∧ But (fpK []) w w' ∧ OutOK w.heap.size (fpK []) (frI w.heap.size []) [fun _ => owK 50 5 (g.o 0) r.L.length (g.n 0) (r.L.flatMap en_TInstruction), fun _ => owK 3 1 (g.o 1) r.Out.length (g.n 1) (r.Out.flatMap en_i64)] w' := by
 obtain ⟨fr, hfr⟩ : ∃ fr : Nat → Prop, fr = frI w.heap.size [] := ⟨_, rfl⟩
 have hBf : ∀ j, w.heap.size ≤ j → fr j := fun j h => by rw [hfr]; exact .inl h
 refine k_enterF (args := [.agg #[vI a0.N, .slice p_a0_L a0.L.length c_a0_L, .slice p_a0_Out a0.Out.length c_a0_Out]]) 39 [(39, rdl anyF 5 p_a0_L c_a0_L a0.L en_TInstruction), (40, rdl anyF 1 p_a0_Out c_a0_Out a0.Out en_i64), (999999, gk)] (by
  intro x hx
  simp only [List.mem_cons, List.not_mem_nil, or_false] at hx
  rcases hx with rfl | rfl | rfl
  ·exact rdF_fact (rdF_of hB.1) (fun _ _ => trivial) (by decide) _
  ·exact rdF_fact (rdF_of hB.2.1) (fun _ _ => trivial) (by decide) _
  ·exact ⟨⟨_, _, rfl⟩, hB.2.2.1, glob_in (glob_of hB.2.2.1)⟩) Tryd.func13 rfl (by kernel_rfl) (by kernel_rfl) fun a H => ?_
 unfold tape_Optimize at G
 refine k_seq ?_
 refine k_rg mixed H (.cons [1, 41] (ok_new (fun b => vP b 0) (fun u1 => [vI a0.N, .slice p_a0_L a0.L.length c_a0_L, .slice p_a0_Out a0.Out.length c_a0_Out]) 25 1 41) <|
   .cons [2, 42] (ok_new (fun b => vP b 0) (fun u1 => [vI 0, .slice none 0 0, .slice none 0 0]) 25 2 42) <| .nil) fun u1 a w' H => ?_
 replace H := H.kp [1, 2, 39, 40, 41, 42, 999999]
 refine k_seq ?_
 refine k_rg mixed H (.cons [9, 43] (ok_mkmap 9 43) <|
   .cons [10] (ok_val (fun u2 => .agg #[.slice none 0 0, .map (some ((u2 0).n 0))]) 10) <|
   .cons [11, 44] (ok_new (fun b => vP b 0) (fun u2 => [.slice none 0 0, .map (some ((u2 0).n 0))]) 70 11 44) <|
   .cons [3, 45] (ok_new (fun b => vP b 0) (fun u2 => [.pointer none]) 67 3 45) <|
   .cons [45] (ok_as (u' := fun u2 => [(45, .blk ((u2 3).n 0) [vP ((u2 2).n 0) 0] 67)]) (ok_store 45 0 (fun u2 => ((u2 3).n 0)) (fun u2 => [.pointer none]) (fun u2 => [vP ((u2 2).n 0) 0]) 67) (fun _ => by kernel_rfl)) <| .nil) fun u2 a w' H => ?_
 replace H := H.kp [1, 2, 3, 39, 40, 41, 42, 43, 44, 45, 999999]
 refine k_seq ?_
 refine k_rg mixed H (.cons [12, 46] (ok_mkmap 12 46) <|
   .cons [4, 47] (ok_new (fun b => vP b 0) (fun u3 => [.map none]) 75 4 47) <|
   .cons [47] (ok_as (u' := fun u3 => [(47, .blk ((u3 1).n 0) [.map (some ((u3 0).n 0))] 75)]) (ok_store 47 0 (fun u3 => ((u3 1).n 0)) (fun u3 => [.map none]) (fun u3 => [.map (some ((u3 0).n 0))]) 75) (fun _ => by kernel_rfl)) <| .nil) fun u3 a w' H => ?_
 replace H := H.kp [1, 2, 3, 4, 39, 40, 41, 42, 43, 44, 45, 46, 47, 999999]
 refine k_seq ?_
 refine k_rg mixed H (.cons [5, 48] (ok_new (fun b => vP b 0) (fun u4 => [.nilFunc]) 59 5 48) <| .nil) fun u4 a w' H => ?_
 replace H := H.kp [1, 2, 3, 4, 5, 39, 40, 41, 42, 43, 44, 45, 46, 47, 48, 999999]
 refine k_seq ?_
 refine k_rg mixed H (.v 13 (.func (.func 33) #[] #[vP ((u3 1).n 0) 0, vP ((u1 0).n 0) 0, vP ((u4 0).n 0) 0, vP ((u2 3).n 0) 0]) <|
   .cons [48] (ok_as (u' := fun u5 => [(48, .blk ((u4 0).n 0) [.func (.func 33) #[] #[vP ((u3 1).n 0) 0, vP ((u1 0).n 0) 0, vP ((u4 0).n 0) 0, vP ((u2 3).n 0) 0]] 59)]) (ok_store 48 0 (fun u5 => ((u4 0).n 0)) (fun u5 => [.nilFunc]) (fun u5 => [.func (.func 33) #[] #[vP ((u3 1).n 0) 0, vP ((u1 0).n 0) 0, vP ((u4 0).n 0) 0, vP ((u2 3).n 0) 0]]) 59) (fun _ => by kernel_rfl)) <| .nil) fun u5 a w' H => ?_
 replace H := H.kp [1, 2, 3, 5, 39, 40, 41, 42, 43, 44, 45, 46, 47, 48, 999999]
 refine k_seq ?_
 refine k_rg mixed H (.v 14 (vP ((u1 0).n 0) 0) <|
   .cons [15] (ok_ld (fun u6 => vI a0.N) 15 41 0 1 (fun u6 => ((u1 0).n 0)) (fun u6 => [vI a0.N, .slice p_a0_L a0.L.length c_a0_L, .slice p_a0_Out a0.Out.length c_a0_Out]) 25) <|
   .v 16 (.agg #[vI a0.N, .slice none 0 0, .slice none 0 0]) <|
   .cons [6, 49] (ok_new (fun b => vP b 0) (fun u6 => [vI 0, .slice none 0 0, .slice none 0 0]) 25 6 49) <|
   .cons [49] (ok_as (u' := fun u6 => [(49, .blk ((u6 3).n 0) [vI a0.N, .slice none 0 0, .slice none 0 0] 25)]) (ok_store 49 0 (fun u6 => ((u6 3).n 0)) (fun u6 => [vI 0, .slice none 0 0, .slice none 0 0]) (fun u6 => [vI a0.N, .slice none 0 0, .slice none 0 0]) 25) (fun _ => by kernel_rfl)) <| .nil) fun u6 a w' H => ?_
 replace H := H.kp [1, 2, 3, 5, 6, 39, 40, 41, 42, 43, 44, 45, 46, 47, 48, 49, 999999]
 refine k_seq ?_
 replace G := bnd G; obtain ⟨j11, hj11, G⟩ := G
 refine k_join (fun a w' => ∃ (p_j7 : Option Addr) (c_j7 np_j7 : Nat), np_j7 = j11.1.length ∧ ∃ (p_j8 : Option Addr) (c_j8 np_j8 : Nat), np_j8 = j11.2.1.length ∧ Rep w.heap.size w 39 (ofL [(2, (sP ((u1 1).n 0) 0)), (3, (sP ((u2 3).n 0) 0)), (6, (sP ((u6 3).n 0) 0)), (42, .blk ((u1 1).n 0) [vI 0, .slice none 0 0, .slice none 0 0] 25), (43, mpK ((u2 0).n 0) ek_TInstruction .i64 j11.2.2.1), (44, .blk ((u2 2).n 0) [.slice p_j7 np_j7 c_j7, .map (some ((u2 0).n 0))] 70), (45, .blk ((u2 3).n 0) [vP ((u2 2).n 0) 0] 67), (46, mpK ((u3 0).n 0) ek_i64 .i64 j11.2.2.2), (49, .blk ((u6 3).n 0) [vI a0.N, .slice none 0 0, .slice p_j8 np_j8 c_j8] 25), (900022, owK 50 5 p_j7 np_j7 c_j7 (j11.1.flatMap en_TInstruction)), (900023, owK 3 1 p_j8 np_j8 c_j8 (j11.2.1.flatMap en_i64)), (999999, gk)]) a w') ?_ ?_
 ·clear H; rintro a w' ⟨p_j7, c_j7, _, rfl, p_j8, c_j8, _, rfl, H⟩
  refine k_seq ?_
  refine k_rg mixed H (.cons [33] (ok_ld (fun u12 => vP ((u2 2).n 0) 0) 33 45 0 1 (fun u12 => ((u2 3).n 0)) (fun u12 => [vP ((u2 2).n 0) 0]) 67) <|
   .v 34 (vP ((u2 2).n 0) 0) <|
   .v 35 (vP ((u2 2).n 0) 0) <|
   .cons [36] (ok_ld (fun u12 => .slice p_j7 j11.1.length c_j7) 36 44 0 1 (fun u12 => ((u2 2).n 0)) (fun u12 => [.slice p_j7 j11.1.length c_j7, .map (some ((u2 0).n 0))]) 70) <|
   .v 37 (vP ((u6 3).n 0) 1) <|
   .cons [49] (ok_as (u' := fun u12 => [(49, .blk ((u6 3).n 0) [vI a0.N, .slice p_j7 j11.1.length c_j7, .slice p_j8 j11.2.1.length c_j8] 25)]) (ok_store 49 1 (fun u12 => ((u6 3).n 0)) (fun u12 => [vI a0.N, .slice none 0 0, .slice p_j8 j11.2.1.length c_j8]) (fun u12 => [.slice p_j7 j11.1.length c_j7]) 25) (fun _ => by kernel_rfl)) <| .nil) fun u12 a w' H => ?_
  replace H := H.kp [2, 6, 42, 49, 900022, 900023, 999999]
  refine k_seq ?_
  refine k_rg mixed H (.cons [38] (ok_ld (fun u13 => .agg #[vI a0.N, .slice p_j7 j11.1.length c_j7, .slice p_j8 j11.2.1.length c_j8]) 38 49 0 3 (fun u13 => ((u6 3).n 0)) (fun u13 => [vI a0.N, .slice p_j7 j11.1.length c_j7, .slice p_j8 j11.2.1.length c_j8]) 25) <|
   .cons [42] (ok_as (u' := fun u13 => [(42, .blk ((u1 1).n 0) [vI a0.N, .slice p_j7 j11.1.length c_j7, .slice p_j8 j11.2.1.length c_j8] 25)]) (ok_store 42 0 (fun u13 => ((u1 1).n 0)) (fun u13 => [vI 0, .slice none 0 0, .slice none 0 0]) (fun u13 => [vI a0.N, .slice p_j7 j11.1.length c_j7, .slice p_j8 j11.2.1.length c_j8]) 25) (fun _ => by kernel_rfl)) <| .nil) fun u13 a w' H => ?_
  replace H := H.kp [2, 42, 900022, 900023, 999999]
  refine k_ret ?_
  obtain rfl := Option.some.inj G
  obtain ⟨g, o0, n0, o1, n1⟩ : ∃ g : Gh, g.o 0 = p_j7 ∧ g.n 0 = c_j7 ∧ g.o 1 = p_j8 ∧ g.n 1 = c_j8 := ⟨⟨fun i => [c_j7, c_j8].getD i 0, fun i => [p_j7, p_j8].getD i none, fun i => ([⟨Unit, ()⟩, ⟨Unit, ()⟩] : List ((T : Type) × T)).getD i ⟨Unit, ()⟩⟩, rfl, rfl, rfl, rfl⟩
  refine k_doneZ H (fun g => .agg #[vI a0.N, .slice (g.o 0) j11.1.length (g.n 0), .slice (g.o 1) j11.2.1.length (g.n 1)]) g [] [] (fun g => [fun _ => owK 50 5 (g.o 0) j11.1.length (g.n 0) (j11.1.flatMap en_TInstruction), fun _ => owK 3 1 (g.o 1) j11.2.1.length (g.n 1) (j11.2.1.flatMap en_i64)]) fr [900022, 900023] [(42, ⟨((u1 1).n 0), [vI a0.N, .slice p_j7 j11.1.length c_j7, .slice p_j8 j11.2.1.length c_j8], 0, 3⟩)] (.agg #[vI a0.N, .slice p_j7 j11.1.length c_j7, .slice p_j8 j11.2.1.length c_j8]) [fun _ => owK 50 5 p_j7 j11.1.length c_j7 (j11.1.flatMap en_TInstruction), fun _ => owK 3 1 p_j8 j11.2.1.length c_j8 (j11.2.1.flatMap en_i64)] (by simp only [o0, n0, o1, n1]) (by simp only [o0, n0, o1, n1]) hfr (.inl ⟨rfl, rfl⟩) (fams_cons fam_ow (fams_cons fam_ow fams_nil)) (by intro p hp; simp only [List.mem_cons, List.not_mem_nil, or_false] at hp; rcases hp with rfl; exact ⟨⟨25, by kernel_rfl⟩, by kernel_rfl⟩)
 ·clear G; replace G := hj11; clear hj11
  refine k_seq ?_
  refine k_rg mixed H (.v 17 (vP ((u1 0).n 0) 2) <|
   .cons [18] (ok_ld (fun u14 => .slice p_a0_Out a0.Out.length c_a0_Out) 18 41 2 1 (fun u14 => ((u1 0).n 0)) (fun u14 => [vI a0.N, .slice p_a0_L a0.L.length c_a0_L, .slice p_a0_Out a0.Out.length c_a0_Out]) 25) <|
   .v 19 (vI (a0.Out.length : Int)) <|
   .v 20 (vI 0) <| .nil) fun u14 a w' H => ?_
  replace H := H.kp [2, 3, 5, 6, 18, 19, 20, 39, 40, 41, 42, 43, 44, 45, 46, 47, 48, 49, 999999]
  refine k_block ?_
  replace H := H.nil_row 56 50 5
  replace H := H.nil_row 58 3 1
  replace H := H.move (K := owK 50 5 none 0 0 (([] : List TInstruction).flatMap en_TInstruction)) 56 900024 (by kernel_rfl) (by intro _ _ h; cases h)
  replace H := H.move (K := owK 3 1 none 0 0 (([] : List Int).flatMap en_i64)) 58 900025 (by kernel_rfl) (by intro _ _ h; cases h)
  refine k_loopJ (fun m a w' => ∃ x15 : List TInstruction, ∃ x16 : List Int, ∃ x17 : List (TInstruction × Int), ∃ x18 : List (Int × Int), ∃ x19 : Int, tape_Optimize.l20 k0 a0 m x15 x16 x17 x18 x19 = some j11 ∧ ∃ (p_x15 : Option Addr) (c_x15 np_x15 : Nat), np_x15 = x15.length ∧ ∃ (p_x16 : Option Addr) (c_x16 np_x16 : Nat), np_x16 = x16.length ∧ Rep w.heap.size w 39 (ofL [(2, (sP ((u1 1).n 0) 0)), (3, (sP ((u2 3).n 0) 0)), (5, (sP ((u4 0).n 0) 0)), (6, (sP ((u6 3).n 0) 0)), (18, sS p_a0_Out a0.Out.length c_a0_Out), (19, (sI (a0.Out.length : Int))), (20, sI x19), (39, rdl anyF 5 p_a0_L c_a0_L a0.L en_TInstruction), (40, rdl anyF 1 p_a0_Out c_a0_Out a0.Out en_i64), (41, .blk ((u1 0).n 0) [vI a0.N, .slice p_a0_L a0.L.length c_a0_L, .slice p_a0_Out a0.Out.length c_a0_Out] 25), (42, .blk ((u1 1).n 0) [vI 0, .slice none 0 0, .slice none 0 0] 25), (43, mpK ((u2 0).n 0) ek_TInstruction .i64 x17), (44, .blk ((u2 2).n 0) [.slice p_x15 np_x15 c_x15, .map (some ((u2 0).n 0))] 70), (45, .blk ((u2 3).n 0) [vP ((u2 2).n 0) 0] 67), (46, mpK ((u3 0).n 0) ek_i64 .i64 x18), (47, .blk ((u3 1).n 0) [.map (some ((u3 0).n 0))] 75), (48, .blk ((u4 0).n 0) [.func (.func 33) #[] #[vP ((u3 1).n 0) 0, vP ((u1 0).n 0) 0, vP ((u4 0).n 0) 0, vP ((u2 3).n 0) 0]] 59), (49, .blk ((u6 3).n 0) [vI a0.N, .slice none 0 0, .slice p_x16 np_x16 c_x16] 25), (900024, owK 50 5 p_x15 np_x15 c_x15 (x15.flatMap en_TInstruction)), (900025, owK 3 1 p_x16 np_x16 c_x16 (x16.flatMap en_i64)), (999999, gk)]) a w') k0 ⟨_, _, _, _, _, G, none, 0, 0, rfl, none, 0, 0, rfl, H.toL _ (by kernel_rfl)⟩ ?_
  clear G H
  rintro (_ | k) a w' ⟨x15, x16, x17, x18, x19, G, p_x15, c_x15, _, rfl, p_x16, c_x16, _, rfl, H⟩
  ·exact absurd G (by unfold tape_Optimize.l20; exact fun h => by cases h)
  ·unfold tape_Optimize.l20 at G
   refine k_seq ?_
   refine k_rg mixed H (.v 21 (.bool (decide (x19 < (a0.Out.length : Int)))) <| .nil) fun u21 a w' H => ?_
   replace H := H.kp [2, 3, 5, 6, 18, 19, 20, 21, 39, 40, 41, 42, 43, 44, 45, 46, 47, 48, 49, 900024, 900025, 999999]
   refine k_seq ?_
   refine k_cond H (by kernel_rfl) (t := decide (x19 < (a0.Out.length : Int))) (by kernel_rfl) (fun c29 => ?_) (fun c29 => ?_)
   ·rw [if_pos c29] at G
    refine k_skip ?_
    refine k_seq ?_
    refine k_block ?_
    refine k_seq ?_
    replace G := gd G; obtain ⟨b23, G⟩ := G
    replace G := bnd G; obtain ⟨t24, ht24, G⟩ := G
    refine k_rg mixed H (.cons [22] (ok_valL [40] (fun u22 => [rdl anyF 1 p_a0_Out c_a0_Out a0.Out en_i64]) (fun u22 => .pointer (some ⟨hdB p_a0_Out, hdO p_a0_Out + x19.toNat * 1, none⟩)) (fun u22 => true) [true, true] 22 (fun u22 w hg hF => ix_row (t := 23) (k := .i64) (i := x19) (p := p_a0_Out) (n := a0.Out.length) (cap := c_a0_Out) (x := a0.Out) (en := en_i64) (rdF_of hF.1).2 en_i64_len rfl b23 (by kernel_rfl))) <|
   .cons [23] (ok_valL [40] (fun u22 => [rdl anyF 1 p_a0_Out c_a0_Out a0.Out en_i64]) (fun u22 => vI t24) (fun u22 => true) [true] 23 (fun u22 w hg hF => ld_row (en := en_i64) (rdF_of hF.1).2 en_i64_len ht24 0 1 [vI t24] rfl (by kernel_rfl))) <|
   .v 8 (vI t24) <| .nil) fun u22 a w' H => ?_
    replace H := H.kp [2, 3, 5, 6, 8, 18, 19, 20, 39, 40, 41, 42, 43, 44, 45, 46, 47, 48, 49, 900024, 900025, 999999]
    replace G := bnd G; obtain ⟨t26, ht26, G⟩ := G
    replace G := gd G; obtain ⟨b27, G⟩ := G
    refine k_rg mixed H (.v 24 (vP ((u6 3).n 0) 2) <|
   .cons [25] (ok_ld (fun u25 => .slice p_x16 x16.length c_x16) 25 49 2 1 (fun u25 => ((u6 3).n 0)) (fun u25 => [vI a0.N, .slice none 0 0, .slice p_x16 x16.length c_x16]) 25) <|
   .cons [26] (ok_ld (fun u25 => .func (.func 33) #[] #[vP ((u3 1).n 0) 0, vP ((u1 0).n 0) 0, vP ((u4 0).n 0) 0, vP ((u2 3).n 0) 0]) 26 48 0 1 (fun u25 => ((u4 0).n 0)) (fun u25 => [.func (.func 33) #[] #[vP ((u3 1).n 0) 0, vP ((u1 0).n 0) 0, vP ((u4 0).n 0) 0, vP ((u2 3).n 0) 0]]) 59) <|
   .v 27 (vI t24) <|
   .cons [28, 46, 900024, 43, 44, 50, 44, 46, 43] (ok_callY false fr [] [47, 39, 40, 41, 48, 45, 999999] (fun u25 => [.blk ((u3 1).n 0) [.map (some ((u3 0).n 0))] 75, rdl anyF 5 p_a0_L c_a0_L a0.L en_TInstruction, rdl anyF 1 p_a0_Out c_a0_Out a0.Out en_i64, .blk ((u1 0).n 0) [vI a0.N, .slice p_a0_L a0.L.length c_a0_L, .slice p_a0_Out a0.Out.length c_a0_Out] 25, .blk ((u4 0).n 0) [.func (.func 33) #[] #[vP ((u3 1).n 0) 0, vP ((u1 0).n 0) 0, vP ((u4 0).n 0) 0, vP ((u2 3).n 0) 0]] 59, .blk ((u2 3).n 0) [vP ((u2 2).n 0) 0] 67, gk]) [46, 900024, 43, 44] (fun u25 => [mpK ((u3 0).n 0) ek_i64 .i64 x18, owK 50 5 p_x15 x15.length c_x15 (x15.flatMap en_TInstruction), mpK ((u2 0).n 0) ek_TInstruction .i64 x17, .blk ((u2 2).n 0) [.slice p_x15 x15.length c_x15, .map (some ((u2 0).n 0))] 70]) 33 (fun u25 => #[vI t24, vP ((u3 1).n 0) 0, vP ((u1 0).n 0) 0, vP ((u4 0).n 0) 0, vP ((u2 3).n 0) 0]) (fun u25 => [bxK ((u3 1).n 0) [.map (some ((u3 0).n 0))] 75, rdl anyF 5 p_a0_L c_a0_L a0.L en_TInstruction, rdl anyF 1 p_a0_Out c_a0_Out a0.Out en_i64, bxK ((u1 0).n 0) [vI a0.N, .slice p_a0_L a0.L.length c_a0_L, .slice p_a0_Out a0.Out.length c_a0_Out] 25, bxK ((u4 0).n 0) [.func (.func 33) #[] #[vP ((u3 1).n 0) 0, vP ((u1 0).n 0) 0, vP ((u4 0).n 0) 0, vP ((u2 3).n 0) 0]] 59, bxK ((u2 3).n 0) [vP ((u2 2).n 0) 0] 67, gk]) (fun u25 => []) (fun u25 g => vI t26.1) (fun u25 g => [fun _ => owK 50 5 (g.o 0) t26.2.1.length (g.n 0) (t26.2.1.flatMap en_TInstruction), fun _ => .blk ((u2 2).n 0) [.slice (g.o 0) t26.2.1.length (g.n 0), .map (some ((u2 0).n 0))] 70, fun _ => mpK ((u3 0).n 0) ek_i64 .i64 t26.2.2.1, fun _ => mpK ((u2 0).n 0) ek_TInstruction .i64 t26.2.2.2]) [50, 44, 46, 43] 28 (fun u25 w hB hF hM => tape_Optimize_1_m.calls k0 t24 x18 (⟨a0.N, a0.L, a0.Out⟩ : TTape) x15 x17 ((u3 1).n 0) ((u3 0).n 0) ((u1 0).n 0) p_a0_L c_a0_L p_a0_Out c_a0_Out ((u4 0).n 0) ((u2 3).n 0) ((u2 2).n 0) p_x15 c_x15 ((u2 0).n 0) t26 w  hB hM ht26) (fun u25 w hF => ⟨⟨sub_bx hF.1 (.head _) rfl, sub_rd0 (rdF_of hF.2.1) (fun j h => ⟨_, (.tail _ (.head _)), h⟩), sub_rd0 (rdF_of hF.2.2.1) (fun j h => ⟨_, (.tail _ (.tail _ (.head _))), h⟩), sub_bx hF.2.2.2.1 (.tail _ (.tail _ (.tail _ (.head _)))) rfl, sub_bx hF.2.2.2.2.1 (.tail _ (.tail _ (.tail _ (.tail _ (.head _))))) rfl, sub_bx hF.2.2.2.2.2.1 (.tail _ (.tail _ (.tail _ (.tail _ (.tail _ (.head _)))))) rfl, sub_k hF.2.2.2.2.2.2.1 (.tail _ (.tail _ (.tail _ (.tail _ (.tail _ (.tail _ (.head _))))))), trivial⟩, trivial⟩) (fun u25 g => (fams_cons fam_ow (fams_cons fam_blk (fams_cons fam_ob (fams_cons fam_ob fams_nil))))) (.inr (fun u25 g => (famx_cons trivial (famx_cons trivial (famx_cons trivial (famx_cons trivial (fun K h => by cases h))))))) (fun h => by cases h)) <|
   .cons [29, 51] (ok_new (fun b => .slice (some ⟨b, 0, none⟩) 1 1) (fun u25 => [vI t26.1]) 3 29 51) <|
   .cons [30, 900025, 900025] (ok_own1 [5] [51] (fun u25 => [.blk ((u25 5).n 0) [vI t26.1] 3]) 900025 (fun u25 => owK 3 1 p_x16 x16.length c_x16 (x16.flatMap en_i64)) (some 30) (fun u25 g => .slice (g.o 0) (x16 ++ [t26.1]).length (g.n 0)) (fun u25 g => owK 3 1 (g.o 0) ((x16 ++ [t26.1]).length) (g.n 0) ((x16 ++ [t26.1]).flatMap en_i64)) (fun u25 w hF hK => tv_app (run_app_rowN (t := 23) (ty := 23) (en := en_i64) en_i64_len inf3 (ow_of hK) hF.1 (news := [t26.1]) rfl (by simp) (by kernel_rfl) b27)) (hloc := fun u u' h => ⟨by first | rfl | simp only [h 5 (by decide)], by first | rfl | simp only [h 5 (by decide)], by first | rfl | simp only [h 5 (by decide)], by first | rfl | simp only [h 5 (by decide)]⟩)) <|
   .v 31 (vP ((u6 3).n 0) 2) <|
   .cons [49] (ok_as (u' := fun u25 => [(49, .blk ((u6 3).n 0) [vI a0.N, .slice none 0 0, .slice ((u25 6).o 0) ((x16 ++ [t26.1]).length) ((u25 6).n 0)] 25)]) (ok_store 49 2 (fun u25 => ((u6 3).n 0)) (fun u25 => [vI a0.N, .slice none 0 0, .slice p_x16 x16.length c_x16]) (fun u25 => [.slice ((u25 6).o 0) ((x16 ++ [t26.1]).length) ((u25 6).n 0)]) 25) (fun _ => by kernel_rfl)) <| .nil) fun u25 a w' H => ?_
    replace H := H.kp [2, 3, 5, 6, 18, 19, 20, 39, 40, 41, 42, 43, 44, 45, 46, 47, 48, 49, 50, 900025, 999999]
    refine k_rg mixed H (.v 32 (vI (w_i64 (x19 + 1))) <|
   .v 20 (vI (w_i64 (x19 + 1))) <| .nil) fun u28 a w' H => ?_
    replace H := H.kp [2, 3, 5, 6, 18, 19, 20, 39, 40, 41, 42, 43, 44, 45, 46, 47, 48, 49, 50, 900025, 999999]
    replace H := H.move (K := owK 50 5 ((u25 4).o 0) t26.2.1.length ((u25 4).n 0) (t26.2.1.flatMap en_TInstruction)) 50 900024 (by kernel_rfl) (by intro _ _ h; cases h)
    exact ⟨k, Nat.lt_succ_self k, _, _, _, _, _, G, ((u25 4).o 0), ((u25 4).n 0), t26.2.1.length, rfl, ((u25 6).o 0), ((u25 6).n 0), (x16 ++ [t26.1]).length, rfl, H.toL _ (by kernel_rfl)⟩
   ·rw [if_neg (nt c29)] at G
    refine k_exit rfl ?_
    obtain rfl := Option.some.inj G
    replace H := H.move (K := owK 50 5 p_x15 x15.length c_x15 (x15.flatMap en_TInstruction)) 900024 900022 (by kernel_rfl) (by intro _ _ h; cases h)
    replace H := H.move (K := owK 3 1 p_x16 x16.length c_x16 (x16.flatMap en_i64)) 900025 900023 (by kernel_rfl) (by intro _ _ h; cases h)
    exact ⟨p_x15, c_x15, x15.length, rfl, p_x16, c_x16, x16.length, rfl, H.toL _ (by kernel_rfl)⟩
set_option maxHeartbeats 4000000 in
theorem armillaryref08_same.calls (a0 : TInstruction) (a1 : TInstruction) (r : Bool) (w : World) (G : armillaryref08_same a0 a1 = some r) :
  Calls Tryd.prog 35 #[.agg #[vI a0.Op, vI a0.A, vI a0.B, vI a0.C.Lo, vI a0.C.Hi], .agg #[vI a1.Op, vI a1.A, vI a1.B, vI a1.C.Lo, vI a1.C.Hi]] w fun e w' => e = .returned (.bool r) ∧ Below w.heap.size w w' := by
 refine k_enter (args := [.agg #[vI a0.Op, vI a0.A, vI a0.B, vI a0.C.Lo, vI a0.C.Hi], .agg #[vI a1.Op, vI a1.A, vI a1.B, vI a1.C.Lo, vI a1.C.Hi]]) 31 Tryd.func35 rfl (by kernel_rfl) (by kernel_rfl) fun a H => ?_
 unfold armillaryref08_same at G
 refine k_seq ?_
 refine k_rg mixed H (.cons [2, 31] (ok_new (fun b => vP b 0) (fun u1 => [vI a0.Op, vI a0.A, vI a0.B, vI a0.C.Lo, vI a0.C.Hi]) 50 2 31) <|
   .cons [3, 32] (ok_new (fun b => vP b 0) (fun u1 => [vI a1.Op, vI a1.A, vI a1.B, vI a1.C.Lo, vI a1.C.Hi]) 50 3 32) <|
   .v 4 (.bool false) <| .nil) fun u1 a w' H => ?_
 replace H := H.kp [2, 3, 31, 32]
 refine k_seq ?_
 replace G := bnd G; obtain ⟨t3, ht3, G⟩ := G
 refine k_rg mixed H (.v 5 (vP ((u1 0).n 0) 0) <|
   .cons [6] (ok_ld (fun u2 => vI a0.Op) 6 31 0 1 (fun u2 => ((u1 0).n 0)) (fun u2 => [vI a0.Op, vI a0.A, vI a0.B, vI a0.C.Lo, vI a0.C.Hi]) 50) <|
   .v 7 (vP ((u1 1).n 0) 0) <|
   .cons [8] (ok_ld (fun u2 => vI a1.Op) 8 32 0 1 (fun u2 => ((u1 1).n 0)) (fun u2 => [vI a1.Op, vI a1.A, vI a1.B, vI a1.C.Lo, vI a1.C.Hi]) 50) <|
   .v 9 (.bool (a0.Op == a1.Op)) <|
   .v 10 (.bool (a0.Op == a1.Op)) <|
   .cons [11] (ok_valg (fun u2 => vP ((u1 0).n 0) 1) (fun u2 => ((a0.Op == a1.Op) == true)) [true] 11) <|
   .cons [12] (ok_ldg (fun u2 => vI a0.A) (fun u2 => ((a0.Op == a1.Op) == true)) [false] 12 31 1 1 (fun u2 => ((u1 0).n 0)) (fun u2 => [vI a0.Op, vI a0.A, vI a0.B, vI a0.C.Lo, vI a0.C.Hi]) 50) <|
   .cons [13] (ok_valg (fun u2 => vP ((u1 1).n 0) 1) (fun u2 => ((a0.Op == a1.Op) == true)) [true] 13) <|
   .cons [14] (ok_ldg (fun u2 => vI a1.A) (fun u2 => ((a0.Op == a1.Op) == true)) [false] 14 32 1 1 (fun u2 => ((u1 1).n 0)) (fun u2 => [vI a1.Op, vI a1.A, vI a1.B, vI a1.C.Lo, vI a1.C.Hi]) 50) <|
   .cons [15] (ok_valg (fun u2 => .bool (a0.A == a1.A)) (fun u2 => ((a0.Op == a1.Op) == true)) [false, false] 15) <|
   .cons [16] (ok_and 10 15 (fun u2 => true) (fun u2 => true) (fun u2 => (a0.Op == a1.Op)) (fun u2 => (a0.A == a1.A)) 16) <|
   .v 17 (.bool ((a0.Op == a1.Op) && (a0.A == a1.A))) <|
   .cons [18] (ok_valg (fun u2 => vP ((u1 0).n 0) 2) (fun u2 => (((a0.Op == a1.Op) && (a0.A == a1.A)) == true)) [true] 18) <|
   .cons [19] (ok_ldg (fun u2 => vI a0.B) (fun u2 => (((a0.Op == a1.Op) && (a0.A == a1.A)) == true)) [false] 19 31 2 1 (fun u2 => ((u1 0).n 0)) (fun u2 => [vI a0.Op, vI a0.A, vI a0.B, vI a0.C.Lo, vI a0.C.Hi]) 50) <|
   .cons [20] (ok_valg (fun u2 => vP ((u1 1).n 0) 2) (fun u2 => (((a0.Op == a1.Op) && (a0.A == a1.A)) == true)) [true] 20) <|
   .cons [21] (ok_ldg (fun u2 => vI a1.B) (fun u2 => (((a0.Op == a1.Op) && (a0.A == a1.A)) == true)) [false] 21 32 2 1 (fun u2 => ((u1 1).n 0)) (fun u2 => [vI a1.Op, vI a1.A, vI a1.B, vI a1.C.Lo, vI a1.C.Hi]) 50) <|
   .cons [22] (ok_valg (fun u2 => .bool (a0.B == a1.B)) (fun u2 => (((a0.Op == a1.Op) && (a0.A == a1.A)) == true)) [false, false] 22) <|
   .cons [23] (ok_and 17 22 (fun u2 => true) (fun u2 => true) (fun u2 => ((a0.Op == a1.Op) && (a0.A == a1.A))) (fun u2 => (a0.B == a1.B)) 23) <|
   .v 24 (.bool (((a0.Op == a1.Op) && (a0.A == a1.A)) && (a0.B == a1.B))) <|
   .cons [25] (ok_valg (fun u2 => vP ((u1 0).n 0) 3) (fun u2 => ((((a0.Op == a1.Op) && (a0.A == a1.A)) && (a0.B == a1.B)) == true)) [true] 25) <|
   .cons [26] (ok_ldg (fun u2 => .agg #[vI a0.C.Lo, vI a0.C.Hi]) (fun u2 => ((((a0.Op == a1.Op) && (a0.A == a1.A)) && (a0.B == a1.B)) == true)) [false] 26 31 3 2 (fun u2 => ((u1 0).n 0)) (fun u2 => [vI a0.Op, vI a0.A, vI a0.B, vI a0.C.Lo, vI a0.C.Hi]) 50) <|
   .cons [27] (ok_valg (fun u2 => vP ((u1 1).n 0) 3) (fun u2 => ((((a0.Op == a1.Op) && (a0.A == a1.A)) && (a0.B == a1.B)) == true)) [true] 27) <|
   .cons [28] (ok_ldg (fun u2 => .agg #[vI a1.C.Lo, vI a1.C.Hi]) (fun u2 => ((((a0.Op == a1.Op) && (a0.A == a1.A)) && (a0.B == a1.B)) == true)) [false] 28 32 3 2 (fun u2 => ((u1 1).n 0)) (fun u2 => [vI a1.Op, vI a1.A, vI a1.B, vI a1.C.Lo, vI a1.C.Hi]) 50) <|
   .cons [29] (ok_call 28 (fun u2 => #[.agg #[vI a0.C.Lo, vI a0.C.Hi], .agg #[vI a1.C.Lo, vI a1.C.Hi]]) (.bool t3) (fun u2 => ((((a0.Op == a1.Op) && (a0.A == a1.A)) && (a0.B == a1.B)) == true)) [true, false, false] 29 [] (fun u2 w hg _ => armillaryref02_Same.calls (⟨a0.C.Lo, a0.C.Hi⟩ : TInterval) (⟨a1.C.Lo, a1.C.Hi⟩ : TInterval)  t3 w  (ifp ht3 hg))) <|
   .cons [30] (ok_and 24 29 (fun u2 => true) (fun u2 => true) (fun u2 => (((a0.Op == a1.Op) && (a0.A == a1.A)) && (a0.B == a1.B))) (fun u2 => t3) 30) <|
   .v 4 (.bool ((((a0.Op == a1.Op) && (a0.A == a1.A)) && (a0.B == a1.B)) && t3)) <| .nil) fun u2 a w' H => ?_
 replace H := H.kp [4]
 refine k_ret ?_
 obtain rfl := Option.some.inj G
 exact k_done0 H _ (by kernel_rfl) (by kernel_rfl)
set_option maxHeartbeats 4000000 in
theorem armillaryref08_Same.calls (k0 : Nat) (a0 : TTape) (a1 : TTape) (p_a0_L : Option Addr) (c_a0_L : Nat) (p_a0_Out : Option Addr) (c_a0_Out : Nat) (p_a1_L : Option Addr) (c_a1_L : Nat) (p_a1_Out : Option Addr) (c_a1_Out : Nat) (r : Bool) (w : World) (hB : AllH [rdl anyF 5 p_a0_L c_a0_L a0.L en_TInstruction, rdl anyF 1 p_a0_Out c_a0_Out a0.Out en_i64, rdl anyF 5 p_a1_L c_a1_L a1.L en_TInstruction, rdl anyF 1 p_a1_Out c_a1_Out a1.Out en_i64] w) (G : armillaryref08_Same k0 a0 a1 = some r) :
  Calls Tryd.prog 14 #[.agg #[vI a0.N, .slice p_a0_L a0.L.length c_a0_L, .slice p_a0_Out a0.Out.length c_a0_Out], .agg #[vI a1.N, .slice p_a1_L a1.L.length c_a1_L, .slice p_a1_Out a1.Out.length c_a1_Out]] w fun e w' => e = .returned (.bool r) ∧ Below w.heap.size w w' := by
 obtain ⟨fr, hfr⟩ : ∃ fr : Nat → Prop, ∀ j, fr j := ⟨fun _ => True, fun _ => trivial⟩
 have hBf : ∀ j, w.heap.size ≤ j → fr j := fun j _ => hfr j
 refine k_enterF (args := [.agg #[vI a0.N, .slice p_a0_L a0.L.length c_a0_L, .slice p_a0_Out a0.Out.length c_a0_Out], .agg #[vI a1.N, .slice p_a1_L a1.L.length c_a1_L, .slice p_a1_Out a1.Out.length c_a1_Out]]) 67 [(67, rdl anyF 5 p_a0_L c_a0_L a0.L en_TInstruction), (68, rdl anyF 1 p_a0_Out c_a0_Out a0.Out en_i64), (69, rdl anyF 5 p_a1_L c_a1_L a1.L en_TInstruction), (70, rdl anyF 1 p_a1_Out c_a1_Out a1.Out en_i64)] (by
  intro x hx
  simp only [List.mem_cons, List.not_mem_nil, or_false] at hx
  rcases hx with rfl | rfl | rfl | rfl
  ·exact rdF_fact (rdF_of hB.1) (fun _ _ => trivial) (by decide) _
  ·exact rdF_fact (rdF_of hB.2.1) (fun _ _ => trivial) (by decide) _
  ·exact rdF_fact (rdF_of hB.2.2.1) (fun _ _ => trivial) (by decide) _
  ·exact rdF_fact (rdF_of hB.2.2.2.1) (fun _ _ => trivial) (by decide) _) Tryd.func14 rfl (by kernel_rfl) (by kernel_rfl) fun a H => ?_
 unfold armillaryref08_Same at G
 refine k_seq ?_
 refine k_rg mixed H (.cons [2, 71] (ok_new (fun b => vP b 0) (fun u1 => [vI a0.N, .slice p_a0_L a0.L.length c_a0_L, .slice p_a0_Out a0.Out.length c_a0_Out]) 25 2 71) <|
   .cons [3, 72] (ok_new (fun b => vP b 0) (fun u1 => [vI a1.N, .slice p_a1_L a1.L.length c_a1_L, .slice p_a1_Out a1.Out.length c_a1_Out]) 25 3 72) <|
   .v 4 (.bool false) <| .nil) fun u1 a w' H => ?_
 replace H := H.kp [2, 3, 67, 68, 69, 70, 71, 72]
 refine k_seq ?_
 refine k_seq ?_
 refine k_rg mixed H (.v 7 (vP ((u1 0).n 0) 0) <|
   .cons [8] (ok_ld (fun u2 => vI a0.N) 8 71 0 1 (fun u2 => ((u1 0).n 0)) (fun u2 => [vI a0.N, .slice p_a0_L a0.L.length c_a0_L, .slice p_a0_Out a0.Out.length c_a0_Out]) 25) <|
   .v 9 (vP ((u1 1).n 0) 0) <|
   .cons [10] (ok_ld (fun u2 => vI a1.N) 10 72 0 1 (fun u2 => ((u1 1).n 0)) (fun u2 => [vI a1.N, .slice p_a1_L a1.L.length c_a1_L, .slice p_a1_Out a1.Out.length c_a1_Out]) 25) <|
   .v 11 (.bool (a0.N != a1.N)) <|
   .v 12 (.bool (a0.N != a1.N)) <|
   .cons [13] (ok_valg (fun u2 => vP ((u1 0).n 0) 1) (fun u2 => ((a0.N != a1.N) == false)) [true] 13) <|
   .cons [14] (ok_ldg (fun u2 => .slice p_a0_L a0.L.length c_a0_L) (fun u2 => ((a0.N != a1.N) == false)) [false] 14 71 1 1 (fun u2 => ((u1 0).n 0)) (fun u2 => [vI a0.N, .slice p_a0_L a0.L.length c_a0_L, .slice p_a0_Out a0.Out.length c_a0_Out]) 25) <|
   .cons [15] (ok_valg (fun u2 => vI (a0.L.length : Int)) (fun u2 => ((a0.N != a1.N) == false)) [false] 15) <|
   .cons [16] (ok_valg (fun u2 => vP ((u1 1).n 0) 1) (fun u2 => ((a0.N != a1.N) == false)) [true] 16) <|
   .cons [17] (ok_ldg (fun u2 => .slice p_a1_L a1.L.length c_a1_L) (fun u2 => ((a0.N != a1.N) == false)) [false] 17 72 1 1 (fun u2 => ((u1 1).n 0)) (fun u2 => [vI a1.N, .slice p_a1_L a1.L.length c_a1_L, .slice p_a1_Out a1.Out.length c_a1_Out]) 25) <|
   .cons [18] (ok_valg (fun u2 => vI (a1.L.length : Int)) (fun u2 => ((a0.N != a1.N) == false)) [false] 18) <|
   .cons [19] (ok_valg (fun u2 => .bool ((a0.L.length : Int) != (a1.L.length : Int))) (fun u2 => ((a0.N != a1.N) == false)) [false, false] 19) <|
   .cons [20] (ok_or 12 19 (fun u2 => true) (fun u2 => true) (fun u2 => (a0.N != a1.N)) (fun u2 => ((a0.L.length : Int) != (a1.L.length : Int))) 20) <|
   .v 21 (.bool ((a0.N != a1.N) || ((a0.L.length : Int) != (a1.L.length : Int)))) <|
   .cons [22] (ok_valg (fun u2 => vP ((u1 0).n 0) 2) (fun u2 => (((a0.N != a1.N) || ((a0.L.length : Int) != (a1.L.length : Int))) == false)) [true] 22) <|
   .cons [23] (ok_ldg (fun u2 => .slice p_a0_Out a0.Out.length c_a0_Out) (fun u2 => (((a0.N != a1.N) || ((a0.L.length : Int) != (a1.L.length : Int))) == false)) [false] 23 71 2 1 (fun u2 => ((u1 0).n 0)) (fun u2 => [vI a0.N, .slice p_a0_L a0.L.length c_a0_L, .slice p_a0_Out a0.Out.length c_a0_Out]) 25) <|
   .cons [24] (ok_valg (fun u2 => vI (a0.Out.length : Int)) (fun u2 => (((a0.N != a1.N) || ((a0.L.length : Int) != (a1.L.length : Int))) == false)) [false] 24) <|
   .cons [25] (ok_valg (fun u2 => vP ((u1 1).n 0) 2) (fun u2 => (((a0.N != a1.N) || ((a0.L.length : Int) != (a1.L.length : Int))) == false)) [true] 25) <|
   .cons [26] (ok_ldg (fun u2 => .slice p_a1_Out a1.Out.length c_a1_Out) (fun u2 => (((a0.N != a1.N) || ((a0.L.length : Int) != (a1.L.length : Int))) == false)) [false] 26 72 2 1 (fun u2 => ((u1 1).n 0)) (fun u2 => [vI a1.N, .slice p_a1_L a1.L.length c_a1_L, .slice p_a1_Out a1.Out.length c_a1_Out]) 25) <|
   .cons [27] (ok_valg (fun u2 => vI (a1.Out.length : Int)) (fun u2 => (((a0.N != a1.N) || ((a0.L.length : Int) != (a1.L.length : Int))) == false)) [false] 27) <|
   .cons [28] (ok_valg (fun u2 => .bool ((a0.Out.length : Int) != (a1.Out.length : Int))) (fun u2 => (((a0.N != a1.N) || ((a0.L.length : Int) != (a1.L.length : Int))) == false)) [false, false] 28) <|
   .cons [29] (ok_or 21 28 (fun u2 => true) (fun u2 => true) (fun u2 => ((a0.N != a1.N) || ((a0.L.length : Int) != (a1.L.length : Int)))) (fun u2 => ((a0.Out.length : Int) != (a1.Out.length : Int))) 29) <| .nil) fun u2 a w' H => ?_
 replace H := H.kp [2, 3, 29, 67, 68, 69, 70, 71, 72]
 refine k_cond H (by kernel_rfl) (t := (((a0.N != a1.N) || ((a0.L.length : Int) != (a1.L.length : Int))) || ((a0.Out.length : Int) != (a1.Out.length : Int)))) (by kernel_rfl) (fun c38 => ?_) (fun c38 => ?_)
 ·rw [if_pos c38] at G
  refine k_seq ?_
  refine k_rg mixed H (.v 4 (.bool false) <| .nil) fun u3 a w' H => ?_
  replace H := H.kp [4]
  refine k_ret ?_
  obtain rfl := Option.some.inj G
  exact k_done0 H _ (by kernel_rfl) (by kernel_rfl)
 ·rw [if_neg (nt c38)] at G
  refine k_skip ?_
  refine k_seq ?_
  replace G := bnd G; obtain ⟨j4, hj4, Gj4⟩ := G
  refine k_join (fun a w' => ∃ j4v, j4 = Sum.inr j4v ∧ Rep w.heap.size w 67 (ofL [(2, (sP ((u1 0).n 0) 0)), (3, (sP ((u1 1).n 0) 0)), (67, rdl anyF 5 p_a0_L c_a0_L a0.L en_TInstruction), (68, rdl anyF 1 p_a0_Out c_a0_Out a0.Out en_i64), (69, rdl anyF 5 p_a1_L c_a1_L a1.L en_TInstruction), (70, rdl anyF 1 p_a1_Out c_a1_Out a1.Out en_i64), (71, .blk ((u1 0).n 0) [vI a0.N, .slice p_a0_L a0.L.length c_a0_L, .slice p_a0_Out a0.Out.length c_a0_Out] 25), (72, .blk ((u1 1).n 0) [vI a1.N, .slice p_a1_L a1.L.length c_a1_L, .slice p_a1_Out a1.Out.length c_a1_Out] 25)]) a w') ?_ ?_
  ·clear H; rintro a w' ⟨j4v, rfl, H⟩; have G := Gj4; clear Gj4; dsimp only at G
   refine k_seq ?_
   replace G := bnd G; obtain ⟨j5, hj5, Gj5⟩ := G
   refine k_join (fun a w' => ∃ j5v, j5 = Sum.inr j5v ∧ Rep w.heap.size w 67 (ofL []) a w') ?_ ?_
   ·clear H; rintro a w' ⟨j5v, rfl, H⟩; have G := Gj5; clear Gj5; dsimp only at G
    refine k_seq ?_
    refine k_rg mixed H (.v 4 (.bool true) <| .nil) fun u6 a w' H => ?_
    replace H := H.kp [4]
    refine k_ret ?_
    obtain rfl := Option.some.inj G
    exact k_done0 H _ (by kernel_rfl) (by kernel_rfl)
   ·have G := hj5; clear hj5
    refine k_seq ?_
    refine k_rg mixed H (.v 6 (vI 0) <| .nil) fun u7 a w' H => ?_
    replace H := H.kp [2, 3, 6, 67, 68, 69, 70, 71, 72]
    refine k_block ?_
    refine k_loopJ (fun m a w' => ∃ x8 : Int, armillaryref08_Same.l9 k0 a0 a1 j4v m x8 = some j5 ∧ Rep w.heap.size w 67 (ofL [(2, (sP ((u1 0).n 0) 0)), (3, (sP ((u1 1).n 0) 0)), (6, sI x8), (67, rdl anyF 5 p_a0_L c_a0_L a0.L en_TInstruction), (68, rdl anyF 1 p_a0_Out c_a0_Out a0.Out en_i64), (69, rdl anyF 5 p_a1_L c_a1_L a1.L en_TInstruction), (70, rdl anyF 1 p_a1_Out c_a1_Out a1.Out en_i64), (71, .blk ((u1 0).n 0) [vI a0.N, .slice p_a0_L a0.L.length c_a0_L, .slice p_a0_Out a0.Out.length c_a0_Out] 25), (72, .blk ((u1 1).n 0) [vI a1.N, .slice p_a1_L a1.L.length c_a1_L, .slice p_a1_Out a1.Out.length c_a1_Out] 25)]) a w') k0 ⟨_, G, H.toL _ (by kernel_rfl)⟩ ?_
    clear G H
    rintro (_ | k) a w' ⟨x8, G, H⟩
    ·exact absurd G (by unfold armillaryref08_Same.l9; exact fun h => by cases h)
    ·unfold armillaryref08_Same.l9 at G
     refine k_seq ?_
     refine k_seq ?_
     refine k_rg mixed H (.v 49 (vI x8) <|
   .v 50 (vP ((u1 0).n 0) 2) <|
   .cons [51] (ok_ld (fun u10 => .slice p_a0_Out a0.Out.length c_a0_Out) 51 71 2 1 (fun u10 => ((u1 0).n 0)) (fun u10 => [vI a0.N, .slice p_a0_L a0.L.length c_a0_L, .slice p_a0_Out a0.Out.length c_a0_Out]) 25) <|
   .v 52 (vI (a0.Out.length : Int)) <|
   .v 53 (.bool (decide (x8 < (a0.Out.length : Int)))) <| .nil) fun u10 a w' H => ?_
     replace H := H.kp [2, 3, 6, 53, 67, 68, 69, 70, 71, 72]
     refine k_cond H (by kernel_rfl) (t := decide (x8 < (a0.Out.length : Int))) (by kernel_rfl) (fun c21 => ?_) (fun c21 => ?_)
     ·rw [if_pos c21] at G
      refine k_skip ?_
      refine k_seq ?_
      refine k_block ?_
      refine k_seq ?_
      replace G := gd G; obtain ⟨b12, G⟩ := G
      replace G := bnd G; obtain ⟨t13, ht13, G⟩ := G
      have P14 := ptr_of (en := en_i64) (l := a0.Out) (rdF_of (H.at (K := rdl anyF 1 p_a0_Out c_a0_Out a0.Out en_i64) 68 (by kernel_rfl))).2 en_i64_len
      replace G := gd G; obtain ⟨b15, G⟩ := G
      replace G := bnd G; obtain ⟨t16, ht16, G⟩ := G
      have P17 := ptr_of (en := en_i64) (l := a1.Out) (rdF_of (H.at (K := rdl anyF 1 p_a1_Out c_a1_Out a1.Out en_i64) 70 (by kernel_rfl))).2 en_i64_len
      refine k_rg mixed H (.v 56 (vP ((u1 0).n 0) 2) <|
   .cons [57] (ok_ld (fun u11 => .slice p_a0_Out a0.Out.length c_a0_Out) 57 71 2 1 (fun u11 => ((u1 0).n 0)) (fun u11 => [vI a0.N, .slice p_a0_L a0.L.length c_a0_L, .slice p_a0_Out a0.Out.length c_a0_Out]) 25) <|
   .v 58 (vI x8) <|
   .cons [59] (ok_val (fun u11 => .pointer (some ⟨hdB p_a0_Out, hdO p_a0_Out + x8.toNat * 1, none⟩)) 59 (hv := fun _ _ => ix_pure (t := 23) (k := .i64) (i := x8) (p := p_a0_Out) (n := a0.Out.length) (cap := c_a0_Out) (x := a0.Out) P14 rfl b12 (by kernel_rfl))) <|
   .cons [60] (ok_valL [68] (fun u11 => [rdl anyF 1 p_a0_Out c_a0_Out a0.Out en_i64]) (fun u11 => vI t13) (fun u11 => true) [true] 60 (fun u11 w hg hF => ld_row (en := en_i64) (rdF_of hF.1).2 en_i64_len ht13 0 1 [vI t13] rfl (by kernel_rfl))) <|
   .v 61 (vP ((u1 1).n 0) 2) <|
   .cons [62] (ok_ld (fun u11 => .slice p_a1_Out a1.Out.length c_a1_Out) 62 72 2 1 (fun u11 => ((u1 1).n 0)) (fun u11 => [vI a1.N, .slice p_a1_L a1.L.length c_a1_L, .slice p_a1_Out a1.Out.length c_a1_Out]) 25) <|
   .v 63 (vI x8) <|
   .cons [64] (ok_val (fun u11 => .pointer (some ⟨hdB p_a1_Out, hdO p_a1_Out + x8.toNat * 1, none⟩)) 64 (hv := fun _ _ => ix_pure (t := 23) (k := .i64) (i := x8) (p := p_a1_Out) (n := a1.Out.length) (cap := c_a1_Out) (x := a1.Out) P17 rfl b15 (by kernel_rfl))) <|
   .cons [65] (ok_valL [70] (fun u11 => [rdl anyF 1 p_a1_Out c_a1_Out a1.Out en_i64]) (fun u11 => vI t16) (fun u11 => true) [true] 65 (fun u11 w hg hF => ld_row (en := en_i64) (rdF_of hF.1).2 en_i64_len ht16 0 1 [vI t16] rfl (by kernel_rfl))) <|
   .v 66 (.bool (t13 != t16)) <| .nil) fun u11 a w' H => ?_
      replace H := H.kp [2, 3, 6, 66, 67, 68, 69, 70, 71, 72]
      refine k_cond H (by kernel_rfl) (t := (t13 != t16)) (by kernel_rfl) (fun c20 => ?_) (fun c20 => ?_)
      ·rw [if_pos c20] at G
       refine k_seq ?_
       refine k_rg mixed H (.v 4 (.bool false) <| .nil) fun u18 a w' H => ?_
       replace H := H.kp [4]
       refine k_ret ?_
       obtain rfl := Option.some.inj G
       replace G := Gj5
       obtain rfl := Option.some.inj G
       exact k_done0 H _ (by kernel_rfl) (by kernel_rfl)
      ·rw [if_neg (nt c20)] at G
       refine k_skip ?_
       refine k_rg mixed H (.v 54 (vI x8) <|
   .v 55 (vI (w_i64 (x8 + 1))) <|
   .v 6 (vI (w_i64 (x8 + 1))) <| .nil) fun u19 a w' H => ?_
       replace H := H.kp [2, 3, 6, 67, 68, 69, 70, 71, 72]
       exact ⟨k, Nat.lt_succ_self k, _, G, H.toL _ (by kernel_rfl)⟩
     ·rw [if_neg (nt c21)] at G
      refine k_exit rfl ?_
      obtain rfl := Option.some.inj G
      exact ⟨_, rfl, H.toL _ (by kernel_rfl)⟩
  ·have G := hj4; clear hj4
   refine k_seq ?_
   refine k_rg mixed H (.v 5 (vI 0) <| .nil) fun u22 a w' H => ?_
   replace H := H.kp [2, 3, 5, 67, 68, 69, 70, 71, 72]
   refine k_block ?_
   refine k_loopJ (fun m a w' => ∃ x23 : Int, armillaryref08_Same.l24 k0 a0 a1 m x23 = some j4 ∧ Rep w.heap.size w 67 (ofL [(2, (sP ((u1 0).n 0) 0)), (3, (sP ((u1 1).n 0) 0)), (5, sI x23), (67, rdl anyF 5 p_a0_L c_a0_L a0.L en_TInstruction), (68, rdl anyF 1 p_a0_Out c_a0_Out a0.Out en_i64), (69, rdl anyF 5 p_a1_L c_a1_L a1.L en_TInstruction), (70, rdl anyF 1 p_a1_Out c_a1_Out a1.Out en_i64), (71, .blk ((u1 0).n 0) [vI a0.N, .slice p_a0_L a0.L.length c_a0_L, .slice p_a0_Out a0.Out.length c_a0_Out] 25), (72, .blk ((u1 1).n 0) [vI a1.N, .slice p_a1_L a1.L.length c_a1_L, .slice p_a1_Out a1.Out.length c_a1_Out] 25)]) a w') k0 ⟨_, G, H.toL _ (by kernel_rfl)⟩ ?_
   clear G H
   rintro (_ | k) a w' ⟨x23, G, H⟩
   ·exact absurd G (by unfold armillaryref08_Same.l24; exact fun h => by cases h)
   ·unfold armillaryref08_Same.l24 at G
    refine k_seq ?_
    refine k_seq ?_
    refine k_rg mixed H (.v 30 (vI x23) <|
   .v 31 (vP ((u1 0).n 0) 1) <|
   .cons [32] (ok_ld (fun u25 => .slice p_a0_L a0.L.length c_a0_L) 32 71 1 1 (fun u25 => ((u1 0).n 0)) (fun u25 => [vI a0.N, .slice p_a0_L a0.L.length c_a0_L, .slice p_a0_Out a0.Out.length c_a0_Out]) 25) <|
   .v 33 (vI (a0.L.length : Int)) <|
   .v 34 (.bool (decide (x23 < (a0.L.length : Int)))) <| .nil) fun u25 a w' H => ?_
    replace H := H.kp [2, 3, 5, 34, 67, 68, 69, 70, 71, 72]
    refine k_cond H (by kernel_rfl) (t := decide (x23 < (a0.L.length : Int))) (by kernel_rfl) (fun c37 => ?_) (fun c37 => ?_)
    ·rw [if_pos c37] at G
     refine k_skip ?_
     refine k_seq ?_
     refine k_block ?_
     refine k_seq ?_
     replace G := gd G; obtain ⟨b27, G⟩ := G
     replace G := bnd G; obtain ⟨t28, ht28, G⟩ := G
     have P29 := ptr_of (en := en_TInstruction) (l := a0.L) (rdF_of (H.at (K := rdl anyF 5 p_a0_L c_a0_L a0.L en_TInstruction) 67 (by kernel_rfl))).2 en_TInstruction_len
     replace G := gd G; obtain ⟨b30, G⟩ := G
     replace G := bnd G; obtain ⟨t31, ht31, G⟩ := G
     have P32 := ptr_of (en := en_TInstruction) (l := a1.L) (rdF_of (H.at (K := rdl anyF 5 p_a1_L c_a1_L a1.L en_TInstruction) 69 (by kernel_rfl))).2 en_TInstruction_len
     replace G := bnd G; obtain ⟨t33, ht33, G⟩ := G
     refine k_rg mixed H (.v 37 (vP ((u1 0).n 0) 1) <|
   .cons [38] (ok_ld (fun u26 => .slice p_a0_L a0.L.length c_a0_L) 38 71 1 1 (fun u26 => ((u1 0).n 0)) (fun u26 => [vI a0.N, .slice p_a0_L a0.L.length c_a0_L, .slice p_a0_Out a0.Out.length c_a0_Out]) 25) <|
   .v 39 (vI x23) <|
   .cons [40] (ok_val (fun u26 => .pointer (some ⟨hdB p_a0_L, hdO p_a0_L + x23.toNat * 5, none⟩)) 40 (hv := fun _ _ => ix_pure (t := 22) (k := .i64) (i := x23) (p := p_a0_L) (n := a0.L.length) (cap := c_a0_L) (x := a0.L) P29 rfl b27 (by kernel_rfl))) <|
   .cons [41] (ok_valL [67] (fun u26 => [rdl anyF 5 p_a0_L c_a0_L a0.L en_TInstruction]) (fun u26 => .agg #[vI t28.Op, vI t28.A, vI t28.B, vI t28.C.Lo, vI t28.C.Hi]) (fun u26 => true) [true] 41 (fun u26 w hg hF => ld_row (en := en_TInstruction) (rdF_of hF.1).2 en_TInstruction_len ht28 0 5 [vI t28.Op, vI t28.A, vI t28.B, vI t28.C.Lo, vI t28.C.Hi] rfl (by kernel_rfl))) <|
   .v 42 (vP ((u1 1).n 0) 1) <|
   .cons [43] (ok_ld (fun u26 => .slice p_a1_L a1.L.length c_a1_L) 43 72 1 1 (fun u26 => ((u1 1).n 0)) (fun u26 => [vI a1.N, .slice p_a1_L a1.L.length c_a1_L, .slice p_a1_Out a1.Out.length c_a1_Out]) 25) <|
   .v 44 (vI x23) <|
   .cons [45] (ok_val (fun u26 => .pointer (some ⟨hdB p_a1_L, hdO p_a1_L + x23.toNat * 5, none⟩)) 45 (hv := fun _ _ => ix_pure (t := 22) (k := .i64) (i := x23) (p := p_a1_L) (n := a1.L.length) (cap := c_a1_L) (x := a1.L) P32 rfl b30 (by kernel_rfl))) <|
   .cons [46] (ok_valL [69] (fun u26 => [rdl anyF 5 p_a1_L c_a1_L a1.L en_TInstruction]) (fun u26 => .agg #[vI t31.Op, vI t31.A, vI t31.B, vI t31.C.Lo, vI t31.C.Hi]) (fun u26 => true) [true] 46 (fun u26 w hg hF => ld_row (en := en_TInstruction) (rdF_of hF.1).2 en_TInstruction_len ht31 0 5 [vI t31.Op, vI t31.A, vI t31.B, vI t31.C.Lo, vI t31.C.Hi] rfl (by kernel_rfl))) <|
   .cons [47] (ok_callv 35 (fun u26 => #[.agg #[vI t28.Op, vI t28.A, vI t28.B, vI t28.C.Lo, vI t28.C.Hi], .agg #[vI t31.Op, vI t31.A, vI t31.B, vI t31.C.Lo, vI t31.C.Hi]]) (.bool t33) 47 [] (fun u26 w _ => armillaryref08_same.calls t28 t31  t33 w  ht33)) <|
   .v 48 (.bool (!t33)) <| .nil) fun u26 a w' H => ?_
     replace H := H.kp [2, 3, 5, 48, 67, 68, 69, 70, 71, 72]
     refine k_cond H (by kernel_rfl) (t := (!t33)) (by kernel_rfl) (fun c36 => ?_) (fun c36 => ?_)
     ·rw [if_pos c36] at G
      refine k_seq ?_
      refine k_rg mixed H (.v 4 (.bool false) <| .nil) fun u34 a w' H => ?_
      replace H := H.kp [4]
      refine k_ret ?_
      obtain rfl := Option.some.inj G
      replace G := Gj4
      obtain rfl := Option.some.inj G
      exact k_done0 H _ (by kernel_rfl) (by kernel_rfl)
     ·rw [if_neg (nt c36)] at G
      refine k_skip ?_
      refine k_rg mixed H (.v 35 (vI x23) <|
   .v 36 (vI (w_i64 (x23 + 1))) <|
   .v 5 (vI (w_i64 (x23 + 1))) <| .nil) fun u35 a w' H => ?_
      replace H := H.kp [2, 3, 5, 67, 68, 69, 70, 71, 72]
      exact ⟨k, Nat.lt_succ_self k, _, G, H.toL _ (by kernel_rfl)⟩
    ·rw [if_neg (nt c37)] at G
     refine k_exit rfl ?_
     obtain rfl := Option.some.inj G
     exact ⟨_, rfl, H.toL _ (by kernel_rfl)⟩
set_option maxHeartbeats 4000000 in
theorem armillaryref02_Entire.calls (r : TInterval) (w : World) (G : armillaryref02_Entire = some r) :
  Calls Tryd.prog 25 #[] w fun e w' => e = .returned (.agg #[vI r.Lo, vI r.Hi]) ∧ Below w.heap.size w w' := by
 refine k_enter (args := []) 2 Tryd.func25 rfl (by kernel_rfl) (by kernel_rfl) fun a H => ?_
 unfold armillaryref02_Entire at G
 refine k_seq ?_
 refine k_rg mixed H (.cons [0, 2] (ok_new (fun b => vP b 0) (fun u1 => [vI 0, vI 0]) 28 0 2) <| .nil) fun u1 a w' H => ?_
 replace H := H.kp [0, 2]
 refine k_seq ?_
 refine k_rg mixed H (.v 1 (.agg #[vI (-2147483648), vI 2147483648]) <|
   .cons [2] (ok_as (u' := fun u2 => [(2, .blk ((u1 0).n 0) [vI (-2147483648), vI 2147483648] 28)]) (ok_store 2 0 (fun u2 => ((u1 0).n 0)) (fun u2 => [vI 0, vI 0]) (fun u2 => [vI (-2147483648), vI 2147483648]) 28) (fun _ => by kernel_rfl)) <| .nil) fun u2 a w' H => ?_
 replace H := H.kp [0, 2]
 refine k_ret ?_
 obtain rfl := Option.some.inj G
 exact k_done1 H _ 2 ((u1 0).n 0) [vI (-2147483648), vI 2147483648] 28 0 2 (by kernel_rfl) (by kernel_rfl) (by kernel_rfl) (by kernel_rfl)
set_option maxHeartbeats 4000000 in
theorem armillaryref02_Number.calls (a0 : Int) (r : Bool) (w : World) (G : armillaryref02_Number a0 = some r) :
  Calls Tryd.prog 41 #[vI a0] w fun e w' => e = .returned (.bool r) ∧ Below w.heap.size w w' := by
 refine k_enter (args := [vI a0]) 9 Tryd.func41 rfl (by kernel_rfl) (by kernel_rfl) fun a H => ?_
 unfold armillaryref02_Number at G
 refine k_seq ?_
 refine k_rg mixed H (.v 2 (.bool false) <| .nil) fun u1 a w' H => ?_
 replace H := H.kp [0]
 refine k_seq ?_
 refine k_rg mixed H (.v 3 (vI a0) <|
   .v 4 (.bool (decide (a0 > (-2147483648)))) <|
   .v 5 (.bool (decide (a0 > (-2147483648)))) <|
   .cons [6] (ok_valg (fun u2 => vI a0) (fun u2 => ((decide (a0 > (-2147483648))) == true)) [true] 6) <|
   .cons [7] (ok_valg (fun u2 => .bool (decide (a0 < 2147483648))) (fun u2 => ((decide (a0 > (-2147483648))) == true)) [false, true] 7) <|
   .cons [8] (ok_and 5 7 (fun u2 => true) (fun u2 => true) (fun u2 => decide (a0 > (-2147483648))) (fun u2 => decide (a0 < 2147483648)) 8) <|
   .v 2 (.bool ((decide (a0 > (-2147483648))) && (decide (a0 < 2147483648)))) <| .nil) fun u2 a w' H => ?_
 replace H := H.kp [2]
 refine k_ret ?_
 obtain rfl := Option.some.inj G
 exact k_done0 H _ (by kernel_rfl) (by kernel_rfl)
set_option maxHeartbeats 4000000 in
theorem armillaryref02_New.calls (a0 : Int) (a1 : Int) (r : TInterval) (w : World) (G : armillaryref02_New a0 a1 = some r) :
  Calls Tryd.prog 36 #[vI a0, vI a1] w fun e w' => e = .returned (.agg #[vI r.Lo, vI r.Hi]) ∧ Below w.heap.size w w' := by
 refine k_enter (args := [vI a0, vI a1]) 17 Tryd.func36 rfl (by kernel_rfl) (by kernel_rfl) fun a H => ?_
 unfold armillaryref02_New at G
 refine k_seq ?_
 refine k_rg mixed H (.cons [4, 17] (ok_new (fun b => vP b 0) (fun u1 => [vI 0, vI 0]) 28 4 17) <| .nil) fun u1 a w' H => ?_
 replace H := H.kp [0, 1, 4, 17]
 refine k_seq ?_
 refine k_seq ?_
 replace G := bnd G; obtain ⟨t3, ht3, G⟩ := G
 replace G := bnd G; obtain ⟨t4, ht4, G⟩ := G
 refine k_rg mixed H (.v 5 (vI a0) <|
   .cons [6] (ok_callv 41 (fun u2 => #[vI a0]) (.bool t3) 6 [] (fun u2 w _ => armillaryref02_Number.calls a0  t3 w  ht3)) <|
   .v 7 (.bool (!t3)) <|
   .v 8 (.bool (!t3)) <|
   .cons [9] (ok_valg (fun u2 => vI a1) (fun u2 => ((!t3) == false)) [true] 9) <|
   .cons [10] (ok_call 41 (fun u2 => #[vI a1]) (.bool t4) (fun u2 => ((!t3) == false)) [true, false] 10 [] (fun u2 w hg _ => armillaryref02_Number.calls a1  t4 w  (ifp ht4 hg))) <|
   .cons [11] (ok_valg (fun u2 => .bool (!t4)) (fun u2 => ((!t3) == false)) [false] 11) <|
   .cons [12] (ok_or 8 11 (fun u2 => true) (fun u2 => true) (fun u2 => (!t3)) (fun u2 => (!t4)) 12) <| .nil) fun u2 a w' H => ?_
 replace H := H.kp [0, 1, 4, 12, 17]
 refine k_cond H (by kernel_rfl) (t := ((!t3) || (!t4))) (by kernel_rfl) (fun c8 => ?_) (fun c8 => ?_)
 ·rw [if_pos c8] at G
  refine k_seq ?_
  replace G := bnd G; obtain ⟨t6, ht6, G⟩ := G
  refine k_rg mixed H (.cons [13] (ok_callv 25 (fun u5 => #[]) (.agg #[vI t6.Lo, vI t6.Hi]) 13 [] (fun u5 w _ => armillaryref02_Entire.calls   t6 w  ht6)) <|
   .cons [17] (ok_as (u' := fun u5 => [(17, .blk ((u1 0).n 0) [vI t6.Lo, vI t6.Hi] 28)]) (ok_store 17 0 (fun u5 => ((u1 0).n 0)) (fun u5 => [vI 0, vI 0]) (fun u5 => [vI t6.Lo, vI t6.Hi]) 28) (fun _ => by kernel_rfl)) <| .nil) fun u5 a w' H => ?_
  replace H := H.kp [4, 17]
  refine k_ret ?_
  obtain rfl := Option.some.inj G
  exact k_done1 H _ 17 ((u1 0).n 0) [vI t6.Lo, vI t6.Hi] 28 0 2 (by kernel_rfl) (by kernel_rfl) (by kernel_rfl) (by kernel_rfl)
 ·rw [if_neg (nt c8)] at G
  refine k_skip ?_
  refine k_seq ?_
  refine k_rg mixed H (.v 14 (vI a0) <|
   .v 15 (vI a1) <|
   .v 16 (.agg #[vI a0, vI a1]) <|
   .cons [17] (ok_as (u' := fun u7 => [(17, .blk ((u1 0).n 0) [vI a0, vI a1] 28)]) (ok_store 17 0 (fun u7 => ((u1 0).n 0)) (fun u7 => [vI 0, vI 0]) (fun u7 => [vI a0, vI a1]) 28) (fun _ => by kernel_rfl)) <| .nil) fun u7 a w' H => ?_
  replace H := H.kp [4, 17]
  refine k_ret ?_
  obtain rfl := Option.some.inj G
  exact k_done1 H _ 17 ((u1 0).n 0) [vI a0, vI a1] 28 0 2 (by kernel_rfl) (by kernel_rfl) (by kernel_rfl) (by kernel_rfl)
set_option maxHeartbeats 4000000 in
theorem armillaryref02_Point.calls (a0 : Int) (r : TInterval) (w : World) (G : armillaryref02_Point a0 = some r) :
  Calls Tryd.prog 15 #[vI a0] w fun e w' => e = .returned (.agg #[vI r.Lo, vI r.Hi]) ∧ Below w.heap.size w w' := by
 refine k_enter (args := [vI a0]) 6 Tryd.func15 rfl (by kernel_rfl) (by kernel_rfl) fun a H => ?_
 unfold armillaryref02_Point at G
 refine k_seq ?_
 refine k_rg mixed H (.cons [2, 6] (ok_new (fun b => vP b 0) (fun u1 => [vI 0, vI 0]) 28 2 6) <| .nil) fun u1 a w' H => ?_
 replace H := H.kp [0, 2, 6]
 refine k_seq ?_
 replace G := bnd G; obtain ⟨t3, ht3, G⟩ := G
 refine k_rg mixed H (.v 3 (vI a0) <|
   .v 4 (vI a0) <|
   .cons [5] (ok_callv 36 (fun u2 => #[vI a0, vI a0]) (.agg #[vI t3.Lo, vI t3.Hi]) 5 [] (fun u2 w _ => armillaryref02_New.calls a0 a0  t3 w  ht3)) <|
   .cons [6] (ok_as (u' := fun u2 => [(6, .blk ((u1 0).n 0) [vI t3.Lo, vI t3.Hi] 28)]) (ok_store 6 0 (fun u2 => ((u1 0).n 0)) (fun u2 => [vI 0, vI 0]) (fun u2 => [vI t3.Lo, vI t3.Hi]) 28) (fun _ => by kernel_rfl)) <| .nil) fun u2 a w' H => ?_
 replace H := H.kp [2, 6]
 refine k_ret ?_
 obtain rfl := Option.some.inj G
 exact k_done1 H _ 6 ((u1 0).n 0) [vI t3.Lo, vI t3.Hi] 28 0 2 (by kernel_rfl) (by kernel_rfl) (by kernel_rfl) (by kernel_rfl)
set_option maxHeartbeats 4000000 in
theorem armillaryref08_SameRows.calls (k0 : Nat) (a0 : List (List TNode)) (a1 : List (List TNode)) (p_a0 : Option Addr) (c_a0 : Nat) (L_a0 : List (Sl TNode)) (p_a1 : Option Addr) (c_a1 : Nat) (L_a1 : List (Sl TNode)) (r : Bool) (w : World) (h_a0 : a0 = L_a0.map Sl.l) (h_a1 : a1 = L_a1.map Sl.l) (hB : AllH [rdl anyF 1 p_a0 c_a0 L_a0 enSl, dnK anyF E_S_TNode.toPart L_a0, rdl anyF 1 p_a1 c_a1 L_a1 enSl, dnK anyF E_S_TNode.toPart L_a1] w) (G : armillaryref08_SameRows k0 a0 a1 = some r) :
  Calls Tryd.prog 16 #[.slice p_a0 L_a0.length c_a0, .slice p_a1 L_a1.length c_a1] w fun e w' => e = .returned (.bool r) ∧ Below w.heap.size w w' := by
 obtain ⟨fr, hfr⟩ : ∃ fr : Nat → Prop, ∀ j, fr j := ⟨fun _ => True, fun _ => trivial⟩
 have hBf : ∀ j, w.heap.size ≤ j → fr j := fun j _ => hfr j
 refine k_enterF (args := [.slice p_a0 L_a0.length c_a0, .slice p_a1 L_a1.length c_a1]) 94 [(94, rdl anyF 1 p_a0 c_a0 L_a0 enSl), (95, dnK anyF E_S_TNode.toPart L_a0), (96, rdl anyF 1 p_a1 c_a1 L_a1 enSl), (97, dnK anyF E_S_TNode.toPart L_a1)] (by
  intro x hx
  simp only [List.mem_cons, List.not_mem_nil, or_false] at hx
  rcases hx with rfl | rfl | rfl | rfl
  ·exact rdF_fact (rdF_of hB.1) (fun _ _ => trivial) (by decide) _
  ·exact dn_fact (dn_of hB.2.1) (fun _ _ => trivial) _
  ·exact rdF_fact (rdF_of hB.2.2.1) (fun _ _ => trivial) (by decide) _
  ·exact dn_fact (dn_of hB.2.2.2.1) (fun _ _ => trivial) _) Tryd.func16 rfl (by kernel_rfl) (by kernel_rfl) fun a H => ?_
 unfold armillaryref08_SameRows at G
 refine k_seq ?_
 refine k_rg mixed H (.v 4 (.bool false) <| .nil) fun u1 a w' H => ?_
 replace H := H.kp [0, 1, 94, 95, 96, 97]
 refine k_seq ?_
 refine k_seq ?_
 refine k_rg mixed H (.v 7 (.slice p_a0 L_a0.length c_a0) <|
   .cons [8] (ok_valL [94] (fun u2 => [rdl anyF 1 p_a0 c_a0 L_a0 enSl]) (fun u2 => vI (a0.length : Int)) (fun u2 => true) [true] 8 (fun u2 w hg hF => run_lenN (((rdF_of hF.1).2.len enSl_len (by decide)).trans (map_len h_a0).symm) (by kernel_rfl))) <|
   .v 9 (.slice p_a1 L_a1.length c_a1) <|
   .cons [10] (ok_valL [96] (fun u2 => [rdl anyF 1 p_a1 c_a1 L_a1 enSl]) (fun u2 => vI (a1.length : Int)) (fun u2 => true) [true] 10 (fun u2 w hg hF => run_lenN (((rdF_of hF.1).2.len enSl_len (by decide)).trans (map_len h_a1).symm) (by kernel_rfl))) <|
   .v 11 (.bool ((a0.length : Int) != (a1.length : Int))) <| .nil) fun u2 a w' H => ?_
 replace H := H.kp [0, 1, 11, 94, 95, 96, 97]
 refine k_cond H (by kernel_rfl) (t := ((a0.length : Int) != (a1.length : Int))) (by kernel_rfl) (fun c66 => ?_) (fun c66 => ?_)
 ·rw [if_pos c66] at G
  refine k_seq ?_
  refine k_rg mixed H (.v 4 (.bool false) <| .nil) fun u3 a w' H => ?_
  replace H := H.kp [4]
  refine k_ret ?_
  obtain rfl := Option.some.inj G
  exact k_done0 H _ (by kernel_rfl) (by kernel_rfl)
 ·rw [if_neg (nt c66)] at G
  refine k_skip ?_
  refine k_seq ?_
  replace G := bnd G; obtain ⟨j4, hj4, Gj4⟩ := G
  refine k_join (fun a w' => ∃ j4v, j4 = Sum.inr j4v ∧ Rep w.heap.size w 94 (ofL []) a w') ?_ ?_
  ·clear H; rintro a w' ⟨j4v, rfl, H⟩; have G := Gj4; clear Gj4; dsimp only at G
   refine k_seq ?_
   refine k_rg mixed H (.v 4 (.bool true) <| .nil) fun u5 a w' H => ?_
   replace H := H.kp [4]
   refine k_ret ?_
   obtain rfl := Option.some.inj G
   exact k_done0 H _ (by kernel_rfl) (by kernel_rfl)
  ·have G := hj4; clear hj4
   refine k_seq ?_
   refine k_rg mixed H (.v 5 (vI 0) <| .nil) fun u6 a w' H => ?_
   replace H := H.kp [0, 1, 5, 94, 95, 96, 97]
   refine k_block ?_
   refine k_loopJ (fun m a w' => ∃ x7 : Int, armillaryref08_SameRows.l8 k0 a0 a1 m x7 = some j4 ∧ Rep w.heap.size w 94 (ofL [(0, sS p_a0 L_a0.length c_a0), (1, sS p_a1 L_a1.length c_a1), (5, sI x7), (94, rdl anyF 1 p_a0 c_a0 L_a0 enSl), (95, dnK anyF E_S_TNode.toPart L_a0), (96, rdl anyF 1 p_a1 c_a1 L_a1 enSl), (97, dnK anyF E_S_TNode.toPart L_a1)]) a w') k0 ⟨_, G, H.toL _ (by kernel_rfl)⟩ ?_
   clear G H
   rintro (_ | k) a w' ⟨x7, G, H⟩
   ·exact absurd G (by unfold armillaryref08_SameRows.l8; exact fun h => by cases h)
   ·unfold armillaryref08_SameRows.l8 at G
    refine k_seq ?_
    refine k_seq ?_
    refine k_rg mixed H (.v 12 (vI x7) <|
   .v 13 (.slice p_a0 L_a0.length c_a0) <|
   .cons [14] (ok_valL [94] (fun u9 => [rdl anyF 1 p_a0 c_a0 L_a0 enSl]) (fun u9 => vI (a0.length : Int)) (fun u9 => true) [true] 14 (fun u9 w hg hF => run_lenN (((rdF_of hF.1).2.len enSl_len (by decide)).trans (map_len h_a0).symm) (by kernel_rfl))) <|
   .v 15 (.bool (decide (x7 < (a0.length : Int)))) <| .nil) fun u9 a w' H => ?_
    replace H := H.kp [0, 1, 5, 15, 94, 95, 96, 97]
    refine k_cond H (by kernel_rfl) (t := decide (x7 < (a0.length : Int))) (by kernel_rfl) (fun c65 => ?_) (fun c65 => ?_)
    ·rw [if_pos c65] at G
     refine k_skip ?_
     refine k_seq ?_
     replace G := bnd G; obtain ⟨j10, hj10, Gj10⟩ := G
     refine k_join (fun a w' => ∃ j10v, j10 = Sum.inr j10v ∧ Rep w.heap.size w 94 (ofL [(0, sS p_a0 L_a0.length c_a0), (1, sS p_a1 L_a1.length c_a1), (5, sI x7), (94, rdl anyF 1 p_a0 c_a0 L_a0 enSl), (95, dnK anyF E_S_TNode.toPart L_a0), (96, rdl anyF 1 p_a1 c_a1 L_a1 enSl), (97, dnK anyF E_S_TNode.toPart L_a1)]) a w') ?_ ?_
     ·clear H; rintro a w' ⟨j10v, rfl, H⟩; have G := Gj10; clear Gj10; dsimp only at G
      refine k_rg mixed H (.v 16 (vI x7) <|
   .v 17 (vI (w_i64 (x7 + 1))) <|
   .v 5 (vI (w_i64 (x7 + 1))) <| .nil) fun u11 a w' H => ?_
      replace H := H.kp [0, 1, 5, 94, 95, 96, 97]
      exact ⟨k, Nat.lt_succ_self k, _, G, H.toL _ (by kernel_rfl)⟩
     ·have G := hj10; clear hj10
      refine k_block ?_
      refine k_seq ?_
      refine k_seq ?_
      replace G := gd G; obtain ⟨b13, G⟩ := G
      replace G := bnd G; obtain ⟨t14, ht14, G⟩ := G
      obtain ⟨p_t14, c_t14, y_t14⟩ := sl_get h_a0 ht14
      have P15 := ptr_of (en := enSl) (l := L_a0) (rdF_of (H.at (K := rdl anyF 1 p_a0 c_a0 L_a0 enSl) 94 (by kernel_rfl))).2 enSl_len
      replace G := gd G; obtain ⟨b16, G⟩ := G
      replace G := bnd G; obtain ⟨t17, ht17, G⟩ := G
      obtain ⟨p_t17, c_t17, y_t17⟩ := sl_get h_a1 ht17
      have P18 := ptr_of (en := enSl) (l := L_a1) (rdF_of (H.at (K := rdl anyF 1 p_a1 c_a1 L_a1 enSl) 96 (by kernel_rfl))).2 enSl_len
      refine k_rg mixed H (.v 18 (.slice p_a0 L_a0.length c_a0) <|
   .v 19 (vI x7) <|
   .cons [20] (ok_val (fun u12 => .pointer (some ⟨hdB p_a0, hdO p_a0 + x7.toNat * 1, none⟩)) 20 (hv := fun _ _ => ix_pure (t := 36) (k := .i64) (i := x7) (p := p_a0) (n := L_a0.length) (cap := c_a0) (x := a0) P15 (map_len h_a0) b13 (by kernel_rfl))) <|
   .cons [21] (ok_valL [94] (fun u12 => [rdl anyF 1 p_a0 c_a0 L_a0 enSl]) (fun u12 => .slice p_t14 t14.length c_t14) (fun u12 => true) [true] 21 (fun u12 w hg hF => ld_row (en := enSl) (rdF_of hF.1).2 enSl_len y_t14 0 1 [.slice p_t14 t14.length c_t14] rfl (by kernel_rfl))) <|
   .v 22 (vI (t14.length : Int)) <|
   .v 23 (.slice p_a1 L_a1.length c_a1) <|
   .v 24 (vI x7) <|
   .cons [25] (ok_val (fun u12 => .pointer (some ⟨hdB p_a1, hdO p_a1 + x7.toNat * 1, none⟩)) 25 (hv := fun _ _ => ix_pure (t := 36) (k := .i64) (i := x7) (p := p_a1) (n := L_a1.length) (cap := c_a1) (x := a1) P18 (map_len h_a1) b16 (by kernel_rfl))) <|
   .cons [26] (ok_valL [96] (fun u12 => [rdl anyF 1 p_a1 c_a1 L_a1 enSl]) (fun u12 => .slice p_t17 t17.length c_t17) (fun u12 => true) [true] 26 (fun u12 w hg hF => ld_row (en := enSl) (rdF_of hF.1).2 enSl_len y_t17 0 1 [.slice p_t17 t17.length c_t17] rfl (by kernel_rfl))) <|
   .v 27 (vI (t17.length : Int)) <|
   .v 28 (.bool ((t14.length : Int) != (t17.length : Int))) <| .nil) fun u12 a w' H => ?_
      replace H := H.kp [0, 1, 5, 28, 94, 95, 96, 97]
      refine k_cond H (by kernel_rfl) (t := ((t14.length : Int) != (t17.length : Int))) (by kernel_rfl) (fun c64 => ?_) (fun c64 => ?_)
      ·rw [if_pos c64] at G
       refine k_seq ?_
       refine k_rg mixed H (.v 4 (.bool false) <| .nil) fun u19 a w' H => ?_
       replace H := H.kp [4]
       refine k_ret ?_
       obtain rfl := Option.some.inj G
       replace G := Gj10
       obtain rfl := Option.some.inj G
       replace G := Gj4
       obtain rfl := Option.some.inj G
       exact k_done0 H _ (by kernel_rfl) (by kernel_rfl)
      ·rw [if_neg (nt c64)] at G
       refine k_skip ?_
       refine k_seq ?_
       refine k_rg mixed H (.v 6 (vI 0) <| .nil) fun u20 a w' H => ?_
       replace H := H.kp [0, 1, 5, 6, 94, 95, 96, 97]
       refine k_block ?_
       refine k_loopJ (fun m a w' => ∃ x21 : Int, armillaryref08_SameRows.l22 k0 a0 a1 x7 t14 t17 m x21 = some j10 ∧ Rep w.heap.size w 94 (ofL [(0, sS p_a0 L_a0.length c_a0), (1, sS p_a1 L_a1.length c_a1), (5, sI x7), (6, sI x21), (94, rdl anyF 1 p_a0 c_a0 L_a0 enSl), (95, dnK anyF E_S_TNode.toPart L_a0), (96, rdl anyF 1 p_a1 c_a1 L_a1 enSl), (97, dnK anyF E_S_TNode.toPart L_a1)]) a w') k0 ⟨_, G, H.toL _ (by kernel_rfl)⟩ ?_
       clear G H
       rintro (_ | k) a w' ⟨x21, G, H⟩
       ·exact absurd G (by unfold armillaryref08_SameRows.l22; exact fun h => by cases h)
       ·unfold armillaryref08_SameRows.l22 at G
        refine k_seq ?_
        refine k_seq ?_
        replace G := gd G; obtain ⟨b24, G⟩ := G
        replace G := bnd G; obtain ⟨t25, ht25, G⟩ := G
        obtain ⟨p_t25, c_t25, y_t25⟩ := sl_get h_a0 ht25
        refine k_rg mixed H (.v 29 (vI x21) <|
   .v 30 (.slice p_a0 L_a0.length c_a0) <|
   .v 31 (vI x7) <|
   .cons [32] (ok_valL [94] (fun u23 => [rdl anyF 1 p_a0 c_a0 L_a0 enSl]) (fun u23 => .pointer (some ⟨hdB p_a0, hdO p_a0 + x7.toNat * 1, none⟩)) (fun u23 => true) [true, true] 32 (fun u23 w hg hF => ix_row (t := 36) (k := .i64) (i := x7) (p := p_a0) (n := L_a0.length) (cap := c_a0) (x := a0) (en := enSl) (rdF_of hF.1).2 enSl_len (map_len h_a0) b24 (by kernel_rfl))) <|
   .cons [33] (ok_valL [94] (fun u23 => [rdl anyF 1 p_a0 c_a0 L_a0 enSl]) (fun u23 => .slice p_t25 t25.length c_t25) (fun u23 => true) [true] 33 (fun u23 w hg hF => ld_row (en := enSl) (rdF_of hF.1).2 enSl_len y_t25 0 1 [.slice p_t25 t25.length c_t25] rfl (by kernel_rfl))) <|
   .v 34 (vI (t25.length : Int)) <|
   .v 35 (.bool (decide (x21 < (t25.length : Int)))) <| .nil) fun u23 a w' H => ?_
        replace H := H.kp [0, 1, 5, 6, 35, 94, 95, 96, 97]
        refine k_cond H (by kernel_rfl) (t := decide (x21 < (t25.length : Int))) (by kernel_rfl) (fun c63 => ?_) (fun c63 => ?_)
        ·rw [if_pos c63] at G
         refine k_skip ?_
         refine k_seq ?_
         refine k_block ?_
         refine k_seq ?_
         replace G := gd G; obtain ⟨b27, G⟩ := G
         replace G := bnd G; obtain ⟨t28, ht28, G⟩ := G
         obtain ⟨p_t28, c_t28, y_t28⟩ := sl_get h_a0 ht28
         have P29 := ptr_of (en := enSl) (l := L_a0) (rdF_of (H.at (K := rdl anyF 1 p_a0 c_a0 L_a0 enSl) 94 (by kernel_rfl))).2 enSl_len
         replace G := gd G; obtain ⟨b30, G⟩ := G
         replace G := bnd G; obtain ⟨t31, ht31, G⟩ := G
         replace G := gd G; obtain ⟨b32, G⟩ := G
         replace G := bnd G; obtain ⟨t33, ht33, G⟩ := G
         obtain ⟨p_t33, c_t33, y_t33⟩ := sl_get h_a1 ht33
         have P34 := ptr_of (en := enSl) (l := L_a1) (rdF_of (H.at (K := rdl anyF 1 p_a1 c_a1 L_a1 enSl) 96 (by kernel_rfl))).2 enSl_len
         replace G := gd G; obtain ⟨b35, G⟩ := G
         replace G := bnd G; obtain ⟨t36, ht36, G⟩ := G
         replace G := bnd G; obtain ⟨z37, hz37, G⟩ := G
         replace hz37 := Option.some.inj hz37
         by_cases c61 : z37 = true
         ·rw [if_pos c61] at G; subst c61
          refine k_rg mixed H (.v 38 (.slice p_a0 L_a0.length c_a0) <|
   .v 39 (vI x7) <|
   .cons [40] (ok_val (fun u26 => .pointer (some ⟨hdB p_a0, hdO p_a0 + x7.toNat * 1, none⟩)) 40 (hv := fun _ _ => ix_pure (t := 36) (k := .i64) (i := x7) (p := p_a0) (n := L_a0.length) (cap := c_a0) (x := a0) P29 (map_len h_a0) b27 (by kernel_rfl))) <|
   .cons [41] (ok_valL [94] (fun u26 => [rdl anyF 1 p_a0 c_a0 L_a0 enSl]) (fun u26 => .slice p_t28 t28.length c_t28) (fun u26 => true) [true] 41 (fun u26 w hg hF => ld_row (en := enSl) (rdF_of hF.1).2 enSl_len y_t28 0 1 [.slice p_t28 t28.length c_t28] rfl (by kernel_rfl))) <|
   .v 42 (vI x21) <|
   .cons [43] (ok_valL [95] (fun u26 => [dnK anyF E_S_TNode.toPart L_a0]) (fun u26 => .pointer (some ⟨hdB p_t28, hdO p_t28 + x21.toNat * 4, none⟩)) (fun u26 => true) [true, true] 43 (fun u26 w hg hF => ix_row (t := 48) (k := .i64) (i := x21) (p := p_t28) (n := t28.length) (cap := c_t28) (x := t28) (en := en_TNode) (show RowC _ 4 p_t28 t28.length c_t28 (t28.flatMap en_TNode) from ((dn_of hF.1) _ (List.mem_of_getElem? y_t28)).1).2 en_TNode_len rfl b30 (by kernel_rfl))) <|
   .v 44 (.pointer (some ⟨hdB p_t28, hdO p_t28 + x21.toNat * 4 + 0, none⟩)) <|
   .cons [45] (ok_valL [95] (fun u26 => [dnK anyF E_S_TNode.toPart L_a0]) (fun u26 => vI t31.Op) (fun u26 => true) [true] 45 (fun u26 w hg hF => ld_row (en := en_TNode) (show RowC _ 4 p_t28 t28.length c_t28 (t28.flatMap en_TNode) from ((dn_of hF.1) _ (List.mem_of_getElem? y_t28)).1).2 en_TNode_len ht31 0 1 [vI t31.Op] rfl (by kernel_rfl))) <|
   .v 46 (.slice p_a1 L_a1.length c_a1) <|
   .v 47 (vI x7) <|
   .cons [48] (ok_val (fun u26 => .pointer (some ⟨hdB p_a1, hdO p_a1 + x7.toNat * 1, none⟩)) 48 (hv := fun _ _ => ix_pure (t := 36) (k := .i64) (i := x7) (p := p_a1) (n := L_a1.length) (cap := c_a1) (x := a1) P34 (map_len h_a1) b32 (by kernel_rfl))) <|
   .cons [49] (ok_valL [96] (fun u26 => [rdl anyF 1 p_a1 c_a1 L_a1 enSl]) (fun u26 => .slice p_t33 t33.length c_t33) (fun u26 => true) [true] 49 (fun u26 w hg hF => ld_row (en := enSl) (rdF_of hF.1).2 enSl_len y_t33 0 1 [.slice p_t33 t33.length c_t33] rfl (by kernel_rfl))) <|
   .v 50 (vI x21) <|
   .cons [51] (ok_valL [97] (fun u26 => [dnK anyF E_S_TNode.toPart L_a1]) (fun u26 => .pointer (some ⟨hdB p_t33, hdO p_t33 + x21.toNat * 4, none⟩)) (fun u26 => true) [true, true] 51 (fun u26 w hg hF => ix_row (t := 48) (k := .i64) (i := x21) (p := p_t33) (n := t33.length) (cap := c_t33) (x := t33) (en := en_TNode) (show RowC _ 4 p_t33 t33.length c_t33 (t33.flatMap en_TNode) from ((dn_of hF.1) _ (List.mem_of_getElem? y_t33)).1).2 en_TNode_len rfl b35 (by kernel_rfl))) <|
   .v 52 (.pointer (some ⟨hdB p_t33, hdO p_t33 + x21.toNat * 4 + 0, none⟩)) <|
   .cons [53] (ok_valL [97] (fun u26 => [dnK anyF E_S_TNode.toPart L_a1]) (fun u26 => vI t36.Op) (fun u26 => true) [true] 53 (fun u26 w hg hF => ld_row (en := en_TNode) (show RowC _ 4 p_t33 t33.length c_t33 (t33.flatMap en_TNode) from ((dn_of hF.1) _ (List.mem_of_getElem? y_t33)).1).2 en_TNode_len ht36 0 1 [vI t36.Op] rfl (by kernel_rfl))) <|
   .v 54 (.bool (t31.Op != t36.Op)) <|
   .cons [55] (ok_as (u' := fun u26 => [(55, sB true)]) (ok_val (fun u26 => .bool (t31.Op != t36.Op)) 55) (fun _ => by rw [hz37])) <|
   .cons [56] (ok_offB 56) <|
   .cons [57] (ok_offB 57) <|
   .cons [58] (ok_offB 58) <|
   .cons [59] (ok_offB 59) <|
   .cons [60] (ok_offB 60) <|
   .cons [61] (ok_offB 61) <|
   .cons [62] (ok_offB 62) <|
   .cons [63] (ok_offB 63) <|
   .cons [64] (ok_offB 64) <|
   .cons [65] (ok_offB 65) <|
   .cons [66] (ok_offB 66) <|
   .cons [67] (ok_offB 67) <|
   .cons [68] (ok_offB 68) <|
   .cons [69] (ok_offB 69) <|
   .cons [70] (ok_offB 70) <|
   .cons [71] (ok_offB 71) <|
   .cons [72] (ok_offB 72) <|
   .cons [73] (ok_pickK (fun u26 => .bool true) 73) <|
   .v 74 (.bool true) <|
   .cons [75] (ok_offB 75) <|
   .cons [76] (ok_offB 76) <|
   .cons [77] (ok_offB 77) <|
   .cons [78] (ok_offB 78) <|
   .cons [79] (ok_offB 79) <|
   .cons [80] (ok_offB 80) <|
   .cons [81] (ok_offB 81) <|
   .cons [82] (ok_offB 82) <|
   .cons [83] (ok_offB 83) <|
   .cons [84] (ok_offB 84) <|
   .cons [85] (ok_offB 85) <|
   .cons [86] (ok_offB 86) <|
   .cons [87] (ok_offB 87) <|
   .cons [88] (ok_offB 88) <|
   .cons [89] (ok_offB 89) <|
   .cons [90] (ok_offB 90) <|
   .cons [91] (ok_offB 91) <|
   .cons [92] (ok_offB 92) <|
   .cons [93] (ok_pickK (fun u26 => .bool true) 93) <| .nil) fun u26 a w' H => ?_
          replace H := H.kp [0, 1, 5, 6, 56, 57, 58, 59, 60, 61, 62, 63, 64, 65, 66, 67, 68, 69, 70, 71, 72, 75, 76, 77, 78, 79, 80, 81, 82, 83, 84, 85, 86, 87, 88, 89, 90, 91, 92, 93, 94, 95, 96, 97]
          refine k_cond_true H (by kernel_rfl) (by kernel_rfl) ?_
          refine k_seq ?_
          refine k_rg mixed H (.v 4 (.bool false) <| .nil) fun u38 a w' H => ?_
          replace H := H.kp [4]
          refine k_ret ?_
          obtain rfl := Option.some.inj G
          replace G := Gj10
          obtain rfl := Option.some.inj G
          replace G := Gj4
          obtain rfl := Option.some.inj G
          exact k_done0 H _ (by kernel_rfl) (by kernel_rfl)
         rw [if_neg c61] at G
         by_cases c62 : z37 = false
         ·rw [if_pos c62] at G; subst c62
          replace G := gd G; obtain ⟨b38, G⟩ := G
          replace G := bnd G; obtain ⟨t39, ht39, G⟩ := G
          obtain ⟨p_t39, c_t39, y_t39⟩ := sl_get h_a0 ht39
          replace G := gd G; obtain ⟨b40, G⟩ := G
          replace G := bnd G; obtain ⟨t41, ht41, G⟩ := G
          replace G := gd G; obtain ⟨b42, G⟩ := G
          replace G := bnd G; obtain ⟨t43, ht43, G⟩ := G
          obtain ⟨p_t43, c_t43, y_t43⟩ := sl_get h_a1 ht43
          replace G := gd G; obtain ⟨b44, G⟩ := G
          replace G := bnd G; obtain ⟨t45, ht45, G⟩ := G
          replace G := bnd G; obtain ⟨z46, hz46, G⟩ := G
          replace hz46 := Option.some.inj hz46
          by_cases c59 : z46 = true
          ·rw [if_pos c59] at G; subst c59
           refine k_rg mixed H (.v 38 (.slice p_a0 L_a0.length c_a0) <|
   .v 39 (vI x7) <|
   .cons [40] (ok_val (fun u26 => .pointer (some ⟨hdB p_a0, hdO p_a0 + x7.toNat * 1, none⟩)) 40 (hv := fun _ _ => ix_pure (t := 36) (k := .i64) (i := x7) (p := p_a0) (n := L_a0.length) (cap := c_a0) (x := a0) P29 (map_len h_a0) b27 (by kernel_rfl))) <|
   .cons [41] (ok_valL [94] (fun u26 => [rdl anyF 1 p_a0 c_a0 L_a0 enSl]) (fun u26 => .slice p_t28 t28.length c_t28) (fun u26 => true) [true] 41 (fun u26 w hg hF => ld_row (en := enSl) (rdF_of hF.1).2 enSl_len y_t28 0 1 [.slice p_t28 t28.length c_t28] rfl (by kernel_rfl))) <|
   .v 42 (vI x21) <|
   .cons [43] (ok_valL [95] (fun u26 => [dnK anyF E_S_TNode.toPart L_a0]) (fun u26 => .pointer (some ⟨hdB p_t28, hdO p_t28 + x21.toNat * 4, none⟩)) (fun u26 => true) [true, true] 43 (fun u26 w hg hF => ix_row (t := 48) (k := .i64) (i := x21) (p := p_t28) (n := t28.length) (cap := c_t28) (x := t28) (en := en_TNode) (show RowC _ 4 p_t28 t28.length c_t28 (t28.flatMap en_TNode) from ((dn_of hF.1) _ (List.mem_of_getElem? y_t28)).1).2 en_TNode_len rfl b30 (by kernel_rfl))) <|
   .v 44 (.pointer (some ⟨hdB p_t28, hdO p_t28 + x21.toNat * 4 + 0, none⟩)) <|
   .cons [45] (ok_valL [95] (fun u26 => [dnK anyF E_S_TNode.toPart L_a0]) (fun u26 => vI t31.Op) (fun u26 => true) [true] 45 (fun u26 w hg hF => ld_row (en := en_TNode) (show RowC _ 4 p_t28 t28.length c_t28 (t28.flatMap en_TNode) from ((dn_of hF.1) _ (List.mem_of_getElem? y_t28)).1).2 en_TNode_len ht31 0 1 [vI t31.Op] rfl (by kernel_rfl))) <|
   .v 46 (.slice p_a1 L_a1.length c_a1) <|
   .v 47 (vI x7) <|
   .cons [48] (ok_val (fun u26 => .pointer (some ⟨hdB p_a1, hdO p_a1 + x7.toNat * 1, none⟩)) 48 (hv := fun _ _ => ix_pure (t := 36) (k := .i64) (i := x7) (p := p_a1) (n := L_a1.length) (cap := c_a1) (x := a1) P34 (map_len h_a1) b32 (by kernel_rfl))) <|
   .cons [49] (ok_valL [96] (fun u26 => [rdl anyF 1 p_a1 c_a1 L_a1 enSl]) (fun u26 => .slice p_t33 t33.length c_t33) (fun u26 => true) [true] 49 (fun u26 w hg hF => ld_row (en := enSl) (rdF_of hF.1).2 enSl_len y_t33 0 1 [.slice p_t33 t33.length c_t33] rfl (by kernel_rfl))) <|
   .v 50 (vI x21) <|
   .cons [51] (ok_valL [97] (fun u26 => [dnK anyF E_S_TNode.toPart L_a1]) (fun u26 => .pointer (some ⟨hdB p_t33, hdO p_t33 + x21.toNat * 4, none⟩)) (fun u26 => true) [true, true] 51 (fun u26 w hg hF => ix_row (t := 48) (k := .i64) (i := x21) (p := p_t33) (n := t33.length) (cap := c_t33) (x := t33) (en := en_TNode) (show RowC _ 4 p_t33 t33.length c_t33 (t33.flatMap en_TNode) from ((dn_of hF.1) _ (List.mem_of_getElem? y_t33)).1).2 en_TNode_len rfl b35 (by kernel_rfl))) <|
   .v 52 (.pointer (some ⟨hdB p_t33, hdO p_t33 + x21.toNat * 4 + 0, none⟩)) <|
   .cons [53] (ok_valL [97] (fun u26 => [dnK anyF E_S_TNode.toPart L_a1]) (fun u26 => vI t36.Op) (fun u26 => true) [true] 53 (fun u26 w hg hF => ld_row (en := en_TNode) (show RowC _ 4 p_t33 t33.length c_t33 (t33.flatMap en_TNode) from ((dn_of hF.1) _ (List.mem_of_getElem? y_t33)).1).2 en_TNode_len ht36 0 1 [vI t36.Op] rfl (by kernel_rfl))) <|
   .v 54 (.bool (t31.Op != t36.Op)) <|
   .cons [55] (ok_as (u' := fun u26 => [(55, sB false)]) (ok_val (fun u26 => .bool (t31.Op != t36.Op)) 55) (fun _ => by rw [hz37])) <|
   .cons [56] (ok_gd (ok_val (fun u26 => .slice p_a0 L_a0.length c_a0) 56) (by intro _; kernel_rfl)) <|
   .cons [57] (ok_gd (ok_val (fun u26 => vI x7) 57) (by intro _; kernel_rfl)) <|
   .cons [58] (ok_gd (ok_val (fun u26 => .pointer (some ⟨hdB p_a0, hdO p_a0 + x7.toNat * 1, none⟩)) 58 (hv := fun _ _ => ix_pure (t := 36) (k := .i64) (i := x7) (p := p_a0) (n := L_a0.length) (cap := c_a0) (x := a0) P29 (map_len h_a0) b38 (by kernel_rfl))) (by intro _; kernel_rfl)) <|
   .cons [59] (ok_gd (ok_valL [94] (fun u26 => [rdl anyF 1 p_a0 c_a0 L_a0 enSl]) (fun u26 => .slice p_t39 t39.length c_t39) (fun u26 => true) [true] 59 (fun u26 w hg hF => ld_row (en := enSl) (rdF_of hF.1).2 enSl_len y_t39 0 1 [.slice p_t39 t39.length c_t39] rfl (by kernel_rfl))) (by intro _; kernel_rfl)) <|
   .cons [60] (ok_gd (ok_val (fun u26 => vI x21) 60) (by intro _; kernel_rfl)) <|
   .cons [61] (ok_gd (ok_valL [95] (fun u26 => [dnK anyF E_S_TNode.toPart L_a0]) (fun u26 => .pointer (some ⟨hdB p_t39, hdO p_t39 + x21.toNat * 4, none⟩)) (fun u26 => true) [true, true] 61 (fun u26 w hg hF => ix_row (t := 48) (k := .i64) (i := x21) (p := p_t39) (n := t39.length) (cap := c_t39) (x := t39) (en := en_TNode) (show RowC _ 4 p_t39 t39.length c_t39 (t39.flatMap en_TNode) from ((dn_of hF.1) _ (List.mem_of_getElem? y_t39)).1).2 en_TNode_len rfl b40 (by kernel_rfl))) (by intro _; kernel_rfl)) <|
   .cons [62] (ok_gd (ok_val (fun u26 => .pointer (some ⟨hdB p_t39, hdO p_t39 + x21.toNat * 4 + 1, none⟩)) 62) (by intro _; kernel_rfl)) <|
   .cons [63] (ok_gd (ok_valL [95] (fun u26 => [dnK anyF E_S_TNode.toPart L_a0]) (fun u26 => vI t41.N) (fun u26 => true) [true] 63 (fun u26 w hg hF => ld_row (en := en_TNode) (show RowC _ 4 p_t39 t39.length c_t39 (t39.flatMap en_TNode) from ((dn_of hF.1) _ (List.mem_of_getElem? y_t39)).1).2 en_TNode_len ht41 1 1 [vI t41.N] rfl (by kernel_rfl))) (by intro _; kernel_rfl)) <|
   .cons [64] (ok_gd (ok_val (fun u26 => .slice p_a1 L_a1.length c_a1) 64) (by intro _; kernel_rfl)) <|
   .cons [65] (ok_gd (ok_val (fun u26 => vI x7) 65) (by intro _; kernel_rfl)) <|
   .cons [66] (ok_gd (ok_val (fun u26 => .pointer (some ⟨hdB p_a1, hdO p_a1 + x7.toNat * 1, none⟩)) 66 (hv := fun _ _ => ix_pure (t := 36) (k := .i64) (i := x7) (p := p_a1) (n := L_a1.length) (cap := c_a1) (x := a1) P34 (map_len h_a1) b42 (by kernel_rfl))) (by intro _; kernel_rfl)) <|
   .cons [67] (ok_gd (ok_valL [96] (fun u26 => [rdl anyF 1 p_a1 c_a1 L_a1 enSl]) (fun u26 => .slice p_t43 t43.length c_t43) (fun u26 => true) [true] 67 (fun u26 w hg hF => ld_row (en := enSl) (rdF_of hF.1).2 enSl_len y_t43 0 1 [.slice p_t43 t43.length c_t43] rfl (by kernel_rfl))) (by intro _; kernel_rfl)) <|
   .cons [68] (ok_gd (ok_val (fun u26 => vI x21) 68) (by intro _; kernel_rfl)) <|
   .cons [69] (ok_gd (ok_valL [97] (fun u26 => [dnK anyF E_S_TNode.toPart L_a1]) (fun u26 => .pointer (some ⟨hdB p_t43, hdO p_t43 + x21.toNat * 4, none⟩)) (fun u26 => true) [true, true] 69 (fun u26 w hg hF => ix_row (t := 48) (k := .i64) (i := x21) (p := p_t43) (n := t43.length) (cap := c_t43) (x := t43) (en := en_TNode) (show RowC _ 4 p_t43 t43.length c_t43 (t43.flatMap en_TNode) from ((dn_of hF.1) _ (List.mem_of_getElem? y_t43)).1).2 en_TNode_len rfl b44 (by kernel_rfl))) (by intro _; kernel_rfl)) <|
   .cons [70] (ok_gd (ok_val (fun u26 => .pointer (some ⟨hdB p_t43, hdO p_t43 + x21.toNat * 4 + 1, none⟩)) 70) (by intro _; kernel_rfl)) <|
   .cons [71] (ok_gd (ok_valL [97] (fun u26 => [dnK anyF E_S_TNode.toPart L_a1]) (fun u26 => vI t45.N) (fun u26 => true) [true] 71 (fun u26 w hg hF => ld_row (en := en_TNode) (show RowC _ 4 p_t43 t43.length c_t43 (t43.flatMap en_TNode) from ((dn_of hF.1) _ (List.mem_of_getElem? y_t43)).1).2 en_TNode_len ht45 1 1 [vI t45.N] rfl (by kernel_rfl))) (by intro _; kernel_rfl)) <|
   .cons [72] (ok_gd (ok_val (fun u26 => .bool (t41.N != t45.N)) 72) (by intro _; kernel_rfl)) <|
   .cons [73] (ok_pickK (fun u26 => .bool (t41.N != t45.N)) 73) <|
   .cons [74] (ok_as (u' := fun u26 => [(74, sB true)]) (ok_val (fun u26 => .bool (t41.N != t45.N)) 74) (fun _ => by rw [hz46])) <|
   .cons [75] (ok_offB 75) <|
   .cons [76] (ok_offB 76) <|
   .cons [77] (ok_offB 77) <|
   .cons [78] (ok_offB 78) <|
   .cons [79] (ok_offB 79) <|
   .cons [80] (ok_offB 80) <|
   .cons [81] (ok_offB 81) <|
   .cons [82] (ok_offB 82) <|
   .cons [83] (ok_offB 83) <|
   .cons [84] (ok_offB 84) <|
   .cons [85] (ok_offB 85) <|
   .cons [86] (ok_offB 86) <|
   .cons [87] (ok_offB 87) <|
   .cons [88] (ok_offB 88) <|
   .cons [89] (ok_offB 89) <|
   .cons [90] (ok_offB 90) <|
   .cons [91] (ok_offB 91) <|
   .cons [92] (ok_offB 92) <|
   .cons [93] (ok_pickK (fun u26 => .bool true) 93) <| .nil) fun u26 a w' H => ?_
           replace H := H.kp [0, 1, 5, 6, 56, 57, 58, 59, 60, 61, 62, 63, 64, 65, 66, 67, 68, 69, 70, 71, 72, 75, 76, 77, 78, 79, 80, 81, 82, 83, 84, 85, 86, 87, 88, 89, 90, 91, 92, 93, 94, 95, 96, 97]
           refine k_cond_true H (by kernel_rfl) (by kernel_rfl) ?_
           refine k_seq ?_
           refine k_rg mixed H (.v 4 (.bool false) <| .nil) fun u47 a w' H => ?_
           replace H := H.kp [4]
           refine k_ret ?_
           obtain rfl := Option.some.inj G
           replace G := Gj10
           obtain rfl := Option.some.inj G
           replace G := Gj4
           obtain rfl := Option.some.inj G
           exact k_done0 H _ (by kernel_rfl) (by kernel_rfl)
          rw [if_neg c59] at G
          by_cases c60 : z46 = false
          ·rw [if_pos c60] at G; subst c60
           replace G := gd G; obtain ⟨b47, G⟩ := G
           replace G := bnd G; obtain ⟨t48, ht48, G⟩ := G
           obtain ⟨p_t48, c_t48, y_t48⟩ := sl_get h_a0 ht48
           replace G := gd G; obtain ⟨b49, G⟩ := G
           replace G := bnd G; obtain ⟨t50, ht50, G⟩ := G
           replace G := gd G; obtain ⟨b51, G⟩ := G
           replace G := bnd G; obtain ⟨t52, ht52, G⟩ := G
           obtain ⟨p_t52, c_t52, y_t52⟩ := sl_get h_a1 ht52
           replace G := gd G; obtain ⟨b53, G⟩ := G
           replace G := bnd G; obtain ⟨t54, ht54, G⟩ := G
           replace G := bnd G; obtain ⟨t55, ht55, G⟩ := G
           refine k_rg mixed H (.v 38 (.slice p_a0 L_a0.length c_a0) <|
   .v 39 (vI x7) <|
   .cons [40] (ok_val (fun u26 => .pointer (some ⟨hdB p_a0, hdO p_a0 + x7.toNat * 1, none⟩)) 40 (hv := fun _ _ => ix_pure (t := 36) (k := .i64) (i := x7) (p := p_a0) (n := L_a0.length) (cap := c_a0) (x := a0) P29 (map_len h_a0) b27 (by kernel_rfl))) <|
   .cons [41] (ok_valL [94] (fun u26 => [rdl anyF 1 p_a0 c_a0 L_a0 enSl]) (fun u26 => .slice p_t28 t28.length c_t28) (fun u26 => true) [true] 41 (fun u26 w hg hF => ld_row (en := enSl) (rdF_of hF.1).2 enSl_len y_t28 0 1 [.slice p_t28 t28.length c_t28] rfl (by kernel_rfl))) <|
   .v 42 (vI x21) <|
   .cons [43] (ok_valL [95] (fun u26 => [dnK anyF E_S_TNode.toPart L_a0]) (fun u26 => .pointer (some ⟨hdB p_t28, hdO p_t28 + x21.toNat * 4, none⟩)) (fun u26 => true) [true, true] 43 (fun u26 w hg hF => ix_row (t := 48) (k := .i64) (i := x21) (p := p_t28) (n := t28.length) (cap := c_t28) (x := t28) (en := en_TNode) (show RowC _ 4 p_t28 t28.length c_t28 (t28.flatMap en_TNode) from ((dn_of hF.1) _ (List.mem_of_getElem? y_t28)).1).2 en_TNode_len rfl b30 (by kernel_rfl))) <|
   .v 44 (.pointer (some ⟨hdB p_t28, hdO p_t28 + x21.toNat * 4 + 0, none⟩)) <|
   .cons [45] (ok_valL [95] (fun u26 => [dnK anyF E_S_TNode.toPart L_a0]) (fun u26 => vI t31.Op) (fun u26 => true) [true] 45 (fun u26 w hg hF => ld_row (en := en_TNode) (show RowC _ 4 p_t28 t28.length c_t28 (t28.flatMap en_TNode) from ((dn_of hF.1) _ (List.mem_of_getElem? y_t28)).1).2 en_TNode_len ht31 0 1 [vI t31.Op] rfl (by kernel_rfl))) <|
   .v 46 (.slice p_a1 L_a1.length c_a1) <|
   .v 47 (vI x7) <|
   .cons [48] (ok_val (fun u26 => .pointer (some ⟨hdB p_a1, hdO p_a1 + x7.toNat * 1, none⟩)) 48 (hv := fun _ _ => ix_pure (t := 36) (k := .i64) (i := x7) (p := p_a1) (n := L_a1.length) (cap := c_a1) (x := a1) P34 (map_len h_a1) b32 (by kernel_rfl))) <|
   .cons [49] (ok_valL [96] (fun u26 => [rdl anyF 1 p_a1 c_a1 L_a1 enSl]) (fun u26 => .slice p_t33 t33.length c_t33) (fun u26 => true) [true] 49 (fun u26 w hg hF => ld_row (en := enSl) (rdF_of hF.1).2 enSl_len y_t33 0 1 [.slice p_t33 t33.length c_t33] rfl (by kernel_rfl))) <|
   .v 50 (vI x21) <|
   .cons [51] (ok_valL [97] (fun u26 => [dnK anyF E_S_TNode.toPart L_a1]) (fun u26 => .pointer (some ⟨hdB p_t33, hdO p_t33 + x21.toNat * 4, none⟩)) (fun u26 => true) [true, true] 51 (fun u26 w hg hF => ix_row (t := 48) (k := .i64) (i := x21) (p := p_t33) (n := t33.length) (cap := c_t33) (x := t33) (en := en_TNode) (show RowC _ 4 p_t33 t33.length c_t33 (t33.flatMap en_TNode) from ((dn_of hF.1) _ (List.mem_of_getElem? y_t33)).1).2 en_TNode_len rfl b35 (by kernel_rfl))) <|
   .v 52 (.pointer (some ⟨hdB p_t33, hdO p_t33 + x21.toNat * 4 + 0, none⟩)) <|
   .cons [53] (ok_valL [97] (fun u26 => [dnK anyF E_S_TNode.toPart L_a1]) (fun u26 => vI t36.Op) (fun u26 => true) [true] 53 (fun u26 w hg hF => ld_row (en := en_TNode) (show RowC _ 4 p_t33 t33.length c_t33 (t33.flatMap en_TNode) from ((dn_of hF.1) _ (List.mem_of_getElem? y_t33)).1).2 en_TNode_len ht36 0 1 [vI t36.Op] rfl (by kernel_rfl))) <|
   .v 54 (.bool (t31.Op != t36.Op)) <|
   .cons [55] (ok_as (u' := fun u26 => [(55, sB false)]) (ok_val (fun u26 => .bool (t31.Op != t36.Op)) 55) (fun _ => by rw [hz37])) <|
   .cons [56] (ok_gd (ok_val (fun u26 => .slice p_a0 L_a0.length c_a0) 56) (by intro _; kernel_rfl)) <|
   .cons [57] (ok_gd (ok_val (fun u26 => vI x7) 57) (by intro _; kernel_rfl)) <|
   .cons [58] (ok_gd (ok_val (fun u26 => .pointer (some ⟨hdB p_a0, hdO p_a0 + x7.toNat * 1, none⟩)) 58 (hv := fun _ _ => ix_pure (t := 36) (k := .i64) (i := x7) (p := p_a0) (n := L_a0.length) (cap := c_a0) (x := a0) P29 (map_len h_a0) b38 (by kernel_rfl))) (by intro _; kernel_rfl)) <|
   .cons [59] (ok_gd (ok_valL [94] (fun u26 => [rdl anyF 1 p_a0 c_a0 L_a0 enSl]) (fun u26 => .slice p_t39 t39.length c_t39) (fun u26 => true) [true] 59 (fun u26 w hg hF => ld_row (en := enSl) (rdF_of hF.1).2 enSl_len y_t39 0 1 [.slice p_t39 t39.length c_t39] rfl (by kernel_rfl))) (by intro _; kernel_rfl)) <|
   .cons [60] (ok_gd (ok_val (fun u26 => vI x21) 60) (by intro _; kernel_rfl)) <|
   .cons [61] (ok_gd (ok_valL [95] (fun u26 => [dnK anyF E_S_TNode.toPart L_a0]) (fun u26 => .pointer (some ⟨hdB p_t39, hdO p_t39 + x21.toNat * 4, none⟩)) (fun u26 => true) [true, true] 61 (fun u26 w hg hF => ix_row (t := 48) (k := .i64) (i := x21) (p := p_t39) (n := t39.length) (cap := c_t39) (x := t39) (en := en_TNode) (show RowC _ 4 p_t39 t39.length c_t39 (t39.flatMap en_TNode) from ((dn_of hF.1) _ (List.mem_of_getElem? y_t39)).1).2 en_TNode_len rfl b40 (by kernel_rfl))) (by intro _; kernel_rfl)) <|
   .cons [62] (ok_gd (ok_val (fun u26 => .pointer (some ⟨hdB p_t39, hdO p_t39 + x21.toNat * 4 + 1, none⟩)) 62) (by intro _; kernel_rfl)) <|
   .cons [63] (ok_gd (ok_valL [95] (fun u26 => [dnK anyF E_S_TNode.toPart L_a0]) (fun u26 => vI t41.N) (fun u26 => true) [true] 63 (fun u26 w hg hF => ld_row (en := en_TNode) (show RowC _ 4 p_t39 t39.length c_t39 (t39.flatMap en_TNode) from ((dn_of hF.1) _ (List.mem_of_getElem? y_t39)).1).2 en_TNode_len ht41 1 1 [vI t41.N] rfl (by kernel_rfl))) (by intro _; kernel_rfl)) <|
   .cons [64] (ok_gd (ok_val (fun u26 => .slice p_a1 L_a1.length c_a1) 64) (by intro _; kernel_rfl)) <|
   .cons [65] (ok_gd (ok_val (fun u26 => vI x7) 65) (by intro _; kernel_rfl)) <|
   .cons [66] (ok_gd (ok_val (fun u26 => .pointer (some ⟨hdB p_a1, hdO p_a1 + x7.toNat * 1, none⟩)) 66 (hv := fun _ _ => ix_pure (t := 36) (k := .i64) (i := x7) (p := p_a1) (n := L_a1.length) (cap := c_a1) (x := a1) P34 (map_len h_a1) b42 (by kernel_rfl))) (by intro _; kernel_rfl)) <|
   .cons [67] (ok_gd (ok_valL [96] (fun u26 => [rdl anyF 1 p_a1 c_a1 L_a1 enSl]) (fun u26 => .slice p_t43 t43.length c_t43) (fun u26 => true) [true] 67 (fun u26 w hg hF => ld_row (en := enSl) (rdF_of hF.1).2 enSl_len y_t43 0 1 [.slice p_t43 t43.length c_t43] rfl (by kernel_rfl))) (by intro _; kernel_rfl)) <|
   .cons [68] (ok_gd (ok_val (fun u26 => vI x21) 68) (by intro _; kernel_rfl)) <|
   .cons [69] (ok_gd (ok_valL [97] (fun u26 => [dnK anyF E_S_TNode.toPart L_a1]) (fun u26 => .pointer (some ⟨hdB p_t43, hdO p_t43 + x21.toNat * 4, none⟩)) (fun u26 => true) [true, true] 69 (fun u26 w hg hF => ix_row (t := 48) (k := .i64) (i := x21) (p := p_t43) (n := t43.length) (cap := c_t43) (x := t43) (en := en_TNode) (show RowC _ 4 p_t43 t43.length c_t43 (t43.flatMap en_TNode) from ((dn_of hF.1) _ (List.mem_of_getElem? y_t43)).1).2 en_TNode_len rfl b44 (by kernel_rfl))) (by intro _; kernel_rfl)) <|
   .cons [70] (ok_gd (ok_val (fun u26 => .pointer (some ⟨hdB p_t43, hdO p_t43 + x21.toNat * 4 + 1, none⟩)) 70) (by intro _; kernel_rfl)) <|
   .cons [71] (ok_gd (ok_valL [97] (fun u26 => [dnK anyF E_S_TNode.toPart L_a1]) (fun u26 => vI t45.N) (fun u26 => true) [true] 71 (fun u26 w hg hF => ld_row (en := en_TNode) (show RowC _ 4 p_t43 t43.length c_t43 (t43.flatMap en_TNode) from ((dn_of hF.1) _ (List.mem_of_getElem? y_t43)).1).2 en_TNode_len ht45 1 1 [vI t45.N] rfl (by kernel_rfl))) (by intro _; kernel_rfl)) <|
   .cons [72] (ok_gd (ok_val (fun u26 => .bool (t41.N != t45.N)) 72) (by intro _; kernel_rfl)) <|
   .cons [73] (ok_pickK (fun u26 => .bool (t41.N != t45.N)) 73) <|
   .cons [74] (ok_as (u' := fun u26 => [(74, sB false)]) (ok_val (fun u26 => .bool (t41.N != t45.N)) 74) (fun _ => by rw [hz46])) <|
   .cons [75] (ok_gd (ok_val (fun u26 => .slice p_a0 L_a0.length c_a0) 75) (by intro _; kernel_rfl)) <|
   .cons [76] (ok_gd (ok_val (fun u26 => vI x7) 76) (by intro _; kernel_rfl)) <|
   .cons [77] (ok_gd (ok_val (fun u26 => .pointer (some ⟨hdB p_a0, hdO p_a0 + x7.toNat * 1, none⟩)) 77 (hv := fun _ _ => ix_pure (t := 36) (k := .i64) (i := x7) (p := p_a0) (n := L_a0.length) (cap := c_a0) (x := a0) P29 (map_len h_a0) b47 (by kernel_rfl))) (by intro _; kernel_rfl)) <|
   .cons [78] (ok_gd (ok_valL [94] (fun u26 => [rdl anyF 1 p_a0 c_a0 L_a0 enSl]) (fun u26 => .slice p_t48 t48.length c_t48) (fun u26 => true) [true] 78 (fun u26 w hg hF => ld_row (en := enSl) (rdF_of hF.1).2 enSl_len y_t48 0 1 [.slice p_t48 t48.length c_t48] rfl (by kernel_rfl))) (by intro _; kernel_rfl)) <|
   .cons [79] (ok_gd (ok_val (fun u26 => vI x21) 79) (by intro _; kernel_rfl)) <|
   .cons [80] (ok_gd (ok_valL [95] (fun u26 => [dnK anyF E_S_TNode.toPart L_a0]) (fun u26 => .pointer (some ⟨hdB p_t48, hdO p_t48 + x21.toNat * 4, none⟩)) (fun u26 => true) [true, true] 80 (fun u26 w hg hF => ix_row (t := 48) (k := .i64) (i := x21) (p := p_t48) (n := t48.length) (cap := c_t48) (x := t48) (en := en_TNode) (show RowC _ 4 p_t48 t48.length c_t48 (t48.flatMap en_TNode) from ((dn_of hF.1) _ (List.mem_of_getElem? y_t48)).1).2 en_TNode_len rfl b49 (by kernel_rfl))) (by intro _; kernel_rfl)) <|
   .cons [81] (ok_gd (ok_val (fun u26 => .pointer (some ⟨hdB p_t48, hdO p_t48 + x21.toNat * 4 + 2, none⟩)) 81) (by intro _; kernel_rfl)) <|
   .cons [82] (ok_gd (ok_valL [95] (fun u26 => [dnK anyF E_S_TNode.toPart L_a0]) (fun u26 => .agg #[vI t50.C.Lo, vI t50.C.Hi]) (fun u26 => true) [true] 82 (fun u26 w hg hF => ld_row (en := en_TNode) (show RowC _ 4 p_t48 t48.length c_t48 (t48.flatMap en_TNode) from ((dn_of hF.1) _ (List.mem_of_getElem? y_t48)).1).2 en_TNode_len ht50 2 2 [vI t50.C.Lo, vI t50.C.Hi] rfl (by kernel_rfl))) (by intro _; kernel_rfl)) <|
   .cons [83] (ok_gd (ok_val (fun u26 => .slice p_a1 L_a1.length c_a1) 83) (by intro _; kernel_rfl)) <|
   .cons [84] (ok_gd (ok_val (fun u26 => vI x7) 84) (by intro _; kernel_rfl)) <|
   .cons [85] (ok_gd (ok_val (fun u26 => .pointer (some ⟨hdB p_a1, hdO p_a1 + x7.toNat * 1, none⟩)) 85 (hv := fun _ _ => ix_pure (t := 36) (k := .i64) (i := x7) (p := p_a1) (n := L_a1.length) (cap := c_a1) (x := a1) P34 (map_len h_a1) b51 (by kernel_rfl))) (by intro _; kernel_rfl)) <|
   .cons [86] (ok_gd (ok_valL [96] (fun u26 => [rdl anyF 1 p_a1 c_a1 L_a1 enSl]) (fun u26 => .slice p_t52 t52.length c_t52) (fun u26 => true) [true] 86 (fun u26 w hg hF => ld_row (en := enSl) (rdF_of hF.1).2 enSl_len y_t52 0 1 [.slice p_t52 t52.length c_t52] rfl (by kernel_rfl))) (by intro _; kernel_rfl)) <|
   .cons [87] (ok_gd (ok_val (fun u26 => vI x21) 87) (by intro _; kernel_rfl)) <|
   .cons [88] (ok_gd (ok_valL [97] (fun u26 => [dnK anyF E_S_TNode.toPart L_a1]) (fun u26 => .pointer (some ⟨hdB p_t52, hdO p_t52 + x21.toNat * 4, none⟩)) (fun u26 => true) [true, true] 88 (fun u26 w hg hF => ix_row (t := 48) (k := .i64) (i := x21) (p := p_t52) (n := t52.length) (cap := c_t52) (x := t52) (en := en_TNode) (show RowC _ 4 p_t52 t52.length c_t52 (t52.flatMap en_TNode) from ((dn_of hF.1) _ (List.mem_of_getElem? y_t52)).1).2 en_TNode_len rfl b53 (by kernel_rfl))) (by intro _; kernel_rfl)) <|
   .cons [89] (ok_gd (ok_val (fun u26 => .pointer (some ⟨hdB p_t52, hdO p_t52 + x21.toNat * 4 + 2, none⟩)) 89) (by intro _; kernel_rfl)) <|
   .cons [90] (ok_gd (ok_valL [97] (fun u26 => [dnK anyF E_S_TNode.toPart L_a1]) (fun u26 => .agg #[vI t54.C.Lo, vI t54.C.Hi]) (fun u26 => true) [true] 90 (fun u26 w hg hF => ld_row (en := en_TNode) (show RowC _ 4 p_t52 t52.length c_t52 (t52.flatMap en_TNode) from ((dn_of hF.1) _ (List.mem_of_getElem? y_t52)).1).2 en_TNode_len ht54 2 2 [vI t54.C.Lo, vI t54.C.Hi] rfl (by kernel_rfl))) (by intro _; kernel_rfl)) <|
   .cons [91] (ok_gd (ok_callv 28 (fun u26 => #[.agg #[vI t50.C.Lo, vI t50.C.Hi], .agg #[vI t54.C.Lo, vI t54.C.Hi]]) (.bool t55) 91 [] (fun u26 w _ => armillaryref02_Same.calls (⟨t50.C.Lo, t50.C.Hi⟩ : TInterval) (⟨t54.C.Lo, t54.C.Hi⟩ : TInterval)  t55 w  ht55)) (by intro _; kernel_rfl)) <|
   .cons [92] (ok_gd (ok_val (fun u26 => .bool (!t55)) 92) (by intro _; kernel_rfl)) <|
   .cons [93] (ok_pickK (fun u26 => .bool (!t55)) 93) <| .nil) fun u26 a w' H => ?_
           replace H := H.kp [0, 1, 5, 6, 56, 57, 58, 59, 60, 61, 62, 63, 64, 65, 66, 67, 68, 69, 70, 71, 72, 75, 76, 77, 78, 79, 80, 81, 82, 83, 84, 85, 86, 87, 88, 89, 90, 91, 92, 93, 94, 95, 96, 97]
           refine k_cond H (by kernel_rfl) (t := (!t55)) (by kernel_rfl) (fun c58 => ?_) (fun c58 => ?_)
           ·rw [if_pos c58] at G
            refine k_seq ?_
            refine k_rg mixed H (.v 4 (.bool false) <| .nil) fun u56 a w' H => ?_
            replace H := H.kp [4]
            refine k_ret ?_
            obtain rfl := Option.some.inj G
            replace G := Gj10
            obtain rfl := Option.some.inj G
            replace G := Gj4
            obtain rfl := Option.some.inj G
            exact k_done0 H _ (by kernel_rfl) (by kernel_rfl)
           ·rw [if_neg (nt c58)] at G
            refine k_skip ?_
            refine k_rg mixed H (.v 36 (vI x21) <|
   .v 37 (vI (w_i64 (x21 + 1))) <|
   .v 6 (vI (w_i64 (x21 + 1))) <| .nil) fun u57 a w' H => ?_
            replace H := H.kp [0, 1, 5, 6, 56, 57, 58, 59, 60, 61, 62, 63, 64, 65, 66, 67, 68, 69, 70, 71, 72, 75, 76, 77, 78, 79, 80, 81, 82, 83, 84, 85, 86, 87, 88, 89, 90, 91, 92, 94, 95, 96, 97]
            exact ⟨k, Nat.lt_succ_self k, _, G, H.toL _ (by kernel_rfl)⟩
          rw [if_neg c60] at G
          cases G
         rw [if_neg c62] at G
         cases G
        ·rw [if_neg (nt c63)] at G
         refine k_exit rfl ?_
         obtain rfl := Option.some.inj G
         exact ⟨_, rfl, H.toL _ (by kernel_rfl)⟩
    ·rw [if_neg (nt c65)] at G
     refine k_exit rfl ?_
     obtain rfl := Option.some.inj G
     exact ⟨_, rfl, H.toL _ (by kernel_rfl)⟩
set_option maxHeartbeats 4000000 in
theorem tape_Decompile_1_m.calls : ∀ (k0 : Nat) (a0 : List TNode) (a1 : Int) (q0 : TTape) (p_a0 : Option Addr) (c_a0 : Nat) (b_q0 : Nat) (p_q0_L : Option Addr) (c_q0_L : Nat) (p_q0_Out : Option Addr) (c_q0_Out : Nat) (b_q1 : Nat) (r : List TNode) (w : World) (hB : AllH [rdl anyF 5 p_q0_L c_q0_L q0.L en_TInstruction, rdl anyF 1 p_q0_Out c_q0_Out q0.Out en_i64, bxK b_q0 [vI q0.N, .slice p_q0_L q0.L.length c_q0_L, .slice p_q0_Out q0.Out.length c_q0_Out] 25, bxK b_q1 [.func (.func 37) #[] #[vP b_q0 0, vP b_q1 0]] 79, gk] w) (hM : OwnH [owK 47 4 p_a0 a0.length c_a0 (a0.flatMap en_TNode)] ([rdl anyF 5 p_q0_L c_q0_L q0.L en_TInstruction, rdl anyF 1 p_q0_Out c_q0_Out q0.Out en_i64, bxK b_q0 [vI q0.N, .slice p_q0_L q0.L.length c_q0_L, .slice p_q0_Out q0.Out.length c_q0_Out] 25, bxK b_q1 [.func (.func 37) #[] #[vP b_q0 0, vP b_q1 0]] 79, gk] ++ []) w) (G : tape_Decompile_1_m k0 a0 a1 q0 = some r),
  Calls Tryd.prog 37 #[.slice p_a0 a0.length c_a0, vI a1, vP b_q0 0, vP b_q1 0] w fun e w' => ∃ g : Gh, e = .returned (.slice (g.o 0) r.length (g.n 0)) ∧ But (fpK [owK 47 4 p_a0 a0.length c_a0 (a0.flatMap en_TNode)]) w w' ∧ OutOK w.heap.size (fpK [owK 47 4 p_a0 a0.length c_a0 (a0.flatMap en_TNode)]) (frI w.heap.size []) [fun _ => owK 47 4 (g.o 0) r.length (g.n 0) (r.flatMap en_TNode)] w' := by
 intro k0
 induction k0 with
 | zero => intros; rename_i G; exact absurd G (by unfold tape_Decompile_1_m; exact fun h => by cases h)
 | succ k0 IH => ?_
 intro a0 a1 q0 p_a0 c_a0 b_q0 p_q0_L c_q0_L p_q0_Out c_q0_Out b_q1 r w hB hM G
 obtain ⟨fr, hfr⟩ : ∃ fr : Nat → Prop, fr = frI w.heap.size [] := ⟨_, rfl⟩
 have hBf : ∀ j, w.heap.size ≤ j → fr j := fun j h => by rw [hfr]; exact .inl h
 refine k_enterY (args := [.slice p_a0 a0.length c_a0, vI a1, vP b_q0 0, vP b_q1 0]) 48 [(50, rdl anyF 5 p_q0_L c_q0_L q0.L en_TInstruction), (51, rdl anyF 1 p_q0_Out c_q0_Out q0.Out en_i64), (49, bxK b_q0 [vI q0.N, .slice p_q0_L q0.L.length c_q0_L, .slice p_q0_Out q0.Out.length c_q0_Out] 25), (52, bxK b_q1 [.func (.func 37) #[] #[vP b_q0 0, vP b_q1 0]] 79), (999999, gk)] [(48, owK 47 4 p_a0 a0.length c_a0 (a0.flatMap en_TNode))] (ownH_fps hM (by rfl)) (by
  intro x hx
  simp only [List.mem_cons, List.not_mem_nil, or_false] at hx
  rcases hx with rfl | rfl | rfl | rfl | rfl
  ·exact rdF_fact (rdF_of hB.1) (fun _ _ => trivial) (by decide) _
  ·exact rdF_fact (rdF_of hB.2.1) (fun _ _ => trivial) (by decide) _
  ·exact bx_fact (hB.2.2.1 w (agree.refl _ _)) _
  ·exact bx_fact (hB.2.2.2.1 w (agree.refl _ _)) _
  ·exact ⟨⟨_, _, rfl⟩, hB.2.2.2.2.1, glob_in (glob_of hB.2.2.2.2.1)⟩) (by rfl) Tryd.func37 rfl (by kernel_rfl) (by kernel_rfl) fun a H => ?_
 unfold tape_Decompile_1_m at G
 generalize tape_Decompile_1_m k0 = rec at G IH
 unfold tape_Decompile_1_m.body at G
 refine k_seq ?_
 refine k_rg mixed H (.v 6 (.slice none 0 0) <| .nil) fun u1 a w' H => ?_
 replace H := H.kp [0, 1, 2, 3, 48, 50, 51, 49, 52, 999999, 999998]
 refine k_seq ?_
 replace G := gd G; obtain ⟨b3, G⟩ := G
 replace G := bnd G; obtain ⟨t4, ht4, G⟩ := G
 refine k_rg mixed H (.v 9 (vP b_q0 1) <|
   .cons [10] (ok_ldK (fun u2 => .slice p_q0_L q0.L.length c_q0_L) 10 49 (bxK b_q0 [vI q0.N, .slice p_q0_L q0.L.length c_q0_L, .slice p_q0_Out q0.Out.length c_q0_Out] 25) b_q0 1 1 [vI q0.N, .slice p_q0_L q0.L.length c_q0_L, .slice p_q0_Out q0.Out.length c_q0_Out] (fun w h => bx_of h)) <|
   .v 11 (vI a1) <|
   .cons [12] (ok_valL [50] (fun u2 => [rdl anyF 5 p_q0_L c_q0_L q0.L en_TInstruction]) (fun u2 => .pointer (some ⟨hdB p_q0_L, hdO p_q0_L + a1.toNat * 5, none⟩)) (fun u2 => true) [true, true] 12 (fun u2 w hg hF => ix_row (t := 22) (k := .i64) (i := a1) (p := p_q0_L) (n := q0.L.length) (cap := c_q0_L) (x := q0.L) (en := en_TInstruction) (rdF_of hF.1).2 en_TInstruction_len rfl b3 (by kernel_rfl))) <|
   .cons [13] (ok_valL [50] (fun u2 => [rdl anyF 5 p_q0_L c_q0_L q0.L en_TInstruction]) (fun u2 => .agg #[vI t4.Op, vI t4.A, vI t4.B, vI t4.C.Lo, vI t4.C.Hi]) (fun u2 => true) [true] 13 (fun u2 w hg hF => ld_row (en := en_TInstruction) (rdF_of hF.1).2 en_TInstruction_len ht4 0 5 [vI t4.Op, vI t4.A, vI t4.B, vI t4.C.Lo, vI t4.C.Hi] rfl (by kernel_rfl))) <|
   .cons [7, 53] (ok_new (fun b => vP b 0) (fun u2 => [vI 0, vI 0, vI 0, vI 0, vI 0]) 50 7 53) <|
   .cons [53] (ok_as (u' := fun u2 => [(53, .blk ((u2 5).n 0) [vI t4.Op, vI t4.A, vI t4.B, vI t4.C.Lo, vI t4.C.Hi] 50)]) (ok_store 53 0 (fun u2 => ((u2 5).n 0)) (fun u2 => [vI 0, vI 0, vI 0, vI 0, vI 0]) (fun u2 => [vI t4.Op, vI t4.A, vI t4.B, vI t4.C.Lo, vI t4.C.Hi]) 50) (fun _ => by kernel_rfl)) <| .nil) fun u2 a w' H => ?_
 replace H := H.kp [0, 3, 7, 48, 50, 51, 53, 49, 52, 999999, 999998]
 refine k_seq ?_
 refine k_rg mixed H (.v 14 (vP ((u2 5).n 0) 0) <|
   .cons [15] (ok_ld (fun u5 => vI t4.Op) 15 53 0 1 (fun u5 => ((u2 5).n 0)) (fun u5 => [vI t4.Op, vI t4.A, vI t4.B, vI t4.C.Lo, vI t4.C.Hi]) 50) <|
   .v 16 (vP ((u2 5).n 0) 3) <|
   .cons [17] (ok_ld (fun u5 => .agg #[vI t4.C.Lo, vI t4.C.Hi]) 17 53 3 2 (fun u5 => ((u2 5).n 0)) (fun u5 => [vI t4.Op, vI t4.A, vI t4.B, vI t4.C.Lo, vI t4.C.Hi]) 50) <|
   .v 18 (.agg #[vI t4.Op, vI 0, vI t4.C.Lo, vI t4.C.Hi]) <|
   .cons [8, 54] (ok_new (fun b => vP b 0) (fun u5 => [vI 0, vI 0, vI 0, vI 0]) 47 8 54) <|
   .cons [54] (ok_as (u' := fun u5 => [(54, .blk ((u5 5).n 0) [vI t4.Op, vI 0, vI t4.C.Lo, vI t4.C.Hi] 47)]) (ok_store 54 0 (fun u5 => ((u5 5).n 0)) (fun u5 => [vI 0, vI 0, vI 0, vI 0]) (fun u5 => [vI t4.Op, vI 0, vI t4.C.Lo, vI t4.C.Hi]) 47) (fun _ => by kernel_rfl)) <| .nil) fun u5 a w' H => ?_
 replace H := H.kp [0, 3, 7, 8, 48, 50, 51, 53, 54, 49, 52, 999999, 999998]
 refine k_seq ?_
 replace G := bnd G; obtain ⟨j7, hj7, G⟩ := G
 refine k_join (fun a w' => Rep 0 w 48 (ofL [(0, sS p_a0 a0.length c_a0), (3, sP b_q1 0), (7, (sP ((u2 5).n 0) 0)), (8, (sP ((u5 5).n 0) 0)), (48, owK 47 4 p_a0 a0.length c_a0 (a0.flatMap en_TNode)), (50, rdl anyF 5 p_q0_L c_q0_L q0.L en_TInstruction), (51, rdl anyF 1 p_q0_Out c_q0_Out q0.Out en_i64), (53, .blk ((u2 5).n 0) [vI t4.Op, vI t4.A, vI t4.B, vI t4.C.Lo, vI t4.C.Hi] 50), (54, .blk ((u5 5).n 0) [vI t4.Op, vI j7, vI t4.C.Lo, vI t4.C.Hi] 47), (49, bxK b_q0 [vI q0.N, .slice p_q0_L q0.L.length c_q0_L, .slice p_q0_Out q0.Out.length c_q0_Out] 25), (52, bxK b_q1 [.func (.func 37) #[] #[vP b_q0 0, vP b_q1 0]] 79), (999999, gk), (999998, frM [owK 47 4 p_a0 a0.length c_a0 (a0.flatMap en_TNode)] w)]) a w') ?_ ?_
 ·clear H; intro a w' H
  refine k_seq ?_
  replace G := gd G; obtain ⟨b9, G⟩ := G
  refine k_rg mixed H (.v 25 (.slice p_a0 a0.length c_a0) <|
   .cons [26] (ok_ld (fun u8 => .agg #[vI t4.Op, vI j7, vI t4.C.Lo, vI t4.C.Hi]) 26 54 0 4 (fun u8 => ((u5 5).n 0)) (fun u8 => [vI t4.Op, vI j7, vI t4.C.Lo, vI t4.C.Hi]) 47) <|
   .cons [27, 55] (ok_new (fun b => .slice (some ⟨b, 0, none⟩) 1 1) (fun u8 => [vI t4.Op, vI j7, vI t4.C.Lo, vI t4.C.Hi]) 47 27 55) <|
   .cons [28, 48, 48] (ok_own1 [2] [55] (fun u8 => [.blk ((u8 2).n 0) [vI t4.Op, vI j7, vI t4.C.Lo, vI t4.C.Hi] 47]) 48 (fun u8 => owK 47 4 p_a0 a0.length c_a0 (a0.flatMap en_TNode)) (some 28) (fun u8 g => .slice (g.o 0) (a0 ++ [(⟨t4.Op, j7, (⟨t4.C.Lo, t4.C.Hi⟩ : TInterval)⟩ : TNode)]).length (g.n 0)) (fun u8 g => owK 47 4 (g.o 0) ((a0 ++ [(⟨t4.Op, j7, (⟨t4.C.Lo, t4.C.Hi⟩ : TInterval)⟩ : TNode)]).length) (g.n 0) ((a0 ++ [(⟨t4.Op, j7, (⟨t4.C.Lo, t4.C.Hi⟩ : TInterval)⟩ : TNode)]).flatMap en_TNode)) (fun u8 w hF hK => tv_app (run_app_rowN (t := 48) (ty := 48) (en := en_TNode) en_TNode_len inf47 (ow_of hK) hF.1 (news := [(⟨t4.Op, j7, (⟨t4.C.Lo, t4.C.Hi⟩ : TInterval)⟩ : TNode)]) rfl (by simp) (by kernel_rfl) b9)) (hloc := fun u u' h => ⟨by first | rfl | simp only [h 2 (by decide)], by first | rfl | simp only [h 2 (by decide)], by first | rfl | simp only [h 2 (by decide)], by first | rfl | simp only [h 2 (by decide)]⟩)) <|
   .cons [0] (ok_val (fun u8 => .slice ((u8 3).o 0) ((a0 ++ [(⟨t4.Op, j7, (⟨t4.C.Lo, t4.C.Hi⟩ : TInterval)⟩ : TNode)]).length) ((u8 3).n 0)) 0) <| .nil) fun u8 a w' H => ?_
  replace H := H.kp [0, 3, 7, 48, 50, 51, 53, 49, 52, 999999, 999998]
  refine k_seq ?_
  replace G := bnd G; obtain ⟨j11, hj11, G⟩ := G
  refine k_join (fun a w' => ∃ (p_j10 : Option Addr) (c_j10 np_j10 : Nat), np_j10 = j11.length ∧ Rep 0 w 48 (ofL [(0, sS p_j10 np_j10 c_j10), (3, sP b_q1 0), (7, (sP ((u2 5).n 0) 0)), (50, rdl anyF 5 p_q0_L c_q0_L q0.L en_TInstruction), (51, rdl anyF 1 p_q0_Out c_q0_Out q0.Out en_i64), (53, .blk ((u2 5).n 0) [vI t4.Op, vI t4.A, vI t4.B, vI t4.C.Lo, vI t4.C.Hi] 50), (900027, owK 47 4 p_j10 np_j10 c_j10 (j11.flatMap en_TNode)), (49, bxK b_q0 [vI q0.N, .slice p_q0_L q0.L.length c_q0_L, .slice p_q0_Out q0.Out.length c_q0_Out] 25), (52, bxK b_q1 [.func (.func 37) #[] #[vP b_q0 0, vP b_q1 0]] 79), (999999, gk), (999998, frM [owK 47 4 p_a0 a0.length c_a0 (a0.flatMap en_TNode)] w)]) a w') ?_ ?_
  ·clear H; rintro a w' ⟨p_j10, c_j10, _, rfl, H⟩
   refine k_seq ?_
   replace G := bnd G; obtain ⟨j13, hj13, G⟩ := G
   refine k_join (fun a w' => ∃ (p_j12 : Option Addr) (c_j12 np_j12 : Nat), np_j12 = j13.length ∧ Rep 0 w 48 (ofL [(0, sS p_j12 np_j12 c_j12), (50, rdl anyF 5 p_q0_L c_q0_L q0.L en_TInstruction), (51, rdl anyF 1 p_q0_Out c_q0_Out q0.Out en_i64), (900028, owK 47 4 p_j12 np_j12 c_j12 (j13.flatMap en_TNode)), (49, bxK b_q0 [vI q0.N, .slice p_q0_L q0.L.length c_q0_L, .slice p_q0_Out q0.Out.length c_q0_Out] 25), (52, bxK b_q1 [.func (.func 37) #[] #[vP b_q0 0, vP b_q1 0]] 79), (999999, gk), (999998, frM [owK 47 4 p_a0 a0.length c_a0 (a0.flatMap en_TNode)] w)]) a w') ?_ ?_
   ·clear H; rintro a w' ⟨p_j12, c_j12, _, rfl, H⟩
    refine k_seq ?_
    refine k_rg mixed H (.v 47 (.slice p_j12 j13.length c_j12) <|
   .v 6 (.slice p_j12 j13.length c_j12) <| .nil) fun u14 a w' H => ?_
    replace H := H.kp [6, 50, 51, 900028, 49, 52, 999999, 999998]
    refine k_ret ?_
    obtain rfl := Option.some.inj G
    obtain ⟨g, o0, n0⟩ : ∃ g : Gh, g.o 0 = p_j12 ∧ g.n 0 = c_j12 := ⟨⟨fun i => [c_j12].getD i 0, fun i => [p_j12].getD i none, fun i => ([⟨Unit, ()⟩] : List ((T : Type) × T)).getD i ⟨Unit, ()⟩⟩, rfl, rfl⟩
    refine k_doneZ H (fun g => .slice (g.o 0) j13.length (g.n 0)) g [owK 47 4 p_a0 a0.length c_a0 (a0.flatMap en_TNode)] [] (fun g => [fun _ => owK 47 4 (g.o 0) j13.length (g.n 0) (j13.flatMap en_TNode)]) fr [900028] [] (.slice p_j12 j13.length c_j12) [fun _ => owK 47 4 p_j12 j13.length c_j12 (j13.flatMap en_TNode)] (by simp only [o0, n0]) (by simp only [o0, n0]) hfr (.inr (by kernel_rfl)) (fams_cons fam_ow fams_nil) (by simp)
   ·clear G; replace G := hj13; clear hj13
    refine k_seq ?_
    replace G := bnd G; obtain ⟨t16, ht16, G⟩ := G
    refine k_rg mixed H (.v 38 (vP ((u2 5).n 0) 0) <|
   .cons [39] (ok_ld (fun u15 => vI t4.Op) 39 53 0 1 (fun u15 => ((u2 5).n 0)) (fun u15 => [vI t4.Op, vI t4.A, vI t4.B, vI t4.C.Lo, vI t4.C.Hi]) 50) <|
   .cons [40] (ok_callL [999999] (fun u15 => [gk]) 34 (fun u15 => #[vI t4.Op]) (vI t16) 40 (fun u15 w hF => tape_arity.calls k0 t4.Op  t16 w  (glob_of hF.1) ht16)) <|
   .v 41 (.bool (decide (t16 > 1))) <| .nil) fun u15 a w' H => ?_
    replace H := H.kp [0, 3, 7, 41, 50, 51, 53, 900027, 49, 52, 999999, 999998]
    refine k_cond H (by kernel_rfl) (t := decide (t16 > 1)) (by kernel_rfl) (fun c19 => ?_) (fun c19 => ?_)
    ·rw [if_pos c19] at G
     replace G := bnd G; obtain ⟨t18, ht18, G⟩ := G
     refine k_rg mixed H (.cons [42] (ok_ldK (fun u17 => .func (.func 37) #[] #[vP b_q0 0, vP b_q1 0]) 42 52 (bxK b_q1 [.func (.func 37) #[] #[vP b_q0 0, vP b_q1 0]] 79) b_q1 0 1 [.func (.func 37) #[] #[vP b_q0 0, vP b_q1 0]] (fun w h => bx_of h)) <|
   .v 43 (.slice p_j10 j11.length c_j10) <|
   .v 44 (vP ((u2 5).n 0) 2) <|
   .cons [45] (ok_ld (fun u17 => vI t4.B) 45 53 2 1 (fun u17 => ((u2 5).n 0)) (fun u17 => [vI t4.Op, vI t4.A, vI t4.B, vI t4.C.Lo, vI t4.C.Hi]) 50) <|
   .cons [46, 900027, 56] (ok_callY false fr [] [50, 51, 49, 52, 999999] (fun u17 => [rdl anyF 5 p_q0_L c_q0_L q0.L en_TInstruction, rdl anyF 1 p_q0_Out c_q0_Out q0.Out en_i64, bxK b_q0 [vI q0.N, .slice p_q0_L q0.L.length c_q0_L, .slice p_q0_Out q0.Out.length c_q0_Out] 25, bxK b_q1 [.func (.func 37) #[] #[vP b_q0 0, vP b_q1 0]] 79, gk]) [900027] (fun u17 => [owK 47 4 p_j10 j11.length c_j10 (j11.flatMap en_TNode)]) 37 (fun u17 => #[.slice p_j10 j11.length c_j10, vI t4.B, vP b_q0 0, vP b_q1 0]) (fun u17 => [rdl anyF 5 p_q0_L c_q0_L q0.L en_TInstruction, rdl anyF 1 p_q0_Out c_q0_Out q0.Out en_i64, bxK b_q0 [vI q0.N, .slice p_q0_L q0.L.length c_q0_L, .slice p_q0_Out q0.Out.length c_q0_Out] 25, bxK b_q1 [.func (.func 37) #[] #[vP b_q0 0, vP b_q1 0]] 79, gk]) (fun u17 => []) (fun u17 g => .slice (g.o 0) t18.length (g.n 0)) (fun u17 g => [fun _ => owK 47 4 (g.o 0) t18.length (g.n 0) (t18.flatMap en_TNode)]) [56] 46 (fun u17 w hB hF hM => IH j11 t4.B (⟨q0.N, q0.L, q0.Out⟩ : TTape) p_j10 c_j10 b_q0 p_q0_L c_q0_L p_q0_Out c_q0_Out b_q1 t18 w  hB hM ht18) (fun u17 w hF => ⟨⟨sub_rd0 (rdF_of hF.1) (fun j h => ⟨_, (.head _), h⟩), sub_rd0 (rdF_of hF.2.1) (fun j h => ⟨_, (.tail _ (.head _)), h⟩), sub_bx (hF.2.2.1 w (agree.refl _ _)) (.tail _ (.tail _ (.head _))) rfl, sub_bx (hF.2.2.2.1 w (agree.refl _ _)) (.tail _ (.tail _ (.tail _ (.head _)))) rfl, sub_k hF.2.2.2.2.1 (.tail _ (.tail _ (.tail _ (.tail _ (.head _))))), trivial⟩, trivial⟩) (fun u17 g => (fams_cons fam_ow fams_nil)) (.inr (fun u17 g => (famx_cons trivial (fun K h => by cases h)))) (fun h => by cases h)) <|
   .cons [0] (ok_val (fun u17 => .slice ((u17 4).o 0) t18.length ((u17 4).n 0)) 0) <| .nil) fun u17 a w' H => ?_
     replace H := H.kp [0, 50, 51, 56, 49, 52, 999999, 999998]
     obtain rfl := Option.some.inj G
     replace H := H.move (K := owK 47 4 ((u17 4).o 0) t18.length ((u17 4).n 0) (t18.flatMap en_TNode)) 56 900028 (by kernel_rfl) (by intro _ _ h; cases h)
     exact ⟨((u17 4).o 0), ((u17 4).n 0), t18.length, rfl, H.toL _ (by kernel_rfl)⟩
    ·rw [if_neg (nt c19)] at G
     refine k_skip ?_
     obtain rfl := Option.some.inj G
     replace H := H.move (K := owK 47 4 p_j10 j11.length c_j10 (j11.flatMap en_TNode)) 900027 900028 (by kernel_rfl) (by intro _ _ h; cases h)
     exact ⟨p_j10, c_j10, j11.length, rfl, H.toL _ (by kernel_rfl)⟩
  ·clear G; replace G := hj11; clear hj11
   refine k_seq ?_
   replace G := bnd G; obtain ⟨t21, ht21, G⟩ := G
   refine k_rg mixed H (.v 29 (vP ((u2 5).n 0) 0) <|
   .cons [30] (ok_ld (fun u20 => vI t4.Op) 30 53 0 1 (fun u20 => ((u2 5).n 0)) (fun u20 => [vI t4.Op, vI t4.A, vI t4.B, vI t4.C.Lo, vI t4.C.Hi]) 50) <|
   .cons [31] (ok_callL [999999] (fun u20 => [gk]) 34 (fun u20 => #[vI t4.Op]) (vI t21) 31 (fun u20 w hF => tape_arity.calls k0 t4.Op  t21 w  (glob_of hF.1) ht21)) <|
   .v 32 (.bool (decide (t21 > 0))) <| .nil) fun u20 a w' H => ?_
   replace H := H.kp [0, 3, 7, 32, 48, 50, 51, 53, 49, 52, 999999, 999998]
   refine k_cond H (by kernel_rfl) (t := decide (t21 > 0)) (by kernel_rfl) (fun c24 => ?_) (fun c24 => ?_)
   ·rw [if_pos c24] at G
    replace G := bnd G; obtain ⟨t23, ht23, G⟩ := G
    refine k_rg mixed H (.cons [33] (ok_ldK (fun u22 => .func (.func 37) #[] #[vP b_q0 0, vP b_q1 0]) 33 52 (bxK b_q1 [.func (.func 37) #[] #[vP b_q0 0, vP b_q1 0]] 79) b_q1 0 1 [.func (.func 37) #[] #[vP b_q0 0, vP b_q1 0]] (fun w h => bx_of h)) <|
   .v 34 (.slice ((u8 3).o 0) ((a0 ++ [(⟨t4.Op, j7, (⟨t4.C.Lo, t4.C.Hi⟩ : TInterval)⟩ : TNode)]).length) ((u8 3).n 0)) <|
   .v 35 (vP ((u2 5).n 0) 1) <|
   .cons [36] (ok_ld (fun u22 => vI t4.A) 36 53 1 1 (fun u22 => ((u2 5).n 0)) (fun u22 => [vI t4.Op, vI t4.A, vI t4.B, vI t4.C.Lo, vI t4.C.Hi]) 50) <|
   .cons [37, 48, 59] (ok_callY false fr [] [50, 51, 49, 52, 999999] (fun u22 => [rdl anyF 5 p_q0_L c_q0_L q0.L en_TInstruction, rdl anyF 1 p_q0_Out c_q0_Out q0.Out en_i64, bxK b_q0 [vI q0.N, .slice p_q0_L q0.L.length c_q0_L, .slice p_q0_Out q0.Out.length c_q0_Out] 25, bxK b_q1 [.func (.func 37) #[] #[vP b_q0 0, vP b_q1 0]] 79, gk]) [48] (fun u22 => [owK 47 4 ((u8 3).o 0) ((a0 ++ [(⟨t4.Op, j7, (⟨t4.C.Lo, t4.C.Hi⟩ : TInterval)⟩ : TNode)]).length) ((u8 3).n 0) ((a0 ++ [(⟨t4.Op, j7, (⟨t4.C.Lo, t4.C.Hi⟩ : TInterval)⟩ : TNode)]).flatMap en_TNode)]) 37 (fun u22 => #[.slice ((u8 3).o 0) ((a0 ++ [(⟨t4.Op, j7, (⟨t4.C.Lo, t4.C.Hi⟩ : TInterval)⟩ : TNode)]).length) ((u8 3).n 0), vI t4.A, vP b_q0 0, vP b_q1 0]) (fun u22 => [rdl anyF 5 p_q0_L c_q0_L q0.L en_TInstruction, rdl anyF 1 p_q0_Out c_q0_Out q0.Out en_i64, bxK b_q0 [vI q0.N, .slice p_q0_L q0.L.length c_q0_L, .slice p_q0_Out q0.Out.length c_q0_Out] 25, bxK b_q1 [.func (.func 37) #[] #[vP b_q0 0, vP b_q1 0]] 79, gk]) (fun u22 => []) (fun u22 g => .slice (g.o 0) t23.length (g.n 0)) (fun u22 g => [fun _ => owK 47 4 (g.o 0) t23.length (g.n 0) (t23.flatMap en_TNode)]) [59] 37 (fun u22 w hB hF hM => IH (a0 ++ [(⟨t4.Op, j7, (⟨t4.C.Lo, t4.C.Hi⟩ : TInterval)⟩ : TNode)]) t4.A (⟨q0.N, q0.L, q0.Out⟩ : TTape) ((u8 3).o 0) ((u8 3).n 0) b_q0 p_q0_L c_q0_L p_q0_Out c_q0_Out b_q1 t23 w  hB hM ht23) (fun u22 w hF => ⟨⟨sub_rd0 (rdF_of hF.1) (fun j h => ⟨_, (.head _), h⟩), sub_rd0 (rdF_of hF.2.1) (fun j h => ⟨_, (.tail _ (.head _)), h⟩), sub_bx (hF.2.2.1 w (agree.refl _ _)) (.tail _ (.tail _ (.head _))) rfl, sub_bx (hF.2.2.2.1 w (agree.refl _ _)) (.tail _ (.tail _ (.tail _ (.head _)))) rfl, sub_k hF.2.2.2.2.1 (.tail _ (.tail _ (.tail _ (.tail _ (.head _))))), trivial⟩, trivial⟩) (fun u22 g => (fams_cons fam_ow fams_nil)) (.inr (fun u22 g => (famx_cons trivial (fun K h => by cases h)))) (fun h => by cases h)) <|
   .cons [0] (ok_val (fun u22 => .slice ((u22 4).o 0) t23.length ((u22 4).n 0)) 0) <| .nil) fun u22 a w' H => ?_
    replace H := H.kp [0, 3, 7, 50, 51, 53, 59, 49, 52, 999999, 999998]
    obtain rfl := Option.some.inj G
    replace H := H.move (K := owK 47 4 ((u22 4).o 0) t23.length ((u22 4).n 0) (t23.flatMap en_TNode)) 59 900027 (by kernel_rfl) (by intro _ _ h; cases h)
    exact ⟨((u22 4).o 0), ((u22 4).n 0), t23.length, rfl, H.toL _ (by kernel_rfl)⟩
   ·rw [if_neg (nt c24)] at G
    refine k_skip ?_
    obtain rfl := Option.some.inj G
    replace H := H.move (K := owK 47 4 ((u8 3).o 0) ((a0 ++ [(⟨t4.Op, j7, (⟨t4.C.Lo, t4.C.Hi⟩ : TInterval)⟩ : TNode)]).length) ((u8 3).n 0) ((a0 ++ [(⟨t4.Op, j7, (⟨t4.C.Lo, t4.C.Hi⟩ : TInterval)⟩ : TNode)]).flatMap en_TNode)) 48 900027 (by kernel_rfl) (by intro _ _ h; cases h)
    exact ⟨((u8 3).o 0), ((u8 3).n 0), (a0 ++ [(⟨t4.Op, j7, (⟨t4.C.Lo, t4.C.Hi⟩ : TInterval)⟩ : TNode)]).length, rfl, H.toL _ (by kernel_rfl)⟩
 ·clear G; replace G := hj7; clear hj7
  refine k_seq ?_
  refine k_rg mixed H (.v 19 (vP ((u2 5).n 0) 0) <|
   .cons [20] (ok_ld (fun u25 => vI t4.Op) 20 53 0 1 (fun u25 => ((u2 5).n 0)) (fun u25 => [vI t4.Op, vI t4.A, vI t4.B, vI t4.C.Lo, vI t4.C.Hi]) 50) <|
   .v 21 (.bool (t4.Op == 2)) <| .nil) fun u25 a w' H => ?_
  replace H := H.kp [0, 3, 7, 8, 21, 48, 50, 51, 53, 54, 49, 52, 999999, 999998]
  refine k_cond H (by kernel_rfl) (t := (t4.Op == 2)) (by kernel_rfl) (fun c27 => ?_) (fun c27 => ?_)
  ·rw [if_pos c27] at G
   refine k_rg mixed H (.v 22 (vP ((u2 5).n 0) 1) <|
   .cons [23] (ok_ld (fun u26 => vI t4.A) 23 53 1 1 (fun u26 => ((u2 5).n 0)) (fun u26 => [vI t4.Op, vI t4.A, vI t4.B, vI t4.C.Lo, vI t4.C.Hi]) 50) <|
   .v 24 (vP ((u5 5).n 0) 1) <|
   .cons [54] (ok_as (u' := fun u26 => [(54, .blk ((u5 5).n 0) [vI t4.Op, vI t4.A, vI t4.C.Lo, vI t4.C.Hi] 47)]) (ok_store 54 1 (fun u26 => ((u5 5).n 0)) (fun u26 => [vI t4.Op, vI 0, vI t4.C.Lo, vI t4.C.Hi]) (fun u26 => [vI t4.A]) 47) (fun _ => by kernel_rfl)) <| .nil) fun u26 a w' H => ?_
   replace H := H.kp [0, 3, 7, 8, 48, 50, 51, 53, 54, 49, 52, 999999, 999998]
   obtain rfl := Option.some.inj G
   exact H.toL _ (by kernel_rfl)
  ·rw [if_neg (nt c27)] at G
   refine k_skip ?_
   obtain rfl := Option.some.inj G
   exact H.toL _ (by kernel_rfl)
end Go.Proofs.YtbpgobecpmjaeaaDoor
