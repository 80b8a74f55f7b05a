/- Each function of the program answers as the plain Lean function of its name (part 3). Printed by a program of this session. -/
import Derived.Test.YtbpgobecpmjaeaaDoorFn2
set_option linter.unusedVariables false
set_option linter.unusedSimpArgs false
set_option maxRecDepth 100000
namespace Go.Proofs.YtbpgobecpmjaeaaDoor
open Go Go.RowKit Go.Sx Go.Proofs
set_option maxHeartbeats 4000000 in
theorem armillaryref08_Decompile.calls (k0 : Nat) (a0 : TTape) (p_a0_L : Option Addr) (c_a0_L : Nat) (p_a0_Out : Option Addr) (c_a0_Out : Nat) (r : List (List TNode)) (w : World) (hB : AllH [rdl anyF 5 p_a0_L c_a0_L a0.L en_TInstruction, rdl anyF 1 p_a0_Out c_a0_Out a0.Out en_i64] w) (G : armillaryref08_Decompile k0 a0 = some r) :
  Calls Tryd.prog 27 #[.agg #[vI a0.N, .slice p_a0_L a0.L.length c_a0_L, .slice p_a0_Out a0.Out.length c_a0_Out]] w fun e w' => ∃ g : Gh, e = .returned (.slice (g.o 0) ((g.dl Sl.l gd_S_TNode 0 r).length) (g.n 0)) ∧ But (fpK []) w w' ∧ OutOK w.heap.size (fpK []) (frI w.heap.size []) [fun _ => owK 48 1 (g.o 0) ((g.dl Sl.l gd_S_TNode 0 r).length) (g.n 0) ((g.dl Sl.l gd_S_TNode 0 r).flatMap enSl), fun fr => dnK fr E_S_TNode.toPart (g.dl Sl.l gd_S_TNode 0 r)] w' := by
 obtain ⟨fr, hfr⟩ : ∃ fr : Nat → Prop, fr = frI w.heap.size [] := ⟨_, rfl⟩
 have hBf : ∀ j, w.heap.size ≤ j → fr j := fun j h => by rw [hfr]; exact .inl h
 refine k_enterF (args := [.agg #[vI a0.N, .slice p_a0_L a0.L.length c_a0_L, .slice p_a0_Out a0.Out.length c_a0_Out]]) 107 [(107, rdl anyF 5 p_a0_L c_a0_L a0.L en_TInstruction), (108, rdl anyF 1 p_a0_Out c_a0_Out a0.Out en_i64)] (by
  intro x hx
  simp only [List.mem_cons, List.not_mem_nil, or_false] at hx
  rcases hx with rfl | rfl
  ·exact rdF_fact (rdF_of hB.1) (fun _ _ => trivial) (by decide) _
  ·exact rdF_fact (rdF_of hB.2.1) (fun _ _ => trivial) (by decide) _) Tryd.func27 rfl (by kernel_rfl) (by kernel_rfl) fun a H => ?_
 unfold armillaryref08_Decompile at G
 refine k_seq ?_
 refine k_rg mixed H (.cons [1, 109] (ok_new (fun b => vP b 0) (fun u1 => [vI a0.N, .slice p_a0_L a0.L.length c_a0_L, .slice p_a0_Out a0.Out.length c_a0_Out]) 25 1 109) <|
   .v 2 (.slice none 0 0) <| .nil) fun u1 a w' H => ?_
 replace H := H.kp [1, 107, 108, 109]
 refine k_seq ?_
 refine k_rg mixed H (.cons [11, 110] (ok_new (fun b => .slice (some ⟨b, 0, none⟩) 0 0) (fun u2 => []) 48 11 110) <|
   .cons [12, 111] (ok_new (fun b => .slice (some ⟨b, 0, none⟩) 0 0) (fun u2 => []) 48 12 111) <|
   .cons [3] (ok_val (fun u2 => .slice (some ⟨((u2 0).n 0), 0, none⟩) 0 0) 3) <|
   .cons [4] (ok_val (fun u2 => .slice (some ⟨((u2 1).n 0), 0, none⟩) 0 0) 4) <| .nil) fun u2 a w' H => ?_
 replace H := H.kp [1, 3, 4, 107, 108, 109, 110, 111]
 refine k_seq ?_
 replace G := bnd G; obtain ⟨j4, hj4, G⟩ := G
 refine k_join (fun a w' => ∃ (p_j3 : Option Addr) (c_j3 np_j3 : Nat) (L_j3 : List (Sl TNode)), np_j3 = L_j3.length ∧ j4 = L_j3.map Sl.l ∧ Rep w.heap.size w 107 (ofL [(1, (sP ((u1 0).n 0) 0)), (3, sS p_j3 np_j3 c_j3), (4, (sS (some ⟨((u2 1).n 0), 0, none⟩) 0 0)), (107, rdl anyF 5 p_a0_L c_a0_L a0.L en_TInstruction), (108, rdl anyF 1 p_a0_Out c_a0_Out a0.Out en_i64), (109, .blk ((u1 0).n 0) [vI a0.N, .slice p_a0_L a0.L.length c_a0_L, .slice p_a0_Out a0.Out.length c_a0_Out] 25), (111, .blk ((u2 1).n 0) [] 48), (900046, rdF fr 1 p_j3 np_j3 c_j3 (L_j3.flatMap enSl)), (900047, dnK fr E_S_TNode.toPart L_j3)]) a w') ?_ ?_
 ·clear H; rintro a w' ⟨p_j3, c_j3, _, L_j3, rfl, h_j3, H⟩
  refine k_seq ?_
  replace G := bnd G; obtain ⟨j6, hj6, G⟩ := G
  refine k_join (fun a w' => ∃ (p_j5 : Option Addr) (c_j5 np_j5 : Nat) (L_j5 : List (Sl TNode)), np_j5 = L_j5.length ∧ j6 = L_j5.map Sl.l ∧ Rep w.heap.size w 107 (ofL [(4, sS p_j5 np_j5 c_j5), (900048, owK 48 1 p_j5 np_j5 c_j5 (L_j5.flatMap enSl)), (900049, dnK fr E_S_TNode.toPart L_j5)]) a w') ?_ ?_
  ·clear H; rintro a w' ⟨p_j5, c_j5, _, L_j5, rfl, h_j5, H⟩
   refine k_seq ?_
   refine k_rg mixed H (.v 106 (.slice p_j5 L_j5.length c_j5) <|
   .v 2 (.slice p_j5 L_j5.length c_j5) <| .nil) fun u7 a w' H => ?_
   replace H := H.kp [2, 900048, 900049]
   refine k_ret ?_
   obtain rfl := Option.some.inj G
   obtain ⟨g, o0, n0, d0⟩ : ∃ g : Gh, g.o 0 = p_j5 ∧ g.n 0 = c_j5 ∧ g.dl Sl.l gd_S_TNode 0 j6 = L_j5 := ⟨⟨fun i => [c_j5].getD i 0, fun i => [p_j5].getD i none, fun i => ([⟨List (Sl TNode), L_j5⟩] : List ((T : Type) × T)).getD i ⟨Unit, ()⟩⟩, rfl, rfl, dl_mk rfl h_j5⟩
   refine k_doneZ H (fun g => .slice (g.o 0) ((g.dl Sl.l gd_S_TNode 0 j6).length) (g.n 0)) g [] [] (fun g => [fun _ => owK 48 1 (g.o 0) ((g.dl Sl.l gd_S_TNode 0 j6).length) (g.n 0) ((g.dl Sl.l gd_S_TNode 0 j6).flatMap enSl), fun fr => dnK fr E_S_TNode.toPart (g.dl Sl.l gd_S_TNode 0 j6)]) fr [900048, 900049] [] (.slice p_j5 L_j5.length c_j5) [fun _ => owK 48 1 p_j5 L_j5.length c_j5 (L_j5.flatMap enSl), fun fr => dnK fr E_S_TNode.toPart L_j5] (by simp only [o0, n0, d0]) (by simp only [o0, n0, d0]) hfr (.inl ⟨rfl, rfl⟩) (fams_cons fam_ow (fams_cons fam_dn fams_nil)) (by simp)
  ·clear G; replace G := hj6; clear hj6
   refine k_seq ?_
   refine k_rg mixed H (.v 10 (vI 0) <| .nil) fun u8 a w' H => ?_
   replace H := H.kp [1, 3, 4, 10, 107, 108, 109, 111, 900046, 900047]
   refine k_block ?_
   replace H := H.blk_row 111 ((u2 1).n 0) [] 48 1 0 (by kernel_rfl) (by kernel_rfl) (by decide)
   replace H := H.add0 118 (dnK fr E_S_TNode.toPart ([] : List (Sl TNode))) (by intro _ _ h; cases h) (dn_holds rdl_nil (fun j h => by obtain ⟨_, hy, _⟩ := h; cases hy)) (fun j h => by obtain ⟨_, hy, _⟩ := h; cases hy)
   replace H := H.move (K := owK 48 1 (some ⟨((u2 1).n 0), 0, none⟩) 0 0 (([] : List (Sl TNode)).flatMap enSl)) 111 900050 (by kernel_rfl) (by intro _ _ h; cases h)
   replace H := H.dup (K := dnK fr E_S_TNode.toPart ([] : List (Sl TNode))) 118 900051 (by kernel_rfl) (fun h => h) (by intro _ _ h; cases h)
   refine k_loopJ (fun m a w' => ∃ x9 : List (List TNode), ∃ x10 : Int, armillaryref08_Decompile.l11 k0 a0 j4 m x9 x10 = some j6 ∧ ∃ (p_x9 : Option Addr) (c_x9 np_x9 : Nat) (L_x9 : List (Sl TNode)), np_x9 = L_x9.length ∧ x9 = L_x9.map Sl.l ∧ Rep w.heap.size w 107 (ofL [(1, (sP ((u1 0).n 0) 0)), (3, sS p_j3 L_j3.length c_j3), (4, sS p_x9 np_x9 c_x9), (10, sI x10), (107, rdl anyF 5 p_a0_L c_a0_L a0.L en_TInstruction), (108, rdl anyF 1 p_a0_Out c_a0_Out a0.Out en_i64), (109, .blk ((u1 0).n 0) [vI a0.N, .slice p_a0_L a0.L.length c_a0_L, .slice p_a0_Out a0.Out.length c_a0_Out] 25), (900046, rdl fr 1 p_j3 c_j3 L_j3 enSl), (900047, dnK fr E_S_TNode.toPart L_j3), (900050, owK 48 1 p_x9 np_x9 c_x9 (L_x9.flatMap enSl)), (900051, dnK fr E_S_TNode.toPart L_x9)]) a w') k0 ⟨_, _, G, (some ⟨((u2 1).n 0), 0, none⟩), 0, 0, ([] : List (Sl TNode)), rfl, rfl, H.toL _ (by kernel_rfl)⟩ ?_
   clear G H
   rintro (_ | k) a w' ⟨x9, x10, G, p_x9, c_x9, _, L_x9, rfl, h_x9, H⟩
   ·exact absurd G (by unfold armillaryref08_Decompile.l11; exact fun h => by cases h)
   ·unfold armillaryref08_Decompile.l11 at G
    refine k_seq ?_
    refine k_seq ?_
    refine k_rg mixed H (.v 88 (vI x10) <|
   .v 89 (vP ((u1 0).n 0) 2) <|
   .cons [90] (ok_ld (fun u12 => .slice p_a0_Out a0.Out.length c_a0_Out) 90 109 2 1 (fun u12 => ((u1 0).n 0)) (fun u12 => [vI a0.N, .slice p_a0_L a0.L.length c_a0_L, .slice p_a0_Out a0.Out.length c_a0_Out]) 25) <|
   .v 91 (vI (a0.Out.length : Int)) <|
   .v 92 (.bool (decide (x10 < (a0.Out.length : Int)))) <| .nil) fun u12 a w' H => ?_
    replace H := H.kp [1, 3, 4, 10, 92, 107, 108, 109, 900046, 900047, 900050, 900051]
    refine k_cond H (by kernel_rfl) (t := decide (x10 < (a0.Out.length : Int))) (by kernel_rfl) (fun c20 => ?_) (fun c20 => ?_)
    ·rw [if_pos c20] at G
     refine k_skip ?_
     refine k_seq ?_
     refine k_block ?_
     replace G := gd G; obtain ⟨b14, G⟩ := G
     replace G := bnd G; obtain ⟨t15, ht15, G⟩ := G
     replace G := gd G; obtain ⟨b16, G⟩ := G
     replace G := bnd G; obtain ⟨t17, ht17, G⟩ := G
     obtain ⟨p_t17, c_t17, y_t17⟩ := sl_get h_j3 ht17
     replace G := gd G; obtain ⟨b18, G⟩ := G
     refine k_rg mixed H (.v 95 (.slice p_x9 L_x9.length c_x9) <|
   .v 96 (.slice p_j3 L_j3.length c_j3) <|
   .v 97 (vP ((u1 0).n 0) 2) <|
   .cons [98] (ok_ld (fun u13 => .slice p_a0_Out a0.Out.length c_a0_Out) 98 109 2 1 (fun u13 => ((u1 0).n 0)) (fun u13 => [vI a0.N, .slice p_a0_L a0.L.length c_a0_L, .slice p_a0_Out a0.Out.length c_a0_Out]) 25) <|
   .v 99 (vI x10) <|
   .cons [100] (ok_valL [108] (fun u13 => [rdl anyF 1 p_a0_Out c_a0_Out a0.Out en_i64]) (fun u13 => .pointer (some ⟨hdB p_a0_Out, hdO p_a0_Out + x10.toNat * 1, none⟩)) (fun u13 => true) [true, true] 100 (fun u13 w hg hF => ix_row (t := 23) (k := .i64) (i := x10) (p := p_a0_Out) (n := a0.Out.length) (cap := c_a0_Out) (x := a0.Out) (en := en_i64) (rdF_of hF.1).2 en_i64_len rfl b14 (by kernel_rfl))) <|
   .cons [101] (ok_valL [108] (fun u13 => [rdl anyF 1 p_a0_Out c_a0_Out a0.Out en_i64]) (fun u13 => vI t15) (fun u13 => true) [true] 101 (fun u13 w hg hF => ld_row (en := en_i64) (rdF_of hF.1).2 en_i64_len ht15 0 1 [vI t15] rfl (by kernel_rfl))) <|
   .cons [102] (ok_valL [900046] (fun u13 => [rdl fr 1 p_j3 c_j3 L_j3 enSl]) (fun u13 => .pointer (some ⟨hdB p_j3, hdO p_j3 + t15.toNat * 1, none⟩)) (fun u13 => true) [true, true] 102 (fun u13 w hg hF => ix_row (t := 36) (k := .i64) (i := t15) (p := p_j3) (n := L_j3.length) (cap := c_j3) (x := j4) (en := enSl) (rdF_of hF.1).2 enSl_len (map_len h_j3) b16 (by kernel_rfl))) <|
   .cons [103] (ok_valL [900046] (fun u13 => [rdl fr 1 p_j3 c_j3 L_j3 enSl]) (fun u13 => .slice p_t17 t17.length c_t17) (fun u13 => true) [true] 103 (fun u13 w hg hF => ld_row (en := enSl) (rdF_of hF.1).2 enSl_len y_t17 0 1 [.slice p_t17 t17.length c_t17] rfl (by kernel_rfl))) <|
   .cons [104, 112] (ok_new (fun b => .slice (some ⟨b, 0, none⟩) 1 1) (fun u13 => [.slice p_t17 t17.length c_t17]) 48 104 112) <|
   .cons [105, 900050, 900050, 113] (ok_ownF [9] [900051, 112, 900047] (fun u13 => [dnK fr E_S_TNode.toPart L_x9, .blk ((u13 9).n 0) [.slice p_t17 t17.length c_t17] 48, dnK fr E_S_TNode.toPart L_j3]) 900050 113 (fun u13 => owK 48 1 p_x9 L_x9.length c_x9 (L_x9.flatMap enSl)) (some 105) (fun u13 g => .slice (g.o 0) (L_x9 ++ [(⟨p_t17, c_t17, t17⟩ : Sl TNode)]).length (g.n 0)) (fun u13 g => owK 48 1 (g.o 0) ((L_x9 ++ [(⟨p_t17, c_t17, t17⟩ : Sl TNode)]).length) (g.n 0) ((L_x9 ++ [(⟨p_t17, c_t17, t17⟩ : Sl TNode)]).flatMap enSl)) (fun u13 g => dnK fr E_S_TNode.toPart (L_x9 ++ [(⟨p_t17, c_t17, t17⟩ : Sl TNode)])) (fun u13 w hF hK => tv_appF (run_app_rowN (t := 36) (ty := 36) (en := enSl) enSl_len inf48 (ow_of hK) hF.2.1 (news := [(⟨p_t17, c_t17, t17⟩ : Sl TNode)]) rfl (by simp) (by kernel_rfl) (by rw [← map_len h_x9]; exact b18)) (dn_app hF.1 (.head _) ⟨(show RowC _ 4 p_t17 t17.length c_t17 (t17.flatMap en_TNode) from ((dn_of hF.2.2.1) _ (List.mem_of_getElem? y_t17)).1), fun _ _ => trivial⟩ (fun j h => (h.elim (fun h => ff_of (.tail _ (.tail _ (.head _))) (fun h => h) ⟨_, (List.mem_of_getElem? y_t17), (.inl h)⟩ (dn_fr hF.2.2.1 _ ⟨_, (List.mem_of_getElem? y_t17), (.inl h)⟩)) (fun ⟨_, _, hz⟩ => hz.elim))))) (hloc := fun u u' h => ⟨by first | rfl | simp only [h 9 (by decide)], by first | rfl | simp only [h 9 (by decide)], by first | rfl | simp only [h 9 (by decide)], by first | rfl | simp only [h 9 (by decide)], by first | rfl | simp only [h 9 (by decide)]⟩)) <|
   .cons [4] (ok_val (fun u13 => .slice ((u13 10).o 0) ((L_x9 ++ [(⟨p_t17, c_t17, t17⟩ : Sl TNode)]).length) ((u13 10).n 0)) 4) <| .nil) fun u13 a w' H => ?_
     replace H := H.kp [1, 3, 4, 10, 107, 108, 109, 113, 900046, 900047, 900050]
     refine k_rg mixed H (.v 93 (vI x10) <|
   .v 94 (vI (w_i64 (x10 + 1))) <|
   .v 10 (vI (w_i64 (x10 + 1))) <| .nil) fun u19 a w' H => ?_
     replace H := H.kp [1, 3, 4, 10, 107, 108, 109, 113, 900046, 900047, 900050]
     replace H := H.dup (K := dnK fr E_S_TNode.toPart (L_x9 ++ [(⟨p_t17, c_t17, t17⟩ : Sl TNode)])) 113 900051 (by kernel_rfl) (fun h => h) (by intro _ _ h; cases h)
     exact ⟨k, Nat.lt_succ_self k, _, _, G, ((u13 10).o 0), ((u13 10).n 0), (L_x9 ++ [(⟨p_t17, c_t17, t17⟩ : Sl TNode)]).length, (L_x9 ++ [(⟨p_t17, c_t17, t17⟩ : Sl TNode)]), rfl, (map_app h_x9 (⟨p_t17, c_t17, t17⟩ : Sl TNode)), H.toL _ (by kernel_rfl)⟩
    ·rw [if_neg (nt c20)] at G
     refine k_exit rfl ?_
     obtain rfl := Option.some.inj G
     replace H := H.move (K := owK 48 1 p_x9 L_x9.length c_x9 (L_x9.flatMap enSl)) 900050 900048 (by kernel_rfl) (by intro _ _ h; cases h)
     replace H := H.dup (K := dnK fr E_S_TNode.toPart L_x9) 900051 900049 (by kernel_rfl) (fun h => h) (by intro _ _ h; cases h)
     exact ⟨p_x9, c_x9, L_x9.length, L_x9, rfl, h_x9, H.toL _ (by kernel_rfl)⟩
 ·clear G; replace G := hj4; clear hj4
  refine k_seq ?_
  refine k_rg mixed H (.v 5 (vI 0) <| .nil) fun u21 a w' H => ?_
  replace H := H.kp [1, 3, 4, 5, 107, 108, 109, 110, 111]
  refine k_block ?_
  replace H := H.blk_row 110 ((u2 0).n 0) [] 48 1 0 (by kernel_rfl) (by kernel_rfl) (by decide)
  replace H := H.nestOpen (e := 48) (m := 0) (cap := 0) (p := (some ⟨((u2 0).n 0), 0, none⟩)) (H := ([] : List (Sl TNode))) 110 47 4 en_TNode (by kernel_rfl)
  replace H := H.move (K := nsK 48 47 4 en_TNode (some ⟨((u2 0).n 0), 0, none⟩) 0 0 ([] : List (Sl TNode)) ([] : List (Sl TNode))) 110 900052 (by kernel_rfl) (by intro _ _ h; cases h)
  refine k_loopJ (fun m a w' => ∃ x22 : List (List TNode), ∃ x23 : Int, armillaryref08_Decompile.l24 k0 a0 m x22 x23 = some j4 ∧ ∃ (p_x22 : Option Addr) (c_x22 np_x22 : Nat) (L_x22 : List (Sl TNode)), np_x22 = L_x22.length ∧ x22 = L_x22.map Sl.l ∧ Rep w.heap.size w 107 (ofL [(1, (sP ((u1 0).n 0) 0)), (3, sS p_x22 np_x22 c_x22), (4, (sS (some ⟨((u2 1).n 0), 0, none⟩) 0 0)), (5, sI x23), (107, rdl anyF 5 p_a0_L c_a0_L a0.L en_TInstruction), (108, rdl anyF 1 p_a0_Out c_a0_Out a0.Out en_i64), (109, .blk ((u1 0).n 0) [vI a0.N, .slice p_a0_L a0.L.length c_a0_L, .slice p_a0_Out a0.Out.length c_a0_Out] 25), (111, .blk ((u2 1).n 0) [] 48), (900052, nsK 48 47 4 en_TNode p_x22 np_x22 c_x22 L_x22 L_x22)]) a w') k0 ⟨_, _, G, (some ⟨((u2 0).n 0), 0, none⟩), 0, 0, ([] : List (Sl TNode)), rfl, rfl, H.toL _ (by kernel_rfl)⟩ ?_
  clear G H
  rintro (_ | k) a w' ⟨x22, x23, G, p_x22, c_x22, _, L_x22, rfl, h_x22, H⟩
  ·exact absurd G (by unfold armillaryref08_Decompile.l24; exact fun h => by cases h)
  ·unfold armillaryref08_Decompile.l24 at G
   refine k_seq ?_
   refine k_seq ?_
   refine k_rg mixed H (.v 13 (vI x23) <|
   .v 14 (vP ((u1 0).n 0) 1) <|
   .cons [15] (ok_ld (fun u25 => .slice p_a0_L a0.L.length c_a0_L) 15 109 1 1 (fun u25 => ((u1 0).n 0)) (fun u25 => [vI a0.N, .slice p_a0_L a0.L.length c_a0_L, .slice p_a0_Out a0.Out.length c_a0_Out]) 25) <|
   .v 16 (vI (a0.L.length : Int)) <|
   .v 17 (.bool (decide (x23 < (a0.L.length : Int)))) <| .nil) fun u25 a w' H => ?_
   replace H := H.kp [1, 3, 4, 5, 17, 107, 108, 109, 111, 900052]
   refine k_cond H (by kernel_rfl) (t := decide (x23 < (a0.L.length : Int))) (by kernel_rfl) (fun c71 => ?_) (fun c71 => ?_)
   ·rw [if_pos c71] at G
    refine k_skip ?_
    refine k_seq ?_
    refine k_block ?_
    refine k_seq ?_
    replace G := gd G; obtain ⟨b27, G⟩ := G
    replace G := bnd G; obtain ⟨t28, ht28, G⟩ := G
    refine k_rg mixed H (.v 20 (vP ((u1 0).n 0) 1) <|
   .cons [21] (ok_ld (fun u26 => .slice p_a0_L a0.L.length c_a0_L) 21 109 1 1 (fun u26 => ((u1 0).n 0)) (fun u26 => [vI a0.N, .slice p_a0_L a0.L.length c_a0_L, .slice p_a0_Out a0.Out.length c_a0_Out]) 25) <|
   .v 22 (vI x23) <|
   .cons [23] (ok_valL [107] (fun u26 => [rdl anyF 5 p_a0_L c_a0_L a0.L en_TInstruction]) (fun u26 => .pointer (some ⟨hdB p_a0_L, hdO p_a0_L + x23.toNat * 5, none⟩)) (fun u26 => true) [true, true] 23 (fun u26 w hg hF => ix_row (t := 22) (k := .i64) (i := x23) (p := p_a0_L) (n := a0.L.length) (cap := c_a0_L) (x := a0.L) (en := en_TInstruction) (rdF_of hF.1).2 en_TInstruction_len rfl b27 (by kernel_rfl))) <|
   .cons [24] (ok_valL [107] (fun u26 => [rdl anyF 5 p_a0_L c_a0_L a0.L en_TInstruction]) (fun u26 => .agg #[vI t28.Op, vI t28.A, vI t28.B, vI t28.C.Lo, vI t28.C.Hi]) (fun u26 => true) [true] 24 (fun u26 w hg hF => ld_row (en := en_TInstruction) (rdF_of hF.1).2 en_TInstruction_len ht28 0 5 [vI t28.Op, vI t28.A, vI t28.B, vI t28.C.Lo, vI t28.C.Hi] rfl (by kernel_rfl))) <|
   .cons [6, 121] (ok_new (fun b => vP b 0) (fun u26 => [vI 0, vI 0, vI 0, vI 0, vI 0]) 50 6 121) <|
   .cons [121] (ok_as (u' := fun u26 => [(121, .blk ((u26 5).n 0) [vI t28.Op, vI t28.A, vI t28.B, vI t28.C.Lo, vI t28.C.Hi] 50)]) (ok_store 121 0 (fun u26 => ((u26 5).n 0)) (fun u26 => [vI 0, vI 0, vI 0, vI 0, vI 0]) (fun u26 => [vI t28.Op, vI t28.A, vI t28.B, vI t28.C.Lo, vI t28.C.Hi]) 50) (fun _ => by kernel_rfl)) <| .nil) fun u26 a w' H => ?_
    replace H := H.kp [1, 3, 4, 5, 6, 107, 108, 109, 111, 121, 900052]
    refine k_seq ?_
    refine k_rg mixed H (.v 25 (vP ((u26 5).n 0) 0) <|
   .cons [26] (ok_ld (fun u29 => vI t28.Op) 26 121 0 1 (fun u29 => ((u26 5).n 0)) (fun u29 => [vI t28.Op, vI t28.A, vI t28.B, vI t28.C.Lo, vI t28.C.Hi]) 50) <|
   .v 27 (vP ((u26 5).n 0) 3) <|
   .cons [28] (ok_ld (fun u29 => .agg #[vI t28.C.Lo, vI t28.C.Hi]) 28 121 3 2 (fun u29 => ((u26 5).n 0)) (fun u29 => [vI t28.Op, vI t28.A, vI t28.B, vI t28.C.Lo, vI t28.C.Hi]) 50) <|
   .v 29 (.agg #[vI t28.Op, vI 0, vI t28.C.Lo, vI t28.C.Hi]) <|
   .cons [7, 122] (ok_new (fun b => vP b 0) (fun u29 => [vI 0, vI 0, vI 0, vI 0]) 47 7 122) <|
   .cons [122] (ok_as (u' := fun u29 => [(122, .blk ((u29 5).n 0) [vI t28.Op, vI 0, vI t28.C.Lo, vI t28.C.Hi] 47)]) (ok_store 122 0 (fun u29 => ((u29 5).n 0)) (fun u29 => [vI 0, vI 0, vI 0, vI 0]) (fun u29 => [vI t28.Op, vI 0, vI t28.C.Lo, vI t28.C.Hi]) 47) (fun _ => by kernel_rfl)) <| .nil) fun u29 a w' H => ?_
    replace H := H.kp [1, 3, 4, 5, 6, 7, 107, 108, 109, 111, 121, 122, 900052]
    refine k_seq ?_
    replace G := bnd G; obtain ⟨j31, hj31, G⟩ := G
    refine k_join (fun a w' => Rep w.heap.size w 107 (ofL [(1, (sP ((u1 0).n 0) 0)), (3, sS p_x22 L_x22.length c_x22), (4, (sS (some ⟨((u2 1).n 0), 0, none⟩) 0 0)), (5, sI x23), (6, (sP ((u26 5).n 0) 0)), (7, (sP ((u29 5).n 0) 0)), (107, rdl anyF 5 p_a0_L c_a0_L a0.L en_TInstruction), (108, rdl anyF 1 p_a0_Out c_a0_Out a0.Out en_i64), (109, .blk ((u1 0).n 0) [vI a0.N, .slice p_a0_L a0.L.length c_a0_L, .slice p_a0_Out a0.Out.length c_a0_Out] 25), (111, .blk ((u2 1).n 0) [] 48), (121, .blk ((u26 5).n 0) [vI t28.Op, vI t28.A, vI t28.B, vI t28.C.Lo, vI t28.C.Hi] 50), (122, .blk ((u29 5).n 0) [vI t28.Op, vI j31, vI t28.C.Lo, vI t28.C.Hi] 47), (900052, nsK 48 47 4 en_TNode p_x22 L_x22.length c_x22 L_x22 L_x22)]) a w') ?_ ?_
    ·clear H; intro a w' H
     refine k_seq ?_
     refine k_rg mixed H (.cons [36] (ok_ld (fun u32 => .agg #[vI t28.Op, vI j31, vI t28.C.Lo, vI t28.C.Hi]) 36 122 0 4 (fun u32 => ((u29 5).n 0)) (fun u32 => [vI t28.Op, vI j31, vI t28.C.Lo, vI t28.C.Hi]) 47) <|
   .cons [37, 123] (ok_new (fun b => .slice (some ⟨b, 0, none⟩) 1 1) (fun u32 => [vI t28.Op, vI j31, vI t28.C.Lo, vI t28.C.Hi]) 47 37 123) <|
   .cons [8] (ok_val (fun u32 => .slice (some ⟨((u32 1).n 0), 0, none⟩) 1 1) 8) <|
   .v 9 (.bool true) <| .nil) fun u32 a w' H => ?_
     replace H := H.kp [1, 3, 4, 5, 6, 8, 9, 107, 108, 109, 111, 121, 123, 900052]
     refine k_seq ?_
     replace G := bnd G; obtain ⟨j35, hj35, G⟩ := G
     refine k_join (fun a w' => ∃ (p_j33 : Option Addr) (c_j33 np_j33 : Nat), np_j33 = j35.1.length ∧ Rep w.heap.size w 107 (ofL [(1, (sP ((u1 0).n 0) 0)), (3, sS p_x22 L_x22.length c_x22), (4, (sS (some ⟨((u2 1).n 0), 0, none⟩) 0 0)), (5, sI x23), (6, (sP ((u26 5).n 0) 0)), (8, sS p_j33 np_j33 c_j33), (9, sB j35.2), (107, rdl anyF 5 p_a0_L c_a0_L a0.L en_TInstruction), (108, rdl anyF 1 p_a0_Out c_a0_Out a0.Out en_i64), (109, .blk ((u1 0).n 0) [vI a0.N, .slice p_a0_L a0.L.length c_a0_L, .slice p_a0_Out a0.Out.length c_a0_Out] 25), (111, .blk ((u2 1).n 0) [] 48), (121, .blk ((u26 5).n 0) [vI t28.Op, vI t28.A, vI t28.B, vI t28.C.Lo, vI t28.C.Hi] 50), (900052, nsK 48 47 4 en_TNode p_x22 L_x22.length c_x22 L_x22 L_x22), (900054, owK 47 4 p_j33 np_j33 c_j33 (j35.1.flatMap en_TNode))]) a w') ?_ ?_
     ·clear H; rintro a w' ⟨p_j33, c_j33, _, rfl, H⟩
      refine k_seq ?_
      replace G := bnd G; obtain ⟨j38, hj38, G⟩ := G
      refine k_join (fun a w' => ∃ (p_j36 : Option Addr) (c_j36 np_j36 : Nat), np_j36 = j38.1.length ∧ Rep w.heap.size w 107 (ofL [(1, (sP ((u1 0).n 0) 0)), (3, sS p_x22 L_x22.length c_x22), (4, (sS (some ⟨((u2 1).n 0), 0, none⟩) 0 0)), (5, sI x23), (8, sS p_j36 np_j36 c_j36), (9, sB j38.2), (107, rdl anyF 5 p_a0_L c_a0_L a0.L en_TInstruction), (108, rdl anyF 1 p_a0_Out c_a0_Out a0.Out en_i64), (109, .blk ((u1 0).n 0) [vI a0.N, .slice p_a0_L a0.L.length c_a0_L, .slice p_a0_Out a0.Out.length c_a0_Out] 25), (111, .blk ((u2 1).n 0) [] 48), (900052, nsK 48 47 4 en_TNode p_x22 L_x22.length c_x22 L_x22 L_x22), (900055, owK 47 4 p_j36 np_j36 c_j36 (j38.1.flatMap en_TNode))]) a w') ?_ ?_
      ·clear H; rintro a w' ⟨p_j36, c_j36, _, rfl, H⟩
       refine k_seq ?_
       replace G := bnd G; obtain ⟨j40, hj40, G⟩ := G
       refine k_join (fun a w' => ∃ (p_j39 : Option Addr) (c_j39 np_j39 : Nat), np_j39 = j40.length ∧ Rep w.heap.size w 107 (ofL [(1, (sP ((u1 0).n 0) 0)), (3, sS p_x22 L_x22.length c_x22), (4, (sS (some ⟨((u2 1).n 0), 0, none⟩) 0 0)), (5, sI x23), (8, sS p_j39 np_j39 c_j39), (107, rdl anyF 5 p_a0_L c_a0_L a0.L en_TInstruction), (108, rdl anyF 1 p_a0_Out c_a0_Out a0.Out en_i64), (109, .blk ((u1 0).n 0) [vI a0.N, .slice p_a0_L a0.L.length c_a0_L, .slice p_a0_Out a0.Out.length c_a0_Out] 25), (111, .blk ((u2 1).n 0) [] 48), (900052, nsK 48 47 4 en_TNode p_x22 L_x22.length c_x22 L_x22 L_x22), (900056, owK 47 4 p_j39 np_j39 c_j39 (j40.flatMap en_TNode))]) a w') ?_ ?_
       ·clear H; rintro a w' ⟨p_j39, c_j39, _, rfl, H⟩
        replace G := gd G; obtain ⟨b42, G⟩ := G
        refine k_rg mixed H (.v 84 (.slice p_x22 L_x22.length c_x22) <|
   .v 85 (.slice p_j39 j40.length c_j39) <|
   .cons [86, 124] (ok_new (fun b => .slice (some ⟨b, 0, none⟩) 1 1) (fun u41 => [.slice p_j39 j40.length c_j39]) 48 86 124) <|
   .cons [87, 900052, 900056, 900052] (ok_own2 [2] [124] (fun u41 => [.blk ((u41 2).n 0) [.slice p_j39 j40.length c_j39] 48]) 900052 900056 (fun u41 => nsK 48 47 4 en_TNode p_x22 L_x22.length c_x22 L_x22 L_x22) (fun u41 => owK 47 4 p_j39 j40.length c_j39 (j40.flatMap en_TNode)) (some 87) (fun u41 g => .slice (g.o 0) (L_x22 ++ [(⟨p_j39, c_j39, j40⟩ : Sl TNode)]).length (g.n 0)) (fun u41 g => nsK 48 47 4 en_TNode (g.o 0) ((L_x22 ++ [(⟨p_j39, c_j39, j40⟩ : Sl TNode)]).length) (g.n 0) (L_x22 ++ [(⟨p_j39, c_j39, j40⟩ : Sl TNode)]) (L_x22 ++ [(⟨p_j39, c_j39, j40⟩ : Sl TNode)])) (fun u41 w hF hK hK2 hd => tn_push hK hK2 hd en_TNode_len (by decide) (fun hn h => run_app_rowN (t := 36) (ty := 36) (en := enSl) enSl_len inf48 h hF.1 (news := [(⟨p_j39, c_j39, j40⟩ : Sl TNode)]) rfl (by simp) (by kernel_rfl) (by rw [← map_len h_x22]; exact b42))) (hloc := fun u u' h => ⟨by first | rfl | simp only [h 2 (by decide)], by first | rfl | simp only [h 2 (by decide)], by first | rfl | simp only [h 2 (by decide)], by first | rfl | simp only [h 2 (by decide)], by first | rfl | simp only [h 2 (by decide)]⟩)) <|
   .cons [3] (ok_val (fun u41 => .slice ((u41 3).o 0) ((L_x22 ++ [(⟨p_j39, c_j39, j40⟩ : Sl TNode)]).length) ((u41 3).n 0)) 3) <| .nil) fun u41 a w' H => ?_
        replace H := H.kp [1, 3, 4, 5, 107, 108, 109, 111, 900052]
        refine k_rg mixed H (.v 18 (vI x23) <|
   .v 19 (vI (w_i64 (x23 + 1))) <|
   .v 5 (vI (w_i64 (x23 + 1))) <| .nil) fun u43 a w' H => ?_
        replace H := H.kp [1, 3, 4, 5, 107, 108, 109, 111, 900052]
        exact ⟨k, Nat.lt_succ_self k, _, _, G, ((u41 3).o 0), ((u41 3).n 0), (L_x22 ++ [(⟨p_j39, c_j39, j40⟩ : Sl TNode)]).length, (L_x22 ++ [(⟨p_j39, c_j39, j40⟩ : Sl TNode)]), rfl, (map_app h_x22 (⟨p_j39, c_j39, j40⟩ : Sl TNode)), H.toL _ (by kernel_rfl)⟩
       ·clear G; replace G := hj40; clear hj40
        refine k_seq ?_
        refine k_rg mixed H (.v 77 (.bool j38.2) <|
   .v 78 (.bool (!j38.2)) <|
   .v 79 (.bool (!j38.2)) <|
   .cons [80] (ok_valg (fun u44 => .slice p_j36 j38.1.length c_j36) (fun u44 => ((!j38.2) == false)) [true] 80) <|
   .cons [81] (ok_valg (fun u44 => vI (j38.1.length : Int)) (fun u44 => ((!j38.2) == false)) [false] 81) <|
   .cons [82] (ok_valg (fun u44 => .bool (decide ((j38.1.length : Int) > 200))) (fun u44 => ((!j38.2) == false)) [false, true] 82) <|
   .cons [83] (ok_or 79 82 (fun u44 => true) (fun u44 => true) (fun u44 => (!j38.2)) (fun u44 => decide ((j38.1.length : Int) > 200)) 83) <| .nil) fun u44 a w' H => ?_
        replace H := H.kp [1, 3, 4, 5, 8, 80, 81, 82, 83, 107, 108, 109, 111, 900052, 900055]
        refine k_cond H (by kernel_rfl) (t := ((!j38.2) || (decide ((j38.1.length : Int) > 200)))) (by kernel_rfl) (fun c46 => ?_) (fun c46 => ?_)
        ·rw [if_pos c46] at G
         refine k_rg mixed H (.v 8 (.slice none 0 0) <| .nil) fun u45 a w' H => ?_
         replace H := H.kp [1, 3, 4, 5, 8, 80, 81, 82, 107, 108, 109, 111, 900052, 900055]
         obtain rfl := Option.some.inj G
         replace H := H.nil_row 127 47 4
         replace H := H.move (K := owK 47 4 none 0 0 (([] : List TNode).flatMap en_TNode)) 127 900056 (by kernel_rfl) (by intro _ _ h; cases h)
         exact ⟨none, 0, 0, rfl, H.toL _ (by kernel_rfl)⟩
        ·rw [if_neg (nt c46)] at G
         refine k_skip ?_
         obtain rfl := Option.some.inj G
         replace H := H.move (K := owK 47 4 p_j36 j38.1.length c_j36 (j38.1.flatMap en_TNode)) 900055 900056 (by kernel_rfl) (by intro _ _ h; cases h)
         exact ⟨p_j36, c_j36, j38.1.length, rfl, H.toL _ (by kernel_rfl)⟩
      ·clear G; replace G := hj38; clear hj38
       refine k_seq ?_
       replace G := bnd G; obtain ⟨t48, ht48, G⟩ := G
       refine k_rg mixed H (.v 56 (vP ((u26 5).n 0) 0) <|
   .cons [57] (ok_ld (fun u47 => vI t28.Op) 57 121 0 1 (fun u47 => ((u26 5).n 0)) (fun u47 => [vI t28.Op, vI t28.A, vI t28.B, vI t28.C.Lo, vI t28.C.Hi]) 50) <|
   .cons [58] (ok_callv 22 (fun u47 => #[vI t28.Op]) (vI t48) 58 [] (fun u47 w _ => armillaryref08_Arity.calls t28.Op  t48 w  ht48)) <|
   .v 59 (.bool (decide (t48 > 1))) <| .nil) fun u47 a w' H => ?_
       replace H := H.kp [1, 3, 4, 5, 6, 8, 9, 59, 107, 108, 109, 111, 121, 900052, 900054]
       refine k_cond H (by kernel_rfl) (t := decide (t48 > 1)) (by kernel_rfl) (fun c57 => ?_) (fun c57 => ?_)
       ·rw [if_pos c57] at G
        refine k_seq ?_
        replace G := gd G; obtain ⟨b50, G⟩ := G
        replace G := bnd G; obtain ⟨t51, ht51, G⟩ := G
        obtain ⟨p_t51, c_t51, y_t51⟩ := sl_get h_x22 ht51
        replace G := gd G; obtain ⟨b52, G⟩ := G
        refine k_rg mixed H (.v 60 (.slice p_j33 j35.1.length c_j33) <|
   .v 61 (.slice p_x22 L_x22.length c_x22) <|
   .v 62 (vP ((u26 5).n 0) 2) <|
   .cons [63] (ok_ld (fun u49 => vI t28.B) 63 121 2 1 (fun u49 => ((u26 5).n 0)) (fun u49 => [vI t28.Op, vI t28.A, vI t28.B, vI t28.C.Lo, vI t28.C.Hi]) 50) <|
   .cons [64] (ok_valL [900052] (fun u49 => [nsK 48 47 4 en_TNode p_x22 L_x22.length c_x22 L_x22 L_x22]) (fun u49 => .pointer (some ⟨hdB p_x22, hdO p_x22 + t28.B.toNat * 1, none⟩)) (fun u49 => true) [true, true] 64 (fun u49 w hg hF => ix_row (t := 36) (k := .i64) (i := t28.B) (p := p_x22) (n := L_x22.length) (cap := c_x22) (x := x22) (en := enSl) (ns_of hF.1).row.2 enSl_len (map_len h_x22) b50 (by kernel_rfl))) <|
   .cons [65] (ok_valL [900052] (fun u49 => [nsK 48 47 4 en_TNode p_x22 L_x22.length c_x22 L_x22 L_x22]) (fun u49 => .slice p_t51 t51.length c_t51) (fun u49 => true) [true] 65 (fun u49 w hg hF => ld_row (en := enSl) (ns_of hF.1).row.2 enSl_len y_t51 0 1 [.slice p_t51 t51.length c_t51] rfl (by kernel_rfl))) <|
   .cons [66, 900054, 900054] (ok_own1 [] [900052] (fun u49 => [nsK 48 47 4 en_TNode p_x22 L_x22.length c_x22 L_x22 L_x22]) 900054 (fun u49 => owK 47 4 p_j33 j35.1.length c_j33 (j35.1.flatMap en_TNode)) (some 66) (fun u49 g => .slice (g.o 0) (j35.1 ++ t51).length (g.n 0)) (fun u49 g => owK 47 4 (g.o 0) ((j35.1 ++ t51).length) (g.n 0) ((j35.1 ++ t51).flatMap en_TNode)) (fun u49 w hF hK => tv_app (run_app_rowsN (t := 48) (ty := 48) (en := en_TNode) (m := t51) (p2 := p_t51) (n2 := t51.length) (cap2 := c_t51) en_TNode_len (fun _ => rfl) inf47 (ow_of hK) ((ns_of hF.1).one y_t51).2 b52 (by kernel_rfl)))) <|
   .cons [8] (ok_val (fun u49 => .slice ((u49 6).o 0) ((j35.1 ++ t51).length) ((u49 6).n 0)) 8) <| .nil) fun u49 a w' H => ?_
        replace H := H.kp [1, 3, 4, 5, 6, 8, 9, 107, 108, 109, 111, 121, 900052, 900054]
        replace G := bnd G; obtain ⟨z54, hz54, G⟩ := G
        replace hz54 := Option.some.inj hz54
        by_cases c55 : z54 = true
        ·rw [if_pos c55] at G; subst c55
         replace G := gd G; obtain ⟨b55, G⟩ := G
         replace G := bnd G; obtain ⟨t56, ht56, G⟩ := G
         obtain ⟨p_t56, c_t56, y_t56⟩ := sl_get h_x22 ht56
         refine k_rg mixed H (.v 67 (.bool j35.2) <|
   .cons [68] (ok_as (u' := fun u53 => [(68, sB true)]) (ok_val (fun u53 => .bool j35.2) 68) (fun _ => by rw [hz54])) <|
   .cons [69] (ok_gd (ok_val (fun u53 => .slice p_x22 L_x22.length c_x22) 69) (by intro _; kernel_rfl)) <|
   .cons [70] (ok_gd (ok_val (fun u53 => vP ((u26 5).n 0) 2) 70) (by intro _; kernel_rfl)) <|
   .cons [71] (ok_gd (ok_ld (fun u53 => vI t28.B) 71 121 2 1 (fun u53 => ((u26 5).n 0)) (fun u53 => [vI t28.Op, vI t28.A, vI t28.B, vI t28.C.Lo, vI t28.C.Hi]) 50) (by intro _; kernel_rfl)) <|
   .cons [72] (ok_gd (ok_valL [900052] (fun u53 => [nsK 48 47 4 en_TNode p_x22 L_x22.length c_x22 L_x22 L_x22]) (fun u53 => .pointer (some ⟨hdB p_x22, hdO p_x22 + t28.B.toNat * 1, none⟩)) (fun u53 => true) [true, true] 72 (fun u53 w hg hF => ix_row (t := 36) (k := .i64) (i := t28.B) (p := p_x22) (n := L_x22.length) (cap := c_x22) (x := x22) (en := enSl) (ns_of hF.1).row.2 enSl_len (map_len h_x22) b55 (by kernel_rfl))) (by intro _; kernel_rfl)) <|
   .cons [73] (ok_gd (ok_valL [900052] (fun u53 => [nsK 48 47 4 en_TNode p_x22 L_x22.length c_x22 L_x22 L_x22]) (fun u53 => .slice p_t56 t56.length c_t56) (fun u53 => true) [true] 73 (fun u53 w hg hF => ld_row (en := enSl) (ns_of hF.1).row.2 enSl_len y_t56 0 1 [.slice p_t56 t56.length c_t56] rfl (by kernel_rfl))) (by intro _; kernel_rfl)) <|
   .cons [74] (ok_gd (ok_val (fun u53 => vI (t56.length : Int)) 74) (by intro _; kernel_rfl)) <|
   .cons [75] (ok_gd (ok_val (fun u53 => .bool (decide ((t56.length : Int) > 0))) 75) (by intro _; kernel_rfl)) <|
   .cons [76] (ok_pickK (fun u53 => .bool (decide ((t56.length : Int) > 0))) 76) <|
   .v 9 (.bool (decide ((t56.length : Int) > 0))) <| .nil) fun u53 a w' H => ?_
         replace H := H.kp [1, 3, 4, 5, 8, 9, 69, 70, 71, 72, 73, 74, 75, 107, 108, 109, 111, 121, 900052, 900054]
         obtain rfl := Option.some.inj G
         replace H := H.move (K := owK 47 4 ((u49 6).o 0) ((j35.1 ++ t51).length) ((u49 6).n 0) ((j35.1 ++ t51).flatMap en_TNode)) 900054 900055 (by kernel_rfl) (by intro _ _ h; cases h)
         exact ⟨((u49 6).o 0), ((u49 6).n 0), (j35.1 ++ t51).length, rfl, H.toL _ (by kernel_rfl)⟩
        rw [if_neg c55] at G
        by_cases c56 : z54 = false
        ·rw [if_pos c56] at G; subst c56
         refine k_rg mixed H (.v 67 (.bool j35.2) <|
   .cons [68] (ok_as (u' := fun u53 => [(68, sB false)]) (ok_val (fun u53 => .bool j35.2) 68) (fun _ => by rw [hz54])) <|
   .cons [69] (ok_offB 69) <|
   .cons [70] (ok_offB 70) <|
   .cons [71] (ok_offB 71) <|
   .cons [72] (ok_offB 72) <|
   .cons [73] (ok_offB 73) <|
   .cons [74] (ok_offB 74) <|
   .cons [75] (ok_offB 75) <|
   .cons [76] (ok_pickK (fun u53 => .bool false) 76) <|
   .v 9 (.bool false) <| .nil) fun u53 a w' H => ?_
         replace H := H.kp [1, 3, 4, 5, 8, 9, 69, 70, 71, 72, 73, 74, 75, 107, 108, 109, 111, 900052, 900054]
         obtain rfl := Option.some.inj G
         replace H := H.move (K := owK 47 4 ((u49 6).o 0) ((j35.1 ++ t51).length) ((u49 6).n 0) ((j35.1 ++ t51).flatMap en_TNode)) 900054 900055 (by kernel_rfl) (by intro _ _ h; cases h)
         exact ⟨((u49 6).o 0), ((u49 6).n 0), (j35.1 ++ t51).length, rfl, H.toL _ (by kernel_rfl)⟩
        rw [if_neg c56] at G
        cases G
       ·rw [if_neg (nt c57)] at G
        refine k_skip ?_
        obtain rfl := Option.some.inj G
        replace H := H.move (K := owK 47 4 p_j33 j35.1.length c_j33 (j35.1.flatMap en_TNode)) 900054 900055 (by kernel_rfl) (by intro _ _ h; cases h)
        exact ⟨p_j33, c_j33, j35.1.length, rfl, H.toL _ (by kernel_rfl)⟩
     ·clear G; replace G := hj35; clear hj35
      refine k_seq ?_
      replace G := bnd G; obtain ⟨t59, ht59, G⟩ := G
      refine k_rg mixed H (.v 38 (vP ((u26 5).n 0) 0) <|
   .cons [39] (ok_ld (fun u58 => vI t28.Op) 39 121 0 1 (fun u58 => ((u26 5).n 0)) (fun u58 => [vI t28.Op, vI t28.A, vI t28.B, vI t28.C.Lo, vI t28.C.Hi]) 50) <|
   .cons [40] (ok_callv 22 (fun u58 => #[vI t28.Op]) (vI t59) 40 [] (fun u58 w _ => armillaryref08_Arity.calls t28.Op  t59 w  ht59)) <|
   .v 41 (.bool (decide (t59 > 0))) <| .nil) fun u58 a w' H => ?_
      replace H := H.toM [(1, (sP ((u1 0).n 0) 0)), (3, sS p_x22 L_x22.length c_x22), (4, (sS (some ⟨((u2 1).n 0), 0, none⟩) 0 0)), (5, sI x23), (6, (sP ((u26 5).n 0) 0)), (8, (sS (some ⟨((u32 1).n 0), 0, none⟩) 1 1)), (9, sB true), (41, (sB (decide (t59 > 0)))), (107, rdl anyF 5 p_a0_L c_a0_L a0.L en_TInstruction), (108, rdl anyF 1 p_a0_Out c_a0_Out a0.Out en_i64), (109, .blk ((u1 0).n 0) [vI a0.N, .slice p_a0_L a0.L.length c_a0_L, .slice p_a0_Out a0.Out.length c_a0_Out] 25), (111, .blk ((u2 1).n 0) [] 48), (121, .blk ((u26 5).n 0) [vI t28.Op, vI t28.A, vI t28.B, vI t28.C.Lo, vI t28.C.Hi] 50), (123, .blk ((u32 1).n 0) [vI t28.Op, vI j31, vI t28.C.Lo, vI t28.C.Hi] 47), (900052, nsK 48 47 4 en_TNode p_x22 L_x22.length c_x22 L_x22 L_x22)]
      refine k_cond H (by kernel_rfl) (t := decide (t59 > 0)) (by kernel_rfl) (fun c67 => ?_) (fun c67 => ?_)
      ·rw [if_pos c67] at G
       refine k_seq ?_
       replace H := H.blk_row 123 ((u32 1).n 0) [vI t28.Op, vI j31, vI t28.C.Lo, vI t28.C.Hi] 47 4 1 (by kernel_rfl) (by kernel_rfl) (by decide)
       replace G := gd G; obtain ⟨b61, G⟩ := G
       replace G := bnd G; obtain ⟨t62, ht62, G⟩ := G
       obtain ⟨p_t62, c_t62, y_t62⟩ := sl_get h_x22 ht62
       replace G := gd G; obtain ⟨b63, G⟩ := G
       refine k_rg mixed H (.v 42 (.slice (some ⟨((u32 1).n 0), 0, none⟩) 1 1) <|
   .v 43 (.slice p_x22 L_x22.length c_x22) <|
   .v 44 (vP ((u26 5).n 0) 1) <|
   .cons [45] (ok_ld (fun u60 => vI t28.A) 45 121 1 1 (fun u60 => ((u26 5).n 0)) (fun u60 => [vI t28.Op, vI t28.A, vI t28.B, vI t28.C.Lo, vI t28.C.Hi]) 50) <|
   .cons [46] (ok_valL [900052] (fun u60 => [nsK 48 47 4 en_TNode p_x22 L_x22.length c_x22 L_x22 L_x22]) (fun u60 => .pointer (some ⟨hdB p_x22, hdO p_x22 + t28.A.toNat * 1, none⟩)) (fun u60 => true) [true, true] 46 (fun u60 w hg hF => ix_row (t := 36) (k := .i64) (i := t28.A) (p := p_x22) (n := L_x22.length) (cap := c_x22) (x := x22) (en := enSl) (ns_of hF.1).row.2 enSl_len (map_len h_x22) b61 (by kernel_rfl))) <|
   .cons [47] (ok_valL [900052] (fun u60 => [nsK 48 47 4 en_TNode p_x22 L_x22.length c_x22 L_x22 L_x22]) (fun u60 => .slice p_t62 t62.length c_t62) (fun u60 => true) [true] 47 (fun u60 w hg hF => ld_row (en := enSl) (ns_of hF.1).row.2 enSl_len y_t62 0 1 [.slice p_t62 t62.length c_t62] rfl (by kernel_rfl))) <|
   .cons [48, 123, 123] (ok_own1 [] [900052] (fun u60 => [nsK 48 47 4 en_TNode p_x22 L_x22.length c_x22 L_x22 L_x22]) 123 (fun u60 => owK 47 4 (some ⟨((u32 1).n 0), 0, none⟩) 1 1 (([(⟨t28.Op, j31, (⟨t28.C.Lo, t28.C.Hi⟩ : TInterval)⟩ : TNode)] : List TNode).flatMap en_TNode)) (some 48) (fun u60 g => .slice (g.o 0) (([(⟨t28.Op, j31, (⟨t28.C.Lo, t28.C.Hi⟩ : TInterval)⟩ : TNode)] : List TNode) ++ t62).length (g.n 0)) (fun u60 g => owK 47 4 (g.o 0) ((([(⟨t28.Op, j31, (⟨t28.C.Lo, t28.C.Hi⟩ : TInterval)⟩ : TNode)] : List TNode) ++ t62).length) (g.n 0) ((([(⟨t28.Op, j31, (⟨t28.C.Lo, t28.C.Hi⟩ : TInterval)⟩ : TNode)] : List TNode) ++ t62).flatMap en_TNode)) (fun u60 w hF hK => tv_app (run_app_rowsN (t := 48) (ty := 48) (en := en_TNode) (m := t62) (p2 := p_t62) (n2 := t62.length) (cap2 := c_t62) en_TNode_len (fun _ => rfl) inf47 (ow_of hK) ((ns_of hF.1).one y_t62).2 b63 (by kernel_rfl)))) <|
   .cons [8] (ok_val (fun u60 => .slice ((u60 6).o 0) ((([(⟨t28.Op, j31, (⟨t28.C.Lo, t28.C.Hi⟩ : TInterval)⟩ : TNode)] : List TNode) ++ t62).length) ((u60 6).n 0)) 8) <| .nil) fun u60 a w' H => ?_
       replace H := H.kp [1, 3, 4, 5, 6, 8, 107, 108, 109, 111, 121, 123, 900052]
       replace G := gd G; obtain ⟨b65, G⟩ := G
       replace G := bnd G; obtain ⟨t66, ht66, G⟩ := G
       obtain ⟨p_t66, c_t66, y_t66⟩ := sl_get h_x22 ht66
       refine k_rg mixed H (.v 49 (.slice p_x22 L_x22.length c_x22) <|
   .v 50 (vP ((u26 5).n 0) 1) <|
   .cons [51] (ok_ld (fun u64 => vI t28.A) 51 121 1 1 (fun u64 => ((u26 5).n 0)) (fun u64 => [vI t28.Op, vI t28.A, vI t28.B, vI t28.C.Lo, vI t28.C.Hi]) 50) <|
   .cons [52] (ok_valL [900052] (fun u64 => [nsK 48 47 4 en_TNode p_x22 L_x22.length c_x22 L_x22 L_x22]) (fun u64 => .pointer (some ⟨hdB p_x22, hdO p_x22 + t28.A.toNat * 1, none⟩)) (fun u64 => true) [true, true] 52 (fun u64 w hg hF => ix_row (t := 36) (k := .i64) (i := t28.A) (p := p_x22) (n := L_x22.length) (cap := c_x22) (x := x22) (en := enSl) (ns_of hF.1).row.2 enSl_len (map_len h_x22) b65 (by kernel_rfl))) <|
   .cons [53] (ok_valL [900052] (fun u64 => [nsK 48 47 4 en_TNode p_x22 L_x22.length c_x22 L_x22 L_x22]) (fun u64 => .slice p_t66 t66.length c_t66) (fun u64 => true) [true] 53 (fun u64 w hg hF => ld_row (en := enSl) (ns_of hF.1).row.2 enSl_len y_t66 0 1 [.slice p_t66 t66.length c_t66] rfl (by kernel_rfl))) <|
   .v 54 (vI (t66.length : Int)) <|
   .v 55 (.bool (decide ((t66.length : Int) > 0))) <|
   .v 9 (.bool (decide ((t66.length : Int) > 0))) <| .nil) fun u64 a w' H => ?_
       replace H := H.kp [1, 3, 4, 5, 6, 8, 9, 107, 108, 109, 111, 121, 123, 900052]
       obtain rfl := Option.some.inj G
       replace H := H.move (K := owK 47 4 ((u60 6).o 0) ((([(⟨t28.Op, j31, (⟨t28.C.Lo, t28.C.Hi⟩ : TInterval)⟩ : TNode)] : List TNode) ++ t62).length) ((u60 6).n 0) ((([(⟨t28.Op, j31, (⟨t28.C.Lo, t28.C.Hi⟩ : TInterval)⟩ : TNode)] : List TNode) ++ t62).flatMap en_TNode)) 123 900054 (by kernel_rfl) (by intro _ _ h; cases h)
       exact ⟨((u60 6).o 0), ((u60 6).n 0), (([(⟨t28.Op, j31, (⟨t28.C.Lo, t28.C.Hi⟩ : TInterval)⟩ : TNode)] : List TNode) ++ t62).length, rfl, H.toL _ (by kernel_rfl)⟩
      ·rw [if_neg (nt c67)] at G
       refine k_skip ?_
       obtain rfl := Option.some.inj G
       replace H := H.blk_row 123 ((u32 1).n 0) [vI t28.Op, vI j31, vI t28.C.Lo, vI t28.C.Hi] 47 4 1 (by kernel_rfl) (by kernel_rfl) (by decide)
       replace H := H.move (K := owK 47 4 (some ⟨((u32 1).n 0), 0, none⟩) 1 1 (([(⟨t28.Op, j31, (⟨t28.C.Lo, t28.C.Hi⟩ : TInterval)⟩ : TNode)] : List TNode).flatMap en_TNode)) 123 900054 (by kernel_rfl) (by intro _ _ h; cases h)
       exact ⟨(some ⟨((u32 1).n 0), 0, none⟩), 1, 1, rfl, H.toL _ (by kernel_rfl)⟩
    ·clear G; replace G := hj31; clear hj31
     refine k_seq ?_
     refine k_rg mixed H (.v 30 (vP ((u26 5).n 0) 0) <|
   .cons [31] (ok_ld (fun u68 => vI t28.Op) 31 121 0 1 (fun u68 => ((u26 5).n 0)) (fun u68 => [vI t28.Op, vI t28.A, vI t28.B, vI t28.C.Lo, vI t28.C.Hi]) 50) <|
   .v 32 (.bool (t28.Op == 2)) <| .nil) fun u68 a w' H => ?_
     replace H := H.kp [1, 3, 4, 5, 6, 7, 32, 107, 108, 109, 111, 121, 122, 900052]
     refine k_cond H (by kernel_rfl) (t := (t28.Op == 2)) (by kernel_rfl) (fun c70 => ?_) (fun c70 => ?_)
     ·rw [if_pos c70] at G
      refine k_rg mixed H (.v 33 (vP ((u26 5).n 0) 1) <|
   .cons [34] (ok_ld (fun u69 => vI t28.A) 34 121 1 1 (fun u69 => ((u26 5).n 0)) (fun u69 => [vI t28.Op, vI t28.A, vI t28.B, vI t28.C.Lo, vI t28.C.Hi]) 50) <|
   .v 35 (vP ((u29 5).n 0) 1) <|
   .cons [122] (ok_as (u' := fun u69 => [(122, .blk ((u29 5).n 0) [vI t28.Op, vI t28.A, vI t28.C.Lo, vI t28.C.Hi] 47)]) (ok_store 122 1 (fun u69 => ((u29 5).n 0)) (fun u69 => [vI t28.Op, vI 0, vI t28.C.Lo, vI t28.C.Hi]) (fun u69 => [vI t28.A]) 47) (fun _ => by kernel_rfl)) <| .nil) fun u69 a w' H => ?_
      replace H := H.kp [1, 3, 4, 5, 6, 7, 107, 108, 109, 111, 121, 122, 900052]
      obtain rfl := Option.some.inj G
      exact H.toL _ (by kernel_rfl)
     ·rw [if_neg (nt c70)] at G
      refine k_skip ?_
      obtain rfl := Option.some.inj G
      exact H.toL _ (by kernel_rfl)
   ·rw [if_neg (nt c71)] at G
    refine k_exit rfl ?_
    obtain rfl := Option.some.inj G
    replace H := H.denest (e := 48) (e2 := 47) (m := L_x22.length) (cap := c_x22) (p := p_x22) (L := L_x22) 900052 134 fr (by decide) en_TNode_len (fun _ => rfl) hBf (by kernel_rfl) (by decide)
    replace H := H.demote fr 900052 48 1 p_x22 L_x22.length c_x22 (L_x22.flatMap enSl) (by kernel_rfl) (by decide) hBf
    replace H := H.dup (K := rdl fr 1 p_x22 c_x22 L_x22 enSl) 900052 900046 (by kernel_rfl) (fun h => h) (by intro _ _ h; cases h)
    replace H := H.dup (K := dnK fr E_S_TNode.toPart L_x22) 134 900047 (by kernel_rfl) (fun h => h) (by intro _ _ h; cases h)
    exact ⟨p_x22, c_x22, L_x22.length, L_x22, rfl, h_x22, H.toL _ (by kernel_rfl)⟩
set_option maxHeartbeats 4000000 in
theorem armillaryref08_System.calls (k0 : Nat) (a0 : TTape) (p_a0_L : Option Addr) (c_a0_L : Nat) (p_a0_Out : Option Addr) (c_a0_Out : Nat) (r : TSystem) (w : World) (hB : AllH [rdl anyF 5 p_a0_L c_a0_L a0.L en_TInstruction, rdl anyF 1 p_a0_Out c_a0_Out a0.Out en_i64] w) (G : armillaryref08_System k0 a0 = some r) :
  Calls Tryd.prog 8 #[.agg #[vI a0.N, .slice p_a0_L a0.L.length c_a0_L, .slice p_a0_Out a0.Out.length c_a0_Out]] w fun e w' => ∃ g : Gh, e = .returned (.agg #[.slice (g.o 0) r.Names.length (g.n 0), .slice (g.o 1) ((g.dl Sl.l gd_S_TNode 1 r.F).length) (g.n 1)]) ∧ But (fpK []) w w' ∧ OutOK w.heap.size (fpK []) (frI w.heap.size []) [fun _ => owK 9 1 (g.o 0) r.Names.length (g.n 0) (r.Names.flatMap en_str), fun _ => owK 48 1 (g.o 1) ((g.dl Sl.l gd_S_TNode 1 r.F).length) (g.n 1) ((g.dl Sl.l gd_S_TNode 1 r.F).flatMap enSl), fun fr => dnK fr E_S_TNode.toPart (g.dl Sl.l gd_S_TNode 1 r.F)] w' := by
 obtain ⟨fr, hfr⟩ : ∃ fr : Nat → Prop, fr = frI w.heap.size [] := ⟨_, rfl⟩
 have hBf : ∀ j, w.heap.size ≤ j → fr j := fun j h => by rw [hfr]; exact .inl h
 refine k_enterF (args := [.agg #[vI a0.N, .slice p_a0_L a0.L.length c_a0_L, .slice p_a0_Out a0.Out.length c_a0_Out]]) 42 [(42, rdl anyF 5 p_a0_L c_a0_L a0.L en_TInstruction), (43, rdl anyF 1 p_a0_Out c_a0_Out a0.Out en_i64)] (by
  intro x hx
  simp only [List.mem_cons, List.not_mem_nil, or_false] at hx
  rcases hx with rfl | rfl
  ·exact rdF_fact (rdF_of hB.1) (fun _ _ => trivial) (by decide) _
  ·exact rdF_fact (rdF_of hB.2.1) (fun _ _ => trivial) (by decide) _) Tryd.func8 rfl (by kernel_rfl) (by kernel_rfl) fun a H => ?_
 unfold armillaryref08_System at G
 refine k_seq ?_
 refine k_rg mixed H (.cons [1, 44] (ok_new (fun b => vP b 0) (fun u1 => [vI a0.N, .slice p_a0_L a0.L.length c_a0_L, .slice p_a0_Out a0.Out.length c_a0_Out]) 25 1 44) <|
   .cons [2, 45] (ok_new (fun b => vP b 0) (fun u1 => [.slice none 0 0, .slice none 0 0]) 38 2 45) <| .nil) fun u1 a w' H => ?_
 replace H := H.kp [1, 2, 42, 43, 44, 45]
 refine k_seq ?_
 refine k_rg mixed H (.v 7 (.agg #[.slice none 0 0, .slice none 0 0]) <|
   .cons [3, 46] (ok_new (fun b => vP b 0) (fun u2 => [.slice none 0 0, .slice none 0 0]) 38 3 46) <|
   .cons [46] (ok_as (u' := fun u2 => [(46, .blk ((u2 1).n 0) [.slice none 0 0, .slice none 0 0] 38)]) (ok_store 46 0 (fun u2 => ((u2 1).n 0)) (fun u2 => [.slice none 0 0, .slice none 0 0]) (fun u2 => [.slice none 0 0, .slice none 0 0]) 38) (fun _ => by kernel_rfl)) <| .nil) fun u2 a w' H => ?_
 replace H := H.kp [1, 2, 3, 42, 43, 44, 45, 46]
 refine k_seq ?_
 replace G := bnd G; obtain ⟨t4, ht4, G⟩ := G
 refine k_rg mixed H (.cons [8] (ok_ld (fun u3 => .agg #[vI a0.N, .slice p_a0_L a0.L.length c_a0_L, .slice p_a0_Out a0.Out.length c_a0_Out]) 8 44 0 3 (fun u3 => ((u1 0).n 0)) (fun u3 => [vI a0.N, .slice p_a0_L a0.L.length c_a0_L, .slice p_a0_Out a0.Out.length c_a0_Out]) 25) <|
   .cons [9, 47, 48] (ok_callY true fr [] [42, 43] (fun u3 => [rdl anyF 5 p_a0_L c_a0_L a0.L en_TInstruction, rdl anyF 1 p_a0_Out c_a0_Out a0.Out en_i64]) [] (fun u3 => []) 27 (fun u3 => #[.agg #[vI a0.N, .slice p_a0_L a0.L.length c_a0_L, .slice p_a0_Out a0.Out.length c_a0_Out]]) (fun u3 => [rdl anyF 5 p_a0_L c_a0_L a0.L en_TInstruction, rdl anyF 1 p_a0_Out c_a0_Out a0.Out en_i64]) (fun u3 => []) (fun u3 g => .slice (g.o 0) ((g.dl Sl.l gd_S_TNode 0 t4).length) (g.n 0)) (fun u3 g => [fun _ => owK 48 1 (g.o 0) ((g.dl Sl.l gd_S_TNode 0 t4).length) (g.n 0) ((g.dl Sl.l gd_S_TNode 0 t4).flatMap enSl), fun fr => dnK fr E_S_TNode.toPart (g.dl Sl.l gd_S_TNode 0 t4)]) [47, 48] 9 (fun u3 w hB hF hM => armillaryref08_Decompile.calls k0 (⟨a0.N, a0.L, a0.Out⟩ : TTape) p_a0_L c_a0_L p_a0_Out c_a0_Out t4 w  hB ht4) (fun u3 w hF => ⟨⟨sub_rd0 (rdF_of hF.1) (fun j h => ⟨_, (.head _), h⟩), sub_rd0 (rdF_of hF.2.1) (fun j h => ⟨_, (.tail _ (.head _)), h⟩), trivial⟩, trivial⟩) (fun u3 g => (fams_cons fam_ow (fams_cons fam_dn fams_nil))) (.inl rfl) (fun _ => hBf)) <|
   .cons [4] (ok_val (fun u3 => .slice ((u3 1).o 0) (((u3 1).dl Sl.l gd_S_TNode 0 t4).length) ((u3 1).n 0)) 4) <| .nil) fun u3 a w' H => ?_
 replace H := H.kp [2, 3, 4, 45, 46, 47, 48]
 refine k_seq ?_
 replace G := bnd G; obtain ⟨j7, hj7, G⟩ := G
 refine k_join (fun a w' => ∃ (p_j5 : Option Addr) (c_j5 np_j5 : Nat), np_j5 = j7.1.length ∧ ∃ (p_j6 : Option Addr) (c_j6 np_j6 : Nat) (L_j6 : List (Sl TNode)), np_j6 = L_j6.length ∧ j7.2 = L_j6.map Sl.l ∧ Rep w.heap.size w 42 (ofL [(2, (sP ((u1 1).n 0) 0)), (3, (sP ((u2 1).n 0) 0)), (45, .blk ((u1 1).n 0) [.slice none 0 0, .slice none 0 0] 38), (46, .blk ((u2 1).n 0) [.slice p_j5 np_j5 c_j5, .slice p_j6 np_j6 c_j6] 38), (900057, owK 9 1 p_j5 np_j5 c_j5 (j7.1.flatMap en_str)), (900058, owK 48 1 p_j6 np_j6 c_j6 (L_j6.flatMap enSl)), (900059, dnK fr E_S_TNode.toPart L_j6)]) a w') ?_ ?_
 ·clear H; rintro a w' ⟨p_j5, c_j5, _, rfl, p_j6, c_j6, _, L_j6, rfl, h_j6, H⟩
  refine k_seq ?_
  refine k_rg mixed H (.cons [41] (ok_ld (fun u8 => .agg #[.slice p_j5 j7.1.length c_j5, .slice p_j6 L_j6.length c_j6]) 41 46 0 2 (fun u8 => ((u2 1).n 0)) (fun u8 => [.slice p_j5 j7.1.length c_j5, .slice p_j6 L_j6.length c_j6]) 38) <|
   .cons [45] (ok_as (u' := fun u8 => [(45, .blk ((u1 1).n 0) [.slice p_j5 j7.1.length c_j5, .slice p_j6 L_j6.length c_j6] 38)]) (ok_store 45 0 (fun u8 => ((u1 1).n 0)) (fun u8 => [.slice none 0 0, .slice none 0 0]) (fun u8 => [.slice p_j5 j7.1.length c_j5, .slice p_j6 L_j6.length c_j6]) 38) (fun _ => by kernel_rfl)) <| .nil) fun u8 a w' H => ?_
  replace H := H.kp [2, 45, 900057, 900058, 900059]
  refine k_ret ?_
  obtain rfl := Option.some.inj G
  obtain ⟨g, o0, n0, o1, n1, d1⟩ : ∃ g : Gh, g.o 0 = p_j5 ∧ g.n 0 = c_j5 ∧ g.o 1 = p_j6 ∧ g.n 1 = c_j6 ∧ g.dl Sl.l gd_S_TNode 1 j7.2 = L_j6 := ⟨⟨fun i => [c_j5, c_j6].getD i 0, fun i => [p_j5, p_j6].getD i none, fun i => ([⟨Unit, ()⟩, ⟨List (Sl TNode), L_j6⟩] : List ((T : Type) × T)).getD i ⟨Unit, ()⟩⟩, rfl, rfl, rfl, rfl, dl_mk rfl h_j6⟩
  refine k_doneZ H (fun g => .agg #[.slice (g.o 0) j7.1.length (g.n 0), .slice (g.o 1) ((g.dl Sl.l gd_S_TNode 1 j7.2).length) (g.n 1)]) g [] [] (fun g => [fun _ => owK 9 1 (g.o 0) j7.1.length (g.n 0) (j7.1.flatMap en_str), fun _ => owK 48 1 (g.o 1) ((g.dl Sl.l gd_S_TNode 1 j7.2).length) (g.n 1) ((g.dl Sl.l gd_S_TNode 1 j7.2).flatMap enSl), fun fr => dnK fr E_S_TNode.toPart (g.dl Sl.l gd_S_TNode 1 j7.2)]) fr [900057, 900058, 900059] [(45, ⟨((u1 1).n 0), [.slice p_j5 j7.1.length c_j5, .slice p_j6 L_j6.length c_j6], 0, 2⟩)] (.agg #[.slice p_j5 j7.1.length c_j5, .slice p_j6 L_j6.length c_j6]) [fun _ => owK 9 1 p_j5 j7.1.length c_j5 (j7.1.flatMap en_str), fun _ => owK 48 1 p_j6 L_j6.length c_j6 (L_j6.flatMap enSl), fun fr => dnK fr E_S_TNode.toPart L_j6] (by simp only [o0, n0, o1, n1, d1]) (by simp only [o0, n0, o1, n1, d1]) hfr (.inl ⟨rfl, rfl⟩) (fams_cons fam_ow (fams_cons fam_ow (fams_cons fam_dn fams_nil))) (by intro p hp; simp only [List.mem_cons, List.not_mem_nil, or_false] at hp; rcases hp with rfl; exact ⟨⟨38, by kernel_rfl⟩, by kernel_rfl⟩)
 ·clear G; replace G := hj7; clear hj7
  refine k_seq ?_
  refine k_rg mixed H (.v 5 (vI 0) <| .nil) fun u9 a w' H => ?_
  replace H := H.kp [2, 3, 4, 5, 45, 46, 47, 48]
  refine k_block ?_
  replace H := H.nil_row 64 9 1
  replace H := H.nil_row 66 48 1
  replace H := H.add0 67 (dnK fr E_S_TNode.toPart ([] : List (Sl TNode))) (by intro _ _ h; cases h) (dn_holds rdl_nil (fun j h => by obtain ⟨_, hy, _⟩ := h; cases hy)) (fun j h => by obtain ⟨_, hy, _⟩ := h; cases hy)
  replace H := H.move (K := owK 9 1 none 0 0 (([] : List ByteArray).flatMap en_str)) 64 900060 (by kernel_rfl) (by intro _ _ h; cases h)
  replace H := H.move (K := owK 48 1 none 0 0 (([] : List (Sl TNode)).flatMap enSl)) 66 900061 (by kernel_rfl) (by intro _ _ h; cases h)
  replace H := H.dup (K := dnK fr E_S_TNode.toPart ([] : List (Sl TNode))) 67 900062 (by kernel_rfl) (fun h => h) (by intro _ _ h; cases h)
  refine k_loopJ (fun m a w' => ∃ x10 : List ByteArray, ∃ x11 : List (List TNode), ∃ x12 : Int, armillaryref08_System.l13 k0 a0 t4 m x10 x11 x12 = some j7 ∧ ∃ (p_x10 : Option Addr) (c_x10 np_x10 : Nat), np_x10 = x10.length ∧ ∃ (p_x11 : Option Addr) (c_x11 np_x11 : Nat) (L_x11 : List (Sl TNode)), np_x11 = L_x11.length ∧ x11 = L_x11.map Sl.l ∧ Rep w.heap.size w 42 (ofL [(2, (sP ((u1 1).n 0) 0)), (3, (sP ((u2 1).n 0) 0)), (4, (sS ((u3 1).o 0) (((u3 1).dl Sl.l gd_S_TNode 0 t4).length) ((u3 1).n 0))), (5, sI x12), (45, .blk ((u1 1).n 0) [.slice none 0 0, .slice none 0 0] 38), (46, .blk ((u2 1).n 0) [.slice p_x10 np_x10 c_x10, .slice p_x11 np_x11 c_x11] 38), (47, owK 48 1 ((u3 1).o 0) (((u3 1).dl Sl.l gd_S_TNode 0 t4).length) ((u3 1).n 0) (((u3 1).dl Sl.l gd_S_TNode 0 t4).flatMap enSl)), (48, dnK fr E_S_TNode.toPart ((u3 1).dl Sl.l gd_S_TNode 0 t4)), (900060, owK 9 1 p_x10 np_x10 c_x10 (x10.flatMap en_str)), (900061, owK 48 1 p_x11 np_x11 c_x11 (L_x11.flatMap enSl)), (900062, dnK fr E_S_TNode.toPart L_x11)]) a w') k0 ⟨_, _, _, G, none, 0, 0, rfl, none, 0, 0, ([] : List (Sl TNode)), rfl, rfl, H.toL _ (by kernel_rfl)⟩ ?_
  clear G H
  rintro (_ | k) a w' ⟨x10, x11, x12, G, p_x10, c_x10, _, rfl, p_x11, c_x11, _, L_x11, rfl, h_x11, H⟩
  ·exact absurd G (by unfold armillaryref08_System.l13; exact fun h => by cases h)
  ·unfold armillaryref08_System.l13 at G
   refine k_seq ?_
   refine k_seq ?_
   refine k_rg mixed H (.v 10 (vI x12) <|
   .v 11 (.slice ((u3 1).o 0) (((u3 1).dl Sl.l gd_S_TNode 0 t4).length) ((u3 1).n 0)) <|
   .cons [12] (ok_valL [47] (fun u14 => [owK 48 1 ((u3 1).o 0) (((u3 1).dl Sl.l gd_S_TNode 0 t4).length) ((u3 1).n 0) (((u3 1).dl Sl.l gd_S_TNode 0 t4).flatMap enSl)]) (fun u14 => vI (t4.length : Int)) (fun u14 => true) [true] 12 (fun u14 w hg hF => run_lenN (((owns_rowC (ow_of hF.1)).2.len enSl_len (by decide)).trans (map_len (dl_er ergd_S_TNode (u3 1) 0 t4)).symm) (by kernel_rfl))) <|
   .v 13 (.bool (decide (x12 < (t4.length : Int)))) <| .nil) fun u14 a w' H => ?_
   replace H := H.kp [2, 3, 4, 5, 13, 45, 46, 47, 48, 900060, 900061, 900062]
   refine k_cond H (by kernel_rfl) (t := decide (x12 < (t4.length : Int))) (by kernel_rfl) (fun c31 => ?_) (fun c31 => ?_)
   ·rw [if_pos c31] at G
    refine k_skip ?_
    refine k_seq ?_
    refine k_block ?_
    refine k_seq ?_
    replace G := gd G; obtain ⟨b16, G⟩ := G
    replace G := bnd G; obtain ⟨t17, ht17, G⟩ := G
    obtain ⟨p_t17, c_t17, y_t17⟩ := sl_get (dl_er ergd_S_TNode (u3 1) 0 t4) ht17
    refine k_rg mixed H (.v 16 (.slice ((u3 1).o 0) (((u3 1).dl Sl.l gd_S_TNode 0 t4).length) ((u3 1).n 0)) <|
   .v 17 (vI x12) <|
   .cons [18] (ok_valL [47] (fun u15 => [owK 48 1 ((u3 1).o 0) (((u3 1).dl Sl.l gd_S_TNode 0 t4).length) ((u3 1).n 0) (((u3 1).dl Sl.l gd_S_TNode 0 t4).flatMap enSl)]) (fun u15 => .pointer (some ⟨hdB ((u3 1).o 0), hdO ((u3 1).o 0) + x12.toNat * 1, none⟩)) (fun u15 => true) [true, true] 18 (fun u15 w hg hF => ix_row (t := 36) (k := .i64) (i := x12) (p := ((u3 1).o 0)) (n := ((u3 1).dl Sl.l gd_S_TNode 0 t4).length) (cap := ((u3 1).n 0)) (x := t4) (en := enSl) (owns_rowC (ow_of hF.1)).2 enSl_len (map_len (dl_er ergd_S_TNode (u3 1) 0 t4)) b16 (by kernel_rfl))) <|
   .cons [19] (ok_valL [47] (fun u15 => [owK 48 1 ((u3 1).o 0) (((u3 1).dl Sl.l gd_S_TNode 0 t4).length) ((u3 1).n 0) (((u3 1).dl Sl.l gd_S_TNode 0 t4).flatMap enSl)]) (fun u15 => .slice p_t17 t17.length c_t17) (fun u15 => true) [true] 19 (fun u15 w hg hF => ld_row (en := enSl) (owns_rowC (ow_of hF.1)).2 enSl_len y_t17 0 1 [.slice p_t17 t17.length c_t17] rfl (by kernel_rfl))) <|
   .v 6 (.slice p_t17 t17.length c_t17) <| .nil) fun u15 a w' H => ?_
    replace H := H.kp [2, 3, 4, 5, 6, 45, 46, 47, 48, 900060, 900061, 900062]
    refine k_seq ?_
    replace G := bnd G; obtain ⟨j19, hj19, G⟩ := G
    refine k_join (fun a w' => ∃ (p_j18 : Option Addr) (c_j18 np_j18 : Nat), np_j18 = j19.length ∧ Rep w.heap.size w 42 (ofL [(2, (sP ((u1 1).n 0) 0)), (3, (sP ((u2 1).n 0) 0)), (4, (sS ((u3 1).o 0) (((u3 1).dl Sl.l gd_S_TNode 0 t4).length) ((u3 1).n 0))), (5, sI x12), (6, sS p_j18 np_j18 c_j18), (45, .blk ((u1 1).n 0) [.slice none 0 0, .slice none 0 0] 38), (46, .blk ((u2 1).n 0) [.slice p_x10 x10.length c_x10, .slice p_x11 L_x11.length c_x11] 38), (47, owK 48 1 ((u3 1).o 0) (((u3 1).dl Sl.l gd_S_TNode 0 t4).length) ((u3 1).n 0) (((u3 1).dl Sl.l gd_S_TNode 0 t4).flatMap enSl)), (48, dnK fr E_S_TNode.toPart ((u3 1).dl Sl.l gd_S_TNode 0 t4)), (900060, owK 9 1 p_x10 x10.length c_x10 (x10.flatMap en_str)), (900061, owK 48 1 p_x11 L_x11.length c_x11 (L_x11.flatMap enSl)), (900062, dnK fr E_S_TNode.toPart L_x11), (900063, rdF fr 4 p_j18 np_j18 c_j18 (j19.flatMap en_TNode))]) a w') ?_ ?_
    ·clear H; rintro a w' ⟨p_j18, c_j18, _, rfl, H⟩
     refine k_seq ?_
     replace G := gd G; obtain ⟨b21, G⟩ := G
     replace G := bnd G; obtain ⟨t22, ht22, G⟩ := G
     replace G := gd G; obtain ⟨b23, G⟩ := G
     refine k_regT mixed H (.v 26 (vP ((u2 1).n 0) 0) <|
   .cons [27] (ok_ld (fun u20 => .slice p_x10 x10.length c_x10) 27 46 0 1 (fun u20 => ((u2 1).n 0)) (fun u20 => [.slice p_x10 x10.length c_x10, .slice p_x11 L_x11.length c_x11]) 38) <|
   .cons [28, 49] (ok_new (fun b => .slice (some ⟨b, 0, none⟩) 6 6) (fun u20 => [.string (⟨#[120]⟩ : ByteArray), .string (⟨#[121]⟩ : ByteArray), .string (⟨#[122]⟩ : ByteArray), .string (⟨#[117]⟩ : ByteArray), .string (⟨#[118]⟩ : ByteArray), .string (⟨#[119]⟩ : ByteArray)]) 9 28 49) <|
   .v 29 (vI x12) <|
   .cons [30] (ok_val (fun u20 => .pointer (some ⟨((u20 2).n 0), (0 + x12.toNat * 1), none⟩)) 30 (hv := fun u20 _ => run_of (by kernel_rfl) (run_indexAddr (t := 35) (b := ((u20 2).n 0)) (o := 0) (len := 6) (cap := 6) (k := .i64) (i := x12) (sz := 1) (by kernel_rfl) (by kernel_rfl) b21))) <|
   .cons [31] (ok_lds (fun u20 => .string t22) 31 49 (fun u20 => (0 + x12.toNat * 1)) (fun u20 => ((u20 2).n 0)) (fun u20 => [.string (⟨#[120]⟩ : ByteArray), .string (⟨#[121]⟩ : ByteArray), .string (⟨#[122]⟩ : ByteArray), .string (⟨#[117]⟩ : ByteArray), .string (⟨#[118]⟩ : ByteArray), .string (⟨#[119]⟩ : ByteArray)]) 9 (fun u20 => elt_str ht22)) <|
   .cons [32, 50] (ok_new (fun b => .slice (some ⟨b, 0, none⟩) 1 1) (fun u20 => [.string t22]) 9 32 50) <|
   .cons [33, 900060, 900060] (ok_own1 [6] [50] (fun u20 => [.blk ((u20 6).n 0) [.string t22] 9]) 900060 (fun u20 => owK 9 1 p_x10 x10.length c_x10 (x10.flatMap en_str)) (some 33) (fun u20 g => .slice (g.o 0) (x10 ++ [t22]).length (g.n 0)) (fun u20 g => owK 9 1 (g.o 0) ((x10 ++ [t22]).length) (g.n 0) ((x10 ++ [t22]).flatMap en_str)) (fun u20 w hF hK => tv_app (run_app_rowN (t := 35) (ty := 35) (en := en_str) en_str_len inf9 (ow_of hK) hF.1 (news := [t22]) rfl (by simp) (by kernel_rfl) b23)) (hloc := fun u u' h => ⟨by first | rfl | simp only [h 6 (by decide)], by first | rfl | simp only [h 6 (by decide)], by first | rfl | simp only [h 6 (by decide)], by first | rfl | simp only [h 6 (by decide)]⟩)) <|
   .v 34 (vP ((u2 1).n 0) 0) <|
   .cons [46] (ok_as (u' := fun u20 => [(46, .blk ((u2 1).n 0) [.slice ((u20 7).o 0) ((x10 ++ [t22]).length) ((u20 7).n 0), .slice p_x11 L_x11.length c_x11] 38)]) (ok_store 46 0 (fun u20 => ((u2 1).n 0)) (fun u20 => [.slice p_x10 x10.length c_x10, .slice p_x11 L_x11.length c_x11]) (fun u20 => [.slice ((u20 7).o 0) ((x10 ++ [t22]).length) ((u20 7).n 0)]) 38) (fun _ => by kernel_rfl)) <| .nil) (by kernel_rfl) fun u20 a w' H => ?_
     replace H := H.kp [2, 3, 4, 5, 6, 45, 46, 47, 48, 900060, 900061, 900062, 900063]
     replace H := H.nil_row 51 48 1
     replace H := H.nest0 (e := 48) (m := 0) (cap := 0) (p := none) (H := ([] : List (Sl TNode))) 51 47 4 en_TNode (by kernel_rfl) (fun x h => by cases h)
     replace G := gd G; obtain ⟨b25, G⟩ := G
     refine k_rg mixed H (.v 35 (vP ((u2 1).n 0) 1) <|
   .cons [36] (ok_ld (fun u24 => .slice p_x11 L_x11.length c_x11) 36 46 1 1 (fun u24 => ((u2 1).n 0)) (fun u24 => [.slice ((u20 7).o 0) ((x10 ++ [t22]).length) ((u20 7).n 0), .slice p_x11 L_x11.length c_x11]) 38) <|
   .v 37 (.slice p_j18 j19.length c_j18) <|
   .cons [38, 52] (ok_new (fun b => .slice (some ⟨b, 0, none⟩) 1 1) (fun u24 => [.slice p_j18 j19.length c_j18]) 48 38 52) <|
   .cons [39, 900061, 900061, 53] (ok_ownF [3] [900062, 52, 900063] (fun u24 => [dnK fr E_S_TNode.toPart L_x11, .blk ((u24 3).n 0) [.slice p_j18 j19.length c_j18] 48, rdl fr 4 p_j18 c_j18 j19 en_TNode]) 900061 53 (fun u24 => owK 48 1 p_x11 L_x11.length c_x11 (L_x11.flatMap enSl)) (some 39) (fun u24 g => .slice (g.o 0) (L_x11 ++ [(⟨p_j18, c_j18, j19⟩ : Sl TNode)]).length (g.n 0)) (fun u24 g => owK 48 1 (g.o 0) ((L_x11 ++ [(⟨p_j18, c_j18, j19⟩ : Sl TNode)]).length) (g.n 0) ((L_x11 ++ [(⟨p_j18, c_j18, j19⟩ : Sl TNode)]).flatMap enSl)) (fun u24 g => dnK fr E_S_TNode.toPart (L_x11 ++ [(⟨p_j18, c_j18, j19⟩ : Sl TNode)])) (fun u24 w hF hK => tv_appF (run_app_rowN (t := 36) (ty := 36) (en := enSl) enSl_len inf48 (ow_of hK) hF.2.1 (news := [(⟨p_j18, c_j18, j19⟩ : Sl TNode)]) rfl (by simp) (by kernel_rfl) (by rw [← map_len h_x11]; exact b25)) (dn_app hF.1 (.head _) ⟨(rdF_of hF.2.2.1), fun _ _ => trivial⟩ (fun j h => (h.elim (fun h => ff_of (.tail _ (.tail _ (.head _))) (fun h => h) h (rdF_fr hF.2.2.1 _ h)) (fun ⟨_, _, hz⟩ => hz.elim))))) (hloc := fun u u' h => ⟨by first | rfl | simp only [h 3 (by decide)], by first | rfl | simp only [h 3 (by decide)], by first | rfl | simp only [h 3 (by decide)], by first | rfl | simp only [h 3 (by decide)], by first | rfl | simp only [h 3 (by decide)]⟩)) <|
   .v 40 (vP ((u2 1).n 0) 1) <|
   .cons [46] (ok_as (u' := fun u24 => [(46, .blk ((u2 1).n 0) [.slice ((u20 7).o 0) ((x10 ++ [t22]).length) ((u20 7).n 0), .slice ((u24 4).o 0) ((L_x11 ++ [(⟨p_j18, c_j18, j19⟩ : Sl TNode)]).length) ((u24 4).n 0)] 38)]) (ok_store 46 1 (fun u24 => ((u2 1).n 0)) (fun u24 => [.slice ((u20 7).o 0) ((x10 ++ [t22]).length) ((u20 7).n 0), .slice p_x11 L_x11.length c_x11]) (fun u24 => [.slice ((u24 4).o 0) ((L_x11 ++ [(⟨p_j18, c_j18, j19⟩ : Sl TNode)]).length) ((u24 4).n 0)]) 38) (fun _ => by kernel_rfl)) <| .nil) fun u24 a w' H => ?_
     replace H := H.kp [2, 3, 4, 5, 45, 46, 47, 48, 51, 53, 900060, 900061]
     refine k_rg mixed H (.v 14 (vI x12) <|
   .v 15 (vI (w_i64 (x12 + 1))) <|
   .v 5 (vI (w_i64 (x12 + 1))) <| .nil) fun u26 a w' H => ?_
     replace H := H.kp [2, 3, 4, 5, 45, 46, 47, 48, 51, 53, 900060, 900061]
     replace H := H.dup (K := dnK fr E_S_TNode.toPart (L_x11 ++ [(⟨p_j18, c_j18, j19⟩ : Sl TNode)])) 53 900062 (by kernel_rfl) (fun h => h) (by intro _ _ h; cases h)
     exact ⟨k, Nat.lt_succ_self k, _, _, _, G, ((u20 7).o 0), ((u20 7).n 0), (x10 ++ [t22]).length, rfl, ((u24 4).o 0), ((u24 4).n 0), (L_x11 ++ [(⟨p_j18, c_j18, j19⟩ : Sl TNode)]).length, (L_x11 ++ [(⟨p_j18, c_j18, j19⟩ : Sl TNode)]), rfl, (map_app h_x11 (⟨p_j18, c_j18, j19⟩ : Sl TNode)), H.toL _ (by kernel_rfl)⟩
    ·clear G; replace G := hj19; clear hj19
     refine k_seq ?_
     refine k_rg mixed H (.v 20 (.slice p_t17 t17.length c_t17) <|
   .v 21 (vI (t17.length : Int)) <|
   .v 22 (.bool ((t17.length : Int) == 0)) <| .nil) fun u27 a w' H => ?_
     replace H := H.kp [2, 3, 4, 5, 6, 22, 45, 46, 47, 48, 900060, 900061, 900062]
     refine k_cond H (by kernel_rfl) (t := ((t17.length : Int) == 0)) (by kernel_rfl) (fun c30 => ?_) (fun c30 => ?_)
     ·rw [if_pos c30] at G
      replace G := bnd G; obtain ⟨t29, ht29, G⟩ := G
      refine k_rg mixed H (.cons [23] (ok_callv 15 (fun u28 => #[vI 65536]) (.agg #[vI t29.Lo, vI t29.Hi]) 23 [] (fun u28 w _ => armillaryref02_Point.calls 65536  t29 w  ht29)) <|
   .v 24 (.agg #[vI 1, vI 0, vI t29.Lo, vI t29.Hi]) <|
   .cons [25, 57] (ok_new (fun b => .slice (some ⟨b, 0, none⟩) 1 1) (fun u28 => [vI 1, vI 0, vI t29.Lo, vI t29.Hi]) 47 25 57) <|
   .cons [6] (ok_val (fun u28 => .slice (some ⟨((u28 2).n 0), 0, none⟩) 1 1) 6) <| .nil) fun u28 a w' H => ?_
      replace H := H.kp [2, 3, 4, 5, 6, 45, 46, 47, 48, 57, 900060, 900061, 900062]
      obtain rfl := Option.some.inj G
      replace H := H.blk_row 57 ((u28 2).n 0) [vI 1, vI 0, vI t29.Lo, vI t29.Hi] 47 4 1 (by kernel_rfl) (by kernel_rfl) (by decide)
      replace H := H.demote fr 57 47 4 (some ⟨((u28 2).n 0), 0, none⟩) 1 1 (([(⟨1, 0, t29⟩ : TNode)] : List TNode).flatMap en_TNode) (by kernel_rfl) (by decide) hBf
      replace H := H.dup (K := rdF fr 4 (some ⟨((u28 2).n 0), 0, none⟩) 1 1 (([(⟨1, 0, t29⟩ : TNode)] : List TNode).flatMap en_TNode)) 57 900063 (by kernel_rfl) (fun h => h) (by intro _ _ h; cases h)
      exact ⟨(some ⟨((u28 2).n 0), 0, none⟩), 1, 1, rfl, H.toL _ (by kernel_rfl)⟩
     ·rw [if_neg (nt c30)] at G
      refine k_skip ?_
      obtain rfl := Option.some.inj G
      replace H := H.addF 59 (rdl fr 4 p_t17 c_t17 t17 en_TNode) [48] [dnK fr E_S_TNode.toPart ((u3 1).dl Sl.l gd_S_TNode 0 t4)] (by kernel_rfl) (fun h => h) (by intro _ _ h; cases h) (fun hF => (rdF_fact (show RowC _ 4 p_t17 t17.length c_t17 (t17.flatMap en_TNode) from ((dn_of hF.1) _ (List.mem_of_getElem? y_t17)).1) (fun j h => (dn_fr hF.1 _ ⟨_, (List.mem_of_getElem? y_t17), (.inl h)⟩)) (by decide) 0).2.1) (fun hF j h => ⟨_, .head _, (fun h => h), ⟨_, (List.mem_of_getElem? y_t17), (.inl h)⟩⟩)
      replace H := H.dup (K := rdl fr 4 p_t17 c_t17 t17 en_TNode) 59 900063 (by kernel_rfl) (fun h => h) (by intro _ _ h; cases h)
      exact ⟨p_t17, c_t17, t17.length, rfl, H.toL _ (by kernel_rfl)⟩
   ·rw [if_neg (nt c31)] at G
    refine k_exit rfl ?_
    obtain rfl := Option.some.inj G
    replace H := H.move (K := owK 9 1 p_x10 x10.length c_x10 (x10.flatMap en_str)) 900060 900057 (by kernel_rfl) (by intro _ _ h; cases h)
    replace H := H.move (K := owK 48 1 p_x11 L_x11.length c_x11 (L_x11.flatMap enSl)) 900061 900058 (by kernel_rfl) (by intro _ _ h; cases h)
    replace H := H.dup (K := dnK fr E_S_TNode.toPart L_x11) 900062 900059 (by kernel_rfl) (fun h => h) (by intro _ _ h; cases h)
    exact ⟨p_x10, c_x10, x10.length, rfl, p_x11, c_x11, L_x11.length, L_x11, rfl, h_x11, H.toL _ (by kernel_rfl)⟩
theorem ode_binaryOps.calls (w : World) : Calls Tryd.prog 44 #[] w fun e w' => ∃ l, e = .returned (.map (some l)) ∧ Below w.heap.size w w' ∧ w.heap.size ≤ l ∧ w'.heap[l]? = some (.map #[⟨vI 7, .func (.func 53) #[] #[], 0⟩, ⟨vI 8, .func (.func 54) #[] #[], 1⟩, ⟨vI 9, .func (.func 55) #[] #[], 2⟩, ⟨vI 10, .func (.func 56) #[] #[], 3⟩] 4) := by
 refine k_enter (args := []) 3 Tryd.func44 rfl (by kernel_rfl) (by kernel_rfl) fun a H => ?_
 refine k_seq ?_
 refine k_rg mixed H (.cons [0] (ok_val (fun u => .map none) 0) .nil) fun u1 a w' H => ?_
 refine k_seq ?_
 refine k_rg mixed H (.cons [1, 3] (ok_mkmap 1 3) <|
   .cons [3] (ok_insert 3 (fun u => (u 0).n 0) (.map #[] 0) (.map #[⟨vI 7, .func (.func 53) #[] #[], 0⟩] 1) (fun u w h => run_of (by kernel_rfl) (run_insert (t := 83) (k := 3) (e := 63) (n := 7) (kd := .i64) (v := .func (.func 53) #[] #[]) rfl h (by kernel_rfl) (by kernel_rfl) (by kernel_rfl)))) <|
   .cons [3] (ok_insert 3 (fun u => (u 0).n 0) (.map #[⟨vI 7, .func (.func 53) #[] #[], 0⟩] 1) (.map #[⟨vI 7, .func (.func 53) #[] #[], 0⟩, ⟨vI 8, .func (.func 54) #[] #[], 1⟩] 2) (fun u w h => run_of (by kernel_rfl) (run_insert (t := 83) (k := 3) (e := 63) (n := 8) (kd := .i64) (v := .func (.func 54) #[] #[]) rfl h (by kernel_rfl) (by kernel_rfl) (by kernel_rfl)))) <|
   .cons [3] (ok_insert 3 (fun u => (u 0).n 0) (.map #[⟨vI 7, .func (.func 53) #[] #[], 0⟩, ⟨vI 8, .func (.func 54) #[] #[], 1⟩] 2) (.map #[⟨vI 7, .func (.func 53) #[] #[], 0⟩, ⟨vI 8, .func (.func 54) #[] #[], 1⟩, ⟨vI 9, .func (.func 55) #[] #[], 2⟩] 3) (fun u w h => run_of (by kernel_rfl) (run_insert (t := 83) (k := 3) (e := 63) (n := 9) (kd := .i64) (v := .func (.func 55) #[] #[]) rfl h (by kernel_rfl) (by kernel_rfl) (by kernel_rfl)))) <|
   .cons [3] (ok_insert 3 (fun u => (u 0).n 0) (.map #[⟨vI 7, .func (.func 53) #[] #[], 0⟩, ⟨vI 8, .func (.func 54) #[] #[], 1⟩, ⟨vI 9, .func (.func 55) #[] #[], 2⟩] 3) (.map #[⟨vI 7, .func (.func 53) #[] #[], 0⟩, ⟨vI 8, .func (.func 54) #[] #[], 1⟩, ⟨vI 9, .func (.func 55) #[] #[], 2⟩, ⟨vI 10, .func (.func 56) #[] #[], 3⟩] 4) (fun u w h => run_of (by kernel_rfl) (run_insert (t := 83) (k := 3) (e := 63) (n := 10) (kd := .i64) (v := .func (.func 56) #[] #[]) rfl h (by kernel_rfl) (by kernel_rfl) (by kernel_rfl)))) <|
   .cons [2] (ok_val (fun u => .map (some ((u 0).n 0))) 2) <|
   .cons [0] (ok_val (fun u => .map (some ((u 0).n 0))) 0) <| .nil) fun u2 a w' H => ?_
 refine k_ret ?_
 exact k_doneOb H 3 ((u2 0).n 0) (.map #[⟨vI 7, .func (.func 53) #[] #[], 0⟩, ⟨vI 8, .func (.func 54) #[] #[], 1⟩, ⟨vI 9, .func (.func 55) #[] #[], 2⟩, ⟨vI 10, .func (.func 56) #[] #[], 3⟩] 4) (by kernel_rfl) (by kernel_rfl) (by kernel_rfl)
set_option maxHeartbeats 4000000 in
theorem ode_Eval_1_m.calls : ∀ (k0 : Nat) (q0 : List TNode) (q1 : Int) (q2 : List TInterval) (q3 : TInterval) (b_q0 : Nat) (p_q0 : Option Addr) (c_q0 : Nat) (b_q1 : Nat) (b_q2 : Nat) (p_q2 : Option Addr) (c_q2 : Nat) (b_q3 : Nat) (b_q4 : Nat) (b_q5 : Nat) (l_q5_0 : Nat) (r : TInterval × Int) (w : World) (hB : AllH [rdl anyF 4 p_q0 c_q0 q0 en_TNode, bxK b_q0 [.slice p_q0 q0.length c_q0] 48, rdl anyF 2 p_q2 c_q2 q2 en_TInterval, bxK b_q2 [.slice p_q2 q2.length c_q2] 26, bxK b_q3 [vI q3.Lo, vI q3.Hi] 28, bxK b_q4 [.func (.func 45) #[] #[vP b_q0 0, vP b_q1 0, vP b_q2 0, vP b_q3 0, vP b_q4 0, vP b_q5 0]] 61, obF l_q5_0 (.map #[⟨vI 7, .func (.func 53) #[] #[], 0⟩, ⟨vI 8, .func (.func 54) #[] #[], 1⟩, ⟨vI 9, .func (.func 55) #[] #[], 2⟩, ⟨vI 10, .func (.func 56) #[] #[], 3⟩] 4), bxK b_q5 [.map (some l_q5_0)] 83, gk] w) (hM : OwnH [.blk b_q1 [vI q1] 3] ([rdl anyF 4 p_q0 c_q0 q0 en_TNode, bxK b_q0 [.slice p_q0 q0.length c_q0] 48, rdl anyF 2 p_q2 c_q2 q2 en_TInterval, bxK b_q2 [.slice p_q2 q2.length c_q2] 26, bxK b_q3 [vI q3.Lo, vI q3.Hi] 28, bxK b_q4 [.func (.func 45) #[] #[vP b_q0 0, vP b_q1 0, vP b_q2 0, vP b_q3 0, vP b_q4 0, vP b_q5 0]] 61, obF l_q5_0 (.map #[⟨vI 7, .func (.func 53) #[] #[], 0⟩, ⟨vI 8, .func (.func 54) #[] #[], 1⟩, ⟨vI 9, .func (.func 55) #[] #[], 2⟩, ⟨vI 10, .func (.func 56) #[] #[], 3⟩] 4), bxK b_q5 [.map (some l_q5_0)] 83, gk] ++ []) w) (G : ode_Eval_1_m k0 q0 q1 q2 q3 = some r),
  Calls Tryd.prog 45 #[vP b_q0 0, vP b_q1 0, vP b_q2 0, vP b_q3 0, vP b_q4 0, vP b_q5 0] w fun e w' => ∃ g : Gh, e = .returned (.agg #[vI r.1.Lo, vI r.1.Hi]) ∧ But (fpK [.blk b_q1 [vI q1] 3]) w w' ∧ OutOK w.heap.size (fpK [.blk b_q1 [vI q1] 3]) (frI w.heap.size []) [fun _ => .blk b_q1 [vI r.2] 3] w' := by
 intro k0
 induction k0 with
 | zero => intros; rename_i G; exact absurd G (by unfold ode_Eval_1_m; exact fun h => by cases h)
 | succ k0 IH => ?_
 intro q0 q1 q2 q3 b_q0 p_q0 c_q0 b_q1 b_q2 p_q2 c_q2 b_q3 b_q4 b_q5 l_q5_0 r w hB hM G
 obtain ⟨fr, hfr⟩ : ∃ fr : Nat → Prop, fr = frI w.heap.size [] := ⟨_, rfl⟩
 have hBf : ∀ j, w.heap.size ≤ j → fr j := fun j h => by rw [hfr]; exact .inl h
 refine k_enterY (args := [vP b_q0 0, vP b_q1 0, vP b_q2 0, vP b_q3 0, vP b_q4 0, vP b_q5 0]) 66 [(67, rdl anyF 4 p_q0 c_q0 q0 en_TNode), (66, bxK b_q0 [.slice p_q0 q0.length c_q0] 48), (70, rdl anyF 2 p_q2 c_q2 q2 en_TInterval), (69, bxK b_q2 [.slice p_q2 q2.length c_q2] 26), (71, bxK b_q3 [vI q3.Lo, vI q3.Hi] 28), (72, bxK b_q4 [.func (.func 45) #[] #[vP b_q0 0, vP b_q1 0, vP b_q2 0, vP b_q3 0, vP b_q4 0, vP b_q5 0]] 61), (74, obF l_q5_0 (.map #[⟨vI 7, .func (.func 53) #[] #[], 0⟩, ⟨vI 8, .func (.func 54) #[] #[], 1⟩, ⟨vI 9, .func (.func 55) #[] #[], 2⟩, ⟨vI 10, .func (.func 56) #[] #[], 3⟩] 4)), (73, bxK b_q5 [.map (some l_q5_0)] 83), (999999, gk)] [(68, .blk b_q1 [vI q1] 3)] (ownH_fps hM (by rfl)) (by
  intro x hx
  simp only [List.mem_cons, List.not_mem_nil, or_false] at hx
  rcases hx with rfl | rfl | rfl | rfl | rfl | rfl | rfl | rfl | rfl
  ·exact rdF_fact (rdF_of hB.1) (fun _ _ => trivial) (by decide) _
  ·exact bx_fact (hB.2.1 w (agree.refl _ _)) _
  ·exact rdF_fact (rdF_of hB.2.2.1) (fun _ _ => trivial) (by decide) _
  ·exact bx_fact (hB.2.2.2.1 w (agree.refl _ _)) _
  ·exact bx_fact (hB.2.2.2.2.1 w (agree.refl _ _)) _
  ·exact bx_fact (hB.2.2.2.2.2.1 w (agree.refl _ _)) _
  ·exact obF_fact (obF_of hB.2.2.2.2.2.2.1) _
  ·exact bx_fact (hB.2.2.2.2.2.2.2.1 w (agree.refl _ _)) _
  ·exact ⟨⟨_, _, rfl⟩, hB.2.2.2.2.2.2.2.2.1, glob_in (glob_of hB.2.2.2.2.2.2.2.2.1)⟩) (by rfl) Tryd.func45 rfl (by kernel_rfl) (by kernel_rfl) fun a H => ?_
 unfold ode_Eval_1_m at G
 generalize ode_Eval_1_m k0 = rec at G IH
 unfold ode_Eval_1_m.body at G
 refine k_seq ?_
 refine k_rg mixed H (.cons [6, 75] (ok_new (fun b => vP b 0) (fun u1 => [vI 0, vI 0]) 28 6 75) <| .nil) fun u1 a w' H => ?_
 replace H := H.kp [0, 1, 2, 3, 4, 5, 6, 67, 68, 70, 75, 66, 69, 71, 72, 73, 74, 999999, 999998]
 refine k_seq ?_
 replace G := gd G; obtain ⟨b3, G⟩ := G
 replace G := bnd G; obtain ⟨t4, ht4, G⟩ := G
 refine k_rg mixed H (.cons [10] (ok_ldK (fun u2 => .slice p_q0 q0.length c_q0) 10 66 (bxK b_q0 [.slice p_q0 q0.length c_q0] 48) b_q0 0 1 [.slice p_q0 q0.length c_q0] (fun w h => bx_of h)) <|
   .cons [11] (ok_ld (fun u2 => vI q1) 11 68 0 1 (fun u2 => b_q1) (fun u2 => [vI q1]) 3) <|
   .cons [12] (ok_valL [67] (fun u2 => [rdl anyF 4 p_q0 c_q0 q0 en_TNode]) (fun u2 => .pointer (some ⟨hdB p_q0, hdO p_q0 + q1.toNat * 4, none⟩)) (fun u2 => true) [true, true] 12 (fun u2 w hg hF => ix_row (t := 48) (k := .i64) (i := q1) (p := p_q0) (n := q0.length) (cap := c_q0) (x := q0) (en := en_TNode) (rdF_of hF.1).2 en_TNode_len rfl b3 (by kernel_rfl))) <|
   .cons [13] (ok_valL [67] (fun u2 => [rdl anyF 4 p_q0 c_q0 q0 en_TNode]) (fun u2 => .agg #[vI t4.Op, vI t4.N, vI t4.C.Lo, vI t4.C.Hi]) (fun u2 => true) [true] 13 (fun u2 w hg hF => ld_row (en := en_TNode) (rdF_of hF.1).2 en_TNode_len ht4 0 4 [vI t4.Op, vI t4.N, vI t4.C.Lo, vI t4.C.Hi] rfl (by kernel_rfl))) <|
   .cons [7, 76] (ok_new (fun b => vP b 0) (fun u2 => [vI 0, vI 0, vI 0, vI 0]) 47 7 76) <|
   .cons [76] (ok_as (u' := fun u2 => [(76, .blk ((u2 4).n 0) [vI t4.Op, vI t4.N, vI t4.C.Lo, vI t4.C.Hi] 47)]) (ok_store 76 0 (fun u2 => ((u2 4).n 0)) (fun u2 => [vI 0, vI 0, vI 0, vI 0]) (fun u2 => [vI t4.Op, vI t4.N, vI t4.C.Lo, vI t4.C.Hi]) 47) (fun _ => by kernel_rfl)) <| .nil) fun u2 a w' H => ?_
 replace H := H.kp [1, 2, 3, 4, 5, 6, 7, 67, 68, 70, 75, 76, 66, 69, 71, 72, 73, 74, 999999, 999998]
 refine k_seq ?_
 refine k_rg mixed H (.cons [14] (ok_ld (fun u5 => vI q1) 14 68 0 1 (fun u5 => b_q1) (fun u5 => [vI q1]) 3) <|
   .v 15 (vI (w_i64 (q1 + 1))) <|
   .cons [68] (ok_as (u' := fun u5 => [(68, .blk b_q1 [vI (w_i64 (q1 + 1))] 3)]) (ok_store 68 0 (fun u5 => b_q1) (fun u5 => [vI q1]) (fun u5 => [vI (w_i64 (q1 + 1))]) 3) (fun _ => by kernel_rfl)) <| .nil) fun u5 a w' H => ?_
 replace H := H.kp [2, 3, 4, 5, 6, 7, 67, 68, 70, 75, 76, 66, 69, 71, 72, 73, 74, 999999, 999998]
 refine k_seq ?_
 refine k_seq ?_
 refine k_rg mixed H (.v 16 (vP ((u2 4).n 0) 0) <|
   .cons [17] (ok_ld (fun u6 => vI t4.Op) 17 76 0 1 (fun u6 => ((u2 4).n 0)) (fun u6 => [vI t4.Op, vI t4.N, vI t4.C.Lo, vI t4.C.Hi]) 47) <| .nil) fun u6 a w' H => ?_
 replace H := H.kp [2, 3, 4, 5, 6, 7, 17, 67, 68, 70, 75, 76, 66, 69, 71, 72, 73, 74, 999999, 999998]
 refine k_block ?_
 refine k_seq ?_
 refine k_rg mixed H (.v 19 (.bool (t4.Op == 1)) <|
   .v 18 (.bool (t4.Op == 1)) <| .nil) fun u7 a w' H => ?_
 replace H := H.kp [2, 3, 4, 5, 6, 7, 17, 18, 67, 68, 70, 75, 76, 66, 69, 71, 72, 73, 74, 999999, 999998]
 refine k_cond H (by kernel_rfl) (t := (t4.Op == 1)) (by kernel_rfl) (fun c48 => ?_) (fun c48 => ?_)
 ·rw [if_pos c48] at G
  refine k_seq ?_
  refine k_rg mixed H (.v 20 (vP ((u2 4).n 0) 2) <|
   .cons [21] (ok_ld (fun u8 => .agg #[vI t4.C.Lo, vI t4.C.Hi]) 21 76 2 2 (fun u8 => ((u2 4).n 0)) (fun u8 => [vI t4.Op, vI t4.N, vI t4.C.Lo, vI t4.C.Hi]) 47) <|
   .cons [75] (ok_as (u' := fun u8 => [(75, .blk ((u1 0).n 0) [vI t4.C.Lo, vI t4.C.Hi] 28)]) (ok_store 75 0 (fun u8 => ((u1 0).n 0)) (fun u8 => [vI 0, vI 0]) (fun u8 => [vI t4.C.Lo, vI t4.C.Hi]) 28) (fun _ => by kernel_rfl)) <| .nil) fun u8 a w' H => ?_
  replace H := H.kp [6, 67, 68, 70, 75, 66, 69, 71, 72, 73, 74, 999999, 999998]
  refine k_ret ?_
  obtain rfl := Option.some.inj G
  have g : Gh := default
  refine k_doneZ H (fun g => .agg #[vI t4.C.Lo, vI t4.C.Hi]) g [.blk b_q1 [vI q1] 3] [] (fun g => [fun _ => .blk b_q1 [vI (w_i64 (q1 + 1))] 3]) fr [68] [(75, ⟨((u1 0).n 0), [vI t4.C.Lo, vI t4.C.Hi], 0, 2⟩)] (.agg #[vI t4.C.Lo, vI t4.C.Hi]) [fun _ => .blk b_q1 [vI (w_i64 (q1 + 1))] 3] (by rfl) (by rfl) hfr (.inr (by kernel_rfl)) (fams_cons fam_blk fams_nil) (by intro p hp; simp only [List.mem_cons, List.not_mem_nil, or_false] at hp; rcases hp with rfl; exact ⟨⟨28, by kernel_rfl⟩, by kernel_rfl⟩)
 ·rw [if_neg (nt c48)] at G
  refine k_seq ?_
  refine k_rg mixed H (.v 23 (.bool (t4.Op == 2)) <|
   .v 22 (.bool (t4.Op == 2)) <| .nil) fun u9 a w' H => ?_
  replace H := H.kp [2, 3, 4, 5, 6, 7, 17, 22, 67, 68, 70, 75, 76, 66, 69, 71, 72, 73, 74, 999999, 999998]
  refine k_cond H (by kernel_rfl) (t := (t4.Op == 2)) (by kernel_rfl) (fun c47 => ?_) (fun c47 => ?_)
  ·rw [if_pos c47] at G
   refine k_seq ?_
   replace G := gd G; obtain ⟨b11, G⟩ := G
   replace G := bnd G; obtain ⟨t12, ht12, G⟩ := G
   refine k_rg mixed H (.cons [24] (ok_ldK (fun u10 => .slice p_q2 q2.length c_q2) 24 69 (bxK b_q2 [.slice p_q2 q2.length c_q2] 26) b_q2 0 1 [.slice p_q2 q2.length c_q2] (fun w h => bx_of h)) <|
   .v 25 (vP ((u2 4).n 0) 1) <|
   .cons [26] (ok_ld (fun u10 => vI t4.N) 26 76 1 1 (fun u10 => ((u2 4).n 0)) (fun u10 => [vI t4.Op, vI t4.N, vI t4.C.Lo, vI t4.C.Hi]) 47) <|
   .cons [27] (ok_valL [70] (fun u10 => [rdl anyF 2 p_q2 c_q2 q2 en_TInterval]) (fun u10 => .pointer (some ⟨hdB p_q2, hdO p_q2 + t4.N.toNat * 2, none⟩)) (fun u10 => true) [true, true] 27 (fun u10 w hg hF => ix_row (t := 26) (k := .i64) (i := t4.N) (p := p_q2) (n := q2.length) (cap := c_q2) (x := q2) (en := en_TInterval) (rdF_of hF.1).2 en_TInterval_len rfl b11 (by kernel_rfl))) <|
   .cons [28] (ok_valL [70] (fun u10 => [rdl anyF 2 p_q2 c_q2 q2 en_TInterval]) (fun u10 => .agg #[vI t12.Lo, vI t12.Hi]) (fun u10 => true) [true] 28 (fun u10 w hg hF => ld_row (en := en_TInterval) (rdF_of hF.1).2 en_TInterval_len ht12 0 2 [vI t12.Lo, vI t12.Hi] rfl (by kernel_rfl))) <|
   .cons [75] (ok_as (u' := fun u10 => [(75, .blk ((u1 0).n 0) [vI t12.Lo, vI t12.Hi] 28)]) (ok_store 75 0 (fun u10 => ((u1 0).n 0)) (fun u10 => [vI 0, vI 0]) (fun u10 => [vI t12.Lo, vI t12.Hi]) 28) (fun _ => by kernel_rfl)) <| .nil) fun u10 a w' H => ?_
   replace H := H.kp [6, 67, 68, 70, 75, 66, 69, 71, 72, 73, 74, 999999, 999998]
   refine k_ret ?_
   obtain rfl := Option.some.inj G
   have g : Gh := default
   refine k_doneZ H (fun g => .agg #[vI t12.Lo, vI t12.Hi]) g [.blk b_q1 [vI q1] 3] [] (fun g => [fun _ => .blk b_q1 [vI (w_i64 (q1 + 1))] 3]) fr [68] [(75, ⟨((u1 0).n 0), [vI t12.Lo, vI t12.Hi], 0, 2⟩)] (.agg #[vI t12.Lo, vI t12.Hi]) [fun _ => .blk b_q1 [vI (w_i64 (q1 + 1))] 3] (by rfl) (by rfl) hfr (.inr (by kernel_rfl)) (fams_cons fam_blk fams_nil) (by intro p hp; simp only [List.mem_cons, List.not_mem_nil, or_false] at hp; rcases hp with rfl; exact ⟨⟨28, by kernel_rfl⟩, by kernel_rfl⟩)
  ·rw [if_neg (nt c47)] at G
   refine k_seq ?_
   refine k_rg mixed H (.v 30 (.bool (t4.Op == 3)) <|
   .v 29 (.bool (t4.Op == 3)) <| .nil) fun u13 a w' H => ?_
   replace H := H.toM [(3, sP b_q3 0), (4, sP b_q4 0), (5, sP b_q5 0), (6, (sP ((u1 0).n 0) 0)), (7, (sP ((u2 4).n 0) 0)), (17, sI t4.Op), (29, (sB (t4.Op == 3))), (67, rdl anyF 4 p_q0 c_q0 q0 en_TNode), (68, .blk b_q1 [vI (w_i64 (q1 + 1))] 3), (70, rdl anyF 2 p_q2 c_q2 q2 en_TInterval), (75, .blk ((u1 0).n 0) [vI 0, vI 0] 28), (76, .blk ((u2 4).n 0) [vI t4.Op, vI t4.N, vI t4.C.Lo, vI t4.C.Hi] 47), (66, bxK b_q0 [.slice p_q0 q0.length c_q0] 48), (69, bxK b_q2 [.slice p_q2 q2.length c_q2] 26), (71, bxK b_q3 [vI q3.Lo, vI q3.Hi] 28), (72, bxK b_q4 [.func (.func 45) #[] #[vP b_q0 0, vP b_q1 0, vP b_q2 0, vP b_q3 0, vP b_q4 0, vP b_q5 0]] 61), (73, bxK b_q5 [.map (some l_q5_0)] 83), (74, obF l_q5_0 (.map #[⟨vI 7, .func (.func 53) #[] #[], 0⟩, ⟨vI 8, .func (.func 54) #[] #[], 1⟩, ⟨vI 9, .func (.func 55) #[] #[], 2⟩, ⟨vI 10, .func (.func 56) #[] #[], 3⟩] 4)), (999999, gk), (999998, frM [.blk b_q1 [vI q1] 3] w)]
   refine k_cond H (by kernel_rfl) (t := (t4.Op == 3)) (by kernel_rfl) (fun c46 => ?_) (fun c46 => ?_)
   ·rw [if_pos c46] at G
    refine k_seq ?_
    refine k_rg mixed H (.cons [31] (ok_ldK (fun u14 => .agg #[vI q3.Lo, vI q3.Hi]) 31 71 (bxK b_q3 [vI q3.Lo, vI q3.Hi] 28) b_q3 0 2 [vI q3.Lo, vI q3.Hi] (fun w h => bx_of h)) <|
   .cons [75] (ok_as (u' := fun u14 => [(75, .blk ((u1 0).n 0) [vI q3.Lo, vI q3.Hi] 28)]) (ok_store 75 0 (fun u14 => ((u1 0).n 0)) (fun u14 => [vI 0, vI 0]) (fun u14 => [vI q3.Lo, vI q3.Hi]) 28) (fun _ => by kernel_rfl)) <| .nil) fun u14 a w' H => ?_
    replace H := H.kp [6, 67, 68, 70, 75, 66, 69, 71, 72, 73, 74, 999999, 999998]
    refine k_ret ?_
    obtain rfl := Option.some.inj G
    have g : Gh := default
    refine k_doneZ H (fun g => .agg #[vI q3.Lo, vI q3.Hi]) g [.blk b_q1 [vI q1] 3] [] (fun g => [fun _ => .blk b_q1 [vI (w_i64 (q1 + 1))] 3]) fr [68] [(75, ⟨((u1 0).n 0), [vI q3.Lo, vI q3.Hi], 0, 2⟩)] (.agg #[vI q3.Lo, vI q3.Hi]) [fun _ => .blk b_q1 [vI (w_i64 (q1 + 1))] 3] (by rfl) (by rfl) hfr (.inr (by kernel_rfl)) (fams_cons fam_blk fams_nil) (by intro p hp; simp only [List.mem_cons, List.not_mem_nil, or_false] at hp; rcases hp with rfl; exact ⟨⟨28, by kernel_rfl⟩, by kernel_rfl⟩)
   ·rw [if_neg (nt c46)] at G
    refine k_seq ?_
    refine k_rg mixed H (.v 33 (.bool (t4.Op == 4)) <|
   .v 32 (.bool (t4.Op == 4)) <| .nil) fun u15 a w' H => ?_
    replace H := H.kp [4, 5, 6, 7, 17, 32, 67, 68, 70, 75, 76, 66, 69, 71, 72, 73, 74, 999999, 999998]
    refine k_cond H (by kernel_rfl) (t := (t4.Op == 4)) (by kernel_rfl) (fun c45 => ?_) (fun c45 => ?_)
    ·rw [if_pos c45] at G
     refine k_seq ?_
     replace G := bnd G; obtain ⟨t17, ht17, G⟩ := G
     replace G := bnd G; obtain ⟨t18, ht18, G⟩ := G
     refine k_rg mixed H (.cons [34] (ok_ldK (fun u16 => .func (.func 45) #[] #[vP b_q0 0, vP b_q1 0, vP b_q2 0, vP b_q3 0, vP b_q4 0, vP b_q5 0]) 34 72 (bxK b_q4 [.func (.func 45) #[] #[vP b_q0 0, vP b_q1 0, vP b_q2 0, vP b_q3 0, vP b_q4 0, vP b_q5 0]] 61) b_q4 0 1 [.func (.func 45) #[] #[vP b_q0 0, vP b_q1 0, vP b_q2 0, vP b_q3 0, vP b_q4 0, vP b_q5 0]] (fun w h => bx_of h)) <|
   .cons [35, 68, 68] (ok_callY false fr [] [67, 66, 70, 69, 71, 72, 74, 73, 999999] (fun u16 => [rdl anyF 4 p_q0 c_q0 q0 en_TNode, bxK b_q0 [.slice p_q0 q0.length c_q0] 48, rdl anyF 2 p_q2 c_q2 q2 en_TInterval, bxK b_q2 [.slice p_q2 q2.length c_q2] 26, bxK b_q3 [vI q3.Lo, vI q3.Hi] 28, bxK b_q4 [.func (.func 45) #[] #[vP b_q0 0, vP b_q1 0, vP b_q2 0, vP b_q3 0, vP b_q4 0, vP b_q5 0]] 61, obF l_q5_0 (.map #[⟨vI 7, .func (.func 53) #[] #[], 0⟩, ⟨vI 8, .func (.func 54) #[] #[], 1⟩, ⟨vI 9, .func (.func 55) #[] #[], 2⟩, ⟨vI 10, .func (.func 56) #[] #[], 3⟩] 4), bxK b_q5 [.map (some l_q5_0)] 83, gk]) [68] (fun u16 => [.blk b_q1 [vI (w_i64 (q1 + 1))] 3]) 45 (fun u16 => #[vP b_q0 0, vP b_q1 0, vP b_q2 0, vP b_q3 0, vP b_q4 0, vP b_q5 0]) (fun u16 => [rdl anyF 4 p_q0 c_q0 q0 en_TNode, bxK b_q0 [.slice p_q0 q0.length c_q0] 48, rdl anyF 2 p_q2 c_q2 q2 en_TInterval, bxK b_q2 [.slice p_q2 q2.length c_q2] 26, bxK b_q3 [vI q3.Lo, vI q3.Hi] 28, bxK b_q4 [.func (.func 45) #[] #[vP b_q0 0, vP b_q1 0, vP b_q2 0, vP b_q3 0, vP b_q4 0, vP b_q5 0]] 61, obF l_q5_0 (.map #[⟨vI 7, .func (.func 53) #[] #[], 0⟩, ⟨vI 8, .func (.func 54) #[] #[], 1⟩, ⟨vI 9, .func (.func 55) #[] #[], 2⟩, ⟨vI 10, .func (.func 56) #[] #[], 3⟩] 4), bxK b_q5 [.map (some l_q5_0)] 83, gk]) (fun u16 => []) (fun u16 g => .agg #[vI t17.1.Lo, vI t17.1.Hi]) (fun u16 g => [fun _ => .blk b_q1 [vI t17.2] 3]) [68] 35 (fun u16 w hB hF hM => IH q0 (w_i64 (q1 + 1)) q2 q3 b_q0 p_q0 c_q0 b_q1 b_q2 p_q2 c_q2 b_q3 b_q4 b_q5 l_q5_0 t17 w  hB hM ht17) (fun u16 w hF => ⟨⟨sub_rd0 (rdF_of hF.1) (fun j h => ⟨_, (.head _), h⟩), sub_bx (hF.2.1 w (agree.refl _ _)) (.tail _ (.head _)) rfl, sub_rd0 (rdF_of hF.2.2.1) (fun j h => ⟨_, (.tail _ (.tail _ (.head _))), h⟩), sub_bx (hF.2.2.2.1 w (agree.refl _ _)) (.tail _ (.tail _ (.tail _ (.head _)))) rfl, sub_bx (hF.2.2.2.2.1 w (agree.refl _ _)) (.tail _ (.tail _ (.tail _ (.tail _ (.head _))))) rfl, sub_bx (hF.2.2.2.2.2.1 w (agree.refl _ _)) (.tail _ (.tail _ (.tail _ (.tail _ (.tail _ (.head _)))))) rfl, sub_ob (obF_of hF.2.2.2.2.2.2.1) (.tail _ (.tail _ (.tail _ (.tail _ (.tail _ (.tail _ (.head _))))))) rfl, sub_bx (hF.2.2.2.2.2.2.2.1 w (agree.refl _ _)) (.tail _ (.tail _ (.tail _ (.tail _ (.tail _ (.tail _ (.tail _ (.head _)))))))) rfl, sub_k hF.2.2.2.2.2.2.2.2.1 (.tail _ (.tail _ (.tail _ (.tail _ (.tail _ (.tail _ (.tail _ (.tail _ (.head _))))))))), trivial⟩, trivial⟩) (fun u16 g => (fams_cons fam_blk fams_nil)) (.inr (fun u16 g => (famx_cons trivial (fun K h => by cases h)))) (fun h => by cases h)) <|
   .cons [36] (ok_callv 46 (fun u16 => #[.agg #[vI t17.1.Lo, vI t17.1.Hi]]) (.agg #[vI t18.Lo, vI t18.Hi]) 36 [] (fun u16 w _ => interval_Neg.calls t17.1  t18 w  ht18)) <|
   .cons [75] (ok_as (u' := fun u16 => [(75, .blk ((u1 0).n 0) [vI t18.Lo, vI t18.Hi] 28)]) (ok_store 75 0 (fun u16 => ((u1 0).n 0)) (fun u16 => [vI 0, vI 0]) (fun u16 => [vI t18.Lo, vI t18.Hi]) 28) (fun _ => by kernel_rfl)) <| .nil) fun u16 a w' H => ?_
     replace H := H.kp [6, 67, 68, 70, 75, 66, 69, 71, 72, 73, 74, 999999, 999998]
     refine k_ret ?_
     obtain rfl := Option.some.inj G
     have g : Gh := default
     refine k_doneZ H (fun g => .agg #[vI t18.Lo, vI t18.Hi]) g [.blk b_q1 [vI q1] 3] [] (fun g => [fun _ => .blk b_q1 [vI t17.2] 3]) fr [68] [(75, ⟨((u1 0).n 0), [vI t18.Lo, vI t18.Hi], 0, 2⟩)] (.agg #[vI t18.Lo, vI t18.Hi]) [fun _ => .blk b_q1 [vI t17.2] 3] (by rfl) (by rfl) hfr (.inr (by kernel_rfl)) (fams_cons fam_blk fams_nil) (by intro p hp; simp only [List.mem_cons, List.not_mem_nil, or_false] at hp; rcases hp with rfl; exact ⟨⟨28, by kernel_rfl⟩, by kernel_rfl⟩)
    ·rw [if_neg (nt c45)] at G
     refine k_seq ?_
     refine k_rg mixed H (.v 38 (.bool (t4.Op == 5)) <|
   .v 37 (.bool (t4.Op == 5)) <| .nil) fun u19 a w' H => ?_
     replace H := H.kp [4, 5, 6, 7, 17, 37, 67, 68, 70, 75, 76, 66, 69, 71, 72, 73, 74, 999999, 999998]
     refine k_cond H (by kernel_rfl) (t := (t4.Op == 5)) (by kernel_rfl) (fun c44 => ?_) (fun c44 => ?_)
     ·rw [if_pos c44] at G
      refine k_seq ?_
      replace G := bnd G; obtain ⟨t21, ht21, G⟩ := G
      replace G := bnd G; obtain ⟨t22, ht22, G⟩ := G
      refine k_rg mixed H (.cons [39] (ok_ldK (fun u20 => .func (.func 45) #[] #[vP b_q0 0, vP b_q1 0, vP b_q2 0, vP b_q3 0, vP b_q4 0, vP b_q5 0]) 39 72 (bxK b_q4 [.func (.func 45) #[] #[vP b_q0 0, vP b_q1 0, vP b_q2 0, vP b_q3 0, vP b_q4 0, vP b_q5 0]] 61) b_q4 0 1 [.func (.func 45) #[] #[vP b_q0 0, vP b_q1 0, vP b_q2 0, vP b_q3 0, vP b_q4 0, vP b_q5 0]] (fun w h => bx_of h)) <|
   .cons [40, 68, 68] (ok_callY false fr [] [67, 66, 70, 69, 71, 72, 74, 73, 999999] (fun u20 => [rdl anyF 4 p_q0 c_q0 q0 en_TNode, bxK b_q0 [.slice p_q0 q0.length c_q0] 48, rdl anyF 2 p_q2 c_q2 q2 en_TInterval, bxK b_q2 [.slice p_q2 q2.length c_q2] 26, bxK b_q3 [vI q3.Lo, vI q3.Hi] 28, bxK b_q4 [.func (.func 45) #[] #[vP b_q0 0, vP b_q1 0, vP b_q2 0, vP b_q3 0, vP b_q4 0, vP b_q5 0]] 61, obF l_q5_0 (.map #[⟨vI 7, .func (.func 53) #[] #[], 0⟩, ⟨vI 8, .func (.func 54) #[] #[], 1⟩, ⟨vI 9, .func (.func 55) #[] #[], 2⟩, ⟨vI 10, .func (.func 56) #[] #[], 3⟩] 4), bxK b_q5 [.map (some l_q5_0)] 83, gk]) [68] (fun u20 => [.blk b_q1 [vI (w_i64 (q1 + 1))] 3]) 45 (fun u20 => #[vP b_q0 0, vP b_q1 0, vP b_q2 0, vP b_q3 0, vP b_q4 0, vP b_q5 0]) (fun u20 => [rdl anyF 4 p_q0 c_q0 q0 en_TNode, bxK b_q0 [.slice p_q0 q0.length c_q0] 48, rdl anyF 2 p_q2 c_q2 q2 en_TInterval, bxK b_q2 [.slice p_q2 q2.length c_q2] 26, bxK b_q3 [vI q3.Lo, vI q3.Hi] 28, bxK b_q4 [.func (.func 45) #[] #[vP b_q0 0, vP b_q1 0, vP b_q2 0, vP b_q3 0, vP b_q4 0, vP b_q5 0]] 61, obF l_q5_0 (.map #[⟨vI 7, .func (.func 53) #[] #[], 0⟩, ⟨vI 8, .func (.func 54) #[] #[], 1⟩, ⟨vI 9, .func (.func 55) #[] #[], 2⟩, ⟨vI 10, .func (.func 56) #[] #[], 3⟩] 4), bxK b_q5 [.map (some l_q5_0)] 83, gk]) (fun u20 => []) (fun u20 g => .agg #[vI t21.1.Lo, vI t21.1.Hi]) (fun u20 g => [fun _ => .blk b_q1 [vI t21.2] 3]) [68] 40 (fun u20 w hB hF hM => IH q0 (w_i64 (q1 + 1)) q2 q3 b_q0 p_q0 c_q0 b_q1 b_q2 p_q2 c_q2 b_q3 b_q4 b_q5 l_q5_0 t21 w  hB hM ht21) (fun u20 w hF => ⟨⟨sub_rd0 (rdF_of hF.1) (fun j h => ⟨_, (.head _), h⟩), sub_bx (hF.2.1 w (agree.refl _ _)) (.tail _ (.head _)) rfl, sub_rd0 (rdF_of hF.2.2.1) (fun j h => ⟨_, (.tail _ (.tail _ (.head _))), h⟩), sub_bx (hF.2.2.2.1 w (agree.refl _ _)) (.tail _ (.tail _ (.tail _ (.head _)))) rfl, sub_bx (hF.2.2.2.2.1 w (agree.refl _ _)) (.tail _ (.tail _ (.tail _ (.tail _ (.head _))))) rfl, sub_bx (hF.2.2.2.2.2.1 w (agree.refl _ _)) (.tail _ (.tail _ (.tail _ (.tail _ (.tail _ (.head _)))))) rfl, sub_ob (obF_of hF.2.2.2.2.2.2.1) (.tail _ (.tail _ (.tail _ (.tail _ (.tail _ (.tail _ (.head _))))))) rfl, sub_bx (hF.2.2.2.2.2.2.2.1 w (agree.refl _ _)) (.tail _ (.tail _ (.tail _ (.tail _ (.tail _ (.tail _ (.tail _ (.head _)))))))) rfl, sub_k hF.2.2.2.2.2.2.2.2.1 (.tail _ (.tail _ (.tail _ (.tail _ (.tail _ (.tail _ (.tail _ (.tail _ (.head _))))))))), trivial⟩, trivial⟩) (fun u20 g => (fams_cons fam_blk fams_nil)) (.inr (fun u20 g => (famx_cons trivial (fun K h => by cases h)))) (fun h => by cases h)) <|
   .cons [41] (ok_callv 47 (fun u20 => #[.agg #[vI t21.1.Lo, vI t21.1.Hi]]) (.agg #[vI t22.Lo, vI t22.Hi]) 41 [] (fun u20 w _ => interval_Square.calls t21.1  t22 w  ht22)) <|
   .cons [75] (ok_as (u' := fun u20 => [(75, .blk ((u1 0).n 0) [vI t22.Lo, vI t22.Hi] 28)]) (ok_store 75 0 (fun u20 => ((u1 0).n 0)) (fun u20 => [vI 0, vI 0]) (fun u20 => [vI t22.Lo, vI t22.Hi]) 28) (fun _ => by kernel_rfl)) <| .nil) fun u20 a w' H => ?_
      replace H := H.kp [6, 67, 68, 70, 75, 66, 69, 71, 72, 73, 74, 999999, 999998]
      refine k_ret ?_
      obtain rfl := Option.some.inj G
      have g : Gh := default
      refine k_doneZ H (fun g => .agg #[vI t22.Lo, vI t22.Hi]) g [.blk b_q1 [vI q1] 3] [] (fun g => [fun _ => .blk b_q1 [vI t21.2] 3]) fr [68] [(75, ⟨((u1 0).n 0), [vI t22.Lo, vI t22.Hi], 0, 2⟩)] (.agg #[vI t22.Lo, vI t22.Hi]) [fun _ => .blk b_q1 [vI t21.2] 3] (by rfl) (by rfl) hfr (.inr (by kernel_rfl)) (fams_cons fam_blk fams_nil) (by intro p hp; simp only [List.mem_cons, List.not_mem_nil, or_false] at hp; rcases hp with rfl; exact ⟨⟨28, by kernel_rfl⟩, by kernel_rfl⟩)
     ·rw [if_neg (nt c44)] at G
      refine k_seq ?_
      refine k_rg mixed H (.v 43 (.bool (t4.Op == 6)) <|
   .v 42 (.bool (t4.Op == 6)) <| .nil) fun u23 a w' H => ?_
      replace H := H.kp [4, 5, 6, 7, 42, 67, 68, 70, 75, 76, 66, 69, 71, 72, 73, 74, 999999, 999998]
      refine k_cond H (by kernel_rfl) (t := (t4.Op == 6)) (by kernel_rfl) (fun c43 => ?_) (fun c43 => ?_)
      ·rw [if_pos c43] at G
       refine k_seq ?_
       replace G := bnd G; obtain ⟨t25, ht25, G⟩ := G
       refine k_rg mixed H (.cons [44] (ok_ldK (fun u24 => .func (.func 45) #[] #[vP b_q0 0, vP b_q1 0, vP b_q2 0, vP b_q3 0, vP b_q4 0, vP b_q5 0]) 44 72 (bxK b_q4 [.func (.func 45) #[] #[vP b_q0 0, vP b_q1 0, vP b_q2 0, vP b_q3 0, vP b_q4 0, vP b_q5 0]] 61) b_q4 0 1 [.func (.func 45) #[] #[vP b_q0 0, vP b_q1 0, vP b_q2 0, vP b_q3 0, vP b_q4 0, vP b_q5 0]] (fun w h => bx_of h)) <|
   .cons [45, 68, 68] (ok_callY false fr [] [67, 66, 70, 69, 71, 72, 74, 73, 999999] (fun u24 => [rdl anyF 4 p_q0 c_q0 q0 en_TNode, bxK b_q0 [.slice p_q0 q0.length c_q0] 48, rdl anyF 2 p_q2 c_q2 q2 en_TInterval, bxK b_q2 [.slice p_q2 q2.length c_q2] 26, bxK b_q3 [vI q3.Lo, vI q3.Hi] 28, bxK b_q4 [.func (.func 45) #[] #[vP b_q0 0, vP b_q1 0, vP b_q2 0, vP b_q3 0, vP b_q4 0, vP b_q5 0]] 61, obF l_q5_0 (.map #[⟨vI 7, .func (.func 53) #[] #[], 0⟩, ⟨vI 8, .func (.func 54) #[] #[], 1⟩, ⟨vI 9, .func (.func 55) #[] #[], 2⟩, ⟨vI 10, .func (.func 56) #[] #[], 3⟩] 4), bxK b_q5 [.map (some l_q5_0)] 83, gk]) [68] (fun u24 => [.blk b_q1 [vI (w_i64 (q1 + 1))] 3]) 45 (fun u24 => #[vP b_q0 0, vP b_q1 0, vP b_q2 0, vP b_q3 0, vP b_q4 0, vP b_q5 0]) (fun u24 => [rdl anyF 4 p_q0 c_q0 q0 en_TNode, bxK b_q0 [.slice p_q0 q0.length c_q0] 48, rdl anyF 2 p_q2 c_q2 q2 en_TInterval, bxK b_q2 [.slice p_q2 q2.length c_q2] 26, bxK b_q3 [vI q3.Lo, vI q3.Hi] 28, bxK b_q4 [.func (.func 45) #[] #[vP b_q0 0, vP b_q1 0, vP b_q2 0, vP b_q3 0, vP b_q4 0, vP b_q5 0]] 61, obF l_q5_0 (.map #[⟨vI 7, .func (.func 53) #[] #[], 0⟩, ⟨vI 8, .func (.func 54) #[] #[], 1⟩, ⟨vI 9, .func (.func 55) #[] #[], 2⟩, ⟨vI 10, .func (.func 56) #[] #[], 3⟩] 4), bxK b_q5 [.map (some l_q5_0)] 83, gk]) (fun u24 => []) (fun u24 g => .agg #[vI t25.1.Lo, vI t25.1.Hi]) (fun u24 g => [fun _ => .blk b_q1 [vI t25.2] 3]) [68] 45 (fun u24 w hB hF hM => IH q0 (w_i64 (q1 + 1)) q2 q3 b_q0 p_q0 c_q0 b_q1 b_q2 p_q2 c_q2 b_q3 b_q4 b_q5 l_q5_0 t25 w  hB hM ht25) (fun u24 w hF => ⟨⟨sub_rd0 (rdF_of hF.1) (fun j h => ⟨_, (.head _), h⟩), sub_bx (hF.2.1 w (agree.refl _ _)) (.tail _ (.head _)) rfl, sub_rd0 (rdF_of hF.2.2.1) (fun j h => ⟨_, (.tail _ (.tail _ (.head _))), h⟩), sub_bx (hF.2.2.2.1 w (agree.refl _ _)) (.tail _ (.tail _ (.tail _ (.head _)))) rfl, sub_bx (hF.2.2.2.2.1 w (agree.refl _ _)) (.tail _ (.tail _ (.tail _ (.tail _ (.head _))))) rfl, sub_bx (hF.2.2.2.2.2.1 w (agree.refl _ _)) (.tail _ (.tail _ (.tail _ (.tail _ (.tail _ (.head _)))))) rfl, sub_ob (obF_of hF.2.2.2.2.2.2.1) (.tail _ (.tail _ (.tail _ (.tail _ (.tail _ (.tail _ (.head _))))))) rfl, sub_bx (hF.2.2.2.2.2.2.2.1 w (agree.refl _ _)) (.tail _ (.tail _ (.tail _ (.tail _ (.tail _ (.tail _ (.tail _ (.head _)))))))) rfl, sub_k hF.2.2.2.2.2.2.2.2.1 (.tail _ (.tail _ (.tail _ (.tail _ (.tail _ (.tail _ (.tail _ (.tail _ (.head _))))))))), trivial⟩, trivial⟩) (fun u24 g => (fams_cons fam_blk fams_nil)) (.inr (fun u24 g => (famx_cons trivial (fun K h => by cases h)))) (fun h => by cases h)) <|
   .cons [8, 77] (ok_new (fun b => vP b 0) (fun u24 => [vI 0, vI 0]) 28 8 77) <|
   .cons [77] (ok_as (u' := fun u24 => [(77, .blk ((u24 2).n 0) [vI t25.1.Lo, vI t25.1.Hi] 28)]) (ok_store 77 0 (fun u24 => ((u24 2).n 0)) (fun u24 => [vI 0, vI 0]) (fun u24 => [vI t25.1.Lo, vI t25.1.Hi]) 28) (fun _ => by kernel_rfl)) <| .nil) fun u24 a w' H => ?_
       replace H := H.kp [6, 8, 67, 68, 70, 75, 77, 66, 69, 71, 72, 73, 74, 999999, 999998]
       refine k_seq ?_
       refine k_seq ?_
       refine k_rg mixed H (.v 46 (vP ((u24 2).n 0) 0) <|
   .cons [47] (ok_ld (fun u26 => vI t25.1.Lo) 47 77 0 1 (fun u26 => ((u24 2).n 0)) (fun u26 => [vI t25.1.Lo, vI t25.1.Hi]) 28) <|
   .v 48 (.bool (decide (t25.1.Lo < 0))) <| .nil) fun u26 a w' H => ?_
       replace H := H.kp [6, 8, 48, 67, 68, 70, 75, 77, 66, 69, 71, 72, 73, 74, 999999, 999998]
       refine k_cond H (by kernel_rfl) (t := decide (t25.1.Lo < 0)) (by kernel_rfl) (fun c32 => ?_) (fun c32 => ?_)
       ·rw [if_pos c32] at G
        refine k_seq ?_
        replace G := bnd G; obtain ⟨t28, ht28, G⟩ := G
        refine k_rg mixed H (.cons [49] (ok_callv 48 (fun u27 => #[]) (.agg #[vI t28.Lo, vI t28.Hi]) 49 [] (fun u27 w _ => interval_Entire.calls   t28 w  ht28)) <|
   .cons [75] (ok_as (u' := fun u27 => [(75, .blk ((u1 0).n 0) [vI t28.Lo, vI t28.Hi] 28)]) (ok_store 75 0 (fun u27 => ((u1 0).n 0)) (fun u27 => [vI 0, vI 0]) (fun u27 => [vI t28.Lo, vI t28.Hi]) 28) (fun _ => by kernel_rfl)) <| .nil) fun u27 a w' H => ?_
        replace H := H.toM [(6, (sP ((u1 0).n 0) 0)), (67, rdl anyF 4 p_q0 c_q0 q0 en_TNode), (68, .blk b_q1 [vI t25.2] 3), (70, rdl anyF 2 p_q2 c_q2 q2 en_TInterval), (75, .blk ((u1 0).n 0) [vI t28.Lo, vI t28.Hi] 28), (66, bxK b_q0 [.slice p_q0 q0.length c_q0] 48), (69, bxK b_q2 [.slice p_q2 q2.length c_q2] 26), (71, bxK b_q3 [vI q3.Lo, vI q3.Hi] 28), (72, bxK b_q4 [.func (.func 45) #[] #[vP b_q0 0, vP b_q1 0, vP b_q2 0, vP b_q3 0, vP b_q4 0, vP b_q5 0]] 61), (73, bxK b_q5 [.map (some l_q5_0)] 83), (74, obF l_q5_0 (.map #[⟨vI 7, .func (.func 53) #[] #[], 0⟩, ⟨vI 8, .func (.func 54) #[] #[], 1⟩, ⟨vI 9, .func (.func 55) #[] #[], 2⟩, ⟨vI 10, .func (.func 56) #[] #[], 3⟩] 4)), (999999, gk), (999998, frM [.blk b_q1 [vI q1] 3] w)]
        refine k_ret ?_
        obtain rfl := Option.some.inj G
        have g : Gh := default
        refine k_doneZ H (fun g => .agg #[vI t28.Lo, vI t28.Hi]) g [.blk b_q1 [vI q1] 3] [] (fun g => [fun _ => .blk b_q1 [vI t25.2] 3]) fr [68] [(75, ⟨((u1 0).n 0), [vI t28.Lo, vI t28.Hi], 0, 2⟩)] (.agg #[vI t28.Lo, vI t28.Hi]) [fun _ => .blk b_q1 [vI t25.2] 3] (by rfl) (by rfl) hfr (.inr (by kernel_rfl)) (fams_cons fam_blk fams_nil) (by intro p hp; simp only [List.mem_cons, List.not_mem_nil, or_false] at hp; rcases hp with rfl; exact ⟨⟨28, by kernel_rfl⟩, by kernel_rfl⟩)
       ·rw [if_neg (nt c32)] at G
        refine k_skip ?_
        refine k_seq ?_
        replace G := bnd G; obtain ⟨t30, ht30, G⟩ := G
        refine k_rg mixed H (.cons [51] (ok_ld (fun u29 => .agg #[vI t25.1.Lo, vI t25.1.Hi]) 51 77 0 2 (fun u29 => ((u24 2).n 0)) (fun u29 => [vI t25.1.Lo, vI t25.1.Hi]) 28) <|
   .cons [52] (ok_callv 49 (fun u29 => #[.agg #[vI t25.1.Lo, vI t25.1.Hi]]) (.tuple #[.agg #[vI t30.1.Lo, vI t30.1.Hi], .bool t30.2]) 52 [] (fun u29 w _ => interval_Sqrt.calls k0 (⟨t25.1.Lo, t25.1.Hi⟩ : TInterval)  t30 w  ht30)) <|
   .v 50 (.tuple #[.agg #[vI t30.1.Lo, vI t30.1.Hi], .bool t30.2]) <|
   .v 53 (.agg #[vI t30.1.Lo, vI t30.1.Hi]) <|
   .v 54 (.bool t30.2) <|
   .cons [77] (ok_as (u' := fun u29 => [(77, .blk ((u24 2).n 0) [vI t30.1.Lo, vI t30.1.Hi] 28)]) (ok_store 77 0 (fun u29 => ((u24 2).n 0)) (fun u29 => [vI t25.1.Lo, vI t25.1.Hi]) (fun u29 => [vI t30.1.Lo, vI t30.1.Hi]) 28) (fun _ => by kernel_rfl)) <| .nil) fun u29 a w' H => ?_
        replace H := H.kp [6, 8, 67, 68, 70, 75, 77, 66, 69, 71, 72, 73, 74, 999999, 999998]
        refine k_seq ?_
        refine k_rg mixed H (.cons [55] (ok_ld (fun u31 => .agg #[vI t30.1.Lo, vI t30.1.Hi]) 55 77 0 2 (fun u31 => ((u24 2).n 0)) (fun u31 => [vI t30.1.Lo, vI t30.1.Hi]) 28) <|
   .cons [75] (ok_as (u' := fun u31 => [(75, .blk ((u1 0).n 0) [vI t30.1.Lo, vI t30.1.Hi] 28)]) (ok_store 75 0 (fun u31 => ((u1 0).n 0)) (fun u31 => [vI 0, vI 0]) (fun u31 => [vI t30.1.Lo, vI t30.1.Hi]) 28) (fun _ => by kernel_rfl)) <| .nil) fun u31 a w' H => ?_
        replace H := H.kp [6, 67, 68, 70, 75, 66, 69, 71, 72, 73, 74, 999999, 999998]
        refine k_ret ?_
        obtain rfl := Option.some.inj G
        have g : Gh := default
        refine k_doneZ H (fun g => .agg #[vI t30.1.Lo, vI t30.1.Hi]) g [.blk b_q1 [vI q1] 3] [] (fun g => [fun _ => .blk b_q1 [vI t25.2] 3]) fr [68] [(75, ⟨((u1 0).n 0), [vI t30.1.Lo, vI t30.1.Hi], 0, 2⟩)] (.agg #[vI t30.1.Lo, vI t30.1.Hi]) [fun _ => .blk b_q1 [vI t25.2] 3] (by rfl) (by rfl) hfr (.inr (by kernel_rfl)) (fams_cons fam_blk fams_nil) (by intro p hp; simp only [List.mem_cons, List.not_mem_nil, or_false] at hp; rcases hp with rfl; exact ⟨⟨28, by kernel_rfl⟩, by kernel_rfl⟩)
      ·rw [if_neg (nt c43)] at G
       refine k_skip ?_
       refine k_seq ?_
       replace G := bnd G; obtain ⟨t34, ht34, G⟩ := G
       refine k_rg mixed H (.cons [56] (ok_ldK (fun u33 => .func (.func 45) #[] #[vP b_q0 0, vP b_q1 0, vP b_q2 0, vP b_q3 0, vP b_q4 0, vP b_q5 0]) 56 72 (bxK b_q4 [.func (.func 45) #[] #[vP b_q0 0, vP b_q1 0, vP b_q2 0, vP b_q3 0, vP b_q4 0, vP b_q5 0]] 61) b_q4 0 1 [.func (.func 45) #[] #[vP b_q0 0, vP b_q1 0, vP b_q2 0, vP b_q3 0, vP b_q4 0, vP b_q5 0]] (fun w h => bx_of h)) <|
   .cons [57, 68, 68] (ok_callY false fr [] [67, 66, 70, 69, 71, 72, 74, 73, 999999] (fun u33 => [rdl anyF 4 p_q0 c_q0 q0 en_TNode, bxK b_q0 [.slice p_q0 q0.length c_q0] 48, rdl anyF 2 p_q2 c_q2 q2 en_TInterval, bxK b_q2 [.slice p_q2 q2.length c_q2] 26, bxK b_q3 [vI q3.Lo, vI q3.Hi] 28, bxK b_q4 [.func (.func 45) #[] #[vP b_q0 0, vP b_q1 0, vP b_q2 0, vP b_q3 0, vP b_q4 0, vP b_q5 0]] 61, obF l_q5_0 (.map #[⟨vI 7, .func (.func 53) #[] #[], 0⟩, ⟨vI 8, .func (.func 54) #[] #[], 1⟩, ⟨vI 9, .func (.func 55) #[] #[], 2⟩, ⟨vI 10, .func (.func 56) #[] #[], 3⟩] 4), bxK b_q5 [.map (some l_q5_0)] 83, gk]) [68] (fun u33 => [.blk b_q1 [vI (w_i64 (q1 + 1))] 3]) 45 (fun u33 => #[vP b_q0 0, vP b_q1 0, vP b_q2 0, vP b_q3 0, vP b_q4 0, vP b_q5 0]) (fun u33 => [rdl anyF 4 p_q0 c_q0 q0 en_TNode, bxK b_q0 [.slice p_q0 q0.length c_q0] 48, rdl anyF 2 p_q2 c_q2 q2 en_TInterval, bxK b_q2 [.slice p_q2 q2.length c_q2] 26, bxK b_q3 [vI q3.Lo, vI q3.Hi] 28, bxK b_q4 [.func (.func 45) #[] #[vP b_q0 0, vP b_q1 0, vP b_q2 0, vP b_q3 0, vP b_q4 0, vP b_q5 0]] 61, obF l_q5_0 (.map #[⟨vI 7, .func (.func 53) #[] #[], 0⟩, ⟨vI 8, .func (.func 54) #[] #[], 1⟩, ⟨vI 9, .func (.func 55) #[] #[], 2⟩, ⟨vI 10, .func (.func 56) #[] #[], 3⟩] 4), bxK b_q5 [.map (some l_q5_0)] 83, gk]) (fun u33 => []) (fun u33 g => .agg #[vI t34.1.Lo, vI t34.1.Hi]) (fun u33 g => [fun _ => .blk b_q1 [vI t34.2] 3]) [68] 57 (fun u33 w hB hF hM => IH q0 (w_i64 (q1 + 1)) q2 q3 b_q0 p_q0 c_q0 b_q1 b_q2 p_q2 c_q2 b_q3 b_q4 b_q5 l_q5_0 t34 w  hB hM ht34) (fun u33 w hF => ⟨⟨sub_rd0 (rdF_of hF.1) (fun j h => ⟨_, (.head _), h⟩), sub_bx (hF.2.1 w (agree.refl _ _)) (.tail _ (.head _)) rfl, sub_rd0 (rdF_of hF.2.2.1) (fun j h => ⟨_, (.tail _ (.tail _ (.head _))), h⟩), sub_bx (hF.2.2.2.1 w (agree.refl _ _)) (.tail _ (.tail _ (.tail _ (.head _)))) rfl, sub_bx (hF.2.2.2.2.1 w (agree.refl _ _)) (.tail _ (.tail _ (.tail _ (.tail _ (.head _))))) rfl, sub_bx (hF.2.2.2.2.2.1 w (agree.refl _ _)) (.tail _ (.tail _ (.tail _ (.tail _ (.tail _ (.head _)))))) rfl, sub_ob (obF_of hF.2.2.2.2.2.2.1) (.tail _ (.tail _ (.tail _ (.tail _ (.tail _ (.tail _ (.head _))))))) rfl, sub_bx (hF.2.2.2.2.2.2.2.1 w (agree.refl _ _)) (.tail _ (.tail _ (.tail _ (.tail _ (.tail _ (.tail _ (.tail _ (.head _)))))))) rfl, sub_k hF.2.2.2.2.2.2.2.2.1 (.tail _ (.tail _ (.tail _ (.tail _ (.tail _ (.tail _ (.tail _ (.tail _ (.head _))))))))), trivial⟩, trivial⟩) (fun u33 g => (fams_cons fam_blk fams_nil)) (.inr (fun u33 g => (famx_cons trivial (fun K h => by cases h)))) (fun h => by cases h)) <|
   .cons [9, 78] (ok_new (fun b => vP b 0) (fun u33 => [vI 0, vI 0]) 28 9 78) <|
   .cons [78] (ok_as (u' := fun u33 => [(78, .blk ((u33 2).n 0) [vI t34.1.Lo, vI t34.1.Hi] 28)]) (ok_store 78 0 (fun u33 => ((u33 2).n 0)) (fun u33 => [vI 0, vI 0]) (fun u33 => [vI t34.1.Lo, vI t34.1.Hi]) 28) (fun _ => by kernel_rfl)) <| .nil) fun u33 a w' H => ?_
       replace H := H.kp [4, 5, 6, 7, 9, 67, 68, 70, 75, 76, 78, 66, 69, 71, 72, 73, 74, 999999, 999998]
       refine k_seq ?_
       replace G := bnd G; obtain ⟨z36, hz36, G⟩ := G
       replace hz36 := Option.some.inj hz36
       by_cases c39 : z36 = 7
       ·rw [if_pos c39] at G; subst c39
        replace G := bnd G; obtain ⟨t37, ht37, G⟩ := G
        replace G := bnd G; obtain ⟨t38, ht38, G⟩ := G
        refine k_rg mixed H (.cons [58] (ok_ldK (fun u35 => .map (some l_q5_0)) 58 73 (bxK b_q5 [.map (some l_q5_0)] 83) b_q5 0 1 [.map (some l_q5_0)] (fun w h => bx_of h)) <|
   .v 59 (vP ((u2 4).n 0) 0) <|
   .cons [60] (ok_ld (fun u35 => vI t4.Op) 60 76 0 1 (fun u35 => ((u2 4).n 0)) (fun u35 => [vI t4.Op, vI t4.N, vI t4.C.Lo, vI t4.C.Hi]) 47) <|
   .cons [61] (ok_valL [74] (fun u35 => [obF l_q5_0 (.map #[⟨vI 7, .func (.func 53) #[] #[], 0⟩, ⟨vI 8, .func (.func 54) #[] #[], 1⟩, ⟨vI 9, .func (.func 55) #[] #[], 2⟩, ⟨vI 10, .func (.func 56) #[] #[], 3⟩] 4)]) (fun u35 => .func (.func 53) #[] #[]) (fun u35 => true) [true, true] 61 (fun u35 w _ hF => run_of (by kernel_rfl) (run_lookup (t := 83) (k := 3) (e := 63) (l := l_q5_0) (n := t4.Op) (m := 7) (kd := .i64) (i := 0) rfl hz36 (obF_of hF.1) (by kernel_rfl) (by kernel_rfl) (by kernel_rfl)))) <|
   .cons [62] (ok_ld (fun u35 => .agg #[vI t34.1.Lo, vI t34.1.Hi]) 62 78 0 2 (fun u35 => ((u33 2).n 0)) (fun u35 => [vI t34.1.Lo, vI t34.1.Hi]) 28) <|
   .cons [63] (ok_ldK (fun u35 => .func (.func 45) #[] #[vP b_q0 0, vP b_q1 0, vP b_q2 0, vP b_q3 0, vP b_q4 0, vP b_q5 0]) 63 72 (bxK b_q4 [.func (.func 45) #[] #[vP b_q0 0, vP b_q1 0, vP b_q2 0, vP b_q3 0, vP b_q4 0, vP b_q5 0]] 61) b_q4 0 1 [.func (.func 45) #[] #[vP b_q0 0, vP b_q1 0, vP b_q2 0, vP b_q3 0, vP b_q4 0, vP b_q5 0]] (fun w h => bx_of h)) <|
   .cons [64, 68, 68] (ok_callY false fr [] [67, 66, 70, 69, 71, 72, 74, 73, 999999] (fun u35 => [rdl anyF 4 p_q0 c_q0 q0 en_TNode, bxK b_q0 [.slice p_q0 q0.length c_q0] 48, rdl anyF 2 p_q2 c_q2 q2 en_TInterval, bxK b_q2 [.slice p_q2 q2.length c_q2] 26, bxK b_q3 [vI q3.Lo, vI q3.Hi] 28, bxK b_q4 [.func (.func 45) #[] #[vP b_q0 0, vP b_q1 0, vP b_q2 0, vP b_q3 0, vP b_q4 0, vP b_q5 0]] 61, obF l_q5_0 (.map #[⟨vI 7, .func (.func 53) #[] #[], 0⟩, ⟨vI 8, .func (.func 54) #[] #[], 1⟩, ⟨vI 9, .func (.func 55) #[] #[], 2⟩, ⟨vI 10, .func (.func 56) #[] #[], 3⟩] 4), bxK b_q5 [.map (some l_q5_0)] 83, gk]) [68] (fun u35 => [.blk b_q1 [vI t34.2] 3]) 45 (fun u35 => #[vP b_q0 0, vP b_q1 0, vP b_q2 0, vP b_q3 0, vP b_q4 0, vP b_q5 0]) (fun u35 => [rdl anyF 4 p_q0 c_q0 q0 en_TNode, bxK b_q0 [.slice p_q0 q0.length c_q0] 48, rdl anyF 2 p_q2 c_q2 q2 en_TInterval, bxK b_q2 [.slice p_q2 q2.length c_q2] 26, bxK b_q3 [vI q3.Lo, vI q3.Hi] 28, bxK b_q4 [.func (.func 45) #[] #[vP b_q0 0, vP b_q1 0, vP b_q2 0, vP b_q3 0, vP b_q4 0, vP b_q5 0]] 61, obF l_q5_0 (.map #[⟨vI 7, .func (.func 53) #[] #[], 0⟩, ⟨vI 8, .func (.func 54) #[] #[], 1⟩, ⟨vI 9, .func (.func 55) #[] #[], 2⟩, ⟨vI 10, .func (.func 56) #[] #[], 3⟩] 4), bxK b_q5 [.map (some l_q5_0)] 83, gk]) (fun u35 => []) (fun u35 g => .agg #[vI t37.1.Lo, vI t37.1.Hi]) (fun u35 g => [fun _ => .blk b_q1 [vI t37.2] 3]) [68] 64 (fun u35 w hB hF hM => IH q0 t34.2 q2 q3 b_q0 p_q0 c_q0 b_q1 b_q2 p_q2 c_q2 b_q3 b_q4 b_q5 l_q5_0 t37 w  hB hM ht37) (fun u35 w hF => ⟨⟨sub_rd0 (rdF_of hF.1) (fun j h => ⟨_, (.head _), h⟩), sub_bx (hF.2.1 w (agree.refl _ _)) (.tail _ (.head _)) rfl, sub_rd0 (rdF_of hF.2.2.1) (fun j h => ⟨_, (.tail _ (.tail _ (.head _))), h⟩), sub_bx (hF.2.2.2.1 w (agree.refl _ _)) (.tail _ (.tail _ (.tail _ (.head _)))) rfl, sub_bx (hF.2.2.2.2.1 w (agree.refl _ _)) (.tail _ (.tail _ (.tail _ (.tail _ (.head _))))) rfl, sub_bx (hF.2.2.2.2.2.1 w (agree.refl _ _)) (.tail _ (.tail _ (.tail _ (.tail _ (.tail _ (.head _)))))) rfl, sub_ob (obF_of hF.2.2.2.2.2.2.1) (.tail _ (.tail _ (.tail _ (.tail _ (.tail _ (.tail _ (.head _))))))) rfl, sub_bx (hF.2.2.2.2.2.2.2.1 w (agree.refl _ _)) (.tail _ (.tail _ (.tail _ (.tail _ (.tail _ (.tail _ (.tail _ (.head _)))))))) rfl, sub_k hF.2.2.2.2.2.2.2.2.1 (.tail _ (.tail _ (.tail _ (.tail _ (.tail _ (.tail _ (.tail _ (.tail _ (.head _))))))))), trivial⟩, trivial⟩) (fun u35 g => (fams_cons fam_blk fams_nil)) (.inr (fun u35 g => (famx_cons trivial (fun K h => by cases h)))) (fun h => by cases h)) <|
   .cons [65] (ok_callv 53 (fun u35 => #[.agg #[vI t34.1.Lo, vI t34.1.Hi], .agg #[vI t37.1.Lo, vI t37.1.Hi]]) (.agg #[vI t38.Lo, vI t38.Hi]) 65 [] (fun u35 w _ => interval_Add.calls (⟨t34.1.Lo, t34.1.Hi⟩ : TInterval) t37.1  t38 w  ht38)) <|
   .cons [75] (ok_as (u' := fun u35 => [(75, .blk ((u1 0).n 0) [vI t38.Lo, vI t38.Hi] 28)]) (ok_store 75 0 (fun u35 => ((u1 0).n 0)) (fun u35 => [vI 0, vI 0]) (fun u35 => [vI t38.Lo, vI t38.Hi]) 28) (fun _ => by kernel_rfl)) <| .nil) fun u35 a w' H => ?_
        replace H := H.kp [6, 67, 68, 70, 75, 66, 69, 71, 72, 73, 74, 999999, 999998]
        refine k_ret ?_
        obtain rfl := Option.some.inj G
        have g : Gh := default
        refine k_doneZ H (fun g => .agg #[vI t38.Lo, vI t38.Hi]) g [.blk b_q1 [vI q1] 3] [] (fun g => [fun _ => .blk b_q1 [vI t37.2] 3]) fr [68] [(75, ⟨((u1 0).n 0), [vI t38.Lo, vI t38.Hi], 0, 2⟩)] (.agg #[vI t38.Lo, vI t38.Hi]) [fun _ => .blk b_q1 [vI t37.2] 3] (by rfl) (by rfl) hfr (.inr (by kernel_rfl)) (fams_cons fam_blk fams_nil) (by intro p hp; simp only [List.mem_cons, List.not_mem_nil, or_false] at hp; rcases hp with rfl; exact ⟨⟨28, by kernel_rfl⟩, by kernel_rfl⟩)
       rw [if_neg c39] at G
       by_cases c40 : z36 = 8
       ·rw [if_pos c40] at G; subst c40
        replace G := bnd G; obtain ⟨t37, ht37, G⟩ := G
        replace G := bnd G; obtain ⟨t38, ht38, G⟩ := G
        refine k_rg mixed H (.cons [58] (ok_ldK (fun u35 => .map (some l_q5_0)) 58 73 (bxK b_q5 [.map (some l_q5_0)] 83) b_q5 0 1 [.map (some l_q5_0)] (fun w h => bx_of h)) <|
   .v 59 (vP ((u2 4).n 0) 0) <|
   .cons [60] (ok_ld (fun u35 => vI t4.Op) 60 76 0 1 (fun u35 => ((u2 4).n 0)) (fun u35 => [vI t4.Op, vI t4.N, vI t4.C.Lo, vI t4.C.Hi]) 47) <|
   .cons [61] (ok_valL [74] (fun u35 => [obF l_q5_0 (.map #[⟨vI 7, .func (.func 53) #[] #[], 0⟩, ⟨vI 8, .func (.func 54) #[] #[], 1⟩, ⟨vI 9, .func (.func 55) #[] #[], 2⟩, ⟨vI 10, .func (.func 56) #[] #[], 3⟩] 4)]) (fun u35 => .func (.func 54) #[] #[]) (fun u35 => true) [true, true] 61 (fun u35 w _ hF => run_of (by kernel_rfl) (run_lookup (t := 83) (k := 3) (e := 63) (l := l_q5_0) (n := t4.Op) (m := 8) (kd := .i64) (i := 1) rfl hz36 (obF_of hF.1) (by kernel_rfl) (by kernel_rfl) (by kernel_rfl)))) <|
   .cons [62] (ok_ld (fun u35 => .agg #[vI t34.1.Lo, vI t34.1.Hi]) 62 78 0 2 (fun u35 => ((u33 2).n 0)) (fun u35 => [vI t34.1.Lo, vI t34.1.Hi]) 28) <|
   .cons [63] (ok_ldK (fun u35 => .func (.func 45) #[] #[vP b_q0 0, vP b_q1 0, vP b_q2 0, vP b_q3 0, vP b_q4 0, vP b_q5 0]) 63 72 (bxK b_q4 [.func (.func 45) #[] #[vP b_q0 0, vP b_q1 0, vP b_q2 0, vP b_q3 0, vP b_q4 0, vP b_q5 0]] 61) b_q4 0 1 [.func (.func 45) #[] #[vP b_q0 0, vP b_q1 0, vP b_q2 0, vP b_q3 0, vP b_q4 0, vP b_q5 0]] (fun w h => bx_of h)) <|
   .cons [64, 68, 68] (ok_callY false fr [] [67, 66, 70, 69, 71, 72, 74, 73, 999999] (fun u35 => [rdl anyF 4 p_q0 c_q0 q0 en_TNode, bxK b_q0 [.slice p_q0 q0.length c_q0] 48, rdl anyF 2 p_q2 c_q2 q2 en_TInterval, bxK b_q2 [.slice p_q2 q2.length c_q2] 26, bxK b_q3 [vI q3.Lo, vI q3.Hi] 28, bxK b_q4 [.func (.func 45) #[] #[vP b_q0 0, vP b_q1 0, vP b_q2 0, vP b_q3 0, vP b_q4 0, vP b_q5 0]] 61, obF l_q5_0 (.map #[⟨vI 7, .func (.func 53) #[] #[], 0⟩, ⟨vI 8, .func (.func 54) #[] #[], 1⟩, ⟨vI 9, .func (.func 55) #[] #[], 2⟩, ⟨vI 10, .func (.func 56) #[] #[], 3⟩] 4), bxK b_q5 [.map (some l_q5_0)] 83, gk]) [68] (fun u35 => [.blk b_q1 [vI t34.2] 3]) 45 (fun u35 => #[vP b_q0 0, vP b_q1 0, vP b_q2 0, vP b_q3 0, vP b_q4 0, vP b_q5 0]) (fun u35 => [rdl anyF 4 p_q0 c_q0 q0 en_TNode, bxK b_q0 [.slice p_q0 q0.length c_q0] 48, rdl anyF 2 p_q2 c_q2 q2 en_TInterval, bxK b_q2 [.slice p_q2 q2.length c_q2] 26, bxK b_q3 [vI q3.Lo, vI q3.Hi] 28, bxK b_q4 [.func (.func 45) #[] #[vP b_q0 0, vP b_q1 0, vP b_q2 0, vP b_q3 0, vP b_q4 0, vP b_q5 0]] 61, obF l_q5_0 (.map #[⟨vI 7, .func (.func 53) #[] #[], 0⟩, ⟨vI 8, .func (.func 54) #[] #[], 1⟩, ⟨vI 9, .func (.func 55) #[] #[], 2⟩, ⟨vI 10, .func (.func 56) #[] #[], 3⟩] 4), bxK b_q5 [.map (some l_q5_0)] 83, gk]) (fun u35 => []) (fun u35 g => .agg #[vI t37.1.Lo, vI t37.1.Hi]) (fun u35 g => [fun _ => .blk b_q1 [vI t37.2] 3]) [68] 64 (fun u35 w hB hF hM => IH q0 t34.2 q2 q3 b_q0 p_q0 c_q0 b_q1 b_q2 p_q2 c_q2 b_q3 b_q4 b_q5 l_q5_0 t37 w  hB hM ht37) (fun u35 w hF => ⟨⟨sub_rd0 (rdF_of hF.1) (fun j h => ⟨_, (.head _), h⟩), sub_bx (hF.2.1 w (agree.refl _ _)) (.tail _ (.head _)) rfl, sub_rd0 (rdF_of hF.2.2.1) (fun j h => ⟨_, (.tail _ (.tail _ (.head _))), h⟩), sub_bx (hF.2.2.2.1 w (agree.refl _ _)) (.tail _ (.tail _ (.tail _ (.head _)))) rfl, sub_bx (hF.2.2.2.2.1 w (agree.refl _ _)) (.tail _ (.tail _ (.tail _ (.tail _ (.head _))))) rfl, sub_bx (hF.2.2.2.2.2.1 w (agree.refl _ _)) (.tail _ (.tail _ (.tail _ (.tail _ (.tail _ (.head _)))))) rfl, sub_ob (obF_of hF.2.2.2.2.2.2.1) (.tail _ (.tail _ (.tail _ (.tail _ (.tail _ (.tail _ (.head _))))))) rfl, sub_bx (hF.2.2.2.2.2.2.2.1 w (agree.refl _ _)) (.tail _ (.tail _ (.tail _ (.tail _ (.tail _ (.tail _ (.tail _ (.head _)))))))) rfl, sub_k hF.2.2.2.2.2.2.2.2.1 (.tail _ (.tail _ (.tail _ (.tail _ (.tail _ (.tail _ (.tail _ (.tail _ (.head _))))))))), trivial⟩, trivial⟩) (fun u35 g => (fams_cons fam_blk fams_nil)) (.inr (fun u35 g => (famx_cons trivial (fun K h => by cases h)))) (fun h => by cases h)) <|
   .cons [65] (ok_callv 54 (fun u35 => #[.agg #[vI t34.1.Lo, vI t34.1.Hi], .agg #[vI t37.1.Lo, vI t37.1.Hi]]) (.agg #[vI t38.Lo, vI t38.Hi]) 65 [] (fun u35 w _ => interval_Sub.calls (⟨t34.1.Lo, t34.1.Hi⟩ : TInterval) t37.1  t38 w  ht38)) <|
   .cons [75] (ok_as (u' := fun u35 => [(75, .blk ((u1 0).n 0) [vI t38.Lo, vI t38.Hi] 28)]) (ok_store 75 0 (fun u35 => ((u1 0).n 0)) (fun u35 => [vI 0, vI 0]) (fun u35 => [vI t38.Lo, vI t38.Hi]) 28) (fun _ => by kernel_rfl)) <| .nil) fun u35 a w' H => ?_
        replace H := H.kp [6, 67, 68, 70, 75, 66, 69, 71, 72, 73, 74, 999999, 999998]
        refine k_ret ?_
        obtain rfl := Option.some.inj G
        have g : Gh := default
        refine k_doneZ H (fun g => .agg #[vI t38.Lo, vI t38.Hi]) g [.blk b_q1 [vI q1] 3] [] (fun g => [fun _ => .blk b_q1 [vI t37.2] 3]) fr [68] [(75, ⟨((u1 0).n 0), [vI t38.Lo, vI t38.Hi], 0, 2⟩)] (.agg #[vI t38.Lo, vI t38.Hi]) [fun _ => .blk b_q1 [vI t37.2] 3] (by rfl) (by rfl) hfr (.inr (by kernel_rfl)) (fams_cons fam_blk fams_nil) (by intro p hp; simp only [List.mem_cons, List.not_mem_nil, or_false] at hp; rcases hp with rfl; exact ⟨⟨28, by kernel_rfl⟩, by kernel_rfl⟩)
       rw [if_neg c40] at G
       by_cases c41 : z36 = 9
       ·rw [if_pos c41] at G; subst c41
        replace G := bnd G; obtain ⟨t37, ht37, G⟩ := G
        replace G := bnd G; obtain ⟨t38, ht38, G⟩ := G
        refine k_rg mixed H (.cons [58] (ok_ldK (fun u35 => .map (some l_q5_0)) 58 73 (bxK b_q5 [.map (some l_q5_0)] 83) b_q5 0 1 [.map (some l_q5_0)] (fun w h => bx_of h)) <|
   .v 59 (vP ((u2 4).n 0) 0) <|
   .cons [60] (ok_ld (fun u35 => vI t4.Op) 60 76 0 1 (fun u35 => ((u2 4).n 0)) (fun u35 => [vI t4.Op, vI t4.N, vI t4.C.Lo, vI t4.C.Hi]) 47) <|
   .cons [61] (ok_valL [74] (fun u35 => [obF l_q5_0 (.map #[⟨vI 7, .func (.func 53) #[] #[], 0⟩, ⟨vI 8, .func (.func 54) #[] #[], 1⟩, ⟨vI 9, .func (.func 55) #[] #[], 2⟩, ⟨vI 10, .func (.func 56) #[] #[], 3⟩] 4)]) (fun u35 => .func (.func 55) #[] #[]) (fun u35 => true) [true, true] 61 (fun u35 w _ hF => run_of (by kernel_rfl) (run_lookup (t := 83) (k := 3) (e := 63) (l := l_q5_0) (n := t4.Op) (m := 9) (kd := .i64) (i := 2) rfl hz36 (obF_of hF.1) (by kernel_rfl) (by kernel_rfl) (by kernel_rfl)))) <|
   .cons [62] (ok_ld (fun u35 => .agg #[vI t34.1.Lo, vI t34.1.Hi]) 62 78 0 2 (fun u35 => ((u33 2).n 0)) (fun u35 => [vI t34.1.Lo, vI t34.1.Hi]) 28) <|
   .cons [63] (ok_ldK (fun u35 => .func (.func 45) #[] #[vP b_q0 0, vP b_q1 0, vP b_q2 0, vP b_q3 0, vP b_q4 0, vP b_q5 0]) 63 72 (bxK b_q4 [.func (.func 45) #[] #[vP b_q0 0, vP b_q1 0, vP b_q2 0, vP b_q3 0, vP b_q4 0, vP b_q5 0]] 61) b_q4 0 1 [.func (.func 45) #[] #[vP b_q0 0, vP b_q1 0, vP b_q2 0, vP b_q3 0, vP b_q4 0, vP b_q5 0]] (fun w h => bx_of h)) <|
   .cons [64, 68, 68] (ok_callY false fr [] [67, 66, 70, 69, 71, 72, 74, 73, 999999] (fun u35 => [rdl anyF 4 p_q0 c_q0 q0 en_TNode, bxK b_q0 [.slice p_q0 q0.length c_q0] 48, rdl anyF 2 p_q2 c_q2 q2 en_TInterval, bxK b_q2 [.slice p_q2 q2.length c_q2] 26, bxK b_q3 [vI q3.Lo, vI q3.Hi] 28, bxK b_q4 [.func (.func 45) #[] #[vP b_q0 0, vP b_q1 0, vP b_q2 0, vP b_q3 0, vP b_q4 0, vP b_q5 0]] 61, obF l_q5_0 (.map #[⟨vI 7, .func (.func 53) #[] #[], 0⟩, ⟨vI 8, .func (.func 54) #[] #[], 1⟩, ⟨vI 9, .func (.func 55) #[] #[], 2⟩, ⟨vI 10, .func (.func 56) #[] #[], 3⟩] 4), bxK b_q5 [.map (some l_q5_0)] 83, gk]) [68] (fun u35 => [.blk b_q1 [vI t34.2] 3]) 45 (fun u35 => #[vP b_q0 0, vP b_q1 0, vP b_q2 0, vP b_q3 0, vP b_q4 0, vP b_q5 0]) (fun u35 => [rdl anyF 4 p_q0 c_q0 q0 en_TNode, bxK b_q0 [.slice p_q0 q0.length c_q0] 48, rdl anyF 2 p_q2 c_q2 q2 en_TInterval, bxK b_q2 [.slice p_q2 q2.length c_q2] 26, bxK b_q3 [vI q3.Lo, vI q3.Hi] 28, bxK b_q4 [.func (.func 45) #[] #[vP b_q0 0, vP b_q1 0, vP b_q2 0, vP b_q3 0, vP b_q4 0, vP b_q5 0]] 61, obF l_q5_0 (.map #[⟨vI 7, .func (.func 53) #[] #[], 0⟩, ⟨vI 8, .func (.func 54) #[] #[], 1⟩, ⟨vI 9, .func (.func 55) #[] #[], 2⟩, ⟨vI 10, .func (.func 56) #[] #[], 3⟩] 4), bxK b_q5 [.map (some l_q5_0)] 83, gk]) (fun u35 => []) (fun u35 g => .agg #[vI t37.1.Lo, vI t37.1.Hi]) (fun u35 g => [fun _ => .blk b_q1 [vI t37.2] 3]) [68] 64 (fun u35 w hB hF hM => IH q0 t34.2 q2 q3 b_q0 p_q0 c_q0 b_q1 b_q2 p_q2 c_q2 b_q3 b_q4 b_q5 l_q5_0 t37 w  hB hM ht37) (fun u35 w hF => ⟨⟨sub_rd0 (rdF_of hF.1) (fun j h => ⟨_, (.head _), h⟩), sub_bx (hF.2.1 w (agree.refl _ _)) (.tail _ (.head _)) rfl, sub_rd0 (rdF_of hF.2.2.1) (fun j h => ⟨_, (.tail _ (.tail _ (.head _))), h⟩), sub_bx (hF.2.2.2.1 w (agree.refl _ _)) (.tail _ (.tail _ (.tail _ (.head _)))) rfl, sub_bx (hF.2.2.2.2.1 w (agree.refl _ _)) (.tail _ (.tail _ (.tail _ (.tail _ (.head _))))) rfl, sub_bx (hF.2.2.2.2.2.1 w (agree.refl _ _)) (.tail _ (.tail _ (.tail _ (.tail _ (.tail _ (.head _)))))) rfl, sub_ob (obF_of hF.2.2.2.2.2.2.1) (.tail _ (.tail _ (.tail _ (.tail _ (.tail _ (.tail _ (.head _))))))) rfl, sub_bx (hF.2.2.2.2.2.2.2.1 w (agree.refl _ _)) (.tail _ (.tail _ (.tail _ (.tail _ (.tail _ (.tail _ (.tail _ (.head _)))))))) rfl, sub_k hF.2.2.2.2.2.2.2.2.1 (.tail _ (.tail _ (.tail _ (.tail _ (.tail _ (.tail _ (.tail _ (.tail _ (.head _))))))))), trivial⟩, trivial⟩) (fun u35 g => (fams_cons fam_blk fams_nil)) (.inr (fun u35 g => (famx_cons trivial (fun K h => by cases h)))) (fun h => by cases h)) <|
   .cons [65] (ok_callL [999999] (fun u35 => [gk]) 55 (fun u35 => #[.agg #[vI t34.1.Lo, vI t34.1.Hi], .agg #[vI t37.1.Lo, vI t37.1.Hi]]) (.agg #[vI t38.Lo, vI t38.Hi]) 65 (fun u35 w hF => interval_Mul.calls (⟨t34.1.Lo, t34.1.Hi⟩ : TInterval) t37.1  t38 w  (glob_of hF.1) ht38)) <|
   .cons [75] (ok_as (u' := fun u35 => [(75, .blk ((u1 0).n 0) [vI t38.Lo, vI t38.Hi] 28)]) (ok_store 75 0 (fun u35 => ((u1 0).n 0)) (fun u35 => [vI 0, vI 0]) (fun u35 => [vI t38.Lo, vI t38.Hi]) 28) (fun _ => by kernel_rfl)) <| .nil) fun u35 a w' H => ?_
        replace H := H.kp [6, 67, 68, 70, 75, 66, 69, 71, 72, 73, 74, 999999, 999998]
        refine k_ret ?_
        obtain rfl := Option.some.inj G
        have g : Gh := default
        refine k_doneZ H (fun g => .agg #[vI t38.Lo, vI t38.Hi]) g [.blk b_q1 [vI q1] 3] [] (fun g => [fun _ => .blk b_q1 [vI t37.2] 3]) fr [68] [(75, ⟨((u1 0).n 0), [vI t38.Lo, vI t38.Hi], 0, 2⟩)] (.agg #[vI t38.Lo, vI t38.Hi]) [fun _ => .blk b_q1 [vI t37.2] 3] (by rfl) (by rfl) hfr (.inr (by kernel_rfl)) (fams_cons fam_blk fams_nil) (by intro p hp; simp only [List.mem_cons, List.not_mem_nil, or_false] at hp; rcases hp with rfl; exact ⟨⟨28, by kernel_rfl⟩, by kernel_rfl⟩)
       rw [if_neg c41] at G
       by_cases c42 : z36 = 10
       ·rw [if_pos c42] at G; subst c42
        replace G := bnd G; obtain ⟨t37, ht37, G⟩ := G
        replace G := bnd G; obtain ⟨t38, ht38, G⟩ := G
        refine k_rg mixed H (.cons [58] (ok_ldK (fun u35 => .map (some l_q5_0)) 58 73 (bxK b_q5 [.map (some l_q5_0)] 83) b_q5 0 1 [.map (some l_q5_0)] (fun w h => bx_of h)) <|
   .v 59 (vP ((u2 4).n 0) 0) <|
   .cons [60] (ok_ld (fun u35 => vI t4.Op) 60 76 0 1 (fun u35 => ((u2 4).n 0)) (fun u35 => [vI t4.Op, vI t4.N, vI t4.C.Lo, vI t4.C.Hi]) 47) <|
   .cons [61] (ok_valL [74] (fun u35 => [obF l_q5_0 (.map #[⟨vI 7, .func (.func 53) #[] #[], 0⟩, ⟨vI 8, .func (.func 54) #[] #[], 1⟩, ⟨vI 9, .func (.func 55) #[] #[], 2⟩, ⟨vI 10, .func (.func 56) #[] #[], 3⟩] 4)]) (fun u35 => .func (.func 56) #[] #[]) (fun u35 => true) [true, true] 61 (fun u35 w _ hF => run_of (by kernel_rfl) (run_lookup (t := 83) (k := 3) (e := 63) (l := l_q5_0) (n := t4.Op) (m := 10) (kd := .i64) (i := 3) rfl hz36 (obF_of hF.1) (by kernel_rfl) (by kernel_rfl) (by kernel_rfl)))) <|
   .cons [62] (ok_ld (fun u35 => .agg #[vI t34.1.Lo, vI t34.1.Hi]) 62 78 0 2 (fun u35 => ((u33 2).n 0)) (fun u35 => [vI t34.1.Lo, vI t34.1.Hi]) 28) <|
   .cons [63] (ok_ldK (fun u35 => .func (.func 45) #[] #[vP b_q0 0, vP b_q1 0, vP b_q2 0, vP b_q3 0, vP b_q4 0, vP b_q5 0]) 63 72 (bxK b_q4 [.func (.func 45) #[] #[vP b_q0 0, vP b_q1 0, vP b_q2 0, vP b_q3 0, vP b_q4 0, vP b_q5 0]] 61) b_q4 0 1 [.func (.func 45) #[] #[vP b_q0 0, vP b_q1 0, vP b_q2 0, vP b_q3 0, vP b_q4 0, vP b_q5 0]] (fun w h => bx_of h)) <|
   .cons [64, 68, 68] (ok_callY false fr [] [67, 66, 70, 69, 71, 72, 74, 73, 999999] (fun u35 => [rdl anyF 4 p_q0 c_q0 q0 en_TNode, bxK b_q0 [.slice p_q0 q0.length c_q0] 48, rdl anyF 2 p_q2 c_q2 q2 en_TInterval, bxK b_q2 [.slice p_q2 q2.length c_q2] 26, bxK b_q3 [vI q3.Lo, vI q3.Hi] 28, bxK b_q4 [.func (.func 45) #[] #[vP b_q0 0, vP b_q1 0, vP b_q2 0, vP b_q3 0, vP b_q4 0, vP b_q5 0]] 61, obF l_q5_0 (.map #[⟨vI 7, .func (.func 53) #[] #[], 0⟩, ⟨vI 8, .func (.func 54) #[] #[], 1⟩, ⟨vI 9, .func (.func 55) #[] #[], 2⟩, ⟨vI 10, .func (.func 56) #[] #[], 3⟩] 4), bxK b_q5 [.map (some l_q5_0)] 83, gk]) [68] (fun u35 => [.blk b_q1 [vI t34.2] 3]) 45 (fun u35 => #[vP b_q0 0, vP b_q1 0, vP b_q2 0, vP b_q3 0, vP b_q4 0, vP b_q5 0]) (fun u35 => [rdl anyF 4 p_q0 c_q0 q0 en_TNode, bxK b_q0 [.slice p_q0 q0.length c_q0] 48, rdl anyF 2 p_q2 c_q2 q2 en_TInterval, bxK b_q2 [.slice p_q2 q2.length c_q2] 26, bxK b_q3 [vI q3.Lo, vI q3.Hi] 28, bxK b_q4 [.func (.func 45) #[] #[vP b_q0 0, vP b_q1 0, vP b_q2 0, vP b_q3 0, vP b_q4 0, vP b_q5 0]] 61, obF l_q5_0 (.map #[⟨vI 7, .func (.func 53) #[] #[], 0⟩, ⟨vI 8, .func (.func 54) #[] #[], 1⟩, ⟨vI 9, .func (.func 55) #[] #[], 2⟩, ⟨vI 10, .func (.func 56) #[] #[], 3⟩] 4), bxK b_q5 [.map (some l_q5_0)] 83, gk]) (fun u35 => []) (fun u35 g => .agg #[vI t37.1.Lo, vI t37.1.Hi]) (fun u35 g => [fun _ => .blk b_q1 [vI t37.2] 3]) [68] 64 (fun u35 w hB hF hM => IH q0 t34.2 q2 q3 b_q0 p_q0 c_q0 b_q1 b_q2 p_q2 c_q2 b_q3 b_q4 b_q5 l_q5_0 t37 w  hB hM ht37) (fun u35 w hF => ⟨⟨sub_rd0 (rdF_of hF.1) (fun j h => ⟨_, (.head _), h⟩), sub_bx (hF.2.1 w (agree.refl _ _)) (.tail _ (.head _)) rfl, sub_rd0 (rdF_of hF.2.2.1) (fun j h => ⟨_, (.tail _ (.tail _ (.head _))), h⟩), sub_bx (hF.2.2.2.1 w (agree.refl _ _)) (.tail _ (.tail _ (.tail _ (.head _)))) rfl, sub_bx (hF.2.2.2.2.1 w (agree.refl _ _)) (.tail _ (.tail _ (.tail _ (.tail _ (.head _))))) rfl, sub_bx (hF.2.2.2.2.2.1 w (agree.refl _ _)) (.tail _ (.tail _ (.tail _ (.tail _ (.tail _ (.head _)))))) rfl, sub_ob (obF_of hF.2.2.2.2.2.2.1) (.tail _ (.tail _ (.tail _ (.tail _ (.tail _ (.tail _ (.head _))))))) rfl, sub_bx (hF.2.2.2.2.2.2.2.1 w (agree.refl _ _)) (.tail _ (.tail _ (.tail _ (.tail _ (.tail _ (.tail _ (.tail _ (.head _)))))))) rfl, sub_k hF.2.2.2.2.2.2.2.2.1 (.tail _ (.tail _ (.tail _ (.tail _ (.tail _ (.tail _ (.tail _ (.tail _ (.head _))))))))), trivial⟩, trivial⟩) (fun u35 g => (fams_cons fam_blk fams_nil)) (.inr (fun u35 g => (famx_cons trivial (fun K h => by cases h)))) (fun h => by cases h)) <|
   .cons [65] (ok_callL [999999] (fun u35 => [gk]) 56 (fun u35 => #[.agg #[vI t34.1.Lo, vI t34.1.Hi], .agg #[vI t37.1.Lo, vI t37.1.Hi]]) (.agg #[vI t38.Lo, vI t38.Hi]) 65 (fun u35 w hF => interval_Div.calls (⟨t34.1.Lo, t34.1.Hi⟩ : TInterval) t37.1  t38 w  (glob_of hF.1) ht38)) <|
   .cons [75] (ok_as (u' := fun u35 => [(75, .blk ((u1 0).n 0) [vI t38.Lo, vI t38.Hi] 28)]) (ok_store 75 0 (fun u35 => ((u1 0).n 0)) (fun u35 => [vI 0, vI 0]) (fun u35 => [vI t38.Lo, vI t38.Hi]) 28) (fun _ => by kernel_rfl)) <| .nil) fun u35 a w' H => ?_
        replace H := H.kp [6, 67, 68, 70, 75, 66, 69, 71, 72, 73, 74, 999999, 999998]
        refine k_ret ?_
        obtain rfl := Option.some.inj G
        have g : Gh := default
        refine k_doneZ H (fun g => .agg #[vI t38.Lo, vI t38.Hi]) g [.blk b_q1 [vI q1] 3] [] (fun g => [fun _ => .blk b_q1 [vI t37.2] 3]) fr [68] [(75, ⟨((u1 0).n 0), [vI t38.Lo, vI t38.Hi], 0, 2⟩)] (.agg #[vI t38.Lo, vI t38.Hi]) [fun _ => .blk b_q1 [vI t37.2] 3] (by rfl) (by rfl) hfr (.inr (by kernel_rfl)) (fams_cons fam_blk fams_nil) (by intro p hp; simp only [List.mem_cons, List.not_mem_nil, or_false] at hp; rcases hp with rfl; exact ⟨⟨28, by kernel_rfl⟩, by kernel_rfl⟩)
       rw [if_neg c42] at G
       cases G
set_option maxHeartbeats 4000000 in
theorem ode_Eval.calls (k0 : Nat) (a0 : List TNode) (a1 : List TInterval) (a2 : TInterval) (p_a0 : Option Addr) (c_a0 : Nat) (p_a1 : Option Addr) (c_a1 : Nat) (r : TInterval) (w : World) (hB : AllH [rdl anyF 4 p_a0 c_a0 a0 en_TNode, rdl anyF 2 p_a1 c_a1 a1 en_TInterval, gk] w) (G : ode_Eval k0 a0 a1 a2 = some r) :
  Calls Tryd.prog 32 #[.slice p_a0 a0.length c_a0, .slice p_a1 a1.length c_a1, .agg #[vI a2.Lo, vI a2.Hi]] w fun e w' => e = .returned (.agg #[vI r.Lo, vI r.Hi]) ∧ Below w.heap.size w w' := by
 obtain ⟨fr, hfr⟩ : ∃ fr : Nat → Prop, ∀ j, fr j := ⟨fun _ => True, fun _ => trivial⟩
 have hBf : ∀ j, w.heap.size ≤ j → fr j := fun j _ => hfr j
 refine k_enterF (args := [.slice p_a0 a0.length c_a0, .slice p_a1 a1.length c_a1, .agg #[vI a2.Lo, vI a2.Hi]]) 14 [(14, rdl anyF 4 p_a0 c_a0 a0 en_TNode), (15, rdl anyF 2 p_a1 c_a1 a1 en_TInterval), (999999, gk)] (by
  intro x hx
  simp only [List.mem_cons, List.not_mem_nil, or_false] at hx
  rcases hx with rfl | rfl | rfl
  ·exact rdF_fact (rdF_of hB.1) (fun _ _ => trivial) (by decide) _
  ·exact rdF_fact (rdF_of hB.2.1) (fun _ _ => trivial) (by decide) _
  ·exact ⟨⟨_, _, rfl⟩, hB.2.2.1, glob_in (glob_of hB.2.2.1)⟩) Tryd.func32 rfl (by kernel_rfl) (by kernel_rfl) fun a H => ?_
 unfold ode_Eval at G
 refine k_seq ?_
 refine k_rg mixed H (.cons [3, 16] (ok_new (fun b => vP b 0) (fun u1 => [.slice p_a0 a0.length c_a0]) 48 3 16) <|
   .cons [4, 17] (ok_new (fun b => vP b 0) (fun u1 => [.slice p_a1 a1.length c_a1]) 26 4 17) <|
   .cons [5, 18] (ok_new (fun b => vP b 0) (fun u1 => [vI a2.Lo, vI a2.Hi]) 28 5 18) <|
   .cons [6, 19] (ok_new (fun b => vP b 0) (fun u1 => [vI 0, vI 0]) 28 6 19) <| .nil) fun u1 a w' H => ?_
 replace H := H.kp [3, 4, 5, 6, 14, 15, 16, 17, 18, 19, 999999]
 refine k_seq ?_
 refine k_rg mixed H (.cons [10, 20] (ok_callOb 44 (fun u2 => #[]) (.map #[⟨vI 7, .func (.func 53) #[] #[], 0⟩, ⟨vI 8, .func (.func 54) #[] #[], 1⟩, ⟨vI 9, .func (.func 55) #[] #[], 2⟩, ⟨vI 10, .func (.func 56) #[] #[], 3⟩] 4) 10 20 (fun u2 w => ode_binaryOps.calls w)) <|
   .cons [7, 21] (ok_new (fun b => vP b 0) (fun u2 => [vI 0]) 3 7 21) <|
   .cons [8, 22] (ok_new (fun b => vP b 0) (fun u2 => [.map none]) 83 8 22) <|
   .cons [21] (ok_as (u' := fun u2 => [(21, .blk ((u2 1).n 0) [vI 0] 3)]) (ok_store 21 0 (fun u2 => ((u2 1).n 0)) (fun u2 => [vI 0]) (fun u2 => [vI 0]) 3) (fun _ => by kernel_rfl)) <|
   .cons [22] (ok_as (u' := fun u2 => [(22, .blk ((u2 2).n 0) [.map (some ((u2 0).n 0))] 83)]) (ok_store 22 0 (fun u2 => ((u2 2).n 0)) (fun u2 => [.map none]) (fun u2 => [.map (some ((u2 0).n 0))]) 83) (fun _ => by kernel_rfl)) <| .nil) fun u2 a w' H => ?_
 replace H := H.kp [3, 4, 5, 6, 7, 8, 14, 15, 16, 17, 18, 19, 20, 21, 22, 999999]
 refine k_seq ?_
 refine k_rg mixed H (.cons [9, 23] (ok_new (fun b => vP b 0) (fun u3 => [.nilFunc]) 61 9 23) <| .nil) fun u3 a w' H => ?_
 replace H := H.kp [3, 4, 5, 6, 7, 8, 9, 14, 15, 16, 17, 18, 19, 20, 21, 22, 23, 999999]
 refine k_seq ?_
 refine k_rg mixed H (.v 11 (.func (.func 45) #[] #[vP ((u1 0).n 0) 0, vP ((u2 1).n 0) 0, vP ((u1 1).n 0) 0, vP ((u1 2).n 0) 0, vP ((u3 0).n 0) 0, vP ((u2 2).n 0) 0]) <|
   .cons [23] (ok_as (u' := fun u4 => [(23, .blk ((u3 0).n 0) [.func (.func 45) #[] #[vP ((u1 0).n 0) 0, vP ((u2 1).n 0) 0, vP ((u1 1).n 0) 0, vP ((u1 2).n 0) 0, vP ((u3 0).n 0) 0, vP ((u2 2).n 0) 0]] 61)]) (ok_store 23 0 (fun u4 => ((u3 0).n 0)) (fun u4 => [.nilFunc]) (fun u4 => [.func (.func 45) #[] #[vP ((u1 0).n 0) 0, vP ((u2 1).n 0) 0, vP ((u1 1).n 0) 0, vP ((u1 2).n 0) 0, vP ((u3 0).n 0) 0, vP ((u2 2).n 0) 0]]) 61) (fun _ => by kernel_rfl)) <| .nil) fun u4 a w' H => ?_
 replace H := H.kp [6, 9, 14, 15, 16, 17, 18, 19, 20, 21, 22, 23, 999999]
 refine k_seq ?_
 replace G := bnd G; obtain ⟨t6, ht6, G⟩ := G
 refine k_rg mixed H (.cons [12] (ok_ld (fun u5 => .func (.func 45) #[] #[vP ((u1 0).n 0) 0, vP ((u2 1).n 0) 0, vP ((u1 1).n 0) 0, vP ((u1 2).n 0) 0, vP ((u3 0).n 0) 0, vP ((u2 2).n 0) 0]) 12 23 0 1 (fun u5 => ((u3 0).n 0)) (fun u5 => [.func (.func 45) #[] #[vP ((u1 0).n 0) 0, vP ((u2 1).n 0) 0, vP ((u1 1).n 0) 0, vP ((u1 2).n 0) 0, vP ((u3 0).n 0) 0, vP ((u2 2).n 0) 0]]) 61) <|
   .cons [13, 21, 21] (ok_callY false fr [] [14, 16, 15, 17, 18, 23, 20, 22, 999999] (fun u5 => [rdl anyF 4 p_a0 c_a0 a0 en_TNode, .blk ((u1 0).n 0) [.slice p_a0 a0.length c_a0] 48, rdl anyF 2 p_a1 c_a1 a1 en_TInterval, .blk ((u1 1).n 0) [.slice p_a1 a1.length c_a1] 26, .blk ((u1 2).n 0) [vI a2.Lo, vI a2.Hi] 28, .blk ((u3 0).n 0) [.func (.func 45) #[] #[vP ((u1 0).n 0) 0, vP ((u2 1).n 0) 0, vP ((u1 1).n 0) 0, vP ((u1 2).n 0) 0, vP ((u3 0).n 0) 0, vP ((u2 2).n 0) 0]] 61, obF ((u2 0).n 0) (.map #[⟨vI 7, .func (.func 53) #[] #[], 0⟩, ⟨vI 8, .func (.func 54) #[] #[], 1⟩, ⟨vI 9, .func (.func 55) #[] #[], 2⟩, ⟨vI 10, .func (.func 56) #[] #[], 3⟩] 4), .blk ((u2 2).n 0) [.map (some ((u2 0).n 0))] 83, gk]) [21] (fun u5 => [.blk ((u2 1).n 0) [vI 0] 3]) 45 (fun u5 => #[vP ((u1 0).n 0) 0, vP ((u2 1).n 0) 0, vP ((u1 1).n 0) 0, vP ((u1 2).n 0) 0, vP ((u3 0).n 0) 0, vP ((u2 2).n 0) 0]) (fun u5 => [rdl anyF 4 p_a0 c_a0 a0 en_TNode, bxK ((u1 0).n 0) [.slice p_a0 a0.length c_a0] 48, rdl anyF 2 p_a1 c_a1 a1 en_TInterval, bxK ((u1 1).n 0) [.slice p_a1 a1.length c_a1] 26, bxK ((u1 2).n 0) [vI a2.Lo, vI a2.Hi] 28, bxK ((u3 0).n 0) [.func (.func 45) #[] #[vP ((u1 0).n 0) 0, vP ((u2 1).n 0) 0, vP ((u1 1).n 0) 0, vP ((u1 2).n 0) 0, vP ((u3 0).n 0) 0, vP ((u2 2).n 0) 0]] 61, obF ((u2 0).n 0) (.map #[⟨vI 7, .func (.func 53) #[] #[], 0⟩, ⟨vI 8, .func (.func 54) #[] #[], 1⟩, ⟨vI 9, .func (.func 55) #[] #[], 2⟩, ⟨vI 10, .func (.func 56) #[] #[], 3⟩] 4), bxK ((u2 2).n 0) [.map (some ((u2 0).n 0))] 83, gk]) (fun u5 => []) (fun u5 g => .agg #[vI t6.1.Lo, vI t6.1.Hi]) (fun u5 g => [fun _ => .blk ((u2 1).n 0) [vI t6.2] 3]) [21] 13 (fun u5 w hB hF hM => ode_Eval_1_m.calls k0 a0 0 a1 a2 ((u1 0).n 0) p_a0 c_a0 ((u2 1).n 0) ((u1 1).n 0) p_a1 c_a1 ((u1 2).n 0) ((u3 0).n 0) ((u2 2).n 0) ((u2 0).n 0) t6 w  hB hM ht6) (fun u5 w hF => ⟨⟨sub_rd0 (rdF_of hF.1) (fun j h => ⟨_, (.head _), h⟩), sub_bx hF.2.1 (.tail _ (.head _)) rfl, sub_rd0 (rdF_of hF.2.2.1) (fun j h => ⟨_, (.tail _ (.tail _ (.head _))), h⟩), sub_bx hF.2.2.2.1 (.tail _ (.tail _ (.tail _ (.head _)))) rfl, sub_bx hF.2.2.2.2.1 (.tail _ (.tail _ (.tail _ (.tail _ (.head _))))) rfl, sub_bx hF.2.2.2.2.2.1 (.tail _ (.tail _ (.tail _ (.tail _ (.tail _ (.head _)))))) rfl, sub_ob (obF_of hF.2.2.2.2.2.2.1) (.tail _ (.tail _ (.tail _ (.tail _ (.tail _ (.tail _ (.head _))))))) rfl, sub_bx hF.2.2.2.2.2.2.2.1 (.tail _ (.tail _ (.tail _ (.tail _ (.tail _ (.tail _ (.tail _ (.head _)))))))) rfl, sub_k hF.2.2.2.2.2.2.2.2.1 (.tail _ (.tail _ (.tail _ (.tail _ (.tail _ (.tail _ (.tail _ (.tail _ (.head _))))))))), trivial⟩, trivial⟩) (fun u5 g => (fams_cons fam_blk fams_nil)) (.inr (fun u5 g => (famx_cons trivial (fun K h => by cases h)))) (fun h => by cases h)) <|
   .cons [19] (ok_as (u' := fun u5 => [(19, .blk ((u1 3).n 0) [vI t6.1.Lo, vI t6.1.Hi] 28)]) (ok_store 19 0 (fun u5 => ((u1 3).n 0)) (fun u5 => [vI 0, vI 0]) (fun u5 => [vI t6.1.Lo, vI t6.1.Hi]) 28) (fun _ => by kernel_rfl)) <| .nil) fun u5 a w' H => ?_
 replace H := H.kp [6, 19, 999999]
 refine k_ret ?_
 obtain rfl := Option.some.inj G
 exact k_done1 H _ 19 ((u1 3).n 0) [vI t6.1.Lo, vI t6.1.Hi] 28 0 2 (by kernel_rfl) (by kernel_rfl) (by kernel_rfl) (by kernel_rfl)
set_option maxHeartbeats 4000000 in
theorem ode_Derivatives.calls (k0 : Nat) (a0 : TSystem) (a1 : List TInterval) (a2 : TInterval) (p_a0_Names : Option Addr) (c_a0_Names : Nat) (p_a0_F : Option Addr) (c_a0_F : Nat) (L_a0_F : List (Sl TNode)) (p_a1 : Option Addr) (c_a1 : Nat) (r : List TInterval) (w : World) (h_a0_F : a0.F = L_a0_F.map Sl.l) (hB : AllH [rdl anyF 1 p_a0_Names c_a0_Names a0.Names en_str, rdl anyF 1 p_a0_F c_a0_F L_a0_F enSl, dnK anyF E_S_TNode.toPart L_a0_F, rdl anyF 2 p_a1 c_a1 a1 en_TInterval, gk] w) (G : ode_Derivatives k0 a0 a1 a2 = some r) :
  Calls Tryd.prog 12 #[.agg #[.slice p_a0_Names a0.Names.length c_a0_Names, .slice p_a0_F L_a0_F.length c_a0_F], .slice p_a1 a1.length c_a1, .agg #[vI a2.Lo, vI a2.Hi]] w fun e w' => ∃ g : Gh, e = .returned (.slice (g.o 0) r.length (g.n 0)) ∧ But (fpK []) w w' ∧ OutOK w.heap.size (fpK []) (frI w.heap.size []) [fun _ => owK 28 2 (g.o 0) r.length (g.n 0) (r.flatMap en_TInterval)] w' := by
 obtain ⟨fr, hfr⟩ : ∃ fr : Nat → Prop, fr = frI w.heap.size [] := ⟨_, rfl⟩
 have hBf : ∀ j, w.heap.size ≤ j → fr j := fun j h => by rw [hfr]; exact .inl h
 refine k_enterF (args := [.agg #[.slice p_a0_Names a0.Names.length c_a0_Names, .slice p_a0_F L_a0_F.length c_a0_F], .slice p_a1 a1.length c_a1, .agg #[vI a2.Lo, vI a2.Hi]]) 26 [(26, rdl anyF 1 p_a0_Names c_a0_Names a0.Names en_str), (27, rdl anyF 1 p_a0_F c_a0_F L_a0_F enSl), (28, dnK anyF E_S_TNode.toPart L_a0_F), (29, rdl anyF 2 p_a1 c_a1 a1 en_TInterval), (999999, gk)] (by
  intro x hx
  simp only [List.mem_cons, List.not_mem_nil, or_false] at hx
  rcases hx with rfl | rfl | rfl | rfl | rfl
  ·exact rdF_fact (rdF_of hB.1) (fun _ _ => trivial) (by decide) _
  ·exact rdF_fact (rdF_of hB.2.1) (fun _ _ => trivial) (by decide) _
  ·exact dn_fact (dn_of hB.2.2.1) (fun _ _ => trivial) _
  ·exact rdF_fact (rdF_of hB.2.2.2.1) (fun _ _ => trivial) (by decide) _
  ·exact ⟨⟨_, _, rfl⟩, hB.2.2.2.2.1, glob_in (glob_of hB.2.2.2.2.1)⟩) Tryd.func12 rfl (by kernel_rfl) (by kernel_rfl) fun a H => ?_
 unfold ode_Derivatives at G
 refine k_seq ?_
 refine k_rg mixed H (.cons [3, 30] (ok_new (fun b => vP b 0) (fun u1 => [.slice p_a0_Names a0.Names.length c_a0_Names, .slice p_a0_F L_a0_F.length c_a0_F]) 38 3 30) <|
   .cons [5, 31] (ok_new (fun b => vP b 0) (fun u1 => [vI a2.Lo, vI a2.Hi]) 28 5 31) <|
   .v 6 (.slice none 0 0) <| .nil) fun u1 a w' H => ?_
 replace H := H.kp [1, 3, 5, 26, 27, 28, 29, 30, 31, 999999]
 refine k_seq ?_
 refine k_rg mixed H (.v 7 (.slice none 0 0) <| .nil) fun u2 a w' H => ?_
 replace H := H.kp [1, 3, 5, 7, 26, 27, 28, 29, 30, 31, 999999]
 refine k_seq ?_
 replace G := bnd G; obtain ⟨j4, hj4, G⟩ := G
 refine k_join (fun a w' => ∃ (p_j3 : Option Addr) (c_j3 np_j3 : Nat), np_j3 = j4.length ∧ Rep w.heap.size w 26 (ofL [(7, sS p_j3 np_j3 c_j3), (900064, owK 28 2 p_j3 np_j3 c_j3 (j4.flatMap en_TInterval)), (999999, gk)]) a w') ?_ ?_
 ·clear H; rintro a w' ⟨p_j3, c_j3, _, rfl, H⟩
  refine k_seq ?_
  refine k_rg mixed H (.v 25 (.slice p_j3 j4.length c_j3) <|
   .v 6 (.slice p_j3 j4.length c_j3) <| .nil) fun u5 a w' H => ?_
  replace H := H.kp [6, 900064, 999999]
  refine k_ret ?_
  obtain rfl := Option.some.inj G
  obtain ⟨g, o0, n0⟩ : ∃ g : Gh, g.o 0 = p_j3 ∧ g.n 0 = c_j3 := ⟨⟨fun i => [c_j3].getD i 0, fun i => [p_j3].getD i none, fun i => ([⟨Unit, ()⟩] : List ((T : Type) × T)).getD i ⟨Unit, ()⟩⟩, rfl, rfl⟩
  refine k_doneZ H (fun g => .slice (g.o 0) j4.length (g.n 0)) g [] [] (fun g => [fun _ => owK 28 2 (g.o 0) j4.length (g.n 0) (j4.flatMap en_TInterval)]) fr [900064] [] (.slice p_j3 j4.length c_j3) [fun _ => owK 28 2 p_j3 j4.length c_j3 (j4.flatMap en_TInterval)] (by simp only [o0, n0]) (by simp only [o0, n0]) hfr (.inl ⟨rfl, rfl⟩) (fams_cons fam_ow fams_nil) (by simp)
 ·clear G; replace G := hj4; clear hj4
  refine k_seq ?_
  refine k_rg mixed H (.v 10 (vP ((u1 0).n 0) 1) <|
   .cons [11] (ok_ld (fun u6 => .slice p_a0_F L_a0_F.length c_a0_F) 11 30 1 1 (fun u6 => ((u1 0).n 0)) (fun u6 => [.slice p_a0_Names a0.Names.length c_a0_Names, .slice p_a0_F L_a0_F.length c_a0_F]) 38) <|
   .cons [12] (ok_valL [27] (fun u6 => [rdl anyF 1 p_a0_F c_a0_F L_a0_F enSl]) (fun u6 => vI (a0.F.length : Int)) (fun u6 => true) [true] 12 (fun u6 w hg hF => run_lenN (((rdF_of hF.1).2.len enSl_len (by decide)).trans (map_len h_a0_F).symm) (by kernel_rfl))) <|
   .v 13 (vI 0) <| .nil) fun u6 a w' H => ?_
  replace H := H.kp [1, 5, 7, 11, 12, 13, 27, 28, 29, 31, 999999]
  refine k_block ?_
  replace H := H.nil_row 35 28 2
  replace H := H.move (K := owK 28 2 none 0 0 (([] : List TInterval).flatMap en_TInterval)) 35 900065 (by kernel_rfl) (by intro _ _ h; cases h)
  refine k_loopJ (fun m a w' => ∃ x7 : List TInterval, ∃ x8 : Int, ode_Derivatives.l9 k0 a0 a1 a2 m x7 x8 = some j4 ∧ ∃ (p_x7 : Option Addr) (c_x7 np_x7 : Nat), np_x7 = x7.length ∧ Rep w.heap.size w 26 (ofL [(1, sS p_a1 a1.length c_a1), (5, (sP ((u1 1).n 0) 0)), (7, sS p_x7 np_x7 c_x7), (11, sS p_a0_F L_a0_F.length c_a0_F), (12, (sI (a0.F.length : Int))), (13, sI x8), (27, rdl anyF 1 p_a0_F c_a0_F L_a0_F enSl), (28, dnK anyF E_S_TNode.toPart L_a0_F), (29, rdl anyF 2 p_a1 c_a1 a1 en_TInterval), (31, .blk ((u1 1).n 0) [vI a2.Lo, vI a2.Hi] 28), (900065, owK 28 2 p_x7 np_x7 c_x7 (x7.flatMap en_TInterval)), (999999, gk)]) a w') k0 ⟨_, _, G, none, 0, 0, rfl, H.toL _ (by kernel_rfl)⟩ ?_
  clear G H
  rintro (_ | k) a w' ⟨x7, x8, G, p_x7, c_x7, _, rfl, H⟩
  ·exact absurd G (by unfold ode_Derivatives.l9; exact fun h => by cases h)
  ·unfold ode_Derivatives.l9 at G
   refine k_seq ?_
   refine k_rg mixed H (.v 14 (.bool (decide (x8 < (a0.F.length : Int)))) <| .nil) fun u10 a w' H => ?_
   replace H := H.kp [1, 5, 7, 11, 12, 13, 14, 27, 28, 29, 31, 900065, 999999]
   refine k_seq ?_
   refine k_cond H (by kernel_rfl) (t := decide (x8 < (a0.F.length : Int))) (by kernel_rfl) (fun c18 => ?_) (fun c18 => ?_)
   ·rw [if_pos c18] at G
    refine k_skip ?_
    refine k_seq ?_
    refine k_block ?_
    refine k_seq ?_
    replace G := gd G; obtain ⟨b12, G⟩ := G
    replace G := bnd G; obtain ⟨t13, ht13, G⟩ := G
    obtain ⟨p_t13, c_t13, y_t13⟩ := sl_get h_a0_F ht13
    refine k_rg mixed H (.cons [15] (ok_valL [27] (fun u11 => [rdl anyF 1 p_a0_F c_a0_F L_a0_F enSl]) (fun u11 => .pointer (some ⟨hdB p_a0_F, hdO p_a0_F + x8.toNat * 1, none⟩)) (fun u11 => true) [true, true] 15 (fun u11 w hg hF => ix_row (t := 36) (k := .i64) (i := x8) (p := p_a0_F) (n := L_a0_F.length) (cap := c_a0_F) (x := a0.F) (en := enSl) (rdF_of hF.1).2 enSl_len (map_len h_a0_F) b12 (by kernel_rfl))) <|
   .cons [16] (ok_valL [27] (fun u11 => [rdl anyF 1 p_a0_F c_a0_F L_a0_F enSl]) (fun u11 => .slice p_t13 t13.length c_t13) (fun u11 => true) [true] 16 (fun u11 w hg hF => ld_row (en := enSl) (rdF_of hF.1).2 enSl_len y_t13 0 1 [.slice p_t13 t13.length c_t13] rfl (by kernel_rfl))) <|
   .v 9 (.slice p_t13 t13.length c_t13) <| .nil) fun u11 a w' H => ?_
    replace H := H.kp [1, 5, 7, 9, 11, 12, 13, 27, 28, 29, 31, 900065, 999999]
    replace G := bnd G; obtain ⟨t15, ht15, G⟩ := G
    replace G := gd G; obtain ⟨b16, G⟩ := G
    refine k_rg mixed H (.v 17 (.slice p_x7 x7.length c_x7) <|
   .v 18 (.slice p_t13 t13.length c_t13) <|
   .v 19 (.slice p_a1 a1.length c_a1) <|
   .cons [20] (ok_ld (fun u14 => .agg #[vI a2.Lo, vI a2.Hi]) 20 31 0 2 (fun u14 => ((u1 1).n 0)) (fun u14 => [vI a2.Lo, vI a2.Hi]) 28) <|
   .cons [21] (ok_callL [28, 29, 999999] (fun u14 => [dnK anyF E_S_TNode.toPart L_a0_F, rdl anyF 2 p_a1 c_a1 a1 en_TInterval, gk]) 32 (fun u14 => #[.slice p_t13 t13.length c_t13, .slice p_a1 a1.length c_a1, .agg #[vI a2.Lo, vI a2.Hi]]) (.agg #[vI t15.Lo, vI t15.Hi]) 21 (fun u14 w hF => ode_Eval.calls k0 t13 a1 a2 p_t13 c_t13 p_a1 c_a1 t15 w  ⟨(rdA (show RowC _ 4 p_t13 t13.length c_t13 (t13.flatMap en_TNode) from ((dn_of hF.1) _ (List.mem_of_getElem? y_t13)).1)), (rdA (rdF_of hF.2.1)), hF.2.2.1, trivial⟩ ht15)) <|
   .cons [22, 32] (ok_new (fun b => .slice (some ⟨b, 0, none⟩) 1 1) (fun u14 => [vI t15.Lo, vI t15.Hi]) 28 22 32) <|
   .cons [23, 900065, 900065] (ok_own1 [5] [32] (fun u14 => [.blk ((u14 5).n 0) [vI t15.Lo, vI t15.Hi] 28]) 900065 (fun u14 => owK 28 2 p_x7 x7.length c_x7 (x7.flatMap en_TInterval)) (some 23) (fun u14 g => .slice (g.o 0) (x7 ++ [t15]).length (g.n 0)) (fun u14 g => owK 28 2 (g.o 0) ((x7 ++ [t15]).length) (g.n 0) ((x7 ++ [t15]).flatMap en_TInterval)) (fun u14 w hF hK => tv_app (run_app_rowN (t := 26) (ty := 26) (en := en_TInterval) en_TInterval_len inf28 (ow_of hK) hF.1 (news := [t15]) rfl (by simp) (by kernel_rfl) b16)) (hloc := fun u u' h => ⟨by first | rfl | simp only [h 5 (by decide)], by first | rfl | simp only [h 5 (by decide)], by first | rfl | simp only [h 5 (by decide)], by first | rfl | simp only [h 5 (by decide)]⟩)) <|
   .cons [7] (ok_val (fun u14 => .slice ((u14 6).o 0) ((x7 ++ [t15]).length) ((u14 6).n 0)) 7) <| .nil) fun u14 a w' H => ?_
    replace H := H.kp [1, 5, 7, 11, 12, 13, 27, 28, 29, 31, 900065, 999999]
    refine k_rg mixed H (.v 24 (vI (w_i64 (x8 + 1))) <|
   .v 13 (vI (w_i64 (x8 + 1))) <| .nil) fun u17 a w' H => ?_
    replace H := H.kp [1, 5, 7, 11, 12, 13, 27, 28, 29, 31, 900065, 999999]
    exact ⟨k, Nat.lt_succ_self k, _, _, G, ((u14 6).o 0), ((u14 6).n 0), (x7 ++ [t15]).length, rfl, H.toL _ (by kernel_rfl)⟩
   ·rw [if_neg (nt c18)] at G
    refine k_exit rfl ?_
    obtain rfl := Option.some.inj G
    replace H := H.move (K := owK 28 2 p_x7 x7.length c_x7 (x7.flatMap en_TInterval)) 900065 900064 (by kernel_rfl) (by intro _ _ h; cases h)
    exact ⟨p_x7, c_x7, x7.length, rfl, H.toL _ (by kernel_rfl)⟩
end Go.Proofs.YtbpgobecpmjaeaaDoor
