/- Each function of the program answers as the plain Lean function of its name (part 1). Printed by a program of this session. -/
import Derived.Test.YtglcmhldonkfdaaDoorFn0
set_option linter.unusedVariables false
set_option linter.unusedSimpArgs false
set_option maxRecDepth 100000
namespace Go.Proofs.YtglcmhldonkfdaaDoor
open Go Go.RowKit Go.Sx Go.Proofs
set_option maxHeartbeats 4000000 in
theorem matrix_basis_reduce_m.calls (k0 : Nat) (a0 : Tbasis) (a1 : TA6_Int) (b_a0 : Nat) (p_a0_columns : Option Addr) (c_a0_columns : Nat) (r : TA6_Int) (w : World) (hB : AllH [rdl anyF 6 p_a0_columns c_a0_columns a0.columns en_TA6_Int, bxK b_a0 [vI a0.n, .slice p_a0_columns a0.columns.length c_a0_columns] 84] w) (G : matrix_basis_reduce_m k0 a0 a1 = some r) :
  Calls Tryd.prog 92 #[vP b_a0 0, .agg #[vI a1.e0, vI a1.e1, vI a1.e2, vI a1.e3, vI a1.e4, vI a1.e5]] w fun e w' => e = .returned (.agg #[vI r.e0, vI r.e1, vI r.e2, vI r.e3, vI r.e4, vI r.e5]) ∧ Below w.heap.size w w' := by
 obtain ⟨fr, hfr⟩ : ∃ fr : Nat → Prop, ∀ j, fr j := ⟨fun _ => True, fun _ => trivial⟩
 have hBf : ∀ j, w.heap.size ≤ j → fr j := fun j _ => hfr j
 refine k_enterF (args := [vP b_a0 0, .agg #[vI a1.e0, vI a1.e1, vI a1.e2, vI a1.e3, vI a1.e4, vI a1.e5]]) 78 [(79, rdl anyF 6 p_a0_columns c_a0_columns a0.columns en_TA6_Int), (78, bxK b_a0 [vI a0.n, .slice p_a0_columns a0.columns.length c_a0_columns] 84)] (by
  intro x hx
  simp only [List.mem_cons, List.not_mem_nil, or_false] at hx
  rcases hx with rfl | rfl
  ·exact rdF_fact (rdF_of hB.1) (fun _ _ => trivial) (by decide) _
  ·exact bx_fact (hB.2.1 w (agree.refl _ _)) _) Tryd.func92 rfl (by kernel_rfl) (by kernel_rfl) fun a H => ?_
 unfold matrix_basis_reduce_m at G
 refine k_seq ?_
 refine k_rg mixed H (.cons [3, 80] (ok_new (fun b => vP b 0) (fun u1 => [vI a1.e0, vI a1.e1, vI a1.e2, vI a1.e3, vI a1.e4, vI a1.e5]) 81 3 80) <|
   .cons [4, 81] (ok_new (fun b => vP b 0) (fun u1 => [vI 0, vI 0, vI 0, vI 0, vI 0, vI 0]) 81 4 81) <| .nil) fun u1 a w' H => ?_
 replace H := H.kp [0, 3, 4, 79, 80, 81, 78]
 refine k_seq ?_
 replace G := bnd G; obtain ⟨j8, hj8, G⟩ := G
 refine k_join (fun a w' => Rep w.heap.size w 78 (ofL [(3, (sP ((u1 0).n 0) 0)), (4, (sP ((u1 1).n 0) 0)), (79, rdl anyF 6 p_a0_columns c_a0_columns a0.columns en_TA6_Int), (80, .blk ((u1 0).n 0) [vI j8.1, vI j8.2.1, vI j8.2.2.1, vI j8.2.2.2.1, vI j8.2.2.2.2.1, vI j8.2.2.2.2.2] 81), (81, .blk ((u1 1).n 0) [vI 0, vI 0, vI 0, vI 0, vI 0, vI 0] 81), (78, bxK b_a0 [vI a0.n, .slice p_a0_columns a0.columns.length c_a0_columns] 84)]) a w') ?_ ?_
 ·clear H; intro a w' H
  refine k_seq ?_
  refine k_rg mixed H (.cons [77] (ok_ld (fun u9 => .agg #[vI j8.1, vI j8.2.1, vI j8.2.2.1, vI j8.2.2.2.1, vI j8.2.2.2.2.1, vI j8.2.2.2.2.2]) 77 80 0 6 (fun u9 => ((u1 0).n 0)) (fun u9 => [vI j8.1, vI j8.2.1, vI j8.2.2.1, vI j8.2.2.2.1, vI j8.2.2.2.2.1, vI j8.2.2.2.2.2]) 81) <|
   .cons [81] (ok_as (u' := fun u9 => [(81, .blk ((u1 1).n 0) [vI j8.1, vI j8.2.1, vI j8.2.2.1, vI j8.2.2.2.1, vI j8.2.2.2.2.1, vI j8.2.2.2.2.2] 81)]) (ok_store 81 0 (fun u9 => ((u1 1).n 0)) (fun u9 => [vI 0, vI 0, vI 0, vI 0, vI 0, vI 0]) (fun u9 => [vI j8.1, vI j8.2.1, vI j8.2.2.1, vI j8.2.2.2.1, vI j8.2.2.2.2.1, vI j8.2.2.2.2.2]) 81) (fun _ => by kernel_rfl)) <| .nil) fun u9 a w' H => ?_
  replace H := H.kp [4, 79, 81, 78]
  refine k_ret ?_
  obtain rfl := Option.some.inj G
  exact k_done1 H _ 81 ((u1 1).n 0) [vI j8.1, vI j8.2.1, vI j8.2.2.1, vI j8.2.2.2.1, vI j8.2.2.2.2.1, vI j8.2.2.2.2.2] 81 0 6 (by kernel_rfl) (by kernel_rfl) (by kernel_rfl) (by kernel_rfl)
 ·clear G; replace G := hj8; clear hj8
  refine k_seq ?_
  replace G := bnd G; obtain ⟨t11, ht11, G⟩ := G
  refine k_regT mixed H (.v 14 (vP b_a0 0) <|
   .v 15 (vP b_a0 0) <|
   .v 16 (vP b_a0 1) <|
   .cons [17] (ok_ldK (fun u10 => .slice p_a0_columns a0.columns.length c_a0_columns) 17 78 (bxK b_a0 [vI a0.n, .slice p_a0_columns a0.columns.length c_a0_columns] 84) b_a0 1 1 [vI a0.n, .slice p_a0_columns a0.columns.length c_a0_columns] (fun w h => bx_of h)) <|
   .v 18 (vP b_a0 0) <|
   .v 19 (vP b_a0 0) <|
   .v 20 (vP b_a0 1) <|
   .cons [21] (ok_ldK (fun u10 => .slice p_a0_columns a0.columns.length c_a0_columns) 21 78 (bxK b_a0 [vI a0.n, .slice p_a0_columns a0.columns.length c_a0_columns] 84) b_a0 1 1 [vI a0.n, .slice p_a0_columns a0.columns.length c_a0_columns] (fun w h => bx_of h)) <|
   .v 22 (vP b_a0 0) <|
   .v 23 (vP b_a0 0) <|
   .v 24 (vP b_a0 1) <|
   .cons [25] (ok_ldK (fun u10 => .slice p_a0_columns a0.columns.length c_a0_columns) 25 78 (bxK b_a0 [vI a0.n, .slice p_a0_columns a0.columns.length c_a0_columns] 84) b_a0 1 1 [vI a0.n, .slice p_a0_columns a0.columns.length c_a0_columns] (fun w h => bx_of h)) <|
   .cons [26, 82] (ok_blkrow 1 3 (ok_new (fun b => .slice (some ⟨b, 0, none⟩) 3 3) (fun u10 => [.slice p_a0_columns a0.columns.length c_a0_columns, .slice p_a0_columns a0.columns.length c_a0_columns, .slice p_a0_columns a0.columns.length c_a0_columns]) 79 26 82) (fun _ => rfl) (by decide)) <|
   .cons [27, 83] (ok_callY false fr [12] [82, 79] (fun u10 => [owK 79 1 (some ⟨((u10 12).n 0), 0, none⟩) 3 3 (([⟨p_a0_columns, c_a0_columns, a0.columns⟩, ⟨p_a0_columns, c_a0_columns, a0.columns⟩, ⟨p_a0_columns, c_a0_columns, a0.columns⟩] : List (Sl TA6_Int)).flatMap enSl), rdl anyF 6 p_a0_columns c_a0_columns a0.columns en_TA6_Int]) [] (fun u10 => []) 107 (fun u10 => #[.slice (some ⟨((u10 12).n 0), 0, none⟩) 3 3]) (fun u10 => [rdF anyF 1 (some ⟨((u10 12).n 0), 0, none⟩) 3 3 (([⟨p_a0_columns, c_a0_columns, a0.columns⟩, ⟨p_a0_columns, c_a0_columns, a0.columns⟩, ⟨p_a0_columns, c_a0_columns, a0.columns⟩] : List (Sl TA6_Int)).flatMap enSl), dnK anyF E_S_TA6_Int.toPart ([⟨p_a0_columns, c_a0_columns, a0.columns⟩, ⟨p_a0_columns, c_a0_columns, a0.columns⟩, ⟨p_a0_columns, c_a0_columns, a0.columns⟩] : List (Sl TA6_Int))]) (fun u10 => []) (fun u10 g => .slice (g.o 0) t11.length (g.n 0)) (fun u10 g => [fun _ => owK 81 6 (g.o 0) t11.length (g.n 0) (t11.flatMap en_TA6_Int)]) [83] 27 (fun u10 w hB hF hM => matrix_vector_107.calls k0 ([a0.columns, a0.columns, a0.columns] : List (List TA6_Int)) (some ⟨((u10 12).n 0), 0, none⟩) 3 ([⟨p_a0_columns, c_a0_columns, a0.columns⟩, ⟨p_a0_columns, c_a0_columns, a0.columns⟩, ⟨p_a0_columns, c_a0_columns, a0.columns⟩] : List (Sl TA6_Int)) t11 w rfl hB ht11) (fun u10 w hF => ⟨⟨sub_rd0 (owns_rowC (ow_of hF.1)) (fun j h => ⟨_, (.head _), (fp_own h)⟩), sub_dn0 (E := E_S_TA6_Int.toPart) (L := ([⟨p_a0_columns, c_a0_columns, a0.columns⟩, ⟨p_a0_columns, c_a0_columns, a0.columns⟩, ⟨p_a0_columns, c_a0_columns, a0.columns⟩] : List (Sl TA6_Int))) (rdl_cons ⟨(rdF_of hF.2.1), fun _ _ => trivial⟩ (rdl_cons ⟨(rdF_of hF.2.1), fun _ _ => trivial⟩ (rdl_cons ⟨(rdF_of hF.2.1), fun _ _ => trivial⟩ rdl_nil))) (fun j => (fun h => (fpl_cons h).elim (fun h => (h.elim (fun h => ⟨_, (.tail _ (.head _)), h⟩) (fun ⟨_, _, hz⟩ => hz.elim))) (fun h => (fpl_cons h).elim (fun h => (h.elim (fun h => ⟨_, (.tail _ (.head _)), h⟩) (fun ⟨_, _, hz⟩ => hz.elim))) (fun h => (fpl_cons h).elim (fun h => (h.elim (fun h => ⟨_, (.tail _ (.head _)), h⟩) (fun ⟨_, _, hz⟩ => hz.elim))) (fun h => by obtain ⟨_, hy, _⟩ := h; cases hy))))), trivial⟩, trivial⟩) (fun u10 g => (fams_cons fam_ow fams_nil)) (.inr (fun u10 g => (famx_cons trivial (fun K h => by cases h)))) (fun h => by cases h) (hloc := fun u u' h => ⟨by first | rfl | simp only [h 12 (by decide)], by first | rfl | simp only [h 12 (by decide)], by first | rfl | simp only [h 12 (by decide)], by first | rfl | simp only [h 12 (by decide)], by first | rfl | simp only [h 12 (by decide)], by first | rfl | simp only [h 12 (by decide)]⟩)) <|
   .v 28 (vI (t11.length : Int)) <|
   .v 29 (vI 0) <| .nil) (by kernel_rfl) fun u10 a w' H => ?_
  replace H := H.kp [0, 3, 4, 27, 28, 29, 79, 80, 81, 83, 78]
  refine k_block ?_
  refine k_loopJ (fun m a w' => ∃ x12 : Int, ∃ x13 : Int, ∃ x14 : Int, ∃ x15 : Int, ∃ x16 : Int, ∃ x17 : Int, ∃ x18 : Int, matrix_basis_reduce_m.l19 k0 a0 a1 t11 m x12 x13 x14 x15 x16 x17 x18 = some j8 ∧ Rep w.heap.size w 78 (ofL [(0, sP b_a0 0), (3, (sP ((u1 0).n 0) 0)), (4, (sP ((u1 1).n 0) 0)), (27, (sS ((u10 13).o 0) t11.length ((u10 13).n 0))), (28, (sI (t11.length : Int))), (29, sI x18), (79, rdl anyF 6 p_a0_columns c_a0_columns a0.columns en_TA6_Int), (80, .blk ((u1 0).n 0) [vI x12, vI x13, vI x14, vI x15, vI x16, vI x17] 81), (81, .blk ((u1 1).n 0) [vI 0, vI 0, vI 0, vI 0, vI 0, vI 0] 81), (83, owK 81 6 ((u10 13).o 0) t11.length ((u10 13).n 0) (t11.flatMap en_TA6_Int)), (78, bxK b_a0 [vI a0.n, .slice p_a0_columns a0.columns.length c_a0_columns] 84)]) a w') k0 ⟨_, _, _, _, _, _, _, G, H.toL _ (by kernel_rfl)⟩ ?_
  clear G H
  rintro (_ | k) a w' ⟨x12, x13, x14, x15, x16, x17, x18, G, H⟩
  ·exact absurd G (by unfold matrix_basis_reduce_m.l19; exact fun h => by cases h)
  ·unfold matrix_basis_reduce_m.l19 at G
   refine k_seq ?_
   refine k_rg mixed H (.v 30 (.bool (decide (x18 < (t11.length : Int)))) <| .nil) fun u20 a w' H => ?_
   replace H := H.kp [0, 3, 4, 27, 28, 29, 30, 79, 80, 81, 83, 78]
   refine k_seq ?_
   refine k_cond H (by kernel_rfl) (t := decide (x18 < (t11.length : Int))) (by kernel_rfl) (fun c114 => ?_) (fun c114 => ?_)
   ·rw [if_pos c114] at G
    refine k_skip ?_
    refine k_seq ?_
    replace G := bnd G; obtain ⟨j27, hj27, G⟩ := G
    refine k_join (fun a w' => Rep w.heap.size w 78 (ofL [(0, sP b_a0 0), (3, (sP ((u1 0).n 0) 0)), (4, (sP ((u1 1).n 0) 0)), (27, (sS ((u10 13).o 0) t11.length ((u10 13).n 0))), (28, (sI (t11.length : Int))), (29, sI x18), (79, rdl anyF 6 p_a0_columns c_a0_columns a0.columns en_TA6_Int), (80, .blk ((u1 0).n 0) [vI j27.1, vI j27.2.1, vI j27.2.2.1, vI j27.2.2.2.1, vI j27.2.2.2.2.1, vI j27.2.2.2.2.2] 81), (81, .blk ((u1 1).n 0) [vI 0, vI 0, vI 0, vI 0, vI 0, vI 0] 81), (83, owK 81 6 ((u10 13).o 0) t11.length ((u10 13).n 0) (t11.flatMap en_TA6_Int)), (78, bxK b_a0 [vI a0.n, .slice p_a0_columns a0.columns.length c_a0_columns] 84)]) a w') ?_ ?_
    ·clear H; intro a w' H
     refine k_rg mixed H (.v 76 (vI (w_i64 (x18 + 1))) <|
   .v 29 (vI (w_i64 (x18 + 1))) <| .nil) fun u28 a w' H => ?_
     replace H := H.kp [0, 3, 4, 27, 28, 29, 79, 80, 81, 83, 78]
     exact ⟨k, Nat.lt_succ_self k, _, _, _, _, _, _, _, G, H.toL _ (by kernel_rfl)⟩
    ·clear G; replace G := hj27; clear hj27
     refine k_block ?_
     refine k_seq ?_
     replace G := gd G; obtain ⟨b30, G⟩ := G
     replace G := bnd G; obtain ⟨t31, ht31, G⟩ := G
     refine k_rg mixed H (.cons [31] (ok_valL [83] (fun u29 => [owK 81 6 ((u10 13).o 0) t11.length ((u10 13).n 0) (t11.flatMap en_TA6_Int)]) (fun u29 => .pointer (some ⟨hdB ((u10 13).o 0), hdO ((u10 13).o 0) + x18.toNat * 6, none⟩)) (fun u29 => true) [true, true] 31 (fun u29 w hg hF => ix_row (t := 79) (k := .i64) (i := x18) (p := ((u10 13).o 0)) (n := t11.length) (cap := ((u10 13).n 0)) (x := t11) (en := en_TA6_Int) (owns_rowC (ow_of hF.1)).2 en_TA6_Int_len rfl b30 (by kernel_rfl))) <|
   .cons [32] (ok_valL [83] (fun u29 => [owK 81 6 ((u10 13).o 0) t11.length ((u10 13).n 0) (t11.flatMap en_TA6_Int)]) (fun u29 => .agg #[vI t31.e0, vI t31.e1, vI t31.e2, vI t31.e3, vI t31.e4, vI t31.e5]) (fun u29 => true) [true] 32 (fun u29 w hg hF => ld_row (en := en_TA6_Int) (owns_rowC (ow_of hF.1)).2 en_TA6_Int_len ht31 0 6 [vI t31.e0, vI t31.e1, vI t31.e2, vI t31.e3, vI t31.e4, vI t31.e5] rfl (by kernel_rfl))) <|
   .cons [6, 84] (ok_new (fun b => vP b 0) (fun u29 => [vI 0, vI 0, vI 0, vI 0, vI 0, vI 0]) 81 6 84) <|
   .cons [84] (ok_as (u' := fun u29 => [(84, .blk ((u29 2).n 0) [vI t31.e0, vI t31.e1, vI t31.e2, vI t31.e3, vI t31.e4, vI t31.e5] 81)]) (ok_store 84 0 (fun u29 => ((u29 2).n 0)) (fun u29 => [vI 0, vI 0, vI 0, vI 0, vI 0, vI 0]) (fun u29 => [vI t31.e0, vI t31.e1, vI t31.e2, vI t31.e3, vI t31.e4, vI t31.e5]) 81) (fun _ => by kernel_rfl)) <| .nil) fun u29 a w' H => ?_
     replace H := H.kp [0, 3, 4, 6, 27, 28, 29, 79, 80, 81, 83, 84, 78]
     refine k_seq ?_
     refine k_rg mixed H (.v 7 (vI 0) <| .nil) fun u32 a w' H => ?_
     replace H := H.kp [0, 3, 4, 6, 7, 27, 28, 29, 79, 80, 81, 83, 84, 78]
     refine k_seq ?_
     replace G := bnd G; obtain ⟨j34, hj34, G⟩ := G
     refine k_join (fun a w' => Rep w.heap.size w 78 (ofL [(0, sP b_a0 0), (3, (sP ((u1 0).n 0) 0)), (4, (sP ((u1 1).n 0) 0)), (6, (sP ((u29 2).n 0) 0)), (7, sI j34), (27, (sS ((u10 13).o 0) t11.length ((u10 13).n 0))), (28, (sI (t11.length : Int))), (29, sI x18), (79, rdl anyF 6 p_a0_columns c_a0_columns a0.columns en_TA6_Int), (80, .blk ((u1 0).n 0) [vI x12, vI x13, vI x14, vI x15, vI x16, vI x17] 81), (81, .blk ((u1 1).n 0) [vI 0, vI 0, vI 0, vI 0, vI 0, vI 0] 81), (83, owK 81 6 ((u10 13).o 0) t11.length ((u10 13).n 0) (t11.flatMap en_TA6_Int)), (84, .blk ((u29 2).n 0) [vI t31.e0, vI t31.e1, vI t31.e2, vI t31.e3, vI t31.e4, vI t31.e5] 81), (78, bxK b_a0 [vI a0.n, .slice p_a0_columns a0.columns.length c_a0_columns] 84)]) a w') ?_ ?_
     ·clear H; intro a w' H
      refine k_seq ?_
      refine k_rg mixed H (.v 54 (vP b_a0 0) <|
   .v 55 (vP b_a0 0) <|
   .v 56 (vP b_a0 0) <|
   .cons [57] (ok_ldK (fun u35 => vI a0.n) 57 78 (bxK b_a0 [vI a0.n, .slice p_a0_columns a0.columns.length c_a0_columns] 84) b_a0 0 1 [vI a0.n, .slice p_a0_columns a0.columns.length c_a0_columns] (fun w h => bx_of h)) <|
   .v 58 (vI 0) <| .nil) fun u35 a w' H => ?_
      replace H := H.kp [0, 3, 4, 6, 7, 27, 28, 29, 57, 58, 79, 80, 81, 83, 84, 78]
      refine k_block ?_
      refine k_loopJ (fun m a w' => ∃ x36 : Int, ∃ x37 : Int, ∃ x38 : Int, ∃ x39 : Int, ∃ x40 : Int, ∃ x41 : Int, ∃ x42 : Int, matrix_basis_reduce_m.l43 k0 a0 a1 t11 x12 x13 x14 x15 x16 x17 x18 t31 j34 m x36 x37 x38 x39 x40 x41 x42 = some j27 ∧ Rep w.heap.size w 78 (ofL [(0, sP b_a0 0), (3, (sP ((u1 0).n 0) 0)), (4, (sP ((u1 1).n 0) 0)), (6, (sP ((u29 2).n 0) 0)), (7, sI j34), (27, (sS ((u10 13).o 0) t11.length ((u10 13).n 0))), (28, (sI (t11.length : Int))), (29, sI x18), (57, sI a0.n), (58, sI x42), (79, rdl anyF 6 p_a0_columns c_a0_columns a0.columns en_TA6_Int), (80, .blk ((u1 0).n 0) [vI x36, vI x37, vI x38, vI x39, vI x40, vI x41] 81), (81, .blk ((u1 1).n 0) [vI 0, vI 0, vI 0, vI 0, vI 0, vI 0] 81), (83, owK 81 6 ((u10 13).o 0) t11.length ((u10 13).n 0) (t11.flatMap en_TA6_Int)), (84, .blk ((u29 2).n 0) [vI t31.e0, vI t31.e1, vI t31.e2, vI t31.e3, vI t31.e4, vI t31.e5] 81), (78, bxK b_a0 [vI a0.n, .slice p_a0_columns a0.columns.length c_a0_columns] 84)]) a w') k0 ⟨_, _, _, _, _, _, _, G, H.toL _ (by kernel_rfl)⟩ ?_
      clear G H
      rintro (_ | k) a w' ⟨x36, x37, x38, x39, x40, x41, x42, G, H⟩
      ·exact absurd G (by unfold matrix_basis_reduce_m.l43; exact fun h => by cases h)
      ·unfold matrix_basis_reduce_m.l43 at G
       refine k_seq ?_
       refine k_rg mixed H (.v 59 (.bool (decide (x42 < a0.n))) <| .nil) fun u44 a w' H => ?_
       replace H := H.kp [0, 3, 4, 6, 7, 27, 28, 29, 57, 58, 59, 79, 80, 81, 83, 84, 78]
       refine k_seq ?_
       refine k_cond H (by kernel_rfl) (t := decide (x42 < a0.n)) (by kernel_rfl) (fun c76 => ?_) (fun c76 => ?_)
       ·rw [if_pos c76] at G
        refine k_skip ?_
        refine k_seq ?_
        refine k_block ?_
        refine k_seq ?_
        refine k_rg mixed H (.v 60 (vI x42) <|
   .v 11 (vI x42) <| .nil) fun u45 a w' H => ?_
        replace H := H.kp [0, 3, 4, 6, 7, 11, 27, 28, 29, 57, 58, 79, 80, 81, 83, 84, 78]
        refine k_seq ?_
        by_cases c70 : x42 = 0
        ·rw [if_pos c70] at G; subst c70
         replace G := bnd G; obtain ⟨t47, ht47, G⟩ := G
         refine k_rg mixed H (.v 62 (vI j34) <|
   .v 63 (vI 0) <|
   .v 64 (vP ((u29 2).n 0) 0) <|
   .cons [65] (ok_ld (fun u46 => vI t31.e0) 65 84 0 1 (fun u46 => ((u29 2).n 0)) (fun u46 => [vI t31.e0, vI t31.e1, vI t31.e2, vI t31.e3, vI t31.e4, vI t31.e5]) 81) <|
   .cons [66] (ok_callv 104 (fun u46 => #[vI j34, vI t31.e0]) (.tuple #[vI t47.1, vI t47.2]) 66 [] (fun u46 w _ => fixed_Mul.calls j34 t31.e0  t47 w  ht47)) <|
   .v 61 (.tuple #[vI t47.1, vI t47.2]) <|
   .v 67 (vI t47.1) <|
   .v 68 (vI t47.2) <|
   .v 12 (vI t47.1) <|
   .v 13 (vI t47.2) <| .nil) fun u46 a w' H => ?_
         replace H := H.kp [0, 3, 4, 6, 7, 11, 12, 27, 28, 29, 57, 58, 79, 80, 81, 83, 84, 78]
         refine k_rg mixed H (.v 69 (vI 0) <|
   .v 70 (vP ((u1 0).n 0) 0) <|
   .cons [71] (ok_ld (fun u48 => vI x36) 71 80 0 1 (fun u48 => ((u1 0).n 0)) (fun u48 => [vI x36, vI x37, vI x38, vI x39, vI x40, vI x41]) 81) <|
   .v 72 (vI t47.1) <|
   .v 73 (vI (w_i64 (x36 - t47.1))) <|
   .v 74 (vP ((u1 0).n 0) 0) <|
   .cons [80] (ok_as (u' := fun u48 => [(80, .blk ((u1 0).n 0) [vI (w_i64 (x36 - t47.1)), vI x37, vI x38, vI x39, vI x40, vI x41] 81)]) (ok_store 80 0 (fun u48 => ((u1 0).n 0)) (fun u48 => [vI x36, vI x37, vI x38, vI x39, vI x40, vI x41]) (fun u48 => [vI (w_i64 (x36 - t47.1))]) 81) (fun _ => by kernel_rfl)) <| .nil) fun u48 a w' H => ?_
         replace H := H.kp [0, 3, 4, 6, 7, 27, 28, 29, 57, 58, 79, 80, 81, 83, 84, 78]
         refine k_rg mixed H (.v 75 (vI (w_i64 (0 + 1))) <|
   .v 58 (vI (w_i64 (0 + 1))) <| .nil) fun u49 a w' H => ?_
         replace H := H.kp [0, 3, 4, 6, 7, 27, 28, 29, 57, 58, 79, 80, 81, 83, 84, 78]
         exact ⟨k, Nat.lt_succ_self k, _, _, _, _, _, _, _, G, H.toL _ (by kernel_rfl)⟩
        rw [if_neg c70] at G
        by_cases c71 : x42 = 1
        ·rw [if_pos c71] at G; subst c71
         replace G := bnd G; obtain ⟨t51, ht51, G⟩ := G
         refine k_rg mixed H (.v 62 (vI j34) <|
   .v 63 (vI 1) <|
   .v 64 (vP ((u29 2).n 0) 1) <|
   .cons [65] (ok_ld (fun u50 => vI t31.e1) 65 84 1 1 (fun u50 => ((u29 2).n 0)) (fun u50 => [vI t31.e0, vI t31.e1, vI t31.e2, vI t31.e3, vI t31.e4, vI t31.e5]) 81) <|
   .cons [66] (ok_callv 104 (fun u50 => #[vI j34, vI t31.e1]) (.tuple #[vI t51.1, vI t51.2]) 66 [] (fun u50 w _ => fixed_Mul.calls j34 t31.e1  t51 w  ht51)) <|
   .v 61 (.tuple #[vI t51.1, vI t51.2]) <|
   .v 67 (vI t51.1) <|
   .v 68 (vI t51.2) <|
   .v 12 (vI t51.1) <|
   .v 13 (vI t51.2) <| .nil) fun u50 a w' H => ?_
         replace H := H.kp [0, 3, 4, 6, 7, 11, 12, 27, 28, 29, 57, 58, 79, 80, 81, 83, 84, 78]
         refine k_rg mixed H (.v 69 (vI 1) <|
   .v 70 (vP ((u1 0).n 0) 1) <|
   .cons [71] (ok_ld (fun u52 => vI x37) 71 80 1 1 (fun u52 => ((u1 0).n 0)) (fun u52 => [vI x36, vI x37, vI x38, vI x39, vI x40, vI x41]) 81) <|
   .v 72 (vI t51.1) <|
   .v 73 (vI (w_i64 (x37 - t51.1))) <|
   .v 74 (vP ((u1 0).n 0) 1) <|
   .cons [80] (ok_as (u' := fun u52 => [(80, .blk ((u1 0).n 0) [vI x36, vI (w_i64 (x37 - t51.1)), vI x38, vI x39, vI x40, vI x41] 81)]) (ok_store 80 1 (fun u52 => ((u1 0).n 0)) (fun u52 => [vI x36, vI x37, vI x38, vI x39, vI x40, vI x41]) (fun u52 => [vI (w_i64 (x37 - t51.1))]) 81) (fun _ => by kernel_rfl)) <| .nil) fun u52 a w' H => ?_
         replace H := H.kp [0, 3, 4, 6, 7, 27, 28, 29, 57, 58, 79, 80, 81, 83, 84, 78]
         refine k_rg mixed H (.v 75 (vI (w_i64 (1 + 1))) <|
   .v 58 (vI (w_i64 (1 + 1))) <| .nil) fun u53 a w' H => ?_
         replace H := H.kp [0, 3, 4, 6, 7, 27, 28, 29, 57, 58, 79, 80, 81, 83, 84, 78]
         exact ⟨k, Nat.lt_succ_self k, _, _, _, _, _, _, _, G, H.toL _ (by kernel_rfl)⟩
        rw [if_neg c71] at G
        by_cases c72 : x42 = 2
        ·rw [if_pos c72] at G; subst c72
         replace G := bnd G; obtain ⟨t55, ht55, G⟩ := G
         refine k_rg mixed H (.v 62 (vI j34) <|
   .v 63 (vI 2) <|
   .v 64 (vP ((u29 2).n 0) 2) <|
   .cons [65] (ok_ld (fun u54 => vI t31.e2) 65 84 2 1 (fun u54 => ((u29 2).n 0)) (fun u54 => [vI t31.e0, vI t31.e1, vI t31.e2, vI t31.e3, vI t31.e4, vI t31.e5]) 81) <|
   .cons [66] (ok_callv 104 (fun u54 => #[vI j34, vI t31.e2]) (.tuple #[vI t55.1, vI t55.2]) 66 [] (fun u54 w _ => fixed_Mul.calls j34 t31.e2  t55 w  ht55)) <|
   .v 61 (.tuple #[vI t55.1, vI t55.2]) <|
   .v 67 (vI t55.1) <|
   .v 68 (vI t55.2) <|
   .v 12 (vI t55.1) <|
   .v 13 (vI t55.2) <| .nil) fun u54 a w' H => ?_
         replace H := H.toM [(0, sP b_a0 0), (3, (sP ((u1 0).n 0) 0)), (4, (sP ((u1 1).n 0) 0)), (6, (sP ((u29 2).n 0) 0)), (7, sI j34), (11, sI 2), (12, sI t55.1), (27, (sS ((u10 13).o 0) t11.length ((u10 13).n 0))), (28, (sI (t11.length : Int))), (29, sI x18), (57, sI a0.n), (58, sI 2), (79, rdl anyF 6 p_a0_columns c_a0_columns a0.columns en_TA6_Int), (80, .blk ((u1 0).n 0) [vI x36, vI x37, vI x38, vI x39, vI x40, vI x41] 81), (81, .blk ((u1 1).n 0) [vI 0, vI 0, vI 0, vI 0, vI 0, vI 0] 81), (83, owK 81 6 ((u10 13).o 0) t11.length ((u10 13).n 0) (t11.flatMap en_TA6_Int)), (84, .blk ((u29 2).n 0) [vI t31.e0, vI t31.e1, vI t31.e2, vI t31.e3, vI t31.e4, vI t31.e5] 81), (78, bxK b_a0 [vI a0.n, .slice p_a0_columns a0.columns.length c_a0_columns] 84)]
         refine k_rg mixed H (.v 69 (vI 2) <|
   .v 70 (vP ((u1 0).n 0) 2) <|
   .cons [71] (ok_ld (fun u56 => vI x38) 71 80 2 1 (fun u56 => ((u1 0).n 0)) (fun u56 => [vI x36, vI x37, vI x38, vI x39, vI x40, vI x41]) 81) <|
   .v 72 (vI t55.1) <|
   .v 73 (vI (w_i64 (x38 - t55.1))) <|
   .v 74 (vP ((u1 0).n 0) 2) <|
   .cons [80] (ok_as (u' := fun u56 => [(80, .blk ((u1 0).n 0) [vI x36, vI x37, vI (w_i64 (x38 - t55.1)), vI x39, vI x40, vI x41] 81)]) (ok_store 80 2 (fun u56 => ((u1 0).n 0)) (fun u56 => [vI x36, vI x37, vI x38, vI x39, vI x40, vI x41]) (fun u56 => [vI (w_i64 (x38 - t55.1))]) 81) (fun _ => by kernel_rfl)) <| .nil) fun u56 a w' H => ?_
         replace H := H.kp [0, 3, 4, 6, 7, 27, 28, 29, 57, 58, 79, 80, 81, 83, 84, 78]
         refine k_rg mixed H (.v 75 (vI (w_i64 (2 + 1))) <|
   .v 58 (vI (w_i64 (2 + 1))) <| .nil) fun u57 a w' H => ?_
         replace H := H.kp [0, 3, 4, 6, 7, 27, 28, 29, 57, 58, 79, 80, 81, 83, 84, 78]
         exact ⟨k, Nat.lt_succ_self k, _, _, _, _, _, _, _, G, H.toL _ (by kernel_rfl)⟩
        rw [if_neg c72] at G
        by_cases c73 : x42 = 3
        ·rw [if_pos c73] at G; subst c73
         replace G := bnd G; obtain ⟨t59, ht59, G⟩ := G
         refine k_rg mixed H (.v 62 (vI j34) <|
   .v 63 (vI 3) <|
   .v 64 (vP ((u29 2).n 0) 3) <|
   .cons [65] (ok_ld (fun u58 => vI t31.e3) 65 84 3 1 (fun u58 => ((u29 2).n 0)) (fun u58 => [vI t31.e0, vI t31.e1, vI t31.e2, vI t31.e3, vI t31.e4, vI t31.e5]) 81) <|
   .cons [66] (ok_callv 104 (fun u58 => #[vI j34, vI t31.e3]) (.tuple #[vI t59.1, vI t59.2]) 66 [] (fun u58 w _ => fixed_Mul.calls j34 t31.e3  t59 w  ht59)) <|
   .v 61 (.tuple #[vI t59.1, vI t59.2]) <|
   .v 67 (vI t59.1) <|
   .v 68 (vI t59.2) <|
   .v 12 (vI t59.1) <|
   .v 13 (vI t59.2) <| .nil) fun u58 a w' H => ?_
         replace H := H.kp [0, 3, 4, 6, 7, 11, 12, 27, 28, 29, 57, 58, 79, 80, 81, 83, 84, 78]
         refine k_rg mixed H (.v 69 (vI 3) <|
   .v 70 (vP ((u1 0).n 0) 3) <|
   .cons [71] (ok_ld (fun u60 => vI x39) 71 80 3 1 (fun u60 => ((u1 0).n 0)) (fun u60 => [vI x36, vI x37, vI x38, vI x39, vI x40, vI x41]) 81) <|
   .v 72 (vI t59.1) <|
   .v 73 (vI (w_i64 (x39 - t59.1))) <|
   .v 74 (vP ((u1 0).n 0) 3) <|
   .cons [80] (ok_as (u' := fun u60 => [(80, .blk ((u1 0).n 0) [vI x36, vI x37, vI x38, vI (w_i64 (x39 - t59.1)), vI x40, vI x41] 81)]) (ok_store 80 3 (fun u60 => ((u1 0).n 0)) (fun u60 => [vI x36, vI x37, vI x38, vI x39, vI x40, vI x41]) (fun u60 => [vI (w_i64 (x39 - t59.1))]) 81) (fun _ => by kernel_rfl)) <| .nil) fun u60 a w' H => ?_
         replace H := H.kp [0, 3, 4, 6, 7, 27, 28, 29, 57, 58, 79, 80, 81, 83, 84, 78]
         refine k_rg mixed H (.v 75 (vI (w_i64 (3 + 1))) <|
   .v 58 (vI (w_i64 (3 + 1))) <| .nil) fun u61 a w' H => ?_
         replace H := H.kp [0, 3, 4, 6, 7, 27, 28, 29, 57, 58, 79, 80, 81, 83, 84, 78]
         exact ⟨k, Nat.lt_succ_self k, _, _, _, _, _, _, _, G, H.toL _ (by kernel_rfl)⟩
        rw [if_neg c73] at G
        by_cases c74 : x42 = 4
        ·rw [if_pos c74] at G; subst c74
         replace G := bnd G; obtain ⟨t63, ht63, G⟩ := G
         refine k_rg mixed H (.v 62 (vI j34) <|
   .v 63 (vI 4) <|
   .v 64 (vP ((u29 2).n 0) 4) <|
   .cons [65] (ok_ld (fun u62 => vI t31.e4) 65 84 4 1 (fun u62 => ((u29 2).n 0)) (fun u62 => [vI t31.e0, vI t31.e1, vI t31.e2, vI t31.e3, vI t31.e4, vI t31.e5]) 81) <|
   .cons [66] (ok_callv 104 (fun u62 => #[vI j34, vI t31.e4]) (.tuple #[vI t63.1, vI t63.2]) 66 [] (fun u62 w _ => fixed_Mul.calls j34 t31.e4  t63 w  ht63)) <|
   .v 61 (.tuple #[vI t63.1, vI t63.2]) <|
   .v 67 (vI t63.1) <|
   .v 68 (vI t63.2) <|
   .v 12 (vI t63.1) <|
   .v 13 (vI t63.2) <| .nil) fun u62 a w' H => ?_
         replace H := H.kp [0, 3, 4, 6, 7, 11, 12, 27, 28, 29, 57, 58, 79, 80, 81, 83, 84, 78]
         refine k_rg mixed H (.v 69 (vI 4) <|
   .v 70 (vP ((u1 0).n 0) 4) <|
   .cons [71] (ok_ld (fun u64 => vI x40) 71 80 4 1 (fun u64 => ((u1 0).n 0)) (fun u64 => [vI x36, vI x37, vI x38, vI x39, vI x40, vI x41]) 81) <|
   .v 72 (vI t63.1) <|
   .v 73 (vI (w_i64 (x40 - t63.1))) <|
   .v 74 (vP ((u1 0).n 0) 4) <|
   .cons [80] (ok_as (u' := fun u64 => [(80, .blk ((u1 0).n 0) [vI x36, vI x37, vI x38, vI x39, vI (w_i64 (x40 - t63.1)), vI x41] 81)]) (ok_store 80 4 (fun u64 => ((u1 0).n 0)) (fun u64 => [vI x36, vI x37, vI x38, vI x39, vI x40, vI x41]) (fun u64 => [vI (w_i64 (x40 - t63.1))]) 81) (fun _ => by kernel_rfl)) <| .nil) fun u64 a w' H => ?_
         replace H := H.kp [0, 3, 4, 6, 7, 27, 28, 29, 57, 58, 79, 80, 81, 83, 84, 78]
         refine k_rg mixed H (.v 75 (vI (w_i64 (4 + 1))) <|
   .v 58 (vI (w_i64 (4 + 1))) <| .nil) fun u65 a w' H => ?_
         replace H := H.kp [0, 3, 4, 6, 7, 27, 28, 29, 57, 58, 79, 80, 81, 83, 84, 78]
         exact ⟨k, Nat.lt_succ_self k, _, _, _, _, _, _, _, G, H.toL _ (by kernel_rfl)⟩
        rw [if_neg c74] at G
        by_cases c75 : x42 = 5
        ·rw [if_pos c75] at G; subst c75
         replace G := bnd G; obtain ⟨t67, ht67, G⟩ := G
         refine k_rg mixed H (.v 62 (vI j34) <|
   .v 63 (vI 5) <|
   .v 64 (vP ((u29 2).n 0) 5) <|
   .cons [65] (ok_ld (fun u66 => vI t31.e5) 65 84 5 1 (fun u66 => ((u29 2).n 0)) (fun u66 => [vI t31.e0, vI t31.e1, vI t31.e2, vI t31.e3, vI t31.e4, vI t31.e5]) 81) <|
   .cons [66] (ok_callv 104 (fun u66 => #[vI j34, vI t31.e5]) (.tuple #[vI t67.1, vI t67.2]) 66 [] (fun u66 w _ => fixed_Mul.calls j34 t31.e5  t67 w  ht67)) <|
   .v 61 (.tuple #[vI t67.1, vI t67.2]) <|
   .v 67 (vI t67.1) <|
   .v 68 (vI t67.2) <|
   .v 12 (vI t67.1) <|
   .v 13 (vI t67.2) <| .nil) fun u66 a w' H => ?_
         replace H := H.toM [(0, sP b_a0 0), (3, (sP ((u1 0).n 0) 0)), (4, (sP ((u1 1).n 0) 0)), (6, (sP ((u29 2).n 0) 0)), (7, sI j34), (11, sI 5), (12, sI t67.1), (27, (sS ((u10 13).o 0) t11.length ((u10 13).n 0))), (28, (sI (t11.length : Int))), (29, sI x18), (57, sI a0.n), (58, sI 5), (79, rdl anyF 6 p_a0_columns c_a0_columns a0.columns en_TA6_Int), (80, .blk ((u1 0).n 0) [vI x36, vI x37, vI x38, vI x39, vI x40, vI x41] 81), (81, .blk ((u1 1).n 0) [vI 0, vI 0, vI 0, vI 0, vI 0, vI 0] 81), (83, owK 81 6 ((u10 13).o 0) t11.length ((u10 13).n 0) (t11.flatMap en_TA6_Int)), (84, .blk ((u29 2).n 0) [vI t31.e0, vI t31.e1, vI t31.e2, vI t31.e3, vI t31.e4, vI t31.e5] 81), (78, bxK b_a0 [vI a0.n, .slice p_a0_columns a0.columns.length c_a0_columns] 84)]
         refine k_rg mixed H (.v 69 (vI 5) <|
   .v 70 (vP ((u1 0).n 0) 5) <|
   .cons [71] (ok_ld (fun u68 => vI x41) 71 80 5 1 (fun u68 => ((u1 0).n 0)) (fun u68 => [vI x36, vI x37, vI x38, vI x39, vI x40, vI x41]) 81) <|
   .v 72 (vI t67.1) <|
   .v 73 (vI (w_i64 (x41 - t67.1))) <|
   .v 74 (vP ((u1 0).n 0) 5) <|
   .cons [80] (ok_as (u' := fun u68 => [(80, .blk ((u1 0).n 0) [vI x36, vI x37, vI x38, vI x39, vI x40, vI (w_i64 (x41 - t67.1))] 81)]) (ok_store 80 5 (fun u68 => ((u1 0).n 0)) (fun u68 => [vI x36, vI x37, vI x38, vI x39, vI x40, vI x41]) (fun u68 => [vI (w_i64 (x41 - t67.1))]) 81) (fun _ => by kernel_rfl)) <| .nil) fun u68 a w' H => ?_
         replace H := H.kp [0, 3, 4, 6, 7, 27, 28, 29, 57, 58, 79, 80, 81, 83, 84, 78]
         refine k_rg mixed H (.v 75 (vI (w_i64 (5 + 1))) <|
   .v 58 (vI (w_i64 (5 + 1))) <| .nil) fun u69 a w' H => ?_
         replace H := H.kp [0, 3, 4, 6, 7, 27, 28, 29, 57, 58, 79, 80, 81, 83, 84, 78]
         exact ⟨k, Nat.lt_succ_self k, _, _, _, _, _, _, _, G, H.toL _ (by kernel_rfl)⟩
        rw [if_neg c75] at G
        cases G
       ·rw [if_neg (nt c76)] at G
        refine k_exit rfl ?_
        obtain rfl := Option.some.inj G
        exact H.toL _ (by kernel_rfl)
     ·clear G; replace G := hj34; clear hj34
      refine k_seq ?_
      refine k_rg mixed H (.v 33 (vP b_a0 0) <|
   .v 34 (vP b_a0 0) <|
   .v 35 (vP b_a0 0) <|
   .cons [36] (ok_ldK (fun u77 => vI a0.n) 36 78 (bxK b_a0 [vI a0.n, .slice p_a0_columns a0.columns.length c_a0_columns] 84) b_a0 0 1 [vI a0.n, .slice p_a0_columns a0.columns.length c_a0_columns] (fun w h => bx_of h)) <|
   .v 37 (vI 0) <| .nil) fun u77 a w' H => ?_
      replace H := H.kp [0, 3, 4, 6, 7, 27, 28, 29, 36, 37, 79, 80, 81, 83, 84, 78]
      refine k_block ?_
      refine k_loopJ (fun m a w' => ∃ x78 : Int, ∃ x79 : Int, matrix_basis_reduce_m.l80 k0 a0 a1 t11 x12 x13 x14 x15 x16 x17 x18 t31 m x78 x79 = some j34 ∧ Rep w.heap.size w 78 (ofL [(0, sP b_a0 0), (3, (sP ((u1 0).n 0) 0)), (4, (sP ((u1 1).n 0) 0)), (6, (sP ((u29 2).n 0) 0)), (7, sI x78), (27, (sS ((u10 13).o 0) t11.length ((u10 13).n 0))), (28, (sI (t11.length : Int))), (29, sI x18), (36, sI a0.n), (37, sI x79), (79, rdl anyF 6 p_a0_columns c_a0_columns a0.columns en_TA6_Int), (80, .blk ((u1 0).n 0) [vI x12, vI x13, vI x14, vI x15, vI x16, vI x17] 81), (81, .blk ((u1 1).n 0) [vI 0, vI 0, vI 0, vI 0, vI 0, vI 0] 81), (83, owK 81 6 ((u10 13).o 0) t11.length ((u10 13).n 0) (t11.flatMap en_TA6_Int)), (84, .blk ((u29 2).n 0) [vI t31.e0, vI t31.e1, vI t31.e2, vI t31.e3, vI t31.e4, vI t31.e5] 81), (78, bxK b_a0 [vI a0.n, .slice p_a0_columns a0.columns.length c_a0_columns] 84)]) a w') k0 ⟨_, _, G, H.toL _ (by kernel_rfl)⟩ ?_
      clear G H
      rintro (_ | k) a w' ⟨x78, x79, G, H⟩
      ·exact absurd G (by unfold matrix_basis_reduce_m.l80; exact fun h => by cases h)
      ·unfold matrix_basis_reduce_m.l80 at G
       refine k_seq ?_
       refine k_rg mixed H (.v 38 (.bool (decide (x79 < a0.n))) <| .nil) fun u81 a w' H => ?_
       replace H := H.kp [0, 3, 4, 6, 7, 27, 28, 29, 36, 37, 38, 79, 80, 81, 83, 84, 78]
       refine k_seq ?_
       refine k_cond H (by kernel_rfl) (t := decide (x79 < a0.n)) (by kernel_rfl) (fun c113 => ?_) (fun c113 => ?_)
       ·rw [if_pos c113] at G
        refine k_skip ?_
        refine k_seq ?_
        refine k_block ?_
        refine k_seq ?_
        refine k_rg mixed H (.v 39 (vI x79) <|
   .v 8 (vI x79) <| .nil) fun u82 a w' H => ?_
        replace H := H.kp [0, 3, 4, 6, 7, 8, 27, 28, 29, 36, 37, 79, 80, 81, 83, 84, 78]
        refine k_seq ?_
        by_cases c107 : x79 = 0
        ·rw [if_pos c107] at G; subst c107
         replace G := bnd G; obtain ⟨t84, ht84, G⟩ := G
         refine k_rg mixed H (.v 41 (vI 0) <|
   .v 42 (vP ((u1 0).n 0) 0) <|
   .cons [43] (ok_ld (fun u83 => vI x12) 43 80 0 1 (fun u83 => ((u1 0).n 0)) (fun u83 => [vI x12, vI x13, vI x14, vI x15, vI x16, vI x17]) 81) <|
   .v 44 (vI 0) <|
   .v 45 (vP ((u29 2).n 0) 0) <|
   .cons [46] (ok_ld (fun u83 => vI t31.e0) 46 84 0 1 (fun u83 => ((u29 2).n 0)) (fun u83 => [vI t31.e0, vI t31.e1, vI t31.e2, vI t31.e3, vI t31.e4, vI t31.e5]) 81) <|
   .cons [47] (ok_callv 104 (fun u83 => #[vI x12, vI t31.e0]) (.tuple #[vI t84.1, vI t84.2]) 47 [] (fun u83 w _ => fixed_Mul.calls x12 t31.e0  t84 w  ht84)) <|
   .v 40 (.tuple #[vI t84.1, vI t84.2]) <|
   .v 48 (vI t84.1) <|
   .v 49 (vI t84.2) <|
   .v 9 (vI t84.1) <|
   .v 10 (vI t84.2) <| .nil) fun u83 a w' H => ?_
         replace H := H.kp [0, 3, 4, 6, 7, 9, 27, 28, 29, 36, 37, 79, 80, 81, 83, 84, 78]
         refine k_rg mixed H (.v 50 (vI x78) <|
   .v 51 (vI t84.1) <|
   .v 52 (vI (w_i64 (x78 + t84.1))) <|
   .v 7 (vI (w_i64 (x78 + t84.1))) <| .nil) fun u85 a w' H => ?_
         replace H := H.kp [0, 3, 4, 6, 7, 27, 28, 29, 36, 37, 79, 80, 81, 83, 84, 78]
         refine k_rg mixed H (.v 53 (vI (w_i64 (0 + 1))) <|
   .v 37 (vI (w_i64 (0 + 1))) <| .nil) fun u86 a w' H => ?_
         replace H := H.kp [0, 3, 4, 6, 7, 27, 28, 29, 36, 37, 79, 80, 81, 83, 84, 78]
         exact ⟨k, Nat.lt_succ_self k, _, _, G, H.toL _ (by kernel_rfl)⟩
        rw [if_neg c107] at G
        by_cases c108 : x79 = 1
        ·rw [if_pos c108] at G; subst c108
         replace G := bnd G; obtain ⟨t88, ht88, G⟩ := G
         refine k_rg mixed H (.v 41 (vI 1) <|
   .v 42 (vP ((u1 0).n 0) 1) <|
   .cons [43] (ok_ld (fun u87 => vI x13) 43 80 1 1 (fun u87 => ((u1 0).n 0)) (fun u87 => [vI x12, vI x13, vI x14, vI x15, vI x16, vI x17]) 81) <|
   .v 44 (vI 1) <|
   .v 45 (vP ((u29 2).n 0) 1) <|
   .cons [46] (ok_ld (fun u87 => vI t31.e1) 46 84 1 1 (fun u87 => ((u29 2).n 0)) (fun u87 => [vI t31.e0, vI t31.e1, vI t31.e2, vI t31.e3, vI t31.e4, vI t31.e5]) 81) <|
   .cons [47] (ok_callv 104 (fun u87 => #[vI x13, vI t31.e1]) (.tuple #[vI t88.1, vI t88.2]) 47 [] (fun u87 w _ => fixed_Mul.calls x13 t31.e1  t88 w  ht88)) <|
   .v 40 (.tuple #[vI t88.1, vI t88.2]) <|
   .v 48 (vI t88.1) <|
   .v 49 (vI t88.2) <|
   .v 9 (vI t88.1) <|
   .v 10 (vI t88.2) <| .nil) fun u87 a w' H => ?_
         replace H := H.kp [0, 3, 4, 6, 7, 9, 27, 28, 29, 36, 37, 79, 80, 81, 83, 84, 78]
         refine k_rg mixed H (.v 50 (vI x78) <|
   .v 51 (vI t88.1) <|
   .v 52 (vI (w_i64 (x78 + t88.1))) <|
   .v 7 (vI (w_i64 (x78 + t88.1))) <| .nil) fun u89 a w' H => ?_
         replace H := H.kp [0, 3, 4, 6, 7, 27, 28, 29, 36, 37, 79, 80, 81, 83, 84, 78]
         refine k_rg mixed H (.v 53 (vI (w_i64 (1 + 1))) <|
   .v 37 (vI (w_i64 (1 + 1))) <| .nil) fun u90 a w' H => ?_
         replace H := H.kp [0, 3, 4, 6, 7, 27, 28, 29, 36, 37, 79, 80, 81, 83, 84, 78]
         exact ⟨k, Nat.lt_succ_self k, _, _, G, H.toL _ (by kernel_rfl)⟩
        rw [if_neg c108] at G
        by_cases c109 : x79 = 2
        ·rw [if_pos c109] at G; subst c109
         replace G := bnd G; obtain ⟨t92, ht92, G⟩ := G
         refine k_rg mixed H (.v 41 (vI 2) <|
   .v 42 (vP ((u1 0).n 0) 2) <|
   .cons [43] (ok_ld (fun u91 => vI x14) 43 80 2 1 (fun u91 => ((u1 0).n 0)) (fun u91 => [vI x12, vI x13, vI x14, vI x15, vI x16, vI x17]) 81) <|
   .v 44 (vI 2) <|
   .v 45 (vP ((u29 2).n 0) 2) <|
   .cons [46] (ok_ld (fun u91 => vI t31.e2) 46 84 2 1 (fun u91 => ((u29 2).n 0)) (fun u91 => [vI t31.e0, vI t31.e1, vI t31.e2, vI t31.e3, vI t31.e4, vI t31.e5]) 81) <|
   .cons [47] (ok_callv 104 (fun u91 => #[vI x14, vI t31.e2]) (.tuple #[vI t92.1, vI t92.2]) 47 [] (fun u91 w _ => fixed_Mul.calls x14 t31.e2  t92 w  ht92)) <|
   .v 40 (.tuple #[vI t92.1, vI t92.2]) <|
   .v 48 (vI t92.1) <|
   .v 49 (vI t92.2) <|
   .v 9 (vI t92.1) <|
   .v 10 (vI t92.2) <| .nil) fun u91 a w' H => ?_
         replace H := H.toM [(0, sP b_a0 0), (3, (sP ((u1 0).n 0) 0)), (4, (sP ((u1 1).n 0) 0)), (6, (sP ((u29 2).n 0) 0)), (7, sI x78), (9, sI t92.1), (27, (sS ((u10 13).o 0) t11.length ((u10 13).n 0))), (28, (sI (t11.length : Int))), (29, sI x18), (36, sI a0.n), (37, sI 2), (79, rdl anyF 6 p_a0_columns c_a0_columns a0.columns en_TA6_Int), (80, .blk ((u1 0).n 0) [vI x12, vI x13, vI x14, vI x15, vI x16, vI x17] 81), (81, .blk ((u1 1).n 0) [vI 0, vI 0, vI 0, vI 0, vI 0, vI 0] 81), (83, owK 81 6 ((u10 13).o 0) t11.length ((u10 13).n 0) (t11.flatMap en_TA6_Int)), (84, .blk ((u29 2).n 0) [vI t31.e0, vI t31.e1, vI t31.e2, vI t31.e3, vI t31.e4, vI t31.e5] 81), (78, bxK b_a0 [vI a0.n, .slice p_a0_columns a0.columns.length c_a0_columns] 84)]
         refine k_rg mixed H (.v 50 (vI x78) <|
   .v 51 (vI t92.1) <|
   .v 52 (vI (w_i64 (x78 + t92.1))) <|
   .v 7 (vI (w_i64 (x78 + t92.1))) <| .nil) fun u93 a w' H => ?_
         replace H := H.kp [0, 3, 4, 6, 7, 27, 28, 29, 36, 37, 79, 80, 81, 83, 84, 78]
         refine k_rg mixed H (.v 53 (vI (w_i64 (2 + 1))) <|
   .v 37 (vI (w_i64 (2 + 1))) <| .nil) fun u94 a w' H => ?_
         replace H := H.kp [0, 3, 4, 6, 7, 27, 28, 29, 36, 37, 79, 80, 81, 83, 84, 78]
         exact ⟨k, Nat.lt_succ_self k, _, _, G, H.toL _ (by kernel_rfl)⟩
        rw [if_neg c109] at G
        by_cases c110 : x79 = 3
        ·rw [if_pos c110] at G; subst c110
         replace G := bnd G; obtain ⟨t96, ht96, G⟩ := G
         refine k_rg mixed H (.v 41 (vI 3) <|
   .v 42 (vP ((u1 0).n 0) 3) <|
   .cons [43] (ok_ld (fun u95 => vI x15) 43 80 3 1 (fun u95 => ((u1 0).n 0)) (fun u95 => [vI x12, vI x13, vI x14, vI x15, vI x16, vI x17]) 81) <|
   .v 44 (vI 3) <|
   .v 45 (vP ((u29 2).n 0) 3) <|
   .cons [46] (ok_ld (fun u95 => vI t31.e3) 46 84 3 1 (fun u95 => ((u29 2).n 0)) (fun u95 => [vI t31.e0, vI t31.e1, vI t31.e2, vI t31.e3, vI t31.e4, vI t31.e5]) 81) <|
   .cons [47] (ok_callv 104 (fun u95 => #[vI x15, vI t31.e3]) (.tuple #[vI t96.1, vI t96.2]) 47 [] (fun u95 w _ => fixed_Mul.calls x15 t31.e3  t96 w  ht96)) <|
   .v 40 (.tuple #[vI t96.1, vI t96.2]) <|
   .v 48 (vI t96.1) <|
   .v 49 (vI t96.2) <|
   .v 9 (vI t96.1) <|
   .v 10 (vI t96.2) <| .nil) fun u95 a w' H => ?_
         replace H := H.kp [0, 3, 4, 6, 7, 9, 27, 28, 29, 36, 37, 79, 80, 81, 83, 84, 78]
         refine k_rg mixed H (.v 50 (vI x78) <|
   .v 51 (vI t96.1) <|
   .v 52 (vI (w_i64 (x78 + t96.1))) <|
   .v 7 (vI (w_i64 (x78 + t96.1))) <| .nil) fun u97 a w' H => ?_
         replace H := H.kp [0, 3, 4, 6, 7, 27, 28, 29, 36, 37, 79, 80, 81, 83, 84, 78]
         refine k_rg mixed H (.v 53 (vI (w_i64 (3 + 1))) <|
   .v 37 (vI (w_i64 (3 + 1))) <| .nil) fun u98 a w' H => ?_
         replace H := H.kp [0, 3, 4, 6, 7, 27, 28, 29, 36, 37, 79, 80, 81, 83, 84, 78]
         exact ⟨k, Nat.lt_succ_self k, _, _, G, H.toL _ (by kernel_rfl)⟩
        rw [if_neg c110] at G
        by_cases c111 : x79 = 4
        ·rw [if_pos c111] at G; subst c111
         replace G := bnd G; obtain ⟨t100, ht100, G⟩ := G
         refine k_rg mixed H (.v 41 (vI 4) <|
   .v 42 (vP ((u1 0).n 0) 4) <|
   .cons [43] (ok_ld (fun u99 => vI x16) 43 80 4 1 (fun u99 => ((u1 0).n 0)) (fun u99 => [vI x12, vI x13, vI x14, vI x15, vI x16, vI x17]) 81) <|
   .v 44 (vI 4) <|
   .v 45 (vP ((u29 2).n 0) 4) <|
   .cons [46] (ok_ld (fun u99 => vI t31.e4) 46 84 4 1 (fun u99 => ((u29 2).n 0)) (fun u99 => [vI t31.e0, vI t31.e1, vI t31.e2, vI t31.e3, vI t31.e4, vI t31.e5]) 81) <|
   .cons [47] (ok_callv 104 (fun u99 => #[vI x16, vI t31.e4]) (.tuple #[vI t100.1, vI t100.2]) 47 [] (fun u99 w _ => fixed_Mul.calls x16 t31.e4  t100 w  ht100)) <|
   .v 40 (.tuple #[vI t100.1, vI t100.2]) <|
   .v 48 (vI t100.1) <|
   .v 49 (vI t100.2) <|
   .v 9 (vI t100.1) <|
   .v 10 (vI t100.2) <| .nil) fun u99 a w' H => ?_
         replace H := H.kp [0, 3, 4, 6, 7, 9, 27, 28, 29, 36, 37, 79, 80, 81, 83, 84, 78]
         refine k_rg mixed H (.v 50 (vI x78) <|
   .v 51 (vI t100.1) <|
   .v 52 (vI (w_i64 (x78 + t100.1))) <|
   .v 7 (vI (w_i64 (x78 + t100.1))) <| .nil) fun u101 a w' H => ?_
         replace H := H.kp [0, 3, 4, 6, 7, 27, 28, 29, 36, 37, 79, 80, 81, 83, 84, 78]
         refine k_rg mixed H (.v 53 (vI (w_i64 (4 + 1))) <|
   .v 37 (vI (w_i64 (4 + 1))) <| .nil) fun u102 a w' H => ?_
         replace H := H.kp [0, 3, 4, 6, 7, 27, 28, 29, 36, 37, 79, 80, 81, 83, 84, 78]
         exact ⟨k, Nat.lt_succ_self k, _, _, G, H.toL _ (by kernel_rfl)⟩
        rw [if_neg c111] at G
        by_cases c112 : x79 = 5
        ·rw [if_pos c112] at G; subst c112
         replace G := bnd G; obtain ⟨t104, ht104, G⟩ := G
         refine k_rg mixed H (.v 41 (vI 5) <|
   .v 42 (vP ((u1 0).n 0) 5) <|
   .cons [43] (ok_ld (fun u103 => vI x17) 43 80 5 1 (fun u103 => ((u1 0).n 0)) (fun u103 => [vI x12, vI x13, vI x14, vI x15, vI x16, vI x17]) 81) <|
   .v 44 (vI 5) <|
   .v 45 (vP ((u29 2).n 0) 5) <|
   .cons [46] (ok_ld (fun u103 => vI t31.e5) 46 84 5 1 (fun u103 => ((u29 2).n 0)) (fun u103 => [vI t31.e0, vI t31.e1, vI t31.e2, vI t31.e3, vI t31.e4, vI t31.e5]) 81) <|
   .cons [47] (ok_callv 104 (fun u103 => #[vI x17, vI t31.e5]) (.tuple #[vI t104.1, vI t104.2]) 47 [] (fun u103 w _ => fixed_Mul.calls x17 t31.e5  t104 w  ht104)) <|
   .v 40 (.tuple #[vI t104.1, vI t104.2]) <|
   .v 48 (vI t104.1) <|
   .v 49 (vI t104.2) <|
   .v 9 (vI t104.1) <|
   .v 10 (vI t104.2) <| .nil) fun u103 a w' H => ?_
         replace H := H.toM [(0, sP b_a0 0), (3, (sP ((u1 0).n 0) 0)), (4, (sP ((u1 1).n 0) 0)), (6, (sP ((u29 2).n 0) 0)), (7, sI x78), (9, sI t104.1), (27, (sS ((u10 13).o 0) t11.length ((u10 13).n 0))), (28, (sI (t11.length : Int))), (29, sI x18), (36, sI a0.n), (37, sI 5), (79, rdl anyF 6 p_a0_columns c_a0_columns a0.columns en_TA6_Int), (80, .blk ((u1 0).n 0) [vI x12, vI x13, vI x14, vI x15, vI x16, vI x17] 81), (81, .blk ((u1 1).n 0) [vI 0, vI 0, vI 0, vI 0, vI 0, vI 0] 81), (83, owK 81 6 ((u10 13).o 0) t11.length ((u10 13).n 0) (t11.flatMap en_TA6_Int)), (84, .blk ((u29 2).n 0) [vI t31.e0, vI t31.e1, vI t31.e2, vI t31.e3, vI t31.e4, vI t31.e5] 81), (78, bxK b_a0 [vI a0.n, .slice p_a0_columns a0.columns.length c_a0_columns] 84)]
         refine k_rg mixed H (.v 50 (vI x78) <|
   .v 51 (vI t104.1) <|
   .v 52 (vI (w_i64 (x78 + t104.1))) <|
   .v 7 (vI (w_i64 (x78 + t104.1))) <| .nil) fun u105 a w' H => ?_
         replace H := H.kp [0, 3, 4, 6, 7, 27, 28, 29, 36, 37, 79, 80, 81, 83, 84, 78]
         refine k_rg mixed H (.v 53 (vI (w_i64 (5 + 1))) <|
   .v 37 (vI (w_i64 (5 + 1))) <| .nil) fun u106 a w' H => ?_
         replace H := H.kp [0, 3, 4, 6, 7, 27, 28, 29, 36, 37, 79, 80, 81, 83, 84, 78]
         exact ⟨k, Nat.lt_succ_self k, _, _, G, H.toL _ (by kernel_rfl)⟩
        rw [if_neg c112] at G
        cases G
       ·rw [if_neg (nt c113)] at G
        refine k_exit rfl ?_
        obtain rfl := Option.some.inj G
        exact H.toL _ (by kernel_rfl)
   ·rw [if_neg (nt c114)] at G
    refine k_exit rfl ?_
    obtain rfl := Option.some.inj G
    exact H.toL _ (by kernel_rfl)
set_option maxHeartbeats 4000000 in
theorem matrix_basis_extend_m.calls (k0 : Nat) (a0_0 : Int) (a0_1 : List TA6_Int) (a1 : List TA6_Int) (b_a0 : Nat) (p_a0_1 : Option Addr) (c_a0_1 : Nat) (p_a1 : Option Addr) (c_a1 : Nat) (r : Int × List TA6_Int) (w : World) (hB : AllH [rdl anyF 6 p_a1 c_a1 a1 en_TA6_Int] w) (hM : OwnH [owK 81 6 p_a0_1 a0_1.length c_a0_1 (a0_1.flatMap en_TA6_Int), .blk b_a0 [vI a0_0, .slice p_a0_1 a0_1.length c_a0_1] 84] ([rdl anyF 6 p_a1 c_a1 a1 en_TA6_Int] ++ []) w) (G : matrix_basis_extend_m k0 a0_0 a0_1 a1 = some r) :
  Calls Tryd.prog 66 #[vP b_a0 0, .slice p_a1 a1.length c_a1] w fun e w' => ∃ g : Gh, e = .returned (.tuple #[]) ∧ But (fpK [owK 81 6 p_a0_1 a0_1.length c_a0_1 (a0_1.flatMap en_TA6_Int), .blk b_a0 [vI a0_0, .slice p_a0_1 a0_1.length c_a0_1] 84]) w w' ∧ OutOK w.heap.size (fpK [owK 81 6 p_a0_1 a0_1.length c_a0_1 (a0_1.flatMap en_TA6_Int), .blk b_a0 [vI a0_0, .slice p_a0_1 a0_1.length c_a0_1] 84]) (frI w.heap.size []) [fun _ => owK 81 6 (g.o 0) r.2.length (g.n 0) (r.2.flatMap en_TA6_Int), fun _ => .blk b_a0 [vI r.1, .slice (g.o 0) r.2.length (g.n 0)] 84] w' := by
 obtain ⟨fr, hfr⟩ : ∃ fr : Nat → Prop, fr = frI w.heap.size [] := ⟨_, rfl⟩
 have hBf : ∀ j, w.heap.size ≤ j → fr j := fun j h => by rw [hfr]; exact .inl h
 refine k_enterY (args := [vP b_a0 0, .slice p_a1 a1.length c_a1]) 56 [(58, rdl anyF 6 p_a1 c_a1 a1 en_TA6_Int)] [(57, owK 81 6 p_a0_1 a0_1.length c_a0_1 (a0_1.flatMap en_TA6_Int)), (56, .blk b_a0 [vI a0_0, .slice p_a0_1 a0_1.length c_a0_1] 84)] (ownH_fps hM (by rfl)) (by
  intro x hx
  simp only [List.mem_cons, List.not_mem_nil, or_false] at hx
  rcases hx with rfl
  exact rdF_fact (rdF_of hB.1) (fun _ _ => trivial) (by decide) _) (by rfl) Tryd.func66 rfl (by kernel_rfl) (by kernel_rfl) fun a H => ?_
 unfold matrix_basis_extend_m at G
 refine k_seq ?_
 refine k_rg mixed H (.v 10 (vP b_a0 0) <|
   .v 11 (.func (.func 92) #[vP b_a0 0] #[]) <|
   .v 4 (.func (.func 92) #[vP b_a0 0] #[]) <|
   .v 5 (vI 4096) <| .nil) fun u1 a w' H => ?_
 replace H := H.kp [0, 1, 4, 5, 56, 57, 58, 999998]
 refine k_seq ?_
 refine k_rg mixed H (.v 12 (.slice p_a1 a1.length c_a1) <|
   .v 13 (vI (a1.length : Int)) <|
   .v 14 (vI 0) <| .nil) fun u2 a w' H => ?_
 replace H := H.kp [0, 4, 5, 12, 13, 14, 56, 57, 58, 999998]
 refine k_block ?_
 refine k_loopJ (fun m a w' => ∃ x3 : Int, ∃ x4 : Int, matrix_basis_extend_m.l5 k0 a0_0 a0_1 a1 m x3 x4 = some r ∧ Rep 0 w 56 (ofL [(0, sP b_a0 0), (4, .slot true (.func (.func 92) #[vP b_a0 0] #[])), (5, sI x3), (12, sS p_a1 a1.length c_a1), (13, (sI (a1.length : Int))), (14, sI x4), (56, .blk b_a0 [vI a0_0, .slice p_a0_1 a0_1.length c_a0_1] 84), (57, owK 81 6 p_a0_1 a0_1.length c_a0_1 (a0_1.flatMap en_TA6_Int)), (58, rdl anyF 6 p_a1 c_a1 a1 en_TA6_Int), (999998, frM [owK 81 6 p_a0_1 a0_1.length c_a0_1 (a0_1.flatMap en_TA6_Int), .blk b_a0 [vI a0_0, .slice p_a0_1 a0_1.length c_a0_1] 84] w)]) a w') k0 ⟨_, _, G, H.toL _ (by kernel_rfl)⟩ ?_
 clear G H
 rintro (_ | k) a w' ⟨x3, x4, G, H⟩
 ·exact absurd G (by unfold matrix_basis_extend_m.l5; exact fun h => by cases h)
 ·unfold matrix_basis_extend_m.l5 at G
  refine k_seq ?_
  refine k_rg mixed H (.v 15 (.bool (decide (x4 < (a1.length : Int)))) <| .nil) fun u6 a w' H => ?_
  replace H := H.kp [0, 4, 5, 12, 13, 14, 15, 56, 57, 58, 999998]
  refine k_seq ?_
  refine k_cond H (by kernel_rfl) (t := decide (x4 < (a1.length : Int))) (by kernel_rfl) (fun c65 => ?_) (fun c65 => ?_)
  ·rw [if_pos c65] at G
   refine k_skip ?_
   refine k_seq ?_
   replace G := bnd G; obtain ⟨j7, hj7, Gj7⟩ := G
   refine k_join (fun a w' => ∃ j7v, j7 = Sum.inr j7v ∧ Rep 0 w 56 (ofL [(0, sP b_a0 0), (4, .slot true (.func (.func 92) #[vP b_a0 0] #[])), (5, sI 16384), (12, sS p_a1 a1.length c_a1), (13, (sI (a1.length : Int))), (14, sI x4), (56, .blk b_a0 [vI a0_0, .slice p_a0_1 a0_1.length c_a0_1] 84), (57, owK 81 6 p_a0_1 a0_1.length c_a0_1 (a0_1.flatMap en_TA6_Int)), (58, rdl anyF 6 p_a1 c_a1 a1 en_TA6_Int), (999998, frM [owK 81 6 p_a0_1 a0_1.length c_a0_1 (a0_1.flatMap en_TA6_Int), .blk b_a0 [vI a0_0, .slice p_a0_1 a0_1.length c_a0_1] 84] w)]) a w') ?_ ?_
   ·clear H; rintro a w' ⟨j7v, rfl, H⟩; have G := Gj7; clear Gj7; dsimp only at G
    refine k_rg mixed H (.v 55 (vI (w_i64 (x4 + 1))) <|
   .v 14 (vI (w_i64 (x4 + 1))) <| .nil) fun u8 a w' H => ?_
    replace H := H.kp [0, 4, 5, 12, 13, 14, 56, 57, 58, 999998]
    exact ⟨k, Nat.lt_succ_self k, _, _, G, H.toL _ (by kernel_rfl)⟩
   ·have G := hj7; clear hj7
    refine k_block ?_
    refine k_seq ?_
    replace G := gd G; obtain ⟨b10, G⟩ := G
    replace G := bnd G; obtain ⟨t11, ht11, G⟩ := G
    refine k_rg mixed H (.cons [16] (ok_valL [58] (fun u9 => [rdl anyF 6 p_a1 c_a1 a1 en_TA6_Int]) (fun u9 => .pointer (some ⟨hdB p_a1, hdO p_a1 + x4.toNat * 6, none⟩)) (fun u9 => true) [true, true] 16 (fun u9 w hg hF => ix_row (t := 79) (k := .i64) (i := x4) (p := p_a1) (n := a1.length) (cap := c_a1) (x := a1) (en := en_TA6_Int) (rdF_of hF.1).2 en_TA6_Int_len rfl b10 (by kernel_rfl))) <|
   .cons [17] (ok_valL [58] (fun u9 => [rdl anyF 6 p_a1 c_a1 a1 en_TA6_Int]) (fun u9 => .agg #[vI t11.e0, vI t11.e1, vI t11.e2, vI t11.e3, vI t11.e4, vI t11.e5]) (fun u9 => true) [true] 17 (fun u9 w hg hF => ld_row (en := en_TA6_Int) (rdF_of hF.1).2 en_TA6_Int_len ht11 0 6 [vI t11.e0, vI t11.e1, vI t11.e2, vI t11.e3, vI t11.e4, vI t11.e5] rfl (by kernel_rfl))) <|
   .cons [7, 59] (ok_new (fun b => vP b 0) (fun u9 => [vI 0, vI 0, vI 0, vI 0, vI 0, vI 0]) 81 7 59) <|
   .cons [59] (ok_as (u' := fun u9 => [(59, .blk ((u9 2).n 0) [vI t11.e0, vI t11.e1, vI t11.e2, vI t11.e3, vI t11.e4, vI t11.e5] 81)]) (ok_store 59 0 (fun u9 => ((u9 2).n 0)) (fun u9 => [vI 0, vI 0, vI 0, vI 0, vI 0, vI 0]) (fun u9 => [vI t11.e0, vI t11.e1, vI t11.e2, vI t11.e3, vI t11.e4, vI t11.e5]) 81) (fun _ => by kernel_rfl)) <| .nil) fun u9 a w' H => ?_
    replace H := H.kp [0, 4, 5, 7, 12, 13, 14, 56, 57, 58, 59, 999998]
    refine k_seq ?_
    replace G := bnd G; obtain ⟨t13, ht13, G⟩ := G
    refine k_rg mixed H (.v 18 (.func (.func 92) #[vP b_a0 0] #[]) <|
   .cons [19] (ok_ld (fun u12 => .agg #[vI t11.e0, vI t11.e1, vI t11.e2, vI t11.e3, vI t11.e4, vI t11.e5]) 19 59 0 6 (fun u12 => ((u9 2).n 0)) (fun u12 => [vI t11.e0, vI t11.e1, vI t11.e2, vI t11.e3, vI t11.e4, vI t11.e5]) 81) <|
   .cons [20] (ok_callL [57, 56] (fun u12 => [owK 81 6 p_a0_1 a0_1.length c_a0_1 (a0_1.flatMap en_TA6_Int), .blk b_a0 [vI a0_0, .slice p_a0_1 a0_1.length c_a0_1] 84]) 92 (fun u12 => #[vP b_a0 0, .agg #[vI t11.e0, vI t11.e1, vI t11.e2, vI t11.e3, vI t11.e4, vI t11.e5]]) (.agg #[vI t13.e0, vI t13.e1, vI t13.e2, vI t13.e3, vI t13.e4, vI t13.e5]) 20 (fun u12 w hF => matrix_basis_reduce_m.calls k0 (⟨a0_0, a0_1⟩ : Tbasis) t11 b_a0 p_a0_1 c_a0_1 t13 w  ⟨(rdA (owns_rowC (ow_of hF.1))), (bx_fact hF.2.1 0).2.1, trivial⟩ ht13)) <|
   .cons [59] (ok_as (u' := fun u12 => [(59, .blk ((u9 2).n 0) [vI t13.e0, vI t13.e1, vI t13.e2, vI t13.e3, vI t13.e4, vI t13.e5] 81)]) (ok_store 59 0 (fun u12 => ((u9 2).n 0)) (fun u12 => [vI t11.e0, vI t11.e1, vI t11.e2, vI t11.e3, vI t11.e4, vI t11.e5]) (fun u12 => [vI t13.e0, vI t13.e1, vI t13.e2, vI t13.e3, vI t13.e4, vI t13.e5]) 81) (fun _ => by kernel_rfl)) <| .nil) fun u12 a w' H => ?_
    replace H := H.kp [0, 4, 5, 7, 12, 13, 14, 56, 57, 58, 59, 999998]
    refine k_seq ?_
    replace G := bnd G; obtain ⟨j14, hj14, Gj14⟩ := G
    refine k_join (fun a w' => ∃ j14v, j14 = Sum.inr j14v ∧ Rep 0 w 56 (ofL [(0, sP b_a0 0), (4, .slot true (.func (.func 92) #[vP b_a0 0] #[])), (12, sS p_a1 a1.length c_a1), (13, (sI (a1.length : Int))), (14, sI x4), (56, .blk b_a0 [vI a0_0, .slice p_a0_1 a0_1.length c_a0_1] 84), (57, owK 81 6 p_a0_1 a0_1.length c_a0_1 (a0_1.flatMap en_TA6_Int)), (58, rdl anyF 6 p_a1 c_a1 a1 en_TA6_Int), (999998, frM [owK 81 6 p_a0_1 a0_1.length c_a0_1 (a0_1.flatMap en_TA6_Int), .blk b_a0 [vI a0_0, .slice p_a0_1 a0_1.length c_a0_1] 84] w)]) a w') ?_ ?_
    ·clear H; rintro a w' ⟨j14v, rfl, H⟩; have G := Gj14; clear Gj14; dsimp only at G
     refine k_rg mixed H (.v 5 (vI 16384) <| .nil) fun u15 a w' H => ?_
     replace H := H.kp [0, 4, 5, 12, 13, 14, 56, 57, 58, 999998]
     obtain rfl := Option.some.inj G
     exact ⟨_, rfl, H.toL _ (by kernel_rfl)⟩
    ·have G := hj14; clear hj14
     refine k_seq ?_
     replace G := bnd G; obtain ⟨t17, ht17, G⟩ := G
     refine k_rg mixed H (.cons [21] (ok_ld (fun u16 => .agg #[vI t13.e0, vI t13.e1, vI t13.e2, vI t13.e3, vI t13.e4, vI t13.e5]) 21 59 0 6 (fun u16 => ((u9 2).n 0)) (fun u16 => [vI t13.e0, vI t13.e1, vI t13.e2, vI t13.e3, vI t13.e4, vI t13.e5]) 81) <|
   .cons [22] (ok_callv 93 (fun u16 => #[.agg #[vI t13.e0, vI t13.e1, vI t13.e2, vI t13.e3, vI t13.e4, vI t13.e5]]) (vI t17) 22 [] (fun u16 w _ => matrix_vector_length.calls k0 t13  t17 w  ht17)) <|
   .v 8 (vI t17) <| .nil) fun u16 a w' H => ?_
     replace H := H.kp [0, 4, 5, 7, 8, 12, 13, 14, 56, 57, 58, 59, 999998]
     refine k_seq ?_
     refine k_rg mixed H (.v 23 (vI t17) <|
   .v 24 (vI x3) <|
   .v 25 (.bool (decide (t17 ≥ x3))) <| .nil) fun u18 a w' H => ?_
     replace H := H.kp [0, 4, 7, 8, 12, 13, 14, 25, 56, 57, 58, 59, 999998]
     refine k_cond H (by kernel_rfl) (t := decide (t17 ≥ x3)) (by kernel_rfl) (fun c64 => ?_) (fun c64 => ?_)
     ·rw [if_pos c64] at G
      refine k_seq ?_
      replace G := bnd G; obtain ⟨j25, hj25, G⟩ := G
      refine k_join (fun a w' => Rep 0 w 56 (ofL [(0, sP b_a0 0), (7, (sP ((u9 2).n 0) 0)), (56, .blk b_a0 [vI a0_0, .slice p_a0_1 a0_1.length c_a0_1] 84), (57, owK 81 6 p_a0_1 a0_1.length c_a0_1 (a0_1.flatMap en_TA6_Int)), (59, .blk ((u9 2).n 0) [vI j25.1, vI j25.2.1, vI j25.2.2.1, vI j25.2.2.2.1, vI j25.2.2.2.2.1, vI j25.2.2.2.2.2] 81), (999998, frM [owK 81 6 p_a0_1 a0_1.length c_a0_1 (a0_1.flatMap en_TA6_Int), .blk b_a0 [vI a0_0, .slice p_a0_1 a0_1.length c_a0_1] 84] w)]) a w') ?_ ?_
      ·clear H; intro a w' H
       refine k_seq ?_
       replace G := gd G; obtain ⟨b27, G⟩ := G
       refine k_rg mixed H (.v 45 (vP b_a0 0) <|
   .v 46 (vP b_a0 0) <|
   .v 47 (vP b_a0 0) <|
   .v 48 (vP b_a0 1) <|
   .cons [49] (ok_ld (fun u26 => .slice p_a0_1 a0_1.length c_a0_1) 49 56 1 1 (fun u26 => b_a0) (fun u26 => [vI a0_0, .slice p_a0_1 a0_1.length c_a0_1]) 84) <|
   .cons [50] (ok_ld (fun u26 => .agg #[vI j25.1, vI j25.2.1, vI j25.2.2.1, vI j25.2.2.2.1, vI j25.2.2.2.2.1, vI j25.2.2.2.2.2]) 50 59 0 6 (fun u26 => ((u9 2).n 0)) (fun u26 => [vI j25.1, vI j25.2.1, vI j25.2.2.1, vI j25.2.2.2.1, vI j25.2.2.2.2.1, vI j25.2.2.2.2.2]) 81) <|
   .cons [51, 60] (ok_new (fun b => .slice (some ⟨b, 0, none⟩) 1 1) (fun u26 => [vI j25.1, vI j25.2.1, vI j25.2.2.1, vI j25.2.2.2.1, vI j25.2.2.2.2.1, vI j25.2.2.2.2.2]) 81 51 60) <|
   .cons [52, 57, 57] (ok_own1 [6] [60] (fun u26 => [.blk ((u26 6).n 0) [vI j25.1, vI j25.2.1, vI j25.2.2.1, vI j25.2.2.2.1, vI j25.2.2.2.2.1, vI j25.2.2.2.2.2] 81]) 57 (fun u26 => owK 81 6 p_a0_1 a0_1.length c_a0_1 (a0_1.flatMap en_TA6_Int)) (some 52) (fun u26 g => .slice (g.o 0) (a0_1 ++ [(⟨j25.1, j25.2.1, j25.2.2.1, j25.2.2.2.1, j25.2.2.2.2.1, j25.2.2.2.2.2⟩ : TA6_Int)]).length (g.n 0)) (fun u26 g => owK 81 6 (g.o 0) ((a0_1 ++ [(⟨j25.1, j25.2.1, j25.2.2.1, j25.2.2.2.1, j25.2.2.2.2.1, j25.2.2.2.2.2⟩ : TA6_Int)]).length) (g.n 0) ((a0_1 ++ [(⟨j25.1, j25.2.1, j25.2.2.1, j25.2.2.2.1, j25.2.2.2.2.1, j25.2.2.2.2.2⟩ : TA6_Int)]).flatMap en_TA6_Int)) (fun u26 w hF hK => tv_app (run_app_rowN (t := 79) (ty := 79) (en := en_TA6_Int) en_TA6_Int_len inf81 (ow_of hK) hF.1 (news := [(⟨j25.1, j25.2.1, j25.2.2.1, j25.2.2.2.1, j25.2.2.2.2.1, j25.2.2.2.2.2⟩ : TA6_Int)]) rfl (by simp) (by kernel_rfl) b27)) (hloc := fun u u' h => ⟨by first | rfl | simp only [h 6 (by decide)], by first | rfl | simp only [h 6 (by decide)], by first | rfl | simp only [h 6 (by decide)], by first | rfl | simp only [h 6 (by decide)]⟩)) <|
   .v 53 (vP b_a0 0) <|
   .v 54 (vP b_a0 1) <|
   .cons [56] (ok_as (u' := fun u26 => [(56, .blk b_a0 [vI a0_0, .slice ((u26 7).o 0) ((a0_1 ++ [(⟨j25.1, j25.2.1, j25.2.2.1, j25.2.2.2.1, j25.2.2.2.2.1, j25.2.2.2.2.2⟩ : TA6_Int)]).length) ((u26 7).n 0)] 84)]) (ok_store 56 1 (fun u26 => b_a0) (fun u26 => [vI a0_0, .slice p_a0_1 a0_1.length c_a0_1]) (fun u26 => [.slice ((u26 7).o 0) ((a0_1 ++ [(⟨j25.1, j25.2.1, j25.2.2.1, j25.2.2.2.1, j25.2.2.2.2.1, j25.2.2.2.2.2⟩ : TA6_Int)]).length) ((u26 7).n 0)]) 84) (fun _ => by kernel_rfl)) <| .nil) fun u26 a w' H => ?_
       replace H := H.kp [56, 57, 999998]
       refine k_ret ?_
       obtain rfl := Option.some.inj G
       replace G := Gj14
       obtain rfl := Option.some.inj G
       replace G := Gj7
       obtain rfl := Option.some.inj G
       obtain ⟨g, o0, n0⟩ : ∃ g : Gh, g.o 0 = ((u26 7).o 0) ∧ g.n 0 = ((u26 7).n 0) := ⟨⟨fun i => [((u26 7).n 0)].getD i 0, fun i => [((u26 7).o 0)].getD i none, fun i => ([⟨Unit, ()⟩] : List ((T : Type) × T)).getD i ⟨Unit, ()⟩⟩, rfl, rfl⟩
       refine k_doneZ H (fun g => .tuple #[]) g [owK 81 6 p_a0_1 a0_1.length c_a0_1 (a0_1.flatMap en_TA6_Int), .blk b_a0 [vI a0_0, .slice p_a0_1 a0_1.length c_a0_1] 84] [] (fun g => [fun _ => owK 81 6 (g.o 0) ((a0_1 ++ [(⟨j25.1, j25.2.1, j25.2.2.1, j25.2.2.2.1, j25.2.2.2.2.1, j25.2.2.2.2.2⟩ : TA6_Int)]).length) (g.n 0) ((a0_1 ++ [(⟨j25.1, j25.2.1, j25.2.2.1, j25.2.2.2.1, j25.2.2.2.2.1, j25.2.2.2.2.2⟩ : TA6_Int)]).flatMap en_TA6_Int), fun _ => .blk b_a0 [vI a0_0, .slice (g.o 0) ((a0_1 ++ [(⟨j25.1, j25.2.1, j25.2.2.1, j25.2.2.2.1, j25.2.2.2.2.1, j25.2.2.2.2.2⟩ : TA6_Int)]).length) (g.n 0)] 84]) fr [57, 56] [] (.tuple #[]) [fun _ => owK 81 6 ((u26 7).o 0) ((a0_1 ++ [(⟨j25.1, j25.2.1, j25.2.2.1, j25.2.2.2.1, j25.2.2.2.2.1, j25.2.2.2.2.2⟩ : TA6_Int)]).length) ((u26 7).n 0) ((a0_1 ++ [(⟨j25.1, j25.2.1, j25.2.2.1, j25.2.2.2.1, j25.2.2.2.2.1, j25.2.2.2.2.2⟩ : TA6_Int)]).flatMap en_TA6_Int), fun _ => .blk b_a0 [vI a0_0, .slice ((u26 7).o 0) ((a0_1 ++ [(⟨j25.1, j25.2.1, j25.2.2.1, j25.2.2.2.1, j25.2.2.2.2.1, j25.2.2.2.2.2⟩ : TA6_Int)]).length) ((u26 7).n 0)] 84] (by simp only [o0, n0]) (by simp only [o0, n0]) hfr (.inr (by kernel_rfl)) (fams_cons fam_ow (fams_cons fam_blk fams_nil)) (by simp)
      ·clear G; replace G := hj25; clear hj25
       refine k_seq ?_
       refine k_rg mixed H (.v 26 (vP b_a0 0) <|
   .v 27 (vP b_a0 0) <|
   .v 28 (vP b_a0 0) <|
   .cons [29] (ok_ld (fun u28 => vI a0_0) 29 56 0 1 (fun u28 => b_a0) (fun u28 => [vI a0_0, .slice p_a0_1 a0_1.length c_a0_1]) 84) <|
   .v 30 (vI 0) <| .nil) fun u28 a w' H => ?_
       replace H := H.kp [0, 7, 8, 29, 30, 56, 57, 59, 999998]
       refine k_block ?_
       refine k_loopJ (fun m a w' => ∃ x29 : Int, ∃ x30 : Int, ∃ x31 : Int, ∃ x32 : Int, ∃ x33 : Int, ∃ x34 : Int, ∃ x35 : Int, matrix_basis_extend_m.l36 k0 a0_0 a0_1 a1 x3 x4 t11 t13 t17 m x29 x30 x31 x32 x33 x34 x35 = some j25 ∧ Rep 0 w 56 (ofL [(0, sP b_a0 0), (7, (sP ((u9 2).n 0) 0)), (8, sI t17), (29, sI a0_0), (30, sI x35), (56, .blk b_a0 [vI a0_0, .slice p_a0_1 a0_1.length c_a0_1] 84), (57, owK 81 6 p_a0_1 a0_1.length c_a0_1 (a0_1.flatMap en_TA6_Int)), (59, .blk ((u9 2).n 0) [vI x29, vI x30, vI x31, vI x32, vI x33, vI x34] 81), (999998, frM [owK 81 6 p_a0_1 a0_1.length c_a0_1 (a0_1.flatMap en_TA6_Int), .blk b_a0 [vI a0_0, .slice p_a0_1 a0_1.length c_a0_1] 84] w)]) a w') k0 ⟨_, _, _, _, _, _, _, G, H.toL _ (by kernel_rfl)⟩ ?_
       clear G H
       rintro (_ | k) a w' ⟨x29, x30, x31, x32, x33, x34, x35, G, H⟩
       ·exact absurd G (by unfold matrix_basis_extend_m.l36; exact fun h => by cases h)
       ·unfold matrix_basis_extend_m.l36 at G
        refine k_seq ?_
        refine k_rg mixed H (.v 31 (.bool (decide (x35 < a0_0))) <| .nil) fun u37 a w' H => ?_
        replace H := H.kp [0, 7, 8, 29, 30, 31, 56, 57, 59, 999998]
        refine k_seq ?_
        refine k_cond H (by kernel_rfl) (t := decide (x35 < a0_0)) (by kernel_rfl) (fun c63 => ?_) (fun c63 => ?_)
        ·rw [if_pos c63] at G
         refine k_skip ?_
         refine k_seq ?_
         refine k_block ?_
         refine k_seq ?_
         refine k_rg mixed H (.v 32 (vI x35) <|
   .v 9 (vI x35) <| .nil) fun u38 a w' H => ?_
         replace H := H.kp [0, 7, 8, 9, 29, 30, 56, 57, 59, 999998]
         by_cases c57 : x35 = 0
         ·rw [if_pos c57] at G; subst c57
          replace G := bnd G; obtain ⟨t40, ht40, G⟩ := G
          refine k_rg mixed H (.v 34 (vI 0) <|
   .v 35 (vI 0) <|
   .v 36 (vP ((u9 2).n 0) 0) <|
   .cons [37] (ok_ld (fun u39 => vI x29) 37 59 0 1 (fun u39 => ((u9 2).n 0)) (fun u39 => [vI x29, vI x30, vI x31, vI x32, vI x33, vI x34]) 81) <|
   .v 38 (vI t17) <|
   .cons [39] (ok_callv 94 (fun u39 => #[vI x29, vI 65536, vI t17]) (.tuple #[vI t40.1, vI t40.2.1, vI t40.2.2]) 39 [] (fun u39 w _ => fixed_MulRatio.calls x29 65536 t17  t40 w  ht40)) <|
   .v 33 (.tuple #[vI t40.1, vI t40.2.1, vI t40.2.2]) <|
   .v 40 (vI t40.1) <|
   .v 41 (vI t40.2.1) <|
   .v 42 (vI t40.2.2) <|
   .v 43 (vP ((u9 2).n 0) 0) <|
   .cons [59] (ok_as (u' := fun u39 => [(59, .blk ((u9 2).n 0) [vI t40.1, vI x30, vI x31, vI x32, vI x33, vI x34] 81)]) (ok_store 59 0 (fun u39 => ((u9 2).n 0)) (fun u39 => [vI x29, vI x30, vI x31, vI x32, vI x33, vI x34]) (fun u39 => [vI t40.1]) 81) (fun _ => by kernel_rfl)) <| .nil) fun u39 a w' H => ?_
          replace H := H.kp [0, 7, 8, 29, 30, 56, 57, 59, 999998]
          refine k_rg mixed H (.v 44 (vI (w_i64 (0 + 1))) <|
   .v 30 (vI (w_i64 (0 + 1))) <| .nil) fun u41 a w' H => ?_
          replace H := H.kp [0, 7, 8, 29, 30, 56, 57, 59, 999998]
          exact ⟨k, Nat.lt_succ_self k, _, _, _, _, _, _, _, G, H.toL _ (by kernel_rfl)⟩
         rw [if_neg c57] at G
         by_cases c58 : x35 = 1
         ·rw [if_pos c58] at G; subst c58
          replace G := bnd G; obtain ⟨t43, ht43, G⟩ := G
          refine k_rg mixed H (.v 34 (vI 1) <|
   .v 35 (vI 1) <|
   .v 36 (vP ((u9 2).n 0) 1) <|
   .cons [37] (ok_ld (fun u42 => vI x30) 37 59 1 1 (fun u42 => ((u9 2).n 0)) (fun u42 => [vI x29, vI x30, vI x31, vI x32, vI x33, vI x34]) 81) <|
   .v 38 (vI t17) <|
   .cons [39] (ok_callv 94 (fun u42 => #[vI x30, vI 65536, vI t17]) (.tuple #[vI t43.1, vI t43.2.1, vI t43.2.2]) 39 [] (fun u42 w _ => fixed_MulRatio.calls x30 65536 t17  t43 w  ht43)) <|
   .v 33 (.tuple #[vI t43.1, vI t43.2.1, vI t43.2.2]) <|
   .v 40 (vI t43.1) <|
   .v 41 (vI t43.2.1) <|
   .v 42 (vI t43.2.2) <|
   .v 43 (vP ((u9 2).n 0) 1) <|
   .cons [59] (ok_as (u' := fun u42 => [(59, .blk ((u9 2).n 0) [vI x29, vI t43.1, vI x31, vI x32, vI x33, vI x34] 81)]) (ok_store 59 1 (fun u42 => ((u9 2).n 0)) (fun u42 => [vI x29, vI x30, vI x31, vI x32, vI x33, vI x34]) (fun u42 => [vI t43.1]) 81) (fun _ => by kernel_rfl)) <| .nil) fun u42 a w' H => ?_
          replace H := H.kp [0, 7, 8, 29, 30, 56, 57, 59, 999998]
          refine k_rg mixed H (.v 44 (vI (w_i64 (1 + 1))) <|
   .v 30 (vI (w_i64 (1 + 1))) <| .nil) fun u44 a w' H => ?_
          replace H := H.kp [0, 7, 8, 29, 30, 56, 57, 59, 999998]
          exact ⟨k, Nat.lt_succ_self k, _, _, _, _, _, _, _, G, H.toL _ (by kernel_rfl)⟩
         rw [if_neg c58] at G
         by_cases c59 : x35 = 2
         ·rw [if_pos c59] at G; subst c59
          replace G := bnd G; obtain ⟨t46, ht46, G⟩ := G
          refine k_rg mixed H (.v 34 (vI 2) <|
   .v 35 (vI 2) <|
   .v 36 (vP ((u9 2).n 0) 2) <|
   .cons [37] (ok_ld (fun u45 => vI x31) 37 59 2 1 (fun u45 => ((u9 2).n 0)) (fun u45 => [vI x29, vI x30, vI x31, vI x32, vI x33, vI x34]) 81) <|
   .v 38 (vI t17) <|
   .cons [39] (ok_callv 94 (fun u45 => #[vI x31, vI 65536, vI t17]) (.tuple #[vI t46.1, vI t46.2.1, vI t46.2.2]) 39 [] (fun u45 w _ => fixed_MulRatio.calls x31 65536 t17  t46 w  ht46)) <|
   .v 33 (.tuple #[vI t46.1, vI t46.2.1, vI t46.2.2]) <|
   .v 40 (vI t46.1) <|
   .v 41 (vI t46.2.1) <|
   .v 42 (vI t46.2.2) <|
   .v 43 (vP ((u9 2).n 0) 2) <|
   .cons [59] (ok_as (u' := fun u45 => [(59, .blk ((u9 2).n 0) [vI x29, vI x30, vI t46.1, vI x32, vI x33, vI x34] 81)]) (ok_store 59 2 (fun u45 => ((u9 2).n 0)) (fun u45 => [vI x29, vI x30, vI x31, vI x32, vI x33, vI x34]) (fun u45 => [vI t46.1]) 81) (fun _ => by kernel_rfl)) <| .nil) fun u45 a w' H => ?_
          replace H := H.kp [0, 7, 8, 29, 30, 56, 57, 59, 999998]
          refine k_rg mixed H (.v 44 (vI (w_i64 (2 + 1))) <|
   .v 30 (vI (w_i64 (2 + 1))) <| .nil) fun u47 a w' H => ?_
          replace H := H.kp [0, 7, 8, 29, 30, 56, 57, 59, 999998]
          exact ⟨k, Nat.lt_succ_self k, _, _, _, _, _, _, _, G, H.toL _ (by kernel_rfl)⟩
         rw [if_neg c59] at G
         by_cases c60 : x35 = 3
         ·rw [if_pos c60] at G; subst c60
          replace G := bnd G; obtain ⟨t49, ht49, G⟩ := G
          refine k_rg mixed H (.v 34 (vI 3) <|
   .v 35 (vI 3) <|
   .v 36 (vP ((u9 2).n 0) 3) <|
   .cons [37] (ok_ld (fun u48 => vI x32) 37 59 3 1 (fun u48 => ((u9 2).n 0)) (fun u48 => [vI x29, vI x30, vI x31, vI x32, vI x33, vI x34]) 81) <|
   .v 38 (vI t17) <|
   .cons [39] (ok_callv 94 (fun u48 => #[vI x32, vI 65536, vI t17]) (.tuple #[vI t49.1, vI t49.2.1, vI t49.2.2]) 39 [] (fun u48 w _ => fixed_MulRatio.calls x32 65536 t17  t49 w  ht49)) <|
   .v 33 (.tuple #[vI t49.1, vI t49.2.1, vI t49.2.2]) <|
   .v 40 (vI t49.1) <|
   .v 41 (vI t49.2.1) <|
   .v 42 (vI t49.2.2) <|
   .v 43 (vP ((u9 2).n 0) 3) <|
   .cons [59] (ok_as (u' := fun u48 => [(59, .blk ((u9 2).n 0) [vI x29, vI x30, vI x31, vI t49.1, vI x33, vI x34] 81)]) (ok_store 59 3 (fun u48 => ((u9 2).n 0)) (fun u48 => [vI x29, vI x30, vI x31, vI x32, vI x33, vI x34]) (fun u48 => [vI t49.1]) 81) (fun _ => by kernel_rfl)) <| .nil) fun u48 a w' H => ?_
          replace H := H.toM [(0, sP b_a0 0), (7, (sP ((u9 2).n 0) 0)), (8, sI t17), (29, sI a0_0), (30, sI 3), (56, .blk b_a0 [vI a0_0, .slice p_a0_1 a0_1.length c_a0_1] 84), (57, owK 81 6 p_a0_1 a0_1.length c_a0_1 (a0_1.flatMap en_TA6_Int)), (59, .blk ((u9 2).n 0) [vI x29, vI x30, vI x31, vI t49.1, vI x33, vI x34] 81), (999998, frM [owK 81 6 p_a0_1 a0_1.length c_a0_1 (a0_1.flatMap en_TA6_Int), .blk b_a0 [vI a0_0, .slice p_a0_1 a0_1.length c_a0_1] 84] w)]
          refine k_rg mixed H (.v 44 (vI (w_i64 (3 + 1))) <|
   .v 30 (vI (w_i64 (3 + 1))) <| .nil) fun u50 a w' H => ?_
          replace H := H.kp [0, 7, 8, 29, 30, 56, 57, 59, 999998]
          exact ⟨k, Nat.lt_succ_self k, _, _, _, _, _, _, _, G, H.toL _ (by kernel_rfl)⟩
         rw [if_neg c60] at G
         by_cases c61 : x35 = 4
         ·rw [if_pos c61] at G; subst c61
          replace G := bnd G; obtain ⟨t52, ht52, G⟩ := G
          refine k_rg mixed H (.v 34 (vI 4) <|
   .v 35 (vI 4) <|
   .v 36 (vP ((u9 2).n 0) 4) <|
   .cons [37] (ok_ld (fun u51 => vI x33) 37 59 4 1 (fun u51 => ((u9 2).n 0)) (fun u51 => [vI x29, vI x30, vI x31, vI x32, vI x33, vI x34]) 81) <|
   .v 38 (vI t17) <|
   .cons [39] (ok_callv 94 (fun u51 => #[vI x33, vI 65536, vI t17]) (.tuple #[vI t52.1, vI t52.2.1, vI t52.2.2]) 39 [] (fun u51 w _ => fixed_MulRatio.calls x33 65536 t17  t52 w  ht52)) <|
   .v 33 (.tuple #[vI t52.1, vI t52.2.1, vI t52.2.2]) <|
   .v 40 (vI t52.1) <|
   .v 41 (vI t52.2.1) <|
   .v 42 (vI t52.2.2) <|
   .v 43 (vP ((u9 2).n 0) 4) <|
   .cons [59] (ok_as (u' := fun u51 => [(59, .blk ((u9 2).n 0) [vI x29, vI x30, vI x31, vI x32, vI t52.1, vI x34] 81)]) (ok_store 59 4 (fun u51 => ((u9 2).n 0)) (fun u51 => [vI x29, vI x30, vI x31, vI x32, vI x33, vI x34]) (fun u51 => [vI t52.1]) 81) (fun _ => by kernel_rfl)) <| .nil) fun u51 a w' H => ?_
          replace H := H.kp [0, 7, 8, 29, 30, 56, 57, 59, 999998]
          refine k_rg mixed H (.v 44 (vI (w_i64 (4 + 1))) <|
   .v 30 (vI (w_i64 (4 + 1))) <| .nil) fun u53 a w' H => ?_
          replace H := H.kp [0, 7, 8, 29, 30, 56, 57, 59, 999998]
          exact ⟨k, Nat.lt_succ_self k, _, _, _, _, _, _, _, G, H.toL _ (by kernel_rfl)⟩
         rw [if_neg c61] at G
         by_cases c62 : x35 = 5
         ·rw [if_pos c62] at G; subst c62
          replace G := bnd G; obtain ⟨t55, ht55, G⟩ := G
          refine k_rg mixed H (.v 34 (vI 5) <|
   .v 35 (vI 5) <|
   .v 36 (vP ((u9 2).n 0) 5) <|
   .cons [37] (ok_ld (fun u54 => vI x34) 37 59 5 1 (fun u54 => ((u9 2).n 0)) (fun u54 => [vI x29, vI x30, vI x31, vI x32, vI x33, vI x34]) 81) <|
   .v 38 (vI t17) <|
   .cons [39] (ok_callv 94 (fun u54 => #[vI x34, vI 65536, vI t17]) (.tuple #[vI t55.1, vI t55.2.1, vI t55.2.2]) 39 [] (fun u54 w _ => fixed_MulRatio.calls x34 65536 t17  t55 w  ht55)) <|
   .v 33 (.tuple #[vI t55.1, vI t55.2.1, vI t55.2.2]) <|
   .v 40 (vI t55.1) <|
   .v 41 (vI t55.2.1) <|
   .v 42 (vI t55.2.2) <|
   .v 43 (vP ((u9 2).n 0) 5) <|
   .cons [59] (ok_as (u' := fun u54 => [(59, .blk ((u9 2).n 0) [vI x29, vI x30, vI x31, vI x32, vI x33, vI t55.1] 81)]) (ok_store 59 5 (fun u54 => ((u9 2).n 0)) (fun u54 => [vI x29, vI x30, vI x31, vI x32, vI x33, vI x34]) (fun u54 => [vI t55.1]) 81) (fun _ => by kernel_rfl)) <| .nil) fun u54 a w' H => ?_
          replace H := H.kp [0, 7, 8, 29, 30, 56, 57, 59, 999998]
          refine k_rg mixed H (.v 44 (vI (w_i64 (5 + 1))) <|
   .v 30 (vI (w_i64 (5 + 1))) <| .nil) fun u56 a w' H => ?_
          replace H := H.kp [0, 7, 8, 29, 30, 56, 57, 59, 999998]
          exact ⟨k, Nat.lt_succ_self k, _, _, _, _, _, _, _, G, H.toL _ (by kernel_rfl)⟩
         rw [if_neg c62] at G
         cases G
        ·rw [if_neg (nt c63)] at G
         refine k_exit rfl ?_
         obtain rfl := Option.some.inj G
         exact H.toL _ (by kernel_rfl)
     ·rw [if_neg (nt c64)] at G
      refine k_skip ?_
      obtain rfl := Option.some.inj G
      exact ⟨_, rfl, H.toL _ (by kernel_rfl)⟩
  ·rw [if_neg (nt c65)] at G
   refine k_exit rfl ?_
   obtain rfl := Option.some.inj G
   obtain ⟨g, o0, n0⟩ : ∃ g : Gh, g.o 0 = p_a0_1 ∧ g.n 0 = c_a0_1 := ⟨⟨fun i => [c_a0_1].getD i 0, fun i => [p_a0_1].getD i none, fun i => ([⟨Unit, ()⟩] : List ((T : Type) × T)).getD i ⟨Unit, ()⟩⟩, rfl, rfl⟩
   refine k_doneZ H (fun g => .tuple #[]) g [owK 81 6 p_a0_1 a0_1.length c_a0_1 (a0_1.flatMap en_TA6_Int), .blk b_a0 [vI a0_0, .slice p_a0_1 a0_1.length c_a0_1] 84] [] (fun g => [fun _ => owK 81 6 (g.o 0) a0_1.length (g.n 0) (a0_1.flatMap en_TA6_Int), fun _ => .blk b_a0 [vI a0_0, .slice (g.o 0) a0_1.length (g.n 0)] 84]) fr [57, 56] [] (.tuple #[]) [fun _ => owK 81 6 p_a0_1 a0_1.length c_a0_1 (a0_1.flatMap en_TA6_Int), fun _ => .blk b_a0 [vI a0_0, .slice p_a0_1 a0_1.length c_a0_1] 84] (by simp only [o0, n0]) (by simp only [o0, n0]) hfr (.inr (by kernel_rfl)) (fams_cons fam_ow (fams_cons fam_blk fams_nil)) (by simp)
set_option maxHeartbeats 4000000 in
theorem matrix_Orthogonalize_1_m.calls (a0 : Int) (a1 : Int) (q0_0 : Tbasis) (b_q0 : Nat) (b_q0_0 : Nat) (p_q0_0_columns : Option Addr) (c_q0_0_columns : Nat) (r : Int) (w : World) (hB : AllH [rdl anyF 6 p_q0_0_columns c_q0_0_columns q0_0.columns en_TA6_Int, bxK b_q0_0 [vI q0_0.n, .slice p_q0_0_columns q0_0.columns.length c_q0_0_columns] 84, bxK b_q0 [vP b_q0_0 0] 82] w) (G : matrix_Orthogonalize_1_m a0 a1 q0_0 = some r) :
  Calls Tryd.prog 68 #[vI a0, vI a1, vP b_q0 0] w fun e w' => e = .returned (vI r) ∧ Below w.heap.size w w' := by
 obtain ⟨fr, hfr⟩ : ∃ fr : Nat → Prop, ∀ j, fr j := ⟨fun _ => True, fun _ => trivial⟩
 have hBf : ∀ j, w.heap.size ≤ j → fr j := fun j _ => hfr j
 refine k_enterF (args := [vI a0, vI a1, vP b_q0 0]) 15 [(17, rdl anyF 6 p_q0_0_columns c_q0_0_columns q0_0.columns en_TA6_Int), (16, bxK b_q0_0 [vI q0_0.n, .slice p_q0_0_columns q0_0.columns.length c_q0_0_columns] 84), (15, bxK b_q0 [vP b_q0_0 0] 82)] (by
  intro x hx
  simp only [List.mem_cons, List.not_mem_nil, or_false] at hx
  rcases hx with rfl | rfl | rfl
  ·exact rdF_fact (rdF_of hB.1) (fun _ _ => trivial) (by decide) _
  ·exact bx_fact (hB.2.1 w (agree.refl _ _)) _
  ·exact bx_fact (hB.2.2.1 w (agree.refl _ _)) _) Tryd.func68 rfl (by kernel_rfl) (by kernel_rfl) fun a H => ?_
 unfold matrix_Orthogonalize_1_m at G
 refine k_seq ?_
 refine k_rg mixed H (.v 5 (vI 0) <| .nil) fun u1 a w' H => ?_
 replace H := H.kp [0, 1, 2, 17, 15, 16]
 refine k_seq ?_
 by_cases c20 : a0 = 0
 ·rw [if_pos c20] at G; subst c20
  replace G := gd G; obtain ⟨b3, G⟩ := G
  replace G := bnd G; obtain ⟨t4, ht4, G⟩ := G
  refine k_rg mixed H (.cons [6] (ok_ldK (fun u2 => vP b_q0_0 0) 6 15 (bxK b_q0 [vP b_q0_0 0] 82) b_q0 0 1 [vP b_q0_0 0] (fun w h => bx_of h)) <|
   .v 7 (vP b_q0_0 0) <|
   .v 8 (vP b_q0_0 1) <|
   .cons [9] (ok_ldK (fun u2 => .slice p_q0_0_columns q0_0.columns.length c_q0_0_columns) 9 16 (bxK b_q0_0 [vI q0_0.n, .slice p_q0_0_columns q0_0.columns.length c_q0_0_columns] 84) b_q0_0 1 1 [vI q0_0.n, .slice p_q0_0_columns q0_0.columns.length c_q0_0_columns] (fun w h => bx_of h)) <|
   .v 10 (vI a1) <|
   .v 11 (vI 0) <|
   .cons [12] (ok_valL [17] (fun u2 => [rdl anyF 6 p_q0_0_columns c_q0_0_columns q0_0.columns en_TA6_Int]) (fun u2 => .pointer (some ⟨hdB p_q0_0_columns, hdO p_q0_0_columns + a1.toNat * 6, none⟩)) (fun u2 => true) [true, true] 12 (fun u2 w hg hF => ix_row (t := 79) (k := .i64) (i := a1) (p := p_q0_0_columns) (n := q0_0.columns.length) (cap := c_q0_0_columns) (x := q0_0.columns) (en := en_TA6_Int) (rdF_of hF.1).2 en_TA6_Int_len rfl b3 (by kernel_rfl))) <|
   .v 13 (.pointer (some ⟨hdB p_q0_0_columns, hdO p_q0_0_columns + a1.toNat * 6 + 0, none⟩)) <|
   .cons [14] (ok_valL [17] (fun u2 => [rdl anyF 6 p_q0_0_columns c_q0_0_columns q0_0.columns en_TA6_Int]) (fun u2 => vI t4.e0) (fun u2 => true) [true] 14 (fun u2 w hg hF => ld_row (en := en_TA6_Int) (rdF_of hF.1).2 en_TA6_Int_len ht4 0 1 [vI t4.e0] rfl (by kernel_rfl))) <|
   .v 5 (vI t4.e0) <| .nil) fun u2 a w' H => ?_
  replace H := H.kp [5, 17, 15, 16]
  refine k_ret ?_
  obtain rfl := Option.some.inj G
  exact k_done0 H _ (by kernel_rfl) (by kernel_rfl)
 rw [if_neg c20] at G
 by_cases c21 : a0 = 1
 ·rw [if_pos c21] at G; subst c21
  replace G := gd G; obtain ⟨b6, G⟩ := G
  replace G := bnd G; obtain ⟨t7, ht7, G⟩ := G
  refine k_rg mixed H (.cons [6] (ok_ldK (fun u5 => vP b_q0_0 0) 6 15 (bxK b_q0 [vP b_q0_0 0] 82) b_q0 0 1 [vP b_q0_0 0] (fun w h => bx_of h)) <|
   .v 7 (vP b_q0_0 0) <|
   .v 8 (vP b_q0_0 1) <|
   .cons [9] (ok_ldK (fun u5 => .slice p_q0_0_columns q0_0.columns.length c_q0_0_columns) 9 16 (bxK b_q0_0 [vI q0_0.n, .slice p_q0_0_columns q0_0.columns.length c_q0_0_columns] 84) b_q0_0 1 1 [vI q0_0.n, .slice p_q0_0_columns q0_0.columns.length c_q0_0_columns] (fun w h => bx_of h)) <|
   .v 10 (vI a1) <|
   .v 11 (vI 1) <|
   .cons [12] (ok_valL [17] (fun u5 => [rdl anyF 6 p_q0_0_columns c_q0_0_columns q0_0.columns en_TA6_Int]) (fun u5 => .pointer (some ⟨hdB p_q0_0_columns, hdO p_q0_0_columns + a1.toNat * 6, none⟩)) (fun u5 => true) [true, true] 12 (fun u5 w hg hF => ix_row (t := 79) (k := .i64) (i := a1) (p := p_q0_0_columns) (n := q0_0.columns.length) (cap := c_q0_0_columns) (x := q0_0.columns) (en := en_TA6_Int) (rdF_of hF.1).2 en_TA6_Int_len rfl b6 (by kernel_rfl))) <|
   .v 13 (.pointer (some ⟨hdB p_q0_0_columns, hdO p_q0_0_columns + a1.toNat * 6 + 1, none⟩)) <|
   .cons [14] (ok_valL [17] (fun u5 => [rdl anyF 6 p_q0_0_columns c_q0_0_columns q0_0.columns en_TA6_Int]) (fun u5 => vI t7.e1) (fun u5 => true) [true] 14 (fun u5 w hg hF => ld_row (en := en_TA6_Int) (rdF_of hF.1).2 en_TA6_Int_len ht7 1 1 [vI t7.e1] rfl (by kernel_rfl))) <|
   .v 5 (vI t7.e1) <| .nil) fun u5 a w' H => ?_
  replace H := H.kp [5, 17, 15, 16]
  refine k_ret ?_
  obtain rfl := Option.some.inj G
  exact k_done0 H _ (by kernel_rfl) (by kernel_rfl)
 rw [if_neg c21] at G
 by_cases c22 : a0 = 2
 ·rw [if_pos c22] at G; subst c22
  replace G := gd G; obtain ⟨b9, G⟩ := G
  replace G := bnd G; obtain ⟨t10, ht10, G⟩ := G
  refine k_rg mixed H (.cons [6] (ok_ldK (fun u8 => vP b_q0_0 0) 6 15 (bxK b_q0 [vP b_q0_0 0] 82) b_q0 0 1 [vP b_q0_0 0] (fun w h => bx_of h)) <|
   .v 7 (vP b_q0_0 0) <|
   .v 8 (vP b_q0_0 1) <|
   .cons [9] (ok_ldK (fun u8 => .slice p_q0_0_columns q0_0.columns.length c_q0_0_columns) 9 16 (bxK b_q0_0 [vI q0_0.n, .slice p_q0_0_columns q0_0.columns.length c_q0_0_columns] 84) b_q0_0 1 1 [vI q0_0.n, .slice p_q0_0_columns q0_0.columns.length c_q0_0_columns] (fun w h => bx_of h)) <|
   .v 10 (vI a1) <|
   .v 11 (vI 2) <|
   .cons [12] (ok_valL [17] (fun u8 => [rdl anyF 6 p_q0_0_columns c_q0_0_columns q0_0.columns en_TA6_Int]) (fun u8 => .pointer (some ⟨hdB p_q0_0_columns, hdO p_q0_0_columns + a1.toNat * 6, none⟩)) (fun u8 => true) [true, true] 12 (fun u8 w hg hF => ix_row (t := 79) (k := .i64) (i := a1) (p := p_q0_0_columns) (n := q0_0.columns.length) (cap := c_q0_0_columns) (x := q0_0.columns) (en := en_TA6_Int) (rdF_of hF.1).2 en_TA6_Int_len rfl b9 (by kernel_rfl))) <|
   .v 13 (.pointer (some ⟨hdB p_q0_0_columns, hdO p_q0_0_columns + a1.toNat * 6 + 2, none⟩)) <|
   .cons [14] (ok_valL [17] (fun u8 => [rdl anyF 6 p_q0_0_columns c_q0_0_columns q0_0.columns en_TA6_Int]) (fun u8 => vI t10.e2) (fun u8 => true) [true] 14 (fun u8 w hg hF => ld_row (en := en_TA6_Int) (rdF_of hF.1).2 en_TA6_Int_len ht10 2 1 [vI t10.e2] rfl (by kernel_rfl))) <|
   .v 5 (vI t10.e2) <| .nil) fun u8 a w' H => ?_
  replace H := H.kp [5, 17, 15, 16]
  refine k_ret ?_
  obtain rfl := Option.some.inj G
  exact k_done0 H _ (by kernel_rfl) (by kernel_rfl)
 rw [if_neg c22] at G
 by_cases c23 : a0 = 3
 ·rw [if_pos c23] at G; subst c23
  replace G := gd G; obtain ⟨b12, G⟩ := G
  replace G := bnd G; obtain ⟨t13, ht13, G⟩ := G
  refine k_rg mixed H (.cons [6] (ok_ldK (fun u11 => vP b_q0_0 0) 6 15 (bxK b_q0 [vP b_q0_0 0] 82) b_q0 0 1 [vP b_q0_0 0] (fun w h => bx_of h)) <|
   .v 7 (vP b_q0_0 0) <|
   .v 8 (vP b_q0_0 1) <|
   .cons [9] (ok_ldK (fun u11 => .slice p_q0_0_columns q0_0.columns.length c_q0_0_columns) 9 16 (bxK b_q0_0 [vI q0_0.n, .slice p_q0_0_columns q0_0.columns.length c_q0_0_columns] 84) b_q0_0 1 1 [vI q0_0.n, .slice p_q0_0_columns q0_0.columns.length c_q0_0_columns] (fun w h => bx_of h)) <|
   .v 10 (vI a1) <|
   .v 11 (vI 3) <|
   .cons [12] (ok_valL [17] (fun u11 => [rdl anyF 6 p_q0_0_columns c_q0_0_columns q0_0.columns en_TA6_Int]) (fun u11 => .pointer (some ⟨hdB p_q0_0_columns, hdO p_q0_0_columns + a1.toNat * 6, none⟩)) (fun u11 => true) [true, true] 12 (fun u11 w hg hF => ix_row (t := 79) (k := .i64) (i := a1) (p := p_q0_0_columns) (n := q0_0.columns.length) (cap := c_q0_0_columns) (x := q0_0.columns) (en := en_TA6_Int) (rdF_of hF.1).2 en_TA6_Int_len rfl b12 (by kernel_rfl))) <|
   .v 13 (.pointer (some ⟨hdB p_q0_0_columns, hdO p_q0_0_columns + a1.toNat * 6 + 3, none⟩)) <|
   .cons [14] (ok_valL [17] (fun u11 => [rdl anyF 6 p_q0_0_columns c_q0_0_columns q0_0.columns en_TA6_Int]) (fun u11 => vI t13.e3) (fun u11 => true) [true] 14 (fun u11 w hg hF => ld_row (en := en_TA6_Int) (rdF_of hF.1).2 en_TA6_Int_len ht13 3 1 [vI t13.e3] rfl (by kernel_rfl))) <|
   .v 5 (vI t13.e3) <| .nil) fun u11 a w' H => ?_
  replace H := H.kp [5, 17, 15, 16]
  refine k_ret ?_
  obtain rfl := Option.some.inj G
  exact k_done0 H _ (by kernel_rfl) (by kernel_rfl)
 rw [if_neg c23] at G
 by_cases c24 : a0 = 4
 ·rw [if_pos c24] at G; subst c24
  replace G := gd G; obtain ⟨b15, G⟩ := G
  replace G := bnd G; obtain ⟨t16, ht16, G⟩ := G
  refine k_rg mixed H (.cons [6] (ok_ldK (fun u14 => vP b_q0_0 0) 6 15 (bxK b_q0 [vP b_q0_0 0] 82) b_q0 0 1 [vP b_q0_0 0] (fun w h => bx_of h)) <|
   .v 7 (vP b_q0_0 0) <|
   .v 8 (vP b_q0_0 1) <|
   .cons [9] (ok_ldK (fun u14 => .slice p_q0_0_columns q0_0.columns.length c_q0_0_columns) 9 16 (bxK b_q0_0 [vI q0_0.n, .slice p_q0_0_columns q0_0.columns.length c_q0_0_columns] 84) b_q0_0 1 1 [vI q0_0.n, .slice p_q0_0_columns q0_0.columns.length c_q0_0_columns] (fun w h => bx_of h)) <|
   .v 10 (vI a1) <|
   .v 11 (vI 4) <|
   .cons [12] (ok_valL [17] (fun u14 => [rdl anyF 6 p_q0_0_columns c_q0_0_columns q0_0.columns en_TA6_Int]) (fun u14 => .pointer (some ⟨hdB p_q0_0_columns, hdO p_q0_0_columns + a1.toNat * 6, none⟩)) (fun u14 => true) [true, true] 12 (fun u14 w hg hF => ix_row (t := 79) (k := .i64) (i := a1) (p := p_q0_0_columns) (n := q0_0.columns.length) (cap := c_q0_0_columns) (x := q0_0.columns) (en := en_TA6_Int) (rdF_of hF.1).2 en_TA6_Int_len rfl b15 (by kernel_rfl))) <|
   .v 13 (.pointer (some ⟨hdB p_q0_0_columns, hdO p_q0_0_columns + a1.toNat * 6 + 4, none⟩)) <|
   .cons [14] (ok_valL [17] (fun u14 => [rdl anyF 6 p_q0_0_columns c_q0_0_columns q0_0.columns en_TA6_Int]) (fun u14 => vI t16.e4) (fun u14 => true) [true] 14 (fun u14 w hg hF => ld_row (en := en_TA6_Int) (rdF_of hF.1).2 en_TA6_Int_len ht16 4 1 [vI t16.e4] rfl (by kernel_rfl))) <|
   .v 5 (vI t16.e4) <| .nil) fun u14 a w' H => ?_
  replace H := H.kp [5, 17, 15, 16]
  refine k_ret ?_
  obtain rfl := Option.some.inj G
  exact k_done0 H _ (by kernel_rfl) (by kernel_rfl)
 rw [if_neg c24] at G
 by_cases c25 : a0 = 5
 ·rw [if_pos c25] at G; subst c25
  replace G := gd G; obtain ⟨b18, G⟩ := G
  replace G := bnd G; obtain ⟨t19, ht19, G⟩ := G
  refine k_rg mixed H (.cons [6] (ok_ldK (fun u17 => vP b_q0_0 0) 6 15 (bxK b_q0 [vP b_q0_0 0] 82) b_q0 0 1 [vP b_q0_0 0] (fun w h => bx_of h)) <|
   .v 7 (vP b_q0_0 0) <|
   .v 8 (vP b_q0_0 1) <|
   .cons [9] (ok_ldK (fun u17 => .slice p_q0_0_columns q0_0.columns.length c_q0_0_columns) 9 16 (bxK b_q0_0 [vI q0_0.n, .slice p_q0_0_columns q0_0.columns.length c_q0_0_columns] 84) b_q0_0 1 1 [vI q0_0.n, .slice p_q0_0_columns q0_0.columns.length c_q0_0_columns] (fun w h => bx_of h)) <|
   .v 10 (vI a1) <|
   .v 11 (vI 5) <|
   .cons [12] (ok_valL [17] (fun u17 => [rdl anyF 6 p_q0_0_columns c_q0_0_columns q0_0.columns en_TA6_Int]) (fun u17 => .pointer (some ⟨hdB p_q0_0_columns, hdO p_q0_0_columns + a1.toNat * 6, none⟩)) (fun u17 => true) [true, true] 12 (fun u17 w hg hF => ix_row (t := 79) (k := .i64) (i := a1) (p := p_q0_0_columns) (n := q0_0.columns.length) (cap := c_q0_0_columns) (x := q0_0.columns) (en := en_TA6_Int) (rdF_of hF.1).2 en_TA6_Int_len rfl b18 (by kernel_rfl))) <|
   .v 13 (.pointer (some ⟨hdB p_q0_0_columns, hdO p_q0_0_columns + a1.toNat * 6 + 5, none⟩)) <|
   .cons [14] (ok_valL [17] (fun u17 => [rdl anyF 6 p_q0_0_columns c_q0_0_columns q0_0.columns en_TA6_Int]) (fun u17 => vI t19.e5) (fun u17 => true) [true] 14 (fun u17 w hg hF => ld_row (en := en_TA6_Int) (rdF_of hF.1).2 en_TA6_Int_len ht19 5 1 [vI t19.e5] rfl (by kernel_rfl))) <|
   .v 5 (vI t19.e5) <| .nil) fun u17 a w' H => ?_
  replace H := H.kp [5, 17, 15, 16]
  refine k_ret ?_
  obtain rfl := Option.some.inj G
  exact k_done0 H _ (by kernel_rfl) (by kernel_rfl)
 rw [if_neg c25] at G
 cases G
set_option maxHeartbeats 4000000 in
theorem matrix_build_int64_s68.calls (k0 : Nat) (a0 : Int) (a1_0_0 : Tbasis) (b_a1_0 : Nat) (b_a1_0_0 : Nat) (p_a1_0_0_columns : Option Addr) (c_a1_0_0_columns : Nat) (r : List (List Int)) (w : World) (hB : AllH [rdl anyF 6 p_a1_0_0_columns c_a1_0_0_columns a1_0_0.columns en_TA6_Int, bxK b_a1_0_0 [vI a1_0_0.n, .slice p_a1_0_0_columns a1_0_0.columns.length c_a1_0_0_columns] 84, bxK b_a1_0 [vP b_a1_0_0 0] 82] w) (G : matrix_build_int64_s68 k0 a0 a1_0_0 = some r) :
  Calls Tryd.prog 67 #[vI a0, .func (.func 68) #[] #[vP b_a1_0 0]] w fun e w' => ∃ g : Gh, e = .returned (.slice (g.o 0) ((g.dl Sl.l gd_S_i64 0 r).length) (g.n 0)) ∧ But (fpK []) w w' ∧ OutOK w.heap.size (fpK []) (frI w.heap.size []) [fun _ => nsK 32 2 1 en_i64 (g.o 0) ((g.dl Sl.l gd_S_i64 0 r).length) (g.n 0) (g.dl Sl.l gd_S_i64 0 r) (g.dl Sl.l gd_S_i64 0 r)] w' := by
 obtain ⟨fr, hfr⟩ : ∃ fr : Nat → Prop, fr = frI w.heap.size [] := ⟨_, rfl⟩
 have hBf : ∀ j, w.heap.size ≤ j → fr j := fun j h => by rw [hfr]; exact .inl h
 refine k_enterF (args := [vI a0, .func (.func 68) #[] #[vP b_a1_0 0]]) 34 [(36, rdl anyF 6 p_a1_0_0_columns c_a1_0_0_columns a1_0_0.columns en_TA6_Int), (35, bxK b_a1_0_0 [vI a1_0_0.n, .slice p_a1_0_0_columns a1_0_0.columns.length c_a1_0_0_columns] 84), (34, bxK b_a1_0 [vP b_a1_0_0 0] 82)] (by
  intro x hx
  simp only [List.mem_cons, List.not_mem_nil, or_false] at hx
  rcases hx with rfl | rfl | rfl
  ·exact rdF_fact (rdF_of hB.1) (fun _ _ => trivial) (by decide) _
  ·exact bx_fact (hB.2.1 w (agree.refl _ _)) _
  ·exact bx_fact (hB.2.2.1 w (agree.refl _ _)) _) Tryd.func67 rfl (by kernel_rfl) (by kernel_rfl) fun a H => ?_
 unfold matrix_build_int64_s68 at G
 refine k_seq ?_
 refine k_rg mixed H (.v 4 (.slice none 0 0) <| .nil) fun u1 a w' H => ?_
 replace H := H.kp [0, 1, 36, 34, 35]
 refine k_seq ?_
 replace G := gd G; obtain ⟨b3, G⟩ := G
 refine k_rg mixed H (.v 8 (vI a0) <|
   .cons [9, 37] (ok_nest0 2 1 en_i64 (ok_rowL [] (fun u2 => []) 32 1 (List.replicate a0.toNat (⟨none, 0, []⟩ : Sl Int)).length ((List.replicate a0.toNat (⟨none, 0, []⟩ : Sl Int)).flatMap enSl) 9 37 (fun _ => .none) (fun u2 w hF => run_make_row (t := 30) (k := .i64) (m := a0) (en := enSl) (z := (⟨none, 0, []⟩ : Sl Int)) enSl_len inf32 rfl b3 (by kernel_rfl)) (fun _ => .inl rfl)) repl_nil) <|
   .cons [5] (ok_val (fun u2 => .slice ((u2 1).o 0) ((List.replicate a0.toNat (⟨none, 0, []⟩ : Sl Int)).length) ((u2 1).n 0)) 5) <| .nil) fun u2 a w' H => ?_
 replace H := H.kp [0, 1, 5, 36, 37, 34, 35]
 refine k_seq ?_
 replace G := bnd G; obtain ⟨j5, hj5, G⟩ := G
 refine k_join (fun a w' => ∃ (p_j4 : Option Addr) (c_j4 np_j4 : Nat) (L_j4 : List (Sl Int)), np_j4 = L_j4.length ∧ j5 = L_j4.map Sl.l ∧ Rep w.heap.size w 34 (ofL [(5, sS p_j4 np_j4 c_j4), (36, rdl anyF 6 p_a1_0_0_columns c_a1_0_0_columns a1_0_0.columns en_TA6_Int), (900033, nsK 32 2 1 en_i64 p_j4 np_j4 c_j4 L_j4 L_j4), (34, bxK b_a1_0 [vP b_a1_0_0 0] 82), (35, bxK b_a1_0_0 [vI a1_0_0.n, .slice p_a1_0_0_columns a1_0_0.columns.length c_a1_0_0_columns] 84)]) a w') ?_ ?_
 ·clear H; rintro a w' ⟨p_j4, c_j4, _, L_j4, rfl, h_j4, H⟩
  refine k_seq ?_
  refine k_rg mixed H (.v 33 (.slice p_j4 L_j4.length c_j4) <|
   .v 4 (.slice p_j4 L_j4.length c_j4) <| .nil) fun u6 a w' H => ?_
  replace H := H.kp [4, 36, 900033, 34, 35]
  refine k_ret ?_
  obtain rfl := Option.some.inj G
  obtain ⟨g, o0, n0, d0⟩ : ∃ g : Gh, g.o 0 = p_j4 ∧ g.n 0 = c_j4 ∧ g.dl Sl.l gd_S_i64 0 j5 = L_j4 := ⟨⟨fun i => [c_j4].getD i 0, fun i => [p_j4].getD i none, fun i => ([⟨List (Sl Int), L_j4⟩] : List ((T : Type) × T)).getD i ⟨Unit, ()⟩⟩, rfl, rfl, dl_mk rfl h_j4⟩
  refine k_doneZ H (fun g => .slice (g.o 0) ((g.dl Sl.l gd_S_i64 0 j5).length) (g.n 0)) g [] [] (fun g => [fun _ => nsK 32 2 1 en_i64 (g.o 0) ((g.dl Sl.l gd_S_i64 0 j5).length) (g.n 0) (g.dl Sl.l gd_S_i64 0 j5) (g.dl Sl.l gd_S_i64 0 j5)]) fr [900033] [] (.slice p_j4 L_j4.length c_j4) [fun _ => nsK 32 2 1 en_i64 p_j4 L_j4.length c_j4 L_j4 L_j4] (by simp only [o0, n0, d0]) (by simp only [o0, n0, d0]) hfr (.inl ⟨rfl, rfl⟩) (fams_cons fam_ns fams_nil) (by simp)
 ·clear G; replace G := hj5; clear hj5
  refine k_seq ?_
  refine k_rg mixed H (.v 10 (vI a0) <|
   .v 11 (vI 0) <| .nil) fun u7 a w' H => ?_
  replace H := H.kp [0, 1, 5, 10, 11, 36, 37, 34, 35]
  refine k_block ?_
  replace H := H.move (K := nsK 32 2 1 en_i64 ((u2 1).o 0) ((List.replicate a0.toNat (⟨none, 0, []⟩ : Sl Int)).length) ((u2 1).n 0) (List.replicate a0.toNat (⟨none, 0, []⟩ : Sl Int)) (List.replicate a0.toNat (⟨none, 0, []⟩ : Sl Int))) 37 900035 (by kernel_rfl) (by intro _ _ h; cases h)
  refine k_loopJ (fun m a w' => ∃ x8 : List (List Int), ∃ x9 : Int, matrix_build_int64_s68.l10 k0 a0 a1_0_0 m x8 x9 = some j5 ∧ ∃ (p_x8 : Option Addr) (c_x8 np_x8 : Nat) (L_x8 : List (Sl Int)), np_x8 = L_x8.length ∧ x8 = L_x8.map Sl.l ∧ Rep w.heap.size w 34 (ofL [(0, sI a0), (1, .slot true (.func (.func 68) #[] #[vP b_a1_0 0])), (5, sS p_x8 np_x8 c_x8), (10, sI a0), (11, sI x9), (36, rdl anyF 6 p_a1_0_0_columns c_a1_0_0_columns a1_0_0.columns en_TA6_Int), (900035, nsK 32 2 1 en_i64 p_x8 np_x8 c_x8 L_x8 L_x8), (34, bxK b_a1_0 [vP b_a1_0_0 0] 82), (35, bxK b_a1_0_0 [vI a1_0_0.n, .slice p_a1_0_0_columns a1_0_0.columns.length c_a1_0_0_columns] 84)]) a w') k0 ⟨_, _, G, ((u2 1).o 0), ((u2 1).n 0), (List.replicate a0.toNat (⟨none, 0, []⟩ : Sl Int)).length, (List.replicate a0.toNat (⟨none, 0, []⟩ : Sl Int)), rfl, (map_repl a0.toNat (⟨none, 0, []⟩ : Sl Int)), H.toL _ (by kernel_rfl)⟩ ?_
  clear G H
  rintro (_ | k) a w' ⟨x8, x9, G, p_x8, c_x8, _, L_x8, rfl, h_x8, H⟩
  ·exact absurd G (by unfold matrix_build_int64_s68.l10; exact fun h => by cases h)
  ·unfold matrix_build_int64_s68.l10 at G
   refine k_seq ?_
   refine k_rg mixed H (.v 12 (.bool (decide (x9 < a0))) <| .nil) fun u11 a w' H => ?_
   replace H := H.kp [0, 1, 5, 10, 11, 12, 36, 900035, 34, 35]
   refine k_seq ?_
   refine k_cond H (by kernel_rfl) (t := decide (x9 < a0)) (by kernel_rfl) (fun c32 => ?_) (fun c32 => ?_)
   ·rw [if_pos c32] at G
    refine k_skip ?_
    refine k_seq ?_
    replace G := bnd G; obtain ⟨j13, hj13, G⟩ := G
    refine k_join (fun a w' => ∃ (p_j12 : Option Addr) (c_j12 np_j12 : Nat) (L_j12 : List (Sl Int)), np_j12 = L_j12.length ∧ j13 = L_j12.map Sl.l ∧ Rep w.heap.size w 34 (ofL [(0, sI a0), (1, .slot true (.func (.func 68) #[] #[vP b_a1_0 0])), (5, sS p_j12 np_j12 c_j12), (10, sI a0), (11, sI x9), (36, rdl anyF 6 p_a1_0_0_columns c_a1_0_0_columns a1_0_0.columns en_TA6_Int), (900037, nsK 32 2 1 en_i64 p_j12 np_j12 c_j12 L_j12 L_j12), (34, bxK b_a1_0 [vP b_a1_0_0 0] 82), (35, bxK b_a1_0_0 [vI a1_0_0.n, .slice p_a1_0_0_columns a1_0_0.columns.length c_a1_0_0_columns] 84)]) a w') ?_ ?_
    ·clear H; rintro a w' ⟨p_j12, c_j12, _, L_j12, rfl, h_j12, H⟩
     refine k_rg mixed H (.v 32 (vI (w_i64 (x9 + 1))) <|
   .v 11 (vI (w_i64 (x9 + 1))) <| .nil) fun u14 a w' H => ?_
     replace H := H.kp [0, 1, 5, 10, 11, 36, 900037, 34, 35]
     replace H := H.move (K := nsK 32 2 1 en_i64 p_j12 L_j12.length c_j12 L_j12 L_j12) 900037 900035 (by kernel_rfl) (by intro _ _ h; cases h)
     exact ⟨k, Nat.lt_succ_self k, _, _, G, p_j12, c_j12, L_j12.length, L_j12, rfl, h_j12, H.toL _ (by kernel_rfl)⟩
    ·clear G; replace G := hj13; clear hj13
     refine k_block ?_
     refine k_seq ?_
     refine k_rg mixed H (.v 13 (vI x9) <|
   .v 6 (vI x9) <| .nil) fun u15 a w' H => ?_
     replace H := H.kp [0, 1, 5, 6, 10, 11, 36, 900035, 34, 35]
     refine k_seq ?_
     refine k_rg mixed H (.v 14 (vI a0) <|
   .v 15 (vI 0) <| .nil) fun u16 a w' H => ?_
     replace H := H.kp [0, 1, 5, 6, 10, 11, 14, 15, 36, 900035, 34, 35]
     refine k_block ?_
     replace H := H.move (K := nsK 32 2 1 en_i64 p_x8 L_x8.length c_x8 L_x8 L_x8) 900035 900039 (by kernel_rfl) (by intro _ _ h; cases h)
     refine k_loopJ (fun m a w' => ∃ x17 : List (List Int), ∃ x18 : Int, matrix_build_int64_s68.l19 k0 a0 a1_0_0 x8 x9 m x17 x18 = some j13 ∧ ∃ (p_x17 : Option Addr) (c_x17 np_x17 : Nat) (L_x17 : List (Sl Int)), np_x17 = L_x17.length ∧ x17 = L_x17.map Sl.l ∧ Rep w.heap.size w 34 (ofL [(0, sI a0), (1, .slot true (.func (.func 68) #[] #[vP b_a1_0 0])), (5, sS p_x17 np_x17 c_x17), (6, sI x9), (10, sI a0), (11, sI x9), (14, sI a0), (15, sI x18), (36, rdl anyF 6 p_a1_0_0_columns c_a1_0_0_columns a1_0_0.columns en_TA6_Int), (900039, nsK 32 2 1 en_i64 p_x17 np_x17 c_x17 L_x17 L_x17), (34, bxK b_a1_0 [vP b_a1_0_0 0] 82), (35, bxK b_a1_0_0 [vI a1_0_0.n, .slice p_a1_0_0_columns a1_0_0.columns.length c_a1_0_0_columns] 84)]) a w') k0 ⟨_, _, G, p_x8, c_x8, L_x8.length, L_x8, rfl, h_x8, H.toL _ (by kernel_rfl)⟩ ?_
     clear G H
     rintro (_ | k) a w' ⟨x17, x18, G, p_x17, c_x17, _, L_x17, rfl, h_x17, H⟩
     ·exact absurd G (by unfold matrix_build_int64_s68.l19; exact fun h => by cases h)
     ·unfold matrix_build_int64_s68.l19 at G
      refine k_seq ?_
      refine k_rg mixed H (.v 16 (.bool (decide (x18 < a0))) <| .nil) fun u20 a w' H => ?_
      replace H := H.kp [0, 1, 5, 6, 10, 11, 14, 15, 16, 36, 900039, 34, 35]
      refine k_seq ?_
      refine k_cond H (by kernel_rfl) (t := decide (x18 < a0)) (by kernel_rfl) (fun c31 => ?_) (fun c31 => ?_)
      ·rw [if_pos c31] at G
       refine k_skip ?_
       refine k_seq ?_
       refine k_block ?_
       refine k_seq ?_
       refine k_rg mixed H (.v 17 (vI x18) <|
   .v 7 (vI x18) <| .nil) fun u21 a w' H => ?_
       replace H := H.kp [0, 1, 5, 6, 7, 10, 11, 14, 15, 36, 900039, 34, 35]
       replace G := gd G; obtain ⟨b23, G⟩ := G
       replace G := bnd G; obtain ⟨t24, ht24, G⟩ := G
       obtain ⟨p_t24, c_t24, y_t24⟩ := sl_get h_x17 ht24
       have P25 := ptr_of (en := enSl) (l := L_x17) (ns_of (H.at (K := nsK 32 2 1 en_i64 p_x17 L_x17.length c_x17 L_x17 L_x17) 900039 (by kernel_rfl))).row.2 enSl_len
       replace G := bnd G; obtain ⟨t26, ht26, G⟩ := G
       replace G := gd G; obtain ⟨b27, G⟩ := G
       replace G := gd G; obtain ⟨b28, G⟩ := G
       replace G := bnd G; obtain ⟨t29, ht29, G⟩ := G
       obtain ⟨p_t29, c_t29, y_t29⟩ := sl_get h_x17 ht29
       refine k_rg mixed H (.v 18 (.slice p_x17 L_x17.length c_x17) <|
   .v 19 (vI x9) <|
   .v 20 (.slice p_x17 L_x17.length c_x17) <|
   .v 21 (vI x9) <|
   .cons [22] (ok_val (fun u22 => .pointer (some ⟨hdB p_x17, hdO p_x17 + x9.toNat * 1, none⟩)) 22 (hv := fun _ _ => ix_pure (t := 30) (k := .i64) (i := x9) (p := p_x17) (n := L_x17.length) (cap := c_x17) (x := x17) P25 (map_len h_x17) b23 (by kernel_rfl))) <|
   .cons [23] (ok_valL [900039] (fun u22 => [nsK 32 2 1 en_i64 p_x17 L_x17.length c_x17 L_x17 L_x17]) (fun u22 => .slice p_t24 t24.length c_t24) (fun u22 => true) [true] 23 (fun u22 w hg hF => ld_row (en := enSl) (ns_of hF.1).row.2 enSl_len y_t24 0 1 [.slice p_t24 t24.length c_t24] rfl (by kernel_rfl))) <|
   .v 24 (.func (.func 68) #[] #[vP b_a1_0 0]) <|
   .v 25 (vI x9) <|
   .v 26 (vI x18) <|
   .cons [27] (ok_callL [36, 35, 34] (fun u22 => [rdl anyF 6 p_a1_0_0_columns c_a1_0_0_columns a1_0_0.columns en_TA6_Int, bxK b_a1_0_0 [vI a1_0_0.n, .slice p_a1_0_0_columns a1_0_0.columns.length c_a1_0_0_columns] 84, bxK b_a1_0 [vP b_a1_0_0 0] 82]) 68 (fun u22 => #[vI x9, vI x18, vP b_a1_0 0]) (vI t26) 27 (fun u22 w hF => matrix_Orthogonalize_1_m.calls x9 x18 (⟨a1_0_0.n, a1_0_0.columns⟩ : Tbasis) b_a1_0 b_a1_0_0 p_a1_0_0_columns c_a1_0_0_columns t26 w  ⟨(rdA (rdF_of hF.1)), (bx_fact (hF.2.1 w (agree.refl _ _)) 0).2.1, (bx_fact (hF.2.2.1 w (agree.refl _ _)) 0).2.1, trivial⟩ ht26)) <|
   .cons [28, 40] (ok_new (fun b => .slice (some ⟨b, 0, none⟩) 1 1) (fun u22 => [vI t26]) 2 28 40) <|
   .cons [29, 900039, 900039] (ok_own1 [10] [40] (fun u22 => [.blk ((u22 10).n 0) [vI t26] 2]) 900039 (fun u22 => nsK 32 2 1 en_i64 p_x17 L_x17.length c_x17 L_x17 L_x17) (some 29) (fun u22 g => .slice (g.o 0) (t24 ++ [t26]).length (g.n 0)) (fun u22 g => nsK 32 2 1 en_i64 p_x17 L_x17.length c_x17 L_x17 (L_x17.set x9.toNat (⟨(g.o 0), (g.n 0), (t24 ++ [t26])⟩ : Sl Int))) (fun u22 w hF hK => tn_app hK y_t24 (l' := (t24 ++ [t26])) (fun h => run_app_rowN (t := 32) (ty := 32) (en := en_i64) en_i64_len inf2 h hF.1 (news := [t26]) rfl (by simp) (by kernel_rfl) b27)) (hloc := fun u u' h => ⟨by first | rfl | simp only [h 10 (by decide)], by first | rfl | simp only [h 10 (by decide)], by first | rfl | simp only [h 10 (by decide)], by first | rfl | simp only [h 10 (by decide)]⟩)) <|
   .cons [30] (ok_val (fun u22 => .pointer (some ⟨hdB p_x17, hdO p_x17 + x9.toNat * 1, none⟩)) 30 (hv := fun _ _ => ix_pure (t := 30) (k := .i64) (i := x9) (p := p_x17) (n := L_x17.length) (cap := c_x17) (x := x17) P25 (map_len h_x17) b28 (by kernel_rfl))) <|
   .cons [900039, 900039] (ok_own1 [11] [] (fun u22 => []) 900039 (fun u22 => nsK 32 2 1 en_i64 p_x17 L_x17.length c_x17 L_x17 (L_x17.set x9.toNat (⟨((u22 11).o 0), ((u22 11).n 0), (t24 ++ [t26])⟩ : Sl Int))) none (fun u22 g => .nilFunc) (fun u22 g => nsK 32 2 1 en_i64 p_x17 L_x17.length c_x17 (L_x17.set x9.toNat (⟨((u22 11).o 0), ((u22 11).n 0), (t24 ++ [t26])⟩ : Sl Int)) (L_x17.set x9.toNat (⟨((u22 11).o 0), ((u22 11).n 0), (t24 ++ [t26])⟩ : Sl Int))) (fun u22 w hF hK => tn_hd hK (fun h => el_storeN (en := enSl) h enSl_len (y := (⟨((u22 11).o 0), ((u22 11).n 0), (t24 ++ [t26])⟩ : Sl Int)) (vs := [.slice ((u22 11).o 0) ((t24 ++ [t26]).length) ((u22 11).n 0)]) y_t29 0 (by simp) (by simp) rfl (by kernel_rfl))) (hloc := fun u u' h => ⟨by first | rfl | simp only [h 11 (by decide)], by first | rfl | simp only [h 11 (by decide)], by first | rfl | simp only [h 11 (by decide)], by first | rfl | simp only [h 11 (by decide)]⟩)) <| .nil) fun u22 a w' H => ?_
       replace H := H.kp [0, 1, 5, 6, 10, 11, 14, 15, 36, 900039, 34, 35]
       refine k_rg mixed H (.v 31 (vI (w_i64 (x18 + 1))) <|
   .v 15 (vI (w_i64 (x18 + 1))) <| .nil) fun u30 a w' H => ?_
       replace H := H.kp [0, 1, 5, 6, 10, 11, 14, 15, 36, 900039, 34, 35]
       exact ⟨k, Nat.lt_succ_self k, _, _, G, p_x17, c_x17, L_x17.length, (L_x17.set x9.toNat (⟨((u22 11).o 0), ((u22 11).n 0), (t24 ++ [t26])⟩ : Sl Int)), by simp, (map_set h_x17 x9.toNat (⟨((u22 11).o 0), ((u22 11).n 0), (t24 ++ [t26])⟩ : Sl Int)), H.toL _ (by kernel_rfl)⟩
      ·rw [if_neg (nt c31)] at G
       refine k_exit rfl ?_
       obtain rfl := Option.some.inj G
       replace H := H.move (K := nsK 32 2 1 en_i64 p_x17 L_x17.length c_x17 L_x17 L_x17) 900039 900037 (by kernel_rfl) (by intro _ _ h; cases h)
       exact ⟨p_x17, c_x17, L_x17.length, L_x17, rfl, h_x17, H.toL _ (by kernel_rfl)⟩
   ·rw [if_neg (nt c32)] at G
    refine k_exit rfl ?_
    obtain rfl := Option.some.inj G
    replace H := H.move (K := nsK 32 2 1 en_i64 p_x8 L_x8.length c_x8 L_x8 L_x8) 900035 900033 (by kernel_rfl) (by intro _ _ h; cases h)
    exact ⟨p_x8, c_x8, L_x8.length, L_x8, rfl, h_x8, H.toL _ (by kernel_rfl)⟩
set_option maxHeartbeats 4000000 in
theorem matrix_Orthogonalize.calls (k0 : Nat) (a0 : List (List Int)) (p_a0 : Option Addr) (c_a0 : Nat) (L_a0 : List (Sl Int)) (r : List (List Int)) (w : World) (h_a0 : a0 = L_a0.map Sl.l) (hB : AllH [rdl anyF 1 p_a0 c_a0 L_a0 enSl, dnK anyF E_S_i64.toPart L_a0] w) (G : matrix_Orthogonalize k0 a0 = some r) :
  Calls Tryd.prog 30 #[.slice p_a0 L_a0.length c_a0] w fun e w' => ∃ g : Gh, e = .returned (.slice (g.o 0) ((g.dl Sl.l gd_S_i64 0 r).length) (g.n 0)) ∧ But (fpK []) w w' ∧ OutOK w.heap.size (fpK []) (frI w.heap.size []) [fun _ => nsK 32 2 1 en_i64 (g.o 0) ((g.dl Sl.l gd_S_i64 0 r).length) (g.n 0) (g.dl Sl.l gd_S_i64 0 r) (g.dl Sl.l gd_S_i64 0 r)] w' := by
 obtain ⟨fr, hfr⟩ : ∃ fr : Nat → Prop, fr = frI w.heap.size [] := ⟨_, rfl⟩
 have hBf : ∀ j, w.heap.size ≤ j → fr j := fun j h => by rw [hfr]; exact .inl h
 refine k_enterF (args := [.slice p_a0 L_a0.length c_a0]) 55 [(55, rdl anyF 1 p_a0 c_a0 L_a0 enSl), (56, dnK anyF E_S_i64.toPart L_a0)] (by
  intro x hx
  simp only [List.mem_cons, List.not_mem_nil, or_false] at hx
  rcases hx with rfl | rfl
  ·exact rdF_fact (rdF_of hB.1) (fun _ _ => trivial) (by decide) _
  ·exact dn_fact (dn_of hB.2.1) (fun _ _ => trivial) _) Tryd.func30 rfl (by kernel_rfl) (by kernel_rfl) fun a H => ?_
 unfold matrix_Orthogonalize at G
 refine k_seq ?_
 refine k_rg mixed H (.v 2 (.slice none 0 0) <| .nil) fun u1 a w' H => ?_
 replace H := H.kp [0, 55, 56]
 refine k_seq ?_
 refine k_rg mixed H (.v 10 (.slice p_a0 L_a0.length c_a0) <|
   .cons [11] (ok_valL [55] (fun u2 => [rdl anyF 1 p_a0 c_a0 L_a0 enSl]) (fun u2 => vI (a0.length : Int)) (fun u2 => true) [true] 11 (fun u2 w hg hF => run_lenN (((rdF_of hF.1).2.len enSl_len (by decide)).trans (map_len h_a0).symm) (by kernel_rfl))) <|
   .v 3 (vI (a0.length : Int)) <| .nil) fun u2 a w' H => ?_
 replace H := H.kp [0, 3, 55, 56]
 refine k_seq ?_
 replace G := gd G; obtain ⟨b4, G⟩ := G
 refine k_rg mixed H (.v 12 (vI (a0.length : Int)) <|
   .cons [13, 57] (ok_rowL [] (fun u3 => []) 81 6 (List.replicate (a0.length : Int).toNat (⟨0, 0, 0, 0, 0, 0⟩ : TA6_Int)).length ((List.replicate (a0.length : Int).toNat (⟨0, 0, 0, 0, 0, 0⟩ : TA6_Int)).flatMap en_TA6_Int) 13 57 (fun _ => .none) (fun u3 w hF => run_make_row (t := 79) (k := .i64) (m := (a0.length : Int)) (en := en_TA6_Int) (z := (⟨0, 0, 0, 0, 0, 0⟩ : TA6_Int)) en_TA6_Int_len inf81 rfl b4 (by kernel_rfl)) (fun _ => .inl rfl)) <|
   .cons [4] (ok_val (fun u3 => .slice ((u3 1).o 0) ((List.replicate (a0.length : Int).toNat (⟨0, 0, 0, 0, 0, 0⟩ : TA6_Int)).length) ((u3 1).n 0)) 4) <| .nil) fun u3 a w' H => ?_
 replace H := H.kp [0, 3, 4, 55, 56, 57]
 refine k_seq ?_
 replace G := bnd G; obtain ⟨j6, hj6, G⟩ := G
 refine k_join (fun a w' => ∃ (p_j5 : Option Addr) (c_j5 np_j5 : Nat), np_j5 = j6.length ∧ Rep w.heap.size w 55 (ofL [(0, sS p_a0 L_a0.length c_a0), (3, (sI (a0.length : Int))), (4, sS p_j5 np_j5 c_j5), (55, rdl anyF 1 p_a0 c_a0 L_a0 enSl), (56, dnK anyF E_S_i64.toPart L_a0), (900041, owK 81 6 p_j5 np_j5 c_j5 (j6.flatMap en_TA6_Int))]) a w') ?_ ?_
 ·clear H; rintro a w' ⟨p_j5, c_j5, _, rfl, H⟩
  refine k_seq ?_
  refine k_rg mixed H (.v 24 (vI (a0.length : Int)) <|
   .v 25 (.agg #[vI (a0.length : Int), .slice none 0 0]) <|
   .cons [26, 58] (ok_new (fun b => vP b 0) (fun u7 => [vI (a0.length : Int), .slice none 0 0]) 84 26 58) <|
   .cons [6, 59] (ok_new (fun b => vP b 0) (fun u7 => [.pointer none]) 82 6 59) <|
   .cons [59] (ok_as (u' := fun u7 => [(59, .blk ((u7 3).n 0) [vP ((u7 2).n 0) 0] 82)]) (ok_store 59 0 (fun u7 => ((u7 3).n 0)) (fun u7 => [.pointer none]) (fun u7 => [vP ((u7 2).n 0) 0]) 82) (fun _ => by kernel_rfl)) <| .nil) fun u7 a w' H => ?_
  replace H := H.kp [0, 3, 4, 6, 55, 56, 58, 59, 900041]
  refine k_seq ?_
  replace G := bnd G; obtain ⟨j10, hj10, G⟩ := G
  refine k_join (fun a w' => ∃ (p_j9 : Option Addr) (c_j9 np_j9 : Nat), np_j9 = j10.2.length ∧ Rep w.heap.size w 55 (ofL [(3, (sI (a0.length : Int))), (6, (sP ((u7 3).n 0) 0)), (58, .blk ((u7 2).n 0) [vI j10.1, .slice p_j9 np_j9 c_j9] 84), (59, .blk ((u7 3).n 0) [vP ((u7 2).n 0) 0] 82), (900042, owK 81 6 p_j9 np_j9 c_j9 (j10.2.flatMap en_TA6_Int))]) a w') ?_ ?_
  ·clear H; rintro a w' ⟨p_j9, c_j9, _, rfl, H⟩
   refine k_seq ?_
   replace G := bnd G; obtain ⟨t12, ht12, G⟩ := G
   refine k_rg mixed H (.v 52 (vI (a0.length : Int)) <|
   .v 53 (.func (.func 68) #[] #[vP ((u7 3).n 0) 0]) <|
   .cons [54, 60] (ok_callY false fr [] [900042, 58, 59] (fun u11 => [owK 81 6 p_j9 j10.2.length c_j9 (j10.2.flatMap en_TA6_Int), .blk ((u7 2).n 0) [vI j10.1, .slice p_j9 j10.2.length c_j9] 84, .blk ((u7 3).n 0) [vP ((u7 2).n 0) 0] 82]) [] (fun u11 => []) 67 (fun u11 => #[vI (a0.length : Int), .func (.func 68) #[] #[vP ((u7 3).n 0) 0]]) (fun u11 => [rdl anyF 6 p_j9 c_j9 j10.2 en_TA6_Int, bxK ((u7 2).n 0) [vI j10.1, .slice p_j9 j10.2.length c_j9] 84, bxK ((u7 3).n 0) [vP ((u7 2).n 0) 0] 82]) (fun u11 => []) (fun u11 g => .slice (g.o 0) ((g.dl Sl.l gd_S_i64 0 t12).length) (g.n 0)) (fun u11 g => [fun _ => nsK 32 2 1 en_i64 (g.o 0) ((g.dl Sl.l gd_S_i64 0 t12).length) (g.n 0) (g.dl Sl.l gd_S_i64 0 t12) (g.dl Sl.l gd_S_i64 0 t12)]) [60] 54 (fun u11 w hB hF hM => matrix_build_int64_s68.calls k0 (a0.length : Int) (⟨j10.1, j10.2⟩ : Tbasis) ((u7 3).n 0) ((u7 2).n 0) p_j9 c_j9 t12 w  hB ht12) (fun u11 w hF => ⟨⟨sub_rd0 (owns_rowC (ow_of hF.1)) (fun j h => ⟨_, (.head _), (fp_own h)⟩), sub_bx hF.2.1 (.tail _ (.head _)) rfl, sub_bx hF.2.2.1 (.tail _ (.tail _ (.head _))) rfl, trivial⟩, trivial⟩) (fun u11 g => (fams_cons fam_ns fams_nil)) (.inr (fun u11 g => (famx_cons trivial (fun K h => by cases h)))) (fun h => by cases h)) <|
   .cons [2] (ok_val (fun u11 => .slice ((u11 2).o 0) (((u11 2).dl Sl.l gd_S_i64 0 t12).length) ((u11 2).n 0)) 2) <| .nil) fun u11 a w' H => ?_
   replace H := H.kp [2, 60]
   refine k_ret ?_
   obtain rfl := Option.some.inj G
   obtain ⟨g, o0, n0, d0⟩ : ∃ g : Gh, g.o 0 = ((u11 2).o 0) ∧ g.n 0 = ((u11 2).n 0) ∧ g.dl Sl.l gd_S_i64 0 t12 = ((u11 2).dl Sl.l gd_S_i64 0 t12) := ⟨⟨fun i => [((u11 2).n 0)].getD i 0, fun i => [((u11 2).o 0)].getD i none, fun i => ([⟨List (Sl Int), ((u11 2).dl Sl.l gd_S_i64 0 t12)⟩] : List ((T : Type) × T)).getD i ⟨Unit, ()⟩⟩, rfl, rfl, dl_mk rfl (dl_er ergd_S_i64 (u11 2) 0 t12)⟩
   refine k_doneZ H (fun g => .slice (g.o 0) ((g.dl Sl.l gd_S_i64 0 t12).length) (g.n 0)) g [] [] (fun g => [fun _ => nsK 32 2 1 en_i64 (g.o 0) ((g.dl Sl.l gd_S_i64 0 t12).length) (g.n 0) (g.dl Sl.l gd_S_i64 0 t12) (g.dl Sl.l gd_S_i64 0 t12)]) fr [60] [] (.slice ((u11 2).o 0) (((u11 2).dl Sl.l gd_S_i64 0 t12).length) ((u11 2).n 0)) [fun _ => nsK 32 2 1 en_i64 ((u11 2).o 0) (((u11 2).dl Sl.l gd_S_i64 0 t12).length) ((u11 2).n 0) ((u11 2).dl Sl.l gd_S_i64 0 t12) ((u11 2).dl Sl.l gd_S_i64 0 t12)] (by simp only [o0, n0, d0]) (by simp only [o0, n0, d0]) hfr (.inl ⟨rfl, rfl⟩) (fams_cons fam_ns fams_nil) (by simp)
  ·clear G; replace G := hj10; clear hj10
   refine k_seq ?_
   refine k_rg mixed H (.v 27 (vI (a0.length : Int)) <|
   .v 28 (vI 0) <| .nil) fun u13 a w' H => ?_
   replace H := H.kp [0, 3, 4, 6, 27, 28, 55, 56, 58, 59, 900041]
   refine k_block ?_
   replace H := H.nil_row 67 81 6
   replace H := H.move (K := owK 81 6 none 0 0 (([] : List TA6_Int).flatMap en_TA6_Int)) 67 900043 (by kernel_rfl) (by intro _ _ h; cases h)
   refine k_loopJ (fun m a w' => ∃ x14 : Int, ∃ x15 : List TA6_Int, ∃ x16 : Int, matrix_Orthogonalize.l17 k0 a0 j6 m x14 x15 x16 = some j10 ∧ ∃ (p_x15 : Option Addr) (c_x15 np_x15 : Nat), np_x15 = x15.length ∧ Rep w.heap.size w 55 (ofL [(0, sS p_a0 L_a0.length c_a0), (3, (sI (a0.length : Int))), (4, sS p_j5 j6.length c_j5), (6, (sP ((u7 3).n 0) 0)), (27, (sI (a0.length : Int))), (28, sI x16), (55, rdl anyF 1 p_a0 c_a0 L_a0 enSl), (56, dnK anyF E_S_i64.toPart L_a0), (58, .blk ((u7 2).n 0) [vI x14, .slice p_x15 np_x15 c_x15] 84), (59, .blk ((u7 3).n 0) [vP ((u7 2).n 0) 0] 82), (900041, owK 81 6 p_j5 j6.length c_j5 (j6.flatMap en_TA6_Int)), (900043, owK 81 6 p_x15 np_x15 c_x15 (x15.flatMap en_TA6_Int))]) a w') k0 ⟨_, _, _, G, none, 0, 0, rfl, H.toL _ (by kernel_rfl)⟩ ?_
   clear G H
   rintro (_ | k) a w' ⟨x14, x15, x16, G, p_x15, c_x15, _, rfl, H⟩
   ·exact absurd G (by unfold matrix_Orthogonalize.l17; exact fun h => by cases h)
   ·unfold matrix_Orthogonalize.l17 at G
    refine k_seq ?_
    refine k_rg mixed H (.v 29 (.bool (decide (x16 < (a0.length : Int)))) <| .nil) fun u18 a w' H => ?_
    replace H := H.kp [0, 3, 4, 6, 27, 28, 29, 55, 56, 58, 59, 900041, 900043]
    refine k_seq ?_
    refine k_cond H (by kernel_rfl) (t := decide (x16 < (a0.length : Int))) (by kernel_rfl) (fun c89 => ?_) (fun c89 => ?_)
    ·rw [if_pos c89] at G
     refine k_skip ?_
     refine k_seq ?_
     replace G := bnd G; obtain ⟨j21, hj21, G⟩ := G
     refine k_join (fun a w' => ∃ (p_j20 : Option Addr) (c_j20 np_j20 : Nat), np_j20 = j21.2.length ∧ Rep w.heap.size w 55 (ofL [(0, sS p_a0 L_a0.length c_a0), (3, (sI (a0.length : Int))), (4, sS p_j5 j6.length c_j5), (6, (sP ((u7 3).n 0) 0)), (27, (sI (a0.length : Int))), (28, sI x16), (55, rdl anyF 1 p_a0 c_a0 L_a0 enSl), (56, dnK anyF E_S_i64.toPart L_a0), (58, .blk ((u7 2).n 0) [vI j21.1, .slice p_j20 np_j20 c_j20] 84), (59, .blk ((u7 3).n 0) [vP ((u7 2).n 0) 0] 82), (900041, owK 81 6 p_j5 j6.length c_j5 (j6.flatMap en_TA6_Int)), (900044, owK 81 6 p_j20 np_j20 c_j20 (j21.2.flatMap en_TA6_Int))]) a w') ?_ ?_
     ·clear H; rintro a w' ⟨p_j20, c_j20, _, rfl, H⟩
      refine k_rg mixed H (.v 51 (vI (w_i64 (x16 + 1))) <|
   .v 28 (vI (w_i64 (x16 + 1))) <| .nil) fun u22 a w' H => ?_
      replace H := H.kp [0, 3, 4, 6, 27, 28, 55, 56, 58, 59, 900041, 900044]
      replace H := H.move (K := owK 81 6 p_j20 j21.2.length c_j20 (j21.2.flatMap en_TA6_Int)) 900044 900043 (by kernel_rfl) (by intro _ _ h; cases h)
      exact ⟨k, Nat.lt_succ_self k, _, _, _, G, p_j20, c_j20, j21.2.length, rfl, H.toL _ (by kernel_rfl)⟩
     ·clear G; replace G := hj21; clear hj21
      refine k_block ?_
      refine k_seq ?_
      refine k_rg mixed H (.v 30 (vI x16) <|
   .v 7 (vI x16) <| .nil) fun u23 a w' H => ?_
      replace H := H.kp [0, 3, 4, 6, 7, 27, 28, 55, 56, 58, 59, 900041, 900043]
      refine k_seq ?_
      refine k_rg mixed H (.cons [8, 62] (ok_new (fun b => vP b 0) (fun u24 => [vI 0, vI 0, vI 0, vI 0, vI 0, vI 0]) 81 8 62) <| .nil) fun u24 a w' H => ?_
      replace H := H.kp [0, 3, 4, 6, 7, 8, 27, 28, 55, 56, 58, 59, 62, 900041, 900043]
      refine k_seq ?_
      replace G := bnd G; obtain ⟨j31, hj31, G⟩ := G
      refine k_join (fun a w' => Rep w.heap.size w 55 (ofL [(0, sS p_a0 L_a0.length c_a0), (3, (sI (a0.length : Int))), (4, sS p_j5 j6.length c_j5), (6, (sP ((u7 3).n 0) 0)), (8, (sP ((u24 0).n 0) 0)), (27, (sI (a0.length : Int))), (28, sI x16), (55, rdl anyF 1 p_a0 c_a0 L_a0 enSl), (56, dnK anyF E_S_i64.toPart L_a0), (58, .blk ((u7 2).n 0) [vI x14, .slice p_x15 x15.length c_x15] 84), (59, .blk ((u7 3).n 0) [vP ((u7 2).n 0) 0] 82), (62, .blk ((u24 0).n 0) [vI j31.1, vI j31.2.1, vI j31.2.2.1, vI j31.2.2.2.1, vI j31.2.2.2.2.1, vI j31.2.2.2.2.2] 81), (900041, owK 81 6 p_j5 j6.length c_j5 (j6.flatMap en_TA6_Int)), (900043, owK 81 6 p_x15 x15.length c_x15 (x15.flatMap en_TA6_Int))]) a w') ?_ ?_
      ·clear H; intro a w' H
       replace G := gd G; obtain ⟨b33, G⟩ := G
       replace G := bnd G; obtain ⟨t34, ht34, G⟩ := G
       refine k_regT mixed H (.cons [45] (ok_ld (fun u32 => vP ((u7 2).n 0) 0) 45 59 0 1 (fun u32 => ((u7 3).n 0)) (fun u32 => [vP ((u7 2).n 0) 0]) 82) <|
   .cons [46] (ok_ld (fun u32 => .agg #[vI j31.1, vI j31.2.1, vI j31.2.2.1, vI j31.2.2.2.1, vI j31.2.2.2.2.1, vI j31.2.2.2.2.2]) 46 62 0 6 (fun u32 => ((u24 0).n 0)) (fun u32 => [vI j31.1, vI j31.2.1, vI j31.2.2.1, vI j31.2.2.2.1, vI j31.2.2.2.2.1, vI j31.2.2.2.2.2]) 81) <|
   .cons [47, 63] (ok_blkrow 6 1 (ok_new (fun b => .slice (some ⟨b, 0, none⟩) 1 1) (fun u32 => [vI j31.1, vI j31.2.1, vI j31.2.2.1, vI j31.2.2.2.1, vI j31.2.2.2.2.1, vI j31.2.2.2.2.2]) 81 47 63) (fun _ => rfl) (by decide)) <|
   .v 48 (.slice p_j5 j6.length c_j5) <|
   .cons [49, 63, 63] (ok_own1 [2] [900041] (fun u32 => [owK 81 6 p_j5 j6.length c_j5 (j6.flatMap en_TA6_Int)]) 63 (fun u32 => owK 81 6 (some ⟨((u32 2).n 0), 0, none⟩) 1 1 (([(⟨j31.1, j31.2.1, j31.2.2.1, j31.2.2.2.1, j31.2.2.2.2.1, j31.2.2.2.2.2⟩ : TA6_Int)] : List TA6_Int).flatMap en_TA6_Int)) (some 49) (fun u32 g => .slice (g.o 0) (([(⟨j31.1, j31.2.1, j31.2.2.1, j31.2.2.2.1, j31.2.2.2.2.1, j31.2.2.2.2.2⟩ : TA6_Int)] : List TA6_Int) ++ j6).length (g.n 0)) (fun u32 g => owK 81 6 (g.o 0) ((([(⟨j31.1, j31.2.1, j31.2.2.1, j31.2.2.2.1, j31.2.2.2.2.1, j31.2.2.2.2.2⟩ : TA6_Int)] : List TA6_Int) ++ j6).length) (g.n 0) ((([(⟨j31.1, j31.2.1, j31.2.2.1, j31.2.2.2.1, j31.2.2.2.2.1, j31.2.2.2.2.2⟩ : TA6_Int)] : List TA6_Int) ++ j6).flatMap en_TA6_Int)) (fun u32 w hF hK => tv_app (run_app_rowsN (t := 79) (ty := 79) (en := en_TA6_Int) (m := j6) (p2 := p_j5) (n2 := j6.length) (cap2 := c_j5) en_TA6_Int_len (fun _ => rfl) inf81 (ow_of hK) (owns_rowC (ow_of hF.1)).2 b33 (by kernel_rfl))) (hloc := fun u u' h => ⟨by first | rfl | simp only [h 2 (by decide)], by first | rfl | simp only [h 2 (by decide)], by first | rfl | simp only [h 2 (by decide)], by first | rfl | simp only [h 2 (by decide)]⟩)) <|
   .cons [50, 900043, 58, 64, 58] (ok_callY false fr [4] [63] (fun u32 => [owK 81 6 ((u32 4).o 0) ((([(⟨j31.1, j31.2.1, j31.2.2.1, j31.2.2.2.1, j31.2.2.2.2.1, j31.2.2.2.2.2⟩ : TA6_Int)] : List TA6_Int) ++ j6).length) ((u32 4).n 0) ((([(⟨j31.1, j31.2.1, j31.2.2.1, j31.2.2.2.1, j31.2.2.2.2.1, j31.2.2.2.2.2⟩ : TA6_Int)] : List TA6_Int) ++ j6).flatMap en_TA6_Int)]) [900043, 58] (fun u32 => [owK 81 6 p_x15 x15.length c_x15 (x15.flatMap en_TA6_Int), .blk ((u7 2).n 0) [vI x14, .slice p_x15 x15.length c_x15] 84]) 66 (fun u32 => #[vP ((u7 2).n 0) 0, .slice ((u32 4).o 0) ((([(⟨j31.1, j31.2.1, j31.2.2.1, j31.2.2.2.1, j31.2.2.2.2.1, j31.2.2.2.2.2⟩ : TA6_Int)] : List TA6_Int) ++ j6).length) ((u32 4).n 0)]) (fun u32 => [rdF anyF 6 ((u32 4).o 0) ((([(⟨j31.1, j31.2.1, j31.2.2.1, j31.2.2.2.1, j31.2.2.2.2.1, j31.2.2.2.2.2⟩ : TA6_Int)] : List TA6_Int) ++ j6).length) ((u32 4).n 0) ((([(⟨j31.1, j31.2.1, j31.2.2.1, j31.2.2.2.1, j31.2.2.2.2.1, j31.2.2.2.2.2⟩ : TA6_Int)] : List TA6_Int) ++ j6).flatMap en_TA6_Int)]) (fun u32 => []) (fun u32 g => .tuple #[]) (fun u32 g => [fun _ => owK 81 6 (g.o 0) t34.2.length (g.n 0) (t34.2.flatMap en_TA6_Int), fun _ => .blk ((u7 2).n 0) [vI t34.1, .slice (g.o 0) t34.2.length (g.n 0)] 84]) [64, 58] 50 (fun u32 w hB hF hM => matrix_basis_extend_m.calls k0 x14 x15 (([(⟨j31.1, j31.2.1, j31.2.2.1, j31.2.2.2.1, j31.2.2.2.2.1, j31.2.2.2.2.2⟩ : TA6_Int)] : List TA6_Int) ++ j6) ((u7 2).n 0) p_x15 c_x15 ((u32 4).o 0) ((u32 4).n 0) t34 w  hB hM ht34) (fun u32 w hF => ⟨⟨sub_rd0 (owns_rowC (ow_of hF.1)) (fun j h => ⟨_, (.head _), (fp_own h)⟩), trivial⟩, trivial⟩) (fun u32 g => (fams_cons fam_ow (fams_cons fam_blk fams_nil))) (.inr (fun u32 g => (famx_cons trivial (famx_cons trivial (fun K h => by cases h))))) (fun h => by cases h) (hloc := fun u u' h => ⟨by first | rfl | simp only [h 4 (by decide)], by first | rfl | simp only [h 4 (by decide)], by first | rfl | simp only [h 4 (by decide)], by first | rfl | simp only [h 4 (by decide)], by first | rfl | simp only [h 4 (by decide)], by first | rfl | simp only [h 4 (by decide)]⟩)) <| .nil) (by kernel_rfl) fun u32 a w' H => ?_
       replace H := H.kp [0, 3, 4, 6, 27, 28, 55, 56, 58, 59, 64, 900041]
       obtain rfl := Option.some.inj G
       replace H := H.move (K := owK 81 6 ((u32 5).o 0) t34.2.length ((u32 5).n 0) (t34.2.flatMap en_TA6_Int)) 64 900044 (by kernel_rfl) (by intro _ _ h; cases h)
       exact ⟨((u32 5).o 0), ((u32 5).n 0), t34.2.length, rfl, H.toL _ (by kernel_rfl)⟩
      ·clear G; replace G := hj31; clear hj31
       refine k_seq ?_
       refine k_rg mixed H (.v 31 (vI (a0.length : Int)) <|
   .v 32 (vI 0) <| .nil) fun u35 a w' H => ?_
       replace H := H.kp [0, 3, 4, 6, 7, 8, 27, 28, 31, 32, 55, 56, 58, 59, 62, 900041, 900043]
       refine k_block ?_
       refine k_loopJ (fun m a w' => ∃ x36 : Int, ∃ x37 : Int, ∃ x38 : Int, ∃ x39 : Int, ∃ x40 : Int, ∃ x41 : Int, ∃ x42 : Int, matrix_Orthogonalize.l43 k0 a0 j6 x14 x15 x16 m x36 x37 x38 x39 x40 x41 x42 = some j31 ∧ Rep w.heap.size w 55 (ofL [(0, sS p_a0 L_a0.length c_a0), (3, (sI (a0.length : Int))), (4, sS p_j5 j6.length c_j5), (6, (sP ((u7 3).n 0) 0)), (7, sI x16), (8, (sP ((u24 0).n 0) 0)), (27, (sI (a0.length : Int))), (28, sI x16), (31, (sI (a0.length : Int))), (32, sI x42), (55, rdl anyF 1 p_a0 c_a0 L_a0 enSl), (56, dnK anyF E_S_i64.toPart L_a0), (58, .blk ((u7 2).n 0) [vI x14, .slice p_x15 x15.length c_x15] 84), (59, .blk ((u7 3).n 0) [vP ((u7 2).n 0) 0] 82), (62, .blk ((u24 0).n 0) [vI x36, vI x37, vI x38, vI x39, vI x40, vI x41] 81), (900041, owK 81 6 p_j5 j6.length c_j5 (j6.flatMap en_TA6_Int)), (900043, owK 81 6 p_x15 x15.length c_x15 (x15.flatMap en_TA6_Int))]) a w') k0 ⟨_, _, _, _, _, _, _, G, H.toL _ (by kernel_rfl)⟩ ?_
       clear G H
       rintro (_ | k) a w' ⟨x36, x37, x38, x39, x40, x41, x42, G, H⟩
       ·exact absurd G (by unfold matrix_Orthogonalize.l43; exact fun h => by cases h)
       ·unfold matrix_Orthogonalize.l43 at G
        refine k_seq ?_
        refine k_rg mixed H (.v 33 (.bool (decide (x42 < (a0.length : Int)))) <| .nil) fun u44 a w' H => ?_
        replace H := H.kp [0, 3, 4, 6, 7, 8, 27, 28, 31, 32, 33, 55, 56, 58, 59, 62, 900041, 900043]
        refine k_seq ?_
        refine k_cond H (by kernel_rfl) (t := decide (x42 < (a0.length : Int))) (by kernel_rfl) (fun c88 => ?_) (fun c88 => ?_)
        ·rw [if_pos c88] at G
         refine k_skip ?_
         refine k_seq ?_
         refine k_block ?_
         refine k_seq ?_
         refine k_rg mixed H (.v 34 (vI x42) <|
   .v 9 (vI x42) <| .nil) fun u45 a w' H => ?_
         replace H := H.kp [0, 3, 4, 6, 7, 8, 9, 27, 28, 31, 32, 55, 56, 58, 59, 62, 900041, 900043]
         by_cases c82 : x42 = 0
         ·rw [if_pos c82] at G; subst c82
          replace G := gd G; obtain ⟨b47, G⟩ := G
          replace G := bnd G; obtain ⟨t48, ht48, G⟩ := G
          obtain ⟨p_t48, c_t48, y_t48⟩ := sl_get h_a0 ht48
          replace G := gd G; obtain ⟨b49, G⟩ := G
          replace G := bnd G; obtain ⟨t50, ht50, G⟩ := G
          refine k_rg mixed H (.v 35 (vI 0) <|
   .v 36 (.slice p_a0 L_a0.length c_a0) <|
   .v 37 (vI 0) <|
   .cons [38] (ok_valL [55] (fun u46 => [rdl anyF 1 p_a0 c_a0 L_a0 enSl]) (fun u46 => .pointer (some ⟨hdB p_a0, hdO p_a0 + ((0 : Int).toNat) * 1, none⟩)) (fun u46 => true) [true, true] 38 (fun u46 w hg hF => ix_row (t := 30) (k := .i64) (i := (0 : Int)) (p := p_a0) (n := L_a0.length) (cap := c_a0) (x := a0) (en := enSl) (rdF_of hF.1).2 enSl_len (map_len h_a0) b47 (by kernel_rfl))) <|
   .cons [39] (ok_valL [55] (fun u46 => [rdl anyF 1 p_a0 c_a0 L_a0 enSl]) (fun u46 => .slice p_t48 t48.length c_t48) (fun u46 => true) [true] 39 (fun u46 w hg hF => ld_row (en := enSl) (rdF_of hF.1).2 enSl_len y_t48 0 1 [.slice p_t48 t48.length c_t48] rfl (by kernel_rfl))) <|
   .v 40 (vI x16) <|
   .cons [41] (ok_valL [56] (fun u46 => [dnK anyF E_S_i64.toPart L_a0]) (fun u46 => .pointer (some ⟨hdB p_t48, hdO p_t48 + x16.toNat * 1, none⟩)) (fun u46 => true) [true, true] 41 (fun u46 w hg hF => ix_row (t := 32) (k := .i64) (i := x16) (p := p_t48) (n := t48.length) (cap := c_t48) (x := t48) (en := en_i64) (show RowC _ 1 p_t48 t48.length c_t48 (t48.flatMap en_i64) from ((dn_of hF.1) _ (List.mem_of_getElem? y_t48)).1).2 en_i64_len rfl b49 (by kernel_rfl))) <|
   .cons [42] (ok_valL [56] (fun u46 => [dnK anyF E_S_i64.toPart L_a0]) (fun u46 => vI t50) (fun u46 => true) [true] 42 (fun u46 w hg hF => ld_row (en := en_i64) (show RowC _ 1 p_t48 t48.length c_t48 (t48.flatMap en_i64) from ((dn_of hF.1) _ (List.mem_of_getElem? y_t48)).1).2 en_i64_len ht50 0 1 [vI t50] rfl (by kernel_rfl))) <|
   .v 43 (vP ((u24 0).n 0) 0) <|
   .cons [62] (ok_as (u' := fun u46 => [(62, .blk ((u24 0).n 0) [vI t50, vI x37, vI x38, vI x39, vI x40, vI x41] 81)]) (ok_store 62 0 (fun u46 => ((u24 0).n 0)) (fun u46 => [vI x36, vI x37, vI x38, vI x39, vI x40, vI x41]) (fun u46 => [vI t50]) 81) (fun _ => by kernel_rfl)) <| .nil) fun u46 a w' H => ?_
          replace H := H.kp [0, 3, 4, 6, 7, 8, 27, 28, 31, 32, 55, 56, 58, 59, 62, 900041, 900043]
          refine k_rg mixed H (.v 44 (vI (w_i64 (0 + 1))) <|
   .v 32 (vI (w_i64 (0 + 1))) <| .nil) fun u51 a w' H => ?_
          replace H := H.kp [0, 3, 4, 6, 7, 8, 27, 28, 31, 32, 55, 56, 58, 59, 62, 900041, 900043]
          exact ⟨k, Nat.lt_succ_self k, _, _, _, _, _, _, _, G, H.toL _ (by kernel_rfl)⟩
         rw [if_neg c82] at G
         by_cases c83 : x42 = 1
         ·rw [if_pos c83] at G; subst c83
          replace G := gd G; obtain ⟨b53, G⟩ := G
          replace G := bnd G; obtain ⟨t54, ht54, G⟩ := G
          obtain ⟨p_t54, c_t54, y_t54⟩ := sl_get h_a0 ht54
          replace G := gd G; obtain ⟨b55, G⟩ := G
          replace G := bnd G; obtain ⟨t56, ht56, G⟩ := G
          refine k_rg mixed H (.v 35 (vI 1) <|
   .v 36 (.slice p_a0 L_a0.length c_a0) <|
   .v 37 (vI 1) <|
   .cons [38] (ok_valL [55] (fun u52 => [rdl anyF 1 p_a0 c_a0 L_a0 enSl]) (fun u52 => .pointer (some ⟨hdB p_a0, hdO p_a0 + ((1 : Int).toNat) * 1, none⟩)) (fun u52 => true) [true, true] 38 (fun u52 w hg hF => ix_row (t := 30) (k := .i64) (i := (1 : Int)) (p := p_a0) (n := L_a0.length) (cap := c_a0) (x := a0) (en := enSl) (rdF_of hF.1).2 enSl_len (map_len h_a0) b53 (by kernel_rfl))) <|
   .cons [39] (ok_valL [55] (fun u52 => [rdl anyF 1 p_a0 c_a0 L_a0 enSl]) (fun u52 => .slice p_t54 t54.length c_t54) (fun u52 => true) [true] 39 (fun u52 w hg hF => ld_row (en := enSl) (rdF_of hF.1).2 enSl_len y_t54 0 1 [.slice p_t54 t54.length c_t54] rfl (by kernel_rfl))) <|
   .v 40 (vI x16) <|
   .cons [41] (ok_valL [56] (fun u52 => [dnK anyF E_S_i64.toPart L_a0]) (fun u52 => .pointer (some ⟨hdB p_t54, hdO p_t54 + x16.toNat * 1, none⟩)) (fun u52 => true) [true, true] 41 (fun u52 w hg hF => ix_row (t := 32) (k := .i64) (i := x16) (p := p_t54) (n := t54.length) (cap := c_t54) (x := t54) (en := en_i64) (show RowC _ 1 p_t54 t54.length c_t54 (t54.flatMap en_i64) from ((dn_of hF.1) _ (List.mem_of_getElem? y_t54)).1).2 en_i64_len rfl b55 (by kernel_rfl))) <|
   .cons [42] (ok_valL [56] (fun u52 => [dnK anyF E_S_i64.toPart L_a0]) (fun u52 => vI t56) (fun u52 => true) [true] 42 (fun u52 w hg hF => ld_row (en := en_i64) (show RowC _ 1 p_t54 t54.length c_t54 (t54.flatMap en_i64) from ((dn_of hF.1) _ (List.mem_of_getElem? y_t54)).1).2 en_i64_len ht56 0 1 [vI t56] rfl (by kernel_rfl))) <|
   .v 43 (vP ((u24 0).n 0) 1) <|
   .cons [62] (ok_as (u' := fun u52 => [(62, .blk ((u24 0).n 0) [vI x36, vI t56, vI x38, vI x39, vI x40, vI x41] 81)]) (ok_store 62 1 (fun u52 => ((u24 0).n 0)) (fun u52 => [vI x36, vI x37, vI x38, vI x39, vI x40, vI x41]) (fun u52 => [vI t56]) 81) (fun _ => by kernel_rfl)) <| .nil) fun u52 a w' H => ?_
          replace H := H.kp [0, 3, 4, 6, 7, 8, 27, 28, 31, 32, 55, 56, 58, 59, 62, 900041, 900043]
          refine k_rg mixed H (.v 44 (vI (w_i64 (1 + 1))) <|
   .v 32 (vI (w_i64 (1 + 1))) <| .nil) fun u57 a w' H => ?_
          replace H := H.kp [0, 3, 4, 6, 7, 8, 27, 28, 31, 32, 55, 56, 58, 59, 62, 900041, 900043]
          exact ⟨k, Nat.lt_succ_self k, _, _, _, _, _, _, _, G, H.toL _ (by kernel_rfl)⟩
         rw [if_neg c83] at G
         by_cases c84 : x42 = 2
         ·rw [if_pos c84] at G; subst c84
          replace G := gd G; obtain ⟨b59, G⟩ := G
          replace G := bnd G; obtain ⟨t60, ht60, G⟩ := G
          obtain ⟨p_t60, c_t60, y_t60⟩ := sl_get h_a0 ht60
          replace G := gd G; obtain ⟨b61, G⟩ := G
          replace G := bnd G; obtain ⟨t62, ht62, G⟩ := G
          refine k_rg mixed H (.v 35 (vI 2) <|
   .v 36 (.slice p_a0 L_a0.length c_a0) <|
   .v 37 (vI 2) <|
   .cons [38] (ok_valL [55] (fun u58 => [rdl anyF 1 p_a0 c_a0 L_a0 enSl]) (fun u58 => .pointer (some ⟨hdB p_a0, hdO p_a0 + ((2 : Int).toNat) * 1, none⟩)) (fun u58 => true) [true, true] 38 (fun u58 w hg hF => ix_row (t := 30) (k := .i64) (i := (2 : Int)) (p := p_a0) (n := L_a0.length) (cap := c_a0) (x := a0) (en := enSl) (rdF_of hF.1).2 enSl_len (map_len h_a0) b59 (by kernel_rfl))) <|
   .cons [39] (ok_valL [55] (fun u58 => [rdl anyF 1 p_a0 c_a0 L_a0 enSl]) (fun u58 => .slice p_t60 t60.length c_t60) (fun u58 => true) [true] 39 (fun u58 w hg hF => ld_row (en := enSl) (rdF_of hF.1).2 enSl_len y_t60 0 1 [.slice p_t60 t60.length c_t60] rfl (by kernel_rfl))) <|
   .v 40 (vI x16) <|
   .cons [41] (ok_valL [56] (fun u58 => [dnK anyF E_S_i64.toPart L_a0]) (fun u58 => .pointer (some ⟨hdB p_t60, hdO p_t60 + x16.toNat * 1, none⟩)) (fun u58 => true) [true, true] 41 (fun u58 w hg hF => ix_row (t := 32) (k := .i64) (i := x16) (p := p_t60) (n := t60.length) (cap := c_t60) (x := t60) (en := en_i64) (show RowC _ 1 p_t60 t60.length c_t60 (t60.flatMap en_i64) from ((dn_of hF.1) _ (List.mem_of_getElem? y_t60)).1).2 en_i64_len rfl b61 (by kernel_rfl))) <|
   .cons [42] (ok_valL [56] (fun u58 => [dnK anyF E_S_i64.toPart L_a0]) (fun u58 => vI t62) (fun u58 => true) [true] 42 (fun u58 w hg hF => ld_row (en := en_i64) (show RowC _ 1 p_t60 t60.length c_t60 (t60.flatMap en_i64) from ((dn_of hF.1) _ (List.mem_of_getElem? y_t60)).1).2 en_i64_len ht62 0 1 [vI t62] rfl (by kernel_rfl))) <|
   .v 43 (vP ((u24 0).n 0) 2) <|
   .cons [62] (ok_as (u' := fun u58 => [(62, .blk ((u24 0).n 0) [vI x36, vI x37, vI t62, vI x39, vI x40, vI x41] 81)]) (ok_store 62 2 (fun u58 => ((u24 0).n 0)) (fun u58 => [vI x36, vI x37, vI x38, vI x39, vI x40, vI x41]) (fun u58 => [vI t62]) 81) (fun _ => by kernel_rfl)) <| .nil) fun u58 a w' H => ?_
          replace H := H.kp [0, 3, 4, 6, 7, 8, 27, 28, 31, 32, 55, 56, 58, 59, 62, 900041, 900043]
          refine k_rg mixed H (.v 44 (vI (w_i64 (2 + 1))) <|
   .v 32 (vI (w_i64 (2 + 1))) <| .nil) fun u63 a w' H => ?_
          replace H := H.kp [0, 3, 4, 6, 7, 8, 27, 28, 31, 32, 55, 56, 58, 59, 62, 900041, 900043]
          exact ⟨k, Nat.lt_succ_self k, _, _, _, _, _, _, _, G, H.toL _ (by kernel_rfl)⟩
         rw [if_neg c84] at G
         by_cases c85 : x42 = 3
         ·rw [if_pos c85] at G; subst c85
          replace G := gd G; obtain ⟨b65, G⟩ := G
          replace G := bnd G; obtain ⟨t66, ht66, G⟩ := G
          obtain ⟨p_t66, c_t66, y_t66⟩ := sl_get h_a0 ht66
          replace G := gd G; obtain ⟨b67, G⟩ := G
          replace G := bnd G; obtain ⟨t68, ht68, G⟩ := G
          refine k_rg mixed H (.v 35 (vI 3) <|
   .v 36 (.slice p_a0 L_a0.length c_a0) <|
   .v 37 (vI 3) <|
   .cons [38] (ok_valL [55] (fun u64 => [rdl anyF 1 p_a0 c_a0 L_a0 enSl]) (fun u64 => .pointer (some ⟨hdB p_a0, hdO p_a0 + ((3 : Int).toNat) * 1, none⟩)) (fun u64 => true) [true, true] 38 (fun u64 w hg hF => ix_row (t := 30) (k := .i64) (i := (3 : Int)) (p := p_a0) (n := L_a0.length) (cap := c_a0) (x := a0) (en := enSl) (rdF_of hF.1).2 enSl_len (map_len h_a0) b65 (by kernel_rfl))) <|
   .cons [39] (ok_valL [55] (fun u64 => [rdl anyF 1 p_a0 c_a0 L_a0 enSl]) (fun u64 => .slice p_t66 t66.length c_t66) (fun u64 => true) [true] 39 (fun u64 w hg hF => ld_row (en := enSl) (rdF_of hF.1).2 enSl_len y_t66 0 1 [.slice p_t66 t66.length c_t66] rfl (by kernel_rfl))) <|
   .v 40 (vI x16) <|
   .cons [41] (ok_valL [56] (fun u64 => [dnK anyF E_S_i64.toPart L_a0]) (fun u64 => .pointer (some ⟨hdB p_t66, hdO p_t66 + x16.toNat * 1, none⟩)) (fun u64 => true) [true, true] 41 (fun u64 w hg hF => ix_row (t := 32) (k := .i64) (i := x16) (p := p_t66) (n := t66.length) (cap := c_t66) (x := t66) (en := en_i64) (show RowC _ 1 p_t66 t66.length c_t66 (t66.flatMap en_i64) from ((dn_of hF.1) _ (List.mem_of_getElem? y_t66)).1).2 en_i64_len rfl b67 (by kernel_rfl))) <|
   .cons [42] (ok_valL [56] (fun u64 => [dnK anyF E_S_i64.toPart L_a0]) (fun u64 => vI t68) (fun u64 => true) [true] 42 (fun u64 w hg hF => ld_row (en := en_i64) (show RowC _ 1 p_t66 t66.length c_t66 (t66.flatMap en_i64) from ((dn_of hF.1) _ (List.mem_of_getElem? y_t66)).1).2 en_i64_len ht68 0 1 [vI t68] rfl (by kernel_rfl))) <|
   .v 43 (vP ((u24 0).n 0) 3) <|
   .cons [62] (ok_as (u' := fun u64 => [(62, .blk ((u24 0).n 0) [vI x36, vI x37, vI x38, vI t68, vI x40, vI x41] 81)]) (ok_store 62 3 (fun u64 => ((u24 0).n 0)) (fun u64 => [vI x36, vI x37, vI x38, vI x39, vI x40, vI x41]) (fun u64 => [vI t68]) 81) (fun _ => by kernel_rfl)) <| .nil) fun u64 a w' H => ?_
          replace H := H.toM [(0, sS p_a0 L_a0.length c_a0), (3, (sI (a0.length : Int))), (4, sS p_j5 j6.length c_j5), (6, (sP ((u7 3).n 0) 0)), (7, sI x16), (8, (sP ((u24 0).n 0) 0)), (27, (sI (a0.length : Int))), (28, sI x16), (31, (sI (a0.length : Int))), (32, sI 3), (55, rdl anyF 1 p_a0 c_a0 L_a0 enSl), (56, dnK anyF E_S_i64.toPart L_a0), (58, .blk ((u7 2).n 0) [vI x14, .slice p_x15 x15.length c_x15] 84), (59, .blk ((u7 3).n 0) [vP ((u7 2).n 0) 0] 82), (62, .blk ((u24 0).n 0) [vI x36, vI x37, vI x38, vI t68, vI x40, vI x41] 81), (900041, owK 81 6 p_j5 j6.length c_j5 (j6.flatMap en_TA6_Int)), (900043, owK 81 6 p_x15 x15.length c_x15 (x15.flatMap en_TA6_Int))]
          refine k_rg mixed H (.v 44 (vI (w_i64 (3 + 1))) <|
   .v 32 (vI (w_i64 (3 + 1))) <| .nil) fun u69 a w' H => ?_
          replace H := H.kp [0, 3, 4, 6, 7, 8, 27, 28, 31, 32, 55, 56, 58, 59, 62, 900041, 900043]
          exact ⟨k, Nat.lt_succ_self k, _, _, _, _, _, _, _, G, H.toL _ (by kernel_rfl)⟩
         rw [if_neg c85] at G
         by_cases c86 : x42 = 4
         ·rw [if_pos c86] at G; subst c86
          replace G := gd G; obtain ⟨b71, G⟩ := G
          replace G := bnd G; obtain ⟨t72, ht72, G⟩ := G
          obtain ⟨p_t72, c_t72, y_t72⟩ := sl_get h_a0 ht72
          replace G := gd G; obtain ⟨b73, G⟩ := G
          replace G := bnd G; obtain ⟨t74, ht74, G⟩ := G
          refine k_rg mixed H (.v 35 (vI 4) <|
   .v 36 (.slice p_a0 L_a0.length c_a0) <|
   .v 37 (vI 4) <|
   .cons [38] (ok_valL [55] (fun u70 => [rdl anyF 1 p_a0 c_a0 L_a0 enSl]) (fun u70 => .pointer (some ⟨hdB p_a0, hdO p_a0 + ((4 : Int).toNat) * 1, none⟩)) (fun u70 => true) [true, true] 38 (fun u70 w hg hF => ix_row (t := 30) (k := .i64) (i := (4 : Int)) (p := p_a0) (n := L_a0.length) (cap := c_a0) (x := a0) (en := enSl) (rdF_of hF.1).2 enSl_len (map_len h_a0) b71 (by kernel_rfl))) <|
   .cons [39] (ok_valL [55] (fun u70 => [rdl anyF 1 p_a0 c_a0 L_a0 enSl]) (fun u70 => .slice p_t72 t72.length c_t72) (fun u70 => true) [true] 39 (fun u70 w hg hF => ld_row (en := enSl) (rdF_of hF.1).2 enSl_len y_t72 0 1 [.slice p_t72 t72.length c_t72] rfl (by kernel_rfl))) <|
   .v 40 (vI x16) <|
   .cons [41] (ok_valL [56] (fun u70 => [dnK anyF E_S_i64.toPart L_a0]) (fun u70 => .pointer (some ⟨hdB p_t72, hdO p_t72 + x16.toNat * 1, none⟩)) (fun u70 => true) [true, true] 41 (fun u70 w hg hF => ix_row (t := 32) (k := .i64) (i := x16) (p := p_t72) (n := t72.length) (cap := c_t72) (x := t72) (en := en_i64) (show RowC _ 1 p_t72 t72.length c_t72 (t72.flatMap en_i64) from ((dn_of hF.1) _ (List.mem_of_getElem? y_t72)).1).2 en_i64_len rfl b73 (by kernel_rfl))) <|
   .cons [42] (ok_valL [56] (fun u70 => [dnK anyF E_S_i64.toPart L_a0]) (fun u70 => vI t74) (fun u70 => true) [true] 42 (fun u70 w hg hF => ld_row (en := en_i64) (show RowC _ 1 p_t72 t72.length c_t72 (t72.flatMap en_i64) from ((dn_of hF.1) _ (List.mem_of_getElem? y_t72)).1).2 en_i64_len ht74 0 1 [vI t74] rfl (by kernel_rfl))) <|
   .v 43 (vP ((u24 0).n 0) 4) <|
   .cons [62] (ok_as (u' := fun u70 => [(62, .blk ((u24 0).n 0) [vI x36, vI x37, vI x38, vI x39, vI t74, vI x41] 81)]) (ok_store 62 4 (fun u70 => ((u24 0).n 0)) (fun u70 => [vI x36, vI x37, vI x38, vI x39, vI x40, vI x41]) (fun u70 => [vI t74]) 81) (fun _ => by kernel_rfl)) <| .nil) fun u70 a w' H => ?_
          replace H := H.kp [0, 3, 4, 6, 7, 8, 27, 28, 31, 32, 55, 56, 58, 59, 62, 900041, 900043]
          refine k_rg mixed H (.v 44 (vI (w_i64 (4 + 1))) <|
   .v 32 (vI (w_i64 (4 + 1))) <| .nil) fun u75 a w' H => ?_
          replace H := H.kp [0, 3, 4, 6, 7, 8, 27, 28, 31, 32, 55, 56, 58, 59, 62, 900041, 900043]
          exact ⟨k, Nat.lt_succ_self k, _, _, _, _, _, _, _, G, H.toL _ (by kernel_rfl)⟩
         rw [if_neg c86] at G
         by_cases c87 : x42 = 5
         ·rw [if_pos c87] at G; subst c87
          replace G := gd G; obtain ⟨b77, G⟩ := G
          replace G := bnd G; obtain ⟨t78, ht78, G⟩ := G
          obtain ⟨p_t78, c_t78, y_t78⟩ := sl_get h_a0 ht78
          replace G := gd G; obtain ⟨b79, G⟩ := G
          replace G := bnd G; obtain ⟨t80, ht80, G⟩ := G
          refine k_rg mixed H (.v 35 (vI 5) <|
   .v 36 (.slice p_a0 L_a0.length c_a0) <|
   .v 37 (vI 5) <|
   .cons [38] (ok_valL [55] (fun u76 => [rdl anyF 1 p_a0 c_a0 L_a0 enSl]) (fun u76 => .pointer (some ⟨hdB p_a0, hdO p_a0 + ((5 : Int).toNat) * 1, none⟩)) (fun u76 => true) [true, true] 38 (fun u76 w hg hF => ix_row (t := 30) (k := .i64) (i := (5 : Int)) (p := p_a0) (n := L_a0.length) (cap := c_a0) (x := a0) (en := enSl) (rdF_of hF.1).2 enSl_len (map_len h_a0) b77 (by kernel_rfl))) <|
   .cons [39] (ok_valL [55] (fun u76 => [rdl anyF 1 p_a0 c_a0 L_a0 enSl]) (fun u76 => .slice p_t78 t78.length c_t78) (fun u76 => true) [true] 39 (fun u76 w hg hF => ld_row (en := enSl) (rdF_of hF.1).2 enSl_len y_t78 0 1 [.slice p_t78 t78.length c_t78] rfl (by kernel_rfl))) <|
   .v 40 (vI x16) <|
   .cons [41] (ok_valL [56] (fun u76 => [dnK anyF E_S_i64.toPart L_a0]) (fun u76 => .pointer (some ⟨hdB p_t78, hdO p_t78 + x16.toNat * 1, none⟩)) (fun u76 => true) [true, true] 41 (fun u76 w hg hF => ix_row (t := 32) (k := .i64) (i := x16) (p := p_t78) (n := t78.length) (cap := c_t78) (x := t78) (en := en_i64) (show RowC _ 1 p_t78 t78.length c_t78 (t78.flatMap en_i64) from ((dn_of hF.1) _ (List.mem_of_getElem? y_t78)).1).2 en_i64_len rfl b79 (by kernel_rfl))) <|
   .cons [42] (ok_valL [56] (fun u76 => [dnK anyF E_S_i64.toPart L_a0]) (fun u76 => vI t80) (fun u76 => true) [true] 42 (fun u76 w hg hF => ld_row (en := en_i64) (show RowC _ 1 p_t78 t78.length c_t78 (t78.flatMap en_i64) from ((dn_of hF.1) _ (List.mem_of_getElem? y_t78)).1).2 en_i64_len ht80 0 1 [vI t80] rfl (by kernel_rfl))) <|
   .v 43 (vP ((u24 0).n 0) 5) <|
   .cons [62] (ok_as (u' := fun u76 => [(62, .blk ((u24 0).n 0) [vI x36, vI x37, vI x38, vI x39, vI x40, vI t80] 81)]) (ok_store 62 5 (fun u76 => ((u24 0).n 0)) (fun u76 => [vI x36, vI x37, vI x38, vI x39, vI x40, vI x41]) (fun u76 => [vI t80]) 81) (fun _ => by kernel_rfl)) <| .nil) fun u76 a w' H => ?_
          replace H := H.kp [0, 3, 4, 6, 7, 8, 27, 28, 31, 32, 55, 56, 58, 59, 62, 900041, 900043]
          refine k_rg mixed H (.v 44 (vI (w_i64 (5 + 1))) <|
   .v 32 (vI (w_i64 (5 + 1))) <| .nil) fun u81 a w' H => ?_
          replace H := H.kp [0, 3, 4, 6, 7, 8, 27, 28, 31, 32, 55, 56, 58, 59, 62, 900041, 900043]
          exact ⟨k, Nat.lt_succ_self k, _, _, _, _, _, _, _, G, H.toL _ (by kernel_rfl)⟩
         rw [if_neg c87] at G
         cases G
        ·rw [if_neg (nt c88)] at G
         refine k_exit rfl ?_
         obtain rfl := Option.some.inj G
         exact H.toL _ (by kernel_rfl)
    ·rw [if_neg (nt c89)] at G
     refine k_exit rfl ?_
     obtain rfl := Option.some.inj G
     replace H := H.move (K := owK 81 6 p_x15 x15.length c_x15 (x15.flatMap en_TA6_Int)) 900043 900042 (by kernel_rfl) (by intro _ _ h; cases h)
     exact ⟨p_x15, c_x15, x15.length, rfl, H.toL _ (by kernel_rfl)⟩
 ·clear G; replace G := hj6; clear hj6
  refine k_seq ?_
  refine k_rg mixed H (.v 14 (vI (a0.length : Int)) <|
   .v 15 (vI 0) <| .nil) fun u90 a w' H => ?_
  replace H := H.kp [0, 3, 4, 14, 15, 55, 56, 57]
  refine k_block ?_
  replace H := H.move (K := owK 81 6 ((u3 1).o 0) ((List.replicate (a0.length : Int).toNat (⟨0, 0, 0, 0, 0, 0⟩ : TA6_Int)).length) ((u3 1).n 0) ((List.replicate (a0.length : Int).toNat (⟨0, 0, 0, 0, 0, 0⟩ : TA6_Int)).flatMap en_TA6_Int)) 57 900045 (by kernel_rfl) (by intro _ _ h; cases h)
  refine k_loopJ (fun m a w' => ∃ x91 : List TA6_Int, ∃ x92 : Int, matrix_Orthogonalize.l93 k0 a0 m x91 x92 = some j6 ∧ ∃ (p_x91 : Option Addr) (c_x91 np_x91 : Nat), np_x91 = x91.length ∧ Rep w.heap.size w 55 (ofL [(0, sS p_a0 L_a0.length c_a0), (3, (sI (a0.length : Int))), (4, sS p_x91 np_x91 c_x91), (14, (sI (a0.length : Int))), (15, sI x92), (55, rdl anyF 1 p_a0 c_a0 L_a0 enSl), (56, dnK anyF E_S_i64.toPart L_a0), (900045, owK 81 6 p_x91 np_x91 c_x91 (x91.flatMap en_TA6_Int))]) a w') k0 ⟨_, _, G, ((u3 1).o 0), ((u3 1).n 0), (List.replicate (a0.length : Int).toNat (⟨0, 0, 0, 0, 0, 0⟩ : TA6_Int)).length, rfl, H.toL _ (by kernel_rfl)⟩ ?_
  clear G H
  rintro (_ | k) a w' ⟨x91, x92, G, p_x91, c_x91, _, rfl, H⟩
  ·exact absurd G (by unfold matrix_Orthogonalize.l93; exact fun h => by cases h)
  ·unfold matrix_Orthogonalize.l93 at G
   refine k_seq ?_
   refine k_rg mixed H (.v 16 (.bool (decide (x92 < (a0.length : Int)))) <| .nil) fun u94 a w' H => ?_
   replace H := H.kp [0, 3, 4, 14, 15, 16, 55, 56, 900045]
   refine k_seq ?_
   refine k_cond H (by kernel_rfl) (t := decide (x92 < (a0.length : Int))) (by kernel_rfl) (fun c126 => ?_) (fun c126 => ?_)
   ·rw [if_pos c126] at G
    refine k_skip ?_
    refine k_seq ?_
    refine k_block ?_
    refine k_seq ?_
    refine k_rg mixed H (.v 17 (vI x92) <|
   .v 5 (vI x92) <| .nil) fun u95 a w' H => ?_
    replace H := H.kp [0, 3, 4, 5, 14, 15, 55, 56, 900045]
    by_cases c120 : x92 = 0
    ·rw [if_pos c120] at G; subst c120
     replace G := gd G; obtain ⟨b97, G⟩ := G
     replace G := bnd G; obtain ⟨t98, ht98, G⟩ := G
     refine k_rg mixed H (.v 18 (.slice p_x91 x91.length c_x91) <|
   .v 19 (vI 0) <|
   .v 20 (vI 0) <|
   .cons [21] (ok_valL [900045] (fun u96 => [owK 81 6 p_x91 x91.length c_x91 (x91.flatMap en_TA6_Int)]) (fun u96 => .pointer (some ⟨hdB p_x91, hdO p_x91 + ((0 : Int).toNat) * 6, none⟩)) (fun u96 => true) [true, true] 21 (fun u96 w hg hF => ix_row (t := 79) (k := .i64) (i := (0 : Int)) (p := p_x91) (n := x91.length) (cap := c_x91) (x := x91) (en := en_TA6_Int) (owns_rowC (ow_of hF.1)).2 en_TA6_Int_len rfl b97 (by kernel_rfl))) <|
   .v 22 (.pointer (some ⟨hdB p_x91, hdO p_x91 + ((0 : Int).toNat) * 6 + 0, none⟩)) <|
   .cons [900045, 900045] (ok_own1 [] [] (fun u96 => []) 900045 (fun u96 => owK 81 6 p_x91 x91.length c_x91 (x91.flatMap en_TA6_Int)) none (fun u96 g => .nilFunc) (fun u96 g => owK 81 6 p_x91 x91.length c_x91 ((x91.set ((0 : Int).toNat) (⟨65536, t98.e1, t98.e2, t98.e3, t98.e4, t98.e5⟩ : TA6_Int)).flatMap en_TA6_Int)) (fun u96 w hF hK => tv_set (el_storeN (ow_of hK) en_TA6_Int_len (y := (⟨65536, t98.e1, t98.e2, t98.e3, t98.e4, t98.e5⟩ : TA6_Int)) (vs := [vI 65536]) ht98 0 (by simp) (by simp) rfl (by kernel_rfl)))) <| .nil) fun u96 a w' H => ?_
     replace H := H.kp [0, 3, 4, 14, 15, 55, 56, 900045]
     refine k_rg mixed H (.v 23 (vI (w_i64 (0 + 1))) <|
   .v 15 (vI (w_i64 (0 + 1))) <| .nil) fun u99 a w' H => ?_
     replace H := H.kp [0, 3, 4, 14, 15, 55, 56, 900045]
     exact ⟨k, Nat.lt_succ_self k, _, _, G, p_x91, c_x91, x91.length, by simp, H.toL _ (by kernel_rfl)⟩
    rw [if_neg c120] at G
    by_cases c121 : x92 = 1
    ·rw [if_pos c121] at G; subst c121
     replace G := gd G; obtain ⟨b101, G⟩ := G
     replace G := bnd G; obtain ⟨t102, ht102, G⟩ := G
     refine k_rg mixed H (.v 18 (.slice p_x91 x91.length c_x91) <|
   .v 19 (vI 1) <|
   .v 20 (vI 1) <|
   .cons [21] (ok_valL [900045] (fun u100 => [owK 81 6 p_x91 x91.length c_x91 (x91.flatMap en_TA6_Int)]) (fun u100 => .pointer (some ⟨hdB p_x91, hdO p_x91 + ((1 : Int).toNat) * 6, none⟩)) (fun u100 => true) [true, true] 21 (fun u100 w hg hF => ix_row (t := 79) (k := .i64) (i := (1 : Int)) (p := p_x91) (n := x91.length) (cap := c_x91) (x := x91) (en := en_TA6_Int) (owns_rowC (ow_of hF.1)).2 en_TA6_Int_len rfl b101 (by kernel_rfl))) <|
   .v 22 (.pointer (some ⟨hdB p_x91, hdO p_x91 + ((1 : Int).toNat) * 6 + 1, none⟩)) <|
   .cons [900045, 900045] (ok_own1 [] [] (fun u100 => []) 900045 (fun u100 => owK 81 6 p_x91 x91.length c_x91 (x91.flatMap en_TA6_Int)) none (fun u100 g => .nilFunc) (fun u100 g => owK 81 6 p_x91 x91.length c_x91 ((x91.set ((1 : Int).toNat) (⟨t102.e0, 65536, t102.e2, t102.e3, t102.e4, t102.e5⟩ : TA6_Int)).flatMap en_TA6_Int)) (fun u100 w hF hK => tv_set (el_storeN (ow_of hK) en_TA6_Int_len (y := (⟨t102.e0, 65536, t102.e2, t102.e3, t102.e4, t102.e5⟩ : TA6_Int)) (vs := [vI 65536]) ht102 1 (by simp) (by simp) rfl (by kernel_rfl)))) <| .nil) fun u100 a w' H => ?_
     replace H := H.kp [0, 3, 4, 14, 15, 55, 56, 900045]
     refine k_rg mixed H (.v 23 (vI (w_i64 (1 + 1))) <|
   .v 15 (vI (w_i64 (1 + 1))) <| .nil) fun u103 a w' H => ?_
     replace H := H.kp [0, 3, 4, 14, 15, 55, 56, 900045]
     exact ⟨k, Nat.lt_succ_self k, _, _, G, p_x91, c_x91, x91.length, by simp, H.toL _ (by kernel_rfl)⟩
    rw [if_neg c121] at G
    by_cases c122 : x92 = 2
    ·rw [if_pos c122] at G; subst c122
     replace G := gd G; obtain ⟨b105, G⟩ := G
     replace G := bnd G; obtain ⟨t106, ht106, G⟩ := G
     refine k_rg mixed H (.v 18 (.slice p_x91 x91.length c_x91) <|
   .v 19 (vI 2) <|
   .v 20 (vI 2) <|
   .cons [21] (ok_valL [900045] (fun u104 => [owK 81 6 p_x91 x91.length c_x91 (x91.flatMap en_TA6_Int)]) (fun u104 => .pointer (some ⟨hdB p_x91, hdO p_x91 + ((2 : Int).toNat) * 6, none⟩)) (fun u104 => true) [true, true] 21 (fun u104 w hg hF => ix_row (t := 79) (k := .i64) (i := (2 : Int)) (p := p_x91) (n := x91.length) (cap := c_x91) (x := x91) (en := en_TA6_Int) (owns_rowC (ow_of hF.1)).2 en_TA6_Int_len rfl b105 (by kernel_rfl))) <|
   .v 22 (.pointer (some ⟨hdB p_x91, hdO p_x91 + ((2 : Int).toNat) * 6 + 2, none⟩)) <|
   .cons [900045, 900045] (ok_own1 [] [] (fun u104 => []) 900045 (fun u104 => owK 81 6 p_x91 x91.length c_x91 (x91.flatMap en_TA6_Int)) none (fun u104 g => .nilFunc) (fun u104 g => owK 81 6 p_x91 x91.length c_x91 ((x91.set ((2 : Int).toNat) (⟨t106.e0, t106.e1, 65536, t106.e3, t106.e4, t106.e5⟩ : TA6_Int)).flatMap en_TA6_Int)) (fun u104 w hF hK => tv_set (el_storeN (ow_of hK) en_TA6_Int_len (y := (⟨t106.e0, t106.e1, 65536, t106.e3, t106.e4, t106.e5⟩ : TA6_Int)) (vs := [vI 65536]) ht106 2 (by simp) (by simp) rfl (by kernel_rfl)))) <| .nil) fun u104 a w' H => ?_
     replace H := H.kp [0, 3, 4, 14, 15, 55, 56, 900045]
     refine k_rg mixed H (.v 23 (vI (w_i64 (2 + 1))) <|
   .v 15 (vI (w_i64 (2 + 1))) <| .nil) fun u107 a w' H => ?_
     replace H := H.kp [0, 3, 4, 14, 15, 55, 56, 900045]
     exact ⟨k, Nat.lt_succ_self k, _, _, G, p_x91, c_x91, x91.length, by simp, H.toL _ (by kernel_rfl)⟩
    rw [if_neg c122] at G
    by_cases c123 : x92 = 3
    ·rw [if_pos c123] at G; subst c123
     replace G := gd G; obtain ⟨b109, G⟩ := G
     replace G := bnd G; obtain ⟨t110, ht110, G⟩ := G
     refine k_rg mixed H (.v 18 (.slice p_x91 x91.length c_x91) <|
   .v 19 (vI 3) <|
   .v 20 (vI 3) <|
   .cons [21] (ok_valL [900045] (fun u108 => [owK 81 6 p_x91 x91.length c_x91 (x91.flatMap en_TA6_Int)]) (fun u108 => .pointer (some ⟨hdB p_x91, hdO p_x91 + ((3 : Int).toNat) * 6, none⟩)) (fun u108 => true) [true, true] 21 (fun u108 w hg hF => ix_row (t := 79) (k := .i64) (i := (3 : Int)) (p := p_x91) (n := x91.length) (cap := c_x91) (x := x91) (en := en_TA6_Int) (owns_rowC (ow_of hF.1)).2 en_TA6_Int_len rfl b109 (by kernel_rfl))) <|
   .v 22 (.pointer (some ⟨hdB p_x91, hdO p_x91 + ((3 : Int).toNat) * 6 + 3, none⟩)) <|
   .cons [900045, 900045] (ok_own1 [] [] (fun u108 => []) 900045 (fun u108 => owK 81 6 p_x91 x91.length c_x91 (x91.flatMap en_TA6_Int)) none (fun u108 g => .nilFunc) (fun u108 g => owK 81 6 p_x91 x91.length c_x91 ((x91.set ((3 : Int).toNat) (⟨t110.e0, t110.e1, t110.e2, 65536, t110.e4, t110.e5⟩ : TA6_Int)).flatMap en_TA6_Int)) (fun u108 w hF hK => tv_set (el_storeN (ow_of hK) en_TA6_Int_len (y := (⟨t110.e0, t110.e1, t110.e2, 65536, t110.e4, t110.e5⟩ : TA6_Int)) (vs := [vI 65536]) ht110 3 (by simp) (by simp) rfl (by kernel_rfl)))) <| .nil) fun u108 a w' H => ?_
     replace H := H.toM [(0, sS p_a0 L_a0.length c_a0), (3, (sI (a0.length : Int))), (4, sS p_x91 x91.length c_x91), (14, (sI (a0.length : Int))), (15, sI 3), (55, rdl anyF 1 p_a0 c_a0 L_a0 enSl), (56, dnK anyF E_S_i64.toPart L_a0), (900045, owK 81 6 p_x91 x91.length c_x91 ((x91.set ((3 : Int).toNat) (⟨t110.e0, t110.e1, t110.e2, 65536, t110.e4, t110.e5⟩ : TA6_Int)).flatMap en_TA6_Int))]
     refine k_rg mixed H (.v 23 (vI (w_i64 (3 + 1))) <|
   .v 15 (vI (w_i64 (3 + 1))) <| .nil) fun u111 a w' H => ?_
     replace H := H.kp [0, 3, 4, 14, 15, 55, 56, 900045]
     exact ⟨k, Nat.lt_succ_self k, _, _, G, p_x91, c_x91, x91.length, by simp, H.toL _ (by kernel_rfl)⟩
    rw [if_neg c123] at G
    by_cases c124 : x92 = 4
    ·rw [if_pos c124] at G; subst c124
     replace G := gd G; obtain ⟨b113, G⟩ := G
     replace G := bnd G; obtain ⟨t114, ht114, G⟩ := G
     refine k_rg mixed H (.v 18 (.slice p_x91 x91.length c_x91) <|
   .v 19 (vI 4) <|
   .v 20 (vI 4) <|
   .cons [21] (ok_valL [900045] (fun u112 => [owK 81 6 p_x91 x91.length c_x91 (x91.flatMap en_TA6_Int)]) (fun u112 => .pointer (some ⟨hdB p_x91, hdO p_x91 + ((4 : Int).toNat) * 6, none⟩)) (fun u112 => true) [true, true] 21 (fun u112 w hg hF => ix_row (t := 79) (k := .i64) (i := (4 : Int)) (p := p_x91) (n := x91.length) (cap := c_x91) (x := x91) (en := en_TA6_Int) (owns_rowC (ow_of hF.1)).2 en_TA6_Int_len rfl b113 (by kernel_rfl))) <|
   .v 22 (.pointer (some ⟨hdB p_x91, hdO p_x91 + ((4 : Int).toNat) * 6 + 4, none⟩)) <|
   .cons [900045, 900045] (ok_own1 [] [] (fun u112 => []) 900045 (fun u112 => owK 81 6 p_x91 x91.length c_x91 (x91.flatMap en_TA6_Int)) none (fun u112 g => .nilFunc) (fun u112 g => owK 81 6 p_x91 x91.length c_x91 ((x91.set ((4 : Int).toNat) (⟨t114.e0, t114.e1, t114.e2, t114.e3, 65536, t114.e5⟩ : TA6_Int)).flatMap en_TA6_Int)) (fun u112 w hF hK => tv_set (el_storeN (ow_of hK) en_TA6_Int_len (y := (⟨t114.e0, t114.e1, t114.e2, t114.e3, 65536, t114.e5⟩ : TA6_Int)) (vs := [vI 65536]) ht114 4 (by simp) (by simp) rfl (by kernel_rfl)))) <| .nil) fun u112 a w' H => ?_
     replace H := H.kp [0, 3, 4, 14, 15, 55, 56, 900045]
     refine k_rg mixed H (.v 23 (vI (w_i64 (4 + 1))) <|
   .v 15 (vI (w_i64 (4 + 1))) <| .nil) fun u115 a w' H => ?_
     replace H := H.kp [0, 3, 4, 14, 15, 55, 56, 900045]
     exact ⟨k, Nat.lt_succ_self k, _, _, G, p_x91, c_x91, x91.length, by simp, H.toL _ (by kernel_rfl)⟩
    rw [if_neg c124] at G
    by_cases c125 : x92 = 5
    ·rw [if_pos c125] at G; subst c125
     replace G := gd G; obtain ⟨b117, G⟩ := G
     replace G := bnd G; obtain ⟨t118, ht118, G⟩ := G
     refine k_rg mixed H (.v 18 (.slice p_x91 x91.length c_x91) <|
   .v 19 (vI 5) <|
   .v 20 (vI 5) <|
   .cons [21] (ok_valL [900045] (fun u116 => [owK 81 6 p_x91 x91.length c_x91 (x91.flatMap en_TA6_Int)]) (fun u116 => .pointer (some ⟨hdB p_x91, hdO p_x91 + ((5 : Int).toNat) * 6, none⟩)) (fun u116 => true) [true, true] 21 (fun u116 w hg hF => ix_row (t := 79) (k := .i64) (i := (5 : Int)) (p := p_x91) (n := x91.length) (cap := c_x91) (x := x91) (en := en_TA6_Int) (owns_rowC (ow_of hF.1)).2 en_TA6_Int_len rfl b117 (by kernel_rfl))) <|
   .v 22 (.pointer (some ⟨hdB p_x91, hdO p_x91 + ((5 : Int).toNat) * 6 + 5, none⟩)) <|
   .cons [900045, 900045] (ok_own1 [] [] (fun u116 => []) 900045 (fun u116 => owK 81 6 p_x91 x91.length c_x91 (x91.flatMap en_TA6_Int)) none (fun u116 g => .nilFunc) (fun u116 g => owK 81 6 p_x91 x91.length c_x91 ((x91.set ((5 : Int).toNat) (⟨t118.e0, t118.e1, t118.e2, t118.e3, t118.e4, 65536⟩ : TA6_Int)).flatMap en_TA6_Int)) (fun u116 w hF hK => tv_set (el_storeN (ow_of hK) en_TA6_Int_len (y := (⟨t118.e0, t118.e1, t118.e2, t118.e3, t118.e4, 65536⟩ : TA6_Int)) (vs := [vI 65536]) ht118 5 (by simp) (by simp) rfl (by kernel_rfl)))) <| .nil) fun u116 a w' H => ?_
     replace H := H.kp [0, 3, 4, 14, 15, 55, 56, 900045]
     refine k_rg mixed H (.v 23 (vI (w_i64 (5 + 1))) <|
   .v 15 (vI (w_i64 (5 + 1))) <| .nil) fun u119 a w' H => ?_
     replace H := H.kp [0, 3, 4, 14, 15, 55, 56, 900045]
     exact ⟨k, Nat.lt_succ_self k, _, _, G, p_x91, c_x91, x91.length, by simp, H.toL _ (by kernel_rfl)⟩
    rw [if_neg c125] at G
    cases G
   ·rw [if_neg (nt c126)] at G
    refine k_exit rfl ?_
    obtain rfl := Option.some.inj G
    replace H := H.move (K := owK 81 6 p_x91 x91.length c_x91 (x91.flatMap en_TA6_Int)) 900045 900041 (by kernel_rfl) (by intro _ _ h; cases h)
    exact ⟨p_x91, c_x91, x91.length, rfl, H.toL _ (by kernel_rfl)⟩
set_option maxHeartbeats 4000000 in
theorem api_Interval_95_m.calls (a1 : Int) (r : List TInterval) (w : World) (G : api_Interval_95_m a1 = some r) :
  Calls Tryd.prog 95 #[.slice none 0 0, vI a1] w fun e w' => ∃ g : Gh, e = .returned (.slice (g.o 0) r.length (g.n 0)) ∧ But (fpK []) w w' ∧ OutOK w.heap.size (fpK []) (frI w.heap.size []) [fun _ => owK 37 2 (g.o 0) r.length (g.n 0) (r.flatMap en_TInterval)] w' := by
 obtain ⟨fr, hfr⟩ : ∃ fr : Nat → Prop, fr = frI w.heap.size [] := ⟨_, rfl⟩
 have hBf : ∀ j, w.heap.size ≤ j → fr j := fun j h => by rw [hfr]; exact .inl h
 refine k_enter (args := [.slice none 0 0, vI a1]) 27 Tryd.func95 rfl (by kernel_rfl) (by kernel_rfl) fun a H => ?_
 unfold api_Interval_95_m at G
 refine k_seq ?_
 refine k_rg mixed H (.v 4 (.slice none 0 0) <| .nil) fun u1 a w' H => ?_
 replace H := H.kp [0, 1]
 refine k_seq ?_
 refine k_seq ?_
 refine k_rg mixed H (.v 5 (vI a1) <|
   .v 6 (.bool (decide (a1 < 0))) <| .nil) fun u2 a w' H => ?_
 replace H := H.kp [0, 1, 6]
 refine k_cond H (by kernel_rfl) (t := decide (a1 < 0)) (by kernel_rfl) (fun c10 => ?_) (fun c10 => ?_)
 ·rw [if_pos c10] at G
  cases G
 ·rw [if_neg (nt c10)] at G
  refine k_skip ?_
  refine k_seq ?_
  refine k_seq ?_
  refine k_rg mixed H (.v 8 (vI a1) <|
   .v 9 (.slice none 0 0) <|
   .v 10 (vI 0) <|
   .v 11 (.slice none 0 0) <|
   .v 12 (vI 0) <|
   .v 13 (vI (w_i64 (0 - 0))) <|
   .v 14 (vI (w_i64 (a1 - (w_i64 (0 - 0))))) <|
   .v 1 (vI (w_i64 (a1 - (w_i64 (0 - 0))))) <| .nil) fun u3 a w' H => ?_
  replace H := H.kp [0, 1]
  refine k_seq ?_
  refine k_rg mixed H (.v 15 (vI (w_i64 (a1 - (w_i64 (0 - 0))))) <|
   .v 16 (.bool (decide ((w_i64 (a1 - (w_i64 (0 - 0)))) > 0))) <| .nil) fun u4 a w' H => ?_
  replace H := H.kp [0, 1, 16]
  refine k_cond H (by kernel_rfl) (t := decide ((w_i64 (a1 - (w_i64 (0 - 0)))) > 0)) (by kernel_rfl) (fun c9 => ?_) (fun c9 => ?_)
  ·rw [if_pos c9] at G
   replace G := gd G; obtain ⟨b6, G⟩ := G
   refine k_rg mixed H (.v 17 (.slice none 0 0) <|
   .v 18 (.slice none 0 0) <|
   .v 19 (vI 0) <|
   .v 20 (.slice none 0 0) <|
   .v 21 (vI (w_i64 (a1 - (w_i64 (0 - 0))))) <|
   .cons [22, 27] (ok_rowL [] (fun u5 => []) 37 2 (List.replicate (w_i64 (a1 - (w_i64 (0 - 0)))).toNat (⟨0, 0⟩ : TInterval)).length ((List.replicate (w_i64 (a1 - (w_i64 (0 - 0)))).toNat (⟨0, 0⟩ : TInterval)).flatMap en_TInterval) 22 27 (fun _ => .none) (fun u5 w hF => run_app_zeros (t := 22) (tn := 3) (ty := 22) (kn := .i64) (k := .i64) (m := w_i64 (a1 - (w_i64 (0 - 0)))) (en := en_TInterval) (z := (⟨0, 0⟩ : TInterval)) en_TInterval_len inf37 rfl b6 (by kernel_rfl)) (fun _ => .inl rfl)) <|
   .v 23 (.slice none 0 0) <|
   .v 24 (vI 0) <|
   .cons [25, 27] (ok_rowL [27] (fun u5 => [owK 37 2 ((u5 5).o 0) ((List.replicate (w_i64 (a1 - (w_i64 (0 - 0)))).toNat (⟨0, 0⟩ : TInterval)).length) ((u5 5).n 0) ((List.replicate (w_i64 (a1 - (w_i64 (0 - 0)))).toNat (⟨0, 0⟩ : TInterval)).flatMap en_TInterval)]) 37 2 ([] : List TInterval).length (([] : List TInterval).flatMap en_TInterval) 25 27 (fun u5 => owK 37 2 ((u5 5).o 0) ((List.replicate (w_i64 (a1 - (w_i64 (0 - 0)))).toNat (⟨0, 0⟩ : TInterval)).length) ((u5 5).n 0) ((List.replicate (w_i64 (a1 - (w_i64 (0 - 0)))).toNat (⟨0, 0⟩ : TInterval)).flatMap en_TInterval)) (fun u5 w hF => run_cut0 (t := 22) (l := (List.replicate (w_i64 (a1 - (w_i64 (0 - 0)))).toNat (⟨0, 0⟩ : TInterval))) (k := .i64) (ow_of hF.1) rfl (by kernel_rfl)) (fun _ => .inr trivial)) <|
   .cons [0] (ok_val (fun u5 => .slice ((u5 8).o 0) 0 ((u5 8).n 0)) 0) <| .nil) fun u5 a w' H => ?_
   replace H := H.kp [0, 27]
   refine k_seq ?_
   refine k_rg mixed H (.v 26 (.slice ((u5 8).o 0) 0 ((u5 8).n 0)) <|
   .v 4 (.slice ((u5 8).o 0) 0 ((u5 8).n 0)) <| .nil) fun u7 a w' H => ?_
   replace H := H.kp [4, 27]
   refine k_ret ?_
   obtain rfl := Option.some.inj G
   obtain ⟨g, o0, n0⟩ : ∃ g : Gh, g.o 0 = ((u5 8).o 0) ∧ g.n 0 = ((u5 8).n 0) := ⟨⟨fun i => [((u5 8).n 0)].getD i 0, fun i => [((u5 8).o 0)].getD i none, fun i => ([⟨Unit, ()⟩] : List ((T : Type) × T)).getD i ⟨Unit, ()⟩⟩, rfl, rfl⟩
   refine k_doneZ H (fun g => .slice (g.o 0) (([] : List TInterval).length) (g.n 0)) g [] [] (fun g => [fun _ => owK 37 2 (g.o 0) (([] : List TInterval).length) (g.n 0) (([] : List TInterval).flatMap en_TInterval)]) fr [27] [] (.slice ((u5 8).o 0) 0 ((u5 8).n 0)) [fun _ => owK 37 2 ((u5 8).o 0) (([] : List TInterval).length) ((u5 8).n 0) (([] : List TInterval).flatMap en_TInterval)] (by simp only [o0, n0, List.length_set, List.length_cons, List.length_nil, Nat.zero_add, Nat.reduceAdd]) (by simp only [o0, n0, List.length_set, List.length_cons, List.length_nil, Nat.zero_add, Nat.reduceAdd]) hfr (.inl ⟨rfl, rfl⟩) (fams_cons fam_ow fams_nil) (by simp)
  ·rw [if_neg (nt c9)] at G
   refine k_skip ?_
   refine k_seq ?_
   refine k_rg mixed H (.v 26 (.slice none 0 0) <|
   .v 4 (.slice none 0 0) <| .nil) fun u8 a w' H => ?_
   replace H := H.kp [4]
   refine k_ret ?_
   obtain rfl := Option.some.inj G
   replace H := H.nil_row 28 37 2
   obtain ⟨g, o0, n0⟩ : ∃ g : Gh, g.o 0 = none ∧ g.n 0 = 0 := ⟨⟨fun i => [0].getD i 0, fun i => [none].getD i none, fun i => ([⟨Unit, ()⟩] : List ((T : Type) × T)).getD i ⟨Unit, ()⟩⟩, rfl, rfl⟩
   refine k_doneZ H (fun g => .slice (g.o 0) (([] : List TInterval).length) (g.n 0)) g [] [] (fun g => [fun _ => owK 37 2 (g.o 0) (([] : List TInterval).length) (g.n 0) (([] : List TInterval).flatMap en_TInterval)]) fr [28] [] (.slice none 0 0) [fun _ => owK 37 2 none 0 0 (([] : List TInterval).flatMap en_TInterval)] (by simp only [o0, n0, List.length_set, List.length_cons, List.length_nil, Nat.zero_add, Nat.reduceAdd]) (by simp only [o0, n0, List.length_set, List.length_cons, List.length_nil, Nat.zero_add, Nat.reduceAdd]) hfr (.inl ⟨rfl, rfl⟩) (fams_cons fam_ow fams_nil) (by simp)
set_option maxHeartbeats 4000000 in
theorem api_Interval_70.calls (k0 : Nat) (a0 : List (List TInterval)) (p_a0 : Option Addr) (c_a0 : Nat) (L_a0 : List (Sl TInterval)) (r : List TInterval) (w : World) (h_a0 : a0 = L_a0.map Sl.l) (hB : AllH [rdl anyF 1 p_a0 c_a0 L_a0 enSl, dnK anyF E_S_TInterval.toPart L_a0] w) (G : api_Interval_70 k0 a0 = some r) :
  Calls Tryd.prog 70 #[.slice p_a0 L_a0.length c_a0] w fun e w' => ∃ g : Gh, e = .returned (.slice (g.o 0) r.length (g.n 0)) ∧ But (fpK []) w w' ∧ OutOK w.heap.size (fpK []) (frI w.heap.size []) [fun _ => owK 37 2 (g.o 0) r.length (g.n 0) (r.flatMap en_TInterval)] w' := by
 obtain ⟨fr, hfr⟩ : ∃ fr : Nat → Prop, fr = frI w.heap.size [] := ⟨_, rfl⟩
 have hBf : ∀ j, w.heap.size ≤ j → fr j := fun j h => by rw [hfr]; exact .inl h
 refine k_enterF (args := [.slice p_a0 L_a0.length c_a0]) 36 [(36, rdl anyF 1 p_a0 c_a0 L_a0 enSl), (37, dnK anyF E_S_TInterval.toPart L_a0)] (by
  intro x hx
  simp only [List.mem_cons, List.not_mem_nil, or_false] at hx
  rcases hx with rfl | rfl
  ·exact rdF_fact (rdF_of hB.1) (fun _ _ => trivial) (by decide) _
  ·exact dn_fact (dn_of hB.2.1) (fun _ _ => trivial) _) Tryd.func70 rfl (by kernel_rfl) (by kernel_rfl) fun a H => ?_
 unfold api_Interval_70 at G
 refine k_seq ?_
 refine k_rg mixed H (.v 2 (.slice none 0 0) <| .nil) fun u1 a w' H => ?_
 replace H := H.kp [0, 36, 37]
 refine k_seq ?_
 refine k_rg mixed H (.v 3 (vI 0) <| .nil) fun u2 a w' H => ?_
 replace H := H.kp [0, 3, 36, 37]
 refine k_seq ?_
 replace G := bnd G; obtain ⟨j4, hj4, G⟩ := G
 refine k_join (fun a w' => Rep w.heap.size w 36 (ofL [(0, sS p_a0 L_a0.length c_a0), (3, sI j4), (36, rdl anyF 1 p_a0 c_a0 L_a0 enSl), (37, dnK anyF E_S_TInterval.toPart L_a0)]) a w') ?_ ?_
 ·clear H; intro a w' H
  refine k_seq ?_
  replace G := bnd G; obtain ⟨t6, ht6, G⟩ := G
  refine k_rg mixed H (.v 23 (vI j4) <|
   .cons [24, 38] (ok_callY false fr [] [] (fun u5 => []) [] (fun u5 => []) 95 (fun u5 => #[.slice none 0 0, vI j4]) (fun u5 => []) (fun u5 => []) (fun u5 g => .slice (g.o 0) t6.length (g.n 0)) (fun u5 g => [fun _ => owK 37 2 (g.o 0) t6.length (g.n 0) (t6.flatMap en_TInterval)]) [38] 24 (fun u5 w hB hF hM => api_Interval_95_m.calls j4  t6 w  ht6) (fun u5 w hF => ⟨trivial, trivial⟩) (fun u5 g => (fams_cons fam_ow fams_nil)) (.inr (fun u5 g => (famx_cons trivial (fun K h => by cases h)))) (fun h => by cases h)) <|
   .cons [6] (ok_val (fun u5 => .slice ((u5 1).o 0) t6.length ((u5 1).n 0)) 6) <| .nil) fun u5 a w' H => ?_
  replace H := H.kp [0, 6, 36, 37, 38]
  refine k_seq ?_
  replace G := bnd G; obtain ⟨j8, hj8, G⟩ := G
  refine k_join (fun a w' => ∃ (p_j7 : Option Addr) (c_j7 np_j7 : Nat), np_j7 = j8.length ∧ Rep w.heap.size w 36 (ofL [(6, sS p_j7 np_j7 c_j7), (900046, owK 37 2 p_j7 np_j7 c_j7 (j8.flatMap en_TInterval))]) a w') ?_ ?_
  ·clear H; rintro a w' ⟨p_j7, c_j7, _, rfl, H⟩
   refine k_seq ?_
   refine k_rg mixed H (.v 35 (.slice p_j7 j8.length c_j7) <|
   .v 2 (.slice p_j7 j8.length c_j7) <| .nil) fun u9 a w' H => ?_
   replace H := H.kp [2, 900046]
   refine k_ret ?_
   obtain rfl := Option.some.inj G
   obtain ⟨g, o0, n0⟩ : ∃ g : Gh, g.o 0 = p_j7 ∧ g.n 0 = c_j7 := ⟨⟨fun i => [c_j7].getD i 0, fun i => [p_j7].getD i none, fun i => ([⟨Unit, ()⟩] : List ((T : Type) × T)).getD i ⟨Unit, ()⟩⟩, rfl, rfl⟩
   refine k_doneZ H (fun g => .slice (g.o 0) j8.length (g.n 0)) g [] [] (fun g => [fun _ => owK 37 2 (g.o 0) j8.length (g.n 0) (j8.flatMap en_TInterval)]) fr [900046] [] (.slice p_j7 j8.length c_j7) [fun _ => owK 37 2 p_j7 j8.length c_j7 (j8.flatMap en_TInterval)] (by simp only [o0, n0]) (by simp only [o0, n0]) hfr (.inl ⟨rfl, rfl⟩) (fams_cons fam_ow fams_nil) (by simp)
  ·clear G; replace G := hj8; clear hj8
   refine k_seq ?_
   refine k_rg mixed H (.v 25 (.slice p_a0 L_a0.length c_a0) <|
   .cons [26] (ok_valL [36] (fun u10 => [rdl anyF 1 p_a0 c_a0 L_a0 enSl]) (fun u10 => vI (a0.length : Int)) (fun u10 => true) [true] 26 (fun u10 w hg hF => run_lenN (((rdF_of hF.1).2.len enSl_len (by decide)).trans (map_len h_a0).symm) (by kernel_rfl))) <|
   .v 27 (vI 0) <| .nil) fun u10 a w' H => ?_
   replace H := H.kp [6, 25, 26, 27, 36, 37, 38]
   refine k_block ?_
   replace H := H.move (K := owK 37 2 ((u5 1).o 0) t6.length ((u5 1).n 0) (t6.flatMap en_TInterval)) 38 900047 (by kernel_rfl) (by intro _ _ h; cases h)
   refine k_loopJ (fun m a w' => ∃ x11 : List TInterval, ∃ x12 : Int, api_Interval_70.l13 k0 a0 j4 t6 m x11 x12 = some j8 ∧ ∃ (p_x11 : Option Addr) (c_x11 np_x11 : Nat), np_x11 = x11.length ∧ Rep w.heap.size w 36 (ofL [(6, sS p_x11 np_x11 c_x11), (25, sS p_a0 L_a0.length c_a0), (26, (sI (a0.length : Int))), (27, sI x12), (36, rdl anyF 1 p_a0 c_a0 L_a0 enSl), (37, dnK anyF E_S_TInterval.toPart L_a0), (900047, owK 37 2 p_x11 np_x11 c_x11 (x11.flatMap en_TInterval))]) a w') k0 ⟨_, _, G, ((u5 1).o 0), ((u5 1).n 0), t6.length, rfl, H.toL _ (by kernel_rfl)⟩ ?_
   clear G H
   rintro (_ | k) a w' ⟨x11, x12, G, p_x11, c_x11, _, rfl, H⟩
   ·exact absurd G (by unfold api_Interval_70.l13; exact fun h => by cases h)
   ·unfold api_Interval_70.l13 at G
    refine k_seq ?_
    refine k_rg mixed H (.v 28 (.bool (decide (x12 < (a0.length : Int)))) <| .nil) fun u14 a w' H => ?_
    replace H := H.kp [6, 25, 26, 27, 28, 36, 37, 900047]
    refine k_seq ?_
    refine k_cond H (by kernel_rfl) (t := decide (x12 < (a0.length : Int))) (by kernel_rfl) (fun c21 => ?_) (fun c21 => ?_)
    ·rw [if_pos c21] at G
     refine k_skip ?_
     refine k_seq ?_
     refine k_block ?_
     refine k_seq ?_
     replace G := gd G; obtain ⟨b16, G⟩ := G
     replace G := bnd G; obtain ⟨t17, ht17, G⟩ := G
     obtain ⟨p_t17, c_t17, y_t17⟩ := sl_get h_a0 ht17
     refine k_rg mixed H (.cons [29] (ok_valL [36] (fun u15 => [rdl anyF 1 p_a0 c_a0 L_a0 enSl]) (fun u15 => .pointer (some ⟨hdB p_a0, hdO p_a0 + x12.toNat * 1, none⟩)) (fun u15 => true) [true, true] 29 (fun u15 w hg hF => ix_row (t := 27) (k := .i64) (i := x12) (p := p_a0) (n := L_a0.length) (cap := c_a0) (x := a0) (en := enSl) (rdF_of hF.1).2 enSl_len (map_len h_a0) b16 (by kernel_rfl))) <|
   .cons [30] (ok_valL [36] (fun u15 => [rdl anyF 1 p_a0 c_a0 L_a0 enSl]) (fun u15 => .slice p_t17 t17.length c_t17) (fun u15 => true) [true] 30 (fun u15 w hg hF => ld_row (en := enSl) (rdF_of hF.1).2 enSl_len y_t17 0 1 [.slice p_t17 t17.length c_t17] rfl (by kernel_rfl))) <|
   .v 8 (.slice p_t17 t17.length c_t17) <| .nil) fun u15 a w' H => ?_
     replace H := H.kp [6, 8, 25, 26, 27, 36, 37, 900047]
     replace G := gd G; obtain ⟨b19, G⟩ := G
     refine k_rg mixed H (.v 31 (.slice p_x11 x11.length c_x11) <|
   .v 32 (.slice p_t17 t17.length c_t17) <|
   .cons [33, 900047, 900047] (ok_own1 [] [37] (fun u18 => [dnK anyF E_S_TInterval.toPart L_a0]) 900047 (fun u18 => owK 37 2 p_x11 x11.length c_x11 (x11.flatMap en_TInterval)) (some 33) (fun u18 g => .slice (g.o 0) (x11 ++ t17).length (g.n 0)) (fun u18 g => owK 37 2 (g.o 0) ((x11 ++ t17).length) (g.n 0) ((x11 ++ t17).flatMap en_TInterval)) (fun u18 w hF hK => tv_app (run_app_rowsN (t := 22) (ty := 22) (en := en_TInterval) (m := t17) (p2 := p_t17) (n2 := t17.length) (cap2 := c_t17) en_TInterval_len (fun _ => rfl) inf37 (ow_of hK) (show RowC _ 2 p_t17 t17.length c_t17 (t17.flatMap en_TInterval) from ((dn_of hF.1) _ (List.mem_of_getElem? y_t17)).1).2 b19 (by kernel_rfl)))) <|
   .cons [6] (ok_val (fun u18 => .slice ((u18 2).o 0) ((x11 ++ t17).length) ((u18 2).n 0)) 6) <| .nil) fun u18 a w' H => ?_
     replace H := H.kp [6, 25, 26, 27, 36, 37, 900047]
     refine k_rg mixed H (.v 34 (vI (w_i64 (x12 + 1))) <|
   .v 27 (vI (w_i64 (x12 + 1))) <| .nil) fun u20 a w' H => ?_
     replace H := H.kp [6, 25, 26, 27, 36, 37, 900047]
     exact ⟨k, Nat.lt_succ_self k, _, _, G, ((u18 2).o 0), ((u18 2).n 0), (x11 ++ t17).length, rfl, H.toL _ (by kernel_rfl)⟩
    ·rw [if_neg (nt c21)] at G
     refine k_exit rfl ?_
     obtain rfl := Option.some.inj G
     replace H := H.move (K := owK 37 2 p_x11 x11.length c_x11 (x11.flatMap en_TInterval)) 900047 900046 (by kernel_rfl) (by intro _ _ h; cases h)
     exact ⟨p_x11, c_x11, x11.length, rfl, H.toL _ (by kernel_rfl)⟩
 ·clear G; replace G := hj4; clear hj4
  refine k_seq ?_
  refine k_rg mixed H (.v 9 (.slice p_a0 L_a0.length c_a0) <|
   .cons [10] (ok_valL [36] (fun u22 => [rdl anyF 1 p_a0 c_a0 L_a0 enSl]) (fun u22 => vI (a0.length : Int)) (fun u22 => true) [true] 10 (fun u22 w hg hF => run_lenN (((rdF_of hF.1).2.len enSl_len (by decide)).trans (map_len h_a0).symm) (by kernel_rfl))) <|
   .v 11 (vI 0) <| .nil) fun u22 a w' H => ?_
  replace H := H.kp [0, 3, 9, 10, 11, 36, 37]
  refine k_block ?_
  refine k_loopJ (fun m a w' => ∃ x23 : Int, ∃ x24 : Int, api_Interval_70.l25 k0 a0 m x23 x24 = some j4 ∧ Rep w.heap.size w 36 (ofL [(0, sS p_a0 L_a0.length c_a0), (3, sI x23), (9, sS p_a0 L_a0.length c_a0), (10, (sI (a0.length : Int))), (11, sI x24), (36, rdl anyF 1 p_a0 c_a0 L_a0 enSl), (37, dnK anyF E_S_TInterval.toPart L_a0)]) a w') k0 ⟨_, _, G, H.toL _ (by kernel_rfl)⟩ ?_
  clear G H
  rintro (_ | k) a w' ⟨x23, x24, G, H⟩
  ·exact absurd G (by unfold api_Interval_70.l25; exact fun h => by cases h)
  ·unfold api_Interval_70.l25 at G
   refine k_seq ?_
   refine k_rg mixed H (.v 12 (.bool (decide (x24 < (a0.length : Int)))) <| .nil) fun u26 a w' H => ?_
   replace H := H.kp [0, 3, 9, 10, 11, 12, 36, 37]
   refine k_seq ?_
   refine k_cond H (by kernel_rfl) (t := decide (x24 < (a0.length : Int))) (by kernel_rfl) (fun c34 => ?_) (fun c34 => ?_)
   ·rw [if_pos c34] at G
    refine k_skip ?_
    refine k_seq ?_
    refine k_block ?_
    refine k_seq ?_
    replace G := gd G; obtain ⟨b28, G⟩ := G
    replace G := bnd G; obtain ⟨t29, ht29, G⟩ := G
    obtain ⟨p_t29, c_t29, y_t29⟩ := sl_get h_a0 ht29
    refine k_rg mixed H (.cons [13] (ok_valL [36] (fun u27 => [rdl anyF 1 p_a0 c_a0 L_a0 enSl]) (fun u27 => .pointer (some ⟨hdB p_a0, hdO p_a0 + x24.toNat * 1, none⟩)) (fun u27 => true) [true, true] 13 (fun u27 w hg hF => ix_row (t := 27) (k := .i64) (i := x24) (p := p_a0) (n := L_a0.length) (cap := c_a0) (x := a0) (en := enSl) (rdF_of hF.1).2 enSl_len (map_len h_a0) b28 (by kernel_rfl))) <|
   .cons [14] (ok_valL [36] (fun u27 => [rdl anyF 1 p_a0 c_a0 L_a0 enSl]) (fun u27 => .slice p_t29 t29.length c_t29) (fun u27 => true) [true] 14 (fun u27 w hg hF => ld_row (en := enSl) (rdF_of hF.1).2 enSl_len y_t29 0 1 [.slice p_t29 t29.length c_t29] rfl (by kernel_rfl))) <|
   .v 5 (.slice p_t29 t29.length c_t29) <| .nil) fun u27 a w' H => ?_
    replace H := H.kp [0, 3, 5, 9, 10, 11, 36, 37]
    refine k_seq ?_
    refine k_rg mixed H (.v 15 (vI x23) <|
   .v 16 (.slice p_t29 t29.length c_t29) <|
   .v 17 (vI (t29.length : Int)) <|
   .v 18 (vI (w_i64 (x23 + (t29.length : Int)))) <|
   .v 3 (vI (w_i64 (x23 + (t29.length : Int)))) <| .nil) fun u30 a w' H => ?_
    replace H := H.kp [0, 3, 9, 10, 11, 36, 37]
    refine k_seq ?_
    refine k_rg mixed H (.v 19 (vI (w_i64 (x23 + (t29.length : Int)))) <|
   .v 20 (.bool (decide ((w_i64 (x23 + (t29.length : Int))) < 0))) <| .nil) fun u31 a w' H => ?_
    replace H := H.kp [0, 3, 9, 10, 11, 20, 36, 37]
    refine k_cond H (by kernel_rfl) (t := decide ((w_i64 (x23 + (t29.length : Int))) < 0)) (by kernel_rfl) (fun c33 => ?_) (fun c33 => ?_)
    ·rw [if_pos c33] at G
     cases G
    ·rw [if_neg (nt c33)] at G
     refine k_skip ?_
     refine k_rg mixed H (.v 22 (vI (w_i64 (x24 + 1))) <|
   .v 11 (vI (w_i64 (x24 + 1))) <| .nil) fun u32 a w' H => ?_
     replace H := H.kp [0, 3, 9, 10, 11, 36, 37]
     exact ⟨k, Nat.lt_succ_self k, _, _, G, H.toL _ (by kernel_rfl)⟩
   ·rw [if_neg (nt c34)] at G
    refine k_exit rfl ?_
    obtain rfl := Option.some.inj G
    exact H.toL _ (by kernel_rfl)
set_option maxHeartbeats 4000000 in
theorem interval_pick_int.calls (a0 : Bool) (a1 : Int) (a2 : Int) (r : Int) (w : World) (G : interval_pick_int a0 a1 a2 = some r) :
  Calls Tryd.prog 101 #[.bool a0, vI a1, vI a2] w fun e w' => e = .returned (vI r) ∧ Below w.heap.size w w' := by
 refine k_enter (args := [.bool a0, vI a1, vI a2]) 10 Tryd.func101 rfl (by kernel_rfl) (by kernel_rfl) fun a H => ?_
 unfold interval_pick_int at G
 refine k_seq ?_
 refine k_rg mixed H (.v 6 (vI 0) <| .nil) fun u1 a w' H => ?_
 replace H := H.kp [0, 1, 2]
 refine k_seq ?_
 refine k_seq ?_
 refine k_rg mixed H (.v 7 (.bool a0) <| .nil) fun u2 a w' H => ?_
 replace H := H.kp [1, 2, 7]
 refine k_cond H (by kernel_rfl) (t := a0) (by kernel_rfl) (fun c5 => ?_) (fun c5 => ?_)
 ·rw [if_pos c5] at G
  refine k_seq ?_
  refine k_rg mixed H (.v 8 (vI a1) <|
   .v 6 (vI a1) <| .nil) fun u3 a w' H => ?_
  replace H := H.kp [6]
  refine k_ret ?_
  obtain rfl := Option.some.inj G
  exact k_done0 H _ (by kernel_rfl) (by kernel_rfl)
 ·rw [if_neg (nt c5)] at G
  refine k_skip ?_
  refine k_seq ?_
  refine k_rg mixed H (.v 9 (vI a2) <|
   .v 6 (vI a2) <| .nil) fun u4 a w' H => ?_
  replace H := H.kp [6]
  refine k_ret ?_
  obtain rfl := Option.some.inj G
  exact k_done0 H _ (by kernel_rfl) (by kernel_rfl)
set_option maxHeartbeats 4000000 in
theorem interval_Sign.calls (a0 : TInterval) (r : Int) (w : World) (G : interval_Sign a0 = some r) :
  Calls Tryd.prog 96 #[.agg #[vI a0.Lo, vI a0.Hi]] w fun e w' => e = .returned (vI r) ∧ Below w.heap.size w w' := by
 refine k_enter (args := [.agg #[vI a0.Lo, vI a0.Hi]]) 11 Tryd.func96 rfl (by kernel_rfl) (by kernel_rfl) fun a H => ?_
 unfold interval_Sign at G
 refine k_seq ?_
 refine k_rg mixed H (.cons [1, 11] (ok_new (fun b => vP b 0) (fun u1 => [vI a0.Lo, vI a0.Hi]) 37 1 11) <|
   .v 2 (vI 0) <| .nil) fun u1 a w' H => ?_
 replace H := H.kp [1, 11]
 refine k_seq ?_
 replace G := bnd G; obtain ⟨t3, ht3, G⟩ := G
 replace G := bnd G; obtain ⟨t4, ht4, G⟩ := G
 refine k_rg mixed H (.v 3 (vP ((u1 0).n 0) 0) <|
   .cons [4] (ok_ld (fun u2 => vI a0.Lo) 4 11 0 1 (fun u2 => ((u1 0).n 0)) (fun u2 => [vI a0.Lo, vI a0.Hi]) 37) <|
   .v 5 (.bool (decide (a0.Lo > 0))) <|
   .v 6 (vP ((u1 0).n 0) 1) <|
   .cons [7] (ok_ld (fun u2 => vI a0.Hi) 7 11 1 1 (fun u2 => ((u1 0).n 0)) (fun u2 => [vI a0.Lo, vI a0.Hi]) 37) <|
   .v 8 (.bool (decide (a0.Hi < 0))) <|
   .cons [9] (ok_callv 101 (fun u2 => #[.bool (decide (a0.Hi < 0)), vI (-1), vI 0]) (vI t3) 9 [] (fun u2 w _ => interval_pick_int.calls (decide (a0.Hi < 0)) (-1) 0  t3 w  ht3)) <|
   .cons [10] (ok_callv 101 (fun u2 => #[.bool (decide (a0.Lo > 0)), vI 1, vI t3]) (vI t4) 10 [] (fun u2 w _ => interval_pick_int.calls (decide (a0.Lo > 0)) 1 t3  t4 w  ht4)) <|
   .v 2 (vI t4) <| .nil) fun u2 a w' H => ?_
 replace H := H.kp [2]
 refine k_ret ?_
 obtain rfl := Option.some.inj G
 exact k_done0 H _ (by kernel_rfl) (by kernel_rfl)
set_option maxHeartbeats 4000000 in
theorem matrix_mignitude.calls (a0 : TInterval) (r : Int) (w : World) (G : matrix_mignitude a0 = some r) :
  Calls Tryd.prog 97 #[.agg #[vI a0.Lo, vI a0.Hi]] w fun e w' => e = .returned (vI r) ∧ Below w.heap.size w w' := by
 refine k_enter (args := [.agg #[vI a0.Lo, vI a0.Hi]]) 16 Tryd.func97 rfl (by kernel_rfl) (by kernel_rfl) fun a H => ?_
 unfold matrix_mignitude at G
 refine k_seq ?_
 refine k_rg mixed H (.cons [1, 16] (ok_new (fun b => vP b 0) (fun u1 => [vI a0.Lo, vI a0.Hi]) 37 1 16) <|
   .v 2 (vI 0) <| .nil) fun u1 a w' H => ?_
 replace H := H.kp [1, 16]
 refine k_seq ?_
 refine k_rg mixed H (.v 3 (vP ((u1 0).n 0) 0) <|
   .cons [4] (ok_ld (fun u2 => vI a0.Lo) 4 16 0 1 (fun u2 => ((u1 0).n 0)) (fun u2 => [vI a0.Lo, vI a0.Hi]) 37) <|
   .v 5 (vP ((u1 0).n 0) 0) <|
   .cons [6] (ok_ld (fun u2 => vI a0.Lo) 6 16 0 1 (fun u2 => ((u1 0).n 0)) (fun u2 => [vI a0.Lo, vI a0.Hi]) 37) <|
   .v 7 (vI (w_i64 (0 - a0.Lo))) <|
   .v 8 (vI (mx a0.Lo (w_i64 (0 - a0.Lo)))) <|
   .v 9 (vP ((u1 0).n 0) 1) <|
   .cons [10] (ok_ld (fun u2 => vI a0.Hi) 10 16 1 1 (fun u2 => ((u1 0).n 0)) (fun u2 => [vI a0.Lo, vI a0.Hi]) 37) <|
   .v 11 (vP ((u1 0).n 0) 1) <|
   .cons [12] (ok_ld (fun u2 => vI a0.Hi) 12 16 1 1 (fun u2 => ((u1 0).n 0)) (fun u2 => [vI a0.Lo, vI a0.Hi]) 37) <|
   .v 13 (vI (w_i64 (0 - a0.Hi))) <|
   .v 14 (vI (mx a0.Hi (w_i64 (0 - a0.Hi)))) <|
   .v 15 (vI (mn (mx a0.Lo (w_i64 (0 - a0.Lo))) (mx a0.Hi (w_i64 (0 - a0.Hi))))) <|
   .v 2 (vI (mn (mx a0.Lo (w_i64 (0 - a0.Lo))) (mx a0.Hi (w_i64 (0 - a0.Hi))))) <| .nil) fun u2 a w' H => ?_
 replace H := H.kp [2]
 refine k_ret ?_
 obtain rfl := Option.some.inj G
 exact k_done0 H _ (by kernel_rfl) (by kernel_rfl)
set_option maxHeartbeats 4000000 in
theorem matrix_pivotRow.calls (k0 : Nat) (a0 : List (List TInterval)) (a1 : Int) (p_a0 : Option Addr) (c_a0 : Nat) (L_a0 : List (Sl TInterval)) (r : Int) (w : World) (h_a0 : a0 = L_a0.map Sl.l) (hB : AllH [rdl anyF 1 p_a0 c_a0 L_a0 enSl, dnK anyF E_S_TInterval.toPart L_a0] w) (G : matrix_pivotRow k0 a0 a1 = some r) :
  Calls Tryd.prog 71 #[.slice p_a0 L_a0.length c_a0, vI a1] w fun e w' => e = .returned (vI r) ∧ Below w.heap.size w w' := by
 obtain ⟨fr, hfr⟩ : ∃ fr : Nat → Prop, ∀ j, fr j := ⟨fun _ => True, fun _ => trivial⟩
 have hBf : ∀ j, w.heap.size ≤ j → fr j := fun j _ => hfr j
 refine k_enterF (args := [.slice p_a0 L_a0.length c_a0, vI a1]) 48 [(48, rdl anyF 1 p_a0 c_a0 L_a0 enSl), (49, dnK anyF E_S_TInterval.toPart L_a0)] (by
  intro x hx
  simp only [List.mem_cons, List.not_mem_nil, or_false] at hx
  rcases hx with rfl | rfl
  ·exact rdF_fact (rdF_of hB.1) (fun _ _ => trivial) (by decide) _
  ·exact dn_fact (dn_of hB.2.1) (fun _ _ => trivial) _) Tryd.func71 rfl (by kernel_rfl) (by kernel_rfl) fun a H => ?_
 unfold matrix_pivotRow at G
 refine k_seq ?_
 refine k_rg mixed H (.v 4 (vI 0) <| .nil) fun u1 a w' H => ?_
 replace H := H.kp [0, 1, 48, 49]
 refine k_seq ?_
 refine k_rg mixed H (.v 5 (vI (-1)) <| .nil) fun u2 a w' H => ?_
 replace H := H.kp [0, 1, 5, 48, 49]
 refine k_seq ?_
 replace G := bnd G; obtain ⟨j4, hj4, G⟩ := G
 refine k_join (fun a w' => Rep w.heap.size w 48 (ofL [(5, sI j4)]) a w') ?_ ?_
 ·clear H; intro a w' H
  refine k_seq ?_
  refine k_rg mixed H (.v 47 (vI j4) <|
   .v 4 (vI j4) <| .nil) fun u5 a w' H => ?_
  replace H := H.kp [4]
  refine k_ret ?_
  obtain rfl := Option.some.inj G
  exact k_done0 H _ (by kernel_rfl) (by kernel_rfl)
 ·clear G; replace G := hj4; clear hj4
  refine k_seq ?_
  refine k_rg mixed H (.v 7 (vI a1) <|
   .v 6 (vI a1) <| .nil) fun u6 a w' H => ?_
  replace H := H.kp [0, 1, 5, 6, 48, 49]
  refine k_block ?_
  refine k_loopJ (fun m a w' => ∃ x7 : Int, ∃ x8 : Int, matrix_pivotRow.l9 k0 a0 a1 m x7 x8 = some j4 ∧ Rep w.heap.size w 48 (ofL [(0, sS p_a0 L_a0.length c_a0), (1, sI a1), (5, sI x7), (6, sI x8), (48, rdl anyF 1 p_a0 c_a0 L_a0 enSl), (49, dnK anyF E_S_TInterval.toPart L_a0)]) a w') k0 ⟨_, _, G, H.toL _ (by kernel_rfl)⟩ ?_
  clear G H
  rintro (_ | k) a w' ⟨x7, x8, G, H⟩
  ·exact absurd G (by unfold matrix_pivotRow.l9; exact fun h => by cases h)
  ·unfold matrix_pivotRow.l9 at G
   refine k_seq ?_
   refine k_seq ?_
   refine k_rg mixed H (.v 8 (vI x8) <|
   .v 9 (.slice p_a0 L_a0.length c_a0) <|
   .cons [10] (ok_valL [48] (fun u10 => [rdl anyF 1 p_a0 c_a0 L_a0 enSl]) (fun u10 => vI (a0.length : Int)) (fun u10 => true) [true] 10 (fun u10 w hg hF => run_lenN (((rdF_of hF.1).2.len enSl_len (by decide)).trans (map_len h_a0).symm) (by kernel_rfl))) <|
   .v 11 (.bool (decide (x8 < (a0.length : Int)))) <| .nil) fun u10 a w' H => ?_
   replace H := H.kp [0, 1, 5, 6, 11, 48, 49]
   refine k_cond H (by kernel_rfl) (t := decide (x8 < (a0.length : Int))) (by kernel_rfl) (fun c24 => ?_) (fun c24 => ?_)
   ·rw [if_pos c24] at G
    refine k_skip ?_
    refine k_seq ?_
    replace G := bnd G; obtain ⟨j12, hj12, G⟩ := G
    refine k_join (fun a w' => Rep w.heap.size w 48 (ofL [(0, sS p_a0 L_a0.length c_a0), (1, sI a1), (5, sI j12), (6, sI x8), (48, rdl anyF 1 p_a0 c_a0 L_a0 enSl), (49, dnK anyF E_S_TInterval.toPart L_a0)]) a w') ?_ ?_
    ·clear H; intro a w' H
     refine k_rg mixed H (.v 12 (vI x8) <|
   .v 13 (vI (w_i64 (x8 + 1))) <|
   .v 6 (vI (w_i64 (x8 + 1))) <| .nil) fun u13 a w' H => ?_
     replace H := H.kp [0, 1, 5, 6, 48, 49]
     exact ⟨k, Nat.lt_succ_self k, _, _, G, H.toL _ (by kernel_rfl)⟩
    ·clear G; replace G := hj12; clear hj12
     refine k_block ?_
     refine k_seq ?_
     replace G := gd G; obtain ⟨b15, G⟩ := G
     replace G := bnd G; obtain ⟨t16, ht16, G⟩ := G
     obtain ⟨p_t16, c_t16, y_t16⟩ := sl_get h_a0 ht16
     have P17 := ptr_of (en := enSl) (l := L_a0) (rdF_of (H.at (K := rdl anyF 1 p_a0 c_a0 L_a0 enSl) 48 (by kernel_rfl))).2 enSl_len
     replace G := gd G; obtain ⟨b18, G⟩ := G
     replace G := bnd G; obtain ⟨t19, ht19, G⟩ := G
     replace G := bnd G; obtain ⟨t20, ht20, G⟩ := G
     replace G := bnd G; obtain ⟨z21, hz21, G⟩ := G
     replace hz21 := Option.some.inj hz21
     by_cases c22 : z21 = true
     ·rw [if_pos c22] at G; subst c22
      replace G := bnd G; obtain ⟨z22, hz22, G⟩ := G
      replace hz22 := Option.some.inj hz22
      by_cases c35 : z22 = true
      ·rw [if_pos c35] at G; subst c35
       refine k_rg mixed H (.v 14 (.slice p_a0 L_a0.length c_a0) <|
   .v 15 (vI x8) <|
   .cons [16] (ok_val (fun u14 => .pointer (some ⟨hdB p_a0, hdO p_a0 + x8.toNat * 1, none⟩)) 16 (hv := fun _ _ => ix_pure (t := 27) (k := .i64) (i := x8) (p := p_a0) (n := L_a0.length) (cap := c_a0) (x := a0) P17 (map_len h_a0) b15 (by kernel_rfl))) <|
   .cons [17] (ok_valL [48] (fun u14 => [rdl anyF 1 p_a0 c_a0 L_a0 enSl]) (fun u14 => .slice p_t16 t16.length c_t16) (fun u14 => true) [true] 17 (fun u14 w hg hF => ld_row (en := enSl) (rdF_of hF.1).2 enSl_len y_t16 0 1 [.slice p_t16 t16.length c_t16] rfl (by kernel_rfl))) <|
   .v 18 (vI a1) <|
   .cons [19] (ok_valL [49] (fun u14 => [dnK anyF E_S_TInterval.toPart L_a0]) (fun u14 => .pointer (some ⟨hdB p_t16, hdO p_t16 + a1.toNat * 2, none⟩)) (fun u14 => true) [true, true] 19 (fun u14 w hg hF => ix_row (t := 22) (k := .i64) (i := a1) (p := p_t16) (n := t16.length) (cap := c_t16) (x := t16) (en := en_TInterval) (show RowC _ 2 p_t16 t16.length c_t16 (t16.flatMap en_TInterval) from ((dn_of hF.1) _ (List.mem_of_getElem? y_t16)).1).2 en_TInterval_len rfl b18 (by kernel_rfl))) <|
   .cons [20] (ok_valL [49] (fun u14 => [dnK anyF E_S_TInterval.toPart L_a0]) (fun u14 => .agg #[vI t19.Lo, vI t19.Hi]) (fun u14 => true) [true] 20 (fun u14 w hg hF => ld_row (en := en_TInterval) (show RowC _ 2 p_t16 t16.length c_t16 (t16.flatMap en_TInterval) from ((dn_of hF.1) _ (List.mem_of_getElem? y_t16)).1).2 en_TInterval_len ht19 0 2 [vI t19.Lo, vI t19.Hi] rfl (by kernel_rfl))) <|
   .cons [21] (ok_callv 96 (fun u14 => #[.agg #[vI t19.Lo, vI t19.Hi]]) (vI t20) 21 [] (fun u14 w _ => interval_Sign.calls t19  t20 w  ht20)) <|
   .v 22 (.bool (t20 != 0)) <|
   .cons [23] (ok_as (u' := fun u14 => [(23, sB true)]) (ok_val (fun u14 => .bool (t20 != 0)) 23) (fun _ => by rw [hz21])) <|
   .cons [24] (ok_gd (ok_val (fun u14 => vI x7) 24) (by intro _; kernel_rfl)) <|
   .cons [25] (ok_gd (ok_val (fun u14 => .bool (decide (x7 < 0))) 25) (by intro _; kernel_rfl)) <|
   .cons [26] (ok_as (u' := fun u14 => [(26, sB true)]) (ok_gd (ok_val (fun u14 => .bool (decide (x7 < 0))) 26) (by intro _; kernel_rfl)) (fun _ => by rw [hz22])) <|
   .cons [27] (ok_offB 27) <|
   .cons [28] (ok_offB 28) <|
   .cons [29] (ok_offB 29) <|
   .cons [30] (ok_offB 30) <|
   .cons [31] (ok_offB 31) <|
   .cons [32] (ok_offB 32) <|
   .cons [33] (ok_offB 33) <|
   .cons [34] (ok_offB 34) <|
   .cons [35] (ok_offB 35) <|
   .cons [36] (ok_offB 36) <|
   .cons [37] (ok_offB 37) <|
   .cons [38] (ok_offB 38) <|
   .cons [39] (ok_offB 39) <|
   .cons [40] (ok_offB 40) <|
   .cons [41] (ok_offB 41) <|
   .cons [42] (ok_offB 42) <|
   .cons [43] (ok_offB 43) <|
   .cons [44] (ok_gd (ok_pickK (fun u14 => .bool true) 44) (by intro _; kernel_rfl)) <|
   .cons [45] (ok_pickK (fun u14 => .bool true) 45) <| .nil) fun u14 a w' H => ?_
       replace H := H.kp [0, 1, 5, 6, 24, 25, 26, 27, 28, 29, 30, 31, 32, 33, 34, 35, 36, 37, 38, 39, 40, 41, 42, 43, 44, 45, 48, 49]
       refine k_cond_true H (by kernel_rfl) (by kernel_rfl) ?_
       refine k_rg mixed H (.v 46 (vI x8) <|
   .v 5 (vI x8) <| .nil) fun u23 a w' H => ?_
       replace H := H.kp [0, 1, 5, 6, 24, 25, 26, 27, 28, 29, 30, 31, 32, 33, 34, 35, 36, 37, 38, 39, 40, 41, 42, 43, 44, 48, 49]
       obtain rfl := Option.some.inj G
       exact H.toL _ (by kernel_rfl)
      rw [if_neg c35] at G
      by_cases c36 : z22 = false
      ·rw [if_pos c36] at G; subst c36
       replace G := gd G; obtain ⟨b23, G⟩ := G
       replace G := bnd G; obtain ⟨t24, ht24, G⟩ := G
       obtain ⟨p_t24, c_t24, y_t24⟩ := sl_get h_a0 ht24
       replace G := gd G; obtain ⟨b25, G⟩ := G
       replace G := bnd G; obtain ⟨t26, ht26, G⟩ := G
       replace G := bnd G; obtain ⟨t27, ht27, G⟩ := G
       replace G := gd G; obtain ⟨b28, G⟩ := G
       replace G := bnd G; obtain ⟨t29, ht29, G⟩ := G
       obtain ⟨p_t29, c_t29, y_t29⟩ := sl_get h_a0 ht29
       replace G := gd G; obtain ⟨b30, G⟩ := G
       replace G := bnd G; obtain ⟨t31, ht31, G⟩ := G
       replace G := bnd G; obtain ⟨t32, ht32, G⟩ := G
       refine k_rg mixed H (.v 14 (.slice p_a0 L_a0.length c_a0) <|
   .v 15 (vI x8) <|
   .cons [16] (ok_val (fun u14 => .pointer (some ⟨hdB p_a0, hdO p_a0 + x8.toNat * 1, none⟩)) 16 (hv := fun _ _ => ix_pure (t := 27) (k := .i64) (i := x8) (p := p_a0) (n := L_a0.length) (cap := c_a0) (x := a0) P17 (map_len h_a0) b15 (by kernel_rfl))) <|
   .cons [17] (ok_valL [48] (fun u14 => [rdl anyF 1 p_a0 c_a0 L_a0 enSl]) (fun u14 => .slice p_t16 t16.length c_t16) (fun u14 => true) [true] 17 (fun u14 w hg hF => ld_row (en := enSl) (rdF_of hF.1).2 enSl_len y_t16 0 1 [.slice p_t16 t16.length c_t16] rfl (by kernel_rfl))) <|
   .v 18 (vI a1) <|
   .cons [19] (ok_valL [49] (fun u14 => [dnK anyF E_S_TInterval.toPart L_a0]) (fun u14 => .pointer (some ⟨hdB p_t16, hdO p_t16 + a1.toNat * 2, none⟩)) (fun u14 => true) [true, true] 19 (fun u14 w hg hF => ix_row (t := 22) (k := .i64) (i := a1) (p := p_t16) (n := t16.length) (cap := c_t16) (x := t16) (en := en_TInterval) (show RowC _ 2 p_t16 t16.length c_t16 (t16.flatMap en_TInterval) from ((dn_of hF.1) _ (List.mem_of_getElem? y_t16)).1).2 en_TInterval_len rfl b18 (by kernel_rfl))) <|
   .cons [20] (ok_valL [49] (fun u14 => [dnK anyF E_S_TInterval.toPart L_a0]) (fun u14 => .agg #[vI t19.Lo, vI t19.Hi]) (fun u14 => true) [true] 20 (fun u14 w hg hF => ld_row (en := en_TInterval) (show RowC _ 2 p_t16 t16.length c_t16 (t16.flatMap en_TInterval) from ((dn_of hF.1) _ (List.mem_of_getElem? y_t16)).1).2 en_TInterval_len ht19 0 2 [vI t19.Lo, vI t19.Hi] rfl (by kernel_rfl))) <|
   .cons [21] (ok_callv 96 (fun u14 => #[.agg #[vI t19.Lo, vI t19.Hi]]) (vI t20) 21 [] (fun u14 w _ => interval_Sign.calls t19  t20 w  ht20)) <|
   .v 22 (.bool (t20 != 0)) <|
   .cons [23] (ok_as (u' := fun u14 => [(23, sB true)]) (ok_val (fun u14 => .bool (t20 != 0)) 23) (fun _ => by rw [hz21])) <|
   .cons [24] (ok_gd (ok_val (fun u14 => vI x7) 24) (by intro _; kernel_rfl)) <|
   .cons [25] (ok_gd (ok_val (fun u14 => .bool (decide (x7 < 0))) 25) (by intro _; kernel_rfl)) <|
   .cons [26] (ok_as (u' := fun u14 => [(26, sB false)]) (ok_gd (ok_val (fun u14 => .bool (decide (x7 < 0))) 26) (by intro _; kernel_rfl)) (fun _ => by rw [hz22])) <|
   .cons [27] (ok_gd (ok_val (fun u14 => .slice p_a0 L_a0.length c_a0) 27) (by intro _; kernel_rfl)) <|
   .cons [28] (ok_gd (ok_val (fun u14 => vI x8) 28) (by intro _; kernel_rfl)) <|
   .cons [29] (ok_gd (ok_val (fun u14 => .pointer (some ⟨hdB p_a0, hdO p_a0 + x8.toNat * 1, none⟩)) 29 (hv := fun _ _ => ix_pure (t := 27) (k := .i64) (i := x8) (p := p_a0) (n := L_a0.length) (cap := c_a0) (x := a0) P17 (map_len h_a0) b23 (by kernel_rfl))) (by intro _; kernel_rfl)) <|
   .cons [30] (ok_gd (ok_valL [48] (fun u14 => [rdl anyF 1 p_a0 c_a0 L_a0 enSl]) (fun u14 => .slice p_t24 t24.length c_t24) (fun u14 => true) [true] 30 (fun u14 w hg hF => ld_row (en := enSl) (rdF_of hF.1).2 enSl_len y_t24 0 1 [.slice p_t24 t24.length c_t24] rfl (by kernel_rfl))) (by intro _; kernel_rfl)) <|
   .cons [31] (ok_gd (ok_val (fun u14 => vI a1) 31) (by intro _; kernel_rfl)) <|
   .cons [32] (ok_gd (ok_valL [49] (fun u14 => [dnK anyF E_S_TInterval.toPart L_a0]) (fun u14 => .pointer (some ⟨hdB p_t24, hdO p_t24 + a1.toNat * 2, none⟩)) (fun u14 => true) [true, true] 32 (fun u14 w hg hF => ix_row (t := 22) (k := .i64) (i := a1) (p := p_t24) (n := t24.length) (cap := c_t24) (x := t24) (en := en_TInterval) (show RowC _ 2 p_t24 t24.length c_t24 (t24.flatMap en_TInterval) from ((dn_of hF.1) _ (List.mem_of_getElem? y_t24)).1).2 en_TInterval_len rfl b25 (by kernel_rfl))) (by intro _; kernel_rfl)) <|
   .cons [33] (ok_gd (ok_valL [49] (fun u14 => [dnK anyF E_S_TInterval.toPart L_a0]) (fun u14 => .agg #[vI t26.Lo, vI t26.Hi]) (fun u14 => true) [true] 33 (fun u14 w hg hF => ld_row (en := en_TInterval) (show RowC _ 2 p_t24 t24.length c_t24 (t24.flatMap en_TInterval) from ((dn_of hF.1) _ (List.mem_of_getElem? y_t24)).1).2 en_TInterval_len ht26 0 2 [vI t26.Lo, vI t26.Hi] rfl (by kernel_rfl))) (by intro _; kernel_rfl)) <|
   .cons [34] (ok_gd (ok_callv 97 (fun u14 => #[.agg #[vI t26.Lo, vI t26.Hi]]) (vI t27) 34 [] (fun u14 w _ => matrix_mignitude.calls t26  t27 w  ht27)) (by intro _; kernel_rfl)) <|
   .cons [35] (ok_gd (ok_val (fun u14 => .slice p_a0 L_a0.length c_a0) 35) (by intro _; kernel_rfl)) <|
   .cons [36] (ok_gd (ok_val (fun u14 => vI x7) 36) (by intro _; kernel_rfl)) <|
   .cons [37] (ok_gd (ok_val (fun u14 => .pointer (some ⟨hdB p_a0, hdO p_a0 + x7.toNat * 1, none⟩)) 37 (hv := fun _ _ => ix_pure (t := 27) (k := .i64) (i := x7) (p := p_a0) (n := L_a0.length) (cap := c_a0) (x := a0) P17 (map_len h_a0) b28 (by kernel_rfl))) (by intro _; kernel_rfl)) <|
   .cons [38] (ok_gd (ok_valL [48] (fun u14 => [rdl anyF 1 p_a0 c_a0 L_a0 enSl]) (fun u14 => .slice p_t29 t29.length c_t29) (fun u14 => true) [true] 38 (fun u14 w hg hF => ld_row (en := enSl) (rdF_of hF.1).2 enSl_len y_t29 0 1 [.slice p_t29 t29.length c_t29] rfl (by kernel_rfl))) (by intro _; kernel_rfl)) <|
   .cons [39] (ok_gd (ok_val (fun u14 => vI a1) 39) (by intro _; kernel_rfl)) <|
   .cons [40] (ok_gd (ok_valL [49] (fun u14 => [dnK anyF E_S_TInterval.toPart L_a0]) (fun u14 => .pointer (some ⟨hdB p_t29, hdO p_t29 + a1.toNat * 2, none⟩)) (fun u14 => true) [true, true] 40 (fun u14 w hg hF => ix_row (t := 22) (k := .i64) (i := a1) (p := p_t29) (n := t29.length) (cap := c_t29) (x := t29) (en := en_TInterval) (show RowC _ 2 p_t29 t29.length c_t29 (t29.flatMap en_TInterval) from ((dn_of hF.1) _ (List.mem_of_getElem? y_t29)).1).2 en_TInterval_len rfl b30 (by kernel_rfl))) (by intro _; kernel_rfl)) <|
   .cons [41] (ok_gd (ok_valL [49] (fun u14 => [dnK anyF E_S_TInterval.toPart L_a0]) (fun u14 => .agg #[vI t31.Lo, vI t31.Hi]) (fun u14 => true) [true] 41 (fun u14 w hg hF => ld_row (en := en_TInterval) (show RowC _ 2 p_t29 t29.length c_t29 (t29.flatMap en_TInterval) from ((dn_of hF.1) _ (List.mem_of_getElem? y_t29)).1).2 en_TInterval_len ht31 0 2 [vI t31.Lo, vI t31.Hi] rfl (by kernel_rfl))) (by intro _; kernel_rfl)) <|
   .cons [42] (ok_gd (ok_callv 97 (fun u14 => #[.agg #[vI t31.Lo, vI t31.Hi]]) (vI t32) 42 [] (fun u14 w _ => matrix_mignitude.calls t31  t32 w  ht32)) (by intro _; kernel_rfl)) <|
   .cons [43] (ok_gd (ok_val (fun u14 => .bool (decide (t27 > t32))) 43) (by intro _; kernel_rfl)) <|
   .cons [44] (ok_gd (ok_pickK (fun u14 => .bool (decide (t27 > t32))) 44) (by intro _; kernel_rfl)) <|
   .cons [45] (ok_pickK (fun u14 => .bool (decide (t27 > t32))) 45) <| .nil) fun u14 a w' H => ?_
       replace H := H.kp [0, 1, 5, 6, 24, 25, 26, 27, 28, 29, 30, 31, 32, 33, 34, 35, 36, 37, 38, 39, 40, 41, 42, 43, 44, 45, 48, 49]
       refine k_cond H (by kernel_rfl) (t := decide (t27 > t32)) (by kernel_rfl) (fun c34 => ?_) (fun c34 => ?_)
       ·rw [if_pos c34] at G
        refine k_rg mixed H (.v 46 (vI x8) <|
   .v 5 (vI x8) <| .nil) fun u33 a w' H => ?_
        replace H := H.kp [0, 1, 5, 6, 24, 25, 26, 27, 28, 29, 30, 31, 32, 33, 34, 35, 36, 37, 38, 39, 40, 41, 42, 43, 44, 48, 49]
        obtain rfl := Option.some.inj G
        exact H.toL _ (by kernel_rfl)
       ·rw [if_neg (nt c34)] at G
        refine k_skip ?_
        obtain rfl := Option.some.inj G
        exact H.toL _ (by kernel_rfl)
      rw [if_neg c36] at G
      cases G
     rw [if_neg c22] at G
     by_cases c23 : z21 = false
     ·rw [if_pos c23] at G; subst c23
      refine k_rg mixed H (.v 14 (.slice p_a0 L_a0.length c_a0) <|
   .v 15 (vI x8) <|
   .cons [16] (ok_val (fun u14 => .pointer (some ⟨hdB p_a0, hdO p_a0 + x8.toNat * 1, none⟩)) 16 (hv := fun _ _ => ix_pure (t := 27) (k := .i64) (i := x8) (p := p_a0) (n := L_a0.length) (cap := c_a0) (x := a0) P17 (map_len h_a0) b15 (by kernel_rfl))) <|
   .cons [17] (ok_valL [48] (fun u14 => [rdl anyF 1 p_a0 c_a0 L_a0 enSl]) (fun u14 => .slice p_t16 t16.length c_t16) (fun u14 => true) [true] 17 (fun u14 w hg hF => ld_row (en := enSl) (rdF_of hF.1).2 enSl_len y_t16 0 1 [.slice p_t16 t16.length c_t16] rfl (by kernel_rfl))) <|
   .v 18 (vI a1) <|
   .cons [19] (ok_valL [49] (fun u14 => [dnK anyF E_S_TInterval.toPart L_a0]) (fun u14 => .pointer (some ⟨hdB p_t16, hdO p_t16 + a1.toNat * 2, none⟩)) (fun u14 => true) [true, true] 19 (fun u14 w hg hF => ix_row (t := 22) (k := .i64) (i := a1) (p := p_t16) (n := t16.length) (cap := c_t16) (x := t16) (en := en_TInterval) (show RowC _ 2 p_t16 t16.length c_t16 (t16.flatMap en_TInterval) from ((dn_of hF.1) _ (List.mem_of_getElem? y_t16)).1).2 en_TInterval_len rfl b18 (by kernel_rfl))) <|
   .cons [20] (ok_valL [49] (fun u14 => [dnK anyF E_S_TInterval.toPart L_a0]) (fun u14 => .agg #[vI t19.Lo, vI t19.Hi]) (fun u14 => true) [true] 20 (fun u14 w hg hF => ld_row (en := en_TInterval) (show RowC _ 2 p_t16 t16.length c_t16 (t16.flatMap en_TInterval) from ((dn_of hF.1) _ (List.mem_of_getElem? y_t16)).1).2 en_TInterval_len ht19 0 2 [vI t19.Lo, vI t19.Hi] rfl (by kernel_rfl))) <|
   .cons [21] (ok_callv 96 (fun u14 => #[.agg #[vI t19.Lo, vI t19.Hi]]) (vI t20) 21 [] (fun u14 w _ => interval_Sign.calls t19  t20 w  ht20)) <|
   .v 22 (.bool (t20 != 0)) <|
   .cons [23] (ok_as (u' := fun u14 => [(23, sB false)]) (ok_val (fun u14 => .bool (t20 != 0)) 23) (fun _ => by rw [hz21])) <|
   .cons [24] (ok_offB 24) <|
   .cons [25] (ok_offB 25) <|
   .cons [26] (ok_offB 26) <|
   .cons [27] (ok_offB 27) <|
   .cons [28] (ok_offB 28) <|
   .cons [29] (ok_offB 29) <|
   .cons [30] (ok_offB 30) <|
   .cons [31] (ok_offB 31) <|
   .cons [32] (ok_offB 32) <|
   .cons [33] (ok_offB 33) <|
   .cons [34] (ok_offB 34) <|
   .cons [35] (ok_offB 35) <|
   .cons [36] (ok_offB 36) <|
   .cons [37] (ok_offB 37) <|
   .cons [38] (ok_offB 38) <|
   .cons [39] (ok_offB 39) <|
   .cons [40] (ok_offB 40) <|
   .cons [41] (ok_offB 41) <|
   .cons [42] (ok_offB 42) <|
   .cons [43] (ok_offB 43) <|
   .cons [44] (ok_offB 44) <|
   .cons [45] (ok_pickK (fun u14 => .bool false) 45) <| .nil) fun u14 a w' H => ?_
      replace H := H.kp [0, 1, 5, 6, 24, 25, 26, 27, 28, 29, 30, 31, 32, 33, 34, 35, 36, 37, 38, 39, 40, 41, 42, 43, 44, 45, 48, 49]
      refine k_cond_false H (by kernel_rfl) (by kernel_rfl) ?_
      refine k_skip ?_
      obtain rfl := Option.some.inj G
      exact H.toL _ (by kernel_rfl)
     rw [if_neg c23] at G
     cases G
   ·rw [if_neg (nt c24)] at G
    refine k_exit rfl ?_
    obtain rfl := Option.some.inj G
    exact H.toL _ (by kernel_rfl)
set_option maxHeartbeats 4000000 in
theorem interval_Contains.calls (a0 : TInterval) (a1 : Int) (r : Bool) (w : World) (G : interval_Contains a0 a1 = some r) :
  Calls Tryd.prog 98 #[.agg #[vI a0.Lo, vI a0.Hi], vI a1] w fun e w' => e = .returned (.bool r) ∧ Below w.heap.size w w' := by
 refine k_enter (args := [.agg #[vI a0.Lo, vI a0.Hi], vI a1]) 19 Tryd.func98 rfl (by kernel_rfl) (by kernel_rfl) fun a H => ?_
 unfold interval_Contains at G
 refine k_seq ?_
 refine k_rg mixed H (.cons [2, 19] (ok_new (fun b => vP b 0) (fun u1 => [vI a0.Lo, vI a0.Hi]) 37 2 19) <|
   .v 4 (.bool false) <| .nil) fun u1 a w' H => ?_
 replace H := H.kp [1, 2, 19]
 refine k_seq ?_
 replace G := bnd G; obtain ⟨t3, ht3, G⟩ := G
 refine k_rg mixed H (.cons [5] (ok_ld (fun u2 => .agg #[vI a0.Lo, vI a0.Hi]) 5 19 0 2 (fun u2 => ((u1 0).n 0)) (fun u2 => [vI a0.Lo, vI a0.Hi]) 37) <|
   .cons [6] (ok_callv 76 (fun u2 => #[.agg #[vI a0.Lo, vI a0.Hi]]) (.bool t3) 6 [] (fun u2 w _ => interval_IsEntire.calls a0  t3 w  ht3)) <|
   .v 7 (.bool t3) <|
   .cons [8] (ok_valg (fun u2 => vP ((u1 0).n 0) 0) (fun u2 => (t3 == false)) [true] 8) <|
   .cons [9] (ok_ldg (fun u2 => vI a0.Lo) (fun u2 => (t3 == false)) [false] 9 19 0 1 (fun u2 => ((u1 0).n 0)) (fun u2 => [vI a0.Lo, vI a0.Hi]) 37) <|
   .cons [10] (ok_valg (fun u2 => vI a1) (fun u2 => (t3 == false)) [true] 10) <|
   .cons [11] (ok_valg (fun u2 => .bool (decide (a0.Lo ≤ a1))) (fun u2 => (t3 == false)) [false, false] 11) <|
   .cons [12] (ok_valg (fun u2 => .bool (decide (a0.Lo ≤ a1))) (fun u2 => (t3 == false)) [false] 12) <|
   .cons [13] (ok_valg (fun u2 => vI a1) (fun u2 => ((t3 == false) && ((decide (a0.Lo ≤ a1)) == true))) [true] 13) <|
   .cons [14] (ok_valg (fun u2 => vP ((u1 0).n 0) 1) (fun u2 => ((t3 == false) && ((decide (a0.Lo ≤ a1)) == true))) [true] 14) <|
   .cons [15] (ok_ldg (fun u2 => vI a0.Hi) (fun u2 => ((t3 == false) && ((decide (a0.Lo ≤ a1)) == true))) [false] 15 19 1 1 (fun u2 => ((u1 0).n 0)) (fun u2 => [vI a0.Lo, vI a0.Hi]) 37) <|
   .cons [16] (ok_valg (fun u2 => .bool (decide (a1 ≤ a0.Hi))) (fun u2 => ((t3 == false) && ((decide (a0.Lo ≤ a1)) == true))) [false, false] 16) <|
   .cons [17] (ok_and 12 16 (fun u2 => (t3 == false)) (fun u2 => (t3 == false)) (fun u2 => decide (a0.Lo ≤ a1)) (fun u2 => decide (a1 ≤ a0.Hi)) 17) <|
   .cons [18] (ok_or 7 17 (fun u2 => true) (fun u2 => true) (fun u2 => t3) (fun u2 => ((decide (a0.Lo ≤ a1)) && (decide (a1 ≤ a0.Hi)))) 18) <|
   .v 4 (.bool (t3 || ((decide (a0.Lo ≤ a1)) && (decide (a1 ≤ a0.Hi))))) <| .nil) fun u2 a w' H => ?_
 replace H := H.kp [4]
 refine k_ret ?_
 obtain rfl := Option.some.inj G
 exact k_done0 H _ (by kernel_rfl) (by kernel_rfl)
set_option maxHeartbeats 4000000 in
theorem fixed_Div.calls (a0 : Int) (a1 : Int) (r : Int × Int × Int) (w : World) (G : fixed_Div a0 a1 = some r) :
  Calls Tryd.prog 102 #[vI a0, vI a1] w fun e w' => e = .returned (.tuple #[vI r.1, vI r.2.1, vI r.2.2]) ∧ Below w.heap.size w w' := by
 refine k_enter (args := [vI a0, vI a1]) 20 Tryd.func102 rfl (by kernel_rfl) (by kernel_rfl) fun a H => ?_
 unfold fixed_Div at G
 refine k_seq ?_
 refine k_rg mixed H (.v 4 (vI 0) <|
   .v 5 (vI 0) <|
   .v 6 (vI 0) <| .nil) fun u1 a w' H => ?_
 replace H := H.kp [0, 1]
 refine k_seq ?_
 refine k_seq ?_
 refine k_rg mixed H (.v 9 (vI a1) <|
   .v 10 (.bool (a1 == 0)) <| .nil) fun u2 a w' H => ?_
 replace H := H.kp [0, 1, 10]
 refine k_cond H (by kernel_rfl) (t := (a1 == 0)) (by kernel_rfl) (fun c7 => ?_) (fun c7 => ?_)
 ·rw [if_pos c7] at G
  refine k_seq ?_
  refine k_rg mixed H (.v 4 (vI 0) <|
   .v 5 (vI 0) <|
   .v 6 (vI 3) <| .nil) fun u3 a w' H => ?_
  replace H := H.kp [4, 5, 6]
  refine k_ret ?_
  obtain rfl := Option.some.inj G
  exact k_done0 H _ (by kernel_rfl) (by kernel_rfl)
 ·rw [if_neg (nt c7)] at G
  refine k_skip ?_
  refine k_seq ?_
  replace G := bnd G; obtain ⟨t5, ht5, G⟩ := G
  refine k_rg mixed H (.v 12 (vI a0) <|
   .v 13 (vI (w_i64 (a0 * 65536))) <|
   .v 14 (vI a1) <|
   .cons [15] (ok_callv 109 (fun u4 => #[vI (w_i64 (a0 * 65536)), vI a1]) (.tuple #[vI t5.1, vI t5.2]) 15 [] (fun u4 w _ => fixed_divide.calls (w_i64 (a0 * 65536)) a1  t5 w  ht5)) <|
   .v 11 (.tuple #[vI t5.1, vI t5.2]) <|
   .v 16 (vI t5.1) <|
   .v 17 (vI t5.2) <|
   .v 7 (vI t5.1) <|
   .v 8 (vI t5.2) <| .nil) fun u4 a w' H => ?_
  replace H := H.kp [7, 8]
  refine k_seq ?_
  refine k_rg mixed H (.v 18 (vI t5.1) <|
   .v 19 (vI t5.2) <|
   .v 4 (vI t5.1) <|
   .v 5 (vI t5.2) <|
   .v 6 (vI 0) <| .nil) fun u6 a w' H => ?_
  replace H := H.kp [4, 5, 6]
  refine k_ret ?_
  obtain rfl := Option.some.inj G
  exact k_done0 H _ (by kernel_rfl) (by kernel_rfl)
set_option maxHeartbeats 4000000 in
theorem interval_Div.calls (a0 : TInterval) (a1 : TInterval) (r : TInterval) (w : World) (hg : Glob w) (G : interval_Div a0 a1 = some r) :
  Calls Tryd.prog 72 #[.agg #[vI a0.Lo, vI a0.Hi], .agg #[vI a1.Lo, vI a1.Hi]] w fun e w' => e = .returned (.agg #[vI r.Lo, vI r.Hi]) ∧ Below w.heap.size w w' := by
 refine k_enterG (args := [.agg #[vI a0.Lo, vI a0.Hi], .agg #[vI a1.Lo, vI a1.Hi]]) 59 999999 globFp Glob (glob_local hg) (glob_in hg) Tryd.func72 rfl (by kernel_rfl) (by kernel_rfl) fun a H => ?_
 unfold interval_Div at G
 refine k_seq ?_
 refine k_rg mixed H (.cons [2, 59] (ok_new (fun b => vP b 0) (fun u1 => [vI a0.Lo, vI a0.Hi]) 37 2 59) <|
   .cons [3, 60] (ok_new (fun b => vP b 0) (fun u1 => [vI a1.Lo, vI a1.Hi]) 37 3 60) <|
   .cons [4, 61] (ok_new (fun b => vP b 0) (fun u1 => [vI 0, vI 0]) 37 4 61) <| .nil) fun u1 a w' H => ?_
 replace H := H.kp [2, 3, 4, 59, 60, 61, 999999]
 refine k_seq ?_
 refine k_seq ?_
 replace G := bnd G; obtain ⟨t3, ht3, G⟩ := G
 replace G := bnd G; obtain ⟨t4, ht4, G⟩ := G
 replace G := bnd G; obtain ⟨t5, ht5, G⟩ := G
 refine k_rg mixed H (.cons [12] (ok_ld (fun u2 => .agg #[vI a0.Lo, vI a0.Hi]) 12 59 0 2 (fun u2 => ((u1 0).n 0)) (fun u2 => [vI a0.Lo, vI a0.Hi]) 37) <|
   .cons [13] (ok_callv 76 (fun u2 => #[.agg #[vI a0.Lo, vI a0.Hi]]) (.bool t3) 13 [] (fun u2 w _ => interval_IsEntire.calls a0  t3 w  ht3)) <|
   .v 14 (.bool t3) <|
   .cons [15] (ok_ldg (fun u2 => .agg #[vI a1.Lo, vI a1.Hi]) (fun u2 => (t3 == false)) [true] 15 60 0 2 (fun u2 => ((u1 1).n 0)) (fun u2 => [vI a1.Lo, vI a1.Hi]) 37) <|
   .cons [16] (ok_call 76 (fun u2 => #[.agg #[vI a1.Lo, vI a1.Hi]]) (.bool t4) (fun u2 => (t3 == false)) [true, false] 16 [] (fun u2 w hg _ => interval_IsEntire.calls a1  t4 w  (ifp ht4 hg))) <|
   .cons [17] (ok_or 14 16 (fun u2 => true) (fun u2 => true) (fun u2 => t3) (fun u2 => t4) 17) <|
   .v 18 (.bool (t3 || t4)) <|
   .cons [19] (ok_ldg (fun u2 => .agg #[vI a1.Lo, vI a1.Hi]) (fun u2 => ((t3 || t4) == false)) [true] 19 60 0 2 (fun u2 => ((u1 1).n 0)) (fun u2 => [vI a1.Lo, vI a1.Hi]) 37) <|
   .cons [20] (ok_call 98 (fun u2 => #[.agg #[vI a1.Lo, vI a1.Hi], vI 0]) (.bool t5) (fun u2 => ((t3 || t4) == false)) [true, false, true] 20 [] (fun u2 w hg _ => interval_Contains.calls a1 0  t5 w  (ifp ht5 hg))) <|
   .cons [21] (ok_or 18 20 (fun u2 => true) (fun u2 => true) (fun u2 => (t3 || t4)) (fun u2 => t5) 21) <| .nil) fun u2 a w' H => ?_
 replace H := H.kp [2, 3, 4, 21, 59, 60, 61, 999999]
 refine k_cond H (by kernel_rfl) (t := ((t3 || t4) || t5)) (by kernel_rfl) (fun c24 => ?_) (fun c24 => ?_)
 ·rw [if_pos c24] at G
  refine k_seq ?_
  replace G := bnd G; obtain ⟨t7, ht7, G⟩ := G
  refine k_rg mixed H (.cons [22] (ok_callv 99 (fun u6 => #[]) (.agg #[vI t7.Lo, vI t7.Hi]) 22 [] (fun u6 w _ => interval_Entire.calls   t7 w  ht7)) <|
   .cons [61] (ok_as (u' := fun u6 => [(61, .blk ((u1 2).n 0) [vI t7.Lo, vI t7.Hi] 37)]) (ok_store 61 0 (fun u6 => ((u1 2).n 0)) (fun u6 => [vI 0, vI 0]) (fun u6 => [vI t7.Lo, vI t7.Hi]) 37) (fun _ => by kernel_rfl)) <| .nil) fun u6 a w' H => ?_
  replace H := H.kp [4, 61, 999999]
  refine k_ret ?_
  obtain rfl := Option.some.inj G
  exact k_done1 H _ 61 ((u1 2).n 0) [vI t7.Lo, vI t7.Hi] 37 0 2 (by kernel_rfl) (by kernel_rfl) (by kernel_rfl) (by kernel_rfl)
 ·rw [if_neg (nt c24)] at G
  refine k_skip ?_
  refine k_seq ?_
  replace G := bnd G; obtain ⟨t9, ht9, G⟩ := G
  by_cases c21 : t9 = 0
  ·rw [if_pos c21] at G; subst c21
   replace G := bnd G; obtain ⟨t10, ht10, G⟩ := G
   by_cases c19 : t10 = 0
   ·rw [if_pos c19] at G; subst c19
    refine k_rg mixed H (.cons [23] (ok_ld (fun u8 => .agg #[vI a0.Lo, vI a0.Hi]) 23 59 0 2 (fun u8 => ((u1 0).n 0)) (fun u8 => [vI a0.Lo, vI a0.Hi]) 37) <|
   .cons [24] (ok_callv 100 (fun u8 => #[.agg #[vI a0.Lo, vI a0.Hi]]) (vI 0) 24 [] (fun u8 w _ => interval_side.calls a0  0 w  ht9)) <|
   .v 25 (vP ((u1 1).n 0) 0) <|
   .cons [26] (ok_ld (fun u8 => vI a1.Lo) 26 60 0 1 (fun u8 => ((u1 1).n 0)) (fun u8 => [vI a1.Lo, vI a1.Hi]) 37) <|
   .v 27 (.bool (decide (a1.Lo > 0))) <|
   .cons [28] (ok_callv 101 (fun u8 => #[.bool (decide (a1.Lo > 0)), vI 1, vI 0]) (vI 0) 28 [] (fun u8 w _ => interval_pick_int.calls (decide (a1.Lo > 0)) 1 0  0 w  ht10)) <|
   .v 29 (vP 0 0) <|
   .v 30 (vP 0 0) <|
   .cons [31] (ok_ldK (fun u8 => .agg #[.func (.func 130) #[] #[], .func (.func 131) #[] #[]]) 31 999999 gk 0 0 2 gTab0 (fun w h => (glob_of h).tab0)) <|
   .cons [5, 62] (ok_new (fun b => vP b 0) (fun u8 => [.nilFunc, .nilFunc]) 104 5 62) <|
   .cons [62] (ok_as (u' := fun u8 => [(62, .blk ((u8 9).n 0) [.func (.func 130) #[] #[], .func (.func 131) #[] #[]] 104)]) (ok_store 62 0 (fun u8 => ((u8 9).n 0)) (fun u8 => [.nilFunc, .nilFunc]) (fun u8 => [.func (.func 130) #[] #[], .func (.func 131) #[] #[]]) 104) (fun _ => by kernel_rfl)) <| .nil) fun u8 a w' H => ?_
    replace H := H.kp [2, 3, 4, 5, 59, 60, 61, 62, 999999]
    refine k_seq ?_
    replace G := bnd G; obtain ⟨t12, ht12, G⟩ := G
    replace G := bnd G; obtain ⟨t13, ht13, G⟩ := G
    refine k_rg mixed H (.v 33 (vP ((u8 9).n 0) 0) <|
   .cons [34] (ok_ld (fun u11 => .func (.func 130) #[] #[]) 34 62 0 1 (fun u11 => ((u8 9).n 0)) (fun u11 => [.func (.func 130) #[] #[], .func (.func 131) #[] #[]]) 104) <|
   .cons [35] (ok_ld (fun u11 => .agg #[vI a0.Lo, vI a0.Hi]) 35 59 0 2 (fun u11 => ((u1 0).n 0)) (fun u11 => [vI a0.Lo, vI a0.Hi]) 37) <|
   .cons [36] (ok_ld (fun u11 => .agg #[vI a1.Lo, vI a1.Hi]) 36 60 0 2 (fun u11 => ((u1 1).n 0)) (fun u11 => [vI a1.Lo, vI a1.Hi]) 37) <|
   .cons [37] (ok_callv 130 (fun u11 => #[.agg #[vI a0.Lo, vI a0.Hi], .agg #[vI a1.Lo, vI a1.Hi]]) (.tuple #[vI t12.1, vI t12.2]) 37 [] (fun u11 w _ => interval_hl.calls a0 a1  t12 w  ht12)) <|
   .v 38 (vI t12.1) <|
   .v 39 (vI t12.2) <|
   .cons [40] (ok_callv 102 (fun u11 => #[vI t12.1, vI t12.2]) (.tuple #[vI t13.1, vI t13.2.1, vI t13.2.2]) 40 [] (fun u11 w _ => fixed_Div.calls t12.1 t12.2  t13 w  ht13)) <|
   .v 32 (.tuple #[vI t13.1, vI t13.2.1, vI t13.2.2]) <|
   .v 41 (vI t13.1) <|
   .v 42 (vI t13.2.1) <|
   .v 43 (vI t13.2.2) <|
   .v 6 (vI t13.1) <|
   .v 7 (vI t13.2.1) <|
   .v 8 (vI t13.2.2) <| .nil) fun u11 a w' H => ?_
    replace H := H.kp [2, 3, 4, 5, 6, 59, 60, 61, 62, 999999]
    refine k_seq ?_
    replace G := bnd G; obtain ⟨t15, ht15, G⟩ := G
    replace G := bnd G; obtain ⟨t16, ht16, G⟩ := G
    refine k_rg mixed H (.v 45 (vP ((u8 9).n 0) 1) <|
   .cons [46] (ok_ld (fun u14 => .func (.func 131) #[] #[]) 46 62 1 1 (fun u14 => ((u8 9).n 0)) (fun u14 => [.func (.func 130) #[] #[], .func (.func 131) #[] #[]]) 104) <|
   .cons [47] (ok_ld (fun u14 => .agg #[vI a0.Lo, vI a0.Hi]) 47 59 0 2 (fun u14 => ((u1 0).n 0)) (fun u14 => [vI a0.Lo, vI a0.Hi]) 37) <|
   .cons [48] (ok_ld (fun u14 => .agg #[vI a1.Lo, vI a1.Hi]) 48 60 0 2 (fun u14 => ((u1 1).n 0)) (fun u14 => [vI a1.Lo, vI a1.Hi]) 37) <|
   .cons [49] (ok_callv 131 (fun u14 => #[.agg #[vI a0.Lo, vI a0.Hi], .agg #[vI a1.Lo, vI a1.Hi]]) (.tuple #[vI t15.1, vI t15.2]) 49 [] (fun u14 w _ => interval_lh.calls a0 a1  t15 w  ht15)) <|
   .v 50 (vI t15.1) <|
   .v 51 (vI t15.2) <|
   .cons [52] (ok_callv 102 (fun u14 => #[vI t15.1, vI t15.2]) (.tuple #[vI t16.1, vI t16.2.1, vI t16.2.2]) 52 [] (fun u14 w _ => fixed_Div.calls t15.1 t15.2  t16 w  ht16)) <|
   .v 44 (.tuple #[vI t16.1, vI t16.2.1, vI t16.2.2]) <|
   .v 53 (vI t16.1) <|
   .v 54 (vI t16.2.1) <|
   .v 55 (vI t16.2.2) <|
   .v 9 (vI t16.1) <|
   .v 10 (vI t16.2.1) <|
   .v 11 (vI t16.2.2) <| .nil) fun u14 a w' H => ?_
    replace H := H.kp [4, 6, 10, 61, 999999]
    refine k_seq ?_
    replace G := bnd G; obtain ⟨t18, ht18, G⟩ := G
    refine k_rg mixed H (.v 56 (vI t13.1) <|
   .v 57 (vI t16.2.1) <|
   .cons [58] (ok_callv 91 (fun u17 => #[vI t13.1, vI t16.2.1]) (.agg #[vI t18.Lo, vI t18.Hi]) 58 [] (fun u17 w _ => interval_New.calls t13.1 t16.2.1  t18 w  ht18)) <|
   .cons [61] (ok_as (u' := fun u17 => [(61, .blk ((u1 2).n 0) [vI t18.Lo, vI t18.Hi] 37)]) (ok_store 61 0 (fun u17 => ((u1 2).n 0)) (fun u17 => [vI 0, vI 0]) (fun u17 => [vI t18.Lo, vI t18.Hi]) 37) (fun _ => by kernel_rfl)) <| .nil) fun u17 a w' H => ?_
    replace H := H.kp [4, 61, 999999]
    refine k_ret ?_
    obtain rfl := Option.some.inj G
    exact k_done1 H _ 61 ((u1 2).n 0) [vI t18.Lo, vI t18.Hi] 37 0 2 (by kernel_rfl) (by kernel_rfl) (by kernel_rfl) (by kernel_rfl)
   rw [if_neg c19] at G
   by_cases c20 : t10 = 1
   ·rw [if_pos c20] at G; subst c20
    refine k_rg mixed H (.cons [23] (ok_ld (fun u8 => .agg #[vI a0.Lo, vI a0.Hi]) 23 59 0 2 (fun u8 => ((u1 0).n 0)) (fun u8 => [vI a0.Lo, vI a0.Hi]) 37) <|
   .cons [24] (ok_callv 100 (fun u8 => #[.agg #[vI a0.Lo, vI a0.Hi]]) (vI 0) 24 [] (fun u8 w _ => interval_side.calls a0  0 w  ht9)) <|
   .v 25 (vP ((u1 1).n 0) 0) <|
   .cons [26] (ok_ld (fun u8 => vI a1.Lo) 26 60 0 1 (fun u8 => ((u1 1).n 0)) (fun u8 => [vI a1.Lo, vI a1.Hi]) 37) <|
   .v 27 (.bool (decide (a1.Lo > 0))) <|
   .cons [28] (ok_callv 101 (fun u8 => #[.bool (decide (a1.Lo > 0)), vI 1, vI 0]) (vI 1) 28 [] (fun u8 w _ => interval_pick_int.calls (decide (a1.Lo > 0)) 1 0  1 w  ht10)) <|
   .v 29 (vP 0 0) <|
   .v 30 (vP 0 2) <|
   .cons [31] (ok_ldK (fun u8 => .agg #[.func (.func 132) #[] #[], .func (.func 133) #[] #[]]) 31 999999 gk 0 2 2 gTab0 (fun w h => (glob_of h).tab0)) <|
   .cons [5, 62] (ok_new (fun b => vP b 0) (fun u8 => [.nilFunc, .nilFunc]) 104 5 62) <|
   .cons [62] (ok_as (u' := fun u8 => [(62, .blk ((u8 9).n 0) [.func (.func 132) #[] #[], .func (.func 133) #[] #[]] 104)]) (ok_store 62 0 (fun u8 => ((u8 9).n 0)) (fun u8 => [.nilFunc, .nilFunc]) (fun u8 => [.func (.func 132) #[] #[], .func (.func 133) #[] #[]]) 104) (fun _ => by kernel_rfl)) <| .nil) fun u8 a w' H => ?_
    replace H := H.kp [2, 3, 4, 5, 59, 60, 61, 62, 999999]
    refine k_seq ?_
    replace G := bnd G; obtain ⟨t12, ht12, G⟩ := G
    replace G := bnd G; obtain ⟨t13, ht13, G⟩ := G
    refine k_rg mixed H (.v 33 (vP ((u8 9).n 0) 0) <|
   .cons [34] (ok_ld (fun u11 => .func (.func 132) #[] #[]) 34 62 0 1 (fun u11 => ((u8 9).n 0)) (fun u11 => [.func (.func 132) #[] #[], .func (.func 133) #[] #[]]) 104) <|
   .cons [35] (ok_ld (fun u11 => .agg #[vI a0.Lo, vI a0.Hi]) 35 59 0 2 (fun u11 => ((u1 0).n 0)) (fun u11 => [vI a0.Lo, vI a0.Hi]) 37) <|
   .cons [36] (ok_ld (fun u11 => .agg #[vI a1.Lo, vI a1.Hi]) 36 60 0 2 (fun u11 => ((u1 1).n 0)) (fun u11 => [vI a1.Lo, vI a1.Hi]) 37) <|
   .cons [37] (ok_callv 132 (fun u11 => #[.agg #[vI a0.Lo, vI a0.Hi], .agg #[vI a1.Lo, vI a1.Hi]]) (.tuple #[vI t12.1, vI t12.2]) 37 [] (fun u11 w _ => interval_ll.calls a0 a1  t12 w  ht12)) <|
   .v 38 (vI t12.1) <|
   .v 39 (vI t12.2) <|
   .cons [40] (ok_callv 102 (fun u11 => #[vI t12.1, vI t12.2]) (.tuple #[vI t13.1, vI t13.2.1, vI t13.2.2]) 40 [] (fun u11 w _ => fixed_Div.calls t12.1 t12.2  t13 w  ht13)) <|
   .v 32 (.tuple #[vI t13.1, vI t13.2.1, vI t13.2.2]) <|
   .v 41 (vI t13.1) <|
   .v 42 (vI t13.2.1) <|
   .v 43 (vI t13.2.2) <|
   .v 6 (vI t13.1) <|
   .v 7 (vI t13.2.1) <|
   .v 8 (vI t13.2.2) <| .nil) fun u11 a w' H => ?_
    replace H := H.toM [(2, (sP ((u1 0).n 0) 0)), (3, (sP ((u1 1).n 0) 0)), (4, (sP ((u1 2).n 0) 0)), (5, (sP ((u8 9).n 0) 0)), (6, sI t13.1), (59, .blk ((u1 0).n 0) [vI a0.Lo, vI a0.Hi] 37), (60, .blk ((u1 1).n 0) [vI a1.Lo, vI a1.Hi] 37), (61, .blk ((u1 2).n 0) [vI 0, vI 0] 37), (62, .blk ((u8 9).n 0) [.func (.func 132) #[] #[], .func (.func 133) #[] #[]] 104), (999999, gk)]
    refine k_seq ?_
    replace G := bnd G; obtain ⟨t15, ht15, G⟩ := G
    replace G := bnd G; obtain ⟨t16, ht16, G⟩ := G
    refine k_rg mixed H (.v 45 (vP ((u8 9).n 0) 1) <|
   .cons [46] (ok_ld (fun u14 => .func (.func 133) #[] #[]) 46 62 1 1 (fun u14 => ((u8 9).n 0)) (fun u14 => [.func (.func 132) #[] #[], .func (.func 133) #[] #[]]) 104) <|
   .cons [47] (ok_ld (fun u14 => .agg #[vI a0.Lo, vI a0.Hi]) 47 59 0 2 (fun u14 => ((u1 0).n 0)) (fun u14 => [vI a0.Lo, vI a0.Hi]) 37) <|
   .cons [48] (ok_ld (fun u14 => .agg #[vI a1.Lo, vI a1.Hi]) 48 60 0 2 (fun u14 => ((u1 1).n 0)) (fun u14 => [vI a1.Lo, vI a1.Hi]) 37) <|
   .cons [49] (ok_callv 133 (fun u14 => #[.agg #[vI a0.Lo, vI a0.Hi], .agg #[vI a1.Lo, vI a1.Hi]]) (.tuple #[vI t15.1, vI t15.2]) 49 [] (fun u14 w _ => interval_hh.calls a0 a1  t15 w  ht15)) <|
   .v 50 (vI t15.1) <|
   .v 51 (vI t15.2) <|
   .cons [52] (ok_callv 102 (fun u14 => #[vI t15.1, vI t15.2]) (.tuple #[vI t16.1, vI t16.2.1, vI t16.2.2]) 52 [] (fun u14 w _ => fixed_Div.calls t15.1 t15.2  t16 w  ht16)) <|
   .v 44 (.tuple #[vI t16.1, vI t16.2.1, vI t16.2.2]) <|
   .v 53 (vI t16.1) <|
   .v 54 (vI t16.2.1) <|
   .v 55 (vI t16.2.2) <|
   .v 9 (vI t16.1) <|
   .v 10 (vI t16.2.1) <|
   .v 11 (vI t16.2.2) <| .nil) fun u14 a w' H => ?_
    replace H := H.kp [4, 6, 10, 61, 999999]
    refine k_seq ?_
    replace G := bnd G; obtain ⟨t18, ht18, G⟩ := G
    refine k_rg mixed H (.v 56 (vI t13.1) <|
   .v 57 (vI t16.2.1) <|
   .cons [58] (ok_callv 91 (fun u17 => #[vI t13.1, vI t16.2.1]) (.agg #[vI t18.Lo, vI t18.Hi]) 58 [] (fun u17 w _ => interval_New.calls t13.1 t16.2.1  t18 w  ht18)) <|
   .cons [61] (ok_as (u' := fun u17 => [(61, .blk ((u1 2).n 0) [vI t18.Lo, vI t18.Hi] 37)]) (ok_store 61 0 (fun u17 => ((u1 2).n 0)) (fun u17 => [vI 0, vI 0]) (fun u17 => [vI t18.Lo, vI t18.Hi]) 37) (fun _ => by kernel_rfl)) <| .nil) fun u17 a w' H => ?_
    replace H := H.kp [4, 61, 999999]
    refine k_ret ?_
    obtain rfl := Option.some.inj G
    exact k_done1 H _ 61 ((u1 2).n 0) [vI t18.Lo, vI t18.Hi] 37 0 2 (by kernel_rfl) (by kernel_rfl) (by kernel_rfl) (by kernel_rfl)
   rw [if_neg c20] at G
   cases G
  rw [if_neg c21] at G
  by_cases c22 : t9 = 1
  ·rw [if_pos c22] at G; subst c22
   replace G := bnd G; obtain ⟨t10, ht10, G⟩ := G
   by_cases c19 : t10 = 0
   ·rw [if_pos c19] at G; subst c19
    refine k_rg mixed H (.cons [23] (ok_ld (fun u8 => .agg #[vI a0.Lo, vI a0.Hi]) 23 59 0 2 (fun u8 => ((u1 0).n 0)) (fun u8 => [vI a0.Lo, vI a0.Hi]) 37) <|
   .cons [24] (ok_callv 100 (fun u8 => #[.agg #[vI a0.Lo, vI a0.Hi]]) (vI 1) 24 [] (fun u8 w _ => interval_side.calls a0  1 w  ht9)) <|
   .v 25 (vP ((u1 1).n 0) 0) <|
   .cons [26] (ok_ld (fun u8 => vI a1.Lo) 26 60 0 1 (fun u8 => ((u1 1).n 0)) (fun u8 => [vI a1.Lo, vI a1.Hi]) 37) <|
   .v 27 (.bool (decide (a1.Lo > 0))) <|
   .cons [28] (ok_callv 101 (fun u8 => #[.bool (decide (a1.Lo > 0)), vI 1, vI 0]) (vI 0) 28 [] (fun u8 w _ => interval_pick_int.calls (decide (a1.Lo > 0)) 1 0  0 w  ht10)) <|
   .v 29 (vP 0 4) <|
   .v 30 (vP 0 4) <|
   .cons [31] (ok_ldK (fun u8 => .agg #[.func (.func 133) #[] #[], .func (.func 131) #[] #[]]) 31 999999 gk 0 4 2 gTab0 (fun w h => (glob_of h).tab0)) <|
   .cons [5, 62] (ok_new (fun b => vP b 0) (fun u8 => [.nilFunc, .nilFunc]) 104 5 62) <|
   .cons [62] (ok_as (u' := fun u8 => [(62, .blk ((u8 9).n 0) [.func (.func 133) #[] #[], .func (.func 131) #[] #[]] 104)]) (ok_store 62 0 (fun u8 => ((u8 9).n 0)) (fun u8 => [.nilFunc, .nilFunc]) (fun u8 => [.func (.func 133) #[] #[], .func (.func 131) #[] #[]]) 104) (fun _ => by kernel_rfl)) <| .nil) fun u8 a w' H => ?_
    replace H := H.kp [2, 3, 4, 5, 59, 60, 61, 62, 999999]
    refine k_seq ?_
    replace G := bnd G; obtain ⟨t12, ht12, G⟩ := G
    replace G := bnd G; obtain ⟨t13, ht13, G⟩ := G
    refine k_rg mixed H (.v 33 (vP ((u8 9).n 0) 0) <|
   .cons [34] (ok_ld (fun u11 => .func (.func 133) #[] #[]) 34 62 0 1 (fun u11 => ((u8 9).n 0)) (fun u11 => [.func (.func 133) #[] #[], .func (.func 131) #[] #[]]) 104) <|
   .cons [35] (ok_ld (fun u11 => .agg #[vI a0.Lo, vI a0.Hi]) 35 59 0 2 (fun u11 => ((u1 0).n 0)) (fun u11 => [vI a0.Lo, vI a0.Hi]) 37) <|
   .cons [36] (ok_ld (fun u11 => .agg #[vI a1.Lo, vI a1.Hi]) 36 60 0 2 (fun u11 => ((u1 1).n 0)) (fun u11 => [vI a1.Lo, vI a1.Hi]) 37) <|
   .cons [37] (ok_callv 133 (fun u11 => #[.agg #[vI a0.Lo, vI a0.Hi], .agg #[vI a1.Lo, vI a1.Hi]]) (.tuple #[vI t12.1, vI t12.2]) 37 [] (fun u11 w _ => interval_hh.calls a0 a1  t12 w  ht12)) <|
   .v 38 (vI t12.1) <|
   .v 39 (vI t12.2) <|
   .cons [40] (ok_callv 102 (fun u11 => #[vI t12.1, vI t12.2]) (.tuple #[vI t13.1, vI t13.2.1, vI t13.2.2]) 40 [] (fun u11 w _ => fixed_Div.calls t12.1 t12.2  t13 w  ht13)) <|
   .v 32 (.tuple #[vI t13.1, vI t13.2.1, vI t13.2.2]) <|
   .v 41 (vI t13.1) <|
   .v 42 (vI t13.2.1) <|
   .v 43 (vI t13.2.2) <|
   .v 6 (vI t13.1) <|
   .v 7 (vI t13.2.1) <|
   .v 8 (vI t13.2.2) <| .nil) fun u11 a w' H => ?_
    replace H := H.kp [2, 3, 4, 5, 6, 59, 60, 61, 62, 999999]
    refine k_seq ?_
    replace G := bnd G; obtain ⟨t15, ht15, G⟩ := G
    replace G := bnd G; obtain ⟨t16, ht16, G⟩ := G
    refine k_rg mixed H (.v 45 (vP ((u8 9).n 0) 1) <|
   .cons [46] (ok_ld (fun u14 => .func (.func 131) #[] #[]) 46 62 1 1 (fun u14 => ((u8 9).n 0)) (fun u14 => [.func (.func 133) #[] #[], .func (.func 131) #[] #[]]) 104) <|
   .cons [47] (ok_ld (fun u14 => .agg #[vI a0.Lo, vI a0.Hi]) 47 59 0 2 (fun u14 => ((u1 0).n 0)) (fun u14 => [vI a0.Lo, vI a0.Hi]) 37) <|
   .cons [48] (ok_ld (fun u14 => .agg #[vI a1.Lo, vI a1.Hi]) 48 60 0 2 (fun u14 => ((u1 1).n 0)) (fun u14 => [vI a1.Lo, vI a1.Hi]) 37) <|
   .cons [49] (ok_callv 131 (fun u14 => #[.agg #[vI a0.Lo, vI a0.Hi], .agg #[vI a1.Lo, vI a1.Hi]]) (.tuple #[vI t15.1, vI t15.2]) 49 [] (fun u14 w _ => interval_lh.calls a0 a1  t15 w  ht15)) <|
   .v 50 (vI t15.1) <|
   .v 51 (vI t15.2) <|
   .cons [52] (ok_callv 102 (fun u14 => #[vI t15.1, vI t15.2]) (.tuple #[vI t16.1, vI t16.2.1, vI t16.2.2]) 52 [] (fun u14 w _ => fixed_Div.calls t15.1 t15.2  t16 w  ht16)) <|
   .v 44 (.tuple #[vI t16.1, vI t16.2.1, vI t16.2.2]) <|
   .v 53 (vI t16.1) <|
   .v 54 (vI t16.2.1) <|
   .v 55 (vI t16.2.2) <|
   .v 9 (vI t16.1) <|
   .v 10 (vI t16.2.1) <|
   .v 11 (vI t16.2.2) <| .nil) fun u14 a w' H => ?_
    replace H := H.kp [4, 6, 10, 61, 999999]
    refine k_seq ?_
    replace G := bnd G; obtain ⟨t18, ht18, G⟩ := G
    refine k_rg mixed H (.v 56 (vI t13.1) <|
   .v 57 (vI t16.2.1) <|
   .cons [58] (ok_callv 91 (fun u17 => #[vI t13.1, vI t16.2.1]) (.agg #[vI t18.Lo, vI t18.Hi]) 58 [] (fun u17 w _ => interval_New.calls t13.1 t16.2.1  t18 w  ht18)) <|
   .cons [61] (ok_as (u' := fun u17 => [(61, .blk ((u1 2).n 0) [vI t18.Lo, vI t18.Hi] 37)]) (ok_store 61 0 (fun u17 => ((u1 2).n 0)) (fun u17 => [vI 0, vI 0]) (fun u17 => [vI t18.Lo, vI t18.Hi]) 37) (fun _ => by kernel_rfl)) <| .nil) fun u17 a w' H => ?_
    replace H := H.kp [4, 61, 999999]
    refine k_ret ?_
    obtain rfl := Option.some.inj G
    exact k_done1 H _ 61 ((u1 2).n 0) [vI t18.Lo, vI t18.Hi] 37 0 2 (by kernel_rfl) (by kernel_rfl) (by kernel_rfl) (by kernel_rfl)
   rw [if_neg c19] at G
   by_cases c20 : t10 = 1
   ·rw [if_pos c20] at G; subst c20
    refine k_rg mixed H (.cons [23] (ok_ld (fun u8 => .agg #[vI a0.Lo, vI a0.Hi]) 23 59 0 2 (fun u8 => ((u1 0).n 0)) (fun u8 => [vI a0.Lo, vI a0.Hi]) 37) <|
   .cons [24] (ok_callv 100 (fun u8 => #[.agg #[vI a0.Lo, vI a0.Hi]]) (vI 1) 24 [] (fun u8 w _ => interval_side.calls a0  1 w  ht9)) <|
   .v 25 (vP ((u1 1).n 0) 0) <|
   .cons [26] (ok_ld (fun u8 => vI a1.Lo) 26 60 0 1 (fun u8 => ((u1 1).n 0)) (fun u8 => [vI a1.Lo, vI a1.Hi]) 37) <|
   .v 27 (.bool (decide (a1.Lo > 0))) <|
   .cons [28] (ok_callv 101 (fun u8 => #[.bool (decide (a1.Lo > 0)), vI 1, vI 0]) (vI 1) 28 [] (fun u8 w _ => interval_pick_int.calls (decide (a1.Lo > 0)) 1 0  1 w  ht10)) <|
   .v 29 (vP 0 4) <|
   .v 30 (vP 0 6) <|
   .cons [31] (ok_ldK (fun u8 => .agg #[.func (.func 132) #[] #[], .func (.func 130) #[] #[]]) 31 999999 gk 0 6 2 gTab0 (fun w h => (glob_of h).tab0)) <|
   .cons [5, 62] (ok_new (fun b => vP b 0) (fun u8 => [.nilFunc, .nilFunc]) 104 5 62) <|
   .cons [62] (ok_as (u' := fun u8 => [(62, .blk ((u8 9).n 0) [.func (.func 132) #[] #[], .func (.func 130) #[] #[]] 104)]) (ok_store 62 0 (fun u8 => ((u8 9).n 0)) (fun u8 => [.nilFunc, .nilFunc]) (fun u8 => [.func (.func 132) #[] #[], .func (.func 130) #[] #[]]) 104) (fun _ => by kernel_rfl)) <| .nil) fun u8 a w' H => ?_
    replace H := H.kp [2, 3, 4, 5, 59, 60, 61, 62, 999999]
    refine k_seq ?_
    replace G := bnd G; obtain ⟨t12, ht12, G⟩ := G
    replace G := bnd G; obtain ⟨t13, ht13, G⟩ := G
    refine k_rg mixed H (.v 33 (vP ((u8 9).n 0) 0) <|
   .cons [34] (ok_ld (fun u11 => .func (.func 132) #[] #[]) 34 62 0 1 (fun u11 => ((u8 9).n 0)) (fun u11 => [.func (.func 132) #[] #[], .func (.func 130) #[] #[]]) 104) <|
   .cons [35] (ok_ld (fun u11 => .agg #[vI a0.Lo, vI a0.Hi]) 35 59 0 2 (fun u11 => ((u1 0).n 0)) (fun u11 => [vI a0.Lo, vI a0.Hi]) 37) <|
   .cons [36] (ok_ld (fun u11 => .agg #[vI a1.Lo, vI a1.Hi]) 36 60 0 2 (fun u11 => ((u1 1).n 0)) (fun u11 => [vI a1.Lo, vI a1.Hi]) 37) <|
   .cons [37] (ok_callv 132 (fun u11 => #[.agg #[vI a0.Lo, vI a0.Hi], .agg #[vI a1.Lo, vI a1.Hi]]) (.tuple #[vI t12.1, vI t12.2]) 37 [] (fun u11 w _ => interval_ll.calls a0 a1  t12 w  ht12)) <|
   .v 38 (vI t12.1) <|
   .v 39 (vI t12.2) <|
   .cons [40] (ok_callv 102 (fun u11 => #[vI t12.1, vI t12.2]) (.tuple #[vI t13.1, vI t13.2.1, vI t13.2.2]) 40 [] (fun u11 w _ => fixed_Div.calls t12.1 t12.2  t13 w  ht13)) <|
   .v 32 (.tuple #[vI t13.1, vI t13.2.1, vI t13.2.2]) <|
   .v 41 (vI t13.1) <|
   .v 42 (vI t13.2.1) <|
   .v 43 (vI t13.2.2) <|
   .v 6 (vI t13.1) <|
   .v 7 (vI t13.2.1) <|
   .v 8 (vI t13.2.2) <| .nil) fun u11 a w' H => ?_
    replace H := H.kp [2, 3, 4, 5, 6, 59, 60, 61, 62, 999999]
    refine k_seq ?_
    replace G := bnd G; obtain ⟨t15, ht15, G⟩ := G
    replace G := bnd G; obtain ⟨t16, ht16, G⟩ := G
    refine k_rg mixed H (.v 45 (vP ((u8 9).n 0) 1) <|
   .cons [46] (ok_ld (fun u14 => .func (.func 130) #[] #[]) 46 62 1 1 (fun u14 => ((u8 9).n 0)) (fun u14 => [.func (.func 132) #[] #[], .func (.func 130) #[] #[]]) 104) <|
   .cons [47] (ok_ld (fun u14 => .agg #[vI a0.Lo, vI a0.Hi]) 47 59 0 2 (fun u14 => ((u1 0).n 0)) (fun u14 => [vI a0.Lo, vI a0.Hi]) 37) <|
   .cons [48] (ok_ld (fun u14 => .agg #[vI a1.Lo, vI a1.Hi]) 48 60 0 2 (fun u14 => ((u1 1).n 0)) (fun u14 => [vI a1.Lo, vI a1.Hi]) 37) <|
   .cons [49] (ok_callv 130 (fun u14 => #[.agg #[vI a0.Lo, vI a0.Hi], .agg #[vI a1.Lo, vI a1.Hi]]) (.tuple #[vI t15.1, vI t15.2]) 49 [] (fun u14 w _ => interval_hl.calls a0 a1  t15 w  ht15)) <|
   .v 50 (vI t15.1) <|
   .v 51 (vI t15.2) <|
   .cons [52] (ok_callv 102 (fun u14 => #[vI t15.1, vI t15.2]) (.tuple #[vI t16.1, vI t16.2.1, vI t16.2.2]) 52 [] (fun u14 w _ => fixed_Div.calls t15.1 t15.2  t16 w  ht16)) <|
   .v 44 (.tuple #[vI t16.1, vI t16.2.1, vI t16.2.2]) <|
   .v 53 (vI t16.1) <|
   .v 54 (vI t16.2.1) <|
   .v 55 (vI t16.2.2) <|
   .v 9 (vI t16.1) <|
   .v 10 (vI t16.2.1) <|
   .v 11 (vI t16.2.2) <| .nil) fun u14 a w' H => ?_
    replace H := H.toM [(4, (sP ((u1 2).n 0) 0)), (6, sI t13.1), (10, sI t16.2.1), (61, .blk ((u1 2).n 0) [vI 0, vI 0] 37), (999999, gk)]
    refine k_seq ?_
    replace G := bnd G; obtain ⟨t18, ht18, G⟩ := G
    refine k_rg mixed H (.v 56 (vI t13.1) <|
   .v 57 (vI t16.2.1) <|
   .cons [58] (ok_callv 91 (fun u17 => #[vI t13.1, vI t16.2.1]) (.agg #[vI t18.Lo, vI t18.Hi]) 58 [] (fun u17 w _ => interval_New.calls t13.1 t16.2.1  t18 w  ht18)) <|
   .cons [61] (ok_as (u' := fun u17 => [(61, .blk ((u1 2).n 0) [vI t18.Lo, vI t18.Hi] 37)]) (ok_store 61 0 (fun u17 => ((u1 2).n 0)) (fun u17 => [vI 0, vI 0]) (fun u17 => [vI t18.Lo, vI t18.Hi]) 37) (fun _ => by kernel_rfl)) <| .nil) fun u17 a w' H => ?_
    replace H := H.kp [4, 61, 999999]
    refine k_ret ?_
    obtain rfl := Option.some.inj G
    exact k_done1 H _ 61 ((u1 2).n 0) [vI t18.Lo, vI t18.Hi] 37 0 2 (by kernel_rfl) (by kernel_rfl) (by kernel_rfl) (by kernel_rfl)
   rw [if_neg c20] at G
   cases G
  rw [if_neg c22] at G
  by_cases c23 : t9 = 2
  ·rw [if_pos c23] at G; subst c23
   replace G := bnd G; obtain ⟨t10, ht10, G⟩ := G
   by_cases c19 : t10 = 0
   ·rw [if_pos c19] at G; subst c19
    refine k_rg mixed H (.cons [23] (ok_ld (fun u8 => .agg #[vI a0.Lo, vI a0.Hi]) 23 59 0 2 (fun u8 => ((u1 0).n 0)) (fun u8 => [vI a0.Lo, vI a0.Hi]) 37) <|
   .cons [24] (ok_callv 100 (fun u8 => #[.agg #[vI a0.Lo, vI a0.Hi]]) (vI 2) 24 [] (fun u8 w _ => interval_side.calls a0  2 w  ht9)) <|
   .v 25 (vP ((u1 1).n 0) 0) <|
   .cons [26] (ok_ld (fun u8 => vI a1.Lo) 26 60 0 1 (fun u8 => ((u1 1).n 0)) (fun u8 => [vI a1.Lo, vI a1.Hi]) 37) <|
   .v 27 (.bool (decide (a1.Lo > 0))) <|
   .cons [28] (ok_callv 101 (fun u8 => #[.bool (decide (a1.Lo > 0)), vI 1, vI 0]) (vI 0) 28 [] (fun u8 w _ => interval_pick_int.calls (decide (a1.Lo > 0)) 1 0  0 w  ht10)) <|
   .v 29 (vP 0 8) <|
   .v 30 (vP 0 8) <|
   .cons [31] (ok_ldK (fun u8 => .agg #[.func (.func 133) #[] #[], .func (.func 132) #[] #[]]) 31 999999 gk 0 8 2 gTab0 (fun w h => (glob_of h).tab0)) <|
   .cons [5, 62] (ok_new (fun b => vP b 0) (fun u8 => [.nilFunc, .nilFunc]) 104 5 62) <|
   .cons [62] (ok_as (u' := fun u8 => [(62, .blk ((u8 9).n 0) [.func (.func 133) #[] #[], .func (.func 132) #[] #[]] 104)]) (ok_store 62 0 (fun u8 => ((u8 9).n 0)) (fun u8 => [.nilFunc, .nilFunc]) (fun u8 => [.func (.func 133) #[] #[], .func (.func 132) #[] #[]]) 104) (fun _ => by kernel_rfl)) <| .nil) fun u8 a w' H => ?_
    replace H := H.kp [2, 3, 4, 5, 59, 60, 61, 62, 999999]
    refine k_seq ?_
    replace G := bnd G; obtain ⟨t12, ht12, G⟩ := G
    replace G := bnd G; obtain ⟨t13, ht13, G⟩ := G
    refine k_rg mixed H (.v 33 (vP ((u8 9).n 0) 0) <|
   .cons [34] (ok_ld (fun u11 => .func (.func 133) #[] #[]) 34 62 0 1 (fun u11 => ((u8 9).n 0)) (fun u11 => [.func (.func 133) #[] #[], .func (.func 132) #[] #[]]) 104) <|
   .cons [35] (ok_ld (fun u11 => .agg #[vI a0.Lo, vI a0.Hi]) 35 59 0 2 (fun u11 => ((u1 0).n 0)) (fun u11 => [vI a0.Lo, vI a0.Hi]) 37) <|
   .cons [36] (ok_ld (fun u11 => .agg #[vI a1.Lo, vI a1.Hi]) 36 60 0 2 (fun u11 => ((u1 1).n 0)) (fun u11 => [vI a1.Lo, vI a1.Hi]) 37) <|
   .cons [37] (ok_callv 133 (fun u11 => #[.agg #[vI a0.Lo, vI a0.Hi], .agg #[vI a1.Lo, vI a1.Hi]]) (.tuple #[vI t12.1, vI t12.2]) 37 [] (fun u11 w _ => interval_hh.calls a0 a1  t12 w  ht12)) <|
   .v 38 (vI t12.1) <|
   .v 39 (vI t12.2) <|
   .cons [40] (ok_callv 102 (fun u11 => #[vI t12.1, vI t12.2]) (.tuple #[vI t13.1, vI t13.2.1, vI t13.2.2]) 40 [] (fun u11 w _ => fixed_Div.calls t12.1 t12.2  t13 w  ht13)) <|
   .v 32 (.tuple #[vI t13.1, vI t13.2.1, vI t13.2.2]) <|
   .v 41 (vI t13.1) <|
   .v 42 (vI t13.2.1) <|
   .v 43 (vI t13.2.2) <|
   .v 6 (vI t13.1) <|
   .v 7 (vI t13.2.1) <|
   .v 8 (vI t13.2.2) <| .nil) fun u11 a w' H => ?_
    replace H := H.kp [2, 3, 4, 5, 6, 59, 60, 61, 62, 999999]
    refine k_seq ?_
    replace G := bnd G; obtain ⟨t15, ht15, G⟩ := G
    replace G := bnd G; obtain ⟨t16, ht16, G⟩ := G
    refine k_rg mixed H (.v 45 (vP ((u8 9).n 0) 1) <|
   .cons [46] (ok_ld (fun u14 => .func (.func 132) #[] #[]) 46 62 1 1 (fun u14 => ((u8 9).n 0)) (fun u14 => [.func (.func 133) #[] #[], .func (.func 132) #[] #[]]) 104) <|
   .cons [47] (ok_ld (fun u14 => .agg #[vI a0.Lo, vI a0.Hi]) 47 59 0 2 (fun u14 => ((u1 0).n 0)) (fun u14 => [vI a0.Lo, vI a0.Hi]) 37) <|
   .cons [48] (ok_ld (fun u14 => .agg #[vI a1.Lo, vI a1.Hi]) 48 60 0 2 (fun u14 => ((u1 1).n 0)) (fun u14 => [vI a1.Lo, vI a1.Hi]) 37) <|
   .cons [49] (ok_callv 132 (fun u14 => #[.agg #[vI a0.Lo, vI a0.Hi], .agg #[vI a1.Lo, vI a1.Hi]]) (.tuple #[vI t15.1, vI t15.2]) 49 [] (fun u14 w _ => interval_ll.calls a0 a1  t15 w  ht15)) <|
   .v 50 (vI t15.1) <|
   .v 51 (vI t15.2) <|
   .cons [52] (ok_callv 102 (fun u14 => #[vI t15.1, vI t15.2]) (.tuple #[vI t16.1, vI t16.2.1, vI t16.2.2]) 52 [] (fun u14 w _ => fixed_Div.calls t15.1 t15.2  t16 w  ht16)) <|
   .v 44 (.tuple #[vI t16.1, vI t16.2.1, vI t16.2.2]) <|
   .v 53 (vI t16.1) <|
   .v 54 (vI t16.2.1) <|
   .v 55 (vI t16.2.2) <|
   .v 9 (vI t16.1) <|
   .v 10 (vI t16.2.1) <|
   .v 11 (vI t16.2.2) <| .nil) fun u14 a w' H => ?_
    replace H := H.kp [4, 6, 10, 61, 999999]
    refine k_seq ?_
    replace G := bnd G; obtain ⟨t18, ht18, G⟩ := G
    refine k_rg mixed H (.v 56 (vI t13.1) <|
   .v 57 (vI t16.2.1) <|
   .cons [58] (ok_callv 91 (fun u17 => #[vI t13.1, vI t16.2.1]) (.agg #[vI t18.Lo, vI t18.Hi]) 58 [] (fun u17 w _ => interval_New.calls t13.1 t16.2.1  t18 w  ht18)) <|
   .cons [61] (ok_as (u' := fun u17 => [(61, .blk ((u1 2).n 0) [vI t18.Lo, vI t18.Hi] 37)]) (ok_store 61 0 (fun u17 => ((u1 2).n 0)) (fun u17 => [vI 0, vI 0]) (fun u17 => [vI t18.Lo, vI t18.Hi]) 37) (fun _ => by kernel_rfl)) <| .nil) fun u17 a w' H => ?_
    replace H := H.kp [4, 61, 999999]
    refine k_ret ?_
    obtain rfl := Option.some.inj G
    exact k_done1 H _ 61 ((u1 2).n 0) [vI t18.Lo, vI t18.Hi] 37 0 2 (by kernel_rfl) (by kernel_rfl) (by kernel_rfl) (by kernel_rfl)
   rw [if_neg c19] at G
   by_cases c20 : t10 = 1
   ·rw [if_pos c20] at G; subst c20
    refine k_rg mixed H (.cons [23] (ok_ld (fun u8 => .agg #[vI a0.Lo, vI a0.Hi]) 23 59 0 2 (fun u8 => ((u1 0).n 0)) (fun u8 => [vI a0.Lo, vI a0.Hi]) 37) <|
   .cons [24] (ok_callv 100 (fun u8 => #[.agg #[vI a0.Lo, vI a0.Hi]]) (vI 2) 24 [] (fun u8 w _ => interval_side.calls a0  2 w  ht9)) <|
   .v 25 (vP ((u1 1).n 0) 0) <|
   .cons [26] (ok_ld (fun u8 => vI a1.Lo) 26 60 0 1 (fun u8 => ((u1 1).n 0)) (fun u8 => [vI a1.Lo, vI a1.Hi]) 37) <|
   .v 27 (.bool (decide (a1.Lo > 0))) <|
   .cons [28] (ok_callv 101 (fun u8 => #[.bool (decide (a1.Lo > 0)), vI 1, vI 0]) (vI 1) 28 [] (fun u8 w _ => interval_pick_int.calls (decide (a1.Lo > 0)) 1 0  1 w  ht10)) <|
   .v 29 (vP 0 8) <|
   .v 30 (vP 0 10) <|
   .cons [31] (ok_ldK (fun u8 => .agg #[.func (.func 131) #[] #[], .func (.func 130) #[] #[]]) 31 999999 gk 0 10 2 gTab0 (fun w h => (glob_of h).tab0)) <|
   .cons [5, 62] (ok_new (fun b => vP b 0) (fun u8 => [.nilFunc, .nilFunc]) 104 5 62) <|
   .cons [62] (ok_as (u' := fun u8 => [(62, .blk ((u8 9).n 0) [.func (.func 131) #[] #[], .func (.func 130) #[] #[]] 104)]) (ok_store 62 0 (fun u8 => ((u8 9).n 0)) (fun u8 => [.nilFunc, .nilFunc]) (fun u8 => [.func (.func 131) #[] #[], .func (.func 130) #[] #[]]) 104) (fun _ => by kernel_rfl)) <| .nil) fun u8 a w' H => ?_
    replace H := H.kp [2, 3, 4, 5, 59, 60, 61, 62, 999999]
    refine k_seq ?_
    replace G := bnd G; obtain ⟨t12, ht12, G⟩ := G
    replace G := bnd G; obtain ⟨t13, ht13, G⟩ := G
    refine k_rg mixed H (.v 33 (vP ((u8 9).n 0) 0) <|
   .cons [34] (ok_ld (fun u11 => .func (.func 131) #[] #[]) 34 62 0 1 (fun u11 => ((u8 9).n 0)) (fun u11 => [.func (.func 131) #[] #[], .func (.func 130) #[] #[]]) 104) <|
   .cons [35] (ok_ld (fun u11 => .agg #[vI a0.Lo, vI a0.Hi]) 35 59 0 2 (fun u11 => ((u1 0).n 0)) (fun u11 => [vI a0.Lo, vI a0.Hi]) 37) <|
   .cons [36] (ok_ld (fun u11 => .agg #[vI a1.Lo, vI a1.Hi]) 36 60 0 2 (fun u11 => ((u1 1).n 0)) (fun u11 => [vI a1.Lo, vI a1.Hi]) 37) <|
   .cons [37] (ok_callv 131 (fun u11 => #[.agg #[vI a0.Lo, vI a0.Hi], .agg #[vI a1.Lo, vI a1.Hi]]) (.tuple #[vI t12.1, vI t12.2]) 37 [] (fun u11 w _ => interval_lh.calls a0 a1  t12 w  ht12)) <|
   .v 38 (vI t12.1) <|
   .v 39 (vI t12.2) <|
   .cons [40] (ok_callv 102 (fun u11 => #[vI t12.1, vI t12.2]) (.tuple #[vI t13.1, vI t13.2.1, vI t13.2.2]) 40 [] (fun u11 w _ => fixed_Div.calls t12.1 t12.2  t13 w  ht13)) <|
   .v 32 (.tuple #[vI t13.1, vI t13.2.1, vI t13.2.2]) <|
   .v 41 (vI t13.1) <|
   .v 42 (vI t13.2.1) <|
   .v 43 (vI t13.2.2) <|
   .v 6 (vI t13.1) <|
   .v 7 (vI t13.2.1) <|
   .v 8 (vI t13.2.2) <| .nil) fun u11 a w' H => ?_
    replace H := H.kp [2, 3, 4, 5, 6, 59, 60, 61, 62, 999999]
    refine k_seq ?_
    replace G := bnd G; obtain ⟨t15, ht15, G⟩ := G
    replace G := bnd G; obtain ⟨t16, ht16, G⟩ := G
    refine k_rg mixed H (.v 45 (vP ((u8 9).n 0) 1) <|
   .cons [46] (ok_ld (fun u14 => .func (.func 130) #[] #[]) 46 62 1 1 (fun u14 => ((u8 9).n 0)) (fun u14 => [.func (.func 131) #[] #[], .func (.func 130) #[] #[]]) 104) <|
   .cons [47] (ok_ld (fun u14 => .agg #[vI a0.Lo, vI a0.Hi]) 47 59 0 2 (fun u14 => ((u1 0).n 0)) (fun u14 => [vI a0.Lo, vI a0.Hi]) 37) <|
   .cons [48] (ok_ld (fun u14 => .agg #[vI a1.Lo, vI a1.Hi]) 48 60 0 2 (fun u14 => ((u1 1).n 0)) (fun u14 => [vI a1.Lo, vI a1.Hi]) 37) <|
   .cons [49] (ok_callv 130 (fun u14 => #[.agg #[vI a0.Lo, vI a0.Hi], .agg #[vI a1.Lo, vI a1.Hi]]) (.tuple #[vI t15.1, vI t15.2]) 49 [] (fun u14 w _ => interval_hl.calls a0 a1  t15 w  ht15)) <|
   .v 50 (vI t15.1) <|
   .v 51 (vI t15.2) <|
   .cons [52] (ok_callv 102 (fun u14 => #[vI t15.1, vI t15.2]) (.tuple #[vI t16.1, vI t16.2.1, vI t16.2.2]) 52 [] (fun u14 w _ => fixed_Div.calls t15.1 t15.2  t16 w  ht16)) <|
   .v 44 (.tuple #[vI t16.1, vI t16.2.1, vI t16.2.2]) <|
   .v 53 (vI t16.1) <|
   .v 54 (vI t16.2.1) <|
   .v 55 (vI t16.2.2) <|
   .v 9 (vI t16.1) <|
   .v 10 (vI t16.2.1) <|
   .v 11 (vI t16.2.2) <| .nil) fun u14 a w' H => ?_
    replace H := H.kp [4, 6, 10, 61, 999999]
    refine k_seq ?_
    replace G := bnd G; obtain ⟨t18, ht18, G⟩ := G
    refine k_rg mixed H (.v 56 (vI t13.1) <|
   .v 57 (vI t16.2.1) <|
   .cons [58] (ok_callv 91 (fun u17 => #[vI t13.1, vI t16.2.1]) (.agg #[vI t18.Lo, vI t18.Hi]) 58 [] (fun u17 w _ => interval_New.calls t13.1 t16.2.1  t18 w  ht18)) <|
   .cons [61] (ok_as (u' := fun u17 => [(61, .blk ((u1 2).n 0) [vI t18.Lo, vI t18.Hi] 37)]) (ok_store 61 0 (fun u17 => ((u1 2).n 0)) (fun u17 => [vI 0, vI 0]) (fun u17 => [vI t18.Lo, vI t18.Hi]) 37) (fun _ => by kernel_rfl)) <| .nil) fun u17 a w' H => ?_
    replace H := H.toM [(4, (sP ((u1 2).n 0) 0)), (61, .blk ((u1 2).n 0) [vI t18.Lo, vI t18.Hi] 37), (999999, gk)]
    refine k_ret ?_
    obtain rfl := Option.some.inj G
    exact k_done1 H _ 61 ((u1 2).n 0) [vI t18.Lo, vI t18.Hi] 37 0 2 (by kernel_rfl) (by kernel_rfl) (by kernel_rfl) (by kernel_rfl)
   rw [if_neg c20] at G
   cases G
  rw [if_neg c23] at G
  cases G
set_option maxHeartbeats 4000000 in
theorem interval_Neg.calls (a0 : TInterval) (r : TInterval) (w : World) (G : interval_Neg a0 = some r) :
  Calls Tryd.prog 103 #[.agg #[vI a0.Lo, vI a0.Hi]] w fun e w' => e = .returned (.agg #[vI r.Lo, vI r.Hi]) ∧ Below w.heap.size w w' := by
 refine k_enter (args := [.agg #[vI a0.Lo, vI a0.Hi]]) 10 Tryd.func103 rfl (by kernel_rfl) (by kernel_rfl) fun a H => ?_
 unfold interval_Neg at G
 refine k_seq ?_
 refine k_rg mixed H (.cons [1, 10] (ok_new (fun b => vP b 0) (fun u1 => [vI a0.Lo, vI a0.Hi]) 37 1 10) <|
   .cons [2, 11] (ok_new (fun b => vP b 0) (fun u1 => [vI 0, vI 0]) 37 2 11) <| .nil) fun u1 a w' H => ?_
 replace H := H.kp [1, 2, 10, 11]
 refine k_seq ?_
 refine k_rg mixed H (.v 3 (vP ((u1 0).n 0) 1) <|
   .cons [4] (ok_ld (fun u2 => vI a0.Hi) 4 10 1 1 (fun u2 => ((u1 0).n 0)) (fun u2 => [vI a0.Lo, vI a0.Hi]) 37) <|
   .v 5 (vI (w_i64 (0 - a0.Hi))) <|
   .v 6 (vP ((u1 0).n 0) 0) <|
   .cons [7] (ok_ld (fun u2 => vI a0.Lo) 7 10 0 1 (fun u2 => ((u1 0).n 0)) (fun u2 => [vI a0.Lo, vI a0.Hi]) 37) <|
   .v 8 (vI (w_i64 (0 - a0.Lo))) <|
   .v 9 (.agg #[vI (w_i64 (0 - a0.Hi)), vI (w_i64 (0 - a0.Lo))]) <|
   .cons [11] (ok_as (u' := fun u2 => [(11, .blk ((u1 1).n 0) [vI (w_i64 (0 - a0.Hi)), vI (w_i64 (0 - a0.Lo))] 37)]) (ok_store 11 0 (fun u2 => ((u1 1).n 0)) (fun u2 => [vI 0, vI 0]) (fun u2 => [vI (w_i64 (0 - a0.Hi)), vI (w_i64 (0 - a0.Lo))]) 37) (fun _ => by kernel_rfl)) <| .nil) fun u2 a w' H => ?_
 replace H := H.kp [2, 11]
 refine k_ret ?_
 obtain rfl := Option.some.inj G
 exact k_done1 H _ 11 ((u1 1).n 0) [vI (w_i64 (0 - a0.Hi)), vI (w_i64 (0 - a0.Lo))] 37 0 2 (by kernel_rfl) (by kernel_rfl) (by kernel_rfl) (by kernel_rfl)
set_option maxHeartbeats 4000000 in
theorem interval_Sub.calls (a0 : TInterval) (a1 : TInterval) (r : TInterval) (w : World) (G : interval_Sub a0 a1 = some r) :
  Calls Tryd.prog 73 #[.agg #[vI a0.Lo, vI a0.Hi], .agg #[vI a1.Lo, vI a1.Hi]] w fun e w' => e = .returned (.agg #[vI r.Lo, vI r.Hi]) ∧ Below w.heap.size w w' := by
 refine k_enter (args := [.agg #[vI a0.Lo, vI a0.Hi], .agg #[vI a1.Lo, vI a1.Hi]]) 9 Tryd.func73 rfl (by kernel_rfl) (by kernel_rfl) fun a H => ?_
 unfold interval_Sub at G
 refine k_seq ?_
 refine k_rg mixed H (.cons [2, 9] (ok_new (fun b => vP b 0) (fun u1 => [vI a0.Lo, vI a0.Hi]) 37 2 9) <|
   .cons [3, 10] (ok_new (fun b => vP b 0) (fun u1 => [vI a1.Lo, vI a1.Hi]) 37 3 10) <|
   .cons [4, 11] (ok_new (fun b => vP b 0) (fun u1 => [vI 0, vI 0]) 37 4 11) <| .nil) fun u1 a w' H => ?_
 replace H := H.kp [2, 3, 4, 9, 10, 11]
 refine k_seq ?_
 replace G := bnd G; obtain ⟨t3, ht3, G⟩ := G
 replace G := bnd G; obtain ⟨t4, ht4, G⟩ := G
 refine k_rg mixed H (.cons [5] (ok_ld (fun u2 => .agg #[vI a0.Lo, vI a0.Hi]) 5 9 0 2 (fun u2 => ((u1 0).n 0)) (fun u2 => [vI a0.Lo, vI a0.Hi]) 37) <|
   .cons [6] (ok_ld (fun u2 => .agg #[vI a1.Lo, vI a1.Hi]) 6 10 0 2 (fun u2 => ((u1 1).n 0)) (fun u2 => [vI a1.Lo, vI a1.Hi]) 37) <|
   .cons [7] (ok_callv 103 (fun u2 => #[.agg #[vI a1.Lo, vI a1.Hi]]) (.agg #[vI t3.Lo, vI t3.Hi]) 7 [] (fun u2 w _ => interval_Neg.calls a1  t3 w  ht3)) <|
   .cons [8] (ok_callv 89 (fun u2 => #[.agg #[vI a0.Lo, vI a0.Hi], .agg #[vI t3.Lo, vI t3.Hi]]) (.agg #[vI t4.Lo, vI t4.Hi]) 8 [] (fun u2 w _ => interval_Add.calls a0 t3  t4 w  ht4)) <|
   .cons [11] (ok_as (u' := fun u2 => [(11, .blk ((u1 2).n 0) [vI t4.Lo, vI t4.Hi] 37)]) (ok_store 11 0 (fun u2 => ((u1 2).n 0)) (fun u2 => [vI 0, vI 0]) (fun u2 => [vI t4.Lo, vI t4.Hi]) 37) (fun _ => by kernel_rfl)) <| .nil) fun u2 a w' H => ?_
 replace H := H.kp [4, 11]
 refine k_ret ?_
 obtain rfl := Option.some.inj G
 exact k_done1 H _ 11 ((u1 2).n 0) [vI t4.Lo, vI t4.Hi] 37 0 2 (by kernel_rfl) (by kernel_rfl) (by kernel_rfl) (by kernel_rfl)
set_option maxHeartbeats 4000000 in
theorem api_Interval_105_s76.calls (k0 : Nat) (a0 : List TInterval) (p_a0 : Option Addr) (c_a0 : Nat) (r : Int) (w : World) (hB : AllH [rdl anyF 2 p_a0 c_a0 a0 en_TInterval] w) (G : api_Interval_105_s76 k0 a0 = some r) :
  Calls Tryd.prog 105 #[.slice p_a0 a0.length c_a0, .func (.func 76) #[] #[]] w fun e w' => e = .returned (vI r) ∧ Below w.heap.size w w' := by
 obtain ⟨fr, hfr⟩ : ∃ fr : Nat → Prop, ∀ j, fr j := ⟨fun _ => True, fun _ => trivial⟩
 have hBf : ∀ j, w.heap.size ≤ j → fr j := fun j _ => hfr j
 refine k_enterF (args := [.slice p_a0 a0.length c_a0, .func (.func 76) #[] #[]]) 19 [(19, rdl anyF 2 p_a0 c_a0 a0 en_TInterval)] (by
  intro x hx
  simp only [List.mem_cons, List.not_mem_nil, or_false] at hx
  rcases hx with rfl
  exact rdF_fact (rdF_of hB.1) (fun _ _ => trivial) (by decide) _) Tryd.func105 rfl (by kernel_rfl) (by kernel_rfl) fun a H => ?_
 unfold api_Interval_105_s76 at G
 refine k_seq ?_
 refine k_rg mixed H (.v 4 (vI 0) <| .nil) fun u1 a w' H => ?_
 replace H := H.kp [0, 1, 19]
 refine k_seq ?_
 replace G := bnd G; obtain ⟨j2, hj2, Gj2⟩ := G
 refine k_join (fun a w' => ∃ j2v, j2 = Sum.inr j2v ∧ Rep w.heap.size w 19 (ofL []) a w') ?_ ?_
 ·clear H; rintro a w' ⟨j2v, rfl, H⟩; have G := Gj2; clear Gj2; dsimp only at G
  refine k_seq ?_
  refine k_rg mixed H (.v 4 (vI (-1)) <| .nil) fun u3 a w' H => ?_
  replace H := H.kp [4]
  refine k_ret ?_
  obtain rfl := Option.some.inj G
  exact k_done0 H _ (by kernel_rfl) (by kernel_rfl)
 ·have G := hj2; clear hj2
  refine k_seq ?_
  refine k_rg mixed H (.v 6 (.slice p_a0 a0.length c_a0) <|
   .v 7 (vI (a0.length : Int)) <|
   .v 8 (vI 0) <| .nil) fun u4 a w' H => ?_
  replace H := H.kp [0, 1, 7, 8, 19]
  refine k_block ?_
  refine k_loopJ (fun m a w' => ∃ x5 : Int, api_Interval_105_s76.l6 k0 a0 m x5 = some j2 ∧ Rep w.heap.size w 19 (ofL [(0, sS p_a0 a0.length c_a0), (1, .slot true (.func (.func 76) #[] #[])), (7, (sI (a0.length : Int))), (8, sI x5), (19, rdl anyF 2 p_a0 c_a0 a0 en_TInterval)]) a w') k0 ⟨_, G, H.toL _ (by kernel_rfl)⟩ ?_
  clear G H
  rintro (_ | k) a w' ⟨x5, G, H⟩
  ·exact absurd G (by unfold api_Interval_105_s76.l6; exact fun h => by cases h)
  ·unfold api_Interval_105_s76.l6 at G
   refine k_seq ?_
   refine k_rg mixed H (.v 9 (.bool (decide (x5 < (a0.length : Int)))) <| .nil) fun u7 a w' H => ?_
   replace H := H.kp [0, 1, 7, 8, 9, 19]
   refine k_seq ?_
   refine k_cond H (by kernel_rfl) (t := decide (x5 < (a0.length : Int))) (by kernel_rfl) (fun c16 => ?_) (fun c16 => ?_)
   ·rw [if_pos c16] at G
    refine k_skip ?_
    refine k_seq ?_
    refine k_block ?_
    refine k_seq ?_
    refine k_rg mixed H (.v 10 (vI x5) <|
   .v 5 (vI x5) <| .nil) fun u8 a w' H => ?_
    replace H := H.kp [0, 1, 5, 7, 8, 19]
    refine k_seq ?_
    replace G := gd G; obtain ⟨b10, G⟩ := G
    replace G := bnd G; obtain ⟨t11, ht11, G⟩ := G
    replace G := bnd G; obtain ⟨t12, ht12, G⟩ := G
    refine k_rg mixed H (.v 11 (.func (.func 76) #[] #[]) <|
   .v 12 (.slice p_a0 a0.length c_a0) <|
   .v 13 (vI x5) <|
   .cons [14] (ok_valL [19] (fun u9 => [rdl anyF 2 p_a0 c_a0 a0 en_TInterval]) (fun u9 => .pointer (some ⟨hdB p_a0, hdO p_a0 + x5.toNat * 2, none⟩)) (fun u9 => true) [true, true] 14 (fun u9 w hg hF => ix_row (t := 22) (k := .i64) (i := x5) (p := p_a0) (n := a0.length) (cap := c_a0) (x := a0) (en := en_TInterval) (rdF_of hF.1).2 en_TInterval_len rfl b10 (by kernel_rfl))) <|
   .cons [15] (ok_valL [19] (fun u9 => [rdl anyF 2 p_a0 c_a0 a0 en_TInterval]) (fun u9 => .agg #[vI t11.Lo, vI t11.Hi]) (fun u9 => true) [true] 15 (fun u9 w hg hF => ld_row (en := en_TInterval) (rdF_of hF.1).2 en_TInterval_len ht11 0 2 [vI t11.Lo, vI t11.Hi] rfl (by kernel_rfl))) <|
   .cons [16] (ok_callv 76 (fun u9 => #[.agg #[vI t11.Lo, vI t11.Hi]]) (.bool t12) 16 [] (fun u9 w _ => interval_IsEntire.calls t11  t12 w  ht12)) <| .nil) fun u9 a w' H => ?_
    replace H := H.kp [0, 1, 5, 7, 8, 16, 19]
    refine k_cond H (by kernel_rfl) (t := t12) (by kernel_rfl) (fun c15 => ?_) (fun c15 => ?_)
    ·rw [if_pos c15] at G
     refine k_seq ?_
     refine k_rg mixed H (.v 17 (vI x5) <|
   .v 4 (vI x5) <| .nil) fun u13 a w' H => ?_
     replace H := H.kp [4]
     refine k_ret ?_
     obtain rfl := Option.some.inj G
     replace G := Gj2
     obtain rfl := Option.some.inj G
     exact k_done0 H _ (by kernel_rfl) (by kernel_rfl)
    ·rw [if_neg (nt c15)] at G
     refine k_skip ?_
     refine k_rg mixed H (.v 18 (vI (w_i64 (x5 + 1))) <|
   .v 8 (vI (w_i64 (x5 + 1))) <| .nil) fun u14 a w' H => ?_
     replace H := H.kp [0, 1, 7, 8, 19]
     exact ⟨k, Nat.lt_succ_self k, _, G, H.toL _ (by kernel_rfl)⟩
   ·rw [if_neg (nt c16)] at G
    refine k_exit rfl ?_
    obtain rfl := Option.some.inj G
    exact ⟨_, rfl, H.toL _ (by kernel_rfl)⟩
set_option maxHeartbeats 4000000 in
theorem api_Interval_75_s76.calls (k0 : Nat) (a0 : List TInterval) (p_a0 : Option Addr) (c_a0 : Nat) (r : Bool) (w : World) (hB : AllH [rdl anyF 2 p_a0 c_a0 a0 en_TInterval] w) (G : api_Interval_75_s76 k0 a0 = some r) :
  Calls Tryd.prog 75 #[.slice p_a0 a0.length c_a0, .func (.func 76) #[] #[]] w fun e w' => e = .returned (.bool r) ∧ Below w.heap.size w w' := by
 obtain ⟨fr, hfr⟩ : ∃ fr : Nat → Prop, ∀ j, fr j := ⟨fun _ => True, fun _ => trivial⟩
 have hBf : ∀ j, w.heap.size ≤ j → fr j := fun j _ => hfr j
 refine k_enterF (args := [.slice p_a0 a0.length c_a0, .func (.func 76) #[] #[]]) 9 [(9, rdl anyF 2 p_a0 c_a0 a0 en_TInterval)] (by
  intro x hx
  simp only [List.mem_cons, List.not_mem_nil, or_false] at hx
  rcases hx with rfl
  exact rdF_fact (rdF_of hB.1) (fun _ _ => trivial) (by decide) _) Tryd.func75 rfl (by kernel_rfl) (by kernel_rfl) fun a H => ?_
 unfold api_Interval_75_s76 at G
 refine k_seq ?_
 refine k_rg mixed H (.v 4 (.bool false) <| .nil) fun u1 a w' H => ?_
 replace H := H.kp [0, 1, 9]
 refine k_seq ?_
 replace G := bnd G; obtain ⟨t3, ht3, G⟩ := G
 refine k_rg mixed H (.v 5 (.slice p_a0 a0.length c_a0) <|
   .v 6 (.func (.func 76) #[] #[]) <|
   .cons [7] (ok_callL [9] (fun u2 => [rdl anyF 2 p_a0 c_a0 a0 en_TInterval]) 105 (fun u2 => #[.slice p_a0 a0.length c_a0, .func (.func 76) #[] #[]]) (vI t3) 7 (fun u2 w hF => api_Interval_105_s76.calls k0 a0 p_a0 c_a0 t3 w  ⟨(rdA (rdF_of hF.1)), trivial⟩ ht3)) <|
   .v 8 (.bool (decide (t3 ≥ 0))) <|
   .v 4 (.bool (decide (t3 ≥ 0))) <| .nil) fun u2 a w' H => ?_
 replace H := H.kp [4]
 refine k_ret ?_
 obtain rfl := Option.some.inj G
 exact k_done0 H _ (by kernel_rfl) (by kernel_rfl)
end Go.Proofs.YtglcmhldonkfdaaDoor
