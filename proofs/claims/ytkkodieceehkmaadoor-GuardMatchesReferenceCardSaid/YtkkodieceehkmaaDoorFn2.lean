/- Each function of the program answers as the plain Lean function of its name (part 2). Printed by a program of this session. -/
import Derived.Test.YtkkodieceehkmaaDoorFn1
set_option linter.unusedVariables false
set_option maxRecDepth 100000
namespace Go.Proofs.YtkkodieceehkmaaDoor
open Go Go.RowKit Go.Sx Go.Proofs
set_option maxHeartbeats 4000000 in
theorem armillaryref07_Arity.calls (a0 : Int) (r : Int) (w : World) (G : armillaryref07_Arity a0 = some r) :
  Calls Tryd.prog 81 #[vI a0] w fun e w' => e = .returned (vI r) ∧ Below w.heap.size w w' := by
 refine k_enter (args := [vI a0]) 13 Tryd.func81 rfl (by kernel_rfl) (by kernel_rfl) fun a H => ?_
 unfold armillaryref07_Arity at G
 refine k_seq ?_
 refine k_rg mixed H (.v 2 (vI 0) <| .nil) fun u1 a w' H => ?_
 replace H := H.toM [(0, sI a0)]
 refine k_seq ?_
 refine k_seq ?_
 refine k_rg mixed H (.v 3 (vI a0) <|
   .v 4 (.bool (decide (a0 < 1))) <|
   .v 5 (.bool (decide (a0 < 1))) <|
   .cons [6] (ok_valg (fun u2 => vI a0) (fun u2 => ((decide (a0 < 1)) == false)) [true] 6) <|
   .cons [7] (ok_valg (fun u2 => .bool (decide (a0 > 10))) (fun u2 => ((decide (a0 < 1)) == false)) [false, true] 7) <|
   .cons [8] (ok_or 5 7 (fun u2 => true) (fun u2 => true) (fun u2 => decide (a0 < 1)) (fun u2 => decide (a0 > 10)) 8) <| .nil) fun u2 a w' H => ?_
 replace H := H.toM [(0, sI a0), (8, (sB ((decide (a0 < 1)) || (decide (a0 > 10)))))]
 refine k_cond H (by kernel_rfl) (t := ((decide (a0 < 1)) || (decide (a0 > 10)))) (by kernel_rfl) (fun c11 => ?_) (fun c11 => ?_)
 ·rw [if_pos c11] at G
  refine k_seq ?_
  refine k_rg mixed H (.v 2 (vI (-1)) <| .nil) fun u3 a w' H => ?_
  replace H := H.toM [(2, (sI (-1)))]
  refine k_ret ?_
  obtain rfl := Option.some.inj G
  exact k_done0 H _ (by kernel_rfl) (by kernel_rfl)
 ·rw [if_neg (nt c11)] at G
  refine k_skip ?_
  refine k_seq ?_
  refine k_seq ?_
  refine k_rg mixed H (.v 9 (vI a0) <|
   .v 10 (.bool (decide (a0 ≤ 3))) <| .nil) fun u4 a w' H => ?_
  replace H := H.toM [(0, sI a0), (10, (sB (decide (a0 ≤ 3))))]
  refine k_cond H (by kernel_rfl) (t := decide (a0 ≤ 3)) (by kernel_rfl) (fun c10 => ?_) (fun c10 => ?_)
  ·rw [if_pos c10] at G
   refine k_seq ?_
   refine k_rg mixed H (.v 2 (vI 0) <| .nil) fun u5 a w' H => ?_
   replace H := H.toM [(2, sI 0)]
   refine k_ret ?_
   obtain rfl := Option.some.inj G
   exact k_done0 H _ (by kernel_rfl) (by kernel_rfl)
  ·rw [if_neg (nt c10)] at G
   refine k_skip ?_
   refine k_seq ?_
   refine k_seq ?_
   refine k_rg mixed H (.v 11 (vI a0) <|
   .v 12 (.bool (decide (a0 ≤ 6))) <| .nil) fun u6 a w' H => ?_
   replace H := H.toM [(12, (sB (decide (a0 ≤ 6))))]
   refine k_cond H (by kernel_rfl) (t := decide (a0 ≤ 6)) (by kernel_rfl) (fun c9 => ?_) (fun c9 => ?_)
   ·rw [if_pos c9] at G
    refine k_seq ?_
    refine k_rg mixed H (.v 2 (vI 1) <| .nil) fun u7 a w' H => ?_
    replace H := H.toM [(2, sI 1)]
    refine k_ret ?_
    obtain rfl := Option.some.inj G
    exact k_done0 H _ (by kernel_rfl) (by kernel_rfl)
   ·rw [if_neg (nt c9)] at G
    refine k_skip ?_
    refine k_seq ?_
    refine k_rg mixed H (.v 2 (vI 2) <| .nil) fun u8 a w' H => ?_
    replace H := H.toM [(2, sI 2)]
    refine k_ret ?_
    obtain rfl := Option.some.inj G
    exact k_done0 H _ (by kernel_rfl) (by kernel_rfl)

set_option maxHeartbeats 4000000 in
theorem armillaryref07_Const.calls (a0 : TInterval) (r : List TNode) (w : World) (G : armillaryref07_Const a0 = some r) :
  Calls Tryd.prog 94 #[.agg #[vI a0.Lo, vI a0.Hi]] w fun e w' => ∃ p cap, e = .returned (.slice p r.length cap) ∧ Below w.heap.size w w' ∧ w'.ownsRow w.heap.size 53 4 (.slice p r.length cap) r.length (r.flatMap en_TNode) := by
 refine k_enter (args := [.agg #[vI a0.Lo, vI a0.Hi]]) 6 Tryd.func94 rfl (by kernel_rfl) (by kernel_rfl) fun a H => ?_
 unfold armillaryref07_Const at G
 refine k_seq ?_
 refine k_rg mixed H (.cons [1, 6] (ok_new (fun b => vP b 0) (fun u1 => [vI a0.Lo, vI a0.Hi]) 38 1 6) <|
   .v 2 (.slice none 0 0) <| .nil) fun u1 a w' H => ?_
 replace H := H.toM [(1, (sP ((u1 0).n 0) 0)), (6, .blk ((u1 0).n 0) [vI a0.Lo, vI a0.Hi] 38)]
 refine k_seq ?_
 refine k_rg mixed H (.cons [3] (ok_ld (fun u2 => .agg #[vI a0.Lo, vI a0.Hi]) 3 6 0 2 (fun u2 => ((u1 0).n 0)) (fun u2 => [vI a0.Lo, vI a0.Hi]) 38) <|
   .v 4 (.agg #[vI 1, vI 0, vI a0.Lo, vI a0.Hi]) <|
   .cons [5, 7] (ok_new (fun b => .slice (some ⟨b, 0, none⟩) 1 1) (fun u2 => [vI 1, vI 0, vI a0.Lo, vI a0.Hi]) 53 5 7) <|
   .cons [2] (ok_val (fun u2 => .slice (some ⟨((u2 2).n 0), 0, none⟩) 1 1) 2) <| .nil) fun u2 a w' H => ?_
 replace H := H.toM [(2, (sS (some ⟨((u2 2).n 0), 0, none⟩) 1 1)), (7, .blk ((u2 2).n 0) [vI 1, vI 0, vI a0.Lo, vI a0.Hi] 53)]
 refine k_ret ?_
 obtain rfl := Option.some.inj G
 replace H := H.blk_row 7 ((u2 2).n 0) [vI 1, vI 0, vI a0.Lo, vI a0.Hi] 53 4 1 (by kernel_rfl) (by kernel_rfl) (by decide)
 exact k_doneR H (fun p cap => .slice p ([(⟨1, 0, a0⟩ : TNode)] : List TNode).length cap) (some ⟨((u2 2).n 0), 0, none⟩) 1 [] 7 53 4 ([(⟨1, 0, a0⟩ : TNode)] : List TNode).length (([(⟨1, 0, a0⟩ : TNode)] : List TNode).flatMap en_TNode) (by kernel_rfl) (by kernel_rfl) (by simp) (by kernel_rfl)

set_option maxHeartbeats 4000000 in
theorem armillaryref02_Near.calls (a0 : TInterval) (a1 : Int) (r : TInterval) (w : World) (G : armillaryref02_Near a0 a1 = some r) :
  Calls Tryd.prog 95 #[.agg #[vI a0.Lo, vI a0.Hi], vI a1] w fun e w' => e = .returned (.agg #[vI r.Lo, vI r.Hi]) ∧ Below w.heap.size w w' := by
 refine k_enter (args := [.agg #[vI a0.Lo, vI a0.Hi], vI a1]) 23 Tryd.func95 rfl (by kernel_rfl) (by kernel_rfl) fun a H => ?_
 unfold armillaryref02_Near at G
 refine k_seq ?_
 refine k_rg mixed H (.cons [2, 23] (ok_new (fun b => vP b 0) (fun u1 => [vI a0.Lo, vI a0.Hi]) 38 2 23) <|
   .cons [4, 24] (ok_new (fun b => vP b 0) (fun u1 => [vI 0, vI 0]) 38 4 24) <| .nil) fun u1 a w' H => ?_
 replace H := H.toM [(1, sI a1), (2, (sP ((u1 0).n 0) 0)), (4, (sP ((u1 1).n 0) 0)), (23, .blk ((u1 0).n 0) [vI a0.Lo, vI a0.Hi] 38), (24, .blk ((u1 1).n 0) [vI 0, vI 0] 38)]
 refine k_seq ?_
 replace G := gd G; obtain ⟨n3, G⟩ := G
 replace G := gd G; obtain ⟨n4, G⟩ := G
 refine k_rg mixed H (.v 7 (vP ((u1 0).n 0) 0) <|
   .cons [8] (ok_ld (fun u2 => vI a0.Lo) 8 23 0 1 (fun u2 => ((u1 0).n 0)) (fun u2 => [vI a0.Lo, vI a0.Hi]) 38) <|
   .v 9 (vI (Int.tmod a0.Lo 1048576)) <|
   .v 10 (vP ((u1 0).n 0) 1) <|
   .cons [11] (ok_ld (fun u2 => vI a0.Hi) 11 23 1 1 (fun u2 => ((u1 0).n 0)) (fun u2 => [vI a0.Lo, vI a0.Hi]) 38) <|
   .v 12 (vI a1) <|
   .cons [13] (ok_val (fun u2 => vI (Int.tmod a0.Hi a1)) 13 (hv := fun _ _ => run_of (by kernel_rfl) (run_rem (k := .i64) (x := a0.Hi) (y := a1) n3))) <|
   .v 14 (vI a1) <|
   .v 15 (vI (w_i64 ((Int.tmod a0.Hi a1) + a1))) <|
   .v 16 (vI a1) <|
   .cons [17] (ok_val (fun u2 => vI (Int.tmod (w_i64 ((Int.tmod a0.Hi a1) + a1)) a1)) 17 (hv := fun _ _ => run_of (by kernel_rfl) (run_rem (k := .i64) (x := w_i64 ((Int.tmod a0.Hi a1) + a1)) (y := a1) n4))) <|
   .v 5 (vI (Int.tmod a0.Lo 1048576)) <|
   .v 6 (vI (Int.tmod (w_i64 ((Int.tmod a0.Hi a1) + a1)) a1)) <| .nil) fun u2 a w' H => ?_
 replace H := H.toM [(4, (sP ((u1 1).n 0) 0)), (5, (sI (Int.tmod a0.Lo 1048576))), (6, (sI (Int.tmod (w_i64 ((Int.tmod a0.Hi a1) + a1)) a1))), (24, .blk ((u1 1).n 0) [vI 0, vI 0] 38)]
 refine k_seq ?_
 refine k_rg mixed H (.v 18 (vI (Int.tmod a0.Lo 1048576)) <|
   .v 19 (vI (Int.tmod a0.Lo 1048576)) <|
   .v 20 (vI (Int.tmod (w_i64 ((Int.tmod a0.Hi a1) + a1)) a1)) <|
   .v 21 (vI (w_i64 ((Int.tmod a0.Lo 1048576) + (Int.tmod (w_i64 ((Int.tmod a0.Hi a1) + a1)) a1)))) <|
   .v 22 (.agg #[vI (Int.tmod a0.Lo 1048576), vI (w_i64 ((Int.tmod a0.Lo 1048576) + (Int.tmod (w_i64 ((Int.tmod a0.Hi a1) + a1)) a1)))]) <|
   .cons [24] (ok_as (u' := fun u5 => [(24, .blk ((u1 1).n 0) [vI (Int.tmod a0.Lo 1048576), vI (w_i64 ((Int.tmod a0.Lo 1048576) + (Int.tmod (w_i64 ((Int.tmod a0.Hi a1) + a1)) a1)))] 38)]) (ok_store 24 0 (fun u5 => ((u1 1).n 0)) (fun u5 => [vI 0, vI 0]) (fun u5 => [vI (Int.tmod a0.Lo 1048576), vI (w_i64 ((Int.tmod a0.Lo 1048576) + (Int.tmod (w_i64 ((Int.tmod a0.Hi a1) + a1)) a1)))]) 38) (fun _ => by kernel_rfl)) <| .nil) fun u5 a w' H => ?_
 replace H := H.toM [(4, (sP ((u1 1).n 0) 0)), (24, .blk ((u1 1).n 0) [vI (Int.tmod a0.Lo 1048576), vI (w_i64 ((Int.tmod a0.Lo 1048576) + (Int.tmod (w_i64 ((Int.tmod a0.Hi a1) + a1)) a1)))] 38)]
 refine k_ret ?_
 obtain rfl := Option.some.inj G
 exact k_done1 H _ 24 ((u1 1).n 0) [vI (Int.tmod a0.Lo 1048576), vI (w_i64 ((Int.tmod a0.Lo 1048576) + (Int.tmod (w_i64 ((Int.tmod a0.Hi a1) + a1)) a1)))] 38 0 2 (by kernel_rfl) (by kernel_rfl) (by kernel_rfl) (by kernel_rfl)

set_option maxHeartbeats 4000000 in
theorem armillaryref07_Unary.calls (a0 : Int) (a1 : List TNode) (p_a1 : Option Addr) (c_a1 : Nat) (r : List TNode) (w : World) (R_p_a1 : RowC w 4 p_a1 a1.length c_a1 (a1.flatMap en_TNode)) (G : armillaryref07_Unary a0 a1 = some r) :
  Calls Tryd.prog 96 #[vI a0, .slice p_a1 a1.length c_a1] w fun e w' => ∃ p cap, e = .returned (.slice p r.length cap) ∧ Below w.heap.size w w' ∧ w'.ownsRow w.heap.size 53 4 (.slice p r.length cap) r.length (r.flatMap en_TNode) := by
 obtain ⟨fr, hfr⟩ : ∃ fr : Nat → Prop, ∀ j, fr j := ⟨fun _ => True, fun _ => trivial⟩
 have hB : ∀ j, w.heap.size ≤ j → fr j := fun j _ => hfr j
 have hin_p_a1 : ∀ j, fpRow p_a1 a1.length j → fr j := fun j _ => hfr j
 refine k_enterF (args := [vI a0, .slice p_a1 a1.length c_a1]) 13 [(13, rdl fr 4 p_a1 c_a1 a1 en_TNode)] (by
  intro x hx
  simp only [List.mem_cons, List.not_mem_nil, or_false] at hx
  rcases hx with rfl
  exact rdF_fact R_p_a1 hin_p_a1 (by decide) _) Tryd.func96 rfl (by kernel_rfl) (by kernel_rfl) fun a H => ?_
 unfold armillaryref07_Unary at G
 refine k_seq ?_
 refine k_rg mixed H (.v 4 (.slice none 0 0) <| .nil) fun u1 a w' H => ?_
 replace H := H.toM [(0, sI a0), (1, sS p_a1 a1.length c_a1), (13, rdl fr 4 p_a1 c_a1 a1 en_TNode)]
 refine k_seq ?_
 refine k_rg mixed H (.v 6 (vI a0) <|
   .v 7 (.agg #[vI a0, vI 0, vI 0, vI 0]) <|
   .cons [8, 14] (ok_new (fun b => .slice (some ⟨b, 0, none⟩) 1 1) (fun u2 => [vI a0, vI 0, vI 0, vI 0]) 53 8 14) <|
   .cons [5] (ok_val (fun u2 => .slice (some ⟨((u2 2).n 0), 0, none⟩) 1 1) 5) <| .nil) fun u2 a w' H => ?_
 replace H := H.toM [(1, sS p_a1 a1.length c_a1), (5, (sS (some ⟨((u2 2).n 0), 0, none⟩) 1 1)), (14, .blk ((u2 2).n 0) [vI a0, vI 0, vI 0, vI 0] 53), (13, rdl fr 4 p_a1 c_a1 a1 en_TNode)]
 refine k_seq ?_
 replace G := gd G; obtain ⟨b4, G⟩ := G
 refine k_rg mixed H (.v 9 (.slice (some ⟨((u2 2).n 0), 0, none⟩) 1 1) <|
   .v 10 (.slice p_a1 a1.length c_a1) <|
   .cons [11, 14] (ok_rowL [14, 13] (fun u3 => [.blk ((u2 2).n 0) [vI a0, vI 0, vI 0, vI 0] 53, rdl fr 4 p_a1 c_a1 a1 en_TNode]) 53 4 ([(⟨a0, 0, (⟨0, 0⟩ : TInterval)⟩ : TNode)] ++ a1).length (([(⟨a0, 0, (⟨0, 0⟩ : TInterval)⟩ : TNode)] ++ a1).flatMap en_TNode) 11 14 (fun u3 => .blk ((u2 2).n 0) [vI a0, vI 0, vI 0, vI 0] 53) (fun u3 w hF => run_app_lit (t := 22) (ty := 22) (en := en_TNode) (l := [(⟨a0, 0, (⟨0, 0⟩ : TInterval)⟩ : TNode)]) (m := a1) (p2 := p_a1) (cap2 := c_a1) en_TNode_len (fun _ => rfl) inf53 hF.1 rfl (rdF_of hF.2.1).2 b4 (by simp) (by kernel_rfl)) (fun _ => .inr trivial)) <|
   .cons [5] (ok_val (fun u3 => .slice ((u3 2).o 0) ([(⟨a0, 0, (⟨0, 0⟩ : TInterval)⟩ : TNode)] ++ a1).length ((u3 2).n 0)) 5) <| .nil) fun u3 a w' H => ?_
 replace H := H.toM [(5, (sS ((u3 2).o 0) ([(⟨a0, 0, (⟨0, 0⟩ : TInterval)⟩ : TNode)] ++ a1).length ((u3 2).n 0))), (14, owK 53 4 ((u3 2).o 0) ([(⟨a0, 0, (⟨0, 0⟩ : TInterval)⟩ : TNode)] ++ a1).length ((u3 2).n 0) (([(⟨a0, 0, (⟨0, 0⟩ : TInterval)⟩ : TNode)] ++ a1).flatMap en_TNode))]
 refine k_seq ?_
 refine k_rg mixed H (.v 12 (.slice ((u3 2).o 0) ([(⟨a0, 0, (⟨0, 0⟩ : TInterval)⟩ : TNode)] ++ a1).length ((u3 2).n 0)) <|
   .v 4 (.slice ((u3 2).o 0) ([(⟨a0, 0, (⟨0, 0⟩ : TInterval)⟩ : TNode)] ++ a1).length ((u3 2).n 0)) <| .nil) fun u5 a w' H => ?_
 replace H := H.toM [(4, (sS ((u3 2).o 0) ([(⟨a0, 0, (⟨0, 0⟩ : TInterval)⟩ : TNode)] ++ a1).length ((u3 2).n 0))), (14, owK 53 4 ((u3 2).o 0) ([(⟨a0, 0, (⟨0, 0⟩ : TInterval)⟩ : TNode)] ++ a1).length ((u3 2).n 0) (([(⟨a0, 0, (⟨0, 0⟩ : TInterval)⟩ : TNode)] ++ a1).flatMap en_TNode))]
 refine k_ret ?_
 obtain rfl := Option.some.inj G
 exact k_doneR H (fun p cap => .slice p ([(⟨a0, 0, (⟨0, 0⟩ : TInterval)⟩ : TNode)] ++ a1).length cap) ((u3 2).o 0) ((u3 2).n 0) [] 14 53 4 ([(⟨a0, 0, (⟨0, 0⟩ : TInterval)⟩ : TNode)] ++ a1).length (([(⟨a0, 0, (⟨0, 0⟩ : TInterval)⟩ : TNode)] ++ a1).flatMap en_TNode) (by kernel_rfl) (by kernel_rfl) (by simp) (by kernel_rfl)

set_option maxHeartbeats 4000000 in
theorem armillaryref07_Binary.calls (a0 : Int) (a1 : List TNode) (a2 : List TNode) (p_a1 : Option Addr) (c_a1 : Nat) (p_a2 : Option Addr) (c_a2 : Nat) (r : List TNode) (w : World) (R_p_a1 : RowC w 4 p_a1 a1.length c_a1 (a1.flatMap en_TNode)) (R_p_a2 : RowC w 4 p_a2 a2.length c_a2 (a2.flatMap en_TNode)) (G : armillaryref07_Binary a0 a1 a2 = some r) :
  Calls Tryd.prog 97 #[vI a0, .slice p_a1 a1.length c_a1, .slice p_a2 a2.length c_a2] w fun e w' => ∃ p cap, e = .returned (.slice p r.length cap) ∧ Below w.heap.size w w' ∧ w'.ownsRow w.heap.size 53 4 (.slice p r.length cap) r.length (r.flatMap en_TNode) := by
 obtain ⟨fr, hfr⟩ : ∃ fr : Nat → Prop, ∀ j, fr j := ⟨fun _ => True, fun _ => trivial⟩
 have hB : ∀ j, w.heap.size ≤ j → fr j := fun j _ => hfr j
 have hin_p_a1 : ∀ j, fpRow p_a1 a1.length j → fr j := fun j _ => hfr j
 have hin_p_a2 : ∀ j, fpRow p_a2 a2.length j → fr j := fun j _ => hfr j
 refine k_enterF (args := [vI a0, .slice p_a1 a1.length c_a1, .slice p_a2 a2.length c_a2]) 18 [(18, rdl fr 4 p_a1 c_a1 a1 en_TNode), (19, rdl fr 4 p_a2 c_a2 a2 en_TNode)] (by
  intro x hx
  simp only [List.mem_cons, List.not_mem_nil, or_false] at hx
  rcases hx with rfl | rfl
  ·exact rdF_fact R_p_a1 hin_p_a1 (by decide) _
  ·exact rdF_fact R_p_a2 hin_p_a2 (by decide) _) Tryd.func97 rfl (by kernel_rfl) (by kernel_rfl) fun a H => ?_
 unfold armillaryref07_Binary at G
 refine k_seq ?_
 refine k_rg mixed H (.v 6 (.slice none 0 0) <| .nil) fun u1 a w' H => ?_
 replace H := H.toM [(0, sI a0), (1, sS p_a1 a1.length c_a1), (2, sS p_a2 a2.length c_a2), (18, rdl fr 4 p_a1 c_a1 a1 en_TNode), (19, rdl fr 4 p_a2 c_a2 a2 en_TNode)]
 refine k_seq ?_
 refine k_rg mixed H (.v 8 (vI a0) <|
   .v 9 (.agg #[vI a0, vI 0, vI 0, vI 0]) <|
   .cons [10, 20] (ok_new (fun b => .slice (some ⟨b, 0, none⟩) 1 1) (fun u2 => [vI a0, vI 0, vI 0, vI 0]) 53 10 20) <|
   .cons [7] (ok_val (fun u2 => .slice (some ⟨((u2 2).n 0), 0, none⟩) 1 1) 7) <| .nil) fun u2 a w' H => ?_
 replace H := H.toM [(1, sS p_a1 a1.length c_a1), (2, sS p_a2 a2.length c_a2), (7, (sS (some ⟨((u2 2).n 0), 0, none⟩) 1 1)), (20, .blk ((u2 2).n 0) [vI a0, vI 0, vI 0, vI 0] 53), (18, rdl fr 4 p_a1 c_a1 a1 en_TNode), (19, rdl fr 4 p_a2 c_a2 a2 en_TNode)]
 refine k_seq ?_
 replace G := gd G; obtain ⟨b4, G⟩ := G
 refine k_rg mixed H (.v 11 (.slice (some ⟨((u2 2).n 0), 0, none⟩) 1 1) <|
   .v 12 (.slice p_a1 a1.length c_a1) <|
   .cons [13, 20] (ok_rowL [20, 18] (fun u3 => [.blk ((u2 2).n 0) [vI a0, vI 0, vI 0, vI 0] 53, rdl fr 4 p_a1 c_a1 a1 en_TNode]) 53 4 ([(⟨a0, 0, (⟨0, 0⟩ : TInterval)⟩ : TNode)] ++ a1).length (([(⟨a0, 0, (⟨0, 0⟩ : TInterval)⟩ : TNode)] ++ a1).flatMap en_TNode) 13 20 (fun u3 => .blk ((u2 2).n 0) [vI a0, vI 0, vI 0, vI 0] 53) (fun u3 w hF => run_app_lit (t := 22) (ty := 22) (en := en_TNode) (l := [(⟨a0, 0, (⟨0, 0⟩ : TInterval)⟩ : TNode)]) (m := a1) (p2 := p_a1) (cap2 := c_a1) en_TNode_len (fun _ => rfl) inf53 hF.1 rfl (rdF_of hF.2.1).2 b4 (by simp) (by kernel_rfl)) (fun _ => .inr trivial)) <|
   .cons [7] (ok_val (fun u3 => .slice ((u3 2).o 0) ([(⟨a0, 0, (⟨0, 0⟩ : TInterval)⟩ : TNode)] ++ a1).length ((u3 2).n 0)) 7) <| .nil) fun u3 a w' H => ?_
 replace H := H.toM [(2, sS p_a2 a2.length c_a2), (7, (sS ((u3 2).o 0) ([(⟨a0, 0, (⟨0, 0⟩ : TInterval)⟩ : TNode)] ++ a1).length ((u3 2).n 0))), (19, rdl fr 4 p_a2 c_a2 a2 en_TNode), (20, owK 53 4 ((u3 2).o 0) ([(⟨a0, 0, (⟨0, 0⟩ : TInterval)⟩ : TNode)] ++ a1).length ((u3 2).n 0) (([(⟨a0, 0, (⟨0, 0⟩ : TInterval)⟩ : TNode)] ++ a1).flatMap en_TNode))]
 refine k_seq ?_
 replace G := gd G; obtain ⟨b6, G⟩ := G
 refine k_rg mixed H (.v 14 (.slice ((u3 2).o 0) ([(⟨a0, 0, (⟨0, 0⟩ : TInterval)⟩ : TNode)] ++ a1).length ((u3 2).n 0)) <|
   .v 15 (.slice p_a2 a2.length c_a2) <|
   .cons [16, 20] (ok_rowL [20, 19] (fun u5 => [owK 53 4 ((u3 2).o 0) ([(⟨a0, 0, (⟨0, 0⟩ : TInterval)⟩ : TNode)] ++ a1).length ((u3 2).n 0) (([(⟨a0, 0, (⟨0, 0⟩ : TInterval)⟩ : TNode)] ++ a1).flatMap en_TNode), rdl fr 4 p_a2 c_a2 a2 en_TNode]) 53 4 (([(⟨a0, 0, (⟨0, 0⟩ : TInterval)⟩ : TNode)] ++ a1) ++ a2).length ((([(⟨a0, 0, (⟨0, 0⟩ : TInterval)⟩ : TNode)] ++ a1) ++ a2).flatMap en_TNode) 16 20 (fun u5 => owK 53 4 ((u3 2).o 0) ([(⟨a0, 0, (⟨0, 0⟩ : TInterval)⟩ : TNode)] ++ a1).length ((u3 2).n 0) (([(⟨a0, 0, (⟨0, 0⟩ : TInterval)⟩ : TNode)] ++ a1).flatMap en_TNode)) (fun u5 w hF => run_app_rows (t := 22) (ty := 22) (en := en_TNode) (l := ([(⟨a0, 0, (⟨0, 0⟩ : TInterval)⟩ : TNode)] ++ a1)) (m := a2) (p2 := p_a2) (cap2 := c_a2) en_TNode_len (fun _ => rfl) inf53 (ow_of hF.1) (rdF_of hF.2.1).2 b6 (by kernel_rfl)) (fun _ => .inr trivial)) <|
   .cons [7] (ok_val (fun u5 => .slice ((u5 2).o 0) (([(⟨a0, 0, (⟨0, 0⟩ : TInterval)⟩ : TNode)] ++ a1) ++ a2).length ((u5 2).n 0)) 7) <| .nil) fun u5 a w' H => ?_
 replace H := H.toM [(7, (sS ((u5 2).o 0) (([(⟨a0, 0, (⟨0, 0⟩ : TInterval)⟩ : TNode)] ++ a1) ++ a2).length ((u5 2).n 0))), (20, owK 53 4 ((u5 2).o 0) (([(⟨a0, 0, (⟨0, 0⟩ : TInterval)⟩ : TNode)] ++ a1) ++ a2).length ((u5 2).n 0) ((([(⟨a0, 0, (⟨0, 0⟩ : TInterval)⟩ : TNode)] ++ a1) ++ a2).flatMap en_TNode))]
 refine k_seq ?_
 refine k_rg mixed H (.v 17 (.slice ((u5 2).o 0) (([(⟨a0, 0, (⟨0, 0⟩ : TInterval)⟩ : TNode)] ++ a1) ++ a2).length ((u5 2).n 0)) <|
   .v 6 (.slice ((u5 2).o 0) (([(⟨a0, 0, (⟨0, 0⟩ : TInterval)⟩ : TNode)] ++ a1) ++ a2).length ((u5 2).n 0)) <| .nil) fun u7 a w' H => ?_
 replace H := H.toM [(6, (sS ((u5 2).o 0) (([(⟨a0, 0, (⟨0, 0⟩ : TInterval)⟩ : TNode)] ++ a1) ++ a2).length ((u5 2).n 0))), (20, owK 53 4 ((u5 2).o 0) (([(⟨a0, 0, (⟨0, 0⟩ : TInterval)⟩ : TNode)] ++ a1) ++ a2).length ((u5 2).n 0) ((([(⟨a0, 0, (⟨0, 0⟩ : TInterval)⟩ : TNode)] ++ a1) ++ a2).flatMap en_TNode))]
 refine k_ret ?_
 obtain rfl := Option.some.inj G
 exact k_doneR H (fun p cap => .slice p (([(⟨a0, 0, (⟨0, 0⟩ : TInterval)⟩ : TNode)] ++ a1) ++ a2).length cap) ((u5 2).o 0) ((u5 2).n 0) [] 20 53 4 (([(⟨a0, 0, (⟨0, 0⟩ : TInterval)⟩ : TNode)] ++ a1) ++ a2).length ((([(⟨a0, 0, (⟨0, 0⟩ : TInterval)⟩ : TNode)] ++ a1) ++ a2).flatMap en_TNode) (by kernel_rfl) (by kernel_rfl) (by simp) (by kernel_rfl)

set_option maxHeartbeats 4000000 in
theorem armillaryref07_builder_build.calls : ∀ (k0 : Nat) (a1 : Int) (q0_0 : Tbuilder) (p_q0_0_raw : Option Addr) (c_q0_0_raw : Nat) (b_q0_0 : Nat) (r : List TNode × Tbuilder) (w : World) (R_p_q0_0_raw : RowC w 4 p_q0_0_raw q0_0.raw.length c_q0_0_raw (q0_0.raw.flatMap en_TNode)) (X_b_q0_0 : (KV.blk b_q0_0 [.slice p_q0_0_raw q0_0.raw.length c_q0_0_raw, vI q0_0.n] 100).holds w) (NB_p_q0_0_raw : ¬ fpRow p_q0_0_raw q0_0.raw.length b_q0_0) (G : armillaryref07_builder_build k0 a1 q0_0 = some r),
  Calls Tryd.prog 77 #[vP b_q0_0 0, vI a1] w fun e w' => ∃ g : Gh, e = .returned (.slice (g.o 0) r.1.length (g.n 0)) ∧ But (· = b_q0_0) w w' ∧ (KV.blk b_q0_0 [.slice (g.o 1) r.2.raw.length (g.n 1), vI r.2.n] 100).holds w' ∧ RowsF (frP w.heap.size (insV ([.slice p_q0_0_raw q0_0.raw.length c_q0_0_raw, vI q0_0.n] ++ (#[vP b_q0_0 0, vI a1] : Array Value).toList))) w' g.o g.n 0 [(4, r.1.length, r.1.flatMap en_TNode), (4, r.2.raw.length, r.2.raw.flatMap en_TNode)] := by
 intro k0
 induction k0 with
 | zero => intros; rename_i G; exact absurd G (by unfold armillaryref07_builder_build; exact fun h => by cases h)
 | succ k0 IH => ?_
 intro a1 q0_0 p_q0_0_raw c_q0_0_raw b_q0_0 r w R_p_q0_0_raw X_b_q0_0 NB_p_q0_0_raw G
 obtain ⟨fr, hfr⟩ : ∃ fr : Nat → Prop, fr = frP w.heap.size [(p_q0_0_raw, q0_0.raw.length)] := ⟨_, rfl⟩
 have hB : ∀ j, w.heap.size ≤ j → fr j := fun j h => by rw [hfr]; exact .inl h
 have hin_p_q0_0_raw : ∀ j, fpRow p_q0_0_raw q0_0.raw.length j → fr j := fun j h => by rw [hfr]; exact frP_in (.head _) j h
 refine k_enterX (args := [vP b_q0_0 0, vI a1]) 94 [(95, rdl fr 4 p_q0_0_raw c_q0_0_raw q0_0.raw en_TNode)] 94 b_q0_0 [.slice p_q0_0_raw q0_0.raw.length c_q0_0_raw, vI q0_0.n] 100 X_b_q0_0 (by
  intro x hx
  simp only [List.mem_cons, List.not_mem_nil, or_false] at hx
  rcases hx with rfl
  exact ⟨rdF_fact R_p_q0_0_raw hin_p_q0_0_raw (by decide) _, NB_p_q0_0_raw⟩) Tryd.func77 rfl (by kernel_rfl) (by kernel_rfl) fun a H => ?_
 unfold armillaryref07_builder_build at G
 generalize armillaryref07_builder_build k0 = rec at G IH
 unfold armillaryref07_builder_build.body at G
 refine k_seq ?_
 refine k_rg mixed H (.v 4 (.slice none 0 0) <| .nil) fun u1 a w' H => ?_
 replace H := H.toM [(0, sP b_q0_0 0), (1, sI a1), (94, .blk b_q0_0 [.slice p_q0_0_raw q0_0.raw.length c_q0_0_raw, vI q0_0.n] 100), (95, rdl fr 4 p_q0_0_raw c_q0_0_raw q0_0.raw en_TNode), (999998, frK b_q0_0 w)]
 refine k_seq ?_
 refine k_seq ?_
 refine k_rg mixed H (.v 8 (vP b_q0_0 0) <|
   .v 9 (vP b_q0_0 0) <|
   .v 10 (vP b_q0_0 0) <|
   .cons [11] (ok_ld (fun u2 => .slice p_q0_0_raw q0_0.raw.length c_q0_0_raw) 11 94 0 1 (fun u2 => b_q0_0) (fun u2 => [.slice p_q0_0_raw q0_0.raw.length c_q0_0_raw, vI q0_0.n]) 100) <|
   .v 12 (vI (q0_0.raw.length : Int)) <|
   .v 13 (.bool ((q0_0.raw.length : Int) == 0)) <| .nil) fun u2 a w' H => ?_
 replace H := H.toM [(0, sP b_q0_0 0), (1, sI a1), (13, (sB ((q0_0.raw.length : Int) == 0))), (94, .blk b_q0_0 [.slice p_q0_0_raw q0_0.raw.length c_q0_0_raw, vI q0_0.n] 100), (95, rdl fr 4 p_q0_0_raw c_q0_0_raw q0_0.raw en_TNode), (999998, frK b_q0_0 w)]
 refine k_cond H (by kernel_rfl) (t := ((q0_0.raw.length : Int) == 0)) (by kernel_rfl) (fun c36 => ?_) (fun c36 => ?_)
 ·rw [if_pos c36] at G
  refine k_seq ?_
  replace G := bnd G; obtain ⟨t4, ht4, G⟩ := G
  replace G := bnd G; obtain ⟨t5, ht5, G⟩ := G
  refine k_rg mixed H (.cons [14] (ok_callv 23 (fun u3 => #[vI 65536]) (.agg #[vI t4.Lo, vI t4.Hi]) 14 [] (fun _ w _ => armillaryref02_Point.calls 65536 t4 w ht4)) <|
   .cons [15, 96] (ok_callRL [] (fun u3 => []) 94 (fun u3 => #[.agg #[vI t4.Lo, vI t4.Hi]]) (fun p cap => .slice p t5.length cap) 53 4 t5.length (t5.flatMap en_TNode) 15 96 (fun u3 w hF => armillaryref07_Const.calls t4  t5 w  ht5)) <|
   .cons [4] (ok_val (fun u3 => .slice ((u3 1).o 0) t5.length ((u3 1).n 0)) 4) <| .nil) fun u3 a w' H => ?_
  replace H := H.toM [(4, (sS ((u3 1).o 0) t5.length ((u3 1).n 0))), (94, .blk b_q0_0 [.slice p_q0_0_raw q0_0.raw.length c_q0_0_raw, vI q0_0.n] 100), (95, rdl fr 4 p_q0_0_raw c_q0_0_raw q0_0.raw en_TNode), (96, owK 53 4 ((u3 1).o 0) t5.length ((u3 1).n 0) (t5.flatMap en_TNode)), (999998, frK b_q0_0 w)]
  refine k_ret ?_
  obtain rfl := Option.some.inj G
  rw [show frP w.heap.size (insV ([.slice p_q0_0_raw q0_0.raw.length c_q0_0_raw, vI q0_0.n] ++ (#[vP b_q0_0 0, vI a1] : Array Value).toList)) = fr from by rw [hfr]; exact congrArg (frP w.heap.size) (by kernel_rfl)]
  exact k_doneX H 94 [.slice p_q0_0_raw q0_0.raw.length c_q0_0_raw, vI q0_0.n] 100 (fun g => .slice (g.o 0) t5.length (g.n 0)) (fun g => [.slice (g.o 1) q0_0.raw.length (g.n 1), vI q0_0.n]) ⟨fun i => [((u3 1).n 0), c_q0_0_raw].getD i 0, fun i => [((u3 1).o 0), p_q0_0_raw].getD i none⟩ fr [(4, t5.length, t5.flatMap en_TNode), (4, q0_0.raw.length, q0_0.raw.flatMap en_TNode)] [] (by kernel_rfl) (by kernel_rfl) (by kernel_rfl) (rowsF_cons (by decide) (And.imp id (fun f j h => hB j (f j h)) (H.owRowX (e := 53) (sz := 4) (m := t5.length) (cap := ((u3 1).n 0)) (p := ((u3 1).o 0)) (xs := t5.flatMap en_TNode) 96 (by kernel_rfl) 94 (cs := [.slice p_q0_0_raw q0_0.raw.length c_q0_0_raw, vI q0_0.n]) (eb := 100) (by kernel_rfl) (by kernel_rfl) (by rfl))) rfl rfl (rowsF_cons (by decide) (H.rdRow (fr := fr) (sz := 4) (m := q0_0.raw.length) (cap := c_q0_0_raw) (p := p_q0_0_raw) (xs := q0_0.raw.flatMap en_TNode) 95 (by kernel_rfl)) rfl rfl rowsF_nil)) (by kernel_rfl) (by simp) (by kernel_rfl)
 ·rw [if_neg (nt c36)] at G
  refine k_skip ?_
  refine k_seq ?_
  replace G := gd G; obtain ⟨b7, G⟩ := G
  replace G := bnd G; obtain ⟨t8, ht8, G⟩ := G
  refine k_rg mixed H (.v 16 (vP b_q0_0 0) <|
   .v 17 (vP b_q0_0 0) <|
   .v 18 (vP b_q0_0 0) <|
   .cons [19] (ok_ld (fun u6 => .slice p_q0_0_raw q0_0.raw.length c_q0_0_raw) 19 94 0 1 (fun u6 => b_q0_0) (fun u6 => [.slice p_q0_0_raw q0_0.raw.length c_q0_0_raw, vI q0_0.n]) 100) <|
   .cons [20] (ok_valL [95] (fun u6 => [rdl fr 4 p_q0_0_raw c_q0_0_raw q0_0.raw en_TNode]) (fun u6 => .pointer (some ⟨hdB p_q0_0_raw, hdO p_q0_0_raw + ((0 : Int).toNat) * 4, none⟩)) (fun u6 => true) [true, true] 20 (fun u6 w hg hF => run_of (by kernel_rfl) (run_ix (t := 22) (p := p_q0_0_raw) (n := q0_0.raw.length) (cap := c_q0_0_raw) (k := .i64) (i := (0 : Int)) (sz := 4) (by kernel_rfl) (by kernel_rfl) (rdF_of hF.1).2 b7))) <|
   .cons [21] (ok_valL [95] (fun u6 => [rdl fr 4 p_q0_0_raw c_q0_0_raw q0_0.raw en_TNode]) (fun u6 => .agg #[vI t8.Op, vI t8.N, vI t8.C.Lo, vI t8.C.Hi]) (fun u6 => true) [true] 21 (fun u6 w hg hF => ld_of (vs := [vI t8.Op, vI t8.N, vI t8.C.Lo, vI t8.C.Hi]) (b := hdB p_q0_0_raw) (off := hdO p_q0_0_raw + ((0 : Int).toNat) * 4 + 0) (m := 4) (by kernel_rfl) (el_cells (rdF_of hF.1).2 en_TNode_len ht8 0 4 rfl))) <|
   .cons [5, 97] (ok_new (fun b => vP b 0) (fun u6 => [vI 0, vI 0, vI 0, vI 0]) 53 5 97) <|
   .cons [97] (ok_as (u' := fun u6 => [(97, .blk ((u6 6).n 0) [vI t8.Op, vI t8.N, vI t8.C.Lo, vI t8.C.Hi] 53)]) (ok_store 97 0 (fun u6 => ((u6 6).n 0)) (fun u6 => [vI 0, vI 0, vI 0, vI 0]) (fun u6 => [vI t8.Op, vI t8.N, vI t8.C.Lo, vI t8.C.Hi]) 53) (fun _ => by kernel_rfl)) <| .nil) fun u6 a w' H => ?_
  replace H := H.toM [(0, sP b_q0_0 0), (1, sI a1), (5, (sP ((u6 6).n 0) 0)), (94, .blk b_q0_0 [.slice p_q0_0_raw q0_0.raw.length c_q0_0_raw, vI q0_0.n] 100), (97, .blk ((u6 6).n 0) [vI t8.Op, vI t8.N, vI t8.C.Lo, vI t8.C.Hi] 53), (95, rdl fr 4 p_q0_0_raw c_q0_0_raw q0_0.raw en_TNode), (999998, frK b_q0_0 w)]
  refine k_seq ?_
  replace G := gd G; obtain ⟨b10, G⟩ := G
  refine k_rg mixed H (.v 22 (vP b_q0_0 0) <|
   .v 23 (vP b_q0_0 0) <|
   .v 24 (vP b_q0_0 0) <|
   .v 25 (vP b_q0_0 0) <|
   .cons [26] (ok_ld (fun u9 => .slice p_q0_0_raw q0_0.raw.length c_q0_0_raw) 26 94 0 1 (fun u9 => b_q0_0) (fun u9 => [.slice p_q0_0_raw q0_0.raw.length c_q0_0_raw, vI q0_0.n]) 100) <|
   .cons [27] (ok_val (fun u9 => .slice (viewP p_q0_0_raw (1 : Int).toNat 4 c_q0_0_raw) (q0_0.raw.drop (1 : Int).toNat).length (c_q0_0_raw - (1 : Int).toNat)) 27 (hv := fun _ _ => run_of (by kernel_rfl) (run_low (t := 22) (sz := 4) (l := q0_0.raw) (k := .i64) rfl b10))) <|
   .v 28 (vP b_q0_0 0) <|
   .v 29 (vP b_q0_0 0) <|
   .cons [94] (ok_as (u' := fun u9 => [(94, .blk b_q0_0 [.slice (viewP p_q0_0_raw (1 : Int).toNat 4 c_q0_0_raw) (q0_0.raw.drop (1 : Int).toNat).length (c_q0_0_raw - (1 : Int).toNat), vI q0_0.n] 100)]) (ok_store 94 0 (fun u9 => b_q0_0) (fun u9 => [.slice p_q0_0_raw q0_0.raw.length c_q0_0_raw, vI q0_0.n]) (fun u9 => [.slice (viewP p_q0_0_raw (1 : Int).toNat 4 c_q0_0_raw) (q0_0.raw.drop (1 : Int).toNat).length (c_q0_0_raw - (1 : Int).toNat)]) 100) (fun _ => by kernel_rfl)) <| .nil) fun u9 a w' H => ?_
  replace H := H.toM [(0, sP b_q0_0 0), (1, sI a1), (5, (sP ((u6 6).n 0) 0)), (94, .blk b_q0_0 [.slice (viewP p_q0_0_raw (1 : Int).toNat 4 c_q0_0_raw) (q0_0.raw.drop (1 : Int).toNat).length (c_q0_0_raw - (1 : Int).toNat), vI q0_0.n] 100), (97, .blk ((u6 6).n 0) [vI t8.Op, vI t8.N, vI t8.C.Lo, vI t8.C.Hi] 53), (95, rdl fr 4 p_q0_0_raw c_q0_0_raw q0_0.raw en_TNode), (999998, frK b_q0_0 w)]
  refine k_seq ?_
  refine k_rg mixed H (.v 30 (vP ((u6 6).n 0) 0) <|
   .cons [31] (ok_ld (fun u11 => vI t8.Op) 31 97 0 1 (fun u11 => ((u6 6).n 0)) (fun u11 => [vI t8.Op, vI t8.N, vI t8.C.Lo, vI t8.C.Hi]) 53) <|
   .v 32 (vI (b_and .i64 t8.Op 255)) <|
   .v 33 (vI (Int.tmod (b_and .i64 t8.Op 255) 10)) <|
   .v 34 (vI (w_i64 (1 + (Int.tmod (b_and .i64 t8.Op 255) 10)))) <|
   .v 6 (vI (w_i64 (1 + (Int.tmod (b_and .i64 t8.Op 255) 10)))) <| .nil) fun u11 a w' H => ?_
  replace H := H.toM [(0, sP b_q0_0 0), (1, sI a1), (5, (sP ((u6 6).n 0) 0)), (6, (sI (w_i64 (1 + (Int.tmod (b_and .i64 t8.Op 255) 10))))), (94, .blk b_q0_0 [.slice (viewP p_q0_0_raw (1 : Int).toNat 4 c_q0_0_raw) (q0_0.raw.drop (1 : Int).toNat).length (c_q0_0_raw - (1 : Int).toNat), vI q0_0.n] 100), (97, .blk ((u6 6).n 0) [vI t8.Op, vI t8.N, vI t8.C.Lo, vI t8.C.Hi] 53), (95, rdl fr 4 p_q0_0_raw c_q0_0_raw q0_0.raw en_TNode), (999998, frK b_q0_0 w)]
  refine k_seq ?_
  refine k_seq ?_
  replace G := bnd G; obtain ⟨t13, ht13, G⟩ := G
  refine k_rg mixed H (.v 35 (vI (w_i64 (1 + (Int.tmod (b_and .i64 t8.Op 255) 10)))) <|
   .v 36 (.bool ((w_i64 (1 + (Int.tmod (b_and .i64 t8.Op 255) 10))) == 1)) <|
   .v 37 (.bool ((w_i64 (1 + (Int.tmod (b_and .i64 t8.Op 255) 10))) == 1)) <|
   .cons [38] (ok_valg (fun u12 => vI (w_i64 (1 + (Int.tmod (b_and .i64 t8.Op 255) 10)))) (fun u12 => (((w_i64 (1 + (Int.tmod (b_and .i64 t8.Op 255) 10))) == 1) == false)) [true] 38) <|
   .cons [39] (ok_call 81 (fun u12 => #[vI (w_i64 (1 + (Int.tmod (b_and .i64 t8.Op 255) 10)))]) (vI t13) (fun u12 => (((w_i64 (1 + (Int.tmod (b_and .i64 t8.Op 255) 10))) == 1) == false)) [true, false] 39 [] (fun _ w hg _ => armillaryref07_Arity.calls (w_i64 (1 + (Int.tmod (b_and .i64 t8.Op 255) 10))) t13 w (ifp ht13 hg))) <|
   .cons [40] (ok_valg (fun u12 => .bool (decide (t13 > 0))) (fun u12 => (((w_i64 (1 + (Int.tmod (b_and .i64 t8.Op 255) 10))) == 1) == false)) [false, true] 40) <|
   .cons [41] (ok_valg (fun u12 => .bool (decide (t13 > 0))) (fun u12 => (((w_i64 (1 + (Int.tmod (b_and .i64 t8.Op 255) 10))) == 1) == false)) [false] 41) <|
   .cons [42] (ok_valg (fun u12 => vI a1) (fun u12 => ((((w_i64 (1 + (Int.tmod (b_and .i64 t8.Op 255) 10))) == 1) == false) && ((decide (t13 > 0)) == true))) [true] 42) <|
   .cons [43] (ok_valg (fun u12 => .bool (decide (a1 < 2))) (fun u12 => ((((w_i64 (1 + (Int.tmod (b_and .i64 t8.Op 255) 10))) == 1) == false) && ((decide (t13 > 0)) == true))) [false, true] 43) <|
   .cons [44] (ok_and 41 43 (fun u12 => (((w_i64 (1 + (Int.tmod (b_and .i64 t8.Op 255) 10))) == 1) == false)) (fun u12 => (((w_i64 (1 + (Int.tmod (b_and .i64 t8.Op 255) 10))) == 1) == false)) (fun u12 => decide (t13 > 0)) (fun u12 => decide (a1 < 2)) 44) <|
   .cons [45] (ok_or 37 44 (fun u12 => true) (fun u12 => true) (fun u12 => ((w_i64 (1 + (Int.tmod (b_and .i64 t8.Op 255) 10))) == 1)) (fun u12 => ((decide (t13 > 0)) && (decide (a1 < 2)))) 45) <| .nil) fun u12 a w' H => ?_
  replace H := H.toM [(0, sP b_q0_0 0), (1, sI a1), (5, (sP ((u6 6).n 0) 0)), (6, (sI (w_i64 (1 + (Int.tmod (b_and .i64 t8.Op 255) 10))))), (45, (sB (((w_i64 (1 + (Int.tmod (b_and .i64 t8.Op 255) 10))) == 1) || ((decide (t13 > 0)) && (decide (a1 < 2)))))), (94, .blk b_q0_0 [.slice (viewP p_q0_0_raw (1 : Int).toNat 4 c_q0_0_raw) (q0_0.raw.drop (1 : Int).toNat).length (c_q0_0_raw - (1 : Int).toNat), vI q0_0.n] 100), (97, .blk ((u6 6).n 0) [vI t8.Op, vI t8.N, vI t8.C.Lo, vI t8.C.Hi] 53), (95, rdl fr 4 p_q0_0_raw c_q0_0_raw q0_0.raw en_TNode), (999998, frK b_q0_0 w)]
  refine k_cond H (by kernel_rfl) (t := (((w_i64 (1 + (Int.tmod (b_and .i64 t8.Op 255) 10))) == 1) || ((decide (t13 > 0)) && (decide (a1 < 2))))) (by kernel_rfl) (fun c35 => ?_) (fun c35 => ?_)
  ·rw [if_pos c35] at G
   refine k_seq ?_
   replace G := bnd G; obtain ⟨t15, ht15, G⟩ := G
   replace G := bnd G; obtain ⟨t16, ht16, G⟩ := G
   refine k_rg mixed H (.v 46 (vP ((u6 6).n 0) 2) <|
   .cons [47] (ok_ld (fun u14 => .agg #[vI t8.C.Lo, vI t8.C.Hi]) 47 97 2 2 (fun u14 => ((u6 6).n 0)) (fun u14 => [vI t8.Op, vI t8.N, vI t8.C.Lo, vI t8.C.Hi]) 53) <|
   .v 48 (vP ((u6 6).n 0) 1) <|
   .cons [49] (ok_ld (fun u14 => vI t8.N) 49 97 1 1 (fun u14 => ((u6 6).n 0)) (fun u14 => [vI t8.Op, vI t8.N, vI t8.C.Lo, vI t8.C.Hi]) 53) <|
   .v 50 (vI (b_and .i64 t8.N 255)) <|
   .v 51 (vP ((u6 6).n 0) 1) <|
   .cons [52] (ok_ld (fun u14 => vI t8.N) 52 97 1 1 (fun u14 => ((u6 6).n 0)) (fun u14 => [vI t8.Op, vI t8.N, vI t8.C.Lo, vI t8.C.Hi]) 53) <|
   .v 53 (vI (b_and .i64 t8.N 1)) <|
   .v 54 (vI (w_i64 ((b_and .i64 t8.N 255) * (b_and .i64 t8.N 1)))) <|
   .v 55 (vI (w_i64 (1 + (w_i64 ((b_and .i64 t8.N 255) * (b_and .i64 t8.N 1)))))) <|
   .cons [56] (ok_callv 95 (fun u14 => #[.agg #[vI t8.C.Lo, vI t8.C.Hi], vI (w_i64 (1 + (w_i64 ((b_and .i64 t8.N 255) * (b_and .i64 t8.N 1)))))]) (.agg #[vI t15.Lo, vI t15.Hi]) 56 [] (fun _ w _ => armillaryref02_Near.calls (⟨t8.C.Lo, t8.C.Hi⟩ : TInterval) (w_i64 (1 + (w_i64 ((b_and .i64 t8.N 255) * (b_and .i64 t8.N 1))))) t15 w ht15)) <|
   .cons [57, 98] (ok_callRL [] (fun u14 => []) 94 (fun u14 => #[.agg #[vI t15.Lo, vI t15.Hi]]) (fun p cap => .slice p t16.length cap) 53 4 t16.length (t16.flatMap en_TNode) 57 98 (fun u14 w hF => armillaryref07_Const.calls t15  t16 w  ht16)) <|
   .cons [4] (ok_val (fun u14 => .slice ((u14 11).o 0) t16.length ((u14 11).n 0)) 4) <| .nil) fun u14 a w' H => ?_
   replace H := H.toM [(4, (sS ((u14 11).o 0) t16.length ((u14 11).n 0))), (94, .blk b_q0_0 [.slice (viewP p_q0_0_raw (1 : Int).toNat 4 c_q0_0_raw) (q0_0.raw.drop (1 : Int).toNat).length (c_q0_0_raw - (1 : Int).toNat), vI q0_0.n] 100), (95, rdl fr 4 p_q0_0_raw c_q0_0_raw q0_0.raw en_TNode), (98, owK 53 4 ((u14 11).o 0) t16.length ((u14 11).n 0) (t16.flatMap en_TNode)), (999998, frK b_q0_0 w)]
   refine k_ret ?_
   obtain rfl := Option.some.inj G
   rw [show frP w.heap.size (insV ([.slice p_q0_0_raw q0_0.raw.length c_q0_0_raw, vI q0_0.n] ++ (#[vP b_q0_0 0, vI a1] : Array Value).toList)) = fr from by rw [hfr]; exact congrArg (frP w.heap.size) (by kernel_rfl)]
   exact k_doneX H 94 [.slice (viewP p_q0_0_raw (1 : Int).toNat 4 c_q0_0_raw) (q0_0.raw.drop (1 : Int).toNat).length (c_q0_0_raw - (1 : Int).toNat), vI q0_0.n] 100 (fun g => .slice (g.o 0) t16.length (g.n 0)) (fun g => [.slice (g.o 1) (q0_0.raw.drop (1 : Int).toNat).length (g.n 1), vI q0_0.n]) ⟨fun i => [((u14 11).n 0), (c_q0_0_raw - (1 : Int).toNat)].getD i 0, fun i => [((u14 11).o 0), (viewP p_q0_0_raw (1 : Int).toNat 4 c_q0_0_raw)].getD i none⟩ fr [(4, t16.length, t16.flatMap en_TNode), (4, (q0_0.raw.drop (1 : Int).toNat).length, (q0_0.raw.drop (1 : Int).toNat).flatMap en_TNode)] [] (by kernel_rfl) (by kernel_rfl) (by kernel_rfl) (rowsF_cons (by decide) (And.imp id (fun f j h => hB j (f j h)) (H.owRowX (e := 53) (sz := 4) (m := t16.length) (cap := ((u14 11).n 0)) (p := ((u14 11).o 0)) (xs := t16.flatMap en_TNode) 98 (by kernel_rfl) 94 (cs := [.slice (viewP p_q0_0_raw (1 : Int).toNat 4 c_q0_0_raw) (q0_0.raw.drop (1 : Int).toNat).length (c_q0_0_raw - (1 : Int).toNat), vI q0_0.n]) (eb := 100) (by kernel_rfl) (by kernel_rfl) (by rfl))) rfl rfl (rowsF_cons (by decide) (And.imp (fun q => (RowC.low (en := en_TNode) q en_TNode_len b10)) (fun f j h => f j (fpRow_low (by simp) h)) (H.rdRow (fr := fr) (sz := 4) (m := q0_0.raw.length) (cap := c_q0_0_raw) (p := p_q0_0_raw) (xs := q0_0.raw.flatMap en_TNode) 95 (by kernel_rfl))) rfl rfl rowsF_nil)) (by kernel_rfl) (by simp) (by kernel_rfl)
  ·rw [if_neg (nt c35)] at G
   refine k_skip ?_
   refine k_seq ?_
   refine k_seq ?_
   refine k_rg mixed H (.v 58 (vI (w_i64 (1 + (Int.tmod (b_and .i64 t8.Op 255) 10)))) <|
   .v 59 (.bool ((w_i64 (1 + (Int.tmod (b_and .i64 t8.Op 255) 10))) == 2)) <| .nil) fun u17 a w' H => ?_
   replace H := H.toM [(0, sP b_q0_0 0), (1, sI a1), (5, (sP ((u6 6).n 0) 0)), (6, (sI (w_i64 (1 + (Int.tmod (b_and .i64 t8.Op 255) 10))))), (59, (sB ((w_i64 (1 + (Int.tmod (b_and .i64 t8.Op 255) 10))) == 2))), (94, .blk b_q0_0 [.slice (viewP p_q0_0_raw (1 : Int).toNat 4 c_q0_0_raw) (q0_0.raw.drop (1 : Int).toNat).length (c_q0_0_raw - (1 : Int).toNat), vI q0_0.n] 100), (97, .blk ((u6 6).n 0) [vI t8.Op, vI t8.N, vI t8.C.Lo, vI t8.C.Hi] 53), (95, rdl fr 4 p_q0_0_raw c_q0_0_raw q0_0.raw en_TNode), (999998, frK b_q0_0 w)]
   refine k_cond H (by kernel_rfl) (t := ((w_i64 (1 + (Int.tmod (b_and .i64 t8.Op 255) 10))) == 2)) (by kernel_rfl) (fun c34 => ?_) (fun c34 => ?_)
   ·rw [if_pos c34] at G
    refine k_seq ?_
    replace G := gd G; obtain ⟨n19, G⟩ := G
    refine k_rg mixed H (.v 60 (vP ((u6 6).n 0) 1) <|
   .cons [61] (ok_ld (fun u18 => vI t8.N) 61 97 1 1 (fun u18 => ((u6 6).n 0)) (fun u18 => [vI t8.Op, vI t8.N, vI t8.C.Lo, vI t8.C.Hi]) 53) <|
   .v 62 (vI (b_and .i64 t8.N 255)) <|
   .v 63 (vP b_q0_0 0) <|
   .v 64 (vP b_q0_0 0) <|
   .v 65 (vP b_q0_0 1) <|
   .cons [66] (ok_ld (fun u18 => vI q0_0.n) 66 94 1 1 (fun u18 => b_q0_0) (fun u18 => [.slice (viewP p_q0_0_raw (1 : Int).toNat 4 c_q0_0_raw) (q0_0.raw.drop (1 : Int).toNat).length (c_q0_0_raw - (1 : Int).toNat), vI q0_0.n]) 100) <|
   .cons [67] (ok_val (fun u18 => vI (Int.tmod (b_and .i64 t8.N 255) q0_0.n)) 67 (hv := fun _ _ => run_of (by kernel_rfl) (run_rem (k := .i64) (x := b_and .i64 t8.N 255) (y := q0_0.n) n19))) <|
   .v 68 (.agg #[vI 2, vI (Int.tmod (b_and .i64 t8.N 255) q0_0.n), vI 0, vI 0]) <|
   .cons [69, 99] (ok_new (fun b => .slice (some ⟨b, 0, none⟩) 1 1) (fun u18 => [vI 2, vI (Int.tmod (b_and .i64 t8.N 255) q0_0.n), vI 0, vI 0]) 53 69 99) <|
   .cons [4] (ok_val (fun u18 => .slice (some ⟨((u18 9).n 0), 0, none⟩) 1 1) 4) <| .nil) fun u18 a w' H => ?_
    replace H := H.toM [(4, (sS (some ⟨((u18 9).n 0), 0, none⟩) 1 1)), (94, .blk b_q0_0 [.slice (viewP p_q0_0_raw (1 : Int).toNat 4 c_q0_0_raw) (q0_0.raw.drop (1 : Int).toNat).length (c_q0_0_raw - (1 : Int).toNat), vI q0_0.n] 100), (99, .blk ((u18 9).n 0) [vI 2, vI (Int.tmod (b_and .i64 t8.N 255) q0_0.n), vI 0, vI 0] 53), (95, rdl fr 4 p_q0_0_raw c_q0_0_raw q0_0.raw en_TNode), (999998, frK b_q0_0 w)]
    refine k_ret ?_
    obtain rfl := Option.some.inj G
    replace H := H.blk_row 99 ((u18 9).n 0) [vI 2, vI (Int.tmod (b_and .i64 t8.N 255) q0_0.n), vI 0, vI 0] 53 4 1 (by kernel_rfl) (by kernel_rfl) (by decide)
    rw [show frP w.heap.size (insV ([.slice p_q0_0_raw q0_0.raw.length c_q0_0_raw, vI q0_0.n] ++ (#[vP b_q0_0 0, vI a1] : Array Value).toList)) = fr from by rw [hfr]; exact congrArg (frP w.heap.size) (by kernel_rfl)]
    exact k_doneX H 94 [.slice (viewP p_q0_0_raw (1 : Int).toNat 4 c_q0_0_raw) (q0_0.raw.drop (1 : Int).toNat).length (c_q0_0_raw - (1 : Int).toNat), vI q0_0.n] 100 (fun g => .slice (g.o 0) ([(⟨2, Int.tmod (b_and .i64 t8.N 255) q0_0.n, (⟨0, 0⟩ : TInterval)⟩ : TNode)] : List TNode).length (g.n 0)) (fun g => [.slice (g.o 1) (q0_0.raw.drop (1 : Int).toNat).length (g.n 1), vI q0_0.n]) ⟨fun i => [1, (c_q0_0_raw - (1 : Int).toNat)].getD i 0, fun i => [(some ⟨((u18 9).n 0), 0, none⟩), (viewP p_q0_0_raw (1 : Int).toNat 4 c_q0_0_raw)].getD i none⟩ fr [(4, ([(⟨2, Int.tmod (b_and .i64 t8.N 255) q0_0.n, (⟨0, 0⟩ : TInterval)⟩ : TNode)] : List TNode).length, ([(⟨2, Int.tmod (b_and .i64 t8.N 255) q0_0.n, (⟨0, 0⟩ : TInterval)⟩ : TNode)] : List TNode).flatMap en_TNode), (4, (q0_0.raw.drop (1 : Int).toNat).length, (q0_0.raw.drop (1 : Int).toNat).flatMap en_TNode)] [] (by kernel_rfl) (by kernel_rfl) (by kernel_rfl) (rowsF_cons (by decide) (And.imp id (fun f j h => hB j (f j h)) (H.owRowX (e := 53) (sz := 4) (m := ([(⟨2, Int.tmod (b_and .i64 t8.N 255) q0_0.n, (⟨0, 0⟩ : TInterval)⟩ : TNode)] : List TNode).length) (cap := 1) (p := (some ⟨((u18 9).n 0), 0, none⟩)) (xs := ([(⟨2, Int.tmod (b_and .i64 t8.N 255) q0_0.n, (⟨0, 0⟩ : TInterval)⟩ : TNode)] : List TNode).flatMap en_TNode) 99 (by kernel_rfl) 94 (cs := [.slice (viewP p_q0_0_raw (1 : Int).toNat 4 c_q0_0_raw) (q0_0.raw.drop (1 : Int).toNat).length (c_q0_0_raw - (1 : Int).toNat), vI q0_0.n]) (eb := 100) (by kernel_rfl) (by kernel_rfl) (by rfl))) rfl rfl (rowsF_cons (by decide) (And.imp (fun q => (RowC.low (en := en_TNode) q en_TNode_len b10)) (fun f j h => f j (fpRow_low (by simp) h)) (H.rdRow (fr := fr) (sz := 4) (m := q0_0.raw.length) (cap := c_q0_0_raw) (p := p_q0_0_raw) (xs := q0_0.raw.flatMap en_TNode) 95 (by kernel_rfl))) rfl rfl rowsF_nil)) (by kernel_rfl) (by simp) (by kernel_rfl)
   ·rw [if_neg (nt c34)] at G
    refine k_skip ?_
    refine k_seq ?_
    refine k_seq ?_
    refine k_rg mixed H (.v 70 (vI (w_i64 (1 + (Int.tmod (b_and .i64 t8.Op 255) 10)))) <|
   .v 71 (.bool ((w_i64 (1 + (Int.tmod (b_and .i64 t8.Op 255) 10))) == 3)) <| .nil) fun u20 a w' H => ?_
    replace H := H.toM [(0, sP b_q0_0 0), (1, sI a1), (6, (sI (w_i64 (1 + (Int.tmod (b_and .i64 t8.Op 255) 10))))), (71, (sB ((w_i64 (1 + (Int.tmod (b_and .i64 t8.Op 255) 10))) == 3))), (94, .blk b_q0_0 [.slice (viewP p_q0_0_raw (1 : Int).toNat 4 c_q0_0_raw) (q0_0.raw.drop (1 : Int).toNat).length (c_q0_0_raw - (1 : Int).toNat), vI q0_0.n] 100), (95, rdl fr 4 p_q0_0_raw c_q0_0_raw q0_0.raw en_TNode), (999998, frK b_q0_0 w)]
    refine k_cond H (by kernel_rfl) (t := ((w_i64 (1 + (Int.tmod (b_and .i64 t8.Op 255) 10))) == 3)) (by kernel_rfl) (fun c33 => ?_) (fun c33 => ?_)
    ·rw [if_pos c33] at G
     refine k_seq ?_
     refine k_rg mixed H (.v 72 (.agg #[vI 3, vI 0, vI 0, vI 0]) <|
   .cons [73, 100] (ok_new (fun b => .slice (some ⟨b, 0, none⟩) 1 1) (fun u21 => [vI 3, vI 0, vI 0, vI 0]) 53 73 100) <|
   .cons [4] (ok_val (fun u21 => .slice (some ⟨((u21 1).n 0), 0, none⟩) 1 1) 4) <| .nil) fun u21 a w' H => ?_
     replace H := H.toM [(4, (sS (some ⟨((u21 1).n 0), 0, none⟩) 1 1)), (94, .blk b_q0_0 [.slice (viewP p_q0_0_raw (1 : Int).toNat 4 c_q0_0_raw) (q0_0.raw.drop (1 : Int).toNat).length (c_q0_0_raw - (1 : Int).toNat), vI q0_0.n] 100), (100, .blk ((u21 1).n 0) [vI 3, vI 0, vI 0, vI 0] 53), (95, rdl fr 4 p_q0_0_raw c_q0_0_raw q0_0.raw en_TNode), (999998, frK b_q0_0 w)]
     refine k_ret ?_
     obtain rfl := Option.some.inj G
     replace H := H.blk_row 100 ((u21 1).n 0) [vI 3, vI 0, vI 0, vI 0] 53 4 1 (by kernel_rfl) (by kernel_rfl) (by decide)
     rw [show frP w.heap.size (insV ([.slice p_q0_0_raw q0_0.raw.length c_q0_0_raw, vI q0_0.n] ++ (#[vP b_q0_0 0, vI a1] : Array Value).toList)) = fr from by rw [hfr]; exact congrArg (frP w.heap.size) (by kernel_rfl)]
     exact k_doneX H 94 [.slice (viewP p_q0_0_raw (1 : Int).toNat 4 c_q0_0_raw) (q0_0.raw.drop (1 : Int).toNat).length (c_q0_0_raw - (1 : Int).toNat), vI q0_0.n] 100 (fun g => .slice (g.o 0) ([(⟨3, 0, (⟨0, 0⟩ : TInterval)⟩ : TNode)] : List TNode).length (g.n 0)) (fun g => [.slice (g.o 1) (q0_0.raw.drop (1 : Int).toNat).length (g.n 1), vI q0_0.n]) ⟨fun i => [1, (c_q0_0_raw - (1 : Int).toNat)].getD i 0, fun i => [(some ⟨((u21 1).n 0), 0, none⟩), (viewP p_q0_0_raw (1 : Int).toNat 4 c_q0_0_raw)].getD i none⟩ fr [(4, ([(⟨3, 0, (⟨0, 0⟩ : TInterval)⟩ : TNode)] : List TNode).length, ([(⟨3, 0, (⟨0, 0⟩ : TInterval)⟩ : TNode)] : List TNode).flatMap en_TNode), (4, (q0_0.raw.drop (1 : Int).toNat).length, (q0_0.raw.drop (1 : Int).toNat).flatMap en_TNode)] [] (by kernel_rfl) (by kernel_rfl) (by kernel_rfl) (rowsF_cons (by decide) (And.imp id (fun f j h => hB j (f j h)) (H.owRowX (e := 53) (sz := 4) (m := ([(⟨3, 0, (⟨0, 0⟩ : TInterval)⟩ : TNode)] : List TNode).length) (cap := 1) (p := (some ⟨((u21 1).n 0), 0, none⟩)) (xs := ([(⟨3, 0, (⟨0, 0⟩ : TInterval)⟩ : TNode)] : List TNode).flatMap en_TNode) 100 (by kernel_rfl) 94 (cs := [.slice (viewP p_q0_0_raw (1 : Int).toNat 4 c_q0_0_raw) (q0_0.raw.drop (1 : Int).toNat).length (c_q0_0_raw - (1 : Int).toNat), vI q0_0.n]) (eb := 100) (by kernel_rfl) (by kernel_rfl) (by rfl))) rfl rfl (rowsF_cons (by decide) (And.imp (fun q => (RowC.low (en := en_TNode) q en_TNode_len b10)) (fun f j h => f j (fpRow_low (by simp) h)) (H.rdRow (fr := fr) (sz := 4) (m := q0_0.raw.length) (cap := c_q0_0_raw) (p := p_q0_0_raw) (xs := q0_0.raw.flatMap en_TNode) 95 (by kernel_rfl))) rfl rfl rowsF_nil)) (by kernel_rfl) (by simp) (by kernel_rfl)
    ·rw [if_neg (nt c33)] at G
     refine k_skip ?_
     refine k_seq ?_
     refine k_seq ?_
     replace G := bnd G; obtain ⟨t23, ht23, G⟩ := G
     refine k_rg mixed H (.v 74 (vI (w_i64 (1 + (Int.tmod (b_and .i64 t8.Op 255) 10)))) <|
   .cons [75] (ok_callv 81 (fun u22 => #[vI (w_i64 (1 + (Int.tmod (b_and .i64 t8.Op 255) 10)))]) (vI t23) 75 [] (fun _ w _ => armillaryref07_Arity.calls (w_i64 (1 + (Int.tmod (b_and .i64 t8.Op 255) 10))) t23 w ht23)) <|
   .v 76 (.bool (t23 == 1)) <| .nil) fun u22 a w' H => ?_
     replace H := H.toM [(0, sP b_q0_0 0), (1, sI a1), (6, (sI (w_i64 (1 + (Int.tmod (b_and .i64 t8.Op 255) 10))))), (76, (sB (t23 == 1))), (94, .blk b_q0_0 [.slice (viewP p_q0_0_raw (1 : Int).toNat 4 c_q0_0_raw) (q0_0.raw.drop (1 : Int).toNat).length (c_q0_0_raw - (1 : Int).toNat), vI q0_0.n] 100), (95, rdl fr 4 p_q0_0_raw c_q0_0_raw q0_0.raw en_TNode), (999998, frK b_q0_0 w)]
     refine k_cond H (by kernel_rfl) (t := (t23 == 1)) (by kernel_rfl) (fun c32 => ?_) (fun c32 => ?_)
     ·rw [if_pos c32] at G
      refine k_seq ?_
      replace G := bnd G; obtain ⟨t25, ht25, G⟩ := G
      replace G := bnd G; obtain ⟨t26, ht26, G⟩ := G
      refine k_rg mixed H (.v 77 (vI (w_i64 (1 + (Int.tmod (b_and .i64 t8.Op 255) 10)))) <|
   .v 78 (vP b_q0_0 0) <|
   .v 79 (vI a1) <|
   .v 80 (vI (w_i64 (a1 - 1))) <|
   .cons [81, 94, 101, 102] (ok_callX [95] (fun u24 => [rdl fr 4 p_q0_0_raw c_q0_0_raw q0_0.raw en_TNode]) 77 (fun u24 => #[vP b_q0_0 0, vI (w_i64 (a1 - 1))]) (fun g => .slice (g.o 0) t25.1.length (g.n 0)) [(4, t25.1.length, t25.1.flatMap en_TNode), (4, t25.2.raw.length, t25.2.raw.flatMap en_TNode)] fr 81 101 94 0 (fun u24 => b_q0_0) (fun u24 => [.slice (viewP p_q0_0_raw (1 : Int).toNat 4 c_q0_0_raw) (q0_0.raw.drop (1 : Int).toNat).length (c_q0_0_raw - (1 : Int).toNat), vI q0_0.n]) (fun g => [.slice (g.o 1) t25.2.raw.length (g.n 1), vI t25.2.n]) 100 (fun u24 w hb hF hN => IH (w_i64 (a1 - 1)) (⟨(q0_0.raw.drop (1 : Int).toNat), q0_0.n⟩ : Tbuilder) (viewP p_q0_0_raw (1 : Int).toNat 4 c_q0_0_raw) (c_q0_0_raw - (1 : Int).toNat) b_q0_0 t25 w (RowC.low (en := en_TNode) (rdF_of hF.1) en_TNode_len b10) hb (fun h => hN _ (.head _) (fpRow_low (by simp) h)) ht25) (fun u24 w hF => ins_as (ins' := [((viewP p_q0_0_raw (1 : Int).toNat 4 c_q0_0_raw), (q0_0.raw.drop (1 : Int).toNat).length)]) (ins_cons (rdl fr 4 p_q0_0_raw c_q0_0_raw q0_0.raw en_TNode) (.head _) (fun h => h) (fun j h => ⟨rdF_fr hF.1 j (fpRow_low (by simp) h), (fpRow_low (by simp) h)⟩) ins_nil)) hB) <|
   .cons [82, 103] (ok_callRL [101] (fun u24 => [rdF fr 4 ((u24 4).o 0) t25.1.length ((u24 4).n 0) (t25.1.flatMap en_TNode)]) 96 (fun u24 => #[vI (w_i64 (1 + (Int.tmod (b_and .i64 t8.Op 255) 10))), .slice ((u24 4).o 0) t25.1.length ((u24 4).n 0)]) (fun p cap => .slice p t26.length cap) 53 4 t26.length (t26.flatMap en_TNode) 82 103 (fun u24 w hF => armillaryref07_Unary.calls (w_i64 (1 + (Int.tmod (b_and .i64 t8.Op 255) 10))) t25.1 ((u24 4).o 0) ((u24 4).n 0) t26 w (rdF_of hF.1) ht26)) <|
   .cons [4] (ok_val (fun u24 => .slice ((u24 5).o 0) t26.length ((u24 5).n 0)) 4) <| .nil) fun u24 a w' H => ?_
      replace H := H.toM [(4, (sS ((u24 5).o 0) t26.length ((u24 5).n 0))), (94, .blk b_q0_0 [.slice ((u24 4).o 1) t25.2.raw.length ((u24 4).n 1), vI t25.2.n] 100), (102, rdF fr 4 ((u24 4).o 1) t25.2.raw.length ((u24 4).n 1) (t25.2.raw.flatMap en_TNode)), (103, owK 53 4 ((u24 5).o 0) t26.length ((u24 5).n 0) (t26.flatMap en_TNode)), (999998, frK b_q0_0 w)]
      refine k_ret ?_
      obtain rfl := Option.some.inj G
      rw [show frP w.heap.size (insV ([.slice p_q0_0_raw q0_0.raw.length c_q0_0_raw, vI q0_0.n] ++ (#[vP b_q0_0 0, vI a1] : Array Value).toList)) = fr from by rw [hfr]; exact congrArg (frP w.heap.size) (by kernel_rfl)]
      exact k_doneX H 94 [.slice ((u24 4).o 1) t25.2.raw.length ((u24 4).n 1), vI t25.2.n] 100 (fun g => .slice (g.o 0) t26.length (g.n 0)) (fun g => [.slice (g.o 1) t25.2.raw.length (g.n 1), vI t25.2.n]) ⟨fun i => [((u24 5).n 0), ((u24 4).n 1)].getD i 0, fun i => [((u24 5).o 0), ((u24 4).o 1)].getD i none⟩ fr [(4, t26.length, t26.flatMap en_TNode), (4, t25.2.raw.length, t25.2.raw.flatMap en_TNode)] [] (by kernel_rfl) (by kernel_rfl) (by kernel_rfl) (rowsF_cons (by decide) (And.imp id (fun f j h => hB j (f j h)) (H.owRowX (e := 53) (sz := 4) (m := t26.length) (cap := ((u24 5).n 0)) (p := ((u24 5).o 0)) (xs := t26.flatMap en_TNode) 103 (by kernel_rfl) 94 (cs := [.slice ((u24 4).o 1) t25.2.raw.length ((u24 4).n 1), vI t25.2.n]) (eb := 100) (by kernel_rfl) (by kernel_rfl) (by rfl))) rfl rfl (rowsF_cons (by decide) (H.rdRow (fr := fr) (sz := 4) (m := t25.2.raw.length) (cap := ((u24 4).n 1)) (p := ((u24 4).o 1)) (xs := t25.2.raw.flatMap en_TNode) 102 (by kernel_rfl)) rfl rfl rowsF_nil)) (by kernel_rfl) (by simp) (by kernel_rfl)
     ·rw [if_neg (nt c32)] at G
      refine k_skip ?_
      refine k_seq ?_
      replace G := bnd G; obtain ⟨t28, ht28, G⟩ := G
      refine k_rg mixed H (.v 83 (vP b_q0_0 0) <|
   .v 84 (vI a1) <|
   .v 85 (vI (w_i64 (a1 - 1))) <|
   .cons [86, 94, 104, 105] (ok_callX [95] (fun u27 => [rdl fr 4 p_q0_0_raw c_q0_0_raw q0_0.raw en_TNode]) 77 (fun u27 => #[vP b_q0_0 0, vI (w_i64 (a1 - 1))]) (fun g => .slice (g.o 0) t28.1.length (g.n 0)) [(4, t28.1.length, t28.1.flatMap en_TNode), (4, t28.2.raw.length, t28.2.raw.flatMap en_TNode)] fr 86 104 94 0 (fun u27 => b_q0_0) (fun u27 => [.slice (viewP p_q0_0_raw (1 : Int).toNat 4 c_q0_0_raw) (q0_0.raw.drop (1 : Int).toNat).length (c_q0_0_raw - (1 : Int).toNat), vI q0_0.n]) (fun g => [.slice (g.o 1) t28.2.raw.length (g.n 1), vI t28.2.n]) 100 (fun u27 w hb hF hN => IH (w_i64 (a1 - 1)) (⟨(q0_0.raw.drop (1 : Int).toNat), q0_0.n⟩ : Tbuilder) (viewP p_q0_0_raw (1 : Int).toNat 4 c_q0_0_raw) (c_q0_0_raw - (1 : Int).toNat) b_q0_0 t28 w (RowC.low (en := en_TNode) (rdF_of hF.1) en_TNode_len b10) hb (fun h => hN _ (.head _) (fpRow_low (by simp) h)) ht28) (fun u27 w hF => ins_as (ins' := [((viewP p_q0_0_raw (1 : Int).toNat 4 c_q0_0_raw), (q0_0.raw.drop (1 : Int).toNat).length)]) (ins_cons (rdl fr 4 p_q0_0_raw c_q0_0_raw q0_0.raw en_TNode) (.head _) (fun h => h) (fun j h => ⟨rdF_fr hF.1 j (fpRow_low (by simp) h), (fpRow_low (by simp) h)⟩) ins_nil)) hB) <|
   .cons [7] (ok_val (fun u27 => .slice ((u27 3).o 0) t28.1.length ((u27 3).n 0)) 7) <| .nil) fun u27 a w' H => ?_
      replace H := H.toM [(0, sP b_q0_0 0), (1, sI a1), (6, (sI (w_i64 (1 + (Int.tmod (b_and .i64 t8.Op 255) 10))))), (7, (sS ((u27 3).o 0) t28.1.length ((u27 3).n 0))), (94, .blk b_q0_0 [.slice ((u27 3).o 1) t28.2.raw.length ((u27 3).n 1), vI t28.2.n] 100), (104, rdF fr 4 ((u27 3).o 0) t28.1.length ((u27 3).n 0) (t28.1.flatMap en_TNode)), (105, rdF fr 4 ((u27 3).o 1) t28.2.raw.length ((u27 3).n 1) (t28.2.raw.flatMap en_TNode)), (999998, frK b_q0_0 w)]
      refine k_seq ?_
      replace G := bnd G; obtain ⟨t30, ht30, G⟩ := G
      replace G := bnd G; obtain ⟨t31, ht31, G⟩ := G
      refine k_rg mixed H (.v 87 (vI (w_i64 (1 + (Int.tmod (b_and .i64 t8.Op 255) 10)))) <|
   .v 88 (.slice ((u27 3).o 0) t28.1.length ((u27 3).n 0)) <|
   .v 89 (vP b_q0_0 0) <|
   .v 90 (vI a1) <|
   .v 91 (vI (w_i64 (a1 - 1))) <|
   .cons [92, 94, 106, 107] (ok_callX [105] (fun u29 => [rdF fr 4 ((u27 3).o 1) t28.2.raw.length ((u27 3).n 1) (t28.2.raw.flatMap en_TNode)]) 77 (fun u29 => #[vP b_q0_0 0, vI (w_i64 (a1 - 1))]) (fun g => .slice (g.o 0) t30.1.length (g.n 0)) [(4, t30.1.length, t30.1.flatMap en_TNode), (4, t30.2.raw.length, t30.2.raw.flatMap en_TNode)] fr 92 106 94 0 (fun u29 => b_q0_0) (fun u29 => [.slice ((u27 3).o 1) t28.2.raw.length ((u27 3).n 1), vI t28.2.n]) (fun g => [.slice (g.o 1) t30.2.raw.length (g.n 1), vI t30.2.n]) 100 (fun u29 w hb hF hN => IH (w_i64 (a1 - 1)) (⟨t28.2.raw, t28.2.n⟩ : Tbuilder) ((u27 3).o 1) ((u27 3).n 1) b_q0_0 t30 w (rdF_of hF.1) hb (fun h => hN _ (.head _) h) ht30) (fun u29 w hF => ins_as (ins' := [(((u27 3).o 1), t28.2.raw.length)]) (ins_cons (rdF fr 4 ((u27 3).o 1) t28.2.raw.length ((u27 3).n 1) (t28.2.raw.flatMap en_TNode)) (.head _) (fun h => h) (fun j h => ⟨rdF_fr hF.1 j h, h⟩) ins_nil)) hB) <|
   .cons [93, 108] (ok_callRL [104, 106] (fun u29 => [rdF fr 4 ((u27 3).o 0) t28.1.length ((u27 3).n 0) (t28.1.flatMap en_TNode), rdF fr 4 ((u29 5).o 0) t30.1.length ((u29 5).n 0) (t30.1.flatMap en_TNode)]) 97 (fun u29 => #[vI (w_i64 (1 + (Int.tmod (b_and .i64 t8.Op 255) 10))), .slice ((u27 3).o 0) t28.1.length ((u27 3).n 0), .slice ((u29 5).o 0) t30.1.length ((u29 5).n 0)]) (fun p cap => .slice p t31.length cap) 53 4 t31.length (t31.flatMap en_TNode) 93 108 (fun u29 w hF => armillaryref07_Binary.calls (w_i64 (1 + (Int.tmod (b_and .i64 t8.Op 255) 10))) t28.1 t30.1 ((u27 3).o 0) ((u27 3).n 0) ((u29 5).o 0) ((u29 5).n 0) t31 w (rdF_of hF.1) (rdF_of hF.2.1) ht31)) <|
   .cons [4] (ok_val (fun u29 => .slice ((u29 6).o 0) t31.length ((u29 6).n 0)) 4) <| .nil) fun u29 a w' H => ?_
      replace H := H.toM [(4, (sS ((u29 6).o 0) t31.length ((u29 6).n 0))), (94, .blk b_q0_0 [.slice ((u29 5).o 1) t30.2.raw.length ((u29 5).n 1), vI t30.2.n] 100), (107, rdF fr 4 ((u29 5).o 1) t30.2.raw.length ((u29 5).n 1) (t30.2.raw.flatMap en_TNode)), (108, owK 53 4 ((u29 6).o 0) t31.length ((u29 6).n 0) (t31.flatMap en_TNode)), (999998, frK b_q0_0 w)]
      refine k_ret ?_
      obtain rfl := Option.some.inj G
      rw [show frP w.heap.size (insV ([.slice p_q0_0_raw q0_0.raw.length c_q0_0_raw, vI q0_0.n] ++ (#[vP b_q0_0 0, vI a1] : Array Value).toList)) = fr from by rw [hfr]; exact congrArg (frP w.heap.size) (by kernel_rfl)]
      exact k_doneX H 94 [.slice ((u29 5).o 1) t30.2.raw.length ((u29 5).n 1), vI t30.2.n] 100 (fun g => .slice (g.o 0) t31.length (g.n 0)) (fun g => [.slice (g.o 1) t30.2.raw.length (g.n 1), vI t30.2.n]) ⟨fun i => [((u29 6).n 0), ((u29 5).n 1)].getD i 0, fun i => [((u29 6).o 0), ((u29 5).o 1)].getD i none⟩ fr [(4, t31.length, t31.flatMap en_TNode), (4, t30.2.raw.length, t30.2.raw.flatMap en_TNode)] [] (by kernel_rfl) (by kernel_rfl) (by kernel_rfl) (rowsF_cons (by decide) (And.imp id (fun f j h => hB j (f j h)) (H.owRowX (e := 53) (sz := 4) (m := t31.length) (cap := ((u29 6).n 0)) (p := ((u29 6).o 0)) (xs := t31.flatMap en_TNode) 108 (by kernel_rfl) 94 (cs := [.slice ((u29 5).o 1) t30.2.raw.length ((u29 5).n 1), vI t30.2.n]) (eb := 100) (by kernel_rfl) (by kernel_rfl) (by rfl))) rfl rfl (rowsF_cons (by decide) (H.rdRow (fr := fr) (sz := 4) (m := t30.2.raw.length) (cap := ((u29 5).n 1)) (p := ((u29 5).o 1)) (xs := t30.2.raw.flatMap en_TNode) 107 (by kernel_rfl)) rfl rfl rowsF_nil)) (by kernel_rfl) (by simp) (by kernel_rfl)

set_option maxHeartbeats 4000000 in
theorem armillaryref07_Made.calls (k0 : Nat) (a0 : List TNode) (a1 : Int) (a2 : Int) (p_a0 : Option Addr) (c_a0 : Nat) (r : List TNode) (w : World) (R_p_a0 : RowC w 4 p_a0 a0.length c_a0 (a0.flatMap en_TNode)) (G : armillaryref07_Made k0 a0 a1 a2 = some r) :
  Calls Tryd.prog 50 #[.slice p_a0 a0.length c_a0, vI a1, vI a2] w fun e w' => ∃ g : Gh, e = .returned (.slice (g.o 0) r.length (g.n 0)) ∧ Below w.heap.size w w' ∧ RowsF (frP w.heap.size (insV ((#[.slice p_a0 a0.length c_a0, vI a1, vI a2] : Array Value).toList))) w' g.o g.n 0 [(4, r.length, r.flatMap en_TNode)] := by
 obtain ⟨fr, hfr⟩ : ∃ fr : Nat → Prop, fr = frP w.heap.size [(p_a0, a0.length)] := ⟨_, rfl⟩
 have hB : ∀ j, w.heap.size ≤ j → fr j := fun j h => by rw [hfr]; exact .inl h
 have hin_p_a0 : ∀ j, fpRow p_a0 a0.length j → fr j := fun j h => by rw [hfr]; exact frP_in (.head _) j h
 refine k_enterF (args := [.slice p_a0 a0.length c_a0, vI a1, vI a2]) 19 [(19, rdl fr 4 p_a0 c_a0 a0 en_TNode)] (by
  intro x hx
  simp only [List.mem_cons, List.not_mem_nil, or_false] at hx
  rcases hx with rfl
  exact rdF_fact R_p_a0 hin_p_a0 (by decide) _) Tryd.func50 rfl (by kernel_rfl) (by kernel_rfl) fun a H => ?_
 unfold armillaryref07_Made at G
 refine k_seq ?_
 refine k_rg mixed H (.v 6 (.slice none 0 0) <| .nil) fun u1 a w' H => ?_
 replace H := H.toM [(0, sS p_a0 a0.length c_a0), (1, sI a1), (2, sI a2), (19, rdl fr 4 p_a0 c_a0 a0 en_TNode)]
 refine k_seq ?_
 replace G := gd G; obtain ⟨b3, G⟩ := G
 refine k_rg mixed H (.v 8 (.slice p_a0 a0.length c_a0) <|
   .v 9 (.slice p_a0 a0.length c_a0) <|
   .v 10 (vI (a0.length : Int)) <|
   .v 11 (vI a1) <|
   .v 12 (vI (mn (a0.length : Int) a1)) <|
   .cons [13] (ok_valL [19] (fun u2 => [rdl fr 4 p_a0 c_a0 a0 en_TNode]) (fun u2 => .slice p_a0 (a0.take (mn (a0.length : Int) a1).toNat).length c_a0) (fun u2 => true) [true, true] 13 (fun u2 w _ hF => run_of (by kernel_rfl) (run_high (t := 22) (sz := 4) (l := a0) (k := .i64) rfl b3 (rdF_of hF.1).1))) <|
   .v 14 (vI a2) <|
   .v 15 (.agg #[.slice p_a0 (a0.take (mn (a0.length : Int) a1).toNat).length c_a0, vI a2]) <|
   .cons [16, 20] (ok_new (fun b => vP b 0) (fun u2 => [.slice p_a0 (a0.take (mn (a0.length : Int) a1).toNat).length c_a0, vI a2]) 100 16 20) <|
   .cons [7] (ok_val (fun u2 => vP ((u2 8).n 0) 0) 7) <| .nil) fun u2 a w' H => ?_
 replace H := H.toM [(7, (sP ((u2 8).n 0) 0)), (20, .blk ((u2 8).n 0) [.slice p_a0 (a0.take (mn (a0.length : Int) a1).toNat).length c_a0, vI a2] 100), (19, rdl fr 4 p_a0 c_a0 a0 en_TNode)]
 refine k_seq ?_
 replace G := bnd G; obtain ⟨t5, ht5, G⟩ := G
 refine k_rg mixed H (.v 17 (vP ((u2 8).n 0) 0) <|
   .cons [18, 20, 21, 22] (ok_callX [19] (fun u4 => [rdl fr 4 p_a0 c_a0 a0 en_TNode]) 77 (fun u4 => #[vP ((u2 8).n 0) 0, vI 5]) (fun g => .slice (g.o 0) t5.1.length (g.n 0)) [(4, t5.1.length, t5.1.flatMap en_TNode), (4, t5.2.raw.length, t5.2.raw.flatMap en_TNode)] fr 18 21 20 0 (fun u4 => ((u2 8).n 0)) (fun u4 => [.slice p_a0 (a0.take (mn (a0.length : Int) a1).toNat).length c_a0, vI a2]) (fun g => [.slice (g.o 1) t5.2.raw.length (g.n 1), vI t5.2.n]) 100 (fun u4 w hb hF hN => armillaryref07_builder_build.calls k0 5 (⟨(a0.take (mn (a0.length : Int) a1).toNat), a2⟩ : Tbuilder) p_a0 c_a0 ((u2 8).n 0) t5 w (RowC.high (en := en_TNode) (rdF_of hF.1) en_TNode_len b3) hb (fun h => hN _ (.head _) (fpRow_high (List.length_take_le_self _ _) h)) ht5) (fun u4 w hF => ins_as (ins' := [(p_a0, (a0.take (mn (a0.length : Int) a1).toNat).length)]) (ins_cons (rdl fr 4 p_a0 c_a0 a0 en_TNode) (.head _) (fun h => h) (fun j h => ⟨rdF_fr hF.1 j (fpRow_high (List.length_take_le_self _ _) h), (fpRow_high (List.length_take_le_self _ _) h)⟩) ins_nil)) hB) <|
   .cons [6] (ok_val (fun u4 => .slice ((u4 1).o 0) t5.1.length ((u4 1).n 0)) 6) <| .nil) fun u4 a w' H => ?_
 replace H := H.toM [(6, (sS ((u4 1).o 0) t5.1.length ((u4 1).n 0))), (21, rdF fr 4 ((u4 1).o 0) t5.1.length ((u4 1).n 0) (t5.1.flatMap en_TNode))]
 refine k_ret ?_
 obtain rfl := Option.some.inj G
 rw [show frP w.heap.size (insV ((#[.slice p_a0 a0.length c_a0, vI a1, vI a2] : Array Value).toList)) = fr from by rw [hfr]; exact congrArg (frP w.heap.size) (by kernel_rfl)]
 exact k_doneF H (fun g => .slice (g.o 0) t5.1.length (g.n 0)) ⟨fun i => [((u4 1).n 0)].getD i 0, fun i => [((u4 1).o 0)].getD i none⟩ fr [(4, t5.1.length, t5.1.flatMap en_TNode)] [] (rowsF_cons (by decide) (H.rdRow (fr := fr) (sz := 4) (m := t5.1.length) (cap := ((u4 1).n 0)) (p := ((u4 1).o 0)) (xs := t5.1.flatMap en_TNode) 21 (by kernel_rfl)) rfl rfl rowsF_nil) (by kernel_rfl) (by simp) (by kernel_rfl)

set_option maxHeartbeats 4000000 in
theorem armillaryref15_Made.calls (k0 : Nat) (a0 : List TNode) (a1 : Int) (a2 : Int) (p_a0 : Option Addr) (c_a0 : Nat) (r : TGuard) (w : World) (R_p_a0 : RowC w 4 p_a0 a0.length c_a0 (a0.flatMap en_TNode)) (G : armillaryref15_Made k0 a0 a1 a2 = some r) :
  Calls Tryd.prog 30 #[.slice p_a0 a0.length c_a0, .int .i8 a1, vI a2] w fun e w' => ∃ g : Gh, e = .returned (.agg #[.slice (g.o 0) r.F.length (g.n 0), vI r.Dir]) ∧ Below w.heap.size w w' ∧ RowsF (frP w.heap.size (insV ((#[.slice p_a0 a0.length c_a0, .int .i8 a1, vI a2] : Array Value).toList))) w' g.o g.n 0 [(4, r.F.length, r.F.flatMap en_TNode)] := by
 obtain ⟨fr, hfr⟩ : ∃ fr : Nat → Prop, fr = frP w.heap.size [(p_a0, a0.length)] := ⟨_, rfl⟩
 have hB : ∀ j, w.heap.size ≤ j → fr j := fun j h => by rw [hfr]; exact .inl h
 have hin_p_a0 : ∀ j, fpRow p_a0 a0.length j → fr j := fun j h => by rw [hfr]; exact frP_in (.head _) j h
 refine k_enterF (args := [.slice p_a0 a0.length c_a0, .int .i8 a1, vI a2]) 14 [(14, rdl fr 4 p_a0 c_a0 a0 en_TNode)] (by
  intro x hx
  simp only [List.mem_cons, List.not_mem_nil, or_false] at hx
  rcases hx with rfl
  exact rdF_fact R_p_a0 hin_p_a0 (by decide) _) Tryd.func30 rfl (by kernel_rfl) (by kernel_rfl) fun a H => ?_
 unfold armillaryref15_Made at G
 refine k_seq ?_
 refine k_rg mixed H (.cons [6, 15] (ok_new (fun b => vP b 0) (fun u1 => [.slice none 0 0, vI 0]) 31 6 15) <| .nil) fun u1 a w' H => ?_
 replace H := H.toM [(0, sS p_a0 a0.length c_a0), (1, .slot true (.int .i8 a1)), (2, sI a2), (6, (sP ((u1 0).n 0) 0)), (15, .blk ((u1 0).n 0) [.slice none 0 0, vI 0] 31), (14, rdl fr 4 p_a0 c_a0 a0 en_TNode)]
 refine k_seq ?_
 replace G := bnd G; obtain ⟨t3, ht3, G⟩ := G
 refine k_rg mixed H (.v 7 (.slice p_a0 a0.length c_a0) <|
   .v 8 (vI a2) <|
   .cons [9, 16] (ok_callF [14] (fun u2 => [rdl fr 4 p_a0 c_a0 a0 en_TNode]) 50 (fun u2 => #[.slice p_a0 a0.length c_a0, vI 8, vI a2]) (fun g => .slice (g.o 0) t3.length (g.n 0)) [(4, t3.length, t3.flatMap en_TNode)] fr 9 16 (fun u2 w hF => armillaryref07_Made.calls k0 a0 8 a2 p_a0 c_a0 t3 w (rdF_of hF.1) ht3) (fun u2 w hF => ins_as (ins' := [(p_a0, a0.length)]) (ins_cons (rdl fr 4 p_a0 c_a0 a0 en_TNode) (.head _) (fun h => h) (fun j h => ⟨rdF_fr hF.1 j h, h⟩) ins_nil)) hB) <|
   .v 10 (.int .i8 a1) <|
   .v 11 (.int .i8 (Int.tmod a1 2)) <|
   .v 12 (vI (w_i64 (Int.tmod a1 2))) <|
   .cons [13] (ok_val (fun u2 => .agg #[.slice ((u2 2).o 0) t3.length ((u2 2).n 0), vI (w_i64 (Int.tmod a1 2))]) 13) <|
   .cons [15] (ok_as (u' := fun u2 => [(15, .blk ((u1 0).n 0) [.slice ((u2 2).o 0) t3.length ((u2 2).n 0), vI (w_i64 (Int.tmod a1 2))] 31)]) (ok_store 15 0 (fun u2 => ((u1 0).n 0)) (fun u2 => [.slice none 0 0, vI 0]) (fun u2 => [.slice ((u2 2).o 0) t3.length ((u2 2).n 0), vI (w_i64 (Int.tmod a1 2))]) 31) (fun _ => by kernel_rfl)) <| .nil) fun u2 a w' H => ?_
 replace H := H.toM [(6, (sP ((u1 0).n 0) 0)), (15, .blk ((u1 0).n 0) [.slice ((u2 2).o 0) t3.length ((u2 2).n 0), vI (w_i64 (Int.tmod a1 2))] 31), (16, rdF fr 4 ((u2 2).o 0) t3.length ((u2 2).n 0) (t3.flatMap en_TNode))]
 refine k_ret ?_
 obtain rfl := Option.some.inj G
 rw [show frP w.heap.size (insV ((#[.slice p_a0 a0.length c_a0, .int .i8 a1, vI a2] : Array Value).toList)) = fr from by rw [hfr]; exact congrArg (frP w.heap.size) (by kernel_rfl)]
 exact k_doneF H (fun g => .agg #[.slice (g.o 0) t3.length (g.n 0), vI (w_i64 (Int.tmod a1 2))]) ⟨fun i => [((u2 2).n 0)].getD i 0, fun i => [((u2 2).o 0)].getD i none⟩ fr [(4, t3.length, t3.flatMap en_TNode)] [(15, ⟨((u1 0).n 0), [.slice ((u2 2).o 0) t3.length ((u2 2).n 0), vI (w_i64 (Int.tmod a1 2))], 0, 2⟩)] (rowsF_cons (by decide) (H.rdRow (fr := fr) (sz := 4) (m := t3.length) (cap := ((u2 2).n 0)) (p := ((u2 2).o 0)) (xs := t3.flatMap en_TNode) 16 (by kernel_rfl)) rfl rfl rowsF_nil) (by kernel_rfl) (by intro p hp; simp only [List.mem_cons, List.not_mem_nil, or_false] at hp; rcases hp with rfl; exact ⟨⟨31, by kernel_rfl⟩, by kernel_rfl⟩) (by kernel_rfl)

set_option maxHeartbeats 4000000 in
theorem armillarylaw15_segment.calls (k0 : Nat) (a0 : TInput) (p_a0_F : Option Addr) (c_a0_F : Nat) (p_a0_A : Option Addr) (c_a0_A : Nat) (p_a0_B : Option Addr) (c_a0_B : Nat) (p_a0_C : Option Addr) (c_a0_C : Nat) (p_a0_P : Option Addr) (c_a0_P : Nat) (r : TGuard × TSegment) (w : World) (R_p_a0_F : RowC w 4 p_a0_F a0.F.length c_a0_F (a0.F.flatMap en_TNode)) (R_p_a0_A : RowC w 2 p_a0_A a0.A.length c_a0_A (a0.A.flatMap en_TInterval)) (R_p_a0_B : RowC w 2 p_a0_B a0.B.length c_a0_B (a0.B.flatMap en_TInterval)) (R_p_a0_C : RowC w 2 p_a0_C a0.C.length c_a0_C (a0.C.flatMap en_TInterval)) (R_p_a0_P : RowC w 1 p_a0_P a0.P.length c_a0_P (a0.P.flatMap en_u16)) (G : armillarylaw15_segment k0 a0 = some r) :
  Calls Tryd.prog 9 #[.agg #[.slice p_a0_F a0.F.length c_a0_F, .int .i8 a0.Dir, .int .u8 a0.N, .slice p_a0_A a0.A.length c_a0_A, .slice p_a0_B a0.B.length c_a0_B, .slice p_a0_C a0.C.length c_a0_C, vI a0.G.T, vI a0.G.H, .slice p_a0_P a0.P.length c_a0_P]] w fun e w' => ∃ g : Gh, e = .returned (.tuple #[.agg #[.slice (g.o 0) r.1.F.length (g.n 0), vI r.1.Dir], .agg #[vI r.2.T, vI r.2.H, .slice (g.o 1) r.2.From.length (g.n 1), .slice (g.o 2) r.2.Pre.length (g.n 2), .slice (g.o 3) r.2.Tube.length (g.n 3), .slice (g.o 4) r.2.To.length (g.n 4)]]) ∧ Below w.heap.size w w' ∧ RowsF (frP w.heap.size (insV ((#[.agg #[.slice p_a0_F a0.F.length c_a0_F, .int .i8 a0.Dir, .int .u8 a0.N, .slice p_a0_A a0.A.length c_a0_A, .slice p_a0_B a0.B.length c_a0_B, .slice p_a0_C a0.C.length c_a0_C, vI a0.G.T, vI a0.G.H, .slice p_a0_P a0.P.length c_a0_P]] : Array Value).toList))) w' g.o g.n 0 [(4, r.1.F.length, r.1.F.flatMap en_TNode), (2, r.2.From.length, r.2.From.flatMap en_TInterval), (2, r.2.Pre.length, r.2.Pre.flatMap en_TInterval), (2, r.2.Tube.length, r.2.Tube.flatMap en_TInterval), (2, r.2.To.length, r.2.To.flatMap en_TInterval)] := by
 obtain ⟨fr, hfr⟩ : ∃ fr : Nat → Prop, fr = frP w.heap.size [(p_a0_F, a0.F.length), (p_a0_A, a0.A.length), (p_a0_B, a0.B.length), (p_a0_C, a0.C.length), (p_a0_P, a0.P.length)] := ⟨_, rfl⟩
 have hB : ∀ j, w.heap.size ≤ j → fr j := fun j h => by rw [hfr]; exact .inl h
 have hin_p_a0_F : ∀ j, fpRow p_a0_F a0.F.length j → fr j := fun j h => by rw [hfr]; exact frP_in (.head _) j h
 have hin_p_a0_A : ∀ j, fpRow p_a0_A a0.A.length j → fr j := fun j h => by rw [hfr]; exact frP_in (.tail _ (.head _)) j h
 have hin_p_a0_B : ∀ j, fpRow p_a0_B a0.B.length j → fr j := fun j h => by rw [hfr]; exact frP_in (.tail _ (.tail _ (.head _))) j h
 have hin_p_a0_C : ∀ j, fpRow p_a0_C a0.C.length j → fr j := fun j h => by rw [hfr]; exact frP_in (.tail _ (.tail _ (.tail _ (.head _)))) j h
 have hin_p_a0_P : ∀ j, fpRow p_a0_P a0.P.length j → fr j := fun j h => by rw [hfr]; exact frP_in (.tail _ (.tail _ (.tail _ (.tail _ (.head _))))) j h
 refine k_enterF (args := [.agg #[.slice p_a0_F a0.F.length c_a0_F, .int .i8 a0.Dir, .int .u8 a0.N, .slice p_a0_A a0.A.length c_a0_A, .slice p_a0_B a0.B.length c_a0_B, .slice p_a0_C a0.C.length c_a0_C, vI a0.G.T, vI a0.G.H, .slice p_a0_P a0.P.length c_a0_P]]) 48 [(48, rdl fr 4 p_a0_F c_a0_F a0.F en_TNode), (49, rdl fr 2 p_a0_A c_a0_A a0.A en_TInterval), (50, rdl fr 2 p_a0_B c_a0_B a0.B en_TInterval), (51, rdl fr 2 p_a0_C c_a0_C a0.C en_TInterval), (52, rdl fr 1 p_a0_P c_a0_P a0.P en_u16)] (by
  intro x hx
  simp only [List.mem_cons, List.not_mem_nil, or_false] at hx
  rcases hx with rfl | rfl | rfl | rfl | rfl
  ·exact rdF_fact R_p_a0_F hin_p_a0_F (by decide) _
  ·exact rdF_fact R_p_a0_A hin_p_a0_A (by decide) _
  ·exact rdF_fact R_p_a0_B hin_p_a0_B (by decide) _
  ·exact rdF_fact R_p_a0_C hin_p_a0_C (by decide) _
  ·exact rdF_fact R_p_a0_P hin_p_a0_P (by decide) _) Tryd.func9 rfl (by kernel_rfl) (by kernel_rfl) fun a H => ?_
 unfold armillarylaw15_segment at G
 refine k_seq ?_
 refine k_rg mixed H (.cons [1, 53] (ok_new (fun b => vP b 0) (fun u1 => [.slice p_a0_F a0.F.length c_a0_F, .int .i8 a0.Dir, .int .u8 a0.N, .slice p_a0_A a0.A.length c_a0_A, .slice p_a0_B a0.B.length c_a0_B, .slice p_a0_C a0.C.length c_a0_C, vI a0.G.T, vI a0.G.H, .slice p_a0_P a0.P.length c_a0_P]) 29 1 53) <|
   .cons [2, 54] (ok_new (fun b => vP b 0) (fun u1 => [.slice none 0 0, vI 0]) 31 2 54) <|
   .cons [3, 55] (ok_new (fun b => vP b 0) (fun u1 => [vI 0, vI 0, .slice none 0 0, .slice none 0 0, .slice none 0 0, .slice none 0 0]) 34 3 55) <| .nil) fun u1 a w' H => ?_
 replace H := H.toM [(1, (sP ((u1 0).n 0) 0)), (2, (sP ((u1 1).n 0) 0)), (3, (sP ((u1 2).n 0) 0)), (53, .blk ((u1 0).n 0) [.slice p_a0_F a0.F.length c_a0_F, .int .i8 a0.Dir, .int .u8 a0.N, .slice p_a0_A a0.A.length c_a0_A, .slice p_a0_B a0.B.length c_a0_B, .slice p_a0_C a0.C.length c_a0_C, vI a0.G.T, vI a0.G.H, .slice p_a0_P a0.P.length c_a0_P] 29), (54, .blk ((u1 1).n 0) [.slice none 0 0, vI 0] 31), (55, .blk ((u1 2).n 0) [vI 0, vI 0, .slice none 0 0, .slice none 0 0, .slice none 0 0, .slice none 0 0] 34), (48, rdl fr 4 p_a0_F c_a0_F a0.F en_TNode), (49, rdl fr 2 p_a0_A c_a0_A a0.A en_TInterval), (50, rdl fr 2 p_a0_B c_a0_B a0.B en_TInterval), (51, rdl fr 2 p_a0_C c_a0_C a0.C en_TInterval), (52, rdl fr 1 p_a0_P c_a0_P a0.P en_u16)]
 refine k_seq ?_
 refine k_rg mixed H (.v 9 (vP ((u1 0).n 0) 2) <|
   .cons [10] (ok_ld (fun u2 => .int .u8 a0.N) 10 53 2 1 (fun u2 => ((u1 0).n 0)) (fun u2 => [.slice p_a0_F a0.F.length c_a0_F, .int .i8 a0.Dir, .int .u8 a0.N, .slice p_a0_A a0.A.length c_a0_A, .slice p_a0_B a0.B.length c_a0_B, .slice p_a0_C a0.C.length c_a0_C, vI a0.G.T, vI a0.G.H, .slice p_a0_P a0.P.length c_a0_P]) 29) <|
   .v 11 (.int .u8 (Int.tmod a0.N 3)) <|
   .v 12 (vI (w_i64 (Int.tmod a0.N 3))) <|
   .v 13 (vI (w_i64 (1 + (w_i64 (Int.tmod a0.N 3))))) <|
   .v 4 (vI (w_i64 (1 + (w_i64 (Int.tmod a0.N 3))))) <| .nil) fun u2 a w' H => ?_
 replace H := H.toM [(1, (sP ((u1 0).n 0) 0)), (2, (sP ((u1 1).n 0) 0)), (3, (sP ((u1 2).n 0) 0)), (4, (sI (w_i64 (1 + (w_i64 (Int.tmod a0.N 3)))))), (53, .blk ((u1 0).n 0) [.slice p_a0_F a0.F.length c_a0_F, .int .i8 a0.Dir, .int .u8 a0.N, .slice p_a0_A a0.A.length c_a0_A, .slice p_a0_B a0.B.length c_a0_B, .slice p_a0_C a0.C.length c_a0_C, vI a0.G.T, vI a0.G.H, .slice p_a0_P a0.P.length c_a0_P] 29), (54, .blk ((u1 1).n 0) [.slice none 0 0, vI 0] 31), (55, .blk ((u1 2).n 0) [vI 0, vI 0, .slice none 0 0, .slice none 0 0, .slice none 0 0, .slice none 0 0] 34), (48, rdl fr 4 p_a0_F c_a0_F a0.F en_TNode), (49, rdl fr 2 p_a0_A c_a0_A a0.A en_TInterval), (50, rdl fr 2 p_a0_B c_a0_B a0.B en_TInterval), (51, rdl fr 2 p_a0_C c_a0_C a0.C en_TInterval), (52, rdl fr 1 p_a0_P c_a0_P a0.P en_u16)]
 refine k_seq ?_
 replace G := bnd G; obtain ⟨t4, ht4, G⟩ := G
 refine k_rg mixed H (.v 14 (vP ((u1 0).n 0) 6) <|
   .cons [15] (ok_ld (fun u3 => .agg #[vI a0.G.T, vI a0.G.H]) 15 53 6 2 (fun u3 => ((u1 0).n 0)) (fun u3 => [.slice p_a0_F a0.F.length c_a0_F, .int .i8 a0.Dir, .int .u8 a0.N, .slice p_a0_A a0.A.length c_a0_A, .slice p_a0_B a0.B.length c_a0_B, .slice p_a0_C a0.C.length c_a0_C, vI a0.G.T, vI a0.G.H, .slice p_a0_P a0.P.length c_a0_P]) 29) <|
   .cons [16] (ok_callv 28 (fun u3 => #[.agg #[vI a0.G.T, vI a0.G.H]]) (.agg #[vI t4.T, vI t4.H]) 16 [] (fun _ w _ => armillaryref12_Made.calls (⟨a0.G.T, a0.G.H⟩ : TTimeStep) t4 w ht4)) <|
   .cons [5, 56] (ok_new (fun b => vP b 0) (fun u3 => [vI 0, vI 0]) 26 5 56) <|
   .cons [56] (ok_as (u' := fun u3 => [(56, .blk ((u3 3).n 0) [vI t4.T, vI t4.H] 26)]) (ok_store 56 0 (fun u3 => ((u3 3).n 0)) (fun u3 => [vI 0, vI 0]) (fun u3 => [vI t4.T, vI t4.H]) 26) (fun _ => by kernel_rfl)) <| .nil) fun u3 a w' H => ?_
 replace H := H.toM [(1, (sP ((u1 0).n 0) 0)), (2, (sP ((u1 1).n 0) 0)), (3, (sP ((u1 2).n 0) 0)), (4, (sI (w_i64 (1 + (w_i64 (Int.tmod a0.N 3)))))), (5, (sP ((u3 3).n 0) 0)), (53, .blk ((u1 0).n 0) [.slice p_a0_F a0.F.length c_a0_F, .int .i8 a0.Dir, .int .u8 a0.N, .slice p_a0_A a0.A.length c_a0_A, .slice p_a0_B a0.B.length c_a0_B, .slice p_a0_C a0.C.length c_a0_C, vI a0.G.T, vI a0.G.H, .slice p_a0_P a0.P.length c_a0_P] 29), (54, .blk ((u1 1).n 0) [.slice none 0 0, vI 0] 31), (55, .blk ((u1 2).n 0) [vI 0, vI 0, .slice none 0 0, .slice none 0 0, .slice none 0 0, .slice none 0 0] 34), (56, .blk ((u3 3).n 0) [vI t4.T, vI t4.H] 26), (48, rdl fr 4 p_a0_F c_a0_F a0.F en_TNode), (49, rdl fr 2 p_a0_A c_a0_A a0.A en_TInterval), (50, rdl fr 2 p_a0_B c_a0_B a0.B en_TInterval), (51, rdl fr 2 p_a0_C c_a0_C a0.C en_TInterval), (52, rdl fr 1 p_a0_P c_a0_P a0.P en_u16)]
 refine k_seq ?_
 replace G := bnd G; obtain ⟨t6, ht6, G⟩ := G
 refine k_rg mixed H (.v 17 (vP ((u1 0).n 0) 3) <|
   .cons [18] (ok_ld (fun u5 => .slice p_a0_A a0.A.length c_a0_A) 18 53 3 1 (fun u5 => ((u1 0).n 0)) (fun u5 => [.slice p_a0_F a0.F.length c_a0_F, .int .i8 a0.Dir, .int .u8 a0.N, .slice p_a0_A a0.A.length c_a0_A, .slice p_a0_B a0.B.length c_a0_B, .slice p_a0_C a0.C.length c_a0_C, vI a0.G.T, vI a0.G.H, .slice p_a0_P a0.P.length c_a0_P]) 29) <|
   .v 19 (vI (w_i64 (1 + (w_i64 (Int.tmod a0.N 3))))) <|
   .cons [20, 57] (ok_callRL [49] (fun u5 => [rdl fr 2 p_a0_A c_a0_A a0.A en_TInterval]) 29 (fun u5 => #[.slice p_a0_A a0.A.length c_a0_A, vI (w_i64 (1 + (w_i64 (Int.tmod a0.N 3))))]) (fun p cap => .slice p t6.length cap) 38 2 t6.length (t6.flatMap en_TInterval) 20 57 (fun u5 w hF => armillarylaw15_bounded.calls k0 a0.A (w_i64 (1 + (w_i64 (Int.tmod a0.N 3)))) p_a0_A c_a0_A t6 w (rdF_of hF.1) ht6)) <|
   .cons [6] (ok_val (fun u5 => .slice ((u5 3).o 0) t6.length ((u5 3).n 0)) 6) <| .nil) fun u5 a w' H => ?_
 replace H := H.toM [(1, (sP ((u1 0).n 0) 0)), (2, (sP ((u1 1).n 0) 0)), (3, (sP ((u1 2).n 0) 0)), (4, (sI (w_i64 (1 + (w_i64 (Int.tmod a0.N 3)))))), (5, (sP ((u3 3).n 0) 0)), (6, (sS ((u5 3).o 0) t6.length ((u5 3).n 0))), (53, .blk ((u1 0).n 0) [.slice p_a0_F a0.F.length c_a0_F, .int .i8 a0.Dir, .int .u8 a0.N, .slice p_a0_A a0.A.length c_a0_A, .slice p_a0_B a0.B.length c_a0_B, .slice p_a0_C a0.C.length c_a0_C, vI a0.G.T, vI a0.G.H, .slice p_a0_P a0.P.length c_a0_P] 29), (54, .blk ((u1 1).n 0) [.slice none 0 0, vI 0] 31), (55, .blk ((u1 2).n 0) [vI 0, vI 0, .slice none 0 0, .slice none 0 0, .slice none 0 0, .slice none 0 0] 34), (56, .blk ((u3 3).n 0) [vI t4.T, vI t4.H] 26), (48, rdl fr 4 p_a0_F c_a0_F a0.F en_TNode), (49, rdl fr 2 p_a0_A c_a0_A a0.A en_TInterval), (50, rdl fr 2 p_a0_B c_a0_B a0.B en_TInterval), (51, rdl fr 2 p_a0_C c_a0_C a0.C en_TInterval), (52, rdl fr 1 p_a0_P c_a0_P a0.P en_u16), (57, owK 38 2 ((u5 3).o 0) t6.length ((u5 3).n 0) (t6.flatMap en_TInterval))]
 refine k_seq ?_
 replace G := bnd G; obtain ⟨t8, ht8, G⟩ := G
 refine k_rg mixed H (.v 21 (vP ((u1 0).n 0) 4) <|
   .cons [22] (ok_ld (fun u7 => .slice p_a0_B a0.B.length c_a0_B) 22 53 4 1 (fun u7 => ((u1 0).n 0)) (fun u7 => [.slice p_a0_F a0.F.length c_a0_F, .int .i8 a0.Dir, .int .u8 a0.N, .slice p_a0_A a0.A.length c_a0_A, .slice p_a0_B a0.B.length c_a0_B, .slice p_a0_C a0.C.length c_a0_C, vI a0.G.T, vI a0.G.H, .slice p_a0_P a0.P.length c_a0_P]) 29) <|
   .v 23 (vI (w_i64 (1 + (w_i64 (Int.tmod a0.N 3))))) <|
   .cons [24, 58] (ok_callRL [50] (fun u7 => [rdl fr 2 p_a0_B c_a0_B a0.B en_TInterval]) 29 (fun u7 => #[.slice p_a0_B a0.B.length c_a0_B, vI (w_i64 (1 + (w_i64 (Int.tmod a0.N 3))))]) (fun p cap => .slice p t8.length cap) 38 2 t8.length (t8.flatMap en_TInterval) 24 58 (fun u7 w hF => armillarylaw15_bounded.calls k0 a0.B (w_i64 (1 + (w_i64 (Int.tmod a0.N 3)))) p_a0_B c_a0_B t8 w (rdF_of hF.1) ht8)) <|
   .cons [7] (ok_val (fun u7 => .slice ((u7 3).o 0) t8.length ((u7 3).n 0)) 7) <| .nil) fun u7 a w' H => ?_
 replace H := H.toM [(1, (sP ((u1 0).n 0) 0)), (2, (sP ((u1 1).n 0) 0)), (3, (sP ((u1 2).n 0) 0)), (4, (sI (w_i64 (1 + (w_i64 (Int.tmod a0.N 3)))))), (5, (sP ((u3 3).n 0) 0)), (6, (sS ((u5 3).o 0) t6.length ((u5 3).n 0))), (7, (sS ((u7 3).o 0) t8.length ((u7 3).n 0))), (53, .blk ((u1 0).n 0) [.slice p_a0_F a0.F.length c_a0_F, .int .i8 a0.Dir, .int .u8 a0.N, .slice p_a0_A a0.A.length c_a0_A, .slice p_a0_B a0.B.length c_a0_B, .slice p_a0_C a0.C.length c_a0_C, vI a0.G.T, vI a0.G.H, .slice p_a0_P a0.P.length c_a0_P] 29), (54, .blk ((u1 1).n 0) [.slice none 0 0, vI 0] 31), (55, .blk ((u1 2).n 0) [vI 0, vI 0, .slice none 0 0, .slice none 0 0, .slice none 0 0, .slice none 0 0] 34), (56, .blk ((u3 3).n 0) [vI t4.T, vI t4.H] 26), (48, rdl fr 4 p_a0_F c_a0_F a0.F en_TNode), (49, rdl fr 2 p_a0_A c_a0_A a0.A en_TInterval), (50, rdl fr 2 p_a0_B c_a0_B a0.B en_TInterval), (51, rdl fr 2 p_a0_C c_a0_C a0.C en_TInterval), (52, rdl fr 1 p_a0_P c_a0_P a0.P en_u16), (57, owK 38 2 ((u5 3).o 0) t6.length ((u5 3).n 0) (t6.flatMap en_TInterval)), (58, owK 38 2 ((u7 3).o 0) t8.length ((u7 3).n 0) (t8.flatMap en_TInterval))]
 refine k_seq ?_
 replace G := bnd G; obtain ⟨t10, ht10, G⟩ := G
 replace G := bnd G; obtain ⟨t11, ht11, G⟩ := G
 replace G := bnd G; obtain ⟨t12, ht12, G⟩ := G
 refine k_regT mixed H (.v 25 (.slice ((u5 3).o 0) t6.length ((u5 3).n 0)) <|
   .v 26 (.slice ((u7 3).o 0) t8.length ((u7 3).n 0)) <|
   .cons [27, 59] (ok_callRL [57, 58] (fun u9 => [owK 38 2 ((u5 3).o 0) t6.length ((u5 3).n 0) (t6.flatMap en_TInterval), owK 38 2 ((u7 3).o 0) t8.length ((u7 3).n 0) (t8.flatMap en_TInterval)]) 22 (fun u9 => #[.slice ((u5 3).o 0) t6.length ((u5 3).n 0), .slice ((u7 3).o 0) t8.length ((u7 3).n 0)]) (fun p cap => .slice p t10.length cap) 38 2 t10.length (t10.flatMap en_TInterval) 27 59 (fun u9 w hF => armillaryref03_Hull.calls k0 t6 t8 ((u5 3).o 0) ((u5 3).n 0) ((u7 3).o 0) ((u7 3).n 0) t10 w (owns_rowC (ow_of hF.1)) (owns_rowC (ow_of hF.2.1)) ht10)) <|
   .v 28 (vP ((u1 0).n 0) 5) <|
   .cons [29] (ok_ld (fun u9 => .slice p_a0_C a0.C.length c_a0_C) 29 53 5 1 (fun u9 => ((u1 0).n 0)) (fun u9 => [.slice p_a0_F a0.F.length c_a0_F, .int .i8 a0.Dir, .int .u8 a0.N, .slice p_a0_A a0.A.length c_a0_A, .slice p_a0_B a0.B.length c_a0_B, .slice p_a0_C a0.C.length c_a0_C, vI a0.G.T, vI a0.G.H, .slice p_a0_P a0.P.length c_a0_P]) 29) <|
   .v 30 (vI (w_i64 (1 + (w_i64 (Int.tmod a0.N 3))))) <|
   .cons [31, 60] (ok_callRL [51] (fun u9 => [rdl fr 2 p_a0_C c_a0_C a0.C en_TInterval]) 29 (fun u9 => #[.slice p_a0_C a0.C.length c_a0_C, vI (w_i64 (1 + (w_i64 (Int.tmod a0.N 3))))]) (fun p cap => .slice p t11.length cap) 38 2 t11.length (t11.flatMap en_TInterval) 31 60 (fun u9 w hF => armillarylaw15_bounded.calls k0 a0.C (w_i64 (1 + (w_i64 (Int.tmod a0.N 3)))) p_a0_C c_a0_C t11 w (rdF_of hF.1) ht11)) <|
   .cons [32, 61] (ok_callRL [59, 60] (fun u9 => [owK 38 2 ((u9 2).o 0) t10.length ((u9 2).n 0) (t10.flatMap en_TInterval), owK 38 2 ((u9 6).o 0) t11.length ((u9 6).n 0) (t11.flatMap en_TInterval)]) 22 (fun u9 => #[.slice ((u9 2).o 0) t10.length ((u9 2).n 0), .slice ((u9 6).o 0) t11.length ((u9 6).n 0)]) (fun p cap => .slice p t12.length cap) 38 2 t12.length (t12.flatMap en_TInterval) 32 61 (fun u9 w hF => armillaryref03_Hull.calls k0 t10 t11 ((u9 2).o 0) ((u9 2).n 0) ((u9 6).o 0) ((u9 6).n 0) t12 w (owns_rowC (ow_of hF.1)) (owns_rowC (ow_of hF.2.1)) ht12)) <|
   .cons [8] (ok_val (fun u9 => .slice ((u9 7).o 0) t12.length ((u9 7).n 0)) 8) <| .nil) (by kernel_rfl) fun u9 a w' H => ?_
 replace H := H.toM [(1, (sP ((u1 0).n 0) 0)), (2, (sP ((u1 1).n 0) 0)), (3, (sP ((u1 2).n 0) 0)), (4, (sI (w_i64 (1 + (w_i64 (Int.tmod a0.N 3)))))), (5, (sP ((u3 3).n 0) 0)), (6, (sS ((u5 3).o 0) t6.length ((u5 3).n 0))), (7, (sS ((u7 3).o 0) t8.length ((u7 3).n 0))), (8, (sS ((u9 7).o 0) t12.length ((u9 7).n 0))), (53, .blk ((u1 0).n 0) [.slice p_a0_F a0.F.length c_a0_F, .int .i8 a0.Dir, .int .u8 a0.N, .slice p_a0_A a0.A.length c_a0_A, .slice p_a0_B a0.B.length c_a0_B, .slice p_a0_C a0.C.length c_a0_C, vI a0.G.T, vI a0.G.H, .slice p_a0_P a0.P.length c_a0_P] 29), (54, .blk ((u1 1).n 0) [.slice none 0 0, vI 0] 31), (55, .blk ((u1 2).n 0) [vI 0, vI 0, .slice none 0 0, .slice none 0 0, .slice none 0 0, .slice none 0 0] 34), (56, .blk ((u3 3).n 0) [vI t4.T, vI t4.H] 26), (48, rdl fr 4 p_a0_F c_a0_F a0.F en_TNode), (49, rdl fr 2 p_a0_A c_a0_A a0.A en_TInterval), (50, rdl fr 2 p_a0_B c_a0_B a0.B en_TInterval), (51, rdl fr 2 p_a0_C c_a0_C a0.C en_TInterval), (52, rdl fr 1 p_a0_P c_a0_P a0.P en_u16), (57, owK 38 2 ((u5 3).o 0) t6.length ((u5 3).n 0) (t6.flatMap en_TInterval)), (58, owK 38 2 ((u7 3).o 0) t8.length ((u7 3).n 0) (t8.flatMap en_TInterval)), (61, owK 38 2 ((u9 7).o 0) t12.length ((u9 7).n 0) (t12.flatMap en_TInterval))]
 refine k_seq ?_
 replace G := bnd G; obtain ⟨t14, ht14, G⟩ := G
 refine k_regT mixed H (.v 33 (vP ((u1 0).n 0) 0) <|
   .cons [34] (ok_ld (fun u13 => .slice p_a0_F a0.F.length c_a0_F) 34 53 0 1 (fun u13 => ((u1 0).n 0)) (fun u13 => [.slice p_a0_F a0.F.length c_a0_F, .int .i8 a0.Dir, .int .u8 a0.N, .slice p_a0_A a0.A.length c_a0_A, .slice p_a0_B a0.B.length c_a0_B, .slice p_a0_C a0.C.length c_a0_C, vI a0.G.T, vI a0.G.H, .slice p_a0_P a0.P.length c_a0_P]) 29) <|
   .v 35 (vP ((u1 0).n 0) 1) <|
   .cons [36] (ok_ld (fun u13 => .int .i8 a0.Dir) 36 53 1 1 (fun u13 => ((u1 0).n 0)) (fun u13 => [.slice p_a0_F a0.F.length c_a0_F, .int .i8 a0.Dir, .int .u8 a0.N, .slice p_a0_A a0.A.length c_a0_A, .slice p_a0_B a0.B.length c_a0_B, .slice p_a0_C a0.C.length c_a0_C, vI a0.G.T, vI a0.G.H, .slice p_a0_P a0.P.length c_a0_P]) 29) <|
   .v 37 (vI (w_i64 (1 + (w_i64 (Int.tmod a0.N 3))))) <|
   .cons [38, 62] (ok_callF [48] (fun u13 => [rdl fr 4 p_a0_F c_a0_F a0.F en_TNode]) 30 (fun u13 => #[.slice p_a0_F a0.F.length c_a0_F, .int .i8 a0.Dir, vI (w_i64 (1 + (w_i64 (Int.tmod a0.N 3))))]) (fun g => .agg #[.slice (g.o 0) t14.F.length (g.n 0), vI t14.Dir]) [(4, t14.F.length, t14.F.flatMap en_TNode)] fr 38 62 (fun u13 w hF => armillaryref15_Made.calls k0 a0.F a0.Dir (w_i64 (1 + (w_i64 (Int.tmod a0.N 3)))) p_a0_F c_a0_F t14 w (rdF_of hF.1) ht14) (fun u13 w hF => ins_as (ins' := [(p_a0_F, a0.F.length)]) (ins_cons (rdl fr 4 p_a0_F c_a0_F a0.F en_TNode) (.head _) (fun h => h) (fun j h => ⟨rdF_fr hF.1 j h, h⟩) ins_nil)) hB) <|
   .v 39 (vP ((u3 3).n 0) 0) <|
   .cons [40] (ok_ld (fun u13 => vI t4.T) 40 56 0 1 (fun u13 => ((u3 3).n 0)) (fun u13 => [vI t4.T, vI t4.H]) 26) <|
   .v 41 (vP ((u3 3).n 0) 1) <|
   .cons [42] (ok_ld (fun u13 => vI t4.H) 42 56 1 1 (fun u13 => ((u3 3).n 0)) (fun u13 => [vI t4.T, vI t4.H]) 26) <|
   .v 43 (.slice ((u5 3).o 0) t6.length ((u5 3).n 0)) <|
   .v 44 (.slice ((u9 7).o 0) t12.length ((u9 7).n 0)) <|
   .v 45 (.slice ((u9 7).o 0) t12.length ((u9 7).n 0)) <|
   .v 46 (.slice ((u7 3).o 0) t8.length ((u7 3).n 0)) <|
   .v 47 (.agg #[vI t4.T, vI t4.H, .slice ((u5 3).o 0) t6.length ((u5 3).n 0), .slice ((u9 7).o 0) t12.length ((u9 7).n 0), .slice ((u9 7).o 0) t12.length ((u9 7).n 0), .slice ((u7 3).o 0) t8.length ((u7 3).n 0)]) <|
   .cons [54] (ok_as (u' := fun u13 => [(54, .blk ((u1 1).n 0) [.slice ((u13 5).o 0) t14.F.length ((u13 5).n 0), vI t14.Dir] 31)]) (ok_store 54 0 (fun u13 => ((u1 1).n 0)) (fun u13 => [.slice none 0 0, vI 0]) (fun u13 => [.slice ((u13 5).o 0) t14.F.length ((u13 5).n 0), vI t14.Dir]) 31) (fun _ => by kernel_rfl)) <|
   .cons [55] (ok_as (u' := fun u13 => [(55, .blk ((u1 2).n 0) [vI t4.T, vI t4.H, .slice ((u5 3).o 0) t6.length ((u5 3).n 0), .slice ((u9 7).o 0) t12.length ((u9 7).n 0), .slice ((u9 7).o 0) t12.length ((u9 7).n 0), .slice ((u7 3).o 0) t8.length ((u7 3).n 0)] 34)]) (ok_store 55 0 (fun u13 => ((u1 2).n 0)) (fun u13 => [vI 0, vI 0, .slice none 0 0, .slice none 0 0, .slice none 0 0, .slice none 0 0]) (fun u13 => [vI t4.T, vI t4.H, .slice ((u5 3).o 0) t6.length ((u5 3).n 0), .slice ((u9 7).o 0) t12.length ((u9 7).n 0), .slice ((u9 7).o 0) t12.length ((u9 7).n 0), .slice ((u7 3).o 0) t8.length ((u7 3).n 0)]) 34) (fun _ => by kernel_rfl)) <| .nil) (by kernel_rfl) fun u13 a w' H => ?_
 replace H := H.toM [(2, (sP ((u1 1).n 0) 0)), (3, (sP ((u1 2).n 0) 0)), (54, .blk ((u1 1).n 0) [.slice ((u13 5).o 0) t14.F.length ((u13 5).n 0), vI t14.Dir] 31), (55, .blk ((u1 2).n 0) [vI t4.T, vI t4.H, .slice ((u5 3).o 0) t6.length ((u5 3).n 0), .slice ((u9 7).o 0) t12.length ((u9 7).n 0), .slice ((u9 7).o 0) t12.length ((u9 7).n 0), .slice ((u7 3).o 0) t8.length ((u7 3).n 0)] 34), (57, owK 38 2 ((u5 3).o 0) t6.length ((u5 3).n 0) (t6.flatMap en_TInterval)), (58, owK 38 2 ((u7 3).o 0) t8.length ((u7 3).n 0) (t8.flatMap en_TInterval)), (61, owK 38 2 ((u9 7).o 0) t12.length ((u9 7).n 0) (t12.flatMap en_TInterval)), (62, rdF fr 4 ((u13 5).o 0) t14.F.length ((u13 5).n 0) (t14.F.flatMap en_TNode))]
 refine k_ret ?_
 obtain rfl := Option.some.inj G
 rw [show frP w.heap.size (insV ((#[.agg #[.slice p_a0_F a0.F.length c_a0_F, .int .i8 a0.Dir, .int .u8 a0.N, .slice p_a0_A a0.A.length c_a0_A, .slice p_a0_B a0.B.length c_a0_B, .slice p_a0_C a0.C.length c_a0_C, vI a0.G.T, vI a0.G.H, .slice p_a0_P a0.P.length c_a0_P]] : Array Value).toList)) = fr from by rw [hfr]; exact congrArg (frP w.heap.size) (by kernel_rfl)]
 exact k_doneF H (fun g => .tuple #[.agg #[.slice (g.o 0) t14.F.length (g.n 0), vI t14.Dir], .agg #[vI t4.T, vI t4.H, .slice (g.o 1) t6.length (g.n 1), .slice (g.o 2) t12.length (g.n 2), .slice (g.o 3) t12.length (g.n 3), .slice (g.o 4) t8.length (g.n 4)]]) ⟨fun i => [((u13 5).n 0), ((u5 3).n 0), ((u9 7).n 0), ((u9 7).n 0), ((u7 3).n 0)].getD i 0, fun i => [((u13 5).o 0), ((u5 3).o 0), ((u9 7).o 0), ((u9 7).o 0), ((u7 3).o 0)].getD i none⟩ fr [(4, t14.F.length, t14.F.flatMap en_TNode), (2, t6.length, t6.flatMap en_TInterval), (2, t12.length, t12.flatMap en_TInterval), (2, t12.length, t12.flatMap en_TInterval), (2, t8.length, t8.flatMap en_TInterval)] [(54, ⟨((u1 1).n 0), [.slice ((u13 5).o 0) t14.F.length ((u13 5).n 0), vI t14.Dir], 0, 2⟩), (55, ⟨((u1 2).n 0), [vI t4.T, vI t4.H, .slice ((u5 3).o 0) t6.length ((u5 3).n 0), .slice ((u9 7).o 0) t12.length ((u9 7).n 0), .slice ((u9 7).o 0) t12.length ((u9 7).n 0), .slice ((u7 3).o 0) t8.length ((u7 3).n 0)], 0, 6⟩)] (rowsF_cons (by decide) (H.rdRow (fr := fr) (sz := 4) (m := t14.F.length) (cap := ((u13 5).n 0)) (p := ((u13 5).o 0)) (xs := t14.F.flatMap en_TNode) 62 (by kernel_rfl)) rfl rfl (rowsF_cons (by decide) (And.imp id (fun f j h => hB j (f j h)) (H.owRow (e := 38) (sz := 2) (m := t6.length) (cap := ((u5 3).n 0)) (p := ((u5 3).o 0)) (xs := t6.flatMap en_TInterval) 57 (by kernel_rfl))) rfl rfl (rowsF_cons (by decide) (And.imp id (fun f j h => hB j (f j h)) (H.owRow (e := 38) (sz := 2) (m := t12.length) (cap := ((u9 7).n 0)) (p := ((u9 7).o 0)) (xs := t12.flatMap en_TInterval) 61 (by kernel_rfl))) rfl rfl (rowsF_cons (by decide) (And.imp id (fun f j h => hB j (f j h)) (H.owRow (e := 38) (sz := 2) (m := t12.length) (cap := ((u9 7).n 0)) (p := ((u9 7).o 0)) (xs := t12.flatMap en_TInterval) 61 (by kernel_rfl))) rfl rfl (rowsF_cons (by decide) (And.imp id (fun f j h => hB j (f j h)) (H.owRow (e := 38) (sz := 2) (m := t8.length) (cap := ((u7 3).n 0)) (p := ((u7 3).o 0)) (xs := t8.flatMap en_TInterval) 58 (by kernel_rfl))) rfl rfl rowsF_nil))))) (by kernel_rfl) (by intro p hp; simp only [List.mem_cons, List.not_mem_nil, or_false] at hp; rcases hp with rfl | rfl; exact ⟨⟨31, by kernel_rfl⟩, by kernel_rfl⟩; exact ⟨⟨34, by kernel_rfl⟩, by kernel_rfl⟩) (by kernel_rfl)

set_option maxHeartbeats 4000000 in
theorem armillaryref02_IsEntire.calls (a0 : TInterval) (r : Bool) (w : World) (G : armillaryref02_IsEntire a0 = some r) :
  Calls Tryd.prog 75 #[.agg #[vI a0.Lo, vI a0.Hi]] w fun e w' => e = .returned (.bool r) ∧ Below w.heap.size w w' := by
 refine k_enter (args := [.agg #[vI a0.Lo, vI a0.Hi]]) 11 Tryd.func75 rfl (by kernel_rfl) (by kernel_rfl) fun a H => ?_
 unfold armillaryref02_IsEntire at G
 refine k_seq ?_
 refine k_rg mixed H (.cons [1, 11] (ok_new (fun b => vP b 0) (fun u1 => [vI a0.Lo, vI a0.Hi]) 38 1 11) <|
   .v 2 (.bool false) <| .nil) fun u1 a w' H => ?_
 replace H := H.toM [(1, (sP ((u1 0).n 0) 0)), (11, .blk ((u1 0).n 0) [vI a0.Lo, vI a0.Hi] 38)]
 refine k_seq ?_
 refine k_rg mixed H (.v 3 (vP ((u1 0).n 0) 0) <|
   .cons [4] (ok_ld (fun u2 => vI a0.Lo) 4 11 0 1 (fun u2 => ((u1 0).n 0)) (fun u2 => [vI a0.Lo, vI a0.Hi]) 38) <|
   .v 5 (.bool (a0.Lo == (-2147483648))) <|
   .v 6 (.bool (a0.Lo == (-2147483648))) <|
   .cons [7] (ok_valg (fun u2 => vP ((u1 0).n 0) 1) (fun u2 => ((a0.Lo == (-2147483648)) == true)) [true] 7) <|
   .cons [8] (ok_ldg (fun u2 => vI a0.Hi) (fun u2 => ((a0.Lo == (-2147483648)) == true)) [false] 8 11 1 1 (fun u2 => ((u1 0).n 0)) (fun u2 => [vI a0.Lo, vI a0.Hi]) 38) <|
   .cons [9] (ok_valg (fun u2 => .bool (a0.Hi == 2147483648)) (fun u2 => ((a0.Lo == (-2147483648)) == true)) [false, true] 9) <|
   .cons [10] (ok_and 6 9 (fun u2 => true) (fun u2 => true) (fun u2 => (a0.Lo == (-2147483648))) (fun u2 => (a0.Hi == 2147483648)) 10) <|
   .v 2 (.bool ((a0.Lo == (-2147483648)) && (a0.Hi == 2147483648))) <| .nil) fun u2 a w' H => ?_
 replace H := H.toM [(2, (sB ((a0.Lo == (-2147483648)) && (a0.Hi == 2147483648))))]
 refine k_ret ?_
 obtain rfl := Option.some.inj G
 exact k_done0 H _ (by kernel_rfl) (by kernel_rfl)

set_option maxHeartbeats 4000000 in
theorem armillaryref03_Point.calls (k0 : Nat) (a0 : List Int) (p_a0 : Option Addr) (c_a0 : Nat) (r : List TInterval) (w : World) (R_p_a0 : RowC w 1 p_a0 a0.length c_a0 (a0.flatMap en_i64)) (G : armillaryref03_Point k0 a0 = some r) :
  Calls Tryd.prog 45 #[.slice p_a0 a0.length c_a0] w fun e w' => ∃ p cap, e = .returned (.slice p r.length cap) ∧ Below w.heap.size w w' ∧ w'.ownsRow w.heap.size 38 2 (.slice p r.length cap) r.length (r.flatMap en_TInterval) := by
 obtain ⟨fr, hfr⟩ : ∃ fr : Nat → Prop, ∀ j, fr j := ⟨fun _ => True, fun _ => trivial⟩
 have hB : ∀ j, w.heap.size ≤ j → fr j := fun j _ => hfr j
 have hin_p_a0 : ∀ j, fpRow p_a0 a0.length j → fr j := fun j _ => hfr j
 refine k_enterF (args := [.slice p_a0 a0.length c_a0]) 21 [(21, rdl fr 1 p_a0 c_a0 a0 en_i64)] (by
  intro x hx
  simp only [List.mem_cons, List.not_mem_nil, or_false] at hx
  rcases hx with rfl
  exact rdF_fact R_p_a0 hin_p_a0 (by decide) _) Tryd.func45 rfl (by kernel_rfl) (by kernel_rfl) fun a H => ?_
 unfold armillaryref03_Point at G
 refine k_seq ?_
 refine k_rg mixed H (.v 2 (.slice none 0 0) <| .nil) fun u1 a w' H => ?_
 replace H := H.toM [(0, sS p_a0 a0.length c_a0), (21, rdl fr 1 p_a0 c_a0 a0 en_i64)]
 refine k_seq ?_
 refine k_rg mixed H (.cons [5, 22] (ok_new (fun b => .slice (some ⟨b, 0, none⟩) 0 0) (fun u2 => []) 38 5 22) <|
   .cons [3] (ok_val (fun u2 => .slice (some ⟨((u2 0).n 0), 0, none⟩) 0 0) 3) <| .nil) fun u2 a w' H => ?_
 replace H := H.toM [(0, sS p_a0 a0.length c_a0), (3, (sS (some ⟨((u2 0).n 0), 0, none⟩) 0 0)), (22, .blk ((u2 0).n 0) [] 38), (21, rdl fr 1 p_a0 c_a0 a0 en_i64)]
 refine k_seq ?_
 replace G := bnd G; obtain ⟨j4, hj4, G⟩ := G
 refine k_join (fun a w' => ∃ (p_j3 : Option Addr) (c_j3 np_j3 : Nat), np_j3 = j4.length ∧ Rep w.heap.size w 21 (ofL [(3, sS p_j3 np_j3 c_j3), (22, owK 38 2 p_j3 np_j3 c_j3 (j4.flatMap en_TInterval))]) a w') ?_ ?_
 ·clear H; rintro a w' ⟨p_j3, c_j3, _, rfl, H⟩
  refine k_seq ?_
  refine k_rg mixed H (.v 20 (.slice p_j3 j4.length c_j3) <|
   .v 2 (.slice p_j3 j4.length c_j3) <| .nil) fun u5 a w' H => ?_
  replace H := H.toM [(2, sS p_j3 j4.length c_j3), (22, owK 38 2 p_j3 j4.length c_j3 (j4.flatMap en_TInterval))]
  refine k_ret ?_
  obtain rfl := Option.some.inj G
  exact k_doneR H (fun p cap => .slice p j4.length cap) p_j3 c_j3 [] 22 38 2 j4.length (j4.flatMap en_TInterval) (by kernel_rfl) (by kernel_rfl) (by simp) (by kernel_rfl)
 ·clear G; replace G := hj4; clear hj4
  refine k_seq ?_
  refine k_rg mixed H (.v 4 (vI 0) <| .nil) fun u6 a w' H => ?_
  replace H := H.toM [(0, sS p_a0 a0.length c_a0), (3, (sS (some ⟨((u2 0).n 0), 0, none⟩) 0 0)), (4, sI 0), (22, .blk ((u2 0).n 0) [] 38), (21, rdl fr 1 p_a0 c_a0 a0 en_i64)]
  refine k_block ?_
  replace H := H.blk_row 22 ((u2 0).n 0) [] 38 2 0 (by kernel_rfl) (by kernel_rfl) (by decide)
  refine k_loopJ (fun m a w' => ∃ x7 : List TInterval, ∃ x8 : Int, armillaryref03_Point.l9 k0 a0 m x7 x8 = some j4 ∧ ∃ (p_x7 : Option Addr) (c_x7 np_x7 : Nat), np_x7 = x7.length ∧ Rep w.heap.size w 21 (ofL [(0, sS p_a0 a0.length c_a0), (3, sS p_x7 np_x7 c_x7), (4, sI x8), (21, rdl fr 1 p_a0 c_a0 a0 en_i64), (22, owK 38 2 p_x7 np_x7 c_x7 (x7.flatMap en_TInterval))]) a w') k0 ⟨_, _, G, (some ⟨((u2 0).n 0), 0, none⟩), 0, _, rfl, H.toL _ (by kernel_rfl)⟩ ?_
  clear G H
  rintro (_ | k) a w' ⟨x7, x8, G, p_x7, c_x7, _, rfl, H⟩
  ·exact absurd G (by unfold armillaryref03_Point.l9; exact fun h => by cases h)
  ·unfold armillaryref03_Point.l9 at G
   refine k_seq ?_
   refine k_seq ?_
   refine k_rg mixed H (.v 6 (vI x8) <|
   .v 7 (.slice p_a0 a0.length c_a0) <|
   .v 8 (vI (a0.length : Int)) <|
   .v 9 (.bool (decide (x8 < (a0.length : Int)))) <| .nil) fun u10 a w' H => ?_
   replace H := H.toM [(0, sS p_a0 a0.length c_a0), (3, sS p_x7 x7.length c_x7), (4, sI x8), (9, (sB (decide (x8 < (a0.length : Int))))), (21, rdl fr 1 p_a0 c_a0 a0 en_i64), (22, owK 38 2 p_x7 x7.length c_x7 (x7.flatMap en_TInterval))]
   refine k_cond H (by kernel_rfl) (t := decide (x8 < (a0.length : Int))) (by kernel_rfl) (fun c17 => ?_) (fun c17 => ?_)
   ·rw [if_pos c17] at G
    refine k_skip ?_
    refine k_seq ?_
    refine k_block ?_
    replace G := gd G; obtain ⟨b12, G⟩ := G
    replace G := bnd G; obtain ⟨t13, ht13, G⟩ := G
    replace G := bnd G; obtain ⟨t14, ht14, G⟩ := G
    replace G := gd G; obtain ⟨b15, G⟩ := G
    refine k_rg mixed H (.v 12 (.slice p_x7 x7.length c_x7) <|
   .v 13 (.slice p_a0 a0.length c_a0) <|
   .v 14 (vI x8) <|
   .cons [15] (ok_valL [21] (fun u11 => [rdl fr 1 p_a0 c_a0 a0 en_i64]) (fun u11 => .pointer (some ⟨hdB p_a0, hdO p_a0 + x8.toNat * 1, none⟩)) (fun u11 => true) [true, true] 15 (fun u11 w hg hF => run_of (by kernel_rfl) (run_ix (t := 77) (p := p_a0) (n := a0.length) (cap := c_a0) (k := .i64) (i := x8) (sz := 1) (by kernel_rfl) (by kernel_rfl) (rdF_of hF.1).2 b12))) <|
   .cons [16] (ok_valL [21] (fun u11 => [rdl fr 1 p_a0 c_a0 a0 en_i64]) (fun u11 => vI t13) (fun u11 => true) [true] 16 (fun u11 w hg hF => ld_of (vs := [vI t13]) (b := hdB p_a0) (off := hdO p_a0 + x8.toNat * 1 + 0) (m := 1) (by kernel_rfl) (el_cells (rdF_of hF.1).2 en_i64_len ht13 0 1 rfl))) <|
   .cons [17] (ok_callv 23 (fun u11 => #[vI t13]) (.agg #[vI t14.Lo, vI t14.Hi]) 17 [] (fun _ w _ => armillaryref02_Point.calls t13 t14 w ht14)) <|
   .cons [18, 23] (ok_new (fun b => .slice (some ⟨b, 0, none⟩) 1 1) (fun u11 => [vI t14.Lo, vI t14.Hi]) 38 18 23) <|
   .cons [19, 22] (ok_rowL [22, 23] (fun u11 => [owK 38 2 p_x7 x7.length c_x7 (x7.flatMap en_TInterval), .blk ((u11 6).n 0) [vI t14.Lo, vI t14.Hi] 38]) 38 2 (x7 ++ [t14]).length ((x7 ++ [t14]).flatMap en_TInterval) 19 22 (fun u11 => owK 38 2 p_x7 x7.length c_x7 (x7.flatMap en_TInterval)) (fun u11 w hF => run_app_row (t := 24) (ty := 24) (en := en_TInterval) en_TInterval_len inf38 (ow_of hF.1) hF.2.1 (news := [t14]) rfl (by simp) (by kernel_rfl) b15) (fun _ => .inr trivial)) <|
   .cons [3] (ok_val (fun u11 => .slice ((u11 7).o 0) (x7 ++ [t14]).length ((u11 7).n 0)) 3) <| .nil) fun u11 a w' H => ?_
    replace H := H.toM [(0, sS p_a0 a0.length c_a0), (3, (sS ((u11 7).o 0) (x7 ++ [t14]).length ((u11 7).n 0))), (4, sI x8), (21, rdl fr 1 p_a0 c_a0 a0 en_i64), (22, owK 38 2 ((u11 7).o 0) (x7 ++ [t14]).length ((u11 7).n 0) ((x7 ++ [t14]).flatMap en_TInterval))]
    refine k_rg mixed H (.v 10 (vI x8) <|
   .v 11 (vI (w_i64 (x8 + 1))) <|
   .v 4 (vI (w_i64 (x8 + 1))) <| .nil) fun u16 a w' H => ?_
    replace H := H.toM [(0, sS p_a0 a0.length c_a0), (3, (sS ((u11 7).o 0) (x7 ++ [t14]).length ((u11 7).n 0))), (4, (sI (w_i64 (x8 + 1)))), (21, rdl fr 1 p_a0 c_a0 a0 en_i64), (22, owK 38 2 ((u11 7).o 0) (x7 ++ [t14]).length ((u11 7).n 0) ((x7 ++ [t14]).flatMap en_TInterval))]
    exact ⟨k, Nat.lt_succ_self k, _, _, G, ((u11 7).o 0), ((u11 7).n 0), _, rfl, H.toL _ (by kernel_rfl)⟩
   ·rw [if_neg (nt c17)] at G
    refine k_exit rfl ?_
    obtain rfl := Option.some.inj G
    exact ⟨p_x7, c_x7, _, rfl, H.toL _ (by kernel_rfl)⟩

set_option maxHeartbeats 4000000 in
theorem armillaryref03_PointIn.calls (k0 : Nat) (a0 : List TInterval) (a1 : List Int) (p_a0 : Option Addr) (c_a0 : Nat) (p_a1 : Option Addr) (c_a1 : Nat) (r : List Int) (w : World) (R_p_a0 : RowC w 2 p_a0 a0.length c_a0 (a0.flatMap en_TInterval)) (R_p_a1 : RowC w 1 p_a1 a1.length c_a1 (a1.flatMap en_u16)) (G : armillaryref03_PointIn k0 a0 a1 = some r) :
  Calls Tryd.prog 46 #[.slice p_a0 a0.length c_a0, .slice p_a1 a1.length c_a1] w fun e w' => ∃ p cap, e = .returned (.slice p r.length cap) ∧ Below w.heap.size w w' ∧ w'.ownsRow w.heap.size 2 1 (.slice p r.length cap) r.length (r.flatMap en_i64) := by
 obtain ⟨fr, hfr⟩ : ∃ fr : Nat → Prop, ∀ j, fr j := ⟨fun _ => True, fun _ => trivial⟩
 have hB : ∀ j, w.heap.size ≤ j → fr j := fun j _ => hfr j
 have hin_p_a0 : ∀ j, fpRow p_a0 a0.length j → fr j := fun j _ => hfr j
 have hin_p_a1 : ∀ j, fpRow p_a1 a1.length j → fr j := fun j _ => hfr j
 refine k_enterF (args := [.slice p_a0 a0.length c_a0, .slice p_a1 a1.length c_a1]) 57 [(57, rdl fr 2 p_a0 c_a0 a0 en_TInterval), (58, rdl fr 1 p_a1 c_a1 a1 en_u16)] (by
  intro x hx
  simp only [List.mem_cons, List.not_mem_nil, or_false] at hx
  rcases hx with rfl | rfl
  ·exact rdF_fact R_p_a0 hin_p_a0 (by decide) _
  ·exact rdF_fact R_p_a1 hin_p_a1 (by decide) _) Tryd.func46 rfl (by kernel_rfl) (by kernel_rfl) fun a H => ?_
 unfold armillaryref03_PointIn at G
 refine k_seq ?_
 refine k_rg mixed H (.v 4 (.slice none 0 0) <| .nil) fun u1 a w' H => ?_
 replace H := H.toM [(0, sS p_a0 a0.length c_a0), (1, sS p_a1 a1.length c_a1), (57, rdl fr 2 p_a0 c_a0 a0 en_TInterval), (58, rdl fr 1 p_a1 c_a1 a1 en_u16)]
 refine k_seq ?_
 refine k_rg mixed H (.cons [8, 59] (ok_new (fun b => .slice (some ⟨b, 0, none⟩) 0 0) (fun u2 => []) 2 8 59) <|
   .cons [5] (ok_val (fun u2 => .slice (some ⟨((u2 0).n 0), 0, none⟩) 0 0) 5) <| .nil) fun u2 a w' H => ?_
 replace H := H.toM [(0, sS p_a0 a0.length c_a0), (1, sS p_a1 a1.length c_a1), (5, (sS (some ⟨((u2 0).n 0), 0, none⟩) 0 0)), (59, .blk ((u2 0).n 0) [] 2), (57, rdl fr 2 p_a0 c_a0 a0 en_TInterval), (58, rdl fr 1 p_a1 c_a1 a1 en_u16)]
 refine k_seq ?_
 replace G := bnd G; obtain ⟨j4, hj4, G⟩ := G
 refine k_join (fun a w' => ∃ (p_j3 : Option Addr) (c_j3 np_j3 : Nat), np_j3 = j4.length ∧ Rep w.heap.size w 57 (ofL [(5, sS p_j3 np_j3 c_j3), (59, owK 2 1 p_j3 np_j3 c_j3 (j4.flatMap en_i64))]) a w') ?_ ?_
 ·clear H; rintro a w' ⟨p_j3, c_j3, _, rfl, H⟩
  refine k_seq ?_
  refine k_rg mixed H (.v 56 (.slice p_j3 j4.length c_j3) <|
   .v 4 (.slice p_j3 j4.length c_j3) <| .nil) fun u5 a w' H => ?_
  replace H := H.toM [(4, sS p_j3 j4.length c_j3), (59, owK 2 1 p_j3 j4.length c_j3 (j4.flatMap en_i64))]
  refine k_ret ?_
  obtain rfl := Option.some.inj G
  exact k_doneR H (fun p cap => .slice p j4.length cap) p_j3 c_j3 [] 59 2 1 j4.length (j4.flatMap en_i64) (by kernel_rfl) (by kernel_rfl) (by simp) (by kernel_rfl)
 ·clear G; replace G := hj4; clear hj4
  refine k_seq ?_
  refine k_rg mixed H (.v 6 (vI 0) <| .nil) fun u6 a w' H => ?_
  replace H := H.toM [(0, sS p_a0 a0.length c_a0), (1, sS p_a1 a1.length c_a1), (5, (sS (some ⟨((u2 0).n 0), 0, none⟩) 0 0)), (6, sI 0), (59, .blk ((u2 0).n 0) [] 2), (57, rdl fr 2 p_a0 c_a0 a0 en_TInterval), (58, rdl fr 1 p_a1 c_a1 a1 en_u16)]
  refine k_block ?_
  replace H := H.blk_row 59 ((u2 0).n 0) [] 2 1 0 (by kernel_rfl) (by kernel_rfl) (by decide)
  refine k_loopJ (fun m a w' => ∃ x7 : List Int, ∃ x8 : Int, armillaryref03_PointIn.l9 k0 a0 a1 m x7 x8 = some j4 ∧ ∃ (p_x7 : Option Addr) (c_x7 np_x7 : Nat), np_x7 = x7.length ∧ Rep w.heap.size w 57 (ofL [(0, sS p_a0 a0.length c_a0), (1, sS p_a1 a1.length c_a1), (5, sS p_x7 np_x7 c_x7), (6, sI x8), (57, rdl fr 2 p_a0 c_a0 a0 en_TInterval), (58, rdl fr 1 p_a1 c_a1 a1 en_u16), (59, owK 2 1 p_x7 np_x7 c_x7 (x7.flatMap en_i64))]) a w') k0 ⟨_, _, G, (some ⟨((u2 0).n 0), 0, none⟩), 0, _, rfl, H.toL _ (by kernel_rfl)⟩ ?_
  clear G H
  rintro (_ | k) a w' ⟨x7, x8, G, p_x7, c_x7, _, rfl, H⟩
  ·exact absurd G (by unfold armillaryref03_PointIn.l9; exact fun h => by cases h)
  ·unfold armillaryref03_PointIn.l9 at G
   refine k_seq ?_
   refine k_seq ?_
   refine k_rg mixed H (.v 9 (vI x8) <|
   .v 10 (.slice p_a0 a0.length c_a0) <|
   .v 11 (vI (a0.length : Int)) <|
   .v 12 (.bool (decide (x8 < (a0.length : Int)))) <| .nil) fun u10 a w' H => ?_
   replace H := H.toM [(0, sS p_a0 a0.length c_a0), (1, sS p_a1 a1.length c_a1), (5, sS p_x7 x7.length c_x7), (6, sI x8), (12, (sB (decide (x8 < (a0.length : Int))))), (57, rdl fr 2 p_a0 c_a0 a0 en_TInterval), (58, rdl fr 1 p_a1 c_a1 a1 en_u16), (59, owK 2 1 p_x7 x7.length c_x7 (x7.flatMap en_i64))]
   refine k_cond H (by kernel_rfl) (t := decide (x8 < (a0.length : Int))) (by kernel_rfl) (fun c37 => ?_) (fun c37 => ?_)
   ·rw [if_pos c37] at G
    refine k_skip ?_
    refine k_seq ?_
    replace G := bnd G; obtain ⟨j12, hj12, G⟩ := G
    refine k_join (fun a w' => ∃ (p_j11 : Option Addr) (c_j11 np_j11 : Nat), np_j11 = j12.length ∧ Rep w.heap.size w 57 (ofL [(0, sS p_a0 a0.length c_a0), (1, sS p_a1 a1.length c_a1), (5, sS p_j11 np_j11 c_j11), (6, sI x8), (57, rdl fr 2 p_a0 c_a0 a0 en_TInterval), (58, rdl fr 1 p_a1 c_a1 a1 en_u16), (59, owK 2 1 p_j11 np_j11 c_j11 (j12.flatMap en_i64))]) a w') ?_ ?_
    ·clear H; rintro a w' ⟨p_j11, c_j11, _, rfl, H⟩
     refine k_rg mixed H (.v 13 (vI x8) <|
   .v 14 (vI (w_i64 (x8 + 1))) <|
   .v 6 (vI (w_i64 (x8 + 1))) <| .nil) fun u13 a w' H => ?_
     replace H := H.toM [(0, sS p_a0 a0.length c_a0), (1, sS p_a1 a1.length c_a1), (5, sS p_j11 j12.length c_j11), (6, (sI (w_i64 (x8 + 1)))), (57, rdl fr 2 p_a0 c_a0 a0 en_TInterval), (58, rdl fr 1 p_a1 c_a1 a1 en_u16), (59, owK 2 1 p_j11 j12.length c_j11 (j12.flatMap en_i64))]
     exact ⟨k, Nat.lt_succ_self k, _, _, G, p_j11, c_j11, _, rfl, H.toL _ (by kernel_rfl)⟩
    ·clear G; replace G := hj12; clear hj12
     refine k_block ?_
     refine k_seq ?_
     refine k_rg mixed H (.v 7 (vI 0) <| .nil) fun u14 a w' H => ?_
     replace H := H.toM [(0, sS p_a0 a0.length c_a0), (1, sS p_a1 a1.length c_a1), (5, sS p_x7 x7.length c_x7), (6, sI x8), (7, sI 0), (57, rdl fr 2 p_a0 c_a0 a0 en_TInterval), (58, rdl fr 1 p_a1 c_a1 a1 en_u16), (59, owK 2 1 p_x7 x7.length c_x7 (x7.flatMap en_i64))]
     refine k_seq ?_
     replace G := bnd G; obtain ⟨j16, hj16, G⟩ := G
     refine k_join (fun a w' => Rep w.heap.size w 57 (ofL [(0, sS p_a0 a0.length c_a0), (1, sS p_a1 a1.length c_a1), (5, sS p_x7 x7.length c_x7), (6, sI x8), (7, sI j16), (57, rdl fr 2 p_a0 c_a0 a0 en_TInterval), (58, rdl fr 1 p_a1 c_a1 a1 en_u16), (59, owK 2 1 p_x7 x7.length c_x7 (x7.flatMap en_i64))]) a w') ?_ ?_
     ·clear H; intro a w' H
      refine k_seq ?_
      replace G := gd G; obtain ⟨b18, G⟩ := G
      replace G := bnd G; obtain ⟨t19, ht19, G⟩ := G
      replace G := bnd G; obtain ⟨t20, ht20, G⟩ := G
      refine k_rg mixed H (.v 24 (.slice p_a0 a0.length c_a0) <|
   .v 25 (vI x8) <|
   .cons [26] (ok_valL [57] (fun u17 => [rdl fr 2 p_a0 c_a0 a0 en_TInterval]) (fun u17 => .pointer (some ⟨hdB p_a0, hdO p_a0 + x8.toNat * 2, none⟩)) (fun u17 => true) [true, true] 26 (fun u17 w hg hF => run_of (by kernel_rfl) (run_ix (t := 24) (p := p_a0) (n := a0.length) (cap := c_a0) (k := .i64) (i := x8) (sz := 2) (by kernel_rfl) (by kernel_rfl) (rdF_of hF.1).2 b18))) <|
   .cons [27] (ok_valL [57] (fun u17 => [rdl fr 2 p_a0 c_a0 a0 en_TInterval]) (fun u17 => .agg #[vI t19.Lo, vI t19.Hi]) (fun u17 => true) [true] 27 (fun u17 w hg hF => ld_of (vs := [vI t19.Lo, vI t19.Hi]) (b := hdB p_a0) (off := hdO p_a0 + x8.toNat * 2 + 0) (m := 2) (by kernel_rfl) (el_cells (rdF_of hF.1).2 en_TInterval_len ht19 0 2 rfl))) <|
   .cons [28] (ok_callv 75 (fun u17 => #[.agg #[vI t19.Lo, vI t19.Hi]]) (.bool t20) 28 [] (fun _ w _ => armillaryref02_IsEntire.calls t19 t20 w ht20)) <| .nil) fun u17 a w' H => ?_
      replace H := H.toM [(0, sS p_a0 a0.length c_a0), (1, sS p_a1 a1.length c_a1), (5, sS p_x7 x7.length c_x7), (6, sI x8), (7, sI j16), (28, sB t20), (57, rdl fr 2 p_a0 c_a0 a0 en_TInterval), (58, rdl fr 1 p_a1 c_a1 a1 en_u16), (59, owK 2 1 p_x7 x7.length c_x7 (x7.flatMap en_i64))]
      refine k_cond H (by kernel_rfl) (t := t20) (by kernel_rfl) (fun c31 => ?_) (fun c31 => ?_)
      ·rw [if_pos c31] at G
       replace G := gd G; obtain ⟨b22, G⟩ := G
       refine k_rg mixed H (.v 29 (.slice p_x7 x7.length c_x7) <|
   .v 30 (vI j16) <|
   .cons [31, 60] (ok_new (fun b => .slice (some ⟨b, 0, none⟩) 1 1) (fun u21 => [vI j16]) 2 31 60) <|
   .cons [32, 59] (ok_rowL [59, 60] (fun u21 => [owK 2 1 p_x7 x7.length c_x7 (x7.flatMap en_i64), .blk ((u21 2).n 0) [vI j16] 2]) 2 1 (x7 ++ [j16]).length ((x7 ++ [j16]).flatMap en_i64) 32 59 (fun u21 => owK 2 1 p_x7 x7.length c_x7 (x7.flatMap en_i64)) (fun u21 w hF => run_app_row (t := 77) (ty := 77) (en := en_i64) en_i64_len inf2 (ow_of hF.1) hF.2.1 (news := [j16]) rfl (by simp) (by kernel_rfl) b22) (fun _ => .inr trivial)) <|
   .cons [5] (ok_val (fun u21 => .slice ((u21 3).o 0) (x7 ++ [j16]).length ((u21 3).n 0)) 5) <| .nil) fun u21 a w' H => ?_
       replace H := H.toM [(0, sS p_a0 a0.length c_a0), (1, sS p_a1 a1.length c_a1), (5, (sS ((u21 3).o 0) (x7 ++ [j16]).length ((u21 3).n 0))), (6, sI x8), (57, rdl fr 2 p_a0 c_a0 a0 en_TInterval), (58, rdl fr 1 p_a1 c_a1 a1 en_u16), (59, owK 2 1 ((u21 3).o 0) (x7 ++ [j16]).length ((u21 3).n 0) ((x7 ++ [j16]).flatMap en_i64))]
       obtain rfl := Option.some.inj G
       exact ⟨((u21 3).o 0), ((u21 3).n 0), _, rfl, H.toL _ (by kernel_rfl)⟩
      ·rw [if_neg (nt c31)] at G
       replace G := gd G; obtain ⟨b24, G⟩ := G
       replace G := bnd G; obtain ⟨t25, ht25, G⟩ := G
       replace G := gd G; obtain ⟨b26, G⟩ := G
       replace G := bnd G; obtain ⟨t27, ht27, G⟩ := G
       replace G := gd G; obtain ⟨b28, G⟩ := G
       replace G := bnd G; obtain ⟨t29, ht29, G⟩ := G
       replace G := gd G; obtain ⟨b30, G⟩ := G
       refine k_rg mixed H (.v 33 (.slice p_x7 x7.length c_x7) <|
   .v 34 (.slice p_a0 a0.length c_a0) <|
   .v 35 (vI x8) <|
   .cons [36] (ok_valL [57] (fun u23 => [rdl fr 2 p_a0 c_a0 a0 en_TInterval]) (fun u23 => .pointer (some ⟨hdB p_a0, hdO p_a0 + x8.toNat * 2, none⟩)) (fun u23 => true) [true, true] 36 (fun u23 w hg hF => run_of (by kernel_rfl) (run_ix (t := 24) (p := p_a0) (n := a0.length) (cap := c_a0) (k := .i64) (i := x8) (sz := 2) (by kernel_rfl) (by kernel_rfl) (rdF_of hF.1).2 b24))) <|
   .v 37 (.pointer (some ⟨hdB p_a0, hdO p_a0 + x8.toNat * 2 + 0, none⟩)) <|
   .cons [38] (ok_valL [57] (fun u23 => [rdl fr 2 p_a0 c_a0 a0 en_TInterval]) (fun u23 => vI t25.Lo) (fun u23 => true) [true] 38 (fun u23 w hg hF => ld_of (vs := [vI t25.Lo]) (b := hdB p_a0) (off := hdO p_a0 + x8.toNat * 2 + 0) (m := 1) (by kernel_rfl) (el_cells (rdF_of hF.1).2 en_TInterval_len ht25 0 1 rfl))) <|
   .v 39 (.slice p_a0 a0.length c_a0) <|
   .v 40 (vI x8) <|
   .cons [41] (ok_valL [57] (fun u23 => [rdl fr 2 p_a0 c_a0 a0 en_TInterval]) (fun u23 => .pointer (some ⟨hdB p_a0, hdO p_a0 + x8.toNat * 2, none⟩)) (fun u23 => true) [true, true] 41 (fun u23 w hg hF => run_of (by kernel_rfl) (run_ix (t := 24) (p := p_a0) (n := a0.length) (cap := c_a0) (k := .i64) (i := x8) (sz := 2) (by kernel_rfl) (by kernel_rfl) (rdF_of hF.1).2 b26))) <|
   .v 42 (.pointer (some ⟨hdB p_a0, hdO p_a0 + x8.toNat * 2 + 1, none⟩)) <|
   .cons [43] (ok_valL [57] (fun u23 => [rdl fr 2 p_a0 c_a0 a0 en_TInterval]) (fun u23 => vI t27.Hi) (fun u23 => true) [true] 43 (fun u23 w hg hF => ld_of (vs := [vI t27.Hi]) (b := hdB p_a0) (off := hdO p_a0 + x8.toNat * 2 + 1) (m := 1) (by kernel_rfl) (el_cells (rdF_of hF.1).2 en_TInterval_len ht27 1 1 rfl))) <|
   .v 44 (.slice p_a0 a0.length c_a0) <|
   .v 45 (vI x8) <|
   .cons [46] (ok_valL [57] (fun u23 => [rdl fr 2 p_a0 c_a0 a0 en_TInterval]) (fun u23 => .pointer (some ⟨hdB p_a0, hdO p_a0 + x8.toNat * 2, none⟩)) (fun u23 => true) [true, true] 46 (fun u23 w hg hF => run_of (by kernel_rfl) (run_ix (t := 24) (p := p_a0) (n := a0.length) (cap := c_a0) (k := .i64) (i := x8) (sz := 2) (by kernel_rfl) (by kernel_rfl) (rdF_of hF.1).2 b28))) <|
   .v 47 (.pointer (some ⟨hdB p_a0, hdO p_a0 + x8.toNat * 2 + 0, none⟩)) <|
   .cons [48] (ok_valL [57] (fun u23 => [rdl fr 2 p_a0 c_a0 a0 en_TInterval]) (fun u23 => vI t29.Lo) (fun u23 => true) [true] 48 (fun u23 w hg hF => ld_of (vs := [vI t29.Lo]) (b := hdB p_a0) (off := hdO p_a0 + x8.toNat * 2 + 0) (m := 1) (by kernel_rfl) (el_cells (rdF_of hF.1).2 en_TInterval_len ht29 0 1 rfl))) <|
   .v 49 (vI (w_i64 (t27.Hi - t29.Lo))) <|
   .v 50 (vI j16) <|
   .v 51 (vI (w_i64 ((w_i64 (t27.Hi - t29.Lo)) * j16))) <|
   .v 52 (vI (w_i64 (Int.tdiv (w_i64 ((w_i64 (t27.Hi - t29.Lo)) * j16)) 65535))) <|
   .v 53 (vI (w_i64 (t25.Lo + (w_i64 (Int.tdiv (w_i64 ((w_i64 (t27.Hi - t29.Lo)) * j16)) 65535))))) <|
   .cons [54, 61] (ok_new (fun b => .slice (some ⟨b, 0, none⟩) 1 1) (fun u23 => [vI (w_i64 (t25.Lo + (w_i64 (Int.tdiv (w_i64 ((w_i64 (t27.Hi - t29.Lo)) * j16)) 65535))))]) 2 54 61) <|
   .cons [55, 59] (ok_rowL [59, 61] (fun u23 => [owK 2 1 p_x7 x7.length c_x7 (x7.flatMap en_i64), .blk ((u23 21).n 0) [vI (w_i64 (t25.Lo + (w_i64 (Int.tdiv (w_i64 ((w_i64 (t27.Hi - t29.Lo)) * j16)) 65535))))] 2]) 2 1 (x7 ++ [w_i64 (t25.Lo + (w_i64 (Int.tdiv (w_i64 ((w_i64 (t27.Hi - t29.Lo)) * j16)) 65535)))]).length ((x7 ++ [w_i64 (t25.Lo + (w_i64 (Int.tdiv (w_i64 ((w_i64 (t27.Hi - t29.Lo)) * j16)) 65535)))]).flatMap en_i64) 55 59 (fun u23 => owK 2 1 p_x7 x7.length c_x7 (x7.flatMap en_i64)) (fun u23 w hF => run_app_row (t := 77) (ty := 77) (en := en_i64) en_i64_len inf2 (ow_of hF.1) hF.2.1 (news := [w_i64 (t25.Lo + (w_i64 (Int.tdiv (w_i64 ((w_i64 (t27.Hi - t29.Lo)) * j16)) 65535)))]) rfl (by simp) (by kernel_rfl) b30) (fun _ => .inr trivial)) <|
   .cons [5] (ok_val (fun u23 => .slice ((u23 22).o 0) (x7 ++ [w_i64 (t25.Lo + (w_i64 (Int.tdiv (w_i64 ((w_i64 (t27.Hi - t29.Lo)) * j16)) 65535)))]).length ((u23 22).n 0)) 5) <| .nil) fun u23 a w' H => ?_
       replace H := H.toM [(0, sS p_a0 a0.length c_a0), (1, sS p_a1 a1.length c_a1), (5, (sS ((u23 22).o 0) (x7 ++ [w_i64 (t25.Lo + (w_i64 (Int.tdiv (w_i64 ((w_i64 (t27.Hi - t29.Lo)) * j16)) 65535)))]).length ((u23 22).n 0))), (6, sI x8), (57, rdl fr 2 p_a0 c_a0 a0 en_TInterval), (58, rdl fr 1 p_a1 c_a1 a1 en_u16), (59, owK 2 1 ((u23 22).o 0) (x7 ++ [w_i64 (t25.Lo + (w_i64 (Int.tdiv (w_i64 ((w_i64 (t27.Hi - t29.Lo)) * j16)) 65535)))]).length ((u23 22).n 0) ((x7 ++ [w_i64 (t25.Lo + (w_i64 (Int.tdiv (w_i64 ((w_i64 (t27.Hi - t29.Lo)) * j16)) 65535)))]).flatMap en_i64))]
       obtain rfl := Option.some.inj G
       exact ⟨((u23 22).o 0), ((u23 22).n 0), _, rfl, H.toL _ (by kernel_rfl)⟩
     ·clear G; replace G := hj16; clear hj16
      refine k_seq ?_
      refine k_rg mixed H (.v 15 (vI x8) <|
   .v 16 (.slice p_a1 a1.length c_a1) <|
   .v 17 (vI (a1.length : Int)) <|
   .v 18 (.bool (decide (x8 < (a1.length : Int)))) <| .nil) fun u32 a w' H => ?_
      replace H := H.toM [(0, sS p_a0 a0.length c_a0), (1, sS p_a1 a1.length c_a1), (5, sS p_x7 x7.length c_x7), (6, sI x8), (7, sI 0), (18, (sB (decide (x8 < (a1.length : Int))))), (57, rdl fr 2 p_a0 c_a0 a0 en_TInterval), (58, rdl fr 1 p_a1 c_a1 a1 en_u16), (59, owK 2 1 p_x7 x7.length c_x7 (x7.flatMap en_i64))]
      refine k_cond H (by kernel_rfl) (t := decide (x8 < (a1.length : Int))) (by kernel_rfl) (fun c36 => ?_) (fun c36 => ?_)
      ·rw [if_pos c36] at G
       replace G := gd G; obtain ⟨b34, G⟩ := G
       replace G := bnd G; obtain ⟨t35, ht35, G⟩ := G
       refine k_rg mixed H (.v 19 (.slice p_a1 a1.length c_a1) <|
   .v 20 (vI x8) <|
   .cons [21] (ok_valL [58] (fun u33 => [rdl fr 1 p_a1 c_a1 a1 en_u16]) (fun u33 => .pointer (some ⟨hdB p_a1, hdO p_a1 + x8.toNat * 1, none⟩)) (fun u33 => true) [true, true] 21 (fun u33 w hg hF => run_of (by kernel_rfl) (run_ix (t := 27) (p := p_a1) (n := a1.length) (cap := c_a1) (k := .i64) (i := x8) (sz := 1) (by kernel_rfl) (by kernel_rfl) (rdF_of hF.1).2 b34))) <|
   .cons [22] (ok_valL [58] (fun u33 => [rdl fr 1 p_a1 c_a1 a1 en_u16]) (fun u33 => .int .u16 t35) (fun u33 => true) [true] 22 (fun u33 w hg hF => ld_of (vs := [.int .u16 t35]) (b := hdB p_a1) (off := hdO p_a1 + x8.toNat * 1 + 0) (m := 1) (by kernel_rfl) (el_cells (rdF_of hF.1).2 en_u16_len ht35 0 1 rfl))) <|
   .v 23 (vI (w_i64 t35)) <|
   .v 7 (vI (w_i64 t35)) <| .nil) fun u33 a w' H => ?_
       replace H := H.toM [(0, sS p_a0 a0.length c_a0), (1, sS p_a1 a1.length c_a1), (5, sS p_x7 x7.length c_x7), (6, sI x8), (7, (sI (w_i64 t35))), (57, rdl fr 2 p_a0 c_a0 a0 en_TInterval), (58, rdl fr 1 p_a1 c_a1 a1 en_u16), (59, owK 2 1 p_x7 x7.length c_x7 (x7.flatMap en_i64))]
       obtain rfl := Option.some.inj G
       exact H.toL _ (by kernel_rfl)
      ·rw [if_neg (nt c36)] at G
       refine k_skip ?_
       obtain rfl := Option.some.inj G
       exact H.toL _ (by kernel_rfl)
   ·rw [if_neg (nt c37)] at G
    refine k_exit rfl ?_
    obtain rfl := Option.some.inj G
    exact ⟨p_x7, c_x7, _, rfl, H.toL _ (by kernel_rfl)⟩

set_option maxHeartbeats 4000000 in
theorem armillarylaw15_pointBox.calls (k0 : Nat) (a0 : List TInterval) (a1 : List Int) (p_a0 : Option Addr) (c_a0 : Nat) (p_a1 : Option Addr) (c_a1 : Nat) (r : List TInterval) (w : World) (R_p_a0 : RowC w 2 p_a0 a0.length c_a0 (a0.flatMap en_TInterval)) (R_p_a1 : RowC w 1 p_a1 a1.length c_a1 (a1.flatMap en_u16)) (G : armillarylaw15_pointBox k0 a0 a1 = some r) :
  Calls Tryd.prog 21 #[.slice p_a0 a0.length c_a0, .slice p_a1 a1.length c_a1] w fun e w' => ∃ p cap, e = .returned (.slice p r.length cap) ∧ Below w.heap.size w w' ∧ w'.ownsRow w.heap.size 38 2 (.slice p r.length cap) r.length (r.flatMap en_TInterval) := by
 obtain ⟨fr, hfr⟩ : ∃ fr : Nat → Prop, ∀ j, fr j := ⟨fun _ => True, fun _ => trivial⟩
 have hB : ∀ j, w.heap.size ≤ j → fr j := fun j _ => hfr j
 have hin_p_a0 : ∀ j, fpRow p_a0 a0.length j → fr j := fun j _ => hfr j
 have hin_p_a1 : ∀ j, fpRow p_a1 a1.length j → fr j := fun j _ => hfr j
 refine k_enterF (args := [.slice p_a0 a0.length c_a0, .slice p_a1 a1.length c_a1]) 9 [(9, rdl fr 2 p_a0 c_a0 a0 en_TInterval), (10, rdl fr 1 p_a1 c_a1 a1 en_u16)] (by
  intro x hx
  simp only [List.mem_cons, List.not_mem_nil, or_false] at hx
  rcases hx with rfl | rfl
  ·exact rdF_fact R_p_a0 hin_p_a0 (by decide) _
  ·exact rdF_fact R_p_a1 hin_p_a1 (by decide) _) Tryd.func21 rfl (by kernel_rfl) (by kernel_rfl) fun a H => ?_
 unfold armillarylaw15_pointBox at G
 refine k_seq ?_
 refine k_rg mixed H (.v 4 (.slice none 0 0) <| .nil) fun u1 a w' H => ?_
 replace H := H.toM [(0, sS p_a0 a0.length c_a0), (1, sS p_a1 a1.length c_a1), (9, rdl fr 2 p_a0 c_a0 a0 en_TInterval), (10, rdl fr 1 p_a1 c_a1 a1 en_u16)]
 refine k_seq ?_
 replace G := bnd G; obtain ⟨t3, ht3, G⟩ := G
 replace G := bnd G; obtain ⟨t4, ht4, G⟩ := G
 refine k_rg mixed H (.v 5 (.slice p_a0 a0.length c_a0) <|
   .v 6 (.slice p_a1 a1.length c_a1) <|
   .cons [7, 11] (ok_callRL [9, 10] (fun u2 => [rdl fr 2 p_a0 c_a0 a0 en_TInterval, rdl fr 1 p_a1 c_a1 a1 en_u16]) 46 (fun u2 => #[.slice p_a0 a0.length c_a0, .slice p_a1 a1.length c_a1]) (fun p cap => .slice p t3.length cap) 2 1 t3.length (t3.flatMap en_i64) 7 11 (fun u2 w hF => armillaryref03_PointIn.calls k0 a0 a1 p_a0 c_a0 p_a1 c_a1 t3 w (rdF_of hF.1) (rdF_of hF.2.1) ht3)) <|
   .cons [8, 12] (ok_callRL [11] (fun u2 => [owK 2 1 ((u2 2).o 0) t3.length ((u2 2).n 0) (t3.flatMap en_i64)]) 45 (fun u2 => #[.slice ((u2 2).o 0) t3.length ((u2 2).n 0)]) (fun p cap => .slice p t4.length cap) 38 2 t4.length (t4.flatMap en_TInterval) 8 12 (fun u2 w hF => armillaryref03_Point.calls k0 t3 ((u2 2).o 0) ((u2 2).n 0) t4 w (owns_rowC (ow_of hF.1)) ht4)) <|
   .cons [4] (ok_val (fun u2 => .slice ((u2 3).o 0) t4.length ((u2 3).n 0)) 4) <| .nil) fun u2 a w' H => ?_
 replace H := H.toM [(4, (sS ((u2 3).o 0) t4.length ((u2 3).n 0))), (12, owK 38 2 ((u2 3).o 0) t4.length ((u2 3).n 0) (t4.flatMap en_TInterval))]
 refine k_ret ?_
 obtain rfl := Option.some.inj G
 exact k_doneR H (fun p cap => .slice p t4.length cap) ((u2 3).o 0) ((u2 3).n 0) [] 12 38 2 t4.length (t4.flatMap en_TInterval) (by kernel_rfl) (by kernel_rfl) (by simp) (by kernel_rfl)

end Go.Proofs.YtkkodieceehkmaaDoor
