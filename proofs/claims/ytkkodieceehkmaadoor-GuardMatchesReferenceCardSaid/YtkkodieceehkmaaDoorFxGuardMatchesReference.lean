/- Functions that the law GuardMatchesReference alone reaches. Printed by a program of this session. -/
import Derived.Test.YtkkodieceehkmaaDoorFn2
set_option linter.unusedVariables false
set_option maxRecDepth 100000
namespace Go.Proofs.YtkkodieceehkmaaDoor
open Go Go.RowKit Go.Sx Go.Proofs
set_option maxHeartbeats 4000000 in
theorem armillaryref02_Valid.calls (a0 : TInterval) (r : Bool) (w : World) (G : armillaryref02_Valid a0 = some r) :
  Calls Tryd.prog 55 #[.agg #[vI a0.Lo, vI a0.Hi]] w fun e w' => e = .returned (.bool r) ∧ Below w.heap.size w w' := by
 refine k_enter (args := [.agg #[vI a0.Lo, vI a0.Hi]]) 22 Tryd.func55 rfl (by kernel_rfl) (by kernel_rfl) fun a H => ?_
 unfold armillaryref02_Valid at G
 refine k_seq ?_
 refine k_rg mixed H (.cons [1, 22] (ok_new (fun b => vP b 0) (fun u1 => [vI a0.Lo, vI a0.Hi]) 38 1 22) <|
   .v 2 (.bool false) <| .nil) fun u1 a w' H => ?_
 replace H := H.toM [(1, (sP ((u1 0).n 0) 0)), (22, .blk ((u1 0).n 0) [vI a0.Lo, vI a0.Hi] 38)]
 refine k_seq ?_
 replace G := bnd G; obtain ⟨t3, ht3, G⟩ := G
 replace G := bnd G; obtain ⟨t4, ht4, G⟩ := G
 replace G := bnd G; obtain ⟨t5, ht5, G⟩ := G
 refine k_rg mixed H (.cons [3] (ok_ld (fun u2 => .agg #[vI a0.Lo, vI a0.Hi]) 3 22 0 2 (fun u2 => ((u1 0).n 0)) (fun u2 => [vI a0.Lo, vI a0.Hi]) 38) <|
   .cons [4] (ok_callv 75 (fun u2 => #[.agg #[vI a0.Lo, vI a0.Hi]]) (.bool t3) 4 [] (fun _ w _ => armillaryref02_IsEntire.calls a0 t3 w ht3)) <|
   .v 5 (.bool t3) <|
   .cons [6] (ok_valg (fun u2 => vP ((u1 0).n 0) 0) (fun u2 => (t3 == false)) [true] 6) <|
   .cons [7] (ok_ldg (fun u2 => vI a0.Lo) (fun u2 => (t3 == false)) [false] 7 22 0 1 (fun u2 => ((u1 0).n 0)) (fun u2 => [vI a0.Lo, vI a0.Hi]) 38) <|
   .cons [8] (ok_call 76 (fun u2 => #[vI a0.Lo]) (.bool t4) (fun u2 => (t3 == false)) [true, false] 8 [] (fun _ w hg _ => armillaryref02_Number.calls a0.Lo t4 w (ifp ht4 hg))) <|
   .cons [9] (ok_valg (fun u2 => .bool t4) (fun u2 => (t3 == false)) [false] 9) <|
   .cons [10] (ok_valg (fun u2 => vP ((u1 0).n 0) 1) (fun u2 => ((t3 == false) && (t4 == true))) [true] 10) <|
   .cons [11] (ok_ldg (fun u2 => vI a0.Hi) (fun u2 => ((t3 == false) && (t4 == true))) [false] 11 22 1 1 (fun u2 => ((u1 0).n 0)) (fun u2 => [vI a0.Lo, vI a0.Hi]) 38) <|
   .cons [12] (ok_call 76 (fun u2 => #[vI a0.Hi]) (.bool t5) (fun u2 => ((t3 == false) && (t4 == true))) [true, false] 12 [] (fun _ w hg _ => armillaryref02_Number.calls a0.Hi t5 w (ifp ht5 hg))) <|
   .cons [13] (ok_and 9 12 (fun u2 => (t3 == false)) (fun u2 => (t3 == false)) (fun u2 => t4) (fun u2 => t5) 13) <|
   .cons [14] (ok_valg (fun u2 => .bool (t4 && t5)) (fun u2 => (t3 == false)) [false] 14) <|
   .cons [15] (ok_valg (fun u2 => vP ((u1 0).n 0) 0) (fun u2 => ((t3 == false) && ((t4 && t5) == true))) [true] 15) <|
   .cons [16] (ok_ldg (fun u2 => vI a0.Lo) (fun u2 => ((t3 == false) && ((t4 && t5) == true))) [false] 16 22 0 1 (fun u2 => ((u1 0).n 0)) (fun u2 => [vI a0.Lo, vI a0.Hi]) 38) <|
   .cons [17] (ok_valg (fun u2 => vP ((u1 0).n 0) 1) (fun u2 => ((t3 == false) && ((t4 && t5) == true))) [true] 17) <|
   .cons [18] (ok_ldg (fun u2 => vI a0.Hi) (fun u2 => ((t3 == false) && ((t4 && t5) == true))) [false] 18 22 1 1 (fun u2 => ((u1 0).n 0)) (fun u2 => [vI a0.Lo, vI a0.Hi]) 38) <|
   .cons [19] (ok_valg (fun u2 => .bool (decide (a0.Lo ≤ a0.Hi))) (fun u2 => ((t3 == false) && ((t4 && t5) == true))) [false, false] 19) <|
   .cons [20] (ok_and 14 19 (fun u2 => (t3 == false)) (fun u2 => (t3 == false)) (fun u2 => (t4 && t5)) (fun u2 => decide (a0.Lo ≤ a0.Hi)) 20) <|
   .cons [21] (ok_or 5 20 (fun u2 => true) (fun u2 => true) (fun u2 => t3) (fun u2 => ((t4 && t5) && (decide (a0.Lo ≤ a0.Hi)))) 21) <|
   .v 2 (.bool (t3 || ((t4 && t5) && (decide (a0.Lo ≤ a0.Hi))))) <| .nil) fun u2 a w' H => ?_
 replace H := H.toM [(2, (sB (t3 || ((t4 && t5) && (decide (a0.Lo ≤ a0.Hi))))))]
 refine k_ret ?_
 obtain rfl := Option.some.inj G
 exact k_done0 H _ (by kernel_rfl) (by kernel_rfl)

set_option maxHeartbeats 4000000 in
theorem armillaryref07_exprLen.calls : ∀ (k0 : Nat) (a0 : List TNode) (p_a0 : Option Addr) (c_a0 : Nat) (r : Int) (w : World) (R_p_a0 : RowC w 4 p_a0 a0.length c_a0 (a0.flatMap en_TNode)) (G : armillaryref07_exprLen k0 a0 = some r),
  Calls Tryd.prog 56 #[.slice p_a0 a0.length c_a0] w fun e w' => e = .returned (vI r) ∧ Below w.heap.size w w' := by
 intro k0
 induction k0 with
 | zero => intros; rename_i G; exact absurd G (by unfold armillaryref07_exprLen; exact fun h => by cases h)
 | succ k0 IH => ?_
 intro a0 p_a0 c_a0 r w R_p_a0 G
 obtain ⟨fr, hfr⟩ : ∃ fr : Nat → Prop, ∀ j, fr j := ⟨fun _ => True, fun _ => trivial⟩
 have hB : ∀ j, w.heap.size ≤ j → fr j := fun j _ => hfr j
 have hin_p_a0 : ∀ j, fpRow p_a0 a0.length j → fr j := fun j _ => hfr j
 refine k_enterF (args := [.slice p_a0 a0.length c_a0]) 36 [(36, rdl fr 4 p_a0 c_a0 a0 en_TNode)] (by
  intro x hx
  simp only [List.mem_cons, List.not_mem_nil, or_false] at hx
  rcases hx with rfl
  exact rdF_fact R_p_a0 hin_p_a0 (by decide) _) Tryd.func56 rfl (by kernel_rfl) (by kernel_rfl) fun a H => ?_
 unfold armillaryref07_exprLen at G
 generalize armillaryref07_exprLen k0 = rec at G IH
 unfold armillaryref07_exprLen.body at G
 refine k_seq ?_
 refine k_rg mixed H (.v 2 (vI 0) <| .nil) fun u1 a w' H => ?_
 replace H := H.toM [(0, sS p_a0 a0.length c_a0), (36, rdl fr 4 p_a0 c_a0 a0 en_TNode)]
 refine k_seq ?_
 refine k_seq ?_
 replace G := gd G; obtain ⟨b3, G⟩ := G
 replace G := bnd G; obtain ⟨t4, ht4, G⟩ := G
 replace G := bnd G; obtain ⟨t5, ht5, G⟩ := G
 refine k_rg mixed H (.v 6 (.slice p_a0 a0.length c_a0) <|
   .v 7 (vI (a0.length : Int)) <|
   .v 8 (.bool ((a0.length : Int) == 0)) <|
   .v 9 (.bool ((a0.length : Int) == 0)) <|
   .cons [10] (ok_valg (fun u2 => .slice p_a0 a0.length c_a0) (fun u2 => (((a0.length : Int) == 0) == false)) [true] 10) <|
   .cons [11] (ok_valL [36] (fun u2 => [rdl fr 4 p_a0 c_a0 a0 en_TNode]) (fun u2 => .pointer (some ⟨hdB p_a0, hdO p_a0 + ((0 : Int).toNat) * 4, none⟩)) (fun u2 => (((a0.length : Int) == 0) == false)) [false, true] 11 (fun u2 w hg hF => run_of (by kernel_rfl) (run_ix (t := 22) (p := p_a0) (n := a0.length) (cap := c_a0) (k := .i64) (i := (0 : Int)) (sz := 4) (by kernel_rfl) (by kernel_rfl) (rdF_of hF.1).2 (b3 hg)))) <|
   .cons [12] (ok_valg (fun u2 => .pointer (some ⟨hdB p_a0, hdO p_a0 + ((0 : Int).toNat) * 4 + 0, none⟩)) (fun u2 => (((a0.length : Int) == 0) == false)) [false] 12) <|
   .cons [13] (ok_valL [36] (fun u2 => [rdl fr 4 p_a0 c_a0 a0 en_TNode]) (fun u2 => vI t4.Op) (fun u2 => (((a0.length : Int) == 0) == false)) [false] 13 (fun u2 w hg hF => ld_of (vs := [vI t4.Op]) (b := hdB p_a0) (off := hdO p_a0 + ((0 : Int).toNat) * 4 + 0) (m := 1) (by kernel_rfl) (el_cells (rdF_of hF.1).2 en_TNode_len (ifp ht4 hg) 0 1 rfl))) <|
   .cons [14] (ok_call 81 (fun u2 => #[vI t4.Op]) (vI t5) (fun u2 => (((a0.length : Int) == 0) == false)) [true, false] 14 [] (fun _ w hg _ => armillaryref07_Arity.calls t4.Op t5 w (ifp ht5 hg))) <|
   .cons [15] (ok_valg (fun u2 => .bool (decide (t5 < 0))) (fun u2 => (((a0.length : Int) == 0) == false)) [false, true] 15) <|
   .cons [16] (ok_or 9 15 (fun u2 => true) (fun u2 => true) (fun u2 => ((a0.length : Int) == 0)) (fun u2 => decide (t5 < 0)) 16) <| .nil) fun u2 a w' H => ?_
 replace H := H.toM [(0, sS p_a0 a0.length c_a0), (16, (sB (((a0.length : Int) == 0) || (decide (t5 < 0))))), (36, rdl fr 4 p_a0 c_a0 a0 en_TNode)]
 refine k_cond H (by kernel_rfl) (t := (((a0.length : Int) == 0) || (decide (t5 < 0)))) (by kernel_rfl) (fun c28 => ?_) (fun c28 => ?_)
 ·rw [if_pos c28] at G
  refine k_seq ?_
  refine k_rg mixed H (.v 2 (vI (-1)) <| .nil) fun u6 a w' H => ?_
  replace H := H.toM [(2, (sI (-1)))]
  refine k_ret ?_
  obtain rfl := Option.some.inj G
  exact k_done0 H _ (by kernel_rfl) (by kernel_rfl)
 ·rw [if_neg (nt c28)] at G
  refine k_skip ?_
  refine k_seq ?_
  refine k_rg mixed H (.v 3 (vI 1) <| .nil) fun u7 a w' H => ?_
  replace H := H.toM [(0, sS p_a0 a0.length c_a0), (3, sI 1), (36, rdl fr 4 p_a0 c_a0 a0 en_TNode)]
  refine k_seq ?_
  replace G := bnd G; obtain ⟨j9, hj9, Gj9⟩ := G
  refine k_join (fun a w' => ∃ j9v, j9 = Sum.inr j9v ∧ Rep w.heap.size w 36 (ofL [(3, sI j9v)]) a w') ?_ ?_
  ·clear H; rintro a w' ⟨j9v, rfl, H⟩; have G := Gj9; clear Gj9; dsimp only at G
   refine k_seq ?_
   refine k_rg mixed H (.v 35 (vI j9v) <|
   .v 2 (vI j9v) <| .nil) fun u10 a w' H => ?_
   replace H := H.toM [(2, sI j9v)]
   refine k_ret ?_
   obtain rfl := Option.some.inj G
   exact k_done0 H _ (by kernel_rfl) (by kernel_rfl)
  ·have G := hj9; clear hj9
   refine k_seq ?_
   refine k_rg mixed H (.v 4 (vI 0) <| .nil) fun u11 a w' H => ?_
   replace H := H.toM [(0, sS p_a0 a0.length c_a0), (3, sI 1), (4, sI 0), (36, rdl fr 4 p_a0 c_a0 a0 en_TNode)]
   refine k_block ?_
   refine k_loopJ (fun m a w' => ∃ x12 : Int, ∃ x13 : Int, armillaryref07_exprLen.l14 k0 rec a0 t4 t5 m x12 x13 = some j9 ∧ Rep w.heap.size w 36 (ofL [(0, sS p_a0 a0.length c_a0), (3, sI x12), (4, sI x13), (36, rdl fr 4 p_a0 c_a0 a0 en_TNode)]) a w') k0 ⟨_, _, G, H.toL _ (by kernel_rfl)⟩ ?_
   clear G H
   rintro (_ | k) a w' ⟨x12, x13, G, H⟩
   ·exact absurd G (by unfold armillaryref07_exprLen.l14; exact fun h => by cases h)
   ·unfold armillaryref07_exprLen.l14 at G
    refine k_seq ?_
    refine k_seq ?_
    replace G := gd G; obtain ⟨b16, G⟩ := G
    replace G := bnd G; obtain ⟨t17, ht17, G⟩ := G
    replace G := bnd G; obtain ⟨t18, ht18, G⟩ := G
    refine k_rg mixed H (.v 17 (vI x13) <|
   .v 18 (.slice p_a0 a0.length c_a0) <|
   .cons [19] (ok_valL [36] (fun u15 => [rdl fr 4 p_a0 c_a0 a0 en_TNode]) (fun u15 => .pointer (some ⟨hdB p_a0, hdO p_a0 + ((0 : Int).toNat) * 4, none⟩)) (fun u15 => true) [true, true] 19 (fun u15 w hg hF => run_of (by kernel_rfl) (run_ix (t := 22) (p := p_a0) (n := a0.length) (cap := c_a0) (k := .i64) (i := (0 : Int)) (sz := 4) (by kernel_rfl) (by kernel_rfl) (rdF_of hF.1).2 b16))) <|
   .v 20 (.pointer (some ⟨hdB p_a0, hdO p_a0 + ((0 : Int).toNat) * 4 + 0, none⟩)) <|
   .cons [21] (ok_valL [36] (fun u15 => [rdl fr 4 p_a0 c_a0 a0 en_TNode]) (fun u15 => vI t17.Op) (fun u15 => true) [true] 21 (fun u15 w hg hF => ld_of (vs := [vI t17.Op]) (b := hdB p_a0) (off := hdO p_a0 + ((0 : Int).toNat) * 4 + 0) (m := 1) (by kernel_rfl) (el_cells (rdF_of hF.1).2 en_TNode_len ht17 0 1 rfl))) <|
   .cons [22] (ok_callv 81 (fun u15 => #[vI t17.Op]) (vI t18) 22 [] (fun _ w _ => armillaryref07_Arity.calls t17.Op t18 w ht18)) <|
   .v 23 (.bool (decide (x13 < t18))) <| .nil) fun u15 a w' H => ?_
    replace H := H.toM [(0, sS p_a0 a0.length c_a0), (3, sI x12), (4, sI x13), (23, (sB (decide (x13 < t18)))), (36, rdl fr 4 p_a0 c_a0 a0 en_TNode)]
    refine k_cond H (by kernel_rfl) (t := decide (x13 < t18)) (by kernel_rfl) (fun c27 => ?_) (fun c27 => ?_)
    ·rw [if_pos c27] at G
     refine k_skip ?_
     refine k_seq ?_
     refine k_block ?_
     refine k_seq ?_
     replace G := gd G; obtain ⟨b20, G⟩ := G
     replace G := bnd G; obtain ⟨t21, ht21, G⟩ := G
     refine k_rg mixed H (.v 26 (.slice p_a0 a0.length c_a0) <|
   .v 27 (vI x12) <|
   .cons [28] (ok_val (fun u19 => .slice (viewP p_a0 x12.toNat 4 c_a0) (a0.drop x12.toNat).length (c_a0 - x12.toNat)) 28 (hv := fun _ _ => run_of (by kernel_rfl) (run_low (t := 22) (sz := 4) (l := a0) (k := .i64) rfl b20))) <|
   .cons [29] (ok_callL [36] (fun u19 => [rdl fr 4 p_a0 c_a0 a0 en_TNode]) 56 (fun u19 => #[.slice (viewP p_a0 x12.toNat 4 c_a0) (a0.drop x12.toNat).length (c_a0 - x12.toNat)]) (vI t21) 29 (fun u19 w hF => IH (a0.drop x12.toNat) (viewP p_a0 x12.toNat 4 c_a0) (c_a0 - x12.toNat) t21 w (RowC.low (en := en_TNode) (rdF_of hF.1) en_TNode_len b20) ht21)) <|
   .v 5 (vI t21) <| .nil) fun u19 a w' H => ?_
     replace H := H.toM [(0, sS p_a0 a0.length c_a0), (3, sI x12), (4, sI x13), (5, sI t21), (36, rdl fr 4 p_a0 c_a0 a0 en_TNode)]
     refine k_seq ?_
     refine k_seq ?_
     refine k_rg mixed H (.v 30 (vI t21) <|
   .v 31 (.bool (decide (t21 < 0))) <| .nil) fun u22 a w' H => ?_
     replace H := H.toM [(0, sS p_a0 a0.length c_a0), (3, sI x12), (4, sI x13), (5, sI t21), (31, (sB (decide (t21 < 0)))), (36, rdl fr 4 p_a0 c_a0 a0 en_TNode)]
     refine k_cond H (by kernel_rfl) (t := decide (t21 < 0)) (by kernel_rfl) (fun c26 => ?_) (fun c26 => ?_)
     ·rw [if_pos c26] at G
      refine k_seq ?_
      refine k_rg mixed H (.v 2 (vI (-1)) <| .nil) fun u23 a w' H => ?_
      replace H := H.toM [(2, (sI (-1)))]
      refine k_ret ?_
      obtain rfl := Option.some.inj G
      replace G := Gj9
      obtain rfl := Option.some.inj G
      exact k_done0 H _ (by kernel_rfl) (by kernel_rfl)
     ·rw [if_neg (nt c26)] at G
      refine k_skip ?_
      refine k_rg mixed H (.v 32 (vI x12) <|
   .v 33 (vI t21) <|
   .v 34 (vI (w_i64 (x12 + t21))) <|
   .v 3 (vI (w_i64 (x12 + t21))) <| .nil) fun u24 a w' H => ?_
      replace H := H.toM [(0, sS p_a0 a0.length c_a0), (3, (sI (w_i64 (x12 + t21)))), (4, sI x13), (36, rdl fr 4 p_a0 c_a0 a0 en_TNode)]
      refine k_rg mixed H (.v 24 (vI x13) <|
   .v 25 (vI (w_i64 (x13 + 1))) <|
   .v 4 (vI (w_i64 (x13 + 1))) <| .nil) fun u25 a w' H => ?_
      replace H := H.toM [(0, sS p_a0 a0.length c_a0), (3, (sI (w_i64 (x12 + t21)))), (4, (sI (w_i64 (x13 + 1)))), (36, rdl fr 4 p_a0 c_a0 a0 en_TNode)]
      exact ⟨k, Nat.lt_succ_self k, _, _, G, H.toL _ (by kernel_rfl)⟩
    ·rw [if_neg (nt c27)] at G
     refine k_exit rfl ?_
     obtain rfl := Option.some.inj G
     exact ⟨_, rfl, H.toL _ (by kernel_rfl)⟩

set_option maxHeartbeats 4000000 in
theorem armillaryref07_ValidExpr.calls (k0 : Nat) (a0 : List TNode) (a1 : Int) (p_a0 : Option Addr) (c_a0 : Nat) (r : Bool) (w : World) (R_p_a0 : RowC w 4 p_a0 a0.length c_a0 (a0.flatMap en_TNode)) (G : armillaryref07_ValidExpr k0 a0 a1 = some r) :
  Calls Tryd.prog 32 #[.slice p_a0 a0.length c_a0, vI a1] w fun e w' => e = .returned (.bool r) ∧ Below w.heap.size w w' := by
 obtain ⟨fr, hfr⟩ : ∃ fr : Nat → Prop, ∀ j, fr j := ⟨fun _ => True, fun _ => trivial⟩
 have hB : ∀ j, w.heap.size ≤ j → fr j := fun j _ => hfr j
 have hin_p_a0 : ∀ j, fpRow p_a0 a0.length j → fr j := fun j _ => hfr j
 refine k_enterF (args := [.slice p_a0 a0.length c_a0, vI a1]) 79 [(79, rdl fr 4 p_a0 c_a0 a0 en_TNode)] (by
  intro x hx
  simp only [List.mem_cons, List.not_mem_nil, or_false] at hx
  rcases hx with rfl
  exact rdF_fact R_p_a0 hin_p_a0 (by decide) _) Tryd.func32 rfl (by kernel_rfl) (by kernel_rfl) fun a H => ?_
 unfold armillaryref07_ValidExpr at G
 refine k_seq ?_
 refine k_rg mixed H (.v 4 (.bool false) <| .nil) fun u1 a w' H => ?_
 replace H := H.toM [(0, sS p_a0 a0.length c_a0), (1, sI a1), (79, rdl fr 4 p_a0 c_a0 a0 en_TNode)]
 refine k_seq ?_
 refine k_seq ?_
 refine k_rg mixed H (.v 7 (.slice p_a0 a0.length c_a0) <|
   .v 8 (vI (a0.length : Int)) <|
   .v 9 (.bool ((a0.length : Int) == 0)) <|
   .v 10 (.bool ((a0.length : Int) == 0)) <|
   .cons [11] (ok_valg (fun u2 => .slice p_a0 a0.length c_a0) (fun u2 => (((a0.length : Int) == 0) == false)) [true] 11) <|
   .cons [12] (ok_valg (fun u2 => vI (a0.length : Int)) (fun u2 => (((a0.length : Int) == 0) == false)) [false] 12) <|
   .cons [13] (ok_valg (fun u2 => .bool (decide ((a0.length : Int) > 200))) (fun u2 => (((a0.length : Int) == 0) == false)) [false, true] 13) <|
   .cons [14] (ok_or 10 13 (fun u2 => true) (fun u2 => true) (fun u2 => ((a0.length : Int) == 0)) (fun u2 => decide ((a0.length : Int) > 200)) 14) <| .nil) fun u2 a w' H => ?_
 replace H := H.toM [(0, sS p_a0 a0.length c_a0), (1, sI a1), (14, (sB (((a0.length : Int) == 0) || (decide ((a0.length : Int) > 200))))), (79, rdl fr 4 p_a0 c_a0 a0 en_TNode)]
 refine k_cond H (by kernel_rfl) (t := (((a0.length : Int) == 0) || (decide ((a0.length : Int) > 200)))) (by kernel_rfl) (fun c23 => ?_) (fun c23 => ?_)
 ·rw [if_pos c23] at G
  refine k_seq ?_
  refine k_rg mixed H (.v 4 (.bool false) <| .nil) fun u3 a w' H => ?_
  replace H := H.toM [(4, sB false)]
  refine k_ret ?_
  obtain rfl := Option.some.inj G
  exact k_done0 H _ (by kernel_rfl) (by kernel_rfl)
 ·rw [if_neg (nt c23)] at G
  refine k_skip ?_
  refine k_seq ?_
  replace G := bnd G; obtain ⟨j4, hj4, Gj4⟩ := G
  refine k_join (fun a w' => ∃ j4v, j4 = Sum.inr j4v ∧ Rep w.heap.size w 79 (ofL [(0, sS p_a0 a0.length c_a0), (79, rdl fr 4 p_a0 c_a0 a0 en_TNode)]) a w') ?_ ?_
  ·clear H; rintro a w' ⟨j4v, rfl, H⟩; have G := Gj4; clear Gj4; dsimp only at G
   refine k_seq ?_
   replace G := bnd G; obtain ⟨t6, ht6, G⟩ := G
   refine k_rg mixed H (.v 74 (.slice p_a0 a0.length c_a0) <|
   .cons [75] (ok_callL [79] (fun u5 => [rdl fr 4 p_a0 c_a0 a0 en_TNode]) 56 (fun u5 => #[.slice p_a0 a0.length c_a0]) (vI t6) 75 (fun u5 w hF => armillaryref07_exprLen.calls k0 a0 p_a0 c_a0 t6 w (rdF_of hF.1) ht6)) <|
   .v 76 (.slice p_a0 a0.length c_a0) <|
   .v 77 (vI (a0.length : Int)) <|
   .v 78 (.bool (t6 == (a0.length : Int))) <|
   .v 4 (.bool (t6 == (a0.length : Int))) <| .nil) fun u5 a w' H => ?_
   replace H := H.toM [(4, (sB (t6 == (a0.length : Int))))]
   refine k_ret ?_
   obtain rfl := Option.some.inj G
   exact k_done0 H _ (by kernel_rfl) (by kernel_rfl)
  ·have G := hj4; clear hj4
   refine k_seq ?_
   refine k_rg mixed H (.v 5 (vI 0) <| .nil) fun u7 a w' H => ?_
   replace H := H.toM [(0, sS p_a0 a0.length c_a0), (1, sI a1), (5, sI 0), (79, rdl fr 4 p_a0 c_a0 a0 en_TNode)]
   refine k_block ?_
   refine k_loopJ (fun m a w' => ∃ x8 : Int, armillaryref07_ValidExpr.l9 k0 a0 a1 m x8 = some j4 ∧ Rep w.heap.size w 79 (ofL [(0, sS p_a0 a0.length c_a0), (1, sI a1), (5, sI x8), (79, rdl fr 4 p_a0 c_a0 a0 en_TNode)]) a w') k0 ⟨_, G, H.toL _ (by kernel_rfl)⟩ ?_
   clear G H
   rintro (_ | k) a w' ⟨x8, G, H⟩
   ·exact absurd G (by unfold armillaryref07_ValidExpr.l9; exact fun h => by cases h)
   ·unfold armillaryref07_ValidExpr.l9 at G
    refine k_seq ?_
    refine k_seq ?_
    refine k_rg mixed H (.v 15 (vI x8) <|
   .v 16 (.slice p_a0 a0.length c_a0) <|
   .v 17 (vI (a0.length : Int)) <|
   .v 18 (.bool (decide (x8 < (a0.length : Int)))) <| .nil) fun u10 a w' H => ?_
    replace H := H.toM [(0, sS p_a0 a0.length c_a0), (1, sI a1), (5, sI x8), (18, (sB (decide (x8 < (a0.length : Int))))), (79, rdl fr 4 p_a0 c_a0 a0 en_TNode)]
    refine k_cond H (by kernel_rfl) (t := decide (x8 < (a0.length : Int))) (by kernel_rfl) (fun c22 => ?_) (fun c22 => ?_)
    ·rw [if_pos c22] at G
     refine k_skip ?_
     refine k_seq ?_
     refine k_block ?_
     refine k_seq ?_
     replace G := gd G; obtain ⟨b12, G⟩ := G
     replace G := bnd G; obtain ⟨t13, ht13, G⟩ := G
     refine k_rg mixed H (.v 21 (.slice p_a0 a0.length c_a0) <|
   .v 22 (vI x8) <|
   .cons [23] (ok_valL [79] (fun u11 => [rdl fr 4 p_a0 c_a0 a0 en_TNode]) (fun u11 => .pointer (some ⟨hdB p_a0, hdO p_a0 + x8.toNat * 4, none⟩)) (fun u11 => true) [true, true] 23 (fun u11 w hg hF => run_of (by kernel_rfl) (run_ix (t := 22) (p := p_a0) (n := a0.length) (cap := c_a0) (k := .i64) (i := x8) (sz := 4) (by kernel_rfl) (by kernel_rfl) (rdF_of hF.1).2 b12))) <|
   .cons [24] (ok_valL [79] (fun u11 => [rdl fr 4 p_a0 c_a0 a0 en_TNode]) (fun u11 => .agg #[vI t13.Op, vI t13.N, vI t13.C.Lo, vI t13.C.Hi]) (fun u11 => true) [true] 24 (fun u11 w hg hF => ld_of (vs := [vI t13.Op, vI t13.N, vI t13.C.Lo, vI t13.C.Hi]) (b := hdB p_a0) (off := hdO p_a0 + x8.toNat * 4 + 0) (m := 4) (by kernel_rfl) (el_cells (rdF_of hF.1).2 en_TNode_len ht13 0 4 rfl))) <|
   .cons [6, 80] (ok_new (fun b => vP b 0) (fun u11 => [vI 0, vI 0, vI 0, vI 0]) 53 6 80) <|
   .cons [80] (ok_as (u' := fun u11 => [(80, .blk ((u11 4).n 0) [vI t13.Op, vI t13.N, vI t13.C.Lo, vI t13.C.Hi] 53)]) (ok_store 80 0 (fun u11 => ((u11 4).n 0)) (fun u11 => [vI 0, vI 0, vI 0, vI 0]) (fun u11 => [vI t13.Op, vI t13.N, vI t13.C.Lo, vI t13.C.Hi]) 53) (fun _ => by kernel_rfl)) <| .nil) fun u11 a w' H => ?_
     replace H := H.toM [(0, sS p_a0 a0.length c_a0), (1, sI a1), (5, sI x8), (6, (sP ((u11 4).n 0) 0)), (80, .blk ((u11 4).n 0) [vI t13.Op, vI t13.N, vI t13.C.Lo, vI t13.C.Hi] 53), (79, rdl fr 4 p_a0 c_a0 a0 en_TNode)]
     refine k_seq ?_
     refine k_seq ?_
     replace G := bnd G; obtain ⟨t15, ht15, G⟩ := G
     refine k_rg mixed H (.v 25 (vP ((u11 4).n 0) 0) <|
   .cons [26] (ok_ld (fun u14 => vI t13.Op) 26 80 0 1 (fun u14 => ((u11 4).n 0)) (fun u14 => [vI t13.Op, vI t13.N, vI t13.C.Lo, vI t13.C.Hi]) 53) <|
   .v 27 (.bool (t13.Op == 1)) <|
   .v 28 (.bool (t13.Op == 1)) <|
   .cons [29] (ok_valg (fun u14 => vP ((u11 4).n 0) 1) (fun u14 => ((t13.Op == 1) == true)) [true] 29) <|
   .cons [30] (ok_ldg (fun u14 => vI t13.N) (fun u14 => ((t13.Op == 1) == true)) [false] 30 80 1 1 (fun u14 => ((u11 4).n 0)) (fun u14 => [vI t13.Op, vI t13.N, vI t13.C.Lo, vI t13.C.Hi]) 53) <|
   .cons [31] (ok_valg (fun u14 => .bool (t13.N != 0)) (fun u14 => ((t13.Op == 1) == true)) [false, true] 31) <|
   .cons [32] (ok_valg (fun u14 => .bool (t13.N != 0)) (fun u14 => ((t13.Op == 1) == true)) [false] 32) <|
   .cons [33] (ok_valg (fun u14 => vP ((u11 4).n 0) 2) (fun u14 => (((t13.Op == 1) == true) && ((t13.N != 0) == false))) [true] 33) <|
   .cons [34] (ok_ldg (fun u14 => .agg #[vI t13.C.Lo, vI t13.C.Hi]) (fun u14 => (((t13.Op == 1) == true) && ((t13.N != 0) == false))) [false] 34 80 2 2 (fun u14 => ((u11 4).n 0)) (fun u14 => [vI t13.Op, vI t13.N, vI t13.C.Lo, vI t13.C.Hi]) 53) <|
   .cons [35] (ok_call 55 (fun u14 => #[.agg #[vI t13.C.Lo, vI t13.C.Hi]]) (.bool t15) (fun u14 => (((t13.Op == 1) == true) && ((t13.N != 0) == false))) [true, false] 35 [] (fun _ w hg _ => armillaryref02_Valid.calls (⟨t13.C.Lo, t13.C.Hi⟩ : TInterval) t15 w (ifp ht15 hg))) <|
   .cons [36] (ok_valg (fun u14 => .bool (!t15)) (fun u14 => (((t13.Op == 1) == true) && ((t13.N != 0) == false))) [false] 36) <|
   .cons [37] (ok_or 32 36 (fun u14 => ((t13.Op == 1) == true)) (fun u14 => ((t13.Op == 1) == true)) (fun u14 => (t13.N != 0)) (fun u14 => (!t15)) 37) <|
   .cons [38] (ok_and 28 37 (fun u14 => true) (fun u14 => true) (fun u14 => (t13.Op == 1)) (fun u14 => ((t13.N != 0) || (!t15))) 38) <|
   .v 39 (.bool ((t13.Op == 1) && ((t13.N != 0) || (!t15)))) <|
   .cons [40] (ok_valg (fun u14 => vP ((u11 4).n 0) 0) (fun u14 => (((t13.Op == 1) && ((t13.N != 0) || (!t15))) == false)) [true] 40) <|
   .cons [41] (ok_ldg (fun u14 => vI t13.Op) (fun u14 => (((t13.Op == 1) && ((t13.N != 0) || (!t15))) == false)) [false] 41 80 0 1 (fun u14 => ((u11 4).n 0)) (fun u14 => [vI t13.Op, vI t13.N, vI t13.C.Lo, vI t13.C.Hi]) 53) <|
   .cons [42] (ok_valg (fun u14 => .bool (t13.Op != 1)) (fun u14 => (((t13.Op == 1) && ((t13.N != 0) || (!t15))) == false)) [false, true] 42) <|
   .cons [43] (ok_valg (fun u14 => .bool (t13.Op != 1)) (fun u14 => (((t13.Op == 1) && ((t13.N != 0) || (!t15))) == false)) [false] 43) <|
   .cons [44] (ok_valg (fun u14 => vP ((u11 4).n 0) 2) (fun u14 => ((((t13.Op == 1) && ((t13.N != 0) || (!t15))) == false) && ((t13.Op != 1) == true))) [true] 44) <|
   .cons [45] (ok_ldg (fun u14 => .agg #[vI t13.C.Lo, vI t13.C.Hi]) (fun u14 => ((((t13.Op == 1) && ((t13.N != 0) || (!t15))) == false) && ((t13.Op != 1) == true))) [false] 45 80 2 2 (fun u14 => ((u11 4).n 0)) (fun u14 => [vI t13.Op, vI t13.N, vI t13.C.Lo, vI t13.C.Hi]) 53) <|
   .cons [46] (ok_valg (fun u14 => .agg #[vI 0, vI 0]) (fun u14 => ((((t13.Op == 1) && ((t13.N != 0) || (!t15))) == false) && ((t13.Op != 1) == true))) [] 46) <|
   .cons [47] (ok_valg (fun u14 => .bool (!((t13.C.Lo == 0) && ((t13.C.Hi == 0) && true)))) (fun u14 => ((((t13.Op == 1) && ((t13.N != 0) || (!t15))) == false) && ((t13.Op != 1) == true))) [false, false] 47 (hv := fun _ _ => run_of (by kernel_rfl) (run_neq_agg (t := 38) (x := (.tmp 45)) (y := (.tmp 46)) (xs := #[vI t13.C.Lo, vI t13.C.Hi]) (ys := #[vI 0, vI 0]) (b := ((t13.C.Lo == 0) && ((t13.C.Hi == 0) && true))) (by kernel_rfl) (by kernel_rfl)))) <|
   .cons [48] (ok_and 43 47 (fun u14 => (((t13.Op == 1) && ((t13.N != 0) || (!t15))) == false)) (fun u14 => (((t13.Op == 1) && ((t13.N != 0) || (!t15))) == false)) (fun u14 => (t13.Op != 1)) (fun u14 => (!((t13.C.Lo == 0) && ((t13.C.Hi == 0) && true)))) 48) <|
   .cons [49] (ok_or 39 48 (fun u14 => true) (fun u14 => true) (fun u14 => ((t13.Op == 1) && ((t13.N != 0) || (!t15)))) (fun u14 => ((t13.Op != 1) && (!((t13.C.Lo == 0) && ((t13.C.Hi == 0) && true))))) 49) <| .nil) fun u14 a w' H => ?_
     replace H := H.toM [(0, sS p_a0 a0.length c_a0), (1, sI a1), (5, sI x8), (6, (sP ((u11 4).n 0) 0)), (29, .slot ((t13.Op == 1) == true) (vP ((u11 4).n 0) 1)), (30, .slot ((t13.Op == 1) == true) (vI t13.N)), (31, .slot ((t13.Op == 1) == true) (.bool (t13.N != 0))), (32, .slot ((t13.Op == 1) == true) (.bool (t13.N != 0))), (33, .slot (((t13.Op == 1) == true) && ((t13.N != 0) == false)) (vP ((u11 4).n 0) 2)), (34, .slot (((t13.Op == 1) == true) && ((t13.N != 0) == false)) (.agg #[vI t13.C.Lo, vI t13.C.Hi])), (35, .slot (((t13.Op == 1) == true) && ((t13.N != 0) == false)) (.bool t15)), (36, .slot (((t13.Op == 1) == true) && ((t13.N != 0) == false)) (.bool (!t15))), (37, .slot ((t13.Op == 1) == true) (.bool ((t13.N != 0) || (!t15)))), (40, .slot (((t13.Op == 1) && ((t13.N != 0) || (!t15))) == false) (vP ((u11 4).n 0) 0)), (41, .slot (((t13.Op == 1) && ((t13.N != 0) || (!t15))) == false) (vI t13.Op)), (42, .slot (((t13.Op == 1) && ((t13.N != 0) || (!t15))) == false) (.bool (t13.Op != 1))), (43, .slot (((t13.Op == 1) && ((t13.N != 0) || (!t15))) == false) (.bool (t13.Op != 1))), (44, .slot ((((t13.Op == 1) && ((t13.N != 0) || (!t15))) == false) && ((t13.Op != 1) == true)) (vP ((u11 4).n 0) 2)), (45, .slot ((((t13.Op == 1) && ((t13.N != 0) || (!t15))) == false) && ((t13.Op != 1) == true)) (.agg #[vI t13.C.Lo, vI t13.C.Hi])), (46, .slot ((((t13.Op == 1) && ((t13.N != 0) || (!t15))) == false) && ((t13.Op != 1) == true)) (.agg #[vI 0, vI 0])), (47, .slot ((((t13.Op == 1) && ((t13.N != 0) || (!t15))) == false) && ((t13.Op != 1) == true)) (.bool (!((t13.C.Lo == 0) && ((t13.C.Hi == 0) && true))))), (48, .slot (((t13.Op == 1) && ((t13.N != 0) || (!t15))) == false) (.bool ((t13.Op != 1) && (!((t13.C.Lo == 0) && ((t13.C.Hi == 0) && true)))))), (49, (sB (((t13.Op == 1) && ((t13.N != 0) || (!t15))) || ((t13.Op != 1) && (!((t13.C.Lo == 0) && ((t13.C.Hi == 0) && true))))))), (80, .blk ((u11 4).n 0) [vI t13.Op, vI t13.N, vI t13.C.Lo, vI t13.C.Hi] 53), (79, rdl fr 4 p_a0 c_a0 a0 en_TNode)]
     refine k_cond H (by kernel_rfl) (t := (((t13.Op == 1) && ((t13.N != 0) || (!t15))) || ((t13.Op != 1) && (!((t13.C.Lo == 0) && ((t13.C.Hi == 0) && true)))))) (by kernel_rfl) (fun c21 => ?_) (fun c21 => ?_)
     ·rw [if_pos c21] at G
      refine k_seq ?_
      refine k_rg mixed H (.v 4 (.bool false) <| .nil) fun u16 a w' H => ?_
      replace H := H.toM [(4, sB false)]
      refine k_ret ?_
      obtain rfl := Option.some.inj G
      replace G := Gj4
      obtain rfl := Option.some.inj G
      exact k_done0 H _ (by kernel_rfl) (by kernel_rfl)
     ·rw [if_neg (nt c21)] at G
      refine k_skip ?_
      refine k_seq ?_
      refine k_rg mixed H (.v 50 (vP ((u11 4).n 0) 0) <|
   .cons [51] (ok_ld (fun u17 => vI t13.Op) 51 80 0 1 (fun u17 => ((u11 4).n 0)) (fun u17 => [vI t13.Op, vI t13.N, vI t13.C.Lo, vI t13.C.Hi]) 53) <|
   .v 52 (.bool (t13.Op == 2)) <|
   .v 53 (.bool (t13.Op == 2)) <|
   .cons [54] (ok_valg (fun u17 => vP ((u11 4).n 0) 1) (fun u17 => ((t13.Op == 2) == true)) [true] 54) <|
   .cons [55] (ok_ldg (fun u17 => vI t13.N) (fun u17 => ((t13.Op == 2) == true)) [false] 55 80 1 1 (fun u17 => ((u11 4).n 0)) (fun u17 => [vI t13.Op, vI t13.N, vI t13.C.Lo, vI t13.C.Hi]) 53) <|
   .cons [56] (ok_valg (fun u17 => .bool (decide (t13.N < 0))) (fun u17 => ((t13.Op == 2) == true)) [false, true] 56) <|
   .cons [57] (ok_valg (fun u17 => .bool (decide (t13.N < 0))) (fun u17 => ((t13.Op == 2) == true)) [false] 57) <|
   .cons [58] (ok_valg (fun u17 => vP ((u11 4).n 0) 1) (fun u17 => (((t13.Op == 2) == true) && ((decide (t13.N < 0)) == false))) [true] 58) <|
   .cons [59] (ok_ldg (fun u17 => vI t13.N) (fun u17 => (((t13.Op == 2) == true) && ((decide (t13.N < 0)) == false))) [false] 59 80 1 1 (fun u17 => ((u11 4).n 0)) (fun u17 => [vI t13.Op, vI t13.N, vI t13.C.Lo, vI t13.C.Hi]) 53) <|
   .cons [60] (ok_valg (fun u17 => vI a1) (fun u17 => (((t13.Op == 2) == true) && ((decide (t13.N < 0)) == false))) [true] 60) <|
   .cons [61] (ok_valg (fun u17 => .bool (decide (t13.N ≥ a1))) (fun u17 => (((t13.Op == 2) == true) && ((decide (t13.N < 0)) == false))) [false, false] 61) <|
   .cons [62] (ok_or 57 61 (fun u17 => ((t13.Op == 2) == true)) (fun u17 => ((t13.Op == 2) == true)) (fun u17 => decide (t13.N < 0)) (fun u17 => decide (t13.N ≥ a1)) 62) <|
   .cons [63] (ok_and 53 62 (fun u17 => true) (fun u17 => true) (fun u17 => (t13.Op == 2)) (fun u17 => ((decide (t13.N < 0)) || (decide (t13.N ≥ a1)))) 63) <|
   .v 64 (.bool ((t13.Op == 2) && ((decide (t13.N < 0)) || (decide (t13.N ≥ a1))))) <|
   .cons [65] (ok_valg (fun u17 => vP ((u11 4).n 0) 0) (fun u17 => (((t13.Op == 2) && ((decide (t13.N < 0)) || (decide (t13.N ≥ a1)))) == false)) [true] 65) <|
   .cons [66] (ok_ldg (fun u17 => vI t13.Op) (fun u17 => (((t13.Op == 2) && ((decide (t13.N < 0)) || (decide (t13.N ≥ a1)))) == false)) [false] 66 80 0 1 (fun u17 => ((u11 4).n 0)) (fun u17 => [vI t13.Op, vI t13.N, vI t13.C.Lo, vI t13.C.Hi]) 53) <|
   .cons [67] (ok_valg (fun u17 => .bool (t13.Op != 2)) (fun u17 => (((t13.Op == 2) && ((decide (t13.N < 0)) || (decide (t13.N ≥ a1)))) == false)) [false, true] 67) <|
   .cons [68] (ok_valg (fun u17 => .bool (t13.Op != 2)) (fun u17 => (((t13.Op == 2) && ((decide (t13.N < 0)) || (decide (t13.N ≥ a1)))) == false)) [false] 68) <|
   .cons [69] (ok_valg (fun u17 => vP ((u11 4).n 0) 1) (fun u17 => ((((t13.Op == 2) && ((decide (t13.N < 0)) || (decide (t13.N ≥ a1)))) == false) && ((t13.Op != 2) == true))) [true] 69) <|
   .cons [70] (ok_ldg (fun u17 => vI t13.N) (fun u17 => ((((t13.Op == 2) && ((decide (t13.N < 0)) || (decide (t13.N ≥ a1)))) == false) && ((t13.Op != 2) == true))) [false] 70 80 1 1 (fun u17 => ((u11 4).n 0)) (fun u17 => [vI t13.Op, vI t13.N, vI t13.C.Lo, vI t13.C.Hi]) 53) <|
   .cons [71] (ok_valg (fun u17 => .bool (t13.N != 0)) (fun u17 => ((((t13.Op == 2) && ((decide (t13.N < 0)) || (decide (t13.N ≥ a1)))) == false) && ((t13.Op != 2) == true))) [false, true] 71) <|
   .cons [72] (ok_and 68 71 (fun u17 => (((t13.Op == 2) && ((decide (t13.N < 0)) || (decide (t13.N ≥ a1)))) == false)) (fun u17 => (((t13.Op == 2) && ((decide (t13.N < 0)) || (decide (t13.N ≥ a1)))) == false)) (fun u17 => (t13.Op != 2)) (fun u17 => (t13.N != 0)) 72) <|
   .cons [73] (ok_or 64 72 (fun u17 => true) (fun u17 => true) (fun u17 => ((t13.Op == 2) && ((decide (t13.N < 0)) || (decide (t13.N ≥ a1))))) (fun u17 => ((t13.Op != 2) && (t13.N != 0))) 73) <| .nil) fun u17 a w' H => ?_
      replace H := H.toM [(0, sS p_a0 a0.length c_a0), (1, sI a1), (5, sI x8), (29, .slot ((t13.Op == 1) == true) (vP ((u11 4).n 0) 1)), (30, .slot ((t13.Op == 1) == true) (vI t13.N)), (31, .slot ((t13.Op == 1) == true) (.bool (t13.N != 0))), (32, .slot ((t13.Op == 1) == true) (.bool (t13.N != 0))), (33, .slot (((t13.Op == 1) == true) && ((t13.N != 0) == false)) (vP ((u11 4).n 0) 2)), (34, .slot (((t13.Op == 1) == true) && ((t13.N != 0) == false)) (.agg #[vI t13.C.Lo, vI t13.C.Hi])), (35, .slot (((t13.Op == 1) == true) && ((t13.N != 0) == false)) (.bool t15)), (36, .slot (((t13.Op == 1) == true) && ((t13.N != 0) == false)) (.bool (!t15))), (37, .slot ((t13.Op == 1) == true) (.bool ((t13.N != 0) || (!t15)))), (40, .slot (((t13.Op == 1) && ((t13.N != 0) || (!t15))) == false) (vP ((u11 4).n 0) 0)), (41, .slot (((t13.Op == 1) && ((t13.N != 0) || (!t15))) == false) (vI t13.Op)), (42, .slot (((t13.Op == 1) && ((t13.N != 0) || (!t15))) == false) (.bool (t13.Op != 1))), (43, .slot (((t13.Op == 1) && ((t13.N != 0) || (!t15))) == false) (.bool (t13.Op != 1))), (44, .slot ((((t13.Op == 1) && ((t13.N != 0) || (!t15))) == false) && ((t13.Op != 1) == true)) (vP ((u11 4).n 0) 2)), (45, .slot ((((t13.Op == 1) && ((t13.N != 0) || (!t15))) == false) && ((t13.Op != 1) == true)) (.agg #[vI t13.C.Lo, vI t13.C.Hi])), (46, .slot ((((t13.Op == 1) && ((t13.N != 0) || (!t15))) == false) && ((t13.Op != 1) == true)) (.agg #[vI 0, vI 0])), (47, .slot ((((t13.Op == 1) && ((t13.N != 0) || (!t15))) == false) && ((t13.Op != 1) == true)) (.bool (!((t13.C.Lo == 0) && ((t13.C.Hi == 0) && true))))), (48, .slot (((t13.Op == 1) && ((t13.N != 0) || (!t15))) == false) (.bool ((t13.Op != 1) && (!((t13.C.Lo == 0) && ((t13.C.Hi == 0) && true)))))), (54, .slot ((t13.Op == 2) == true) (vP ((u11 4).n 0) 1)), (55, .slot ((t13.Op == 2) == true) (vI t13.N)), (56, .slot ((t13.Op == 2) == true) (.bool (decide (t13.N < 0)))), (57, .slot ((t13.Op == 2) == true) (.bool (decide (t13.N < 0)))), (58, .slot (((t13.Op == 2) == true) && ((decide (t13.N < 0)) == false)) (vP ((u11 4).n 0) 1)), (59, .slot (((t13.Op == 2) == true) && ((decide (t13.N < 0)) == false)) (vI t13.N)), (60, .slot (((t13.Op == 2) == true) && ((decide (t13.N < 0)) == false)) (vI a1)), (61, .slot (((t13.Op == 2) == true) && ((decide (t13.N < 0)) == false)) (.bool (decide (t13.N ≥ a1)))), (62, .slot ((t13.Op == 2) == true) (.bool ((decide (t13.N < 0)) || (decide (t13.N ≥ a1))))), (65, .slot (((t13.Op == 2) && ((decide (t13.N < 0)) || (decide (t13.N ≥ a1)))) == false) (vP ((u11 4).n 0) 0)), (66, .slot (((t13.Op == 2) && ((decide (t13.N < 0)) || (decide (t13.N ≥ a1)))) == false) (vI t13.Op)), (67, .slot (((t13.Op == 2) && ((decide (t13.N < 0)) || (decide (t13.N ≥ a1)))) == false) (.bool (t13.Op != 2))), (68, .slot (((t13.Op == 2) && ((decide (t13.N < 0)) || (decide (t13.N ≥ a1)))) == false) (.bool (t13.Op != 2))), (69, .slot ((((t13.Op == 2) && ((decide (t13.N < 0)) || (decide (t13.N ≥ a1)))) == false) && ((t13.Op != 2) == true)) (vP ((u11 4).n 0) 1)), (70, .slot ((((t13.Op == 2) && ((decide (t13.N < 0)) || (decide (t13.N ≥ a1)))) == false) && ((t13.Op != 2) == true)) (vI t13.N)), (71, .slot ((((t13.Op == 2) && ((decide (t13.N < 0)) || (decide (t13.N ≥ a1)))) == false) && ((t13.Op != 2) == true)) (.bool (t13.N != 0))), (72, .slot (((t13.Op == 2) && ((decide (t13.N < 0)) || (decide (t13.N ≥ a1)))) == false) (.bool ((t13.Op != 2) && (t13.N != 0)))), (73, (sB (((t13.Op == 2) && ((decide (t13.N < 0)) || (decide (t13.N ≥ a1)))) || ((t13.Op != 2) && (t13.N != 0))))), (80, .blk ((u11 4).n 0) [vI t13.Op, vI t13.N, vI t13.C.Lo, vI t13.C.Hi] 53), (79, rdl fr 4 p_a0 c_a0 a0 en_TNode)]
      refine k_cond H (by kernel_rfl) (t := (((t13.Op == 2) && ((decide (t13.N < 0)) || (decide (t13.N ≥ a1)))) || ((t13.Op != 2) && (t13.N != 0)))) (by kernel_rfl) (fun c20 => ?_) (fun c20 => ?_)
      ·rw [if_pos c20] at G
       refine k_seq ?_
       refine k_rg mixed H (.v 4 (.bool false) <| .nil) fun u18 a w' H => ?_
       replace H := H.toM [(4, sB false)]
       refine k_ret ?_
       obtain rfl := Option.some.inj G
       replace G := Gj4
       obtain rfl := Option.some.inj G
       exact k_done0 H _ (by kernel_rfl) (by kernel_rfl)
      ·rw [if_neg (nt c20)] at G
       refine k_skip ?_
       refine k_rg mixed H (.v 19 (vI x8) <|
   .v 20 (vI (w_i64 (x8 + 1))) <|
   .v 5 (vI (w_i64 (x8 + 1))) <| .nil) fun u19 a w' H => ?_
       replace H := H.toM [(0, sS p_a0 a0.length c_a0), (1, sI a1), (5, (sI (w_i64 (x8 + 1)))), (29, .slot ((t13.Op == 1) == true) (vP ((u11 4).n 0) 1)), (30, .slot ((t13.Op == 1) == true) (vI t13.N)), (31, .slot ((t13.Op == 1) == true) (.bool (t13.N != 0))), (32, .slot ((t13.Op == 1) == true) (.bool (t13.N != 0))), (33, .slot (((t13.Op == 1) == true) && ((t13.N != 0) == false)) (vP ((u11 4).n 0) 2)), (34, .slot (((t13.Op == 1) == true) && ((t13.N != 0) == false)) (.agg #[vI t13.C.Lo, vI t13.C.Hi])), (35, .slot (((t13.Op == 1) == true) && ((t13.N != 0) == false)) (.bool t15)), (36, .slot (((t13.Op == 1) == true) && ((t13.N != 0) == false)) (.bool (!t15))), (37, .slot ((t13.Op == 1) == true) (.bool ((t13.N != 0) || (!t15)))), (40, .slot (((t13.Op == 1) && ((t13.N != 0) || (!t15))) == false) (vP ((u11 4).n 0) 0)), (41, .slot (((t13.Op == 1) && ((t13.N != 0) || (!t15))) == false) (vI t13.Op)), (42, .slot (((t13.Op == 1) && ((t13.N != 0) || (!t15))) == false) (.bool (t13.Op != 1))), (43, .slot (((t13.Op == 1) && ((t13.N != 0) || (!t15))) == false) (.bool (t13.Op != 1))), (44, .slot ((((t13.Op == 1) && ((t13.N != 0) || (!t15))) == false) && ((t13.Op != 1) == true)) (vP ((u11 4).n 0) 2)), (45, .slot ((((t13.Op == 1) && ((t13.N != 0) || (!t15))) == false) && ((t13.Op != 1) == true)) (.agg #[vI t13.C.Lo, vI t13.C.Hi])), (46, .slot ((((t13.Op == 1) && ((t13.N != 0) || (!t15))) == false) && ((t13.Op != 1) == true)) (.agg #[vI 0, vI 0])), (47, .slot ((((t13.Op == 1) && ((t13.N != 0) || (!t15))) == false) && ((t13.Op != 1) == true)) (.bool (!((t13.C.Lo == 0) && ((t13.C.Hi == 0) && true))))), (48, .slot (((t13.Op == 1) && ((t13.N != 0) || (!t15))) == false) (.bool ((t13.Op != 1) && (!((t13.C.Lo == 0) && ((t13.C.Hi == 0) && true)))))), (54, .slot ((t13.Op == 2) == true) (vP ((u11 4).n 0) 1)), (55, .slot ((t13.Op == 2) == true) (vI t13.N)), (56, .slot ((t13.Op == 2) == true) (.bool (decide (t13.N < 0)))), (57, .slot ((t13.Op == 2) == true) (.bool (decide (t13.N < 0)))), (58, .slot (((t13.Op == 2) == true) && ((decide (t13.N < 0)) == false)) (vP ((u11 4).n 0) 1)), (59, .slot (((t13.Op == 2) == true) && ((decide (t13.N < 0)) == false)) (vI t13.N)), (60, .slot (((t13.Op == 2) == true) && ((decide (t13.N < 0)) == false)) (vI a1)), (61, .slot (((t13.Op == 2) == true) && ((decide (t13.N < 0)) == false)) (.bool (decide (t13.N ≥ a1)))), (62, .slot ((t13.Op == 2) == true) (.bool ((decide (t13.N < 0)) || (decide (t13.N ≥ a1))))), (65, .slot (((t13.Op == 2) && ((decide (t13.N < 0)) || (decide (t13.N ≥ a1)))) == false) (vP ((u11 4).n 0) 0)), (66, .slot (((t13.Op == 2) && ((decide (t13.N < 0)) || (decide (t13.N ≥ a1)))) == false) (vI t13.Op)), (67, .slot (((t13.Op == 2) && ((decide (t13.N < 0)) || (decide (t13.N ≥ a1)))) == false) (.bool (t13.Op != 2))), (68, .slot (((t13.Op == 2) && ((decide (t13.N < 0)) || (decide (t13.N ≥ a1)))) == false) (.bool (t13.Op != 2))), (69, .slot ((((t13.Op == 2) && ((decide (t13.N < 0)) || (decide (t13.N ≥ a1)))) == false) && ((t13.Op != 2) == true)) (vP ((u11 4).n 0) 1)), (70, .slot ((((t13.Op == 2) && ((decide (t13.N < 0)) || (decide (t13.N ≥ a1)))) == false) && ((t13.Op != 2) == true)) (vI t13.N)), (71, .slot ((((t13.Op == 2) && ((decide (t13.N < 0)) || (decide (t13.N ≥ a1)))) == false) && ((t13.Op != 2) == true)) (.bool (t13.N != 0))), (72, .slot (((t13.Op == 2) && ((decide (t13.N < 0)) || (decide (t13.N ≥ a1)))) == false) (.bool ((t13.Op != 2) && (t13.N != 0)))), (80, .blk ((u11 4).n 0) [vI t13.Op, vI t13.N, vI t13.C.Lo, vI t13.C.Hi] 53), (79, rdl fr 4 p_a0 c_a0 a0 en_TNode)]
       exact ⟨k, Nat.lt_succ_self k, _, G, H.toL _ (by kernel_rfl)⟩
    ·rw [if_neg (nt c22)] at G
     refine k_exit rfl ?_
     obtain rfl := Option.some.inj G
     exact ⟨_, rfl, H.toL _ (by kernel_rfl)⟩

set_option maxHeartbeats 4000000 in
theorem armillaryref15_Valid.calls (k0 : Nat) (a0 : TGuard) (a1 : Int) (p_a0_F : Option Addr) (c_a0_F : Nat) (r : Bool) (w : World) (R_p_a0_F : RowC w 4 p_a0_F a0.F.length c_a0_F (a0.F.flatMap en_TNode)) (G : armillaryref15_Valid k0 a0 a1 = some r) :
  Calls Tryd.prog 11 #[.agg #[.slice p_a0_F a0.F.length c_a0_F, vI a0.Dir], vI a1] w fun e w' => e = .returned (.bool r) ∧ Below w.heap.size w w' := by
 obtain ⟨fr, hfr⟩ : ∃ fr : Nat → Prop, ∀ j, fr j := ⟨fun _ => True, fun _ => trivial⟩
 have hB : ∀ j, w.heap.size ≤ j → fr j := fun j _ => hfr j
 have hin_p_a0_F : ∀ j, fpRow p_a0_F a0.F.length j → fr j := fun j _ => hfr j
 refine k_enterF (args := [.agg #[.slice p_a0_F a0.F.length c_a0_F, vI a0.Dir], vI a1]) 27 [(27, rdl fr 4 p_a0_F c_a0_F a0.F en_TNode)] (by
  intro x hx
  simp only [List.mem_cons, List.not_mem_nil, or_false] at hx
  rcases hx with rfl
  exact rdF_fact R_p_a0_F hin_p_a0_F (by decide) _) Tryd.func11 rfl (by kernel_rfl) (by kernel_rfl) fun a H => ?_
 unfold armillaryref15_Valid at G
 refine k_seq ?_
 refine k_rg mixed H (.cons [2, 28] (ok_new (fun b => vP b 0) (fun u1 => [.slice p_a0_F a0.F.length c_a0_F, vI a0.Dir]) 31 2 28) <|
   .v 4 (.bool false) <| .nil) fun u1 a w' H => ?_
 replace H := H.toM [(1, sI a1), (2, (sP ((u1 0).n 0) 0)), (28, .blk ((u1 0).n 0) [.slice p_a0_F a0.F.length c_a0_F, vI a0.Dir] 31), (27, rdl fr 4 p_a0_F c_a0_F a0.F en_TNode)]
 refine k_seq ?_
 replace G := bnd G; obtain ⟨t3, ht3, G⟩ := G
 replace G := bnd G; obtain ⟨z4, hz4, G⟩ := G
 replace hz4 := Option.some.inj hz4
 refine k_rg mixed H (.v 5 (vI a1) <|
   .v 6 (.bool (decide (a1 ≥ 1))) <|
   .v 7 (.bool (decide (a1 ≥ 1))) <|
   .cons [8] (ok_valg (fun u2 => vI a1) (fun u2 => ((decide (a1 ≥ 1)) == true)) [true] 8) <|
   .cons [9] (ok_valg (fun u2 => .bool (decide (a1 ≤ 6))) (fun u2 => ((decide (a1 ≥ 1)) == true)) [false, true] 9) <|
   .cons [10] (ok_and 7 9 (fun u2 => true) (fun u2 => true) (fun u2 => decide (a1 ≥ 1)) (fun u2 => decide (a1 ≤ 6)) 10) <|
   .v 11 (.bool ((decide (a1 ≥ 1)) && (decide (a1 ≤ 6)))) <|
   .cons [12] (ok_valg (fun u2 => vP ((u1 0).n 0) 0) (fun u2 => (((decide (a1 ≥ 1)) && (decide (a1 ≤ 6))) == true)) [true] 12) <|
   .cons [13] (ok_ldg (fun u2 => .slice p_a0_F a0.F.length c_a0_F) (fun u2 => (((decide (a1 ≥ 1)) && (decide (a1 ≤ 6))) == true)) [false] 13 28 0 1 (fun u2 => ((u1 0).n 0)) (fun u2 => [.slice p_a0_F a0.F.length c_a0_F, vI a0.Dir]) 31) <|
   .cons [14] (ok_valg (fun u2 => vI a1) (fun u2 => (((decide (a1 ≥ 1)) && (decide (a1 ≤ 6))) == true)) [true] 14) <|
   .cons [15] (ok_callLg [27] (fun u2 => [rdl fr 4 p_a0_F c_a0_F a0.F en_TNode]) 32 (fun u2 => #[.slice p_a0_F a0.F.length c_a0_F, vI a1]) (.bool t3) (fun u2 => (((decide (a1 ≥ 1)) && (decide (a1 ≤ 6))) == true)) [true, false, false] 15 (fun u2 w hg hF => armillaryref07_ValidExpr.calls k0 a0.F a1 p_a0_F c_a0_F t3 w (rdF_of hF.1) (ifp ht3 hg))) <|
   .cons [16] (ok_and 11 15 (fun u2 => true) (fun u2 => true) (fun u2 => ((decide (a1 ≥ 1)) && (decide (a1 ≤ 6)))) (fun u2 => t3) 16) <|
   .v 17 (.bool (((decide (a1 ≥ 1)) && (decide (a1 ≤ 6))) && t3)) <|
   .cons [18] (ok_valg (fun u2 => vP ((u1 0).n 0) 1) (fun u2 => ((((decide (a1 ≥ 1)) && (decide (a1 ≤ 6))) && t3) == true)) [true] 18) <|
   .cons [19] (ok_ldg (fun u2 => vI a0.Dir) (fun u2 => ((((decide (a1 ≥ 1)) && (decide (a1 ≤ 6))) && t3) == true)) [false] 19 28 1 1 (fun u2 => ((u1 0).n 0)) (fun u2 => [.slice p_a0_F a0.F.length c_a0_F, vI a0.Dir]) 31) <|
   .cons [20] (ok_valg (fun u2 => .bool (decide (a0.Dir ≥ (-1)))) (fun u2 => ((((decide (a1 ≥ 1)) && (decide (a1 ≤ 6))) && t3) == true)) [false, true] 20) <|
   .cons [21] (ok_and 17 20 (fun u2 => true) (fun u2 => true) (fun u2 => (((decide (a1 ≥ 1)) && (decide (a1 ≤ 6))) && t3)) (fun u2 => decide (a0.Dir ≥ (-1))) 21) <|
   .v 22 (.bool ((((decide (a1 ≥ 1)) && (decide (a1 ≤ 6))) && t3) && (decide (a0.Dir ≥ (-1))))) <|
   .cons [23] (ok_valg (fun u2 => vP ((u1 0).n 0) 1) (fun u2 => (((((decide (a1 ≥ 1)) && (decide (a1 ≤ 6))) && t3) && (decide (a0.Dir ≥ (-1)))) == true)) [true] 23) <|
   .cons [24] (ok_ldg (fun u2 => vI a0.Dir) (fun u2 => (((((decide (a1 ≥ 1)) && (decide (a1 ≤ 6))) && t3) && (decide (a0.Dir ≥ (-1)))) == true)) [false] 24 28 1 1 (fun u2 => ((u1 0).n 0)) (fun u2 => [.slice p_a0_F a0.F.length c_a0_F, vI a0.Dir]) 31) <|
   .cons [25] (ok_valg (fun u2 => .bool (decide (a0.Dir ≤ 1))) (fun u2 => (((((decide (a1 ≥ 1)) && (decide (a1 ≤ 6))) && t3) && (decide (a0.Dir ≥ (-1)))) == true)) [false, true] 25) <|
   .cons [26] (ok_and 22 25 (fun u2 => true) (fun u2 => true) (fun u2 => ((((decide (a1 ≥ 1)) && (decide (a1 ≤ 6))) && t3) && (decide (a0.Dir ≥ (-1))))) (fun u2 => decide (a0.Dir ≤ 1)) 26) <|
   .cons [4] (ok_as (u' := fun u2 => [(4, sB z4)]) (ok_val (fun u2 => .bool (((((decide (a1 ≥ 1)) && (decide (a1 ≤ 6))) && t3) && (decide (a0.Dir ≥ (-1)))) && (decide (a0.Dir ≤ 1)))) 4) (fun _ => by rw [← hz4])) <| .nil) fun u2 a w' H => ?_
 replace H := H.toM [(4, sB z4)]
 refine k_ret ?_
 obtain rfl := Option.some.inj G
 exact k_done0 H _ (by kernel_rfl) (by kernel_rfl)

set_option maxHeartbeats 4000000 in
theorem armillaryref07_Operands.calls (k0 : Nat) (a0 : List TNode) (p_a0 : Option Addr) (c_a0 : Nat) (r : List (List TNode)) (w : World) (R_p_a0 : RowC w 4 p_a0 a0.length c_a0 (a0.flatMap en_TNode)) (G : armillaryref07_Operands k0 a0 = some r) :
  Calls Tryd.prog 63 #[.slice p_a0 a0.length c_a0] w fun e w' => ∃ g : Gh, e = .returned (.slice (g.o 0) (mkL g.o g.n 1 r).length (g.n 0)) ∧ Below w.heap.size w w' ∧ RowsN (frP w.heap.size (insV ((#[.slice p_a0 a0.length c_a0] : Array Value).toList))) w' 4 en_TNode (g.o 0) (g.n 0) (mkL g.o g.n 1 r) := by
 obtain ⟨fr, hfr⟩ : ∃ fr : Nat → Prop, fr = frP w.heap.size [(p_a0, a0.length)] := ⟨_, rfl⟩
 have hB : ∀ j, w.heap.size ≤ j → fr j := fun j h => by rw [hfr]; exact .inl h
 have hin_p_a0 : ∀ j, fpRow p_a0 a0.length j → fr j := fun j h => by rw [hfr]; exact frP_in (.head _) j h
 refine k_enterF (args := [.slice p_a0 a0.length c_a0]) 34 [(34, rdl fr 4 p_a0 c_a0 a0 en_TNode)] (by
  intro x hx
  simp only [List.mem_cons, List.not_mem_nil, or_false] at hx
  rcases hx with rfl
  exact rdF_fact R_p_a0 hin_p_a0 (by decide) _) Tryd.func63 rfl (by kernel_rfl) (by kernel_rfl) fun a H => ?_
 unfold armillaryref07_Operands at G
 refine k_seq ?_
 refine k_rg mixed H (.v 2 (.slice none 0 0) <| .nil) fun u1 a w' H => ?_
 replace H := H.toM [(0, sS p_a0 a0.length c_a0), (34, rdl fr 4 p_a0 c_a0 a0 en_TNode)]
 refine k_seq ?_
 refine k_rg mixed H (.cons [7, 35] (ok_new (fun b => .slice (some ⟨b, 0, none⟩) 0 0) (fun u2 => []) 22 7 35) <|
   .cons [3] (ok_val (fun u2 => .slice (some ⟨((u2 0).n 0), 0, none⟩) 0 0) 3) <|
   .v 4 (vI 1) <| .nil) fun u2 a w' H => ?_
 replace H := H.toM [(0, sS p_a0 a0.length c_a0), (3, (sS (some ⟨((u2 0).n 0), 0, none⟩) 0 0)), (4, sI 1), (35, .blk ((u2 0).n 0) [] 22), (34, rdl fr 4 p_a0 c_a0 a0 en_TNode)]
 refine k_seq ?_
 replace G := bnd G; obtain ⟨j4, hj4, G⟩ := G
 refine k_join (fun a w' => ∃ (p_j3 : Option Addr) (c_j3 np_j3 : Nat) (L_j3 : List (Sl TNode)), np_j3 = L_j3.length ∧ j4 = L_j3.map Sl.l ∧ Rep w.heap.size w 34 (ofL [(3, sS p_j3 np_j3 c_j3), (35, owK 22 1 p_j3 np_j3 c_j3 (L_j3.flatMap enSl)), (36, rdN fr 4 en_TNode L_j3)]) a w') ?_ ?_
 ·clear H; rintro a w' ⟨p_j3, c_j3, _, L_j3, rfl, h_j3, H⟩
  refine k_seq ?_
  refine k_rg mixed H (.v 33 (.slice p_j3 L_j3.length c_j3) <|
   .v 2 (.slice p_j3 L_j3.length c_j3) <| .nil) fun u5 a w' H => ?_
  replace H := H.toM [(2, sS p_j3 L_j3.length c_j3), (35, owK 22 1 p_j3 L_j3.length c_j3 (L_j3.flatMap enSl)), (36, rdN fr 4 en_TNode L_j3)]
  refine k_ret ?_
  obtain rfl := Option.some.inj G
  rw [show frP w.heap.size (insV ((#[.slice p_a0 a0.length c_a0] : Array Value).toList)) = fr from by rw [hfr]; exact congrArg (frP w.heap.size) (by kernel_rfl)]
  exact k_doneN H fr (L := L_j3) (p := p_j3) (cap := c_j3) (e := 22) 35 36 h_j3 (by kernel_rfl) (by kernel_rfl) hB (by kernel_rfl) (by kernel_rfl)
 ·clear G; replace G := hj4; clear hj4
  refine k_seq ?_
  refine k_rg mixed H (.v 5 (vI 0) <| .nil) fun u6 a w' H => ?_
  replace H := H.toM [(0, sS p_a0 a0.length c_a0), (3, (sS (some ⟨((u2 0).n 0), 0, none⟩) 0 0)), (4, sI 1), (5, sI 0), (35, .blk ((u2 0).n 0) [] 22), (34, rdl fr 4 p_a0 c_a0 a0 en_TNode)]
  refine k_block ?_
  replace H := H.blk_row 35 ((u2 0).n 0) [] 22 1 0 (by kernel_rfl) (by kernel_rfl) (by decide)
  replace H := H.newN en_TNode 36 fr 4
  refine k_loopJ (fun m a w' => ∃ x7 : List (List TNode), ∃ x8 : Int, ∃ x9 : Int, armillaryref07_Operands.l10 k0 a0 m x7 x8 x9 = some j4 ∧ ∃ (p_x7 : Option Addr) (c_x7 np_x7 : Nat) (L_x7 : List (Sl TNode)), np_x7 = L_x7.length ∧ x7 = L_x7.map Sl.l ∧ Rep w.heap.size w 34 (ofL [(0, sS p_a0 a0.length c_a0), (3, sS p_x7 np_x7 c_x7), (4, sI x8), (5, sI x9), (34, rdl fr 4 p_a0 c_a0 a0 en_TNode), (35, owK 22 1 p_x7 np_x7 c_x7 (L_x7.flatMap enSl)), (36, rdN fr 4 en_TNode L_x7)]) a w') k0 ⟨_, _, _, G, (some ⟨((u2 0).n 0), 0, none⟩), 0, _, ([] : List (Sl TNode)), rfl, rfl, H.toL _ (by kernel_rfl)⟩ ?_
  clear G H
  rintro (_ | k) a w' ⟨x7, x8, x9, G, p_x7, c_x7, _, L_x7, rfl, h_x7, H⟩
  ·exact absurd G (by unfold armillaryref07_Operands.l10; exact fun h => by cases h)
  ·unfold armillaryref07_Operands.l10 at G
   refine k_seq ?_
   refine k_seq ?_
   replace G := gd G; obtain ⟨b12, G⟩ := G
   replace G := bnd G; obtain ⟨t13, ht13, G⟩ := G
   replace G := bnd G; obtain ⟨t14, ht14, G⟩ := G
   refine k_rg mixed H (.v 8 (vI x9) <|
   .v 9 (.slice p_a0 a0.length c_a0) <|
   .cons [10] (ok_valL [34] (fun u11 => [rdl fr 4 p_a0 c_a0 a0 en_TNode]) (fun u11 => .pointer (some ⟨hdB p_a0, hdO p_a0 + ((0 : Int).toNat) * 4, none⟩)) (fun u11 => true) [true, true] 10 (fun u11 w hg hF => run_of (by kernel_rfl) (run_ix (t := 22) (p := p_a0) (n := a0.length) (cap := c_a0) (k := .i64) (i := (0 : Int)) (sz := 4) (by kernel_rfl) (by kernel_rfl) (rdF_of hF.1).2 b12))) <|
   .v 11 (.pointer (some ⟨hdB p_a0, hdO p_a0 + ((0 : Int).toNat) * 4 + 0, none⟩)) <|
   .cons [12] (ok_valL [34] (fun u11 => [rdl fr 4 p_a0 c_a0 a0 en_TNode]) (fun u11 => vI t13.Op) (fun u11 => true) [true] 12 (fun u11 w hg hF => ld_of (vs := [vI t13.Op]) (b := hdB p_a0) (off := hdO p_a0 + ((0 : Int).toNat) * 4 + 0) (m := 1) (by kernel_rfl) (el_cells (rdF_of hF.1).2 en_TNode_len ht13 0 1 rfl))) <|
   .cons [13] (ok_callv 81 (fun u11 => #[vI t13.Op]) (vI t14) 13 [] (fun _ w _ => armillaryref07_Arity.calls t13.Op t14 w ht14)) <|
   .v 14 (.bool (decide (x9 < t14))) <| .nil) fun u11 a w' H => ?_
   replace H := H.toM [(0, sS p_a0 a0.length c_a0), (3, sS p_x7 L_x7.length c_x7), (4, sI x8), (5, sI x9), (14, (sB (decide (x9 < t14)))), (34, rdl fr 4 p_a0 c_a0 a0 en_TNode), (35, owK 22 1 p_x7 L_x7.length c_x7 (L_x7.flatMap enSl)), (36, rdN fr 4 en_TNode L_x7)]
   refine k_cond H (by kernel_rfl) (t := decide (x9 < t14)) (by kernel_rfl) (fun c23 => ?_) (fun c23 => ?_)
   ·rw [if_pos c23] at G
    refine k_skip ?_
    refine k_seq ?_
    refine k_block ?_
    refine k_seq ?_
    replace G := gd G; obtain ⟨b16, G⟩ := G
    replace G := bnd G; obtain ⟨t17, ht17, G⟩ := G
    refine k_rg mixed H (.v 17 (.slice p_a0 a0.length c_a0) <|
   .v 18 (vI x8) <|
   .cons [19] (ok_val (fun u15 => .slice (viewP p_a0 x8.toNat 4 c_a0) (a0.drop x8.toNat).length (c_a0 - x8.toNat)) 19 (hv := fun _ _ => run_of (by kernel_rfl) (run_low (t := 22) (sz := 4) (l := a0) (k := .i64) rfl b16))) <|
   .cons [20] (ok_callL [34] (fun u15 => [rdl fr 4 p_a0 c_a0 a0 en_TNode]) 56 (fun u15 => #[.slice (viewP p_a0 x8.toNat 4 c_a0) (a0.drop x8.toNat).length (c_a0 - x8.toNat)]) (vI t17) 20 (fun u15 w hF => armillaryref07_exprLen.calls k0 (a0.drop x8.toNat) (viewP p_a0 x8.toNat 4 c_a0) (c_a0 - x8.toNat) t17 w (RowC.low (en := en_TNode) (rdF_of hF.1) en_TNode_len b16) ht17)) <|
   .v 6 (vI t17) <| .nil) fun u15 a w' H => ?_
    replace H := H.toM [(0, sS p_a0 a0.length c_a0), (3, sS p_x7 L_x7.length c_x7), (4, sI x8), (5, sI x9), (6, sI t17), (34, rdl fr 4 p_a0 c_a0 a0 en_TNode), (35, owK 22 1 p_x7 L_x7.length c_x7 (L_x7.flatMap enSl)), (36, rdN fr 4 en_TNode L_x7)]
    refine k_seq ?_
    replace G := gd G; obtain ⟨b19, G⟩ := G
    replace G := gd G; obtain ⟨b20, G⟩ := G
    replace H := H.addV (sz := 4) (en := en_TNode) (L := L_x7) (fr := fr) 36 34 (viewP p_a0 x8.toNat 4 c_a0) (c_a0 - x8.toNat) ((a0.take (w_i64 (x8 + t17)).toNat).drop x8.toNat) (szb := 4) (m := a0.length) (capb := c_a0) (pb := p_a0) (xsb := a0.flatMap en_TNode) (by kernel_rfl) (by kernel_rfl) (fun q => (RowC.lohi (en := en_TNode) q en_TNode_len b19)) (fun j h => (fpRow_low (by simp only [List.length_drop, List.length_take]; omega) h)) (by decide)
    refine k_rg mixed H (.v 21 (.slice p_x7 L_x7.length c_x7) <|
   .v 22 (.slice p_a0 a0.length c_a0) <|
   .v 23 (vI x8) <|
   .v 24 (vI x8) <|
   .v 25 (vI t17) <|
   .v 26 (vI (w_i64 (x8 + t17))) <|
   .cons [27] (ok_valL [34] (fun u18 => [rdl fr 4 p_a0 c_a0 a0 en_TNode]) (fun u18 => .slice (viewP p_a0 x8.toNat 4 c_a0) ((a0.take (w_i64 (x8 + t17)).toNat).drop x8.toNat).length (c_a0 - x8.toNat)) (fun u18 => true) [true, true, true] 27 (fun u18 w _ hF => run_of (by kernel_rfl) (run_lohi (t := 22) (sz := 4) (l := a0) (k := .i64) (k' := .i64) rfl b19 (rdF_of hF.1).1))) <|
   .cons [28, 37] (ok_new (fun b => .slice (some ⟨b, 0, none⟩) 1 1) (fun u18 => [.slice (viewP p_a0 x8.toNat 4 c_a0) ((a0.take (w_i64 (x8 + t17)).toNat).drop x8.toNat).length (c_a0 - x8.toNat)]) 22 28 37) <|
   .cons [29, 35] (ok_rowL [35, 37] (fun u18 => [owK 22 1 p_x7 L_x7.length c_x7 (L_x7.flatMap enSl), .blk ((u18 7).n 0) [.slice (viewP p_a0 x8.toNat 4 c_a0) ((a0.take (w_i64 (x8 + t17)).toNat).drop x8.toNat).length (c_a0 - x8.toNat)] 22]) 22 1 (L_x7 ++ [(⟨(viewP p_a0 x8.toNat 4 c_a0), (c_a0 - x8.toNat), ((a0.take (w_i64 (x8 + t17)).toNat).drop x8.toNat)⟩ : Sl TNode)]).length ((L_x7 ++ [(⟨(viewP p_a0 x8.toNat 4 c_a0), (c_a0 - x8.toNat), ((a0.take (w_i64 (x8 + t17)).toNat).drop x8.toNat)⟩ : Sl TNode)]).flatMap enSl) 29 35 (fun u18 => owK 22 1 p_x7 L_x7.length c_x7 (L_x7.flatMap enSl)) (fun u18 w hF => run_app_row (t := 92) (ty := 92) (en := enSl) enSl_len inf22 (ow_of hF.1) hF.2.1 (news := [(⟨(viewP p_a0 x8.toNat 4 c_a0), (c_a0 - x8.toNat), ((a0.take (w_i64 (x8 + t17)).toNat).drop x8.toNat)⟩ : Sl TNode)]) rfl (by simp) (by kernel_rfl) (by rw [← sl_len h_x7]; exact b20)) (fun _ => .inr trivial)) <|
   .cons [3] (ok_val (fun u18 => .slice ((u18 8).o 0) (L_x7 ++ [(⟨(viewP p_a0 x8.toNat 4 c_a0), (c_a0 - x8.toNat), ((a0.take (w_i64 (x8 + t17)).toNat).drop x8.toNat)⟩ : Sl TNode)]).length ((u18 8).n 0)) 3) <| .nil) fun u18 a w' H => ?_
    replace H := H.toM [(0, sS p_a0 a0.length c_a0), (3, (sS ((u18 8).o 0) (L_x7 ++ [(⟨(viewP p_a0 x8.toNat 4 c_a0), (c_a0 - x8.toNat), ((a0.take (w_i64 (x8 + t17)).toNat).drop x8.toNat)⟩ : Sl TNode)]).length ((u18 8).n 0))), (4, sI x8), (5, sI x9), (6, sI t17), (34, rdl fr 4 p_a0 c_a0 a0 en_TNode), (35, owK 22 1 ((u18 8).o 0) (L_x7 ++ [(⟨(viewP p_a0 x8.toNat 4 c_a0), (c_a0 - x8.toNat), ((a0.take (w_i64 (x8 + t17)).toNat).drop x8.toNat)⟩ : Sl TNode)]).length ((u18 8).n 0) ((L_x7 ++ [(⟨(viewP p_a0 x8.toNat 4 c_a0), (c_a0 - x8.toNat), ((a0.take (w_i64 (x8 + t17)).toNat).drop x8.toNat)⟩ : Sl TNode)]).flatMap enSl)), (36, rdN fr 4 en_TNode (L_x7 ++ [(⟨(viewP p_a0 x8.toNat 4 c_a0), (c_a0 - x8.toNat), ((a0.take (w_i64 (x8 + t17)).toNat).drop x8.toNat)⟩ : Sl TNode)]))]
    refine k_rg mixed H (.v 30 (vI x8) <|
   .v 31 (vI t17) <|
   .v 32 (vI (w_i64 (x8 + t17))) <|
   .v 4 (vI (w_i64 (x8 + t17))) <| .nil) fun u21 a w' H => ?_
    replace H := H.toM [(0, sS p_a0 a0.length c_a0), (3, (sS ((u18 8).o 0) (L_x7 ++ [(⟨(viewP p_a0 x8.toNat 4 c_a0), (c_a0 - x8.toNat), ((a0.take (w_i64 (x8 + t17)).toNat).drop x8.toNat)⟩ : Sl TNode)]).length ((u18 8).n 0))), (4, (sI (w_i64 (x8 + t17)))), (5, sI x9), (34, rdl fr 4 p_a0 c_a0 a0 en_TNode), (35, owK 22 1 ((u18 8).o 0) (L_x7 ++ [(⟨(viewP p_a0 x8.toNat 4 c_a0), (c_a0 - x8.toNat), ((a0.take (w_i64 (x8 + t17)).toNat).drop x8.toNat)⟩ : Sl TNode)]).length ((u18 8).n 0) ((L_x7 ++ [(⟨(viewP p_a0 x8.toNat 4 c_a0), (c_a0 - x8.toNat), ((a0.take (w_i64 (x8 + t17)).toNat).drop x8.toNat)⟩ : Sl TNode)]).flatMap enSl)), (36, rdN fr 4 en_TNode (L_x7 ++ [(⟨(viewP p_a0 x8.toNat 4 c_a0), (c_a0 - x8.toNat), ((a0.take (w_i64 (x8 + t17)).toNat).drop x8.toNat)⟩ : Sl TNode)]))]
    refine k_rg mixed H (.v 15 (vI x9) <|
   .v 16 (vI (w_i64 (x9 + 1))) <|
   .v 5 (vI (w_i64 (x9 + 1))) <| .nil) fun u22 a w' H => ?_
    replace H := H.toM [(0, sS p_a0 a0.length c_a0), (3, (sS ((u18 8).o 0) (L_x7 ++ [(⟨(viewP p_a0 x8.toNat 4 c_a0), (c_a0 - x8.toNat), ((a0.take (w_i64 (x8 + t17)).toNat).drop x8.toNat)⟩ : Sl TNode)]).length ((u18 8).n 0))), (4, (sI (w_i64 (x8 + t17)))), (5, (sI (w_i64 (x9 + 1)))), (34, rdl fr 4 p_a0 c_a0 a0 en_TNode), (35, owK 22 1 ((u18 8).o 0) (L_x7 ++ [(⟨(viewP p_a0 x8.toNat 4 c_a0), (c_a0 - x8.toNat), ((a0.take (w_i64 (x8 + t17)).toNat).drop x8.toNat)⟩ : Sl TNode)]).length ((u18 8).n 0) ((L_x7 ++ [(⟨(viewP p_a0 x8.toNat 4 c_a0), (c_a0 - x8.toNat), ((a0.take (w_i64 (x8 + t17)).toNat).drop x8.toNat)⟩ : Sl TNode)]).flatMap enSl)), (36, rdN fr 4 en_TNode (L_x7 ++ [(⟨(viewP p_a0 x8.toNat 4 c_a0), (c_a0 - x8.toNat), ((a0.take (w_i64 (x8 + t17)).toNat).drop x8.toNat)⟩ : Sl TNode)]))]
    exact ⟨k, Nat.lt_succ_self k, _, _, _, G, ((u18 8).o 0), ((u18 8).n 0), _, (L_x7 ++ [(⟨(viewP p_a0 x8.toNat 4 c_a0), (c_a0 - x8.toNat), ((a0.take (w_i64 (x8 + t17)).toNat).drop x8.toNat)⟩ : Sl TNode)]), rfl, (sl_app h_x7 (viewP p_a0 x8.toNat 4 c_a0) (c_a0 - x8.toNat) ((a0.take (w_i64 (x8 + t17)).toNat).drop x8.toNat)), H.toL _ (by kernel_rfl)⟩
   ·rw [if_neg (nt c23)] at G
    refine k_exit rfl ?_
    obtain rfl := Option.some.inj G
    exact ⟨p_x7, c_x7, _, L_x7, rfl, h_x7, H.toL _ (by kernel_rfl)⟩

set_option maxHeartbeats 4000000 in
theorem armillaryref02_Neg.calls (a0 : TInterval) (r : TInterval) (w : World) (G : armillaryref02_Neg a0 = some r) :
  Calls Tryd.prog 64 #[.agg #[vI a0.Lo, vI a0.Hi]] w fun e w' => e = .returned (.agg #[vI r.Lo, vI r.Hi]) ∧ Below w.heap.size w w' := by
 refine k_enter (args := [.agg #[vI a0.Lo, vI a0.Hi]]) 10 Tryd.func64 rfl (by kernel_rfl) (by kernel_rfl) fun a H => ?_
 unfold armillaryref02_Neg at G
 refine k_seq ?_
 refine k_rg mixed H (.cons [1, 10] (ok_new (fun b => vP b 0) (fun u1 => [vI a0.Lo, vI a0.Hi]) 38 1 10) <|
   .cons [2, 11] (ok_new (fun b => vP b 0) (fun u1 => [vI 0, vI 0]) 38 2 11) <| .nil) fun u1 a w' H => ?_
 replace H := H.toM [(1, (sP ((u1 0).n 0) 0)), (2, (sP ((u1 1).n 0) 0)), (10, .blk ((u1 0).n 0) [vI a0.Lo, vI a0.Hi] 38), (11, .blk ((u1 1).n 0) [vI 0, vI 0] 38)]
 refine k_seq ?_
 refine k_rg mixed H (.v 3 (vP ((u1 0).n 0) 1) <|
   .cons [4] (ok_ld (fun u2 => vI a0.Hi) 4 10 1 1 (fun u2 => ((u1 0).n 0)) (fun u2 => [vI a0.Lo, vI a0.Hi]) 38) <|
   .v 5 (vI (w_i64 (0 - a0.Hi))) <|
   .v 6 (vP ((u1 0).n 0) 0) <|
   .cons [7] (ok_ld (fun u2 => vI a0.Lo) 7 10 0 1 (fun u2 => ((u1 0).n 0)) (fun u2 => [vI a0.Lo, vI a0.Hi]) 38) <|
   .v 8 (vI (w_i64 (0 - a0.Lo))) <|
   .v 9 (.agg #[vI (w_i64 (0 - a0.Hi)), vI (w_i64 (0 - a0.Lo))]) <|
   .cons [11] (ok_as (u' := fun u2 => [(11, .blk ((u1 1).n 0) [vI (w_i64 (0 - a0.Hi)), vI (w_i64 (0 - a0.Lo))] 38)]) (ok_store 11 0 (fun u2 => ((u1 1).n 0)) (fun u2 => [vI 0, vI 0]) (fun u2 => [vI (w_i64 (0 - a0.Hi)), vI (w_i64 (0 - a0.Lo))]) 38) (fun _ => by kernel_rfl)) <| .nil) fun u2 a w' H => ?_
 replace H := H.toM [(2, (sP ((u1 1).n 0) 0)), (11, .blk ((u1 1).n 0) [vI (w_i64 (0 - a0.Hi)), vI (w_i64 (0 - a0.Lo))] 38)]
 refine k_ret ?_
 obtain rfl := Option.some.inj G
 exact k_done1 H _ 11 ((u1 1).n 0) [vI (w_i64 (0 - a0.Hi)), vI (w_i64 (0 - a0.Lo))] 38 0 2 (by kernel_rfl) (by kernel_rfl) (by kernel_rfl) (by kernel_rfl)

set_option maxHeartbeats 4000000 in
theorem armillaryref02_Floor.calls (a0 : Int) (a1 : Int) (r : Int) (w : World) (G : armillaryref02_Floor a0 a1 = some r) :
  Calls Tryd.prog 91 #[vI a0, vI a1] w fun e w' => e = .returned (vI r) ∧ Below w.heap.size w w' := by
 refine k_enter (args := [vI a0, vI a1]) 23 Tryd.func91 rfl (by kernel_rfl) (by kernel_rfl) fun a H => ?_
 unfold armillaryref02_Floor at G
 refine k_seq ?_
 refine k_rg mixed H (.v 4 (vI 0) <| .nil) fun u1 a w' H => ?_
 replace H := H.toM [(0, sI a0), (1, sI a1)]
 refine k_seq ?_
 replace G := gd G; obtain ⟨n3, G⟩ := G
 refine k_rg mixed H (.v 6 (vI a0) <|
   .v 7 (vI a1) <|
   .cons [8] (ok_val (fun u2 => vI (w_i64 (Int.tdiv a0 a1))) 8 (hv := fun _ _ => run_of (by kernel_rfl) (run_quo (k := .i64) (x := a0) (y := a1) n3))) <|
   .v 5 (vI (w_i64 (Int.tdiv a0 a1))) <| .nil) fun u2 a w' H => ?_
 replace H := H.toM [(0, sI a0), (1, sI a1), (5, (sI (w_i64 (Int.tdiv a0 a1))))]
 refine k_seq ?_
 replace G := bnd G; obtain ⟨j5, hj5, G⟩ := G
 refine k_join (fun a w' => Rep w.heap.size w 23 (ofL [(5, sI j5)]) a w') ?_ ?_
 ·clear H; intro a w' H
  refine k_seq ?_
  refine k_rg mixed H (.v 22 (vI j5) <|
   .v 4 (vI j5) <| .nil) fun u6 a w' H => ?_
  replace H := H.toM [(4, sI j5)]
  refine k_ret ?_
  obtain rfl := Option.some.inj G
  exact k_done0 H _ (by kernel_rfl) (by kernel_rfl)
 ·clear G; replace G := hj5; clear hj5
  refine k_seq ?_
  replace G := gd G; obtain ⟨n8, G⟩ := G
  refine k_rg mixed H (.v 9 (vI a0) <|
   .v 10 (vI a1) <|
   .cons [11] (ok_val (fun u7 => vI (Int.tmod a0 a1)) 11 (hv := fun _ _ => run_of (by kernel_rfl) (run_rem (k := .i64) (x := a0) (y := a1) n8))) <|
   .v 12 (.bool ((Int.tmod a0 a1) != 0)) <|
   .v 13 (.bool ((Int.tmod a0 a1) != 0)) <|
   .cons [14] (ok_valg (fun u7 => vI a0) (fun u7 => (((Int.tmod a0 a1) != 0) == true)) [true] 14) <|
   .cons [15] (ok_valg (fun u7 => .bool (decide (a0 < 0))) (fun u7 => (((Int.tmod a0 a1) != 0) == true)) [false, true] 15) <|
   .cons [16] (ok_valg (fun u7 => vI a1) (fun u7 => (((Int.tmod a0 a1) != 0) == true)) [true] 16) <|
   .cons [17] (ok_valg (fun u7 => .bool (decide (a1 < 0))) (fun u7 => (((Int.tmod a0 a1) != 0) == true)) [false, true] 17) <|
   .cons [18] (ok_valg (fun u7 => .bool (!((decide (a0 < 0)) == (decide (a1 < 0))))) (fun u7 => (((Int.tmod a0 a1) != 0) == true)) [false, false] 18) <|
   .cons [19] (ok_and 13 18 (fun u7 => true) (fun u7 => true) (fun u7 => ((Int.tmod a0 a1) != 0)) (fun u7 => (!((decide (a0 < 0)) == (decide (a1 < 0))))) 19) <| .nil) fun u7 a w' H => ?_
  replace H := H.toM [(5, (sI (w_i64 (Int.tdiv a0 a1)))), (19, (sB (((Int.tmod a0 a1) != 0) && (!((decide (a0 < 0)) == (decide (a1 < 0)))))))]
  refine k_cond H (by kernel_rfl) (t := (((Int.tmod a0 a1) != 0) && (!((decide (a0 < 0)) == (decide (a1 < 0)))))) (by kernel_rfl) (fun c10 => ?_) (fun c10 => ?_)
  ·rw [if_pos c10] at G
   refine k_rg mixed H (.v 20 (vI (w_i64 (Int.tdiv a0 a1))) <|
   .v 21 (vI (w_i64 ((w_i64 (Int.tdiv a0 a1)) - 1))) <|
   .v 5 (vI (w_i64 ((w_i64 (Int.tdiv a0 a1)) - 1))) <| .nil) fun u9 a w' H => ?_
   replace H := H.toM [(5, (sI (w_i64 ((w_i64 (Int.tdiv a0 a1)) - 1))))]
   obtain rfl := Option.some.inj G
   exact H.toL _ (by kernel_rfl)
  ·rw [if_neg (nt c10)] at G
   refine k_skip ?_
   obtain rfl := Option.some.inj G
   exact H.toL _ (by kernel_rfl)

set_option maxHeartbeats 4000000 in
theorem armillaryref02_Ceil.calls (a0 : Int) (a1 : Int) (r : Int) (w : World) (G : armillaryref02_Ceil a0 a1 = some r) :
  Calls Tryd.prog 92 #[vI a0, vI a1] w fun e w' => e = .returned (vI r) ∧ Below w.heap.size w w' := by
 refine k_enter (args := [vI a0, vI a1]) 10 Tryd.func92 rfl (by kernel_rfl) (by kernel_rfl) fun a H => ?_
 unfold armillaryref02_Ceil at G
 refine k_seq ?_
 refine k_rg mixed H (.v 4 (vI 0) <| .nil) fun u1 a w' H => ?_
 replace H := H.toM [(0, sI a0), (1, sI a1)]
 refine k_seq ?_
 replace G := bnd G; obtain ⟨t3, ht3, G⟩ := G
 refine k_rg mixed H (.v 5 (vI a0) <|
   .v 6 (vI (w_i64 (0 - a0))) <|
   .v 7 (vI a1) <|
   .cons [8] (ok_callv 91 (fun u2 => #[vI (w_i64 (0 - a0)), vI a1]) (vI t3) 8 [] (fun _ w _ => armillaryref02_Floor.calls (w_i64 (0 - a0)) a1 t3 w ht3)) <|
   .v 9 (vI (w_i64 (0 - t3))) <|
   .v 4 (vI (w_i64 (0 - t3))) <| .nil) fun u2 a w' H => ?_
 replace H := H.toM [(4, (sI (w_i64 (0 - t3))))]
 refine k_ret ?_
 obtain rfl := Option.some.inj G
 exact k_done0 H _ (by kernel_rfl) (by kernel_rfl)

set_option maxHeartbeats 4000000 in
theorem armillaryref02_Square.calls (a0 : TInterval) (r : TInterval) (w : World) (G : armillaryref02_Square a0 = some r) :
  Calls Tryd.prog 65 #[.agg #[vI a0.Lo, vI a0.Hi]] w fun e w' => e = .returned (.agg #[vI r.Lo, vI r.Hi]) ∧ Below w.heap.size w w' := by
 refine k_enter (args := [.agg #[vI a0.Lo, vI a0.Hi]]) 43 Tryd.func65 rfl (by kernel_rfl) (by kernel_rfl) fun a H => ?_
 unfold armillaryref02_Square at G
 refine k_seq ?_
 refine k_rg mixed H (.cons [1, 43] (ok_new (fun b => vP b 0) (fun u1 => [vI a0.Lo, vI a0.Hi]) 38 1 43) <|
   .cons [2, 44] (ok_new (fun b => vP b 0) (fun u1 => [vI 0, vI 0]) 38 2 44) <| .nil) fun u1 a w' H => ?_
 replace H := H.toM [(1, (sP ((u1 0).n 0) 0)), (2, (sP ((u1 1).n 0) 0)), (43, .blk ((u1 0).n 0) [vI a0.Lo, vI a0.Hi] 38), (44, .blk ((u1 1).n 0) [vI 0, vI 0] 38)]
 refine k_seq ?_
 refine k_seq ?_
 replace G := bnd G; obtain ⟨t3, ht3, G⟩ := G
 refine k_rg mixed H (.cons [5] (ok_ld (fun u2 => .agg #[vI a0.Lo, vI a0.Hi]) 5 43 0 2 (fun u2 => ((u1 0).n 0)) (fun u2 => [vI a0.Lo, vI a0.Hi]) 38) <|
   .cons [6] (ok_callv 75 (fun u2 => #[.agg #[vI a0.Lo, vI a0.Hi]]) (.bool t3) 6 [] (fun _ w _ => armillaryref02_IsEntire.calls a0 t3 w ht3)) <| .nil) fun u2 a w' H => ?_
 replace H := H.toM [(1, (sP ((u1 0).n 0) 0)), (2, (sP ((u1 1).n 0) 0)), (6, sB t3), (43, .blk ((u1 0).n 0) [vI a0.Lo, vI a0.Hi] 38), (44, .blk ((u1 1).n 0) [vI 0, vI 0] 38)]
 refine k_cond H (by kernel_rfl) (t := t3) (by kernel_rfl) (fun c16 => ?_) (fun c16 => ?_)
 ·rw [if_pos c16] at G
  refine k_seq ?_
  replace G := bnd G; obtain ⟨t5, ht5, G⟩ := G
  refine k_rg mixed H (.cons [7] (ok_callv 66 (fun u4 => #[]) (.agg #[vI t5.Lo, vI t5.Hi]) 7 [] (fun _ w _ => armillaryref02_Entire.calls  t5 w ht5)) <|
   .cons [44] (ok_as (u' := fun u4 => [(44, .blk ((u1 1).n 0) [vI t5.Lo, vI t5.Hi] 38)]) (ok_store 44 0 (fun u4 => ((u1 1).n 0)) (fun u4 => [vI 0, vI 0]) (fun u4 => [vI t5.Lo, vI t5.Hi]) 38) (fun _ => by kernel_rfl)) <| .nil) fun u4 a w' H => ?_
  replace H := H.toM [(2, (sP ((u1 1).n 0) 0)), (44, .blk ((u1 1).n 0) [vI t5.Lo, vI t5.Hi] 38)]
  refine k_ret ?_
  obtain rfl := Option.some.inj G
  exact k_done1 H _ 44 ((u1 1).n 0) [vI t5.Lo, vI t5.Hi] 38 0 2 (by kernel_rfl) (by kernel_rfl) (by kernel_rfl) (by kernel_rfl)
 ·rw [if_neg (nt c16)] at G
  refine k_skip ?_
  refine k_seq ?_
  refine k_rg mixed H (.v 8 (vP ((u1 0).n 0) 0) <|
   .cons [9] (ok_ld (fun u6 => vI a0.Lo) 9 43 0 1 (fun u6 => ((u1 0).n 0)) (fun u6 => [vI a0.Lo, vI a0.Hi]) 38) <|
   .v 10 (vP ((u1 0).n 0) 0) <|
   .cons [11] (ok_ld (fun u6 => vI a0.Lo) 11 43 0 1 (fun u6 => ((u1 0).n 0)) (fun u6 => [vI a0.Lo, vI a0.Hi]) 38) <|
   .v 12 (vI (w_i64 (a0.Lo * a0.Lo))) <|
   .v 13 (vP ((u1 0).n 0) 1) <|
   .cons [14] (ok_ld (fun u6 => vI a0.Hi) 14 43 1 1 (fun u6 => ((u1 0).n 0)) (fun u6 => [vI a0.Lo, vI a0.Hi]) 38) <|
   .v 15 (vP ((u1 0).n 0) 1) <|
   .cons [16] (ok_ld (fun u6 => vI a0.Hi) 16 43 1 1 (fun u6 => ((u1 0).n 0)) (fun u6 => [vI a0.Lo, vI a0.Hi]) 38) <|
   .v 17 (vI (w_i64 (a0.Hi * a0.Hi))) <|
   .v 18 (vI (mn (w_i64 (a0.Lo * a0.Lo)) (w_i64 (a0.Hi * a0.Hi)))) <|
   .v 19 (vP ((u1 0).n 0) 0) <|
   .cons [20] (ok_ld (fun u6 => vI a0.Lo) 20 43 0 1 (fun u6 => ((u1 0).n 0)) (fun u6 => [vI a0.Lo, vI a0.Hi]) 38) <|
   .v 21 (vP ((u1 0).n 0) 0) <|
   .cons [22] (ok_ld (fun u6 => vI a0.Lo) 22 43 0 1 (fun u6 => ((u1 0).n 0)) (fun u6 => [vI a0.Lo, vI a0.Hi]) 38) <|
   .v 23 (vI (w_i64 (a0.Lo * a0.Lo))) <|
   .v 24 (vP ((u1 0).n 0) 1) <|
   .cons [25] (ok_ld (fun u6 => vI a0.Hi) 25 43 1 1 (fun u6 => ((u1 0).n 0)) (fun u6 => [vI a0.Lo, vI a0.Hi]) 38) <|
   .v 26 (vP ((u1 0).n 0) 1) <|
   .cons [27] (ok_ld (fun u6 => vI a0.Hi) 27 43 1 1 (fun u6 => ((u1 0).n 0)) (fun u6 => [vI a0.Lo, vI a0.Hi]) 38) <|
   .v 28 (vI (w_i64 (a0.Hi * a0.Hi))) <|
   .v 29 (vI (mx (w_i64 (a0.Lo * a0.Lo)) (w_i64 (a0.Hi * a0.Hi)))) <|
   .v 3 (vI (mn (w_i64 (a0.Lo * a0.Lo)) (w_i64 (a0.Hi * a0.Hi)))) <|
   .v 4 (vI (mx (w_i64 (a0.Lo * a0.Lo)) (w_i64 (a0.Hi * a0.Hi)))) <| .nil) fun u6 a w' H => ?_
  replace H := H.toM [(1, (sP ((u1 0).n 0) 0)), (2, (sP ((u1 1).n 0) 0)), (3, (sI (mn (w_i64 (a0.Lo * a0.Lo)) (w_i64 (a0.Hi * a0.Hi))))), (4, (sI (mx (w_i64 (a0.Lo * a0.Lo)) (w_i64 (a0.Hi * a0.Hi))))), (43, .blk ((u1 0).n 0) [vI a0.Lo, vI a0.Hi] 38), (44, .blk ((u1 1).n 0) [vI 0, vI 0] 38)]
  refine k_seq ?_
  replace G := bnd G; obtain ⟨j8, hj8, G⟩ := G
  refine k_join (fun a w' => Rep w.heap.size w 43 (ofL [(2, (sP ((u1 1).n 0) 0)), (3, sI j8), (4, (sI (mx (w_i64 (a0.Lo * a0.Lo)) (w_i64 (a0.Hi * a0.Hi))))), (44, .blk ((u1 1).n 0) [vI 0, vI 0] 38)]) a w') ?_ ?_
  ·clear H; intro a w' H
   refine k_seq ?_
   replace G := bnd G; obtain ⟨t10, ht10, G⟩ := G
   replace G := bnd G; obtain ⟨t11, ht11, G⟩ := G
   replace G := bnd G; obtain ⟨t12, ht12, G⟩ := G
   refine k_rg mixed H (.v 38 (vI j8) <|
   .cons [39] (ok_callv 91 (fun u9 => #[vI j8, vI 65536]) (vI t10) 39 [] (fun _ w _ => armillaryref02_Floor.calls j8 65536 t10 w ht10)) <|
   .v 40 (vI (mx (w_i64 (a0.Lo * a0.Lo)) (w_i64 (a0.Hi * a0.Hi)))) <|
   .cons [41] (ok_callv 92 (fun u9 => #[vI (mx (w_i64 (a0.Lo * a0.Lo)) (w_i64 (a0.Hi * a0.Hi))), vI 65536]) (vI t11) 41 [] (fun _ w _ => armillaryref02_Ceil.calls (mx (w_i64 (a0.Lo * a0.Lo)) (w_i64 (a0.Hi * a0.Hi))) 65536 t11 w ht11)) <|
   .cons [42] (ok_callv 48 (fun u9 => #[vI t10, vI t11]) (.agg #[vI t12.Lo, vI t12.Hi]) 42 [] (fun _ w _ => armillaryref02_New.calls t10 t11 t12 w ht12)) <|
   .cons [44] (ok_as (u' := fun u9 => [(44, .blk ((u1 1).n 0) [vI t12.Lo, vI t12.Hi] 38)]) (ok_store 44 0 (fun u9 => ((u1 1).n 0)) (fun u9 => [vI 0, vI 0]) (fun u9 => [vI t12.Lo, vI t12.Hi]) 38) (fun _ => by kernel_rfl)) <| .nil) fun u9 a w' H => ?_
   replace H := H.toM [(2, (sP ((u1 1).n 0) 0)), (44, .blk ((u1 1).n 0) [vI t12.Lo, vI t12.Hi] 38)]
   refine k_ret ?_
   obtain rfl := Option.some.inj G
   exact k_done1 H _ 44 ((u1 1).n 0) [vI t12.Lo, vI t12.Hi] 38 0 2 (by kernel_rfl) (by kernel_rfl) (by kernel_rfl) (by kernel_rfl)
  ·clear G; replace G := hj8; clear hj8
   refine k_seq ?_
   refine k_rg mixed H (.v 30 (vP ((u1 0).n 0) 0) <|
   .cons [31] (ok_ld (fun u13 => vI a0.Lo) 31 43 0 1 (fun u13 => ((u1 0).n 0)) (fun u13 => [vI a0.Lo, vI a0.Hi]) 38) <|
   .v 32 (.bool (decide (a0.Lo ≤ 0))) <|
   .v 33 (.bool (decide (a0.Lo ≤ 0))) <|
   .cons [34] (ok_valg (fun u13 => vP ((u1 0).n 0) 1) (fun u13 => ((decide (a0.Lo ≤ 0)) == true)) [true] 34) <|
   .cons [35] (ok_ldg (fun u13 => vI a0.Hi) (fun u13 => ((decide (a0.Lo ≤ 0)) == true)) [false] 35 43 1 1 (fun u13 => ((u1 0).n 0)) (fun u13 => [vI a0.Lo, vI a0.Hi]) 38) <|
   .cons [36] (ok_valg (fun u13 => .bool (decide (a0.Hi ≥ 0))) (fun u13 => ((decide (a0.Lo ≤ 0)) == true)) [false, true] 36) <|
   .cons [37] (ok_and 33 36 (fun u13 => true) (fun u13 => true) (fun u13 => decide (a0.Lo ≤ 0)) (fun u13 => decide (a0.Hi ≥ 0)) 37) <| .nil) fun u13 a w' H => ?_
   replace H := H.toM [(2, (sP ((u1 1).n 0) 0)), (3, (sI (mn (w_i64 (a0.Lo * a0.Lo)) (w_i64 (a0.Hi * a0.Hi))))), (4, (sI (mx (w_i64 (a0.Lo * a0.Lo)) (w_i64 (a0.Hi * a0.Hi))))), (37, (sB ((decide (a0.Lo ≤ 0)) && (decide (a0.Hi ≥ 0))))), (44, .blk ((u1 1).n 0) [vI 0, vI 0] 38)]
   refine k_cond H (by kernel_rfl) (t := ((decide (a0.Lo ≤ 0)) && (decide (a0.Hi ≥ 0)))) (by kernel_rfl) (fun c15 => ?_) (fun c15 => ?_)
   ·rw [if_pos c15] at G
    refine k_rg mixed H (.v 3 (vI 0) <| .nil) fun u14 a w' H => ?_
    replace H := H.toM [(2, (sP ((u1 1).n 0) 0)), (3, sI 0), (4, (sI (mx (w_i64 (a0.Lo * a0.Lo)) (w_i64 (a0.Hi * a0.Hi))))), (44, .blk ((u1 1).n 0) [vI 0, vI 0] 38)]
    obtain rfl := Option.some.inj G
    exact H.toL _ (by kernel_rfl)
   ·rw [if_neg (nt c15)] at G
    refine k_skip ?_
    obtain rfl := Option.some.inj G
    exact H.toL _ (by kernel_rfl)

set_option maxHeartbeats 4000000 in
theorem armillaryref02_Root.calls (k0 : Nat) (a0 : Int) (r : Int) (w : World) (G : armillaryref02_Root k0 a0 = some r) :
  Calls Tryd.prog 93 #[vI a0] w fun e w' => e = .returned (vI r) ∧ Below w.heap.size w w' := by
 refine k_enter (args := [vI a0]) 22 Tryd.func93 rfl (by kernel_rfl) (by kernel_rfl) fun a H => ?_
 unfold armillaryref02_Root at G
 refine k_seq ?_
 refine k_rg mixed H (.v 2 (vI 0) <| .nil) fun u1 a w' H => ?_
 replace H := H.toM [(0, sI a0)]
 refine k_seq ?_
 refine k_rg mixed H (.v 3 (vI 0) <| .nil) fun u2 a w' H => ?_
 replace H := H.toM [(0, sI a0), (3, sI 0)]
 refine k_seq ?_
 replace G := bnd G; obtain ⟨j4, hj4, G⟩ := G
 refine k_join (fun a w' => Rep w.heap.size w 22 (ofL [(3, sI j4)]) a w') ?_ ?_
 ·clear H; intro a w' H
  refine k_seq ?_
  refine k_rg mixed H (.v 21 (vI j4) <|
   .v 2 (vI j4) <| .nil) fun u5 a w' H => ?_
  replace H := H.toM [(2, sI j4)]
  refine k_ret ?_
  obtain rfl := Option.some.inj G
  exact k_done0 H _ (by kernel_rfl) (by kernel_rfl)
 ·clear G; replace G := hj4; clear hj4
  refine k_seq ?_
  refine k_rg mixed H (.v 4 (vI 1073741824) <| .nil) fun u6 a w' H => ?_
  replace H := H.toM [(0, sI a0), (3, sI 0), (4, sI 1073741824)]
  refine k_block ?_
  refine k_loopJ (fun m a w' => ∃ x7 : Int, ∃ x8 : Int, armillaryref02_Root.l9 k0 a0 m x7 x8 = some j4 ∧ Rep w.heap.size w 22 (ofL [(0, sI a0), (3, sI x7), (4, sI x8)]) a w') k0 ⟨_, _, G, H.toL _ (by kernel_rfl)⟩ ?_
  clear G H
  rintro (_ | k) a w' ⟨x7, x8, G, H⟩
  ·exact absurd G (by unfold armillaryref02_Root.l9; exact fun h => by cases h)
  ·unfold armillaryref02_Root.l9 at G
   refine k_seq ?_
   refine k_seq ?_
   refine k_rg mixed H (.v 5 (vI x8) <|
   .v 6 (.bool (decide (x8 > 0))) <| .nil) fun u10 a w' H => ?_
   replace H := H.toM [(0, sI a0), (3, sI x7), (4, sI x8), (6, (sB (decide (x8 > 0))))]
   refine k_cond H (by kernel_rfl) (t := decide (x8 > 0)) (by kernel_rfl) (fun c17 => ?_) (fun c17 => ?_)
   ·rw [if_pos c17] at G
    refine k_skip ?_
    refine k_seq ?_
    replace G := bnd G; obtain ⟨j12, hj12, G⟩ := G
    refine k_join (fun a w' => Rep w.heap.size w 22 (ofL [(0, sI a0), (3, sI j12), (4, sI x8)]) a w') ?_ ?_
    ·clear H; intro a w' H
     refine k_rg mixed H (.v 7 (vI x8) <|
   .v 8 (vI (w_i64 (Int.tdiv x8 2))) <|
   .v 4 (vI (w_i64 (Int.tdiv x8 2))) <| .nil) fun u13 a w' H => ?_
     replace H := H.toM [(0, sI a0), (3, sI j12), (4, (sI (w_i64 (Int.tdiv x8 2))))]
     exact ⟨k, Nat.lt_succ_self k, _, _, G, H.toL _ (by kernel_rfl)⟩
    ·clear G; replace G := hj12; clear hj12
     refine k_block ?_
     refine k_seq ?_
     refine k_rg mixed H (.v 9 (vI x7) <|
   .v 10 (vI x8) <|
   .v 11 (vI (w_i64 (x7 + x8))) <|
   .v 12 (vI x7) <|
   .v 13 (vI x8) <|
   .v 14 (vI (w_i64 (x7 + x8))) <|
   .v 15 (vI (w_i64 ((w_i64 (x7 + x8)) * (w_i64 (x7 + x8))))) <|
   .v 16 (vI a0) <|
   .v 17 (.bool (decide ((w_i64 ((w_i64 (x7 + x8)) * (w_i64 (x7 + x8)))) ≤ a0))) <| .nil) fun u14 a w' H => ?_
     replace H := H.toM [(0, sI a0), (3, sI x7), (4, sI x8), (17, (sB (decide ((w_i64 ((w_i64 (x7 + x8)) * (w_i64 (x7 + x8)))) ≤ a0))))]
     refine k_cond H (by kernel_rfl) (t := decide ((w_i64 ((w_i64 (x7 + x8)) * (w_i64 (x7 + x8)))) ≤ a0)) (by kernel_rfl) (fun c16 => ?_) (fun c16 => ?_)
     ·rw [if_pos c16] at G
      refine k_rg mixed H (.v 18 (vI x7) <|
   .v 19 (vI x8) <|
   .v 20 (vI (w_i64 (x7 + x8))) <|
   .v 3 (vI (w_i64 (x7 + x8))) <| .nil) fun u15 a w' H => ?_
      replace H := H.toM [(0, sI a0), (3, (sI (w_i64 (x7 + x8)))), (4, sI x8)]
      obtain rfl := Option.some.inj G
      exact H.toL _ (by kernel_rfl)
     ·rw [if_neg (nt c16)] at G
      refine k_skip ?_
      obtain rfl := Option.some.inj G
      exact H.toL _ (by kernel_rfl)
   ·rw [if_neg (nt c17)] at G
    refine k_exit rfl ?_
    obtain rfl := Option.some.inj G
    exact H.toL _ (by kernel_rfl)

set_option maxHeartbeats 4000000 in
theorem armillaryref02_Sqrt.calls (k0 : Nat) (a0 : TInterval) (r : TInterval × Bool) (w : World) (G : armillaryref02_Sqrt k0 a0 = some r) :
  Calls Tryd.prog 67 #[.agg #[vI a0.Lo, vI a0.Hi]] w fun e w' => e = .returned (.tuple #[.agg #[vI r.1.Lo, vI r.1.Hi], .bool r.2]) ∧ Below w.heap.size w w' := by
 refine k_enter (args := [.agg #[vI a0.Lo, vI a0.Hi]]) 34 Tryd.func67 rfl (by kernel_rfl) (by kernel_rfl) fun a H => ?_
 unfold armillaryref02_Sqrt at G
 refine k_seq ?_
 refine k_rg mixed H (.cons [1, 34] (ok_new (fun b => vP b 0) (fun u1 => [vI a0.Lo, vI a0.Hi]) 38 1 34) <|
   .cons [2, 35] (ok_new (fun b => vP b 0) (fun u1 => [vI 0, vI 0]) 38 2 35) <|
   .v 3 (.bool false) <| .nil) fun u1 a w' H => ?_
 replace H := H.toM [(1, (sP ((u1 0).n 0) 0)), (2, (sP ((u1 1).n 0) 0)), (34, .blk ((u1 0).n 0) [vI a0.Lo, vI a0.Hi] 38), (35, .blk ((u1 1).n 0) [vI 0, vI 0] 38)]
 refine k_seq ?_
 refine k_seq ?_
 replace G := bnd G; obtain ⟨t3, ht3, G⟩ := G
 refine k_rg mixed H (.cons [6] (ok_ld (fun u2 => .agg #[vI a0.Lo, vI a0.Hi]) 6 34 0 2 (fun u2 => ((u1 0).n 0)) (fun u2 => [vI a0.Lo, vI a0.Hi]) 38) <|
   .cons [7] (ok_callv 75 (fun u2 => #[.agg #[vI a0.Lo, vI a0.Hi]]) (.bool t3) 7 [] (fun _ w _ => armillaryref02_IsEntire.calls a0 t3 w ht3)) <| .nil) fun u2 a w' H => ?_
 replace H := H.toM [(1, (sP ((u1 0).n 0) 0)), (2, (sP ((u1 1).n 0) 0)), (7, sB t3), (34, .blk ((u1 0).n 0) [vI a0.Lo, vI a0.Hi] 38), (35, .blk ((u1 1).n 0) [vI 0, vI 0] 38)]
 refine k_cond H (by kernel_rfl) (t := t3) (by kernel_rfl) (fun c18 => ?_) (fun c18 => ?_)
 ·rw [if_pos c18] at G
  refine k_seq ?_
  refine k_rg mixed H (.cons [8] (ok_ld (fun u4 => .agg #[vI a0.Lo, vI a0.Hi]) 8 34 0 2 (fun u4 => ((u1 0).n 0)) (fun u4 => [vI a0.Lo, vI a0.Hi]) 38) <|
   .cons [35] (ok_as (u' := fun u4 => [(35, .blk ((u1 1).n 0) [vI a0.Lo, vI a0.Hi] 38)]) (ok_store 35 0 (fun u4 => ((u1 1).n 0)) (fun u4 => [vI 0, vI 0]) (fun u4 => [vI a0.Lo, vI a0.Hi]) 38) (fun _ => by kernel_rfl)) <|
   .v 3 (.bool true) <| .nil) fun u4 a w' H => ?_
  replace H := H.toM [(2, (sP ((u1 1).n 0) 0)), (3, sB true), (35, .blk ((u1 1).n 0) [vI a0.Lo, vI a0.Hi] 38)]
  refine k_ret ?_
  obtain rfl := Option.some.inj G
  exact k_done1 H _ 35 ((u1 1).n 0) [vI a0.Lo, vI a0.Hi] 38 0 2 (by kernel_rfl) (by kernel_rfl) (by kernel_rfl) (by kernel_rfl)
 ·rw [if_neg (nt c18)] at G
  refine k_skip ?_
  refine k_seq ?_
  refine k_seq ?_
  refine k_rg mixed H (.v 9 (vP ((u1 0).n 0) 1) <|
   .cons [10] (ok_ld (fun u5 => vI a0.Hi) 10 34 1 1 (fun u5 => ((u1 0).n 0)) (fun u5 => [vI a0.Lo, vI a0.Hi]) 38) <|
   .v 11 (.bool (decide (a0.Hi < 0))) <| .nil) fun u5 a w' H => ?_
  replace H := H.toM [(1, (sP ((u1 0).n 0) 0)), (2, (sP ((u1 1).n 0) 0)), (11, (sB (decide (a0.Hi < 0)))), (34, .blk ((u1 0).n 0) [vI a0.Lo, vI a0.Hi] 38), (35, .blk ((u1 1).n 0) [vI 0, vI 0] 38)]
  refine k_cond H (by kernel_rfl) (t := decide (a0.Hi < 0)) (by kernel_rfl) (fun c17 => ?_) (fun c17 => ?_)
  ·rw [if_pos c17] at G
   refine k_seq ?_
   refine k_rg mixed H (.v 12 (.agg #[vI 0, vI 0]) <|
   .cons [35] (ok_as (u' := fun u6 => [(35, .blk ((u1 1).n 0) [vI 0, vI 0] 38)]) (ok_store 35 0 (fun u6 => ((u1 1).n 0)) (fun u6 => [vI 0, vI 0]) (fun u6 => [vI 0, vI 0]) 38) (fun _ => by kernel_rfl)) <|
   .v 3 (.bool false) <| .nil) fun u6 a w' H => ?_
   replace H := H.toM [(2, (sP ((u1 1).n 0) 0)), (3, sB false), (35, .blk ((u1 1).n 0) [vI 0, vI 0] 38)]
   refine k_ret ?_
   obtain rfl := Option.some.inj G
   exact k_done1 H _ 35 ((u1 1).n 0) [vI 0, vI 0] 38 0 2 (by kernel_rfl) (by kernel_rfl) (by kernel_rfl) (by kernel_rfl)
  ·rw [if_neg (nt c17)] at G
   refine k_skip ?_
   refine k_seq ?_
   replace G := bnd G; obtain ⟨t8, ht8, G⟩ := G
   replace G := bnd G; obtain ⟨t9, ht9, G⟩ := G
   refine k_rg mixed H (.v 13 (vP ((u1 0).n 0) 0) <|
   .cons [14] (ok_ld (fun u7 => vI a0.Lo) 14 34 0 1 (fun u7 => ((u1 0).n 0)) (fun u7 => [vI a0.Lo, vI a0.Hi]) 38) <|
   .v 15 (vI (mx a0.Lo 0)) <|
   .v 16 (vI (w_i64 ((mx a0.Lo 0) * 65536))) <|
   .cons [17] (ok_callv 93 (fun u7 => #[vI (w_i64 ((mx a0.Lo 0) * 65536))]) (vI t8) 17 [] (fun _ w _ => armillaryref02_Root.calls k0 (w_i64 ((mx a0.Lo 0) * 65536)) t8 w ht8)) <|
   .v 18 (vP ((u1 0).n 0) 1) <|
   .cons [19] (ok_ld (fun u7 => vI a0.Hi) 19 34 1 1 (fun u7 => ((u1 0).n 0)) (fun u7 => [vI a0.Lo, vI a0.Hi]) 38) <|
   .v 20 (vI (w_i64 (a0.Hi * 65536))) <|
   .cons [21] (ok_callv 93 (fun u7 => #[vI (w_i64 (a0.Hi * 65536))]) (vI t9) 21 [] (fun _ w _ => armillaryref02_Root.calls k0 (w_i64 (a0.Hi * 65536)) t9 w ht9)) <|
   .v 4 (vI t8) <|
   .v 5 (vI t9) <| .nil) fun u7 a w' H => ?_
   replace H := H.toM [(1, (sP ((u1 0).n 0) 0)), (2, (sP ((u1 1).n 0) 0)), (4, sI t8), (5, sI t9), (34, .blk ((u1 0).n 0) [vI a0.Lo, vI a0.Hi] 38), (35, .blk ((u1 1).n 0) [vI 0, vI 0] 38)]
   refine k_seq ?_
   replace G := bnd G; obtain ⟨j11, hj11, G⟩ := G
   refine k_join (fun a w' => Rep w.heap.size w 34 (ofL [(2, (sP ((u1 1).n 0) 0)), (4, sI t8), (5, sI j11), (35, .blk ((u1 1).n 0) [vI 0, vI 0] 38)]) a w') ?_ ?_
   ·clear H; intro a w' H
    refine k_seq ?_
    replace G := bnd G; obtain ⟨t13, ht13, G⟩ := G
    refine k_rg mixed H (.v 31 (vI t8) <|
   .v 32 (vI j11) <|
   .cons [33] (ok_callv 48 (fun u12 => #[vI t8, vI j11]) (.agg #[vI t13.Lo, vI t13.Hi]) 33 [] (fun _ w _ => armillaryref02_New.calls t8 j11 t13 w ht13)) <|
   .cons [35] (ok_as (u' := fun u12 => [(35, .blk ((u1 1).n 0) [vI t13.Lo, vI t13.Hi] 38)]) (ok_store 35 0 (fun u12 => ((u1 1).n 0)) (fun u12 => [vI 0, vI 0]) (fun u12 => [vI t13.Lo, vI t13.Hi]) 38) (fun _ => by kernel_rfl)) <|
   .v 3 (.bool true) <| .nil) fun u12 a w' H => ?_
    replace H := H.toM [(2, (sP ((u1 1).n 0) 0)), (3, sB true), (35, .blk ((u1 1).n 0) [vI t13.Lo, vI t13.Hi] 38)]
    refine k_ret ?_
    obtain rfl := Option.some.inj G
    exact k_done1 H _ 35 ((u1 1).n 0) [vI t13.Lo, vI t13.Hi] 38 0 2 (by kernel_rfl) (by kernel_rfl) (by kernel_rfl) (by kernel_rfl)
   ·clear G; replace G := hj11; clear hj11
    refine k_seq ?_
    refine k_rg mixed H (.v 22 (vI t9) <|
   .v 23 (vI t9) <|
   .v 24 (vI (w_i64 (t9 * t9))) <|
   .v 25 (vP ((u1 0).n 0) 1) <|
   .cons [26] (ok_ld (fun u14 => vI a0.Hi) 26 34 1 1 (fun u14 => ((u1 0).n 0)) (fun u14 => [vI a0.Lo, vI a0.Hi]) 38) <|
   .v 27 (vI (w_i64 (a0.Hi * 65536))) <|
   .v 28 (.bool (decide ((w_i64 (t9 * t9)) < (w_i64 (a0.Hi * 65536))))) <| .nil) fun u14 a w' H => ?_
    replace H := H.toM [(2, (sP ((u1 1).n 0) 0)), (4, sI t8), (5, sI t9), (28, (sB (decide ((w_i64 (t9 * t9)) < (w_i64 (a0.Hi * 65536)))))), (35, .blk ((u1 1).n 0) [vI 0, vI 0] 38)]
    refine k_cond H (by kernel_rfl) (t := decide ((w_i64 (t9 * t9)) < (w_i64 (a0.Hi * 65536)))) (by kernel_rfl) (fun c16 => ?_) (fun c16 => ?_)
    ·rw [if_pos c16] at G
     refine k_rg mixed H (.v 29 (vI t9) <|
   .v 30 (vI (w_i64 (t9 + 1))) <|
   .v 5 (vI (w_i64 (t9 + 1))) <| .nil) fun u15 a w' H => ?_
     replace H := H.toM [(2, (sP ((u1 1).n 0) 0)), (4, sI t8), (5, (sI (w_i64 (t9 + 1)))), (35, .blk ((u1 1).n 0) [vI 0, vI 0] 38)]
     obtain rfl := Option.some.inj G
     exact H.toL _ (by kernel_rfl)
    ·rw [if_neg (nt c16)] at G
     refine k_skip ?_
     obtain rfl := Option.some.inj G
     exact H.toL _ (by kernel_rfl)

set_option maxHeartbeats 4000000 in
theorem armillaryref02_Add.calls (a0 : TInterval) (a1 : TInterval) (r : TInterval) (w : World) (G : armillaryref02_Add a0 a1 = some r) :
  Calls Tryd.prog 68 #[.agg #[vI a0.Lo, vI a0.Hi], .agg #[vI a1.Lo, vI a1.Hi]] w fun e w' => e = .returned (.agg #[vI r.Lo, vI r.Hi]) ∧ Below w.heap.size w w' := by
 refine k_enter (args := [.agg #[vI a0.Lo, vI a0.Hi], .agg #[vI a1.Lo, vI a1.Hi]]) 23 Tryd.func68 rfl (by kernel_rfl) (by kernel_rfl) fun a H => ?_
 unfold armillaryref02_Add at G
 refine k_seq ?_
 refine k_rg mixed H (.cons [2, 23] (ok_new (fun b => vP b 0) (fun u1 => [vI a0.Lo, vI a0.Hi]) 38 2 23) <|
   .cons [3, 24] (ok_new (fun b => vP b 0) (fun u1 => [vI a1.Lo, vI a1.Hi]) 38 3 24) <|
   .cons [4, 25] (ok_new (fun b => vP b 0) (fun u1 => [vI 0, vI 0]) 38 4 25) <| .nil) fun u1 a w' H => ?_
 replace H := H.toM [(2, (sP ((u1 0).n 0) 0)), (3, (sP ((u1 1).n 0) 0)), (4, (sP ((u1 2).n 0) 0)), (23, .blk ((u1 0).n 0) [vI a0.Lo, vI a0.Hi] 38), (24, .blk ((u1 1).n 0) [vI a1.Lo, vI a1.Hi] 38), (25, .blk ((u1 2).n 0) [vI 0, vI 0] 38)]
 refine k_seq ?_
 refine k_seq ?_
 replace G := bnd G; obtain ⟨t3, ht3, G⟩ := G
 replace G := bnd G; obtain ⟨t4, ht4, G⟩ := G
 refine k_rg mixed H (.cons [5] (ok_ld (fun u2 => .agg #[vI a0.Lo, vI a0.Hi]) 5 23 0 2 (fun u2 => ((u1 0).n 0)) (fun u2 => [vI a0.Lo, vI a0.Hi]) 38) <|
   .cons [6] (ok_callv 75 (fun u2 => #[.agg #[vI a0.Lo, vI a0.Hi]]) (.bool t3) 6 [] (fun _ w _ => armillaryref02_IsEntire.calls a0 t3 w ht3)) <|
   .v 7 (.bool t3) <|
   .cons [8] (ok_ldg (fun u2 => .agg #[vI a1.Lo, vI a1.Hi]) (fun u2 => (t3 == false)) [true] 8 24 0 2 (fun u2 => ((u1 1).n 0)) (fun u2 => [vI a1.Lo, vI a1.Hi]) 38) <|
   .cons [9] (ok_call 75 (fun u2 => #[.agg #[vI a1.Lo, vI a1.Hi]]) (.bool t4) (fun u2 => (t3 == false)) [true, false] 9 [] (fun _ w hg _ => armillaryref02_IsEntire.calls a1 t4 w (ifp ht4 hg))) <|
   .cons [10] (ok_or 7 9 (fun u2 => true) (fun u2 => true) (fun u2 => t3) (fun u2 => t4) 10) <| .nil) fun u2 a w' H => ?_
 replace H := H.toM [(2, (sP ((u1 0).n 0) 0)), (3, (sP ((u1 1).n 0) 0)), (4, (sP ((u1 2).n 0) 0)), (10, (sB (t3 || t4))), (23, .blk ((u1 0).n 0) [vI a0.Lo, vI a0.Hi] 38), (24, .blk ((u1 1).n 0) [vI a1.Lo, vI a1.Hi] 38), (25, .blk ((u1 2).n 0) [vI 0, vI 0] 38)]
 refine k_cond H (by kernel_rfl) (t := (t3 || t4)) (by kernel_rfl) (fun c9 => ?_) (fun c9 => ?_)
 ·rw [if_pos c9] at G
  refine k_seq ?_
  replace G := bnd G; obtain ⟨t6, ht6, G⟩ := G
  refine k_rg mixed H (.cons [11] (ok_callv 66 (fun u5 => #[]) (.agg #[vI t6.Lo, vI t6.Hi]) 11 [] (fun _ w _ => armillaryref02_Entire.calls  t6 w ht6)) <|
   .cons [25] (ok_as (u' := fun u5 => [(25, .blk ((u1 2).n 0) [vI t6.Lo, vI t6.Hi] 38)]) (ok_store 25 0 (fun u5 => ((u1 2).n 0)) (fun u5 => [vI 0, vI 0]) (fun u5 => [vI t6.Lo, vI t6.Hi]) 38) (fun _ => by kernel_rfl)) <| .nil) fun u5 a w' H => ?_
  replace H := H.toM [(4, (sP ((u1 2).n 0) 0)), (25, .blk ((u1 2).n 0) [vI t6.Lo, vI t6.Hi] 38)]
  refine k_ret ?_
  obtain rfl := Option.some.inj G
  exact k_done1 H _ 25 ((u1 2).n 0) [vI t6.Lo, vI t6.Hi] 38 0 2 (by kernel_rfl) (by kernel_rfl) (by kernel_rfl) (by kernel_rfl)
 ·rw [if_neg (nt c9)] at G
  refine k_skip ?_
  refine k_seq ?_
  replace G := bnd G; obtain ⟨t8, ht8, G⟩ := G
  refine k_rg mixed H (.v 12 (vP ((u1 0).n 0) 0) <|
   .cons [13] (ok_ld (fun u7 => vI a0.Lo) 13 23 0 1 (fun u7 => ((u1 0).n 0)) (fun u7 => [vI a0.Lo, vI a0.Hi]) 38) <|
   .v 14 (vP ((u1 1).n 0) 0) <|
   .cons [15] (ok_ld (fun u7 => vI a1.Lo) 15 24 0 1 (fun u7 => ((u1 1).n 0)) (fun u7 => [vI a1.Lo, vI a1.Hi]) 38) <|
   .v 16 (vI (w_i64 (a0.Lo + a1.Lo))) <|
   .v 17 (vP ((u1 0).n 0) 1) <|
   .cons [18] (ok_ld (fun u7 => vI a0.Hi) 18 23 1 1 (fun u7 => ((u1 0).n 0)) (fun u7 => [vI a0.Lo, vI a0.Hi]) 38) <|
   .v 19 (vP ((u1 1).n 0) 1) <|
   .cons [20] (ok_ld (fun u7 => vI a1.Hi) 20 24 1 1 (fun u7 => ((u1 1).n 0)) (fun u7 => [vI a1.Lo, vI a1.Hi]) 38) <|
   .v 21 (vI (w_i64 (a0.Hi + a1.Hi))) <|
   .cons [22] (ok_callv 48 (fun u7 => #[vI (w_i64 (a0.Lo + a1.Lo)), vI (w_i64 (a0.Hi + a1.Hi))]) (.agg #[vI t8.Lo, vI t8.Hi]) 22 [] (fun _ w _ => armillaryref02_New.calls (w_i64 (a0.Lo + a1.Lo)) (w_i64 (a0.Hi + a1.Hi)) t8 w ht8)) <|
   .cons [25] (ok_as (u' := fun u7 => [(25, .blk ((u1 2).n 0) [vI t8.Lo, vI t8.Hi] 38)]) (ok_store 25 0 (fun u7 => ((u1 2).n 0)) (fun u7 => [vI 0, vI 0]) (fun u7 => [vI t8.Lo, vI t8.Hi]) 38) (fun _ => by kernel_rfl)) <| .nil) fun u7 a w' H => ?_
  replace H := H.toM [(4, (sP ((u1 2).n 0) 0)), (25, .blk ((u1 2).n 0) [vI t8.Lo, vI t8.Hi] 38)]
  refine k_ret ?_
  obtain rfl := Option.some.inj G
  exact k_done1 H _ 25 ((u1 2).n 0) [vI t8.Lo, vI t8.Hi] 38 0 2 (by kernel_rfl) (by kernel_rfl) (by kernel_rfl) (by kernel_rfl)

set_option maxHeartbeats 4000000 in
theorem armillaryref02_Sub.calls (a0 : TInterval) (a1 : TInterval) (r : TInterval) (w : World) (G : armillaryref02_Sub a0 a1 = some r) :
  Calls Tryd.prog 69 #[.agg #[vI a0.Lo, vI a0.Hi], .agg #[vI a1.Lo, vI a1.Hi]] w fun e w' => e = .returned (.agg #[vI r.Lo, vI r.Hi]) ∧ Below w.heap.size w w' := by
 refine k_enter (args := [.agg #[vI a0.Lo, vI a0.Hi], .agg #[vI a1.Lo, vI a1.Hi]]) 9 Tryd.func69 rfl (by kernel_rfl) (by kernel_rfl) fun a H => ?_
 unfold armillaryref02_Sub at G
 refine k_seq ?_
 refine k_rg mixed H (.cons [2, 9] (ok_new (fun b => vP b 0) (fun u1 => [vI a0.Lo, vI a0.Hi]) 38 2 9) <|
   .cons [3, 10] (ok_new (fun b => vP b 0) (fun u1 => [vI a1.Lo, vI a1.Hi]) 38 3 10) <|
   .cons [4, 11] (ok_new (fun b => vP b 0) (fun u1 => [vI 0, vI 0]) 38 4 11) <| .nil) fun u1 a w' H => ?_
 replace H := H.toM [(2, (sP ((u1 0).n 0) 0)), (3, (sP ((u1 1).n 0) 0)), (4, (sP ((u1 2).n 0) 0)), (9, .blk ((u1 0).n 0) [vI a0.Lo, vI a0.Hi] 38), (10, .blk ((u1 1).n 0) [vI a1.Lo, vI a1.Hi] 38), (11, .blk ((u1 2).n 0) [vI 0, vI 0] 38)]
 refine k_seq ?_
 replace G := bnd G; obtain ⟨t3, ht3, G⟩ := G
 replace G := bnd G; obtain ⟨t4, ht4, G⟩ := G
 refine k_rg mixed H (.cons [5] (ok_ld (fun u2 => .agg #[vI a0.Lo, vI a0.Hi]) 5 9 0 2 (fun u2 => ((u1 0).n 0)) (fun u2 => [vI a0.Lo, vI a0.Hi]) 38) <|
   .cons [6] (ok_ld (fun u2 => .agg #[vI a1.Lo, vI a1.Hi]) 6 10 0 2 (fun u2 => ((u1 1).n 0)) (fun u2 => [vI a1.Lo, vI a1.Hi]) 38) <|
   .cons [7] (ok_callv 64 (fun u2 => #[.agg #[vI a1.Lo, vI a1.Hi]]) (.agg #[vI t3.Lo, vI t3.Hi]) 7 [] (fun _ w _ => armillaryref02_Neg.calls a1 t3 w ht3)) <|
   .cons [8] (ok_callv 68 (fun u2 => #[.agg #[vI a0.Lo, vI a0.Hi], .agg #[vI t3.Lo, vI t3.Hi]]) (.agg #[vI t4.Lo, vI t4.Hi]) 8 [] (fun _ w _ => armillaryref02_Add.calls a0 t3 t4 w ht4)) <|
   .cons [11] (ok_as (u' := fun u2 => [(11, .blk ((u1 2).n 0) [vI t4.Lo, vI t4.Hi] 38)]) (ok_store 11 0 (fun u2 => ((u1 2).n 0)) (fun u2 => [vI 0, vI 0]) (fun u2 => [vI t4.Lo, vI t4.Hi]) 38) (fun _ => by kernel_rfl)) <| .nil) fun u2 a w' H => ?_
 replace H := H.toM [(4, (sP ((u1 2).n 0) 0)), (11, .blk ((u1 2).n 0) [vI t4.Lo, vI t4.Hi] 38)]
 refine k_ret ?_
 obtain rfl := Option.some.inj G
 exact k_done1 H _ 11 ((u1 2).n 0) [vI t4.Lo, vI t4.Hi] 38 0 2 (by kernel_rfl) (by kernel_rfl) (by kernel_rfl) (by kernel_rfl)

set_option maxHeartbeats 4000000 in
theorem armillaryref02_Mul.calls (k0 : Nat) (a0 : TInterval) (a1 : TInterval) (r : TInterval) (w : World) (G : armillaryref02_Mul k0 a0 a1 = some r) :
  Calls Tryd.prog 70 #[.agg #[vI a0.Lo, vI a0.Hi], .agg #[vI a1.Lo, vI a1.Hi]] w fun e w' => e = .returned (.agg #[vI r.Lo, vI r.Hi]) ∧ Below w.heap.size w w' := by
 refine k_enter (args := [.agg #[vI a0.Lo, vI a0.Hi], .agg #[vI a1.Lo, vI a1.Hi]]) 64 Tryd.func70 rfl (by kernel_rfl) (by kernel_rfl) fun a H => ?_
 unfold armillaryref02_Mul at G
 refine k_seq ?_
 refine k_rg mixed H (.cons [2, 64] (ok_new (fun b => vP b 0) (fun u1 => [vI a0.Lo, vI a0.Hi]) 38 2 64) <|
   .cons [3, 65] (ok_new (fun b => vP b 0) (fun u1 => [vI a1.Lo, vI a1.Hi]) 38 3 65) <|
   .cons [4, 66] (ok_new (fun b => vP b 0) (fun u1 => [vI 0, vI 0]) 38 4 66) <| .nil) fun u1 a w' H => ?_
 replace H := H.toM [(2, (sP ((u1 0).n 0) 0)), (3, (sP ((u1 1).n 0) 0)), (4, (sP ((u1 2).n 0) 0)), (64, .blk ((u1 0).n 0) [vI a0.Lo, vI a0.Hi] 38), (65, .blk ((u1 1).n 0) [vI a1.Lo, vI a1.Hi] 38), (66, .blk ((u1 2).n 0) [vI 0, vI 0] 38)]
 refine k_seq ?_
 refine k_seq ?_
 replace G := bnd G; obtain ⟨t3, ht3, G⟩ := G
 replace G := bnd G; obtain ⟨t4, ht4, G⟩ := G
 refine k_rg mixed H (.cons [9] (ok_ld (fun u2 => .agg #[vI a0.Lo, vI a0.Hi]) 9 64 0 2 (fun u2 => ((u1 0).n 0)) (fun u2 => [vI a0.Lo, vI a0.Hi]) 38) <|
   .cons [10] (ok_callv 75 (fun u2 => #[.agg #[vI a0.Lo, vI a0.Hi]]) (.bool t3) 10 [] (fun _ w _ => armillaryref02_IsEntire.calls a0 t3 w ht3)) <|
   .v 11 (.bool t3) <|
   .cons [12] (ok_ldg (fun u2 => .agg #[vI a1.Lo, vI a1.Hi]) (fun u2 => (t3 == false)) [true] 12 65 0 2 (fun u2 => ((u1 1).n 0)) (fun u2 => [vI a1.Lo, vI a1.Hi]) 38) <|
   .cons [13] (ok_call 75 (fun u2 => #[.agg #[vI a1.Lo, vI a1.Hi]]) (.bool t4) (fun u2 => (t3 == false)) [true, false] 13 [] (fun _ w hg _ => armillaryref02_IsEntire.calls a1 t4 w (ifp ht4 hg))) <|
   .cons [14] (ok_or 11 13 (fun u2 => true) (fun u2 => true) (fun u2 => t3) (fun u2 => t4) 14) <| .nil) fun u2 a w' H => ?_
 replace H := H.toM [(2, (sP ((u1 0).n 0) 0)), (3, (sP ((u1 1).n 0) 0)), (4, (sP ((u1 2).n 0) 0)), (14, (sB (t3 || t4))), (64, .blk ((u1 0).n 0) [vI a0.Lo, vI a0.Hi] 38), (65, .blk ((u1 1).n 0) [vI a1.Lo, vI a1.Hi] 38), (66, .blk ((u1 2).n 0) [vI 0, vI 0] 38)]
 refine k_cond H (by kernel_rfl) (t := (t3 || t4)) (by kernel_rfl) (fun c30 => ?_) (fun c30 => ?_)
 ·rw [if_pos c30] at G
  refine k_seq ?_
  replace G := bnd G; obtain ⟨t6, ht6, G⟩ := G
  refine k_rg mixed H (.cons [15] (ok_callv 66 (fun u5 => #[]) (.agg #[vI t6.Lo, vI t6.Hi]) 15 [] (fun _ w _ => armillaryref02_Entire.calls  t6 w ht6)) <|
   .cons [66] (ok_as (u' := fun u5 => [(66, .blk ((u1 2).n 0) [vI t6.Lo, vI t6.Hi] 38)]) (ok_store 66 0 (fun u5 => ((u1 2).n 0)) (fun u5 => [vI 0, vI 0]) (fun u5 => [vI t6.Lo, vI t6.Hi]) 38) (fun _ => by kernel_rfl)) <| .nil) fun u5 a w' H => ?_
  replace H := H.toM [(4, (sP ((u1 2).n 0) 0)), (66, .blk ((u1 2).n 0) [vI t6.Lo, vI t6.Hi] 38)]
  refine k_ret ?_
  obtain rfl := Option.some.inj G
  exact k_done1 H _ 66 ((u1 2).n 0) [vI t6.Lo, vI t6.Hi] 38 0 2 (by kernel_rfl) (by kernel_rfl) (by kernel_rfl) (by kernel_rfl)
 ·rw [if_neg (nt c30)] at G
  refine k_skip ?_
  refine k_seq ?_
  refine k_rg mixed H (.v 16 (vP ((u1 0).n 0) 0) <|
   .cons [17] (ok_ld (fun u7 => vI a0.Lo) 17 64 0 1 (fun u7 => ((u1 0).n 0)) (fun u7 => [vI a0.Lo, vI a0.Hi]) 38) <|
   .v 18 (vP ((u1 1).n 0) 0) <|
   .cons [19] (ok_ld (fun u7 => vI a1.Lo) 19 65 0 1 (fun u7 => ((u1 1).n 0)) (fun u7 => [vI a1.Lo, vI a1.Hi]) 38) <|
   .v 20 (vI (w_i64 (a0.Lo * a1.Lo))) <|
   .v 21 (vP ((u1 0).n 0) 0) <|
   .cons [22] (ok_ld (fun u7 => vI a0.Lo) 22 64 0 1 (fun u7 => ((u1 0).n 0)) (fun u7 => [vI a0.Lo, vI a0.Hi]) 38) <|
   .v 23 (vP ((u1 1).n 0) 1) <|
   .cons [24] (ok_ld (fun u7 => vI a1.Hi) 24 65 1 1 (fun u7 => ((u1 1).n 0)) (fun u7 => [vI a1.Lo, vI a1.Hi]) 38) <|
   .v 25 (vI (w_i64 (a0.Lo * a1.Hi))) <|
   .v 26 (vP ((u1 0).n 0) 1) <|
   .cons [27] (ok_ld (fun u7 => vI a0.Hi) 27 64 1 1 (fun u7 => ((u1 0).n 0)) (fun u7 => [vI a0.Lo, vI a0.Hi]) 38) <|
   .v 28 (vP ((u1 1).n 0) 0) <|
   .cons [29] (ok_ld (fun u7 => vI a1.Lo) 29 65 0 1 (fun u7 => ((u1 1).n 0)) (fun u7 => [vI a1.Lo, vI a1.Hi]) 38) <|
   .v 30 (vI (w_i64 (a0.Hi * a1.Lo))) <|
   .v 31 (vP ((u1 0).n 0) 1) <|
   .cons [32] (ok_ld (fun u7 => vI a0.Hi) 32 64 1 1 (fun u7 => ((u1 0).n 0)) (fun u7 => [vI a0.Lo, vI a0.Hi]) 38) <|
   .v 33 (vP ((u1 1).n 0) 1) <|
   .cons [34] (ok_ld (fun u7 => vI a1.Hi) 34 65 1 1 (fun u7 => ((u1 1).n 0)) (fun u7 => [vI a1.Lo, vI a1.Hi]) 38) <|
   .v 35 (vI (w_i64 (a0.Hi * a1.Hi))) <|
   .cons [36, 67] (ok_new (fun b => .slice (some ⟨b, 0, none⟩) 4 4) (fun u7 => [vI (w_i64 (a0.Lo * a1.Lo)), vI (w_i64 (a0.Lo * a1.Hi)), vI (w_i64 (a0.Hi * a1.Lo)), vI (w_i64 (a0.Hi * a1.Hi))]) 2 36 67) <|
   .cons [5] (ok_val (fun u7 => .slice (some ⟨((u7 20).n 0), 0, none⟩) 4 4) 5) <| .nil) fun u7 a w' H => ?_
  replace H := H.toM [(4, (sP ((u1 2).n 0) 0)), (5, (sS (some ⟨((u7 20).n 0), 0, none⟩) 4 4)), (66, .blk ((u1 2).n 0) [vI 0, vI 0] 38), (67, .blk ((u7 20).n 0) [vI (w_i64 (a0.Lo * a1.Lo)), vI (w_i64 (a0.Lo * a1.Hi)), vI (w_i64 (a0.Hi * a1.Lo)), vI (w_i64 (a0.Hi * a1.Hi))] 2)]
  refine k_seq ?_
  refine k_rg mixed H (.v 37 (.slice (some ⟨((u7 20).n 0), 0, none⟩) 4 4) <|
   .v 38 (vP ((u7 20).n 0) 0) <|
   .cons [39] (ok_ld (fun u8 => vI (w_i64 (a0.Lo * a1.Lo))) 39 67 0 1 (fun u8 => ((u7 20).n 0)) (fun u8 => [vI (w_i64 (a0.Lo * a1.Lo)), vI (w_i64 (a0.Lo * a1.Hi)), vI (w_i64 (a0.Hi * a1.Lo)), vI (w_i64 (a0.Hi * a1.Hi))]) 2) <|
   .v 40 (.slice (some ⟨((u7 20).n 0), 0, none⟩) 4 4) <|
   .v 41 (vP ((u7 20).n 0) 0) <|
   .cons [42] (ok_ld (fun u8 => vI (w_i64 (a0.Lo * a1.Lo))) 42 67 0 1 (fun u8 => ((u7 20).n 0)) (fun u8 => [vI (w_i64 (a0.Lo * a1.Lo)), vI (w_i64 (a0.Lo * a1.Hi)), vI (w_i64 (a0.Hi * a1.Lo)), vI (w_i64 (a0.Hi * a1.Hi))]) 2) <|
   .v 6 (vI (w_i64 (a0.Lo * a1.Lo))) <|
   .v 7 (vI (w_i64 (a0.Lo * a1.Lo))) <| .nil) fun u8 a w' H => ?_
  replace H := H.toM [(4, (sP ((u1 2).n 0) 0)), (5, (sS (some ⟨((u7 20).n 0), 0, none⟩) 4 4)), (6, (sI (w_i64 (a0.Lo * a1.Lo)))), (7, (sI (w_i64 (a0.Lo * a1.Lo)))), (66, .blk ((u1 2).n 0) [vI 0, vI 0] 38), (67, .blk ((u7 20).n 0) [vI (w_i64 (a0.Lo * a1.Lo)), vI (w_i64 (a0.Lo * a1.Hi)), vI (w_i64 (a0.Hi * a1.Lo)), vI (w_i64 (a0.Hi * a1.Hi))] 2)]
  refine k_seq ?_
  replace G := bnd G; obtain ⟨j11, hj11, G⟩ := G
  refine k_join (fun a w' => Rep w.heap.size w 64 (ofL [(4, (sP ((u1 2).n 0) 0)), (6, sI j11.1), (7, sI j11.2), (66, .blk ((u1 2).n 0) [vI 0, vI 0] 38)]) a w') ?_ ?_
  ·clear H; intro a w' H
   refine k_seq ?_
   replace G := bnd G; obtain ⟨t13, ht13, G⟩ := G
   replace G := bnd G; obtain ⟨t14, ht14, G⟩ := G
   replace G := bnd G; obtain ⟨t15, ht15, G⟩ := G
   refine k_rg mixed H (.v 59 (vI j11.1) <|
   .cons [60] (ok_callv 91 (fun u12 => #[vI j11.1, vI 65536]) (vI t13) 60 [] (fun _ w _ => armillaryref02_Floor.calls j11.1 65536 t13 w ht13)) <|
   .v 61 (vI j11.2) <|
   .cons [62] (ok_callv 92 (fun u12 => #[vI j11.2, vI 65536]) (vI t14) 62 [] (fun _ w _ => armillaryref02_Ceil.calls j11.2 65536 t14 w ht14)) <|
   .cons [63] (ok_callv 48 (fun u12 => #[vI t13, vI t14]) (.agg #[vI t15.Lo, vI t15.Hi]) 63 [] (fun _ w _ => armillaryref02_New.calls t13 t14 t15 w ht15)) <|
   .cons [66] (ok_as (u' := fun u12 => [(66, .blk ((u1 2).n 0) [vI t15.Lo, vI t15.Hi] 38)]) (ok_store 66 0 (fun u12 => ((u1 2).n 0)) (fun u12 => [vI 0, vI 0]) (fun u12 => [vI t15.Lo, vI t15.Hi]) 38) (fun _ => by kernel_rfl)) <| .nil) fun u12 a w' H => ?_
   replace H := H.toM [(4, (sP ((u1 2).n 0) 0)), (66, .blk ((u1 2).n 0) [vI t15.Lo, vI t15.Hi] 38)]
   refine k_ret ?_
   obtain rfl := Option.some.inj G
   exact k_done1 H _ 66 ((u1 2).n 0) [vI t15.Lo, vI t15.Hi] 38 0 2 (by kernel_rfl) (by kernel_rfl) (by kernel_rfl) (by kernel_rfl)
  ·clear G; replace G := hj11; clear hj11
   refine k_seq ?_
   refine k_rg mixed H (.v 8 (vI 1) <| .nil) fun u16 a w' H => ?_
   replace H := H.toM [(4, (sP ((u1 2).n 0) 0)), (5, (sS (some ⟨((u7 20).n 0), 0, none⟩) 4 4)), (6, (sI (w_i64 (a0.Lo * a1.Lo)))), (7, (sI (w_i64 (a0.Lo * a1.Lo)))), (8, sI 1), (66, .blk ((u1 2).n 0) [vI 0, vI 0] 38), (67, .blk ((u7 20).n 0) [vI (w_i64 (a0.Lo * a1.Lo)), vI (w_i64 (a0.Lo * a1.Hi)), vI (w_i64 (a0.Hi * a1.Lo)), vI (w_i64 (a0.Hi * a1.Hi))] 2)]
   refine k_block ?_
   refine k_loopJ (fun m a w' => ∃ x17 : Int, ∃ x18 : Int, ∃ x19 : Int, armillaryref02_Mul.l20 k0 a0 a1 t3 t4 m x17 x18 x19 = some j11 ∧ Rep w.heap.size w 64 (ofL [(4, (sP ((u1 2).n 0) 0)), (5, (sS (some ⟨((u7 20).n 0), 0, none⟩) 4 4)), (6, sI x17), (7, sI x18), (8, sI x19), (66, .blk ((u1 2).n 0) [vI 0, vI 0] 38), (67, .blk ((u7 20).n 0) [vI (w_i64 (a0.Lo * a1.Lo)), vI (w_i64 (a0.Lo * a1.Hi)), vI (w_i64 (a0.Hi * a1.Lo)), vI (w_i64 (a0.Hi * a1.Hi))] 2)]) a w') k0 ⟨_, _, _, G, H.toL _ (by kernel_rfl)⟩ ?_
   clear G H
   rintro (_ | k) a w' ⟨x17, x18, x19, G, H⟩
   ·exact absurd G (by unfold armillaryref02_Mul.l20; exact fun h => by cases h)
   ·unfold armillaryref02_Mul.l20 at G
    refine k_seq ?_
    refine k_seq ?_
    refine k_rg mixed H (.v 43 (vI x19) <|
   .v 44 (.bool (decide (x19 < 4))) <| .nil) fun u21 a w' H => ?_
    replace H := H.toM [(4, (sP ((u1 2).n 0) 0)), (5, (sS (some ⟨((u7 20).n 0), 0, none⟩) 4 4)), (6, sI x17), (7, sI x18), (8, sI x19), (44, (sB (decide (x19 < 4)))), (66, .blk ((u1 2).n 0) [vI 0, vI 0] 38), (67, .blk ((u7 20).n 0) [vI (w_i64 (a0.Lo * a1.Lo)), vI (w_i64 (a0.Lo * a1.Hi)), vI (w_i64 (a0.Hi * a1.Lo)), vI (w_i64 (a0.Hi * a1.Hi))] 2)]
    refine k_cond H (by kernel_rfl) (t := decide (x19 < 4)) (by kernel_rfl) (fun c29 => ?_) (fun c29 => ?_)
    ·rw [if_pos c29] at G
     refine k_skip ?_
     refine k_seq ?_
     refine k_block ?_
     refine k_seq ?_
     replace G := gd G; obtain ⟨b23, G⟩ := G
     replace G := bnd G; obtain ⟨t24, ht24, G⟩ := G
     refine k_rg mixed H (.v 47 (vI x17) <|
   .v 48 (.slice (some ⟨((u7 20).n 0), 0, none⟩) 4 4) <|
   .v 49 (vI x19) <|
   .cons [50] (ok_val (fun u22 => .pointer (some ⟨((u7 20).n 0), (0 + x19.toNat * 1), none⟩)) 50 (hv := fun _ _ => run_of (by kernel_rfl) (run_indexAddr (t := 77) (b := ((u7 20).n 0)) (o := 0) (len := 4) (cap := 4) (k := .i64) (i := x19) (sz := 1) (by kernel_rfl) (by kernel_rfl) b23))) <|
   .cons [51] (ok_lds (fun u22 => vI t24) 51 67 (fun u22 => (0 + x19.toNat * 1)) (fun u22 => ((u7 20).n 0)) (fun u22 => [vI (w_i64 (a0.Lo * a1.Lo)), vI (w_i64 (a0.Lo * a1.Hi)), vI (w_i64 (a0.Hi * a1.Lo)), vI (w_i64 (a0.Hi * a1.Hi))]) 2 (fun u22 => elt_int ht24)) <|
   .v 52 (vI (mn x17 t24)) <|
   .v 6 (vI (mn x17 t24)) <| .nil) fun u22 a w' H => ?_
     replace H := H.toM [(4, (sP ((u1 2).n 0) 0)), (5, (sS (some ⟨((u7 20).n 0), 0, none⟩) 4 4)), (6, (sI (mn x17 t24))), (7, sI x18), (8, sI x19), (66, .blk ((u1 2).n 0) [vI 0, vI 0] 38), (67, .blk ((u7 20).n 0) [vI (w_i64 (a0.Lo * a1.Lo)), vI (w_i64 (a0.Lo * a1.Hi)), vI (w_i64 (a0.Hi * a1.Lo)), vI (w_i64 (a0.Hi * a1.Hi))] 2)]
     replace G := gd G; obtain ⟨b26, G⟩ := G
     replace G := bnd G; obtain ⟨t27, ht27, G⟩ := G
     refine k_rg mixed H (.v 53 (vI x18) <|
   .v 54 (.slice (some ⟨((u7 20).n 0), 0, none⟩) 4 4) <|
   .v 55 (vI x19) <|
   .cons [56] (ok_val (fun u25 => .pointer (some ⟨((u7 20).n 0), (0 + x19.toNat * 1), none⟩)) 56 (hv := fun _ _ => run_of (by kernel_rfl) (run_indexAddr (t := 77) (b := ((u7 20).n 0)) (o := 0) (len := 4) (cap := 4) (k := .i64) (i := x19) (sz := 1) (by kernel_rfl) (by kernel_rfl) b26))) <|
   .cons [57] (ok_lds (fun u25 => vI t27) 57 67 (fun u25 => (0 + x19.toNat * 1)) (fun u25 => ((u7 20).n 0)) (fun u25 => [vI (w_i64 (a0.Lo * a1.Lo)), vI (w_i64 (a0.Lo * a1.Hi)), vI (w_i64 (a0.Hi * a1.Lo)), vI (w_i64 (a0.Hi * a1.Hi))]) 2 (fun u25 => elt_int ht27)) <|
   .v 58 (vI (mx x18 t27)) <|
   .v 7 (vI (mx x18 t27)) <| .nil) fun u25 a w' H => ?_
     replace H := H.toM [(4, (sP ((u1 2).n 0) 0)), (5, (sS (some ⟨((u7 20).n 0), 0, none⟩) 4 4)), (6, (sI (mn x17 t24))), (7, (sI (mx x18 t27))), (8, sI x19), (66, .blk ((u1 2).n 0) [vI 0, vI 0] 38), (67, .blk ((u7 20).n 0) [vI (w_i64 (a0.Lo * a1.Lo)), vI (w_i64 (a0.Lo * a1.Hi)), vI (w_i64 (a0.Hi * a1.Lo)), vI (w_i64 (a0.Hi * a1.Hi))] 2)]
     refine k_rg mixed H (.v 45 (vI x19) <|
   .v 46 (vI (w_i64 (x19 + 1))) <|
   .v 8 (vI (w_i64 (x19 + 1))) <| .nil) fun u28 a w' H => ?_
     replace H := H.toM [(4, (sP ((u1 2).n 0) 0)), (5, (sS (some ⟨((u7 20).n 0), 0, none⟩) 4 4)), (6, (sI (mn x17 t24))), (7, (sI (mx x18 t27))), (8, (sI (w_i64 (x19 + 1)))), (66, .blk ((u1 2).n 0) [vI 0, vI 0] 38), (67, .blk ((u7 20).n 0) [vI (w_i64 (a0.Lo * a1.Lo)), vI (w_i64 (a0.Lo * a1.Hi)), vI (w_i64 (a0.Hi * a1.Lo)), vI (w_i64 (a0.Hi * a1.Hi))] 2)]
     exact ⟨k, Nat.lt_succ_self k, _, _, _, G, H.toL _ (by kernel_rfl)⟩
    ·rw [if_neg (nt c29)] at G
     refine k_exit rfl ?_
     obtain rfl := Option.some.inj G
     exact H.toL _ (by kernel_rfl)

set_option maxHeartbeats 4000000 in
theorem armillaryref02_Div.calls (k0 : Nat) (a0 : TInterval) (a1 : TInterval) (r : TInterval) (w : World) (G : armillaryref02_Div k0 a0 a1 = some r) :
  Calls Tryd.prog 71 #[.agg #[vI a0.Lo, vI a0.Hi], .agg #[vI a1.Lo, vI a1.Hi]] w fun e w' => e = .returned (.agg #[vI r.Lo, vI r.Hi]) ∧ Below w.heap.size w w' := by
 refine k_enter (args := [.agg #[vI a0.Lo, vI a0.Hi], .agg #[vI a1.Lo, vI a1.Hi]]) 85 Tryd.func71 rfl (by kernel_rfl) (by kernel_rfl) fun a H => ?_
 unfold armillaryref02_Div at G
 refine k_seq ?_
 refine k_rg mixed H (.cons [2, 85] (ok_new (fun b => vP b 0) (fun u1 => [vI a0.Lo, vI a0.Hi]) 38 2 85) <|
   .cons [3, 86] (ok_new (fun b => vP b 0) (fun u1 => [vI a1.Lo, vI a1.Hi]) 38 3 86) <|
   .cons [4, 87] (ok_new (fun b => vP b 0) (fun u1 => [vI 0, vI 0]) 38 4 87) <| .nil) fun u1 a w' H => ?_
 replace H := H.toM [(2, (sP ((u1 0).n 0) 0)), (3, (sP ((u1 1).n 0) 0)), (4, (sP ((u1 2).n 0) 0)), (85, .blk ((u1 0).n 0) [vI a0.Lo, vI a0.Hi] 38), (86, .blk ((u1 1).n 0) [vI a1.Lo, vI a1.Hi] 38), (87, .blk ((u1 2).n 0) [vI 0, vI 0] 38)]
 refine k_seq ?_
 refine k_seq ?_
 replace G := bnd G; obtain ⟨t3, ht3, G⟩ := G
 replace G := bnd G; obtain ⟨t4, ht4, G⟩ := G
 refine k_rg mixed H (.cons [11] (ok_ld (fun u2 => .agg #[vI a0.Lo, vI a0.Hi]) 11 85 0 2 (fun u2 => ((u1 0).n 0)) (fun u2 => [vI a0.Lo, vI a0.Hi]) 38) <|
   .cons [12] (ok_callv 75 (fun u2 => #[.agg #[vI a0.Lo, vI a0.Hi]]) (.bool t3) 12 [] (fun _ w _ => armillaryref02_IsEntire.calls a0 t3 w ht3)) <|
   .v 13 (.bool t3) <|
   .cons [14] (ok_ldg (fun u2 => .agg #[vI a1.Lo, vI a1.Hi]) (fun u2 => (t3 == false)) [true] 14 86 0 2 (fun u2 => ((u1 1).n 0)) (fun u2 => [vI a1.Lo, vI a1.Hi]) 38) <|
   .cons [15] (ok_call 75 (fun u2 => #[.agg #[vI a1.Lo, vI a1.Hi]]) (.bool t4) (fun u2 => (t3 == false)) [true, false] 15 [] (fun _ w hg _ => armillaryref02_IsEntire.calls a1 t4 w (ifp ht4 hg))) <|
   .cons [16] (ok_or 13 15 (fun u2 => true) (fun u2 => true) (fun u2 => t3) (fun u2 => t4) 16) <|
   .v 17 (.bool (t3 || t4)) <|
   .cons [18] (ok_valg (fun u2 => vP ((u1 1).n 0) 0) (fun u2 => ((t3 || t4) == false)) [true] 18) <|
   .cons [19] (ok_ldg (fun u2 => vI a1.Lo) (fun u2 => ((t3 || t4) == false)) [false] 19 86 0 1 (fun u2 => ((u1 1).n 0)) (fun u2 => [vI a1.Lo, vI a1.Hi]) 38) <|
   .cons [20] (ok_valg (fun u2 => .bool (decide (a1.Lo ≤ 0))) (fun u2 => ((t3 || t4) == false)) [false, true] 20) <|
   .cons [21] (ok_valg (fun u2 => .bool (decide (a1.Lo ≤ 0))) (fun u2 => ((t3 || t4) == false)) [false] 21) <|
   .cons [22] (ok_valg (fun u2 => vP ((u1 1).n 0) 1) (fun u2 => (((t3 || t4) == false) && ((decide (a1.Lo ≤ 0)) == true))) [true] 22) <|
   .cons [23] (ok_ldg (fun u2 => vI a1.Hi) (fun u2 => (((t3 || t4) == false) && ((decide (a1.Lo ≤ 0)) == true))) [false] 23 86 1 1 (fun u2 => ((u1 1).n 0)) (fun u2 => [vI a1.Lo, vI a1.Hi]) 38) <|
   .cons [24] (ok_valg (fun u2 => .bool (decide (a1.Hi ≥ 0))) (fun u2 => (((t3 || t4) == false) && ((decide (a1.Lo ≤ 0)) == true))) [false, true] 24) <|
   .cons [25] (ok_and 21 24 (fun u2 => ((t3 || t4) == false)) (fun u2 => ((t3 || t4) == false)) (fun u2 => decide (a1.Lo ≤ 0)) (fun u2 => decide (a1.Hi ≥ 0)) 25) <|
   .cons [26] (ok_or 17 25 (fun u2 => true) (fun u2 => true) (fun u2 => (t3 || t4)) (fun u2 => ((decide (a1.Lo ≤ 0)) && (decide (a1.Hi ≥ 0)))) 26) <| .nil) fun u2 a w' H => ?_
 replace H := H.toM [(2, (sP ((u1 0).n 0) 0)), (3, (sP ((u1 1).n 0) 0)), (4, (sP ((u1 2).n 0) 0)), (26, (sB ((t3 || t4) || ((decide (a1.Lo ≤ 0)) && (decide (a1.Hi ≥ 0)))))), (85, .blk ((u1 0).n 0) [vI a0.Lo, vI a0.Hi] 38), (86, .blk ((u1 1).n 0) [vI a1.Lo, vI a1.Hi] 38), (87, .blk ((u1 2).n 0) [vI 0, vI 0] 38)]
 refine k_cond H (by kernel_rfl) (t := ((t3 || t4) || ((decide (a1.Lo ≤ 0)) && (decide (a1.Hi ≥ 0))))) (by kernel_rfl) (fun c47 => ?_) (fun c47 => ?_)
 ·rw [if_pos c47] at G
  refine k_seq ?_
  replace G := bnd G; obtain ⟨t6, ht6, G⟩ := G
  refine k_rg mixed H (.cons [27] (ok_callv 66 (fun u5 => #[]) (.agg #[vI t6.Lo, vI t6.Hi]) 27 [] (fun _ w _ => armillaryref02_Entire.calls  t6 w ht6)) <|
   .cons [87] (ok_as (u' := fun u5 => [(87, .blk ((u1 2).n 0) [vI t6.Lo, vI t6.Hi] 38)]) (ok_store 87 0 (fun u5 => ((u1 2).n 0)) (fun u5 => [vI 0, vI 0]) (fun u5 => [vI t6.Lo, vI t6.Hi]) 38) (fun _ => by kernel_rfl)) <| .nil) fun u5 a w' H => ?_
  replace H := H.toM [(4, (sP ((u1 2).n 0) 0)), (87, .blk ((u1 2).n 0) [vI t6.Lo, vI t6.Hi] 38)]
  refine k_ret ?_
  obtain rfl := Option.some.inj G
  exact k_done1 H _ 87 ((u1 2).n 0) [vI t6.Lo, vI t6.Hi] 38 0 2 (by kernel_rfl) (by kernel_rfl) (by kernel_rfl) (by kernel_rfl)
 ·rw [if_neg (nt c47)] at G
  refine k_skip ?_
  refine k_seq ?_
  refine k_rg mixed H (.v 28 (vP ((u1 0).n 0) 0) <|
   .cons [29] (ok_ld (fun u7 => vI a0.Lo) 29 85 0 1 (fun u7 => ((u1 0).n 0)) (fun u7 => [vI a0.Lo, vI a0.Hi]) 38) <|
   .v 30 (vP ((u1 0).n 0) 1) <|
   .cons [31] (ok_ld (fun u7 => vI a0.Hi) 31 85 1 1 (fun u7 => ((u1 0).n 0)) (fun u7 => [vI a0.Lo, vI a0.Hi]) 38) <|
   .cons [32, 88] (ok_new (fun b => .slice (some ⟨b, 0, none⟩) 2 2) (fun u7 => [vI a0.Lo, vI a0.Hi]) 2 32 88) <|
   .v 33 (vP ((u1 1).n 0) 0) <|
   .cons [34] (ok_ld (fun u7 => vI a1.Lo) 34 86 0 1 (fun u7 => ((u1 1).n 0)) (fun u7 => [vI a1.Lo, vI a1.Hi]) 38) <|
   .v 35 (vP ((u1 1).n 0) 1) <|
   .cons [36] (ok_ld (fun u7 => vI a1.Hi) 36 86 1 1 (fun u7 => ((u1 1).n 0)) (fun u7 => [vI a1.Lo, vI a1.Hi]) 38) <|
   .cons [37, 89] (ok_new (fun b => .slice (some ⟨b, 0, none⟩) 2 2) (fun u7 => [vI a1.Lo, vI a1.Hi]) 2 37 89) <|
   .cons [5] (ok_val (fun u7 => .slice (some ⟨((u7 4).n 0), 0, none⟩) 2 2) 5) <|
   .cons [6] (ok_val (fun u7 => .slice (some ⟨((u7 9).n 0), 0, none⟩) 2 2) 6) <| .nil) fun u7 a w' H => ?_
  replace H := H.toM [(2, (sP ((u1 0).n 0) 0)), (3, (sP ((u1 1).n 0) 0)), (4, (sP ((u1 2).n 0) 0)), (5, (sS (some ⟨((u7 4).n 0), 0, none⟩) 2 2)), (6, (sS (some ⟨((u7 9).n 0), 0, none⟩) 2 2)), (85, .blk ((u1 0).n 0) [vI a0.Lo, vI a0.Hi] 38), (86, .blk ((u1 1).n 0) [vI a1.Lo, vI a1.Hi] 38), (87, .blk ((u1 2).n 0) [vI 0, vI 0] 38), (88, .blk ((u7 4).n 0) [vI a0.Lo, vI a0.Hi] 2), (89, .blk ((u7 9).n 0) [vI a1.Lo, vI a1.Hi] 2)]
  refine k_seq ?_
  replace G := bnd G; obtain ⟨t9, ht9, G⟩ := G
  replace G := bnd G; obtain ⟨t10, ht10, G⟩ := G
  refine k_rg mixed H (.v 38 (vP ((u1 0).n 0) 0) <|
   .cons [39] (ok_ld (fun u8 => vI a0.Lo) 39 85 0 1 (fun u8 => ((u1 0).n 0)) (fun u8 => [vI a0.Lo, vI a0.Hi]) 38) <|
   .v 40 (vI (w_i64 (a0.Lo * 65536))) <|
   .v 41 (vP ((u1 1).n 0) 0) <|
   .cons [42] (ok_ld (fun u8 => vI a1.Lo) 42 86 0 1 (fun u8 => ((u1 1).n 0)) (fun u8 => [vI a1.Lo, vI a1.Hi]) 38) <|
   .cons [43] (ok_callv 91 (fun u8 => #[vI (w_i64 (a0.Lo * 65536)), vI a1.Lo]) (vI t9) 43 [] (fun _ w _ => armillaryref02_Floor.calls (w_i64 (a0.Lo * 65536)) a1.Lo t9 w ht9)) <|
   .v 44 (vP ((u1 0).n 0) 0) <|
   .cons [45] (ok_ld (fun u8 => vI a0.Lo) 45 85 0 1 (fun u8 => ((u1 0).n 0)) (fun u8 => [vI a0.Lo, vI a0.Hi]) 38) <|
   .v 46 (vI (w_i64 (a0.Lo * 65536))) <|
   .v 47 (vP ((u1 1).n 0) 0) <|
   .cons [48] (ok_ld (fun u8 => vI a1.Lo) 48 86 0 1 (fun u8 => ((u1 1).n 0)) (fun u8 => [vI a1.Lo, vI a1.Hi]) 38) <|
   .cons [49] (ok_callv 92 (fun u8 => #[vI (w_i64 (a0.Lo * 65536)), vI a1.Lo]) (vI t10) 49 [] (fun _ w _ => armillaryref02_Ceil.calls (w_i64 (a0.Lo * 65536)) a1.Lo t10 w ht10)) <|
   .v 7 (vI t9) <|
   .v 8 (vI t10) <| .nil) fun u8 a w' H => ?_
  replace H := H.toM [(4, (sP ((u1 2).n 0) 0)), (5, (sS (some ⟨((u7 4).n 0), 0, none⟩) 2 2)), (6, (sS (some ⟨((u7 9).n 0), 0, none⟩) 2 2)), (7, sI t9), (8, sI t10), (87, .blk ((u1 2).n 0) [vI 0, vI 0] 38), (88, .blk ((u7 4).n 0) [vI a0.Lo, vI a0.Hi] 2), (89, .blk ((u7 9).n 0) [vI a1.Lo, vI a1.Hi] 2)]
  refine k_seq ?_
  replace G := bnd G; obtain ⟨j13, hj13, G⟩ := G
  refine k_join (fun a w' => Rep w.heap.size w 85 (ofL [(4, (sP ((u1 2).n 0) 0)), (7, sI j13.1), (8, sI j13.2), (87, .blk ((u1 2).n 0) [vI 0, vI 0] 38)]) a w') ?_ ?_
  ·clear H; intro a w' H
   refine k_seq ?_
   replace G := bnd G; obtain ⟨t15, ht15, G⟩ := G
   refine k_rg mixed H (.v 82 (vI j13.1) <|
   .v 83 (vI j13.2) <|
   .cons [84] (ok_callv 48 (fun u14 => #[vI j13.1, vI j13.2]) (.agg #[vI t15.Lo, vI t15.Hi]) 84 [] (fun _ w _ => armillaryref02_New.calls j13.1 j13.2 t15 w ht15)) <|
   .cons [87] (ok_as (u' := fun u14 => [(87, .blk ((u1 2).n 0) [vI t15.Lo, vI t15.Hi] 38)]) (ok_store 87 0 (fun u14 => ((u1 2).n 0)) (fun u14 => [vI 0, vI 0]) (fun u14 => [vI t15.Lo, vI t15.Hi]) 38) (fun _ => by kernel_rfl)) <| .nil) fun u14 a w' H => ?_
   replace H := H.toM [(4, (sP ((u1 2).n 0) 0)), (87, .blk ((u1 2).n 0) [vI t15.Lo, vI t15.Hi] 38)]
   refine k_ret ?_
   obtain rfl := Option.some.inj G
   exact k_done1 H _ 87 ((u1 2).n 0) [vI t15.Lo, vI t15.Hi] 38 0 2 (by kernel_rfl) (by kernel_rfl) (by kernel_rfl) (by kernel_rfl)
  ·clear G; replace G := hj13; clear hj13
   refine k_seq ?_
   refine k_rg mixed H (.v 9 (vI 0) <| .nil) fun u16 a w' H => ?_
   replace H := H.toM [(4, (sP ((u1 2).n 0) 0)), (5, (sS (some ⟨((u7 4).n 0), 0, none⟩) 2 2)), (6, (sS (some ⟨((u7 9).n 0), 0, none⟩) 2 2)), (7, sI t9), (8, sI t10), (9, sI 0), (87, .blk ((u1 2).n 0) [vI 0, vI 0] 38), (88, .blk ((u7 4).n 0) [vI a0.Lo, vI a0.Hi] 2), (89, .blk ((u7 9).n 0) [vI a1.Lo, vI a1.Hi] 2)]
   refine k_block ?_
   refine k_loopJ (fun m a w' => ∃ x17 : Int, ∃ x18 : Int, ∃ x19 : Int, armillaryref02_Div.l20 k0 a0 a1 t3 t4 t9 t10 m x17 x18 x19 = some j13 ∧ Rep w.heap.size w 85 (ofL [(4, (sP ((u1 2).n 0) 0)), (5, (sS (some ⟨((u7 4).n 0), 0, none⟩) 2 2)), (6, (sS (some ⟨((u7 9).n 0), 0, none⟩) 2 2)), (7, sI x17), (8, sI x18), (9, sI x19), (87, .blk ((u1 2).n 0) [vI 0, vI 0] 38), (88, .blk ((u7 4).n 0) [vI a0.Lo, vI a0.Hi] 2), (89, .blk ((u7 9).n 0) [vI a1.Lo, vI a1.Hi] 2)]) a w') k0 ⟨_, _, _, G, H.toL _ (by kernel_rfl)⟩ ?_
   clear G H
   rintro (_ | k) a w' ⟨x17, x18, x19, G, H⟩
   ·exact absurd G (by unfold armillaryref02_Div.l20; exact fun h => by cases h)
   ·unfold armillaryref02_Div.l20 at G
    refine k_seq ?_
    refine k_seq ?_
    refine k_rg mixed H (.v 50 (vI x19) <|
   .v 51 (.bool (decide (x19 < 2))) <| .nil) fun u21 a w' H => ?_
    replace H := H.toM [(4, (sP ((u1 2).n 0) 0)), (5, (sS (some ⟨((u7 4).n 0), 0, none⟩) 2 2)), (6, (sS (some ⟨((u7 9).n 0), 0, none⟩) 2 2)), (7, sI x17), (8, sI x18), (9, sI x19), (51, (sB (decide (x19 < 2)))), (87, .blk ((u1 2).n 0) [vI 0, vI 0] 38), (88, .blk ((u7 4).n 0) [vI a0.Lo, vI a0.Hi] 2), (89, .blk ((u7 9).n 0) [vI a1.Lo, vI a1.Hi] 2)]
    refine k_cond H (by kernel_rfl) (t := decide (x19 < 2)) (by kernel_rfl) (fun c46 => ?_) (fun c46 => ?_)
    ·rw [if_pos c46] at G
     refine k_skip ?_
     refine k_seq ?_
     replace G := bnd G; obtain ⟨j24, hj24, G⟩ := G
     refine k_join (fun a w' => Rep w.heap.size w 85 (ofL [(4, (sP ((u1 2).n 0) 0)), (5, (sS (some ⟨((u7 4).n 0), 0, none⟩) 2 2)), (6, (sS (some ⟨((u7 9).n 0), 0, none⟩) 2 2)), (7, sI j24.1), (8, sI j24.2), (9, sI x19), (87, .blk ((u1 2).n 0) [vI 0, vI 0] 38), (88, .blk ((u7 4).n 0) [vI a0.Lo, vI a0.Hi] 2), (89, .blk ((u7 9).n 0) [vI a1.Lo, vI a1.Hi] 2)]) a w') ?_ ?_
     ·clear H; intro a w' H
      refine k_rg mixed H (.v 52 (vI x19) <|
   .v 53 (vI (w_i64 (x19 + 1))) <|
   .v 9 (vI (w_i64 (x19 + 1))) <| .nil) fun u25 a w' H => ?_
      replace H := H.toM [(4, (sP ((u1 2).n 0) 0)), (5, (sS (some ⟨((u7 4).n 0), 0, none⟩) 2 2)), (6, (sS (some ⟨((u7 9).n 0), 0, none⟩) 2 2)), (7, sI j24.1), (8, sI j24.2), (9, (sI (w_i64 (x19 + 1)))), (87, .blk ((u1 2).n 0) [vI 0, vI 0] 38), (88, .blk ((u7 4).n 0) [vI a0.Lo, vI a0.Hi] 2), (89, .blk ((u7 9).n 0) [vI a1.Lo, vI a1.Hi] 2)]
      exact ⟨k, Nat.lt_succ_self k, _, _, _, G, H.toL _ (by kernel_rfl)⟩
     ·clear G; replace G := hj24; clear hj24
      refine k_block ?_
      refine k_seq ?_
      refine k_rg mixed H (.v 10 (vI 0) <| .nil) fun u26 a w' H => ?_
      replace H := H.toM [(4, (sP ((u1 2).n 0) 0)), (5, (sS (some ⟨((u7 4).n 0), 0, none⟩) 2 2)), (6, (sS (some ⟨((u7 9).n 0), 0, none⟩) 2 2)), (7, sI x17), (8, sI x18), (9, sI x19), (10, sI 0), (87, .blk ((u1 2).n 0) [vI 0, vI 0] 38), (88, .blk ((u7 4).n 0) [vI a0.Lo, vI a0.Hi] 2), (89, .blk ((u7 9).n 0) [vI a1.Lo, vI a1.Hi] 2)]
      refine k_block ?_
      refine k_loopJ (fun m a w' => ∃ x27 : Int, ∃ x28 : Int, ∃ x29 : Int, armillaryref02_Div.l30 k0 a0 a1 t3 t4 t9 t10 x17 x18 x19 m x27 x28 x29 = some j24 ∧ Rep w.heap.size w 85 (ofL [(4, (sP ((u1 2).n 0) 0)), (5, (sS (some ⟨((u7 4).n 0), 0, none⟩) 2 2)), (6, (sS (some ⟨((u7 9).n 0), 0, none⟩) 2 2)), (7, sI x27), (8, sI x28), (9, sI x19), (10, sI x29), (87, .blk ((u1 2).n 0) [vI 0, vI 0] 38), (88, .blk ((u7 4).n 0) [vI a0.Lo, vI a0.Hi] 2), (89, .blk ((u7 9).n 0) [vI a1.Lo, vI a1.Hi] 2)]) a w') k0 ⟨_, _, _, G, H.toL _ (by kernel_rfl)⟩ ?_
      clear G H
      rintro (_ | k) a w' ⟨x27, x28, x29, G, H⟩
      ·exact absurd G (by unfold armillaryref02_Div.l30; exact fun h => by cases h)
      ·unfold armillaryref02_Div.l30 at G
       refine k_seq ?_
       refine k_seq ?_
       refine k_rg mixed H (.v 54 (vI x29) <|
   .v 55 (.bool (decide (x29 < 2))) <| .nil) fun u31 a w' H => ?_
       replace H := H.toM [(4, (sP ((u1 2).n 0) 0)), (5, (sS (some ⟨((u7 4).n 0), 0, none⟩) 2 2)), (6, (sS (some ⟨((u7 9).n 0), 0, none⟩) 2 2)), (7, sI x27), (8, sI x28), (9, sI x19), (10, sI x29), (55, (sB (decide (x29 < 2)))), (87, .blk ((u1 2).n 0) [vI 0, vI 0] 38), (88, .blk ((u7 4).n 0) [vI a0.Lo, vI a0.Hi] 2), (89, .blk ((u7 9).n 0) [vI a1.Lo, vI a1.Hi] 2)]
       refine k_cond H (by kernel_rfl) (t := decide (x29 < 2)) (by kernel_rfl) (fun c45 => ?_) (fun c45 => ?_)
       ·rw [if_pos c45] at G
        refine k_skip ?_
        refine k_seq ?_
        refine k_block ?_
        refine k_seq ?_
        replace G := gd G; obtain ⟨b33, G⟩ := G
        replace G := bnd G; obtain ⟨t34, ht34, G⟩ := G
        replace G := gd G; obtain ⟨b35, G⟩ := G
        replace G := bnd G; obtain ⟨t36, ht36, G⟩ := G
        replace G := bnd G; obtain ⟨t37, ht37, G⟩ := G
        refine k_rg mixed H (.v 58 (vI x27) <|
   .v 59 (.slice (some ⟨((u7 4).n 0), 0, none⟩) 2 2) <|
   .v 60 (vI x19) <|
   .cons [61] (ok_val (fun u32 => .pointer (some ⟨((u7 4).n 0), (0 + x19.toNat * 1), none⟩)) 61 (hv := fun _ _ => run_of (by kernel_rfl) (run_indexAddr (t := 77) (b := ((u7 4).n 0)) (o := 0) (len := 2) (cap := 2) (k := .i64) (i := x19) (sz := 1) (by kernel_rfl) (by kernel_rfl) b33))) <|
   .cons [62] (ok_lds (fun u32 => vI t34) 62 88 (fun u32 => (0 + x19.toNat * 1)) (fun u32 => ((u7 4).n 0)) (fun u32 => [vI a0.Lo, vI a0.Hi]) 2 (fun u32 => elt_int ht34)) <|
   .v 63 (vI (w_i64 (t34 * 65536))) <|
   .v 64 (.slice (some ⟨((u7 9).n 0), 0, none⟩) 2 2) <|
   .v 65 (vI x29) <|
   .cons [66] (ok_val (fun u32 => .pointer (some ⟨((u7 9).n 0), (0 + x29.toNat * 1), none⟩)) 66 (hv := fun _ _ => run_of (by kernel_rfl) (run_indexAddr (t := 77) (b := ((u7 9).n 0)) (o := 0) (len := 2) (cap := 2) (k := .i64) (i := x29) (sz := 1) (by kernel_rfl) (by kernel_rfl) b35))) <|
   .cons [67] (ok_lds (fun u32 => vI t36) 67 89 (fun u32 => (0 + x29.toNat * 1)) (fun u32 => ((u7 9).n 0)) (fun u32 => [vI a1.Lo, vI a1.Hi]) 2 (fun u32 => elt_int ht36)) <|
   .cons [68] (ok_callv 91 (fun u32 => #[vI (w_i64 (t34 * 65536)), vI t36]) (vI t37) 68 [] (fun _ w _ => armillaryref02_Floor.calls (w_i64 (t34 * 65536)) t36 t37 w ht37)) <|
   .v 69 (vI (mn x27 t37)) <|
   .v 7 (vI (mn x27 t37)) <| .nil) fun u32 a w' H => ?_
        replace H := H.toM [(4, (sP ((u1 2).n 0) 0)), (5, (sS (some ⟨((u7 4).n 0), 0, none⟩) 2 2)), (6, (sS (some ⟨((u7 9).n 0), 0, none⟩) 2 2)), (7, (sI (mn x27 t37))), (8, sI x28), (9, sI x19), (10, sI x29), (87, .blk ((u1 2).n 0) [vI 0, vI 0] 38), (88, .blk ((u7 4).n 0) [vI a0.Lo, vI a0.Hi] 2), (89, .blk ((u7 9).n 0) [vI a1.Lo, vI a1.Hi] 2)]
        replace G := gd G; obtain ⟨b39, G⟩ := G
        replace G := bnd G; obtain ⟨t40, ht40, G⟩ := G
        replace G := gd G; obtain ⟨b41, G⟩ := G
        replace G := bnd G; obtain ⟨t42, ht42, G⟩ := G
        replace G := bnd G; obtain ⟨t43, ht43, G⟩ := G
        refine k_rg mixed H (.v 70 (vI x28) <|
   .v 71 (.slice (some ⟨((u7 4).n 0), 0, none⟩) 2 2) <|
   .v 72 (vI x19) <|
   .cons [73] (ok_val (fun u38 => .pointer (some ⟨((u7 4).n 0), (0 + x19.toNat * 1), none⟩)) 73 (hv := fun _ _ => run_of (by kernel_rfl) (run_indexAddr (t := 77) (b := ((u7 4).n 0)) (o := 0) (len := 2) (cap := 2) (k := .i64) (i := x19) (sz := 1) (by kernel_rfl) (by kernel_rfl) b39))) <|
   .cons [74] (ok_lds (fun u38 => vI t40) 74 88 (fun u38 => (0 + x19.toNat * 1)) (fun u38 => ((u7 4).n 0)) (fun u38 => [vI a0.Lo, vI a0.Hi]) 2 (fun u38 => elt_int ht40)) <|
   .v 75 (vI (w_i64 (t40 * 65536))) <|
   .v 76 (.slice (some ⟨((u7 9).n 0), 0, none⟩) 2 2) <|
   .v 77 (vI x29) <|
   .cons [78] (ok_val (fun u38 => .pointer (some ⟨((u7 9).n 0), (0 + x29.toNat * 1), none⟩)) 78 (hv := fun _ _ => run_of (by kernel_rfl) (run_indexAddr (t := 77) (b := ((u7 9).n 0)) (o := 0) (len := 2) (cap := 2) (k := .i64) (i := x29) (sz := 1) (by kernel_rfl) (by kernel_rfl) b41))) <|
   .cons [79] (ok_lds (fun u38 => vI t42) 79 89 (fun u38 => (0 + x29.toNat * 1)) (fun u38 => ((u7 9).n 0)) (fun u38 => [vI a1.Lo, vI a1.Hi]) 2 (fun u38 => elt_int ht42)) <|
   .cons [80] (ok_callv 92 (fun u38 => #[vI (w_i64 (t40 * 65536)), vI t42]) (vI t43) 80 [] (fun _ w _ => armillaryref02_Ceil.calls (w_i64 (t40 * 65536)) t42 t43 w ht43)) <|
   .v 81 (vI (mx x28 t43)) <|
   .v 8 (vI (mx x28 t43)) <| .nil) fun u38 a w' H => ?_
        replace H := H.toM [(4, (sP ((u1 2).n 0) 0)), (5, (sS (some ⟨((u7 4).n 0), 0, none⟩) 2 2)), (6, (sS (some ⟨((u7 9).n 0), 0, none⟩) 2 2)), (7, (sI (mn x27 t37))), (8, (sI (mx x28 t43))), (9, sI x19), (10, sI x29), (87, .blk ((u1 2).n 0) [vI 0, vI 0] 38), (88, .blk ((u7 4).n 0) [vI a0.Lo, vI a0.Hi] 2), (89, .blk ((u7 9).n 0) [vI a1.Lo, vI a1.Hi] 2)]
        refine k_rg mixed H (.v 56 (vI x29) <|
   .v 57 (vI (w_i64 (x29 + 1))) <|
   .v 10 (vI (w_i64 (x29 + 1))) <| .nil) fun u44 a w' H => ?_
        replace H := H.toM [(4, (sP ((u1 2).n 0) 0)), (5, (sS (some ⟨((u7 4).n 0), 0, none⟩) 2 2)), (6, (sS (some ⟨((u7 9).n 0), 0, none⟩) 2 2)), (7, (sI (mn x27 t37))), (8, (sI (mx x28 t43))), (9, sI x19), (10, (sI (w_i64 (x29 + 1)))), (87, .blk ((u1 2).n 0) [vI 0, vI 0] 38), (88, .blk ((u7 4).n 0) [vI a0.Lo, vI a0.Hi] 2), (89, .blk ((u7 9).n 0) [vI a1.Lo, vI a1.Hi] 2)]
        exact ⟨k, Nat.lt_succ_self k, _, _, _, G, H.toL _ (by kernel_rfl)⟩
       ·rw [if_neg (nt c45)] at G
        refine k_exit rfl ?_
        obtain rfl := Option.some.inj G
        exact H.toL _ (by kernel_rfl)
    ·rw [if_neg (nt c46)] at G
     refine k_exit rfl ?_
     obtain rfl := Option.some.inj G
     exact H.toL _ (by kernel_rfl)

set_option maxHeartbeats 4000000 in
theorem armillaryref07_Eval.calls : ∀ (k0 : Nat) (a0 : List TNode) (a1 : List TInterval) (a2 : TInterval) (p_a0 : Option Addr) (c_a0 : Nat) (p_a1 : Option Addr) (c_a1 : Nat) (r : TInterval) (w : World) (R_p_a0 : RowC w 4 p_a0 a0.length c_a0 (a0.flatMap en_TNode)) (R_p_a1 : RowC w 2 p_a1 a1.length c_a1 (a1.flatMap en_TInterval)) (G : armillaryref07_Eval k0 a0 a1 a2 = some r),
  Calls Tryd.prog 34 #[.slice p_a0 a0.length c_a0, .slice p_a1 a1.length c_a1, .agg #[vI a2.Lo, vI a2.Hi]] w fun e w' => e = .returned (.agg #[vI r.Lo, vI r.Hi]) ∧ Below w.heap.size w w' := by
 intro k0
 induction k0 with
 | zero => intros; rename_i G; exact absurd G (by unfold armillaryref07_Eval; exact fun h => by cases h)
 | succ k0 IH => ?_
 intro a0 a1 a2 p_a0 c_a0 p_a1 c_a1 r w R_p_a0 R_p_a1 G
 obtain ⟨fr, hfr⟩ : ∃ fr : Nat → Prop, ∀ j, fr j := ⟨fun _ => True, fun _ => trivial⟩
 have hB : ∀ j, w.heap.size ≤ j → fr j := fun j _ => hfr j
 have hin_p_a0 : ∀ j, fpRow p_a0 a0.length j → fr j := fun j _ => hfr j
 have hin_p_a1 : ∀ j, fpRow p_a1 a1.length j → fr j := fun j _ => hfr j
 refine k_enterF (args := [.slice p_a0 a0.length c_a0, .slice p_a1 a1.length c_a1, .agg #[vI a2.Lo, vI a2.Hi]]) 115 [(115, rdl fr 4 p_a0 c_a0 a0 en_TNode), (116, rdl fr 2 p_a1 c_a1 a1 en_TInterval)] (by
  intro x hx
  simp only [List.mem_cons, List.not_mem_nil, or_false] at hx
  rcases hx with rfl | rfl
  ·exact rdF_fact R_p_a0 hin_p_a0 (by decide) _
  ·exact rdF_fact R_p_a1 hin_p_a1 (by decide) _) Tryd.func34 rfl (by kernel_rfl) (by kernel_rfl) fun a H => ?_
 unfold armillaryref07_Eval at G
 generalize armillaryref07_Eval k0 = rec at G IH
 unfold armillaryref07_Eval.body at G
 refine k_seq ?_
 refine k_rg mixed H (.cons [5, 117] (ok_new (fun b => vP b 0) (fun u1 => [vI a2.Lo, vI a2.Hi]) 38 5 117) <|
   .cons [6, 118] (ok_new (fun b => vP b 0) (fun u1 => [vI 0, vI 0]) 38 6 118) <| .nil) fun u1 a w' H => ?_
 replace H := H.toM [(0, sS p_a0 a0.length c_a0), (1, sS p_a1 a1.length c_a1), (5, (sP ((u1 0).n 0) 0)), (6, (sP ((u1 1).n 0) 0)), (117, .blk ((u1 0).n 0) [vI a2.Lo, vI a2.Hi] 38), (118, .blk ((u1 1).n 0) [vI 0, vI 0] 38), (115, rdl fr 4 p_a0 c_a0 a0 en_TNode), (116, rdl fr 2 p_a1 c_a1 a1 en_TInterval)]
 refine k_seq ?_
 replace G := bnd G; obtain ⟨t3, ht3, G⟩ := G
 refine k_rg mixed H (.v 12 (.slice p_a0 a0.length c_a0) <|
   .cons [13, 119, 120] (ok_callN [115] (fun u2 => [rdl fr 4 p_a0 c_a0 a0 en_TNode]) 63 (fun u2 => #[.slice p_a0 a0.length c_a0]) 4 en_TNode t3 fr 13 119 (by decide) (fun u2 w hF => armillaryref07_Operands.calls k0 a0 p_a0 c_a0 t3 w (rdF_of hF.1) ht3) (fun u2 w hF => ins_as (ins' := [(p_a0, a0.length)]) (ins_cons (rdl fr 4 p_a0 c_a0 a0 en_TNode) (.head _) (fun h => h) (fun j h => ⟨rdF_fr hF.1 j h, h⟩) ins_nil)) hB) <|
   .cons [14, 121] (ok_blkrow 2 0 (ok_new (fun b => .slice (some ⟨b, 0, none⟩) 0 0) (fun u2 => []) 38 14 121) (fun _ => rfl) (by decide)) <|
   .cons [7] (ok_val (fun u2 => .slice ((u2 1).o 0) (mkL (u2 1).o (u2 1).n 1 t3).length ((u2 1).n 0)) 7) <|
   .cons [8] (ok_val (fun u2 => .slice (some ⟨((u2 2).n 0), 0, none⟩) ([] : List TInterval).length 0) 8) <| .nil) fun u2 a w' H => ?_
 replace H := H.toM [(0, sS p_a0 a0.length c_a0), (1, sS p_a1 a1.length c_a1), (5, (sP ((u1 0).n 0) 0)), (6, (sP ((u1 1).n 0) 0)), (7, (sS ((u2 1).o 0) (mkL (u2 1).o (u2 1).n 1 t3).length ((u2 1).n 0))), (8, (sS (some ⟨((u2 2).n 0), 0, none⟩) ([] : List TInterval).length 0)), (117, .blk ((u1 0).n 0) [vI a2.Lo, vI a2.Hi] 38), (118, .blk ((u1 1).n 0) [vI 0, vI 0] 38), (115, rdl fr 4 p_a0 c_a0 a0 en_TNode), (116, rdl fr 2 p_a1 c_a1 a1 en_TInterval), (119, rdF fr 1 ((u2 1).o 0) (mkL (u2 1).o (u2 1).n 1 t3).length ((u2 1).n 0) ((mkL (u2 1).o (u2 1).n 1 t3).flatMap enSl)), (121, owK 38 2 (some ⟨((u2 2).n 0), 0, none⟩) ([] : List TInterval).length 0 (([] : List TInterval).flatMap en_TInterval)), (120, rdN fr 4 en_TNode (mkL (u2 1).o (u2 1).n 1 t3))]
 refine k_seq ?_
 replace G := bnd G; obtain ⟨j5, hj5, G⟩ := G
 refine k_join (fun a w' => ∃ (p_j4 : Option Addr) (c_j4 np_j4 : Nat), np_j4 = j5.length ∧ Rep w.heap.size w 115 (ofL [(0, sS p_a0 a0.length c_a0), (1, sS p_a1 a1.length c_a1), (5, (sP ((u1 0).n 0) 0)), (6, (sP ((u1 1).n 0) 0)), (8, sS p_j4 np_j4 c_j4), (117, .blk ((u1 0).n 0) [vI a2.Lo, vI a2.Hi] 38), (118, .blk ((u1 1).n 0) [vI 0, vI 0] 38), (115, rdl fr 4 p_a0 c_a0 a0 en_TNode), (116, rdl fr 2 p_a1 c_a1 a1 en_TInterval), (121, owK 38 2 p_j4 np_j4 c_j4 (j5.flatMap en_TInterval))]) a w') ?_ ?_
 ·clear H; rintro a w' ⟨p_j4, c_j4, _, rfl, H⟩
  refine k_seq ?_
  refine k_seq ?_
  replace G := gd G; obtain ⟨b7, G⟩ := G
  replace G := bnd G; obtain ⟨t8, ht8, G⟩ := G
  refine k_rg mixed H (.v 31 (.slice p_a0 a0.length c_a0) <|
   .cons [32] (ok_valL [115] (fun u6 => [rdl fr 4 p_a0 c_a0 a0 en_TNode]) (fun u6 => .pointer (some ⟨hdB p_a0, hdO p_a0 + ((0 : Int).toNat) * 4, none⟩)) (fun u6 => true) [true, true] 32 (fun u6 w hg hF => run_of (by kernel_rfl) (run_ix (t := 22) (p := p_a0) (n := a0.length) (cap := c_a0) (k := .i64) (i := (0 : Int)) (sz := 4) (by kernel_rfl) (by kernel_rfl) (rdF_of hF.1).2 b7))) <|
   .v 33 (.pointer (some ⟨hdB p_a0, hdO p_a0 + ((0 : Int).toNat) * 4 + 0, none⟩)) <|
   .cons [34] (ok_valL [115] (fun u6 => [rdl fr 4 p_a0 c_a0 a0 en_TNode]) (fun u6 => vI t8.Op) (fun u6 => true) [true] 34 (fun u6 w hg hF => ld_of (vs := [vI t8.Op]) (b := hdB p_a0) (off := hdO p_a0 + ((0 : Int).toNat) * 4 + 0) (m := 1) (by kernel_rfl) (el_cells (rdF_of hF.1).2 en_TNode_len ht8 0 1 rfl))) <| .nil) fun u6 a w' H => ?_
  replace H := H.toM [(0, sS p_a0 a0.length c_a0), (1, sS p_a1 a1.length c_a1), (5, (sP ((u1 0).n 0) 0)), (6, (sP ((u1 1).n 0) 0)), (8, sS p_j4 j5.length c_j4), (34, sI t8.Op), (117, .blk ((u1 0).n 0) [vI a2.Lo, vI a2.Hi] 38), (118, .blk ((u1 1).n 0) [vI 0, vI 0] 38), (115, rdl fr 4 p_a0 c_a0 a0 en_TNode), (116, rdl fr 2 p_a1 c_a1 a1 en_TInterval), (121, owK 38 2 p_j4 j5.length c_j4 (j5.flatMap en_TInterval))]
  refine k_block ?_
  refine k_seq ?_
  refine k_rg mixed H (.v 36 (.bool (t8.Op == 1)) <|
   .v 35 (.bool (t8.Op == 1)) <| .nil) fun u9 a w' H => ?_
  replace H := H.toM [(0, sS p_a0 a0.length c_a0), (1, sS p_a1 a1.length c_a1), (5, (sP ((u1 0).n 0) 0)), (6, (sP ((u1 1).n 0) 0)), (8, sS p_j4 j5.length c_j4), (34, sI t8.Op), (35, (sB (t8.Op == 1))), (117, .blk ((u1 0).n 0) [vI a2.Lo, vI a2.Hi] 38), (118, .blk ((u1 1).n 0) [vI 0, vI 0] 38), (115, rdl fr 4 p_a0 c_a0 a0 en_TNode), (116, rdl fr 2 p_a1 c_a1 a1 en_TInterval), (121, owK 38 2 p_j4 j5.length c_j4 (j5.flatMap en_TInterval))]
  refine k_cond H (by kernel_rfl) (t := (t8.Op == 1)) (by kernel_rfl) (fun c78 => ?_) (fun c78 => ?_)
  ·rw [if_pos c78] at G
   refine k_seq ?_
   replace G := gd G; obtain ⟨b11, G⟩ := G
   replace G := bnd G; obtain ⟨t12, ht12, G⟩ := G
   refine k_rg mixed H (.v 37 (.slice p_a0 a0.length c_a0) <|
   .cons [38] (ok_valL [115] (fun u10 => [rdl fr 4 p_a0 c_a0 a0 en_TNode]) (fun u10 => .pointer (some ⟨hdB p_a0, hdO p_a0 + ((0 : Int).toNat) * 4, none⟩)) (fun u10 => true) [true, true] 38 (fun u10 w hg hF => run_of (by kernel_rfl) (run_ix (t := 22) (p := p_a0) (n := a0.length) (cap := c_a0) (k := .i64) (i := (0 : Int)) (sz := 4) (by kernel_rfl) (by kernel_rfl) (rdF_of hF.1).2 b11))) <|
   .v 39 (.pointer (some ⟨hdB p_a0, hdO p_a0 + ((0 : Int).toNat) * 4 + 2, none⟩)) <|
   .cons [40] (ok_valL [115] (fun u10 => [rdl fr 4 p_a0 c_a0 a0 en_TNode]) (fun u10 => .agg #[vI t12.C.Lo, vI t12.C.Hi]) (fun u10 => true) [true] 40 (fun u10 w hg hF => ld_of (vs := [vI t12.C.Lo, vI t12.C.Hi]) (b := hdB p_a0) (off := hdO p_a0 + ((0 : Int).toNat) * 4 + 2) (m := 2) (by kernel_rfl) (el_cells (rdF_of hF.1).2 en_TNode_len ht12 2 2 rfl))) <|
   .cons [118] (ok_as (u' := fun u10 => [(118, .blk ((u1 1).n 0) [vI t12.C.Lo, vI t12.C.Hi] 38)]) (ok_store 118 0 (fun u10 => ((u1 1).n 0)) (fun u10 => [vI 0, vI 0]) (fun u10 => [vI t12.C.Lo, vI t12.C.Hi]) 38) (fun _ => by kernel_rfl)) <| .nil) fun u10 a w' H => ?_
   replace H := H.toM [(6, (sP ((u1 1).n 0) 0)), (118, .blk ((u1 1).n 0) [vI t12.C.Lo, vI t12.C.Hi] 38)]
   refine k_ret ?_
   obtain rfl := Option.some.inj G
   exact k_done1 H _ 118 ((u1 1).n 0) [vI t12.C.Lo, vI t12.C.Hi] 38 0 2 (by kernel_rfl) (by kernel_rfl) (by kernel_rfl) (by kernel_rfl)
  ·rw [if_neg (nt c78)] at G
   refine k_seq ?_
   refine k_rg mixed H (.v 42 (.bool (t8.Op == 2)) <|
   .v 41 (.bool (t8.Op == 2)) <| .nil) fun u13 a w' H => ?_
   replace H := H.toM [(0, sS p_a0 a0.length c_a0), (1, sS p_a1 a1.length c_a1), (5, (sP ((u1 0).n 0) 0)), (6, (sP ((u1 1).n 0) 0)), (8, sS p_j4 j5.length c_j4), (34, sI t8.Op), (41, (sB (t8.Op == 2))), (117, .blk ((u1 0).n 0) [vI a2.Lo, vI a2.Hi] 38), (118, .blk ((u1 1).n 0) [vI 0, vI 0] 38), (115, rdl fr 4 p_a0 c_a0 a0 en_TNode), (116, rdl fr 2 p_a1 c_a1 a1 en_TInterval), (121, owK 38 2 p_j4 j5.length c_j4 (j5.flatMap en_TInterval))]
   refine k_cond H (by kernel_rfl) (t := (t8.Op == 2)) (by kernel_rfl) (fun c77 => ?_) (fun c77 => ?_)
   ·rw [if_pos c77] at G
    refine k_seq ?_
    replace G := gd G; obtain ⟨b15, G⟩ := G
    replace G := bnd G; obtain ⟨t16, ht16, G⟩ := G
    replace G := gd G; obtain ⟨b17, G⟩ := G
    replace G := bnd G; obtain ⟨t18, ht18, G⟩ := G
    refine k_rg mixed H (.v 43 (.slice p_a1 a1.length c_a1) <|
   .v 44 (.slice p_a0 a0.length c_a0) <|
   .cons [45] (ok_valL [115] (fun u14 => [rdl fr 4 p_a0 c_a0 a0 en_TNode]) (fun u14 => .pointer (some ⟨hdB p_a0, hdO p_a0 + ((0 : Int).toNat) * 4, none⟩)) (fun u14 => true) [true, true] 45 (fun u14 w hg hF => run_of (by kernel_rfl) (run_ix (t := 22) (p := p_a0) (n := a0.length) (cap := c_a0) (k := .i64) (i := (0 : Int)) (sz := 4) (by kernel_rfl) (by kernel_rfl) (rdF_of hF.1).2 b15))) <|
   .v 46 (.pointer (some ⟨hdB p_a0, hdO p_a0 + ((0 : Int).toNat) * 4 + 1, none⟩)) <|
   .cons [47] (ok_valL [115] (fun u14 => [rdl fr 4 p_a0 c_a0 a0 en_TNode]) (fun u14 => vI t16.N) (fun u14 => true) [true] 47 (fun u14 w hg hF => ld_of (vs := [vI t16.N]) (b := hdB p_a0) (off := hdO p_a0 + ((0 : Int).toNat) * 4 + 1) (m := 1) (by kernel_rfl) (el_cells (rdF_of hF.1).2 en_TNode_len ht16 1 1 rfl))) <|
   .cons [48] (ok_valL [116] (fun u14 => [rdl fr 2 p_a1 c_a1 a1 en_TInterval]) (fun u14 => .pointer (some ⟨hdB p_a1, hdO p_a1 + t16.N.toNat * 2, none⟩)) (fun u14 => true) [true, true] 48 (fun u14 w hg hF => run_of (by kernel_rfl) (run_ix (t := 24) (p := p_a1) (n := a1.length) (cap := c_a1) (k := .i64) (i := t16.N) (sz := 2) (by kernel_rfl) (by kernel_rfl) (rdF_of hF.1).2 b17))) <|
   .cons [49] (ok_valL [116] (fun u14 => [rdl fr 2 p_a1 c_a1 a1 en_TInterval]) (fun u14 => .agg #[vI t18.Lo, vI t18.Hi]) (fun u14 => true) [true] 49 (fun u14 w hg hF => ld_of (vs := [vI t18.Lo, vI t18.Hi]) (b := hdB p_a1) (off := hdO p_a1 + t16.N.toNat * 2 + 0) (m := 2) (by kernel_rfl) (el_cells (rdF_of hF.1).2 en_TInterval_len ht18 0 2 rfl))) <|
   .cons [118] (ok_as (u' := fun u14 => [(118, .blk ((u1 1).n 0) [vI t18.Lo, vI t18.Hi] 38)]) (ok_store 118 0 (fun u14 => ((u1 1).n 0)) (fun u14 => [vI 0, vI 0]) (fun u14 => [vI t18.Lo, vI t18.Hi]) 38) (fun _ => by kernel_rfl)) <| .nil) fun u14 a w' H => ?_
    replace H := H.toM [(6, (sP ((u1 1).n 0) 0)), (118, .blk ((u1 1).n 0) [vI t18.Lo, vI t18.Hi] 38)]
    refine k_ret ?_
    obtain rfl := Option.some.inj G
    exact k_done1 H _ 118 ((u1 1).n 0) [vI t18.Lo, vI t18.Hi] 38 0 2 (by kernel_rfl) (by kernel_rfl) (by kernel_rfl) (by kernel_rfl)
   ·rw [if_neg (nt c77)] at G
    refine k_seq ?_
    refine k_rg mixed H (.v 51 (.bool (t8.Op == 3)) <|
   .v 50 (.bool (t8.Op == 3)) <| .nil) fun u19 a w' H => ?_
    replace H := H.toM [(5, (sP ((u1 0).n 0) 0)), (6, (sP ((u1 1).n 0) 0)), (8, sS p_j4 j5.length c_j4), (34, sI t8.Op), (50, (sB (t8.Op == 3))), (117, .blk ((u1 0).n 0) [vI a2.Lo, vI a2.Hi] 38), (118, .blk ((u1 1).n 0) [vI 0, vI 0] 38), (121, owK 38 2 p_j4 j5.length c_j4 (j5.flatMap en_TInterval))]
    refine k_cond H (by kernel_rfl) (t := (t8.Op == 3)) (by kernel_rfl) (fun c76 => ?_) (fun c76 => ?_)
    ·rw [if_pos c76] at G
     refine k_seq ?_
     refine k_rg mixed H (.cons [52] (ok_ld (fun u20 => .agg #[vI a2.Lo, vI a2.Hi]) 52 117 0 2 (fun u20 => ((u1 0).n 0)) (fun u20 => [vI a2.Lo, vI a2.Hi]) 38) <|
   .cons [118] (ok_as (u' := fun u20 => [(118, .blk ((u1 1).n 0) [vI a2.Lo, vI a2.Hi] 38)]) (ok_store 118 0 (fun u20 => ((u1 1).n 0)) (fun u20 => [vI 0, vI 0]) (fun u20 => [vI a2.Lo, vI a2.Hi]) 38) (fun _ => by kernel_rfl)) <| .nil) fun u20 a w' H => ?_
     replace H := H.toM [(6, (sP ((u1 1).n 0) 0)), (118, .blk ((u1 1).n 0) [vI a2.Lo, vI a2.Hi] 38)]
     refine k_ret ?_
     obtain rfl := Option.some.inj G
     exact k_done1 H _ 118 ((u1 1).n 0) [vI a2.Lo, vI a2.Hi] 38 0 2 (by kernel_rfl) (by kernel_rfl) (by kernel_rfl) (by kernel_rfl)
    ·rw [if_neg (nt c76)] at G
     refine k_seq ?_
     refine k_rg mixed H (.v 54 (.bool (t8.Op == 4)) <|
   .v 53 (.bool (t8.Op == 4)) <| .nil) fun u21 a w' H => ?_
     replace H := H.toM [(6, (sP ((u1 1).n 0) 0)), (8, sS p_j4 j5.length c_j4), (34, sI t8.Op), (53, (sB (t8.Op == 4))), (118, .blk ((u1 1).n 0) [vI 0, vI 0] 38), (121, owK 38 2 p_j4 j5.length c_j4 (j5.flatMap en_TInterval))]
     refine k_cond H (by kernel_rfl) (t := (t8.Op == 4)) (by kernel_rfl) (fun c75 => ?_) (fun c75 => ?_)
     ·rw [if_pos c75] at G
      refine k_seq ?_
      replace G := gd G; obtain ⟨b23, G⟩ := G
      replace G := bnd G; obtain ⟨t24, ht24, G⟩ := G
      replace G := bnd G; obtain ⟨t25, ht25, G⟩ := G
      refine k_rg mixed H (.v 55 (.slice p_j4 j5.length c_j4) <|
   .cons [56] (ok_valL [121] (fun u22 => [owK 38 2 p_j4 j5.length c_j4 (j5.flatMap en_TInterval)]) (fun u22 => .pointer (some ⟨hdB p_j4, hdO p_j4 + ((0 : Int).toNat) * 2, none⟩)) (fun u22 => true) [true, true] 56 (fun u22 w hg hF => run_of (by kernel_rfl) (run_ix (t := 24) (p := p_j4) (n := j5.length) (cap := c_j4) (k := .i64) (i := (0 : Int)) (sz := 2) (by kernel_rfl) (by kernel_rfl) (owns_row (ow_of hF.1)) b23))) <|
   .cons [57] (ok_valL [121] (fun u22 => [owK 38 2 p_j4 j5.length c_j4 (j5.flatMap en_TInterval)]) (fun u22 => .agg #[vI t24.Lo, vI t24.Hi]) (fun u22 => true) [true] 57 (fun u22 w hg hF => ld_of (vs := [vI t24.Lo, vI t24.Hi]) (b := hdB p_j4) (off := hdO p_j4 + ((0 : Int).toNat) * 2 + 0) (m := 2) (by kernel_rfl) (el_cells (owns_row (ow_of hF.1)) en_TInterval_len ht24 0 2 rfl))) <|
   .cons [58] (ok_callv 64 (fun u22 => #[.agg #[vI t24.Lo, vI t24.Hi]]) (.agg #[vI t25.Lo, vI t25.Hi]) 58 [] (fun _ w _ => armillaryref02_Neg.calls t24 t25 w ht25)) <|
   .cons [118] (ok_as (u' := fun u22 => [(118, .blk ((u1 1).n 0) [vI t25.Lo, vI t25.Hi] 38)]) (ok_store 118 0 (fun u22 => ((u1 1).n 0)) (fun u22 => [vI 0, vI 0]) (fun u22 => [vI t25.Lo, vI t25.Hi]) 38) (fun _ => by kernel_rfl)) <| .nil) fun u22 a w' H => ?_
      replace H := H.toM [(6, (sP ((u1 1).n 0) 0)), (118, .blk ((u1 1).n 0) [vI t25.Lo, vI t25.Hi] 38)]
      refine k_ret ?_
      obtain rfl := Option.some.inj G
      exact k_done1 H _ 118 ((u1 1).n 0) [vI t25.Lo, vI t25.Hi] 38 0 2 (by kernel_rfl) (by kernel_rfl) (by kernel_rfl) (by kernel_rfl)
     ·rw [if_neg (nt c75)] at G
      refine k_seq ?_
      refine k_rg mixed H (.v 60 (.bool (t8.Op == 5)) <|
   .v 59 (.bool (t8.Op == 5)) <| .nil) fun u26 a w' H => ?_
      replace H := H.toM [(6, (sP ((u1 1).n 0) 0)), (8, sS p_j4 j5.length c_j4), (34, sI t8.Op), (59, (sB (t8.Op == 5))), (118, .blk ((u1 1).n 0) [vI 0, vI 0] 38), (121, owK 38 2 p_j4 j5.length c_j4 (j5.flatMap en_TInterval))]
      refine k_cond H (by kernel_rfl) (t := (t8.Op == 5)) (by kernel_rfl) (fun c74 => ?_) (fun c74 => ?_)
      ·rw [if_pos c74] at G
       refine k_seq ?_
       replace G := gd G; obtain ⟨b28, G⟩ := G
       replace G := bnd G; obtain ⟨t29, ht29, G⟩ := G
       replace G := bnd G; obtain ⟨t30, ht30, G⟩ := G
       refine k_rg mixed H (.v 61 (.slice p_j4 j5.length c_j4) <|
   .cons [62] (ok_valL [121] (fun u27 => [owK 38 2 p_j4 j5.length c_j4 (j5.flatMap en_TInterval)]) (fun u27 => .pointer (some ⟨hdB p_j4, hdO p_j4 + ((0 : Int).toNat) * 2, none⟩)) (fun u27 => true) [true, true] 62 (fun u27 w hg hF => run_of (by kernel_rfl) (run_ix (t := 24) (p := p_j4) (n := j5.length) (cap := c_j4) (k := .i64) (i := (0 : Int)) (sz := 2) (by kernel_rfl) (by kernel_rfl) (owns_row (ow_of hF.1)) b28))) <|
   .cons [63] (ok_valL [121] (fun u27 => [owK 38 2 p_j4 j5.length c_j4 (j5.flatMap en_TInterval)]) (fun u27 => .agg #[vI t29.Lo, vI t29.Hi]) (fun u27 => true) [true] 63 (fun u27 w hg hF => ld_of (vs := [vI t29.Lo, vI t29.Hi]) (b := hdB p_j4) (off := hdO p_j4 + ((0 : Int).toNat) * 2 + 0) (m := 2) (by kernel_rfl) (el_cells (owns_row (ow_of hF.1)) en_TInterval_len ht29 0 2 rfl))) <|
   .cons [64] (ok_callv 65 (fun u27 => #[.agg #[vI t29.Lo, vI t29.Hi]]) (.agg #[vI t30.Lo, vI t30.Hi]) 64 [] (fun _ w _ => armillaryref02_Square.calls t29 t30 w ht30)) <|
   .cons [118] (ok_as (u' := fun u27 => [(118, .blk ((u1 1).n 0) [vI t30.Lo, vI t30.Hi] 38)]) (ok_store 118 0 (fun u27 => ((u1 1).n 0)) (fun u27 => [vI 0, vI 0]) (fun u27 => [vI t30.Lo, vI t30.Hi]) 38) (fun _ => by kernel_rfl)) <| .nil) fun u27 a w' H => ?_
       replace H := H.toM [(6, (sP ((u1 1).n 0) 0)), (118, .blk ((u1 1).n 0) [vI t30.Lo, vI t30.Hi] 38)]
       refine k_ret ?_
       obtain rfl := Option.some.inj G
       exact k_done1 H _ 118 ((u1 1).n 0) [vI t30.Lo, vI t30.Hi] 38 0 2 (by kernel_rfl) (by kernel_rfl) (by kernel_rfl) (by kernel_rfl)
      ·rw [if_neg (nt c74)] at G
       refine k_seq ?_
       refine k_rg mixed H (.v 66 (.bool (t8.Op == 6)) <|
   .v 65 (.bool (t8.Op == 6)) <| .nil) fun u31 a w' H => ?_
       replace H := H.toM [(6, (sP ((u1 1).n 0) 0)), (8, sS p_j4 j5.length c_j4), (34, sI t8.Op), (65, (sB (t8.Op == 6))), (118, .blk ((u1 1).n 0) [vI 0, vI 0] 38), (121, owK 38 2 p_j4 j5.length c_j4 (j5.flatMap en_TInterval))]
       refine k_cond H (by kernel_rfl) (t := (t8.Op == 6)) (by kernel_rfl) (fun c73 => ?_) (fun c73 => ?_)
       ·rw [if_pos c73] at G
        refine k_seq ?_
        refine k_seq ?_
        replace G := gd G; obtain ⟨b33, G⟩ := G
        replace G := bnd G; obtain ⟨t34, ht34, G⟩ := G
        refine k_rg mixed H (.v 67 (.slice p_j4 j5.length c_j4) <|
   .cons [68] (ok_valL [121] (fun u32 => [owK 38 2 p_j4 j5.length c_j4 (j5.flatMap en_TInterval)]) (fun u32 => .pointer (some ⟨hdB p_j4, hdO p_j4 + ((0 : Int).toNat) * 2, none⟩)) (fun u32 => true) [true, true] 68 (fun u32 w hg hF => run_of (by kernel_rfl) (run_ix (t := 24) (p := p_j4) (n := j5.length) (cap := c_j4) (k := .i64) (i := (0 : Int)) (sz := 2) (by kernel_rfl) (by kernel_rfl) (owns_row (ow_of hF.1)) b33))) <|
   .v 69 (.pointer (some ⟨hdB p_j4, hdO p_j4 + ((0 : Int).toNat) * 2 + 0, none⟩)) <|
   .cons [70] (ok_valL [121] (fun u32 => [owK 38 2 p_j4 j5.length c_j4 (j5.flatMap en_TInterval)]) (fun u32 => vI t34.Lo) (fun u32 => true) [true] 70 (fun u32 w hg hF => ld_of (vs := [vI t34.Lo]) (b := hdB p_j4) (off := hdO p_j4 + ((0 : Int).toNat) * 2 + 0) (m := 1) (by kernel_rfl) (el_cells (owns_row (ow_of hF.1)) en_TInterval_len ht34 0 1 rfl))) <|
   .v 71 (.bool (decide (t34.Lo < 0))) <| .nil) fun u32 a w' H => ?_
        replace H := H.toM [(6, (sP ((u1 1).n 0) 0)), (8, sS p_j4 j5.length c_j4), (71, (sB (decide (t34.Lo < 0)))), (118, .blk ((u1 1).n 0) [vI 0, vI 0] 38), (121, owK 38 2 p_j4 j5.length c_j4 (j5.flatMap en_TInterval))]
        refine k_cond H (by kernel_rfl) (t := decide (t34.Lo < 0)) (by kernel_rfl) (fun c42 => ?_) (fun c42 => ?_)
        ·rw [if_pos c42] at G
         refine k_seq ?_
         replace G := bnd G; obtain ⟨t36, ht36, G⟩ := G
         refine k_rg mixed H (.cons [72] (ok_callv 66 (fun u35 => #[]) (.agg #[vI t36.Lo, vI t36.Hi]) 72 [] (fun _ w _ => armillaryref02_Entire.calls  t36 w ht36)) <|
   .cons [118] (ok_as (u' := fun u35 => [(118, .blk ((u1 1).n 0) [vI t36.Lo, vI t36.Hi] 38)]) (ok_store 118 0 (fun u35 => ((u1 1).n 0)) (fun u35 => [vI 0, vI 0]) (fun u35 => [vI t36.Lo, vI t36.Hi]) 38) (fun _ => by kernel_rfl)) <| .nil) fun u35 a w' H => ?_
         replace H := H.toM [(6, (sP ((u1 1).n 0) 0)), (118, .blk ((u1 1).n 0) [vI t36.Lo, vI t36.Hi] 38)]
         refine k_ret ?_
         obtain rfl := Option.some.inj G
         exact k_done1 H _ 118 ((u1 1).n 0) [vI t36.Lo, vI t36.Hi] 38 0 2 (by kernel_rfl) (by kernel_rfl) (by kernel_rfl) (by kernel_rfl)
        ·rw [if_neg (nt c42)] at G
         refine k_skip ?_
         refine k_seq ?_
         replace G := gd G; obtain ⟨b38, G⟩ := G
         replace G := bnd G; obtain ⟨t39, ht39, G⟩ := G
         replace G := bnd G; obtain ⟨t40, ht40, G⟩ := G
         refine k_rg mixed H (.v 74 (.slice p_j4 j5.length c_j4) <|
   .cons [75] (ok_valL [121] (fun u37 => [owK 38 2 p_j4 j5.length c_j4 (j5.flatMap en_TInterval)]) (fun u37 => .pointer (some ⟨hdB p_j4, hdO p_j4 + ((0 : Int).toNat) * 2, none⟩)) (fun u37 => true) [true, true] 75 (fun u37 w hg hF => run_of (by kernel_rfl) (run_ix (t := 24) (p := p_j4) (n := j5.length) (cap := c_j4) (k := .i64) (i := (0 : Int)) (sz := 2) (by kernel_rfl) (by kernel_rfl) (owns_row (ow_of hF.1)) b38))) <|
   .cons [76] (ok_valL [121] (fun u37 => [owK 38 2 p_j4 j5.length c_j4 (j5.flatMap en_TInterval)]) (fun u37 => .agg #[vI t39.Lo, vI t39.Hi]) (fun u37 => true) [true] 76 (fun u37 w hg hF => ld_of (vs := [vI t39.Lo, vI t39.Hi]) (b := hdB p_j4) (off := hdO p_j4 + ((0 : Int).toNat) * 2 + 0) (m := 2) (by kernel_rfl) (el_cells (owns_row (ow_of hF.1)) en_TInterval_len ht39 0 2 rfl))) <|
   .cons [77] (ok_callv 67 (fun u37 => #[.agg #[vI t39.Lo, vI t39.Hi]]) (.tuple #[.agg #[vI t40.1.Lo, vI t40.1.Hi], .bool t40.2]) 77 [] (fun _ w _ => armillaryref02_Sqrt.calls k0 t39 t40 w ht40)) <|
   .v 73 (.tuple #[.agg #[vI t40.1.Lo, vI t40.1.Hi], .bool t40.2]) <|
   .v 78 (.agg #[vI t40.1.Lo, vI t40.1.Hi]) <|
   .v 79 (.bool t40.2) <|
   .cons [10, 122] (ok_new (fun b => vP b 0) (fun u37 => [vI 0, vI 0]) 38 10 122) <|
   .cons [122] (ok_as (u' := fun u37 => [(122, .blk ((u37 7).n 0) [vI t40.1.Lo, vI t40.1.Hi] 38)]) (ok_store 122 0 (fun u37 => ((u37 7).n 0)) (fun u37 => [vI 0, vI 0]) (fun u37 => [vI t40.1.Lo, vI t40.1.Hi]) 38) (fun _ => by kernel_rfl)) <|
   .v 11 (.bool t40.2) <| .nil) fun u37 a w' H => ?_
         replace H := H.toM [(6, (sP ((u1 1).n 0) 0)), (10, (sP ((u37 7).n 0) 0)), (118, .blk ((u1 1).n 0) [vI 0, vI 0] 38), (122, .blk ((u37 7).n 0) [vI t40.1.Lo, vI t40.1.Hi] 38)]
         refine k_seq ?_
         refine k_rg mixed H (.cons [80] (ok_ld (fun u41 => .agg #[vI t40.1.Lo, vI t40.1.Hi]) 80 122 0 2 (fun u41 => ((u37 7).n 0)) (fun u41 => [vI t40.1.Lo, vI t40.1.Hi]) 38) <|
   .cons [118] (ok_as (u' := fun u41 => [(118, .blk ((u1 1).n 0) [vI t40.1.Lo, vI t40.1.Hi] 38)]) (ok_store 118 0 (fun u41 => ((u1 1).n 0)) (fun u41 => [vI 0, vI 0]) (fun u41 => [vI t40.1.Lo, vI t40.1.Hi]) 38) (fun _ => by kernel_rfl)) <| .nil) fun u41 a w' H => ?_
         replace H := H.toM [(6, (sP ((u1 1).n 0) 0)), (118, .blk ((u1 1).n 0) [vI t40.1.Lo, vI t40.1.Hi] 38)]
         refine k_ret ?_
         obtain rfl := Option.some.inj G
         exact k_done1 H _ 118 ((u1 1).n 0) [vI t40.1.Lo, vI t40.1.Hi] 38 0 2 (by kernel_rfl) (by kernel_rfl) (by kernel_rfl) (by kernel_rfl)
       ·rw [if_neg (nt c73)] at G
        refine k_seq ?_
        refine k_rg mixed H (.v 82 (.bool (t8.Op == 7)) <|
   .v 81 (.bool (t8.Op == 7)) <| .nil) fun u43 a w' H => ?_
        replace H := H.toM [(6, (sP ((u1 1).n 0) 0)), (8, sS p_j4 j5.length c_j4), (34, sI t8.Op), (81, (sB (t8.Op == 7))), (118, .blk ((u1 1).n 0) [vI 0, vI 0] 38), (121, owK 38 2 p_j4 j5.length c_j4 (j5.flatMap en_TInterval))]
        refine k_cond H (by kernel_rfl) (t := (t8.Op == 7)) (by kernel_rfl) (fun c72 => ?_) (fun c72 => ?_)
        ·rw [if_pos c72] at G
         refine k_seq ?_
         replace G := gd G; obtain ⟨b45, G⟩ := G
         replace G := bnd G; obtain ⟨t46, ht46, G⟩ := G
         replace G := gd G; obtain ⟨b47, G⟩ := G
         replace G := bnd G; obtain ⟨t48, ht48, G⟩ := G
         replace G := bnd G; obtain ⟨t49, ht49, G⟩ := G
         refine k_rg mixed H (.v 83 (.slice p_j4 j5.length c_j4) <|
   .cons [84] (ok_valL [121] (fun u44 => [owK 38 2 p_j4 j5.length c_j4 (j5.flatMap en_TInterval)]) (fun u44 => .pointer (some ⟨hdB p_j4, hdO p_j4 + ((0 : Int).toNat) * 2, none⟩)) (fun u44 => true) [true, true] 84 (fun u44 w hg hF => run_of (by kernel_rfl) (run_ix (t := 24) (p := p_j4) (n := j5.length) (cap := c_j4) (k := .i64) (i := (0 : Int)) (sz := 2) (by kernel_rfl) (by kernel_rfl) (owns_row (ow_of hF.1)) b45))) <|
   .cons [85] (ok_valL [121] (fun u44 => [owK 38 2 p_j4 j5.length c_j4 (j5.flatMap en_TInterval)]) (fun u44 => .agg #[vI t46.Lo, vI t46.Hi]) (fun u44 => true) [true] 85 (fun u44 w hg hF => ld_of (vs := [vI t46.Lo, vI t46.Hi]) (b := hdB p_j4) (off := hdO p_j4 + ((0 : Int).toNat) * 2 + 0) (m := 2) (by kernel_rfl) (el_cells (owns_row (ow_of hF.1)) en_TInterval_len ht46 0 2 rfl))) <|
   .v 86 (.slice p_j4 j5.length c_j4) <|
   .cons [87] (ok_valL [121] (fun u44 => [owK 38 2 p_j4 j5.length c_j4 (j5.flatMap en_TInterval)]) (fun u44 => .pointer (some ⟨hdB p_j4, hdO p_j4 + ((1 : Int).toNat) * 2, none⟩)) (fun u44 => true) [true, true] 87 (fun u44 w hg hF => run_of (by kernel_rfl) (run_ix (t := 24) (p := p_j4) (n := j5.length) (cap := c_j4) (k := .i64) (i := (1 : Int)) (sz := 2) (by kernel_rfl) (by kernel_rfl) (owns_row (ow_of hF.1)) b47))) <|
   .cons [88] (ok_valL [121] (fun u44 => [owK 38 2 p_j4 j5.length c_j4 (j5.flatMap en_TInterval)]) (fun u44 => .agg #[vI t48.Lo, vI t48.Hi]) (fun u44 => true) [true] 88 (fun u44 w hg hF => ld_of (vs := [vI t48.Lo, vI t48.Hi]) (b := hdB p_j4) (off := hdO p_j4 + ((1 : Int).toNat) * 2 + 0) (m := 2) (by kernel_rfl) (el_cells (owns_row (ow_of hF.1)) en_TInterval_len ht48 0 2 rfl))) <|
   .cons [89] (ok_callv 68 (fun u44 => #[.agg #[vI t46.Lo, vI t46.Hi], .agg #[vI t48.Lo, vI t48.Hi]]) (.agg #[vI t49.Lo, vI t49.Hi]) 89 [] (fun _ w _ => armillaryref02_Add.calls t46 t48 t49 w ht49)) <|
   .cons [118] (ok_as (u' := fun u44 => [(118, .blk ((u1 1).n 0) [vI t49.Lo, vI t49.Hi] 38)]) (ok_store 118 0 (fun u44 => ((u1 1).n 0)) (fun u44 => [vI 0, vI 0]) (fun u44 => [vI t49.Lo, vI t49.Hi]) 38) (fun _ => by kernel_rfl)) <| .nil) fun u44 a w' H => ?_
         replace H := H.toM [(6, (sP ((u1 1).n 0) 0)), (118, .blk ((u1 1).n 0) [vI t49.Lo, vI t49.Hi] 38)]
         refine k_ret ?_
         obtain rfl := Option.some.inj G
         exact k_done1 H _ 118 ((u1 1).n 0) [vI t49.Lo, vI t49.Hi] 38 0 2 (by kernel_rfl) (by kernel_rfl) (by kernel_rfl) (by kernel_rfl)
        ·rw [if_neg (nt c72)] at G
         refine k_seq ?_
         refine k_rg mixed H (.v 91 (.bool (t8.Op == 8)) <|
   .v 90 (.bool (t8.Op == 8)) <| .nil) fun u50 a w' H => ?_
         replace H := H.toM [(6, (sP ((u1 1).n 0) 0)), (8, sS p_j4 j5.length c_j4), (34, sI t8.Op), (90, (sB (t8.Op == 8))), (118, .blk ((u1 1).n 0) [vI 0, vI 0] 38), (121, owK 38 2 p_j4 j5.length c_j4 (j5.flatMap en_TInterval))]
         refine k_cond H (by kernel_rfl) (t := (t8.Op == 8)) (by kernel_rfl) (fun c71 => ?_) (fun c71 => ?_)
         ·rw [if_pos c71] at G
          refine k_seq ?_
          replace G := gd G; obtain ⟨b52, G⟩ := G
          replace G := bnd G; obtain ⟨t53, ht53, G⟩ := G
          replace G := gd G; obtain ⟨b54, G⟩ := G
          replace G := bnd G; obtain ⟨t55, ht55, G⟩ := G
          replace G := bnd G; obtain ⟨t56, ht56, G⟩ := G
          refine k_rg mixed H (.v 92 (.slice p_j4 j5.length c_j4) <|
   .cons [93] (ok_valL [121] (fun u51 => [owK 38 2 p_j4 j5.length c_j4 (j5.flatMap en_TInterval)]) (fun u51 => .pointer (some ⟨hdB p_j4, hdO p_j4 + ((0 : Int).toNat) * 2, none⟩)) (fun u51 => true) [true, true] 93 (fun u51 w hg hF => run_of (by kernel_rfl) (run_ix (t := 24) (p := p_j4) (n := j5.length) (cap := c_j4) (k := .i64) (i := (0 : Int)) (sz := 2) (by kernel_rfl) (by kernel_rfl) (owns_row (ow_of hF.1)) b52))) <|
   .cons [94] (ok_valL [121] (fun u51 => [owK 38 2 p_j4 j5.length c_j4 (j5.flatMap en_TInterval)]) (fun u51 => .agg #[vI t53.Lo, vI t53.Hi]) (fun u51 => true) [true] 94 (fun u51 w hg hF => ld_of (vs := [vI t53.Lo, vI t53.Hi]) (b := hdB p_j4) (off := hdO p_j4 + ((0 : Int).toNat) * 2 + 0) (m := 2) (by kernel_rfl) (el_cells (owns_row (ow_of hF.1)) en_TInterval_len ht53 0 2 rfl))) <|
   .v 95 (.slice p_j4 j5.length c_j4) <|
   .cons [96] (ok_valL [121] (fun u51 => [owK 38 2 p_j4 j5.length c_j4 (j5.flatMap en_TInterval)]) (fun u51 => .pointer (some ⟨hdB p_j4, hdO p_j4 + ((1 : Int).toNat) * 2, none⟩)) (fun u51 => true) [true, true] 96 (fun u51 w hg hF => run_of (by kernel_rfl) (run_ix (t := 24) (p := p_j4) (n := j5.length) (cap := c_j4) (k := .i64) (i := (1 : Int)) (sz := 2) (by kernel_rfl) (by kernel_rfl) (owns_row (ow_of hF.1)) b54))) <|
   .cons [97] (ok_valL [121] (fun u51 => [owK 38 2 p_j4 j5.length c_j4 (j5.flatMap en_TInterval)]) (fun u51 => .agg #[vI t55.Lo, vI t55.Hi]) (fun u51 => true) [true] 97 (fun u51 w hg hF => ld_of (vs := [vI t55.Lo, vI t55.Hi]) (b := hdB p_j4) (off := hdO p_j4 + ((1 : Int).toNat) * 2 + 0) (m := 2) (by kernel_rfl) (el_cells (owns_row (ow_of hF.1)) en_TInterval_len ht55 0 2 rfl))) <|
   .cons [98] (ok_callv 69 (fun u51 => #[.agg #[vI t53.Lo, vI t53.Hi], .agg #[vI t55.Lo, vI t55.Hi]]) (.agg #[vI t56.Lo, vI t56.Hi]) 98 [] (fun _ w _ => armillaryref02_Sub.calls t53 t55 t56 w ht56)) <|
   .cons [118] (ok_as (u' := fun u51 => [(118, .blk ((u1 1).n 0) [vI t56.Lo, vI t56.Hi] 38)]) (ok_store 118 0 (fun u51 => ((u1 1).n 0)) (fun u51 => [vI 0, vI 0]) (fun u51 => [vI t56.Lo, vI t56.Hi]) 38) (fun _ => by kernel_rfl)) <| .nil) fun u51 a w' H => ?_
          replace H := H.toM [(6, (sP ((u1 1).n 0) 0)), (118, .blk ((u1 1).n 0) [vI t56.Lo, vI t56.Hi] 38)]
          refine k_ret ?_
          obtain rfl := Option.some.inj G
          exact k_done1 H _ 118 ((u1 1).n 0) [vI t56.Lo, vI t56.Hi] 38 0 2 (by kernel_rfl) (by kernel_rfl) (by kernel_rfl) (by kernel_rfl)
         ·rw [if_neg (nt c71)] at G
          refine k_seq ?_
          refine k_rg mixed H (.v 100 (.bool (t8.Op == 9)) <|
   .v 99 (.bool (t8.Op == 9)) <| .nil) fun u57 a w' H => ?_
          replace H := H.toM [(6, (sP ((u1 1).n 0) 0)), (8, sS p_j4 j5.length c_j4), (99, (sB (t8.Op == 9))), (118, .blk ((u1 1).n 0) [vI 0, vI 0] 38), (121, owK 38 2 p_j4 j5.length c_j4 (j5.flatMap en_TInterval))]
          refine k_cond H (by kernel_rfl) (t := (t8.Op == 9)) (by kernel_rfl) (fun c70 => ?_) (fun c70 => ?_)
          ·rw [if_pos c70] at G
           refine k_seq ?_
           replace G := gd G; obtain ⟨b59, G⟩ := G
           replace G := bnd G; obtain ⟨t60, ht60, G⟩ := G
           replace G := gd G; obtain ⟨b61, G⟩ := G
           replace G := bnd G; obtain ⟨t62, ht62, G⟩ := G
           replace G := bnd G; obtain ⟨t63, ht63, G⟩ := G
           refine k_rg mixed H (.v 101 (.slice p_j4 j5.length c_j4) <|
   .cons [102] (ok_valL [121] (fun u58 => [owK 38 2 p_j4 j5.length c_j4 (j5.flatMap en_TInterval)]) (fun u58 => .pointer (some ⟨hdB p_j4, hdO p_j4 + ((0 : Int).toNat) * 2, none⟩)) (fun u58 => true) [true, true] 102 (fun u58 w hg hF => run_of (by kernel_rfl) (run_ix (t := 24) (p := p_j4) (n := j5.length) (cap := c_j4) (k := .i64) (i := (0 : Int)) (sz := 2) (by kernel_rfl) (by kernel_rfl) (owns_row (ow_of hF.1)) b59))) <|
   .cons [103] (ok_valL [121] (fun u58 => [owK 38 2 p_j4 j5.length c_j4 (j5.flatMap en_TInterval)]) (fun u58 => .agg #[vI t60.Lo, vI t60.Hi]) (fun u58 => true) [true] 103 (fun u58 w hg hF => ld_of (vs := [vI t60.Lo, vI t60.Hi]) (b := hdB p_j4) (off := hdO p_j4 + ((0 : Int).toNat) * 2 + 0) (m := 2) (by kernel_rfl) (el_cells (owns_row (ow_of hF.1)) en_TInterval_len ht60 0 2 rfl))) <|
   .v 104 (.slice p_j4 j5.length c_j4) <|
   .cons [105] (ok_valL [121] (fun u58 => [owK 38 2 p_j4 j5.length c_j4 (j5.flatMap en_TInterval)]) (fun u58 => .pointer (some ⟨hdB p_j4, hdO p_j4 + ((1 : Int).toNat) * 2, none⟩)) (fun u58 => true) [true, true] 105 (fun u58 w hg hF => run_of (by kernel_rfl) (run_ix (t := 24) (p := p_j4) (n := j5.length) (cap := c_j4) (k := .i64) (i := (1 : Int)) (sz := 2) (by kernel_rfl) (by kernel_rfl) (owns_row (ow_of hF.1)) b61))) <|
   .cons [106] (ok_valL [121] (fun u58 => [owK 38 2 p_j4 j5.length c_j4 (j5.flatMap en_TInterval)]) (fun u58 => .agg #[vI t62.Lo, vI t62.Hi]) (fun u58 => true) [true] 106 (fun u58 w hg hF => ld_of (vs := [vI t62.Lo, vI t62.Hi]) (b := hdB p_j4) (off := hdO p_j4 + ((1 : Int).toNat) * 2 + 0) (m := 2) (by kernel_rfl) (el_cells (owns_row (ow_of hF.1)) en_TInterval_len ht62 0 2 rfl))) <|
   .cons [107] (ok_callv 70 (fun u58 => #[.agg #[vI t60.Lo, vI t60.Hi], .agg #[vI t62.Lo, vI t62.Hi]]) (.agg #[vI t63.Lo, vI t63.Hi]) 107 [] (fun _ w _ => armillaryref02_Mul.calls k0 t60 t62 t63 w ht63)) <|
   .cons [118] (ok_as (u' := fun u58 => [(118, .blk ((u1 1).n 0) [vI t63.Lo, vI t63.Hi] 38)]) (ok_store 118 0 (fun u58 => ((u1 1).n 0)) (fun u58 => [vI 0, vI 0]) (fun u58 => [vI t63.Lo, vI t63.Hi]) 38) (fun _ => by kernel_rfl)) <| .nil) fun u58 a w' H => ?_
           replace H := H.toM [(6, (sP ((u1 1).n 0) 0)), (118, .blk ((u1 1).n 0) [vI t63.Lo, vI t63.Hi] 38)]
           refine k_ret ?_
           obtain rfl := Option.some.inj G
           exact k_done1 H _ 118 ((u1 1).n 0) [vI t63.Lo, vI t63.Hi] 38 0 2 (by kernel_rfl) (by kernel_rfl) (by kernel_rfl) (by kernel_rfl)
          ·rw [if_neg (nt c70)] at G
           refine k_skip ?_
           refine k_seq ?_
           replace G := gd G; obtain ⟨b65, G⟩ := G
           replace G := bnd G; obtain ⟨t66, ht66, G⟩ := G
           replace G := gd G; obtain ⟨b67, G⟩ := G
           replace G := bnd G; obtain ⟨t68, ht68, G⟩ := G
           replace G := bnd G; obtain ⟨t69, ht69, G⟩ := G
           refine k_rg mixed H (.v 108 (.slice p_j4 j5.length c_j4) <|
   .cons [109] (ok_valL [121] (fun u64 => [owK 38 2 p_j4 j5.length c_j4 (j5.flatMap en_TInterval)]) (fun u64 => .pointer (some ⟨hdB p_j4, hdO p_j4 + ((0 : Int).toNat) * 2, none⟩)) (fun u64 => true) [true, true] 109 (fun u64 w hg hF => run_of (by kernel_rfl) (run_ix (t := 24) (p := p_j4) (n := j5.length) (cap := c_j4) (k := .i64) (i := (0 : Int)) (sz := 2) (by kernel_rfl) (by kernel_rfl) (owns_row (ow_of hF.1)) b65))) <|
   .cons [110] (ok_valL [121] (fun u64 => [owK 38 2 p_j4 j5.length c_j4 (j5.flatMap en_TInterval)]) (fun u64 => .agg #[vI t66.Lo, vI t66.Hi]) (fun u64 => true) [true] 110 (fun u64 w hg hF => ld_of (vs := [vI t66.Lo, vI t66.Hi]) (b := hdB p_j4) (off := hdO p_j4 + ((0 : Int).toNat) * 2 + 0) (m := 2) (by kernel_rfl) (el_cells (owns_row (ow_of hF.1)) en_TInterval_len ht66 0 2 rfl))) <|
   .v 111 (.slice p_j4 j5.length c_j4) <|
   .cons [112] (ok_valL [121] (fun u64 => [owK 38 2 p_j4 j5.length c_j4 (j5.flatMap en_TInterval)]) (fun u64 => .pointer (some ⟨hdB p_j4, hdO p_j4 + ((1 : Int).toNat) * 2, none⟩)) (fun u64 => true) [true, true] 112 (fun u64 w hg hF => run_of (by kernel_rfl) (run_ix (t := 24) (p := p_j4) (n := j5.length) (cap := c_j4) (k := .i64) (i := (1 : Int)) (sz := 2) (by kernel_rfl) (by kernel_rfl) (owns_row (ow_of hF.1)) b67))) <|
   .cons [113] (ok_valL [121] (fun u64 => [owK 38 2 p_j4 j5.length c_j4 (j5.flatMap en_TInterval)]) (fun u64 => .agg #[vI t68.Lo, vI t68.Hi]) (fun u64 => true) [true] 113 (fun u64 w hg hF => ld_of (vs := [vI t68.Lo, vI t68.Hi]) (b := hdB p_j4) (off := hdO p_j4 + ((1 : Int).toNat) * 2 + 0) (m := 2) (by kernel_rfl) (el_cells (owns_row (ow_of hF.1)) en_TInterval_len ht68 0 2 rfl))) <|
   .cons [114] (ok_callv 71 (fun u64 => #[.agg #[vI t66.Lo, vI t66.Hi], .agg #[vI t68.Lo, vI t68.Hi]]) (.agg #[vI t69.Lo, vI t69.Hi]) 114 [] (fun _ w _ => armillaryref02_Div.calls k0 t66 t68 t69 w ht69)) <|
   .cons [118] (ok_as (u' := fun u64 => [(118, .blk ((u1 1).n 0) [vI t69.Lo, vI t69.Hi] 38)]) (ok_store 118 0 (fun u64 => ((u1 1).n 0)) (fun u64 => [vI 0, vI 0]) (fun u64 => [vI t69.Lo, vI t69.Hi]) 38) (fun _ => by kernel_rfl)) <| .nil) fun u64 a w' H => ?_
           replace H := H.toM [(6, (sP ((u1 1).n 0) 0)), (118, .blk ((u1 1).n 0) [vI t69.Lo, vI t69.Hi] 38)]
           refine k_ret ?_
           obtain rfl := Option.some.inj G
           exact k_done1 H _ 118 ((u1 1).n 0) [vI t69.Lo, vI t69.Hi] 38 0 2 (by kernel_rfl) (by kernel_rfl) (by kernel_rfl) (by kernel_rfl)
 ·clear G; replace G := hj5; clear hj5
  refine k_seq ?_
  refine k_rg mixed H (.v 9 (vI 0) <| .nil) fun u79 a w' H => ?_
  replace H := H.toM [(0, sS p_a0 a0.length c_a0), (1, sS p_a1 a1.length c_a1), (5, (sP ((u1 0).n 0) 0)), (6, (sP ((u1 1).n 0) 0)), (7, (sS ((u2 1).o 0) (mkL (u2 1).o (u2 1).n 1 t3).length ((u2 1).n 0))), (8, (sS (some ⟨((u2 2).n 0), 0, none⟩) ([] : List TInterval).length 0)), (9, sI 0), (117, .blk ((u1 0).n 0) [vI a2.Lo, vI a2.Hi] 38), (118, .blk ((u1 1).n 0) [vI 0, vI 0] 38), (115, rdl fr 4 p_a0 c_a0 a0 en_TNode), (116, rdl fr 2 p_a1 c_a1 a1 en_TInterval), (119, rdF fr 1 ((u2 1).o 0) (mkL (u2 1).o (u2 1).n 1 t3).length ((u2 1).n 0) ((mkL (u2 1).o (u2 1).n 1 t3).flatMap enSl)), (121, owK 38 2 (some ⟨((u2 2).n 0), 0, none⟩) ([] : List TInterval).length 0 (([] : List TInterval).flatMap en_TInterval)), (120, rdN fr 4 en_TNode (mkL (u2 1).o (u2 1).n 1 t3))]
  refine k_block ?_
  refine k_loopJ (fun m a w' => ∃ x80 : List TInterval, ∃ x81 : Int, armillaryref07_Eval.l82 k0 rec a0 a1 a2 t3 m x80 x81 = some j5 ∧ ∃ (p_x80 : Option Addr) (c_x80 np_x80 : Nat), np_x80 = x80.length ∧ Rep w.heap.size w 115 (ofL [(0, sS p_a0 a0.length c_a0), (1, sS p_a1 a1.length c_a1), (5, (sP ((u1 0).n 0) 0)), (6, (sP ((u1 1).n 0) 0)), (7, (sS ((u2 1).o 0) (mkL (u2 1).o (u2 1).n 1 t3).length ((u2 1).n 0))), (8, sS p_x80 np_x80 c_x80), (9, sI x81), (117, .blk ((u1 0).n 0) [vI a2.Lo, vI a2.Hi] 38), (118, .blk ((u1 1).n 0) [vI 0, vI 0] 38), (115, rdl fr 4 p_a0 c_a0 a0 en_TNode), (116, rdl fr 2 p_a1 c_a1 a1 en_TInterval), (119, rdF fr 1 ((u2 1).o 0) (mkL (u2 1).o (u2 1).n 1 t3).length ((u2 1).n 0) ((mkL (u2 1).o (u2 1).n 1 t3).flatMap enSl)), (121, owK 38 2 p_x80 np_x80 c_x80 (x80.flatMap en_TInterval)), (120, rdN fr 4 en_TNode (mkL (u2 1).o (u2 1).n 1 t3))]) a w') k0 ⟨_, _, G, (some ⟨((u2 2).n 0), 0, none⟩), 0, _, rfl, H.toL _ (by kernel_rfl)⟩ ?_
  clear G H
  rintro (_ | k) a w' ⟨x80, x81, G, p_x80, c_x80, _, rfl, H⟩
  ·exact absurd G (by unfold armillaryref07_Eval.l82; exact fun h => by cases h)
  ·unfold armillaryref07_Eval.l82 at G
   refine k_seq ?_
   refine k_seq ?_
   refine k_rg mixed H (.v 15 (vI x81) <|
   .v 16 (.slice ((u2 1).o 0) (mkL (u2 1).o (u2 1).n 1 t3).length ((u2 1).n 0)) <|
   .cons [17] (ok_val (fun u83 => vI (t3.length : Int)) 17 (hv := fun _ _ => by rw [sl_len (mkL_l (o := (u2 1).o) (c := (u2 1).n) 1 t3)]; kernel_rfl)) <|
   .v 18 (.bool (decide (x81 < (t3.length : Int)))) <| .nil) fun u83 a w' H => ?_
   replace H := H.toM [(0, sS p_a0 a0.length c_a0), (1, sS p_a1 a1.length c_a1), (5, (sP ((u1 0).n 0) 0)), (6, (sP ((u1 1).n 0) 0)), (7, (sS ((u2 1).o 0) (mkL (u2 1).o (u2 1).n 1 t3).length ((u2 1).n 0))), (8, sS p_x80 x80.length c_x80), (9, sI x81), (18, (sB (decide (x81 < (t3.length : Int))))), (117, .blk ((u1 0).n 0) [vI a2.Lo, vI a2.Hi] 38), (118, .blk ((u1 1).n 0) [vI 0, vI 0] 38), (115, rdl fr 4 p_a0 c_a0 a0 en_TNode), (116, rdl fr 2 p_a1 c_a1 a1 en_TInterval), (119, rdF fr 1 ((u2 1).o 0) (mkL (u2 1).o (u2 1).n 1 t3).length ((u2 1).n 0) ((mkL (u2 1).o (u2 1).n 1 t3).flatMap enSl)), (121, owK 38 2 p_x80 x80.length c_x80 (x80.flatMap en_TInterval)), (120, rdN fr 4 en_TNode (mkL (u2 1).o (u2 1).n 1 t3))]
   refine k_cond H (by kernel_rfl) (t := decide (x81 < (t3.length : Int))) (by kernel_rfl) (fun c90 => ?_) (fun c90 => ?_)
   ·rw [if_pos c90] at G
    refine k_skip ?_
    refine k_seq ?_
    refine k_block ?_
    replace G := gd G; obtain ⟨b85, G⟩ := G
    replace G := bnd G; obtain ⟨t86, ht86, G⟩ := G
    obtain ⟨p_t86, c_t86, y_t86⟩ := sl_get (mkL_l (o := (u2 1).o) (c := (u2 1).n) 1 t3) ht86
    replace G := bnd G; obtain ⟨t87, ht87, G⟩ := G
    replace G := gd G; obtain ⟨b88, G⟩ := G
    refine k_regT mixed H (.v 21 (.slice p_x80 x80.length c_x80) <|
   .v 22 (.slice ((u2 1).o 0) (mkL (u2 1).o (u2 1).n 1 t3).length ((u2 1).n 0)) <|
   .v 23 (vI x81) <|
   .cons [24] (ok_valL [119] (fun u84 => [rdF fr 1 ((u2 1).o 0) (mkL (u2 1).o (u2 1).n 1 t3).length ((u2 1).n 0) ((mkL (u2 1).o (u2 1).n 1 t3).flatMap enSl)]) (fun u84 => .pointer (some ⟨hdB ((u2 1).o 0), hdO ((u2 1).o 0) + x81.toNat * 1, none⟩)) (fun u84 => true) [true, true] 24 (fun u84 w hg hF => run_of (by kernel_rfl) (run_ix (t := 92) (p := ((u2 1).o 0)) (n := (mkL (u2 1).o (u2 1).n 1 t3).length) (cap := ((u2 1).n 0)) (k := .i64) (i := x81) (sz := 1) (by kernel_rfl) (by kernel_rfl) (rdF_of hF.1).2 (by rw [← sl_len (mkL_l (o := (u2 1).o) (c := (u2 1).n) 1 t3)]; exact b85)))) <|
   .cons [25] (ok_valL [119] (fun u84 => [rdF fr 1 ((u2 1).o 0) (mkL (u2 1).o (u2 1).n 1 t3).length ((u2 1).n 0) ((mkL (u2 1).o (u2 1).n 1 t3).flatMap enSl)]) (fun u84 => .slice p_t86 t86.length c_t86) (fun u84 => true) [true] 25 (fun u84 w hg hF => ld_of (vs := [.slice p_t86 t86.length c_t86]) (b := hdB ((u2 1).o 0)) (off := hdO ((u2 1).o 0) + x81.toNat * 1 + 0) (m := 1) (by kernel_rfl) (el_cells (rdF_of hF.1).2 enSl_len y_t86 0 1 rfl))) <|
   .v 26 (.slice p_a1 a1.length c_a1) <|
   .cons [27] (ok_ld (fun u84 => .agg #[vI a2.Lo, vI a2.Hi]) 27 117 0 2 (fun u84 => ((u1 0).n 0)) (fun u84 => [vI a2.Lo, vI a2.Hi]) 38) <|
   .cons [28] (ok_callL [120, 116] (fun u84 => [rdN fr 4 en_TNode (mkL (u2 1).o (u2 1).n 1 t3), rdl fr 2 p_a1 c_a1 a1 en_TInterval]) 34 (fun u84 => #[.slice p_t86 t86.length c_t86, .slice p_a1 a1.length c_a1, .agg #[vI a2.Lo, vI a2.Hi]]) (.agg #[vI t87.Lo, vI t87.Hi]) 28 (fun u84 w hF => IH t86 a1 a2 p_t86 c_t86 p_a1 c_a1 t87 w (sl_row (rdN_of hF.1) y_t86) (rdF_of hF.2.1) ht87)) <|
   .cons [29, 123] (ok_new (fun b => .slice (some ⟨b, 0, none⟩) 1 1) (fun u84 => [vI t87.Lo, vI t87.Hi]) 38 29 123) <|
   .cons [30, 121] (ok_rowL [121, 123] (fun u84 => [owK 38 2 p_x80 x80.length c_x80 (x80.flatMap en_TInterval), .blk ((u84 8).n 0) [vI t87.Lo, vI t87.Hi] 38]) 38 2 (x80 ++ [t87]).length ((x80 ++ [t87]).flatMap en_TInterval) 30 121 (fun u84 => owK 38 2 p_x80 x80.length c_x80 (x80.flatMap en_TInterval)) (fun u84 w hF => run_app_row (t := 24) (ty := 24) (en := en_TInterval) en_TInterval_len inf38 (ow_of hF.1) hF.2.1 (news := [t87]) rfl (by simp) (by kernel_rfl) b88) (fun _ => .inr trivial)) <|
   .cons [8] (ok_val (fun u84 => .slice ((u84 9).o 0) (x80 ++ [t87]).length ((u84 9).n 0)) 8) <| .nil) (by kernel_rfl) fun u84 a w' H => ?_
    replace H := H.toM [(0, sS p_a0 a0.length c_a0), (1, sS p_a1 a1.length c_a1), (5, (sP ((u1 0).n 0) 0)), (6, (sP ((u1 1).n 0) 0)), (7, (sS ((u2 1).o 0) (mkL (u2 1).o (u2 1).n 1 t3).length ((u2 1).n 0))), (8, (sS ((u84 9).o 0) (x80 ++ [t87]).length ((u84 9).n 0))), (9, sI x81), (117, .blk ((u1 0).n 0) [vI a2.Lo, vI a2.Hi] 38), (118, .blk ((u1 1).n 0) [vI 0, vI 0] 38), (115, rdl fr 4 p_a0 c_a0 a0 en_TNode), (116, rdl fr 2 p_a1 c_a1 a1 en_TInterval), (119, rdF fr 1 ((u2 1).o 0) (mkL (u2 1).o (u2 1).n 1 t3).length ((u2 1).n 0) ((mkL (u2 1).o (u2 1).n 1 t3).flatMap enSl)), (121, owK 38 2 ((u84 9).o 0) (x80 ++ [t87]).length ((u84 9).n 0) ((x80 ++ [t87]).flatMap en_TInterval)), (120, rdN fr 4 en_TNode (mkL (u2 1).o (u2 1).n 1 t3))]
    refine k_rg mixed H (.v 19 (vI x81) <|
   .v 20 (vI (w_i64 (x81 + 1))) <|
   .v 9 (vI (w_i64 (x81 + 1))) <| .nil) fun u89 a w' H => ?_
    replace H := H.toM [(0, sS p_a0 a0.length c_a0), (1, sS p_a1 a1.length c_a1), (5, (sP ((u1 0).n 0) 0)), (6, (sP ((u1 1).n 0) 0)), (7, (sS ((u2 1).o 0) (mkL (u2 1).o (u2 1).n 1 t3).length ((u2 1).n 0))), (8, (sS ((u84 9).o 0) (x80 ++ [t87]).length ((u84 9).n 0))), (9, (sI (w_i64 (x81 + 1)))), (117, .blk ((u1 0).n 0) [vI a2.Lo, vI a2.Hi] 38), (118, .blk ((u1 1).n 0) [vI 0, vI 0] 38), (115, rdl fr 4 p_a0 c_a0 a0 en_TNode), (116, rdl fr 2 p_a1 c_a1 a1 en_TInterval), (119, rdF fr 1 ((u2 1).o 0) (mkL (u2 1).o (u2 1).n 1 t3).length ((u2 1).n 0) ((mkL (u2 1).o (u2 1).n 1 t3).flatMap enSl)), (121, owK 38 2 ((u84 9).o 0) (x80 ++ [t87]).length ((u84 9).n 0) ((x80 ++ [t87]).flatMap en_TInterval)), (120, rdN fr 4 en_TNode (mkL (u2 1).o (u2 1).n 1 t3))]
    exact ⟨k, Nat.lt_succ_self k, _, _, G, ((u84 9).o 0), ((u84 9).n 0), _, rfl, H.toL _ (by kernel_rfl)⟩
   ·rw [if_neg (nt c90)] at G
    refine k_exit rfl ?_
    obtain rfl := Option.some.inj G
    exact ⟨p_x80, c_x80, _, rfl, H.toL _ (by kernel_rfl)⟩

set_option maxHeartbeats 4000000 in
theorem armillaryref15_Eval.calls (k0 : Nat) (a0 : TGuard) (a1 : List TInterval) (a2 : TInterval) (p_a0_F : Option Addr) (c_a0_F : Nat) (p_a1 : Option Addr) (c_a1 : Nat) (r : TInterval) (w : World) (R_p_a0_F : RowC w 4 p_a0_F a0.F.length c_a0_F (a0.F.flatMap en_TNode)) (R_p_a1 : RowC w 2 p_a1 a1.length c_a1 (a1.flatMap en_TInterval)) (G : armillaryref15_Eval k0 a0 a1 a2 = some r) :
  Calls Tryd.prog 13 #[.agg #[.slice p_a0_F a0.F.length c_a0_F, vI a0.Dir], .slice p_a1 a1.length c_a1, .agg #[vI a2.Lo, vI a2.Hi]] w fun e w' => e = .returned (.agg #[vI r.Lo, vI r.Hi]) ∧ Below w.heap.size w w' := by
 obtain ⟨fr, hfr⟩ : ∃ fr : Nat → Prop, ∀ j, fr j := ⟨fun _ => True, fun _ => trivial⟩
 have hB : ∀ j, w.heap.size ≤ j → fr j := fun j _ => hfr j
 have hin_p_a0_F : ∀ j, fpRow p_a0_F a0.F.length j → fr j := fun j _ => hfr j
 have hin_p_a1 : ∀ j, fpRow p_a1 a1.length j → fr j := fun j _ => hfr j
 refine k_enterF (args := [.agg #[.slice p_a0_F a0.F.length c_a0_F, vI a0.Dir], .slice p_a1 a1.length c_a1, .agg #[vI a2.Lo, vI a2.Hi]]) 12 [(12, rdl fr 4 p_a0_F c_a0_F a0.F en_TNode), (13, rdl fr 2 p_a1 c_a1 a1 en_TInterval)] (by
  intro x hx
  simp only [List.mem_cons, List.not_mem_nil, or_false] at hx
  rcases hx with rfl | rfl
  ·exact rdF_fact R_p_a0_F hin_p_a0_F (by decide) _
  ·exact rdF_fact R_p_a1 hin_p_a1 (by decide) _) Tryd.func13 rfl (by kernel_rfl) (by kernel_rfl) fun a H => ?_
 unfold armillaryref15_Eval at G
 refine k_seq ?_
 refine k_rg mixed H (.cons [3, 14] (ok_new (fun b => vP b 0) (fun u1 => [.slice p_a0_F a0.F.length c_a0_F, vI a0.Dir]) 31 3 14) <|
   .cons [5, 15] (ok_new (fun b => vP b 0) (fun u1 => [vI a2.Lo, vI a2.Hi]) 38 5 15) <|
   .cons [6, 16] (ok_new (fun b => vP b 0) (fun u1 => [vI 0, vI 0]) 38 6 16) <| .nil) fun u1 a w' H => ?_
 replace H := H.toM [(1, sS p_a1 a1.length c_a1), (3, (sP ((u1 0).n 0) 0)), (5, (sP ((u1 1).n 0) 0)), (6, (sP ((u1 2).n 0) 0)), (14, .blk ((u1 0).n 0) [.slice p_a0_F a0.F.length c_a0_F, vI a0.Dir] 31), (15, .blk ((u1 1).n 0) [vI a2.Lo, vI a2.Hi] 38), (16, .blk ((u1 2).n 0) [vI 0, vI 0] 38), (12, rdl fr 4 p_a0_F c_a0_F a0.F en_TNode), (13, rdl fr 2 p_a1 c_a1 a1 en_TInterval)]
 refine k_seq ?_
 replace G := bnd G; obtain ⟨t3, ht3, G⟩ := G
 refine k_rg mixed H (.v 7 (vP ((u1 0).n 0) 0) <|
   .cons [8] (ok_ld (fun u2 => .slice p_a0_F a0.F.length c_a0_F) 8 14 0 1 (fun u2 => ((u1 0).n 0)) (fun u2 => [.slice p_a0_F a0.F.length c_a0_F, vI a0.Dir]) 31) <|
   .v 9 (.slice p_a1 a1.length c_a1) <|
   .cons [10] (ok_ld (fun u2 => .agg #[vI a2.Lo, vI a2.Hi]) 10 15 0 2 (fun u2 => ((u1 1).n 0)) (fun u2 => [vI a2.Lo, vI a2.Hi]) 38) <|
   .cons [11] (ok_callL [12, 13] (fun u2 => [rdl fr 4 p_a0_F c_a0_F a0.F en_TNode, rdl fr 2 p_a1 c_a1 a1 en_TInterval]) 34 (fun u2 => #[.slice p_a0_F a0.F.length c_a0_F, .slice p_a1 a1.length c_a1, .agg #[vI a2.Lo, vI a2.Hi]]) (.agg #[vI t3.Lo, vI t3.Hi]) 11 (fun u2 w hF => armillaryref07_Eval.calls k0 a0.F a1 a2 p_a0_F c_a0_F p_a1 c_a1 t3 w (rdF_of hF.1) (rdF_of hF.2.1) ht3)) <|
   .cons [16] (ok_as (u' := fun u2 => [(16, .blk ((u1 2).n 0) [vI t3.Lo, vI t3.Hi] 38)]) (ok_store 16 0 (fun u2 => ((u1 2).n 0)) (fun u2 => [vI 0, vI 0]) (fun u2 => [vI t3.Lo, vI t3.Hi]) 38) (fun _ => by kernel_rfl)) <| .nil) fun u2 a w' H => ?_
 replace H := H.toM [(6, (sP ((u1 2).n 0) 0)), (16, .blk ((u1 2).n 0) [vI t3.Lo, vI t3.Hi] 38)]
 refine k_ret ?_
 obtain rfl := Option.some.inj G
 exact k_done1 H _ 16 ((u1 2).n 0) [vI t3.Lo, vI t3.Hi] 38 0 2 (by kernel_rfl) (by kernel_rfl) (by kernel_rfl) (by kernel_rfl)

set_option maxHeartbeats 4000000 in
theorem armillaryref02_Sign.calls (a0 : TInterval) (r : Int) (w : World) (G : armillaryref02_Sign a0 = some r) :
  Calls Tryd.prog 36 #[.agg #[vI a0.Lo, vI a0.Hi]] w fun e w' => e = .returned (vI r) ∧ Below w.heap.size w w' := by
 refine k_enter (args := [.agg #[vI a0.Lo, vI a0.Hi]]) 9 Tryd.func36 rfl (by kernel_rfl) (by kernel_rfl) fun a H => ?_
 unfold armillaryref02_Sign at G
 refine k_seq ?_
 refine k_rg mixed H (.cons [1, 9] (ok_new (fun b => vP b 0) (fun u1 => [vI a0.Lo, vI a0.Hi]) 38 1 9) <|
   .v 2 (vI 0) <| .nil) fun u1 a w' H => ?_
 replace H := H.toM [(1, (sP ((u1 0).n 0) 0)), (9, .blk ((u1 0).n 0) [vI a0.Lo, vI a0.Hi] 38)]
 refine k_seq ?_
 refine k_seq ?_
 refine k_rg mixed H (.v 3 (vP ((u1 0).n 0) 0) <|
   .cons [4] (ok_ld (fun u2 => vI a0.Lo) 4 9 0 1 (fun u2 => ((u1 0).n 0)) (fun u2 => [vI a0.Lo, vI a0.Hi]) 38) <|
   .v 5 (.bool (decide (a0.Lo > 0))) <| .nil) fun u2 a w' H => ?_
 replace H := H.toM [(1, (sP ((u1 0).n 0) 0)), (5, (sB (decide (a0.Lo > 0)))), (9, .blk ((u1 0).n 0) [vI a0.Lo, vI a0.Hi] 38)]
 refine k_cond H (by kernel_rfl) (t := decide (a0.Lo > 0)) (by kernel_rfl) (fun c8 => ?_) (fun c8 => ?_)
 ·rw [if_pos c8] at G
  refine k_seq ?_
  refine k_rg mixed H (.v 2 (vI 1) <| .nil) fun u3 a w' H => ?_
  replace H := H.toM [(2, sI 1)]
  refine k_ret ?_
  obtain rfl := Option.some.inj G
  exact k_done0 H _ (by kernel_rfl) (by kernel_rfl)
 ·rw [if_neg (nt c8)] at G
  refine k_skip ?_
  refine k_seq ?_
  refine k_seq ?_
  refine k_rg mixed H (.v 6 (vP ((u1 0).n 0) 1) <|
   .cons [7] (ok_ld (fun u4 => vI a0.Hi) 7 9 1 1 (fun u4 => ((u1 0).n 0)) (fun u4 => [vI a0.Lo, vI a0.Hi]) 38) <|
   .v 8 (.bool (decide (a0.Hi < 0))) <| .nil) fun u4 a w' H => ?_
  replace H := H.toM [(8, (sB (decide (a0.Hi < 0))))]
  refine k_cond H (by kernel_rfl) (t := decide (a0.Hi < 0)) (by kernel_rfl) (fun c7 => ?_) (fun c7 => ?_)
  ·rw [if_pos c7] at G
   refine k_seq ?_
   refine k_rg mixed H (.v 2 (vI (-1)) <| .nil) fun u5 a w' H => ?_
   replace H := H.toM [(2, (sI (-1)))]
   refine k_ret ?_
   obtain rfl := Option.some.inj G
   exact k_done0 H _ (by kernel_rfl) (by kernel_rfl)
  ·rw [if_neg (nt c7)] at G
   refine k_skip ?_
   refine k_seq ?_
   refine k_rg mixed H (.v 2 (vI 0) <| .nil) fun u6 a w' H => ?_
   replace H := H.toM [(2, sI 0)]
   refine k_ret ?_
   obtain rfl := Option.some.inj G
   exact k_done0 H _ (by kernel_rfl) (by kernel_rfl)

set_option maxHeartbeats 4000000 in
theorem armillaryref15_Side.calls (k0 : Nat) (a0 : TGuard) (a1 : List TInterval) (a2 : TInterval) (p_a0_F : Option Addr) (c_a0_F : Nat) (p_a1 : Option Addr) (c_a1 : Nat) (r : Int) (w : World) (R_p_a0_F : RowC w 4 p_a0_F a0.F.length c_a0_F (a0.F.flatMap en_TNode)) (R_p_a1 : RowC w 2 p_a1 a1.length c_a1 (a1.flatMap en_TInterval)) (G : armillaryref15_Side k0 a0 a1 a2 = some r) :
  Calls Tryd.prog 15 #[.agg #[.slice p_a0_F a0.F.length c_a0_F, vI a0.Dir], .slice p_a1 a1.length c_a1, .agg #[vI a2.Lo, vI a2.Hi]] w fun e w' => e = .returned (vI r) ∧ Below w.heap.size w w' := by
 obtain ⟨fr, hfr⟩ : ∃ fr : Nat → Prop, ∀ j, fr j := ⟨fun _ => True, fun _ => trivial⟩
 have hB : ∀ j, w.heap.size ≤ j → fr j := fun j _ => hfr j
 have hin_p_a0_F : ∀ j, fpRow p_a0_F a0.F.length j → fr j := fun j _ => hfr j
 have hin_p_a1 : ∀ j, fpRow p_a1 a1.length j → fr j := fun j _ => hfr j
 refine k_enterF (args := [.agg #[.slice p_a0_F a0.F.length c_a0_F, vI a0.Dir], .slice p_a1 a1.length c_a1, .agg #[vI a2.Lo, vI a2.Hi]]) 12 [(12, rdl fr 4 p_a0_F c_a0_F a0.F en_TNode), (13, rdl fr 2 p_a1 c_a1 a1 en_TInterval)] (by
  intro x hx
  simp only [List.mem_cons, List.not_mem_nil, or_false] at hx
  rcases hx with rfl | rfl
  ·exact rdF_fact R_p_a0_F hin_p_a0_F (by decide) _
  ·exact rdF_fact R_p_a1 hin_p_a1 (by decide) _) Tryd.func15 rfl (by kernel_rfl) (by kernel_rfl) fun a H => ?_
 unfold armillaryref15_Side at G
 refine k_seq ?_
 refine k_rg mixed H (.cons [3, 14] (ok_new (fun b => vP b 0) (fun u1 => [.slice p_a0_F a0.F.length c_a0_F, vI a0.Dir]) 31 3 14) <|
   .cons [5, 15] (ok_new (fun b => vP b 0) (fun u1 => [vI a2.Lo, vI a2.Hi]) 38 5 15) <|
   .v 6 (vI 0) <| .nil) fun u1 a w' H => ?_
 replace H := H.toM [(1, sS p_a1 a1.length c_a1), (3, (sP ((u1 0).n 0) 0)), (5, (sP ((u1 1).n 0) 0)), (14, .blk ((u1 0).n 0) [.slice p_a0_F a0.F.length c_a0_F, vI a0.Dir] 31), (15, .blk ((u1 1).n 0) [vI a2.Lo, vI a2.Hi] 38), (12, rdl fr 4 p_a0_F c_a0_F a0.F en_TNode), (13, rdl fr 2 p_a1 c_a1 a1 en_TInterval)]
 refine k_seq ?_
 replace G := bnd G; obtain ⟨t3, ht3, G⟩ := G
 replace G := bnd G; obtain ⟨t4, ht4, G⟩ := G
 refine k_rg mixed H (.cons [7] (ok_ld (fun u2 => .agg #[.slice p_a0_F a0.F.length c_a0_F, vI a0.Dir]) 7 14 0 2 (fun u2 => ((u1 0).n 0)) (fun u2 => [.slice p_a0_F a0.F.length c_a0_F, vI a0.Dir]) 31) <|
   .v 8 (.slice p_a1 a1.length c_a1) <|
   .cons [9] (ok_ld (fun u2 => .agg #[vI a2.Lo, vI a2.Hi]) 9 15 0 2 (fun u2 => ((u1 1).n 0)) (fun u2 => [vI a2.Lo, vI a2.Hi]) 38) <|
   .cons [10] (ok_callL [12, 13] (fun u2 => [rdl fr 4 p_a0_F c_a0_F a0.F en_TNode, rdl fr 2 p_a1 c_a1 a1 en_TInterval]) 13 (fun u2 => #[.agg #[.slice p_a0_F a0.F.length c_a0_F, vI a0.Dir], .slice p_a1 a1.length c_a1, .agg #[vI a2.Lo, vI a2.Hi]]) (.agg #[vI t3.Lo, vI t3.Hi]) 10 (fun u2 w hF => armillaryref15_Eval.calls k0 (⟨a0.F, a0.Dir⟩ : TGuard) a1 a2 p_a0_F c_a0_F p_a1 c_a1 t3 w (rdF_of hF.1) (rdF_of hF.2.1) ht3)) <|
   .cons [11] (ok_callv 36 (fun u2 => #[.agg #[vI t3.Lo, vI t3.Hi]]) (vI t4) 11 [] (fun _ w _ => armillaryref02_Sign.calls t3 t4 w ht4)) <|
   .v 6 (vI t4) <| .nil) fun u2 a w' H => ?_
 replace H := H.toM [(6, sI t4)]
 refine k_ret ?_
 obtain rfl := Option.some.inj G
 exact k_done0 H _ (by kernel_rfl) (by kernel_rfl)

set_option maxHeartbeats 4000000 in
theorem armillaryref15_Reverse.calls (a0 : TGuard) (p_a0_F : Option Addr) (c_a0_F : Nat) (r : TGuard) (w : World) (R_p_a0_F : RowC w 4 p_a0_F a0.F.length c_a0_F (a0.F.flatMap en_TNode)) (G : armillaryref15_Reverse a0 = some r) :
  Calls Tryd.prog 18 #[.agg #[.slice p_a0_F a0.F.length c_a0_F, vI a0.Dir]] w fun e w' => ∃ g : Gh, e = .returned (.agg #[.slice (g.o 0) r.F.length (g.n 0), vI r.Dir]) ∧ Below w.heap.size w w' ∧ RowsF (frP w.heap.size (insV ((#[.agg #[.slice p_a0_F a0.F.length c_a0_F, vI a0.Dir]] : Array Value).toList))) w' g.o g.n 0 [(4, r.F.length, r.F.flatMap en_TNode)] := by
 obtain ⟨fr, hfr⟩ : ∃ fr : Nat → Prop, fr = frP w.heap.size [(p_a0_F, a0.F.length)] := ⟨_, rfl⟩
 have hB : ∀ j, w.heap.size ≤ j → fr j := fun j h => by rw [hfr]; exact .inl h
 have hin_p_a0_F : ∀ j, fpRow p_a0_F a0.F.length j → fr j := fun j h => by rw [hfr]; exact frP_in (.head _) j h
 refine k_enterF (args := [.agg #[.slice p_a0_F a0.F.length c_a0_F, vI a0.Dir]]) 34 [(34, rdl fr 4 p_a0_F c_a0_F a0.F en_TNode)] (by
  intro x hx
  simp only [List.mem_cons, List.not_mem_nil, or_false] at hx
  rcases hx with rfl
  exact rdF_fact R_p_a0_F hin_p_a0_F (by decide) _) Tryd.func18 rfl (by kernel_rfl) (by kernel_rfl) fun a H => ?_
 unfold armillaryref15_Reverse at G
 refine k_seq ?_
 refine k_rg mixed H (.cons [1, 35] (ok_new (fun b => vP b 0) (fun u1 => [.slice p_a0_F a0.F.length c_a0_F, vI a0.Dir]) 31 1 35) <|
   .cons [2, 36] (ok_new (fun b => vP b 0) (fun u1 => [.slice none 0 0, vI 0]) 31 2 36) <| .nil) fun u1 a w' H => ?_
 replace H := H.toM [(1, (sP ((u1 0).n 0) 0)), (2, (sP ((u1 1).n 0) 0)), (35, .blk ((u1 0).n 0) [.slice p_a0_F a0.F.length c_a0_F, vI a0.Dir] 31), (36, .blk ((u1 1).n 0) [.slice none 0 0, vI 0] 31), (34, rdl fr 4 p_a0_F c_a0_F a0.F en_TNode)]
 refine k_seq ?_
 refine k_seq ?_
 replace G := gd G; obtain ⟨b3, G⟩ := G
 replace G := bnd G; obtain ⟨t4, ht4, G⟩ := G
 refine k_rg mixed H (.v 4 (vP ((u1 0).n 0) 0) <|
   .cons [5] (ok_ld (fun u2 => .slice p_a0_F a0.F.length c_a0_F) 5 35 0 1 (fun u2 => ((u1 0).n 0)) (fun u2 => [.slice p_a0_F a0.F.length c_a0_F, vI a0.Dir]) 31) <|
   .v 6 (vI (a0.F.length : Int)) <|
   .v 7 (.bool (decide ((a0.F.length : Int) > 0))) <|
   .v 8 (.bool (decide ((a0.F.length : Int) > 0))) <|
   .cons [9] (ok_valg (fun u2 => vP ((u1 0).n 0) 0) (fun u2 => ((decide ((a0.F.length : Int) > 0)) == true)) [true] 9) <|
   .cons [10] (ok_ldg (fun u2 => .slice p_a0_F a0.F.length c_a0_F) (fun u2 => ((decide ((a0.F.length : Int) > 0)) == true)) [false] 10 35 0 1 (fun u2 => ((u1 0).n 0)) (fun u2 => [.slice p_a0_F a0.F.length c_a0_F, vI a0.Dir]) 31) <|
   .cons [11] (ok_valL [34] (fun u2 => [rdl fr 4 p_a0_F c_a0_F a0.F en_TNode]) (fun u2 => .pointer (some ⟨hdB p_a0_F, hdO p_a0_F + ((0 : Int).toNat) * 4, none⟩)) (fun u2 => ((decide ((a0.F.length : Int) > 0)) == true)) [false, true] 11 (fun u2 w hg hF => run_of (by kernel_rfl) (run_ix (t := 22) (p := p_a0_F) (n := a0.F.length) (cap := c_a0_F) (k := .i64) (i := (0 : Int)) (sz := 4) (by kernel_rfl) (by kernel_rfl) (rdF_of hF.1).2 (b3 hg)))) <|
   .cons [12] (ok_valg (fun u2 => .pointer (some ⟨hdB p_a0_F, hdO p_a0_F + ((0 : Int).toNat) * 4 + 0, none⟩)) (fun u2 => ((decide ((a0.F.length : Int) > 0)) == true)) [false] 12) <|
   .cons [13] (ok_valL [34] (fun u2 => [rdl fr 4 p_a0_F c_a0_F a0.F en_TNode]) (fun u2 => vI t4.Op) (fun u2 => ((decide ((a0.F.length : Int) > 0)) == true)) [false] 13 (fun u2 w hg hF => ld_of (vs := [vI t4.Op]) (b := hdB p_a0_F) (off := hdO p_a0_F + ((0 : Int).toNat) * 4 + 0) (m := 1) (by kernel_rfl) (el_cells (rdF_of hF.1).2 en_TNode_len (ifp ht4 hg) 0 1 rfl))) <|
   .cons [14] (ok_valg (fun u2 => .bool (t4.Op == 4)) (fun u2 => ((decide ((a0.F.length : Int) > 0)) == true)) [false, true] 14) <|
   .cons [15] (ok_and 8 14 (fun u2 => true) (fun u2 => true) (fun u2 => decide ((a0.F.length : Int) > 0)) (fun u2 => (t4.Op == 4)) 15) <| .nil) fun u2 a w' H => ?_
 replace H := H.toM [(1, (sP ((u1 0).n 0) 0)), (2, (sP ((u1 1).n 0) 0)), (15, (sB ((decide ((a0.F.length : Int) > 0)) && (t4.Op == 4)))), (35, .blk ((u1 0).n 0) [.slice p_a0_F a0.F.length c_a0_F, vI a0.Dir] 31), (36, .blk ((u1 1).n 0) [.slice none 0 0, vI 0] 31), (34, rdl fr 4 p_a0_F c_a0_F a0.F en_TNode)]
 refine k_cond H (by kernel_rfl) (t := ((decide ((a0.F.length : Int) > 0)) && (t4.Op == 4))) (by kernel_rfl) (fun c11 => ?_) (fun c11 => ?_)
 ·rw [if_pos c11] at G
  refine k_seq ?_
  replace G := gd G; obtain ⟨b6, G⟩ := G
  refine k_rg mixed H (.v 16 (vP ((u1 0).n 0) 0) <|
   .cons [17] (ok_ld (fun u5 => .slice p_a0_F a0.F.length c_a0_F) 17 35 0 1 (fun u5 => ((u1 0).n 0)) (fun u5 => [.slice p_a0_F a0.F.length c_a0_F, vI a0.Dir]) 31) <|
   .cons [18] (ok_val (fun u5 => .slice (viewP p_a0_F (1 : Int).toNat 4 c_a0_F) (a0.F.drop (1 : Int).toNat).length (c_a0_F - (1 : Int).toNat)) 18 (hv := fun _ _ => run_of (by kernel_rfl) (run_low (t := 22) (sz := 4) (l := a0.F) (k := .i64) rfl b6))) <|
   .v 19 (vP ((u1 0).n 0) 1) <|
   .cons [20] (ok_ld (fun u5 => vI a0.Dir) 20 35 1 1 (fun u5 => ((u1 0).n 0)) (fun u5 => [.slice p_a0_F a0.F.length c_a0_F, vI a0.Dir]) 31) <|
   .v 21 (vI (w_i64 (0 - a0.Dir))) <|
   .v 22 (.agg #[.slice (viewP p_a0_F (1 : Int).toNat 4 c_a0_F) (a0.F.drop (1 : Int).toNat).length (c_a0_F - (1 : Int).toNat), vI (w_i64 (0 - a0.Dir))]) <|
   .cons [36] (ok_as (u' := fun u5 => [(36, .blk ((u1 1).n 0) [.slice (viewP p_a0_F (1 : Int).toNat 4 c_a0_F) (a0.F.drop (1 : Int).toNat).length (c_a0_F - (1 : Int).toNat), vI (w_i64 (0 - a0.Dir))] 31)]) (ok_store 36 0 (fun u5 => ((u1 1).n 0)) (fun u5 => [.slice none 0 0, vI 0]) (fun u5 => [.slice (viewP p_a0_F (1 : Int).toNat 4 c_a0_F) (a0.F.drop (1 : Int).toNat).length (c_a0_F - (1 : Int).toNat), vI (w_i64 (0 - a0.Dir))]) 31) (fun _ => by kernel_rfl)) <| .nil) fun u5 a w' H => ?_
  replace H := H.toM [(2, (sP ((u1 1).n 0) 0)), (36, .blk ((u1 1).n 0) [.slice (viewP p_a0_F (1 : Int).toNat 4 c_a0_F) (a0.F.drop (1 : Int).toNat).length (c_a0_F - (1 : Int).toNat), vI (w_i64 (0 - a0.Dir))] 31), (34, rdl fr 4 p_a0_F c_a0_F a0.F en_TNode)]
  refine k_ret ?_
  obtain rfl := Option.some.inj G
  rw [show frP w.heap.size (insV ((#[.agg #[.slice p_a0_F a0.F.length c_a0_F, vI a0.Dir]] : Array Value).toList)) = fr from by rw [hfr]; exact congrArg (frP w.heap.size) (by kernel_rfl)]
  exact k_doneF H (fun g => .agg #[.slice (g.o 0) (a0.F.drop (1 : Int).toNat).length (g.n 0), vI (w_i64 (0 - a0.Dir))]) ⟨fun i => [(c_a0_F - (1 : Int).toNat)].getD i 0, fun i => [(viewP p_a0_F (1 : Int).toNat 4 c_a0_F)].getD i none⟩ fr [(4, (a0.F.drop (1 : Int).toNat).length, (a0.F.drop (1 : Int).toNat).flatMap en_TNode)] [(36, ⟨((u1 1).n 0), [.slice (viewP p_a0_F (1 : Int).toNat 4 c_a0_F) (a0.F.drop (1 : Int).toNat).length (c_a0_F - (1 : Int).toNat), vI (w_i64 (0 - a0.Dir))], 0, 2⟩)] (rowsF_cons (by decide) (And.imp (fun q => (RowC.low (en := en_TNode) q en_TNode_len b6)) (fun f j h => f j (fpRow_low (by simp) h)) (H.rdRow (fr := fr) (sz := 4) (m := a0.F.length) (cap := c_a0_F) (p := p_a0_F) (xs := a0.F.flatMap en_TNode) 34 (by kernel_rfl))) rfl rfl rowsF_nil) (by kernel_rfl) (by intro p hp; simp only [List.mem_cons, List.not_mem_nil, or_false] at hp; rcases hp with rfl; exact ⟨⟨31, by kernel_rfl⟩, by kernel_rfl⟩) (by kernel_rfl)
 ·rw [if_neg (nt c11)] at G
  refine k_skip ?_
  refine k_seq ?_
  refine k_rg mixed H (.v 23 (.agg #[vI 4, vI 0, vI 0, vI 0]) <|
   .cons [24, 37] (ok_new (fun b => .slice (some ⟨b, 0, none⟩) 1 1) (fun u7 => [vI 4, vI 0, vI 0, vI 0]) 53 24 37) <|
   .cons [3] (ok_val (fun u7 => .slice (some ⟨((u7 1).n 0), 0, none⟩) 1 1) 3) <| .nil) fun u7 a w' H => ?_
  replace H := H.toM [(1, (sP ((u1 0).n 0) 0)), (2, (sP ((u1 1).n 0) 0)), (3, (sS (some ⟨((u7 1).n 0), 0, none⟩) 1 1)), (35, .blk ((u1 0).n 0) [.slice p_a0_F a0.F.length c_a0_F, vI a0.Dir] 31), (36, .blk ((u1 1).n 0) [.slice none 0 0, vI 0] 31), (37, .blk ((u7 1).n 0) [vI 4, vI 0, vI 0, vI 0] 53), (34, rdl fr 4 p_a0_F c_a0_F a0.F en_TNode)]
  refine k_seq ?_
  replace G := gd G; obtain ⟨b9, G⟩ := G
  refine k_rg mixed H (.v 25 (.slice (some ⟨((u7 1).n 0), 0, none⟩) 1 1) <|
   .v 26 (vP ((u1 0).n 0) 0) <|
   .cons [27] (ok_ld (fun u8 => .slice p_a0_F a0.F.length c_a0_F) 27 35 0 1 (fun u8 => ((u1 0).n 0)) (fun u8 => [.slice p_a0_F a0.F.length c_a0_F, vI a0.Dir]) 31) <|
   .cons [28, 37] (ok_rowL [37, 34] (fun u8 => [.blk ((u7 1).n 0) [vI 4, vI 0, vI 0, vI 0] 53, rdl fr 4 p_a0_F c_a0_F a0.F en_TNode]) 53 4 ([(⟨4, 0, (⟨0, 0⟩ : TInterval)⟩ : TNode)] ++ a0.F).length (([(⟨4, 0, (⟨0, 0⟩ : TInterval)⟩ : TNode)] ++ a0.F).flatMap en_TNode) 28 37 (fun u8 => .blk ((u7 1).n 0) [vI 4, vI 0, vI 0, vI 0] 53) (fun u8 w hF => run_app_lit (t := 22) (ty := 22) (en := en_TNode) (l := [(⟨4, 0, (⟨0, 0⟩ : TInterval)⟩ : TNode)]) (m := a0.F) (p2 := p_a0_F) (cap2 := c_a0_F) en_TNode_len (fun _ => rfl) inf53 hF.1 rfl (rdF_of hF.2.1).2 b9 (by simp) (by kernel_rfl)) (fun _ => .inr trivial)) <|
   .cons [3] (ok_val (fun u8 => .slice ((u8 3).o 0) ([(⟨4, 0, (⟨0, 0⟩ : TInterval)⟩ : TNode)] ++ a0.F).length ((u8 3).n 0)) 3) <| .nil) fun u8 a w' H => ?_
  replace H := H.toM [(1, (sP ((u1 0).n 0) 0)), (2, (sP ((u1 1).n 0) 0)), (3, (sS ((u8 3).o 0) ([(⟨4, 0, (⟨0, 0⟩ : TInterval)⟩ : TNode)] ++ a0.F).length ((u8 3).n 0))), (35, .blk ((u1 0).n 0) [.slice p_a0_F a0.F.length c_a0_F, vI a0.Dir] 31), (36, .blk ((u1 1).n 0) [.slice none 0 0, vI 0] 31), (34, rdl fr 4 p_a0_F c_a0_F a0.F en_TNode), (37, owK 53 4 ((u8 3).o 0) ([(⟨4, 0, (⟨0, 0⟩ : TInterval)⟩ : TNode)] ++ a0.F).length ((u8 3).n 0) (([(⟨4, 0, (⟨0, 0⟩ : TInterval)⟩ : TNode)] ++ a0.F).flatMap en_TNode))]
  refine k_seq ?_
  refine k_rg mixed H (.v 29 (.slice ((u8 3).o 0) ([(⟨4, 0, (⟨0, 0⟩ : TInterval)⟩ : TNode)] ++ a0.F).length ((u8 3).n 0)) <|
   .v 30 (vP ((u1 0).n 0) 1) <|
   .cons [31] (ok_ld (fun u10 => vI a0.Dir) 31 35 1 1 (fun u10 => ((u1 0).n 0)) (fun u10 => [.slice p_a0_F a0.F.length c_a0_F, vI a0.Dir]) 31) <|
   .v 32 (vI (w_i64 (0 - a0.Dir))) <|
   .v 33 (.agg #[.slice ((u8 3).o 0) ([(⟨4, 0, (⟨0, 0⟩ : TInterval)⟩ : TNode)] ++ a0.F).length ((u8 3).n 0), vI (w_i64 (0 - a0.Dir))]) <|
   .cons [36] (ok_as (u' := fun u10 => [(36, .blk ((u1 1).n 0) [.slice ((u8 3).o 0) ([(⟨4, 0, (⟨0, 0⟩ : TInterval)⟩ : TNode)] ++ a0.F).length ((u8 3).n 0), vI (w_i64 (0 - a0.Dir))] 31)]) (ok_store 36 0 (fun u10 => ((u1 1).n 0)) (fun u10 => [.slice none 0 0, vI 0]) (fun u10 => [.slice ((u8 3).o 0) ([(⟨4, 0, (⟨0, 0⟩ : TInterval)⟩ : TNode)] ++ a0.F).length ((u8 3).n 0), vI (w_i64 (0 - a0.Dir))]) 31) (fun _ => by kernel_rfl)) <| .nil) fun u10 a w' H => ?_
  replace H := H.toM [(2, (sP ((u1 1).n 0) 0)), (36, .blk ((u1 1).n 0) [.slice ((u8 3).o 0) ([(⟨4, 0, (⟨0, 0⟩ : TInterval)⟩ : TNode)] ++ a0.F).length ((u8 3).n 0), vI (w_i64 (0 - a0.Dir))] 31), (37, owK 53 4 ((u8 3).o 0) ([(⟨4, 0, (⟨0, 0⟩ : TInterval)⟩ : TNode)] ++ a0.F).length ((u8 3).n 0) (([(⟨4, 0, (⟨0, 0⟩ : TInterval)⟩ : TNode)] ++ a0.F).flatMap en_TNode))]
  refine k_ret ?_
  obtain rfl := Option.some.inj G
  rw [show frP w.heap.size (insV ((#[.agg #[.slice p_a0_F a0.F.length c_a0_F, vI a0.Dir]] : Array Value).toList)) = fr from by rw [hfr]; exact congrArg (frP w.heap.size) (by kernel_rfl)]
  exact k_doneF H (fun g => .agg #[.slice (g.o 0) ([(⟨4, 0, (⟨0, 0⟩ : TInterval)⟩ : TNode)] ++ a0.F).length (g.n 0), vI (w_i64 (0 - a0.Dir))]) ⟨fun i => [((u8 3).n 0)].getD i 0, fun i => [((u8 3).o 0)].getD i none⟩ fr [(4, ([(⟨4, 0, (⟨0, 0⟩ : TInterval)⟩ : TNode)] ++ a0.F).length, ([(⟨4, 0, (⟨0, 0⟩ : TInterval)⟩ : TNode)] ++ a0.F).flatMap en_TNode)] [(36, ⟨((u1 1).n 0), [.slice ((u8 3).o 0) ([(⟨4, 0, (⟨0, 0⟩ : TInterval)⟩ : TNode)] ++ a0.F).length ((u8 3).n 0), vI (w_i64 (0 - a0.Dir))], 0, 2⟩)] (rowsF_cons (by decide) (And.imp id (fun f j h => hB j (f j h)) (H.owRow (e := 53) (sz := 4) (m := ([(⟨4, 0, (⟨0, 0⟩ : TInterval)⟩ : TNode)] ++ a0.F).length) (cap := ((u8 3).n 0)) (p := ((u8 3).o 0)) (xs := ([(⟨4, 0, (⟨0, 0⟩ : TInterval)⟩ : TNode)] ++ a0.F).flatMap en_TNode) 37 (by kernel_rfl))) rfl rfl rowsF_nil) (by kernel_rfl) (by intro p hp; simp only [List.mem_cons, List.not_mem_nil, or_false] at hp; rcases hp with rfl; exact ⟨⟨31, by kernel_rfl⟩, by kernel_rfl⟩) (by kernel_rfl)

set_option maxHeartbeats 4000000 in
theorem armillaryref15_upward.calls (a0 : TInterval) (a1 : TInterval) (a2 : TInterval) (r : Int) (w : World) (G : armillaryref15_upward a0 a1 a2 = some r) :
  Calls Tryd.prog 43 #[.agg #[vI a0.Lo, vI a0.Hi], .agg #[vI a1.Lo, vI a1.Hi], .agg #[vI a2.Lo, vI a2.Hi]] w fun e w' => e = .returned (vI r) ∧ Below w.heap.size w w' := by
 refine k_enter (args := [.agg #[vI a0.Lo, vI a0.Hi], .agg #[vI a1.Lo, vI a1.Hi], .agg #[vI a2.Lo, vI a2.Hi]]) 23 Tryd.func43 rfl (by kernel_rfl) (by kernel_rfl) fun a H => ?_
 unfold armillaryref15_upward at G
 refine k_seq ?_
 refine k_rg mixed H (.cons [3, 23] (ok_new (fun b => vP b 0) (fun u1 => [vI a0.Lo, vI a0.Hi]) 38 3 23) <|
   .cons [4, 24] (ok_new (fun b => vP b 0) (fun u1 => [vI a1.Lo, vI a1.Hi]) 38 4 24) <|
   .cons [5, 25] (ok_new (fun b => vP b 0) (fun u1 => [vI a2.Lo, vI a2.Hi]) 38 5 25) <|
   .v 6 (vI 0) <| .nil) fun u1 a w' H => ?_
 replace H := H.toM [(3, (sP ((u1 0).n 0) 0)), (4, (sP ((u1 1).n 0) 0)), (5, (sP ((u1 2).n 0) 0)), (23, .blk ((u1 0).n 0) [vI a0.Lo, vI a0.Hi] 38), (24, .blk ((u1 1).n 0) [vI a1.Lo, vI a1.Hi] 38), (25, .blk ((u1 2).n 0) [vI a2.Lo, vI a2.Hi] 38)]
 refine k_seq ?_
 refine k_seq ?_
 refine k_rg mixed H (.v 7 (vP ((u1 1).n 0) 1) <|
   .cons [8] (ok_ld (fun u2 => vI a1.Hi) 8 24 1 1 (fun u2 => ((u1 1).n 0)) (fun u2 => [vI a1.Lo, vI a1.Hi]) 38) <|
   .v 9 (.bool (decide (a1.Hi < 0))) <|
   .v 10 (.bool (decide (a1.Hi < 0))) <|
   .cons [11] (ok_valg (fun u2 => vP ((u1 2).n 0) 0) (fun u2 => ((decide (a1.Hi < 0)) == true)) [true] 11) <|
   .cons [12] (ok_ldg (fun u2 => vI a2.Lo) (fun u2 => ((decide (a1.Hi < 0)) == true)) [false] 12 25 0 1 (fun u2 => ((u1 2).n 0)) (fun u2 => [vI a2.Lo, vI a2.Hi]) 38) <|
   .cons [13] (ok_valg (fun u2 => .bool (decide (a2.Lo ≥ 0))) (fun u2 => ((decide (a1.Hi < 0)) == true)) [false, true] 13) <|
   .cons [14] (ok_and 10 13 (fun u2 => true) (fun u2 => true) (fun u2 => decide (a1.Hi < 0)) (fun u2 => decide (a2.Lo ≥ 0)) 14) <| .nil) fun u2 a w' H => ?_
 replace H := H.toM [(3, (sP ((u1 0).n 0) 0)), (14, (sB ((decide (a1.Hi < 0)) && (decide (a2.Lo ≥ 0))))), (23, .blk ((u1 0).n 0) [vI a0.Lo, vI a0.Hi] 38)]
 refine k_cond H (by kernel_rfl) (t := ((decide (a1.Hi < 0)) && (decide (a2.Lo ≥ 0)))) (by kernel_rfl) (fun c8 => ?_) (fun c8 => ?_)
 ·rw [if_pos c8] at G
  refine k_seq ?_
  refine k_rg mixed H (.v 6 (vI 2) <| .nil) fun u3 a w' H => ?_
  replace H := H.toM [(6, sI 2)]
  refine k_ret ?_
  obtain rfl := Option.some.inj G
  exact k_done0 H _ (by kernel_rfl) (by kernel_rfl)
 ·rw [if_neg (nt c8)] at G
  refine k_skip ?_
  refine k_seq ?_
  refine k_seq ?_
  refine k_rg mixed H (.v 15 (vP ((u1 0).n 0) 1) <|
   .cons [16] (ok_ld (fun u4 => vI a0.Hi) 16 23 1 1 (fun u4 => ((u1 0).n 0)) (fun u4 => [vI a0.Lo, vI a0.Hi]) 38) <|
   .v 17 (.bool (decide (a0.Hi < 0))) <|
   .v 18 (.bool (decide (a0.Hi < 0))) <|
   .cons [19] (ok_valg (fun u4 => vP ((u1 0).n 0) 0) (fun u4 => ((decide (a0.Hi < 0)) == false)) [true] 19) <|
   .cons [20] (ok_ldg (fun u4 => vI a0.Lo) (fun u4 => ((decide (a0.Hi < 0)) == false)) [false] 20 23 0 1 (fun u4 => ((u1 0).n 0)) (fun u4 => [vI a0.Lo, vI a0.Hi]) 38) <|
   .cons [21] (ok_valg (fun u4 => .bool (decide (a0.Lo ≥ 0))) (fun u4 => ((decide (a0.Hi < 0)) == false)) [false, true] 21) <|
   .cons [22] (ok_or 18 21 (fun u4 => true) (fun u4 => true) (fun u4 => decide (a0.Hi < 0)) (fun u4 => decide (a0.Lo ≥ 0)) 22) <| .nil) fun u4 a w' H => ?_
  replace H := H.toM [(22, (sB ((decide (a0.Hi < 0)) || (decide (a0.Lo ≥ 0)))))]
  refine k_cond H (by kernel_rfl) (t := ((decide (a0.Hi < 0)) || (decide (a0.Lo ≥ 0)))) (by kernel_rfl) (fun c7 => ?_) (fun c7 => ?_)
  ·rw [if_pos c7] at G
   refine k_seq ?_
   refine k_rg mixed H (.v 6 (vI 0) <| .nil) fun u5 a w' H => ?_
   replace H := H.toM [(6, sI 0)]
   refine k_ret ?_
   obtain rfl := Option.some.inj G
   exact k_done0 H _ (by kernel_rfl) (by kernel_rfl)
  ·rw [if_neg (nt c7)] at G
   refine k_skip ?_
   refine k_seq ?_
   refine k_rg mixed H (.v 6 (vI 1) <| .nil) fun u6 a w' H => ?_
   replace H := H.toM [(6, sI 1)]
   refine k_ret ?_
   obtain rfl := Option.some.inj G
   exact k_done0 H _ (by kernel_rfl) (by kernel_rfl)

set_option maxHeartbeats 4000000 in
theorem armillaryref15_downward.calls (a0 : TInterval) (a1 : TInterval) (a2 : TInterval) (r : Int) (w : World) (G : armillaryref15_downward a0 a1 a2 = some r) :
  Calls Tryd.prog 44 #[.agg #[vI a0.Lo, vI a0.Hi], .agg #[vI a1.Lo, vI a1.Hi], .agg #[vI a2.Lo, vI a2.Hi]] w fun e w' => e = .returned (vI r) ∧ Below w.heap.size w w' := by
 refine k_enter (args := [.agg #[vI a0.Lo, vI a0.Hi], .agg #[vI a1.Lo, vI a1.Hi], .agg #[vI a2.Lo, vI a2.Hi]]) 23 Tryd.func44 rfl (by kernel_rfl) (by kernel_rfl) fun a H => ?_
 unfold armillaryref15_downward at G
 refine k_seq ?_
 refine k_rg mixed H (.cons [3, 23] (ok_new (fun b => vP b 0) (fun u1 => [vI a0.Lo, vI a0.Hi]) 38 3 23) <|
   .cons [4, 24] (ok_new (fun b => vP b 0) (fun u1 => [vI a1.Lo, vI a1.Hi]) 38 4 24) <|
   .cons [5, 25] (ok_new (fun b => vP b 0) (fun u1 => [vI a2.Lo, vI a2.Hi]) 38 5 25) <|
   .v 6 (vI 0) <| .nil) fun u1 a w' H => ?_
 replace H := H.toM [(3, (sP ((u1 0).n 0) 0)), (4, (sP ((u1 1).n 0) 0)), (5, (sP ((u1 2).n 0) 0)), (23, .blk ((u1 0).n 0) [vI a0.Lo, vI a0.Hi] 38), (24, .blk ((u1 1).n 0) [vI a1.Lo, vI a1.Hi] 38), (25, .blk ((u1 2).n 0) [vI a2.Lo, vI a2.Hi] 38)]
 refine k_seq ?_
 refine k_seq ?_
 refine k_rg mixed H (.v 7 (vP ((u1 1).n 0) 0) <|
   .cons [8] (ok_ld (fun u2 => vI a1.Lo) 8 24 0 1 (fun u2 => ((u1 1).n 0)) (fun u2 => [vI a1.Lo, vI a1.Hi]) 38) <|
   .v 9 (.bool (decide (a1.Lo > 0))) <|
   .v 10 (.bool (decide (a1.Lo > 0))) <|
   .cons [11] (ok_valg (fun u2 => vP ((u1 2).n 0) 1) (fun u2 => ((decide (a1.Lo > 0)) == true)) [true] 11) <|
   .cons [12] (ok_ldg (fun u2 => vI a2.Hi) (fun u2 => ((decide (a1.Lo > 0)) == true)) [false] 12 25 1 1 (fun u2 => ((u1 2).n 0)) (fun u2 => [vI a2.Lo, vI a2.Hi]) 38) <|
   .cons [13] (ok_valg (fun u2 => .bool (decide (a2.Hi ≤ 0))) (fun u2 => ((decide (a1.Lo > 0)) == true)) [false, true] 13) <|
   .cons [14] (ok_and 10 13 (fun u2 => true) (fun u2 => true) (fun u2 => decide (a1.Lo > 0)) (fun u2 => decide (a2.Hi ≤ 0)) 14) <| .nil) fun u2 a w' H => ?_
 replace H := H.toM [(3, (sP ((u1 0).n 0) 0)), (14, (sB ((decide (a1.Lo > 0)) && (decide (a2.Hi ≤ 0))))), (23, .blk ((u1 0).n 0) [vI a0.Lo, vI a0.Hi] 38)]
 refine k_cond H (by kernel_rfl) (t := ((decide (a1.Lo > 0)) && (decide (a2.Hi ≤ 0)))) (by kernel_rfl) (fun c8 => ?_) (fun c8 => ?_)
 ·rw [if_pos c8] at G
  refine k_seq ?_
  refine k_rg mixed H (.v 6 (vI 2) <| .nil) fun u3 a w' H => ?_
  replace H := H.toM [(6, sI 2)]
  refine k_ret ?_
  obtain rfl := Option.some.inj G
  exact k_done0 H _ (by kernel_rfl) (by kernel_rfl)
 ·rw [if_neg (nt c8)] at G
  refine k_skip ?_
  refine k_seq ?_
  refine k_seq ?_
  refine k_rg mixed H (.v 15 (vP ((u1 0).n 0) 0) <|
   .cons [16] (ok_ld (fun u4 => vI a0.Lo) 16 23 0 1 (fun u4 => ((u1 0).n 0)) (fun u4 => [vI a0.Lo, vI a0.Hi]) 38) <|
   .v 17 (.bool (decide (a0.Lo > 0))) <|
   .v 18 (.bool (decide (a0.Lo > 0))) <|
   .cons [19] (ok_valg (fun u4 => vP ((u1 0).n 0) 1) (fun u4 => ((decide (a0.Lo > 0)) == false)) [true] 19) <|
   .cons [20] (ok_ldg (fun u4 => vI a0.Hi) (fun u4 => ((decide (a0.Lo > 0)) == false)) [false] 20 23 1 1 (fun u4 => ((u1 0).n 0)) (fun u4 => [vI a0.Lo, vI a0.Hi]) 38) <|
   .cons [21] (ok_valg (fun u4 => .bool (decide (a0.Hi ≤ 0))) (fun u4 => ((decide (a0.Lo > 0)) == false)) [false, true] 21) <|
   .cons [22] (ok_or 18 21 (fun u4 => true) (fun u4 => true) (fun u4 => decide (a0.Lo > 0)) (fun u4 => decide (a0.Hi ≤ 0)) 22) <| .nil) fun u4 a w' H => ?_
  replace H := H.toM [(22, (sB ((decide (a0.Lo > 0)) || (decide (a0.Hi ≤ 0)))))]
  refine k_cond H (by kernel_rfl) (t := ((decide (a0.Lo > 0)) || (decide (a0.Hi ≤ 0)))) (by kernel_rfl) (fun c7 => ?_) (fun c7 => ?_)
  ·rw [if_pos c7] at G
   refine k_seq ?_
   refine k_rg mixed H (.v 6 (vI 0) <| .nil) fun u5 a w' H => ?_
   replace H := H.toM [(6, sI 0)]
   refine k_ret ?_
   obtain rfl := Option.some.inj G
   exact k_done0 H _ (by kernel_rfl) (by kernel_rfl)
  ·rw [if_neg (nt c7)] at G
   refine k_skip ?_
   refine k_seq ?_
   refine k_rg mixed H (.v 6 (vI 1) <| .nil) fun u6 a w' H => ?_
   replace H := H.toM [(6, sI 1)]
   refine k_ret ?_
   obtain rfl := Option.some.inj G
   exact k_done0 H _ (by kernel_rfl) (by kernel_rfl)

set_option maxHeartbeats 4000000 in
theorem armillaryref15_Crossing.calls (k0 : Nat) (a0 : TGuard) (a1 : TSegment) (p_a0_F : Option Addr) (c_a0_F : Nat) (p_a1_From : Option Addr) (c_a1_From : Nat) (p_a1_Pre : Option Addr) (c_a1_Pre : Nat) (p_a1_Tube : Option Addr) (c_a1_Tube : Nat) (p_a1_To : Option Addr) (c_a1_To : Nat) (r : Int) (w : World) (R_p_a0_F : RowC w 4 p_a0_F a0.F.length c_a0_F (a0.F.flatMap en_TNode)) (R_p_a1_From : RowC w 2 p_a1_From a1.From.length c_a1_From (a1.From.flatMap en_TInterval)) (R_p_a1_Pre : RowC w 2 p_a1_Pre a1.Pre.length c_a1_Pre (a1.Pre.flatMap en_TInterval)) (R_p_a1_Tube : RowC w 2 p_a1_Tube a1.Tube.length c_a1_Tube (a1.Tube.flatMap en_TInterval)) (R_p_a1_To : RowC w 2 p_a1_To a1.To.length c_a1_To (a1.To.flatMap en_TInterval)) (G : armillaryref15_Crossing k0 a0 a1 = some r) :
  Calls Tryd.prog 20 #[.agg #[.slice p_a0_F a0.F.length c_a0_F, vI a0.Dir], .agg #[vI a1.T, vI a1.H, .slice p_a1_From a1.From.length c_a1_From, .slice p_a1_Pre a1.Pre.length c_a1_Pre, .slice p_a1_Tube a1.Tube.length c_a1_Tube, .slice p_a1_To a1.To.length c_a1_To]] w fun e w' => e = .returned (vI r) ∧ Below w.heap.size w w' := by
 obtain ⟨fr, hfr⟩ : ∃ fr : Nat → Prop, ∀ j, fr j := ⟨fun _ => True, fun _ => trivial⟩
 have hB : ∀ j, w.heap.size ≤ j → fr j := fun j _ => hfr j
 have hin_p_a0_F : ∀ j, fpRow p_a0_F a0.F.length j → fr j := fun j _ => hfr j
 have hin_p_a1_From : ∀ j, fpRow p_a1_From a1.From.length j → fr j := fun j _ => hfr j
 have hin_p_a1_Pre : ∀ j, fpRow p_a1_Pre a1.Pre.length j → fr j := fun j _ => hfr j
 have hin_p_a1_Tube : ∀ j, fpRow p_a1_Tube a1.Tube.length j → fr j := fun j _ => hfr j
 have hin_p_a1_To : ∀ j, fpRow p_a1_To a1.To.length j → fr j := fun j _ => hfr j
 refine k_enterF (args := [.agg #[.slice p_a0_F a0.F.length c_a0_F, vI a0.Dir], .agg #[vI a1.T, vI a1.H, .slice p_a1_From a1.From.length c_a1_From, .slice p_a1_Pre a1.Pre.length c_a1_Pre, .slice p_a1_Tube a1.Tube.length c_a1_Tube, .slice p_a1_To a1.To.length c_a1_To]]) 67 [(67, rdl fr 4 p_a0_F c_a0_F a0.F en_TNode), (68, rdl fr 2 p_a1_From c_a1_From a1.From en_TInterval), (69, rdl fr 2 p_a1_Pre c_a1_Pre a1.Pre en_TInterval), (70, rdl fr 2 p_a1_Tube c_a1_Tube a1.Tube en_TInterval), (71, rdl fr 2 p_a1_To c_a1_To a1.To en_TInterval)] (by
  intro x hx
  simp only [List.mem_cons, List.not_mem_nil, or_false] at hx
  rcases hx with rfl | rfl | rfl | rfl | rfl
  ·exact rdF_fact R_p_a0_F hin_p_a0_F (by decide) _
  ·exact rdF_fact R_p_a1_From hin_p_a1_From (by decide) _
  ·exact rdF_fact R_p_a1_Pre hin_p_a1_Pre (by decide) _
  ·exact rdF_fact R_p_a1_Tube hin_p_a1_Tube (by decide) _
  ·exact rdF_fact R_p_a1_To hin_p_a1_To (by decide) _) Tryd.func20 rfl (by kernel_rfl) (by kernel_rfl) fun a H => ?_
 unfold armillaryref15_Crossing at G
 refine k_seq ?_
 refine k_rg mixed H (.cons [2, 72] (ok_new (fun b => vP b 0) (fun u1 => [.slice p_a0_F a0.F.length c_a0_F, vI a0.Dir]) 31 2 72) <|
   .cons [3, 73] (ok_new (fun b => vP b 0) (fun u1 => [vI a1.T, vI a1.H, .slice p_a1_From a1.From.length c_a1_From, .slice p_a1_Pre a1.Pre.length c_a1_Pre, .slice p_a1_Tube a1.Tube.length c_a1_Tube, .slice p_a1_To a1.To.length c_a1_To]) 34 3 73) <|
   .v 4 (vI 0) <| .nil) fun u1 a w' H => ?_
 replace H := H.toM [(2, (sP ((u1 0).n 0) 0)), (3, (sP ((u1 1).n 0) 0)), (72, .blk ((u1 0).n 0) [.slice p_a0_F a0.F.length c_a0_F, vI a0.Dir] 31), (73, .blk ((u1 1).n 0) [vI a1.T, vI a1.H, .slice p_a1_From a1.From.length c_a1_From, .slice p_a1_Pre a1.Pre.length c_a1_Pre, .slice p_a1_Tube a1.Tube.length c_a1_Tube, .slice p_a1_To a1.To.length c_a1_To] 34), (67, rdl fr 4 p_a0_F c_a0_F a0.F en_TNode), (68, rdl fr 2 p_a1_From c_a1_From a1.From en_TInterval), (69, rdl fr 2 p_a1_Pre c_a1_Pre a1.Pre en_TInterval), (70, rdl fr 2 p_a1_Tube c_a1_Tube a1.Tube en_TInterval), (71, rdl fr 2 p_a1_To c_a1_To a1.To en_TInterval)]
 refine k_seq ?_
 replace G := bnd G; obtain ⟨t3, ht3, G⟩ := G
 refine k_rg mixed H (.cons [10] (ok_ld (fun u2 => .agg #[.slice p_a0_F a0.F.length c_a0_F, vI a0.Dir]) 10 72 0 2 (fun u2 => ((u1 0).n 0)) (fun u2 => [.slice p_a0_F a0.F.length c_a0_F, vI a0.Dir]) 31) <|
   .v 11 (vP ((u1 1).n 0) 4) <|
   .cons [12] (ok_ld (fun u2 => .slice p_a1_Tube a1.Tube.length c_a1_Tube) 12 73 4 1 (fun u2 => ((u1 1).n 0)) (fun u2 => [vI a1.T, vI a1.H, .slice p_a1_From a1.From.length c_a1_From, .slice p_a1_Pre a1.Pre.length c_a1_Pre, .slice p_a1_Tube a1.Tube.length c_a1_Tube, .slice p_a1_To a1.To.length c_a1_To]) 34) <|
   .v 13 (vP ((u1 1).n 0) 0) <|
   .cons [14] (ok_ld (fun u2 => vI a1.T) 14 73 0 1 (fun u2 => ((u1 1).n 0)) (fun u2 => [vI a1.T, vI a1.H, .slice p_a1_From a1.From.length c_a1_From, .slice p_a1_Pre a1.Pre.length c_a1_Pre, .slice p_a1_Tube a1.Tube.length c_a1_Tube, .slice p_a1_To a1.To.length c_a1_To]) 34) <|
   .v 15 (vP ((u1 1).n 0) 0) <|
   .cons [16] (ok_ld (fun u2 => vI a1.T) 16 73 0 1 (fun u2 => ((u1 1).n 0)) (fun u2 => [vI a1.T, vI a1.H, .slice p_a1_From a1.From.length c_a1_From, .slice p_a1_Pre a1.Pre.length c_a1_Pre, .slice p_a1_Tube a1.Tube.length c_a1_Tube, .slice p_a1_To a1.To.length c_a1_To]) 34) <|
   .v 17 (vP ((u1 1).n 0) 1) <|
   .cons [18] (ok_ld (fun u2 => vI a1.H) 18 73 1 1 (fun u2 => ((u1 1).n 0)) (fun u2 => [vI a1.T, vI a1.H, .slice p_a1_From a1.From.length c_a1_From, .slice p_a1_Pre a1.Pre.length c_a1_Pre, .slice p_a1_Tube a1.Tube.length c_a1_Tube, .slice p_a1_To a1.To.length c_a1_To]) 34) <|
   .v 19 (vI (w_i64 (a1.T + a1.H))) <|
   .v 20 (.agg #[vI a1.T, vI (w_i64 (a1.T + a1.H))]) <|
   .cons [21] (ok_callL [67, 70] (fun u2 => [rdl fr 4 p_a0_F c_a0_F a0.F en_TNode, rdl fr 2 p_a1_Tube c_a1_Tube a1.Tube en_TInterval]) 13 (fun u2 => #[.agg #[.slice p_a0_F a0.F.length c_a0_F, vI a0.Dir], .slice p_a1_Tube a1.Tube.length c_a1_Tube, .agg #[vI a1.T, vI (w_i64 (a1.T + a1.H))]]) (.agg #[vI t3.Lo, vI t3.Hi]) 21 (fun u2 w hF => armillaryref15_Eval.calls k0 (⟨a0.F, a0.Dir⟩ : TGuard) a1.Tube (⟨a1.T, w_i64 (a1.T + a1.H)⟩ : TInterval) p_a0_F c_a0_F p_a1_Tube c_a1_Tube t3 w (rdF_of hF.1) (rdF_of hF.2.1) ht3)) <|
   .cons [5, 74] (ok_new (fun b => vP b 0) (fun u2 => [vI 0, vI 0]) 38 5 74) <|
   .cons [74] (ok_as (u' := fun u2 => [(74, .blk ((u2 12).n 0) [vI t3.Lo, vI t3.Hi] 38)]) (ok_store 74 0 (fun u2 => ((u2 12).n 0)) (fun u2 => [vI 0, vI 0]) (fun u2 => [vI t3.Lo, vI t3.Hi]) 38) (fun _ => by kernel_rfl)) <| .nil) fun u2 a w' H => ?_
 replace H := H.toM [(2, (sP ((u1 0).n 0) 0)), (3, (sP ((u1 1).n 0) 0)), (5, (sP ((u2 12).n 0) 0)), (72, .blk ((u1 0).n 0) [.slice p_a0_F a0.F.length c_a0_F, vI a0.Dir] 31), (73, .blk ((u1 1).n 0) [vI a1.T, vI a1.H, .slice p_a1_From a1.From.length c_a1_From, .slice p_a1_Pre a1.Pre.length c_a1_Pre, .slice p_a1_Tube a1.Tube.length c_a1_Tube, .slice p_a1_To a1.To.length c_a1_To] 34), (74, .blk ((u2 12).n 0) [vI t3.Lo, vI t3.Hi] 38), (67, rdl fr 4 p_a0_F c_a0_F a0.F en_TNode), (68, rdl fr 2 p_a1_From c_a1_From a1.From en_TInterval), (69, rdl fr 2 p_a1_Pre c_a1_Pre a1.Pre en_TInterval), (70, rdl fr 2 p_a1_Tube c_a1_Tube a1.Tube en_TInterval), (71, rdl fr 2 p_a1_To c_a1_To a1.To en_TInterval)]
 refine k_seq ?_
 replace G := bnd G; obtain ⟨t5, ht5, G⟩ := G
 replace G := bnd G; obtain ⟨t6, ht6, G⟩ := G
 refine k_regT mixed H (.cons [22] (ok_ld (fun u4 => .agg #[.slice p_a0_F a0.F.length c_a0_F, vI a0.Dir]) 22 72 0 2 (fun u4 => ((u1 0).n 0)) (fun u4 => [.slice p_a0_F a0.F.length c_a0_F, vI a0.Dir]) 31) <|
   .v 23 (vP ((u1 1).n 0) 2) <|
   .cons [24] (ok_ld (fun u4 => .slice p_a1_From a1.From.length c_a1_From) 24 73 2 1 (fun u4 => ((u1 1).n 0)) (fun u4 => [vI a1.T, vI a1.H, .slice p_a1_From a1.From.length c_a1_From, .slice p_a1_Pre a1.Pre.length c_a1_Pre, .slice p_a1_Tube a1.Tube.length c_a1_Tube, .slice p_a1_To a1.To.length c_a1_To]) 34) <|
   .v 25 (vP ((u1 1).n 0) 0) <|
   .cons [26] (ok_ld (fun u4 => vI a1.T) 26 73 0 1 (fun u4 => ((u1 1).n 0)) (fun u4 => [vI a1.T, vI a1.H, .slice p_a1_From a1.From.length c_a1_From, .slice p_a1_Pre a1.Pre.length c_a1_Pre, .slice p_a1_Tube a1.Tube.length c_a1_Tube, .slice p_a1_To a1.To.length c_a1_To]) 34) <|
   .cons [27] (ok_callv 23 (fun u4 => #[vI a1.T]) (.agg #[vI t5.Lo, vI t5.Hi]) 27 [] (fun _ w _ => armillaryref02_Point.calls a1.T t5 w ht5)) <|
   .cons [28] (ok_callL [67, 68] (fun u4 => [rdl fr 4 p_a0_F c_a0_F a0.F en_TNode, rdl fr 2 p_a1_From c_a1_From a1.From en_TInterval]) 13 (fun u4 => #[.agg #[.slice p_a0_F a0.F.length c_a0_F, vI a0.Dir], .slice p_a1_From a1.From.length c_a1_From, .agg #[vI t5.Lo, vI t5.Hi]]) (.agg #[vI t6.Lo, vI t6.Hi]) 28 (fun u4 w hF => armillaryref15_Eval.calls k0 (⟨a0.F, a0.Dir⟩ : TGuard) a1.From t5 p_a0_F c_a0_F p_a1_From c_a1_From t6 w (rdF_of hF.1) (rdF_of hF.2.1) ht6)) <|
   .cons [6, 75] (ok_new (fun b => vP b 0) (fun u4 => [vI 0, vI 0]) 38 6 75) <|
   .cons [75] (ok_as (u' := fun u4 => [(75, .blk ((u4 7).n 0) [vI t6.Lo, vI t6.Hi] 38)]) (ok_store 75 0 (fun u4 => ((u4 7).n 0)) (fun u4 => [vI 0, vI 0]) (fun u4 => [vI t6.Lo, vI t6.Hi]) 38) (fun _ => by kernel_rfl)) <| .nil) (by kernel_rfl) fun u4 a w' H => ?_
 replace H := H.toM [(2, (sP ((u1 0).n 0) 0)), (3, (sP ((u1 1).n 0) 0)), (5, (sP ((u2 12).n 0) 0)), (6, (sP ((u4 7).n 0) 0)), (72, .blk ((u1 0).n 0) [.slice p_a0_F a0.F.length c_a0_F, vI a0.Dir] 31), (73, .blk ((u1 1).n 0) [vI a1.T, vI a1.H, .slice p_a1_From a1.From.length c_a1_From, .slice p_a1_Pre a1.Pre.length c_a1_Pre, .slice p_a1_Tube a1.Tube.length c_a1_Tube, .slice p_a1_To a1.To.length c_a1_To] 34), (74, .blk ((u2 12).n 0) [vI t3.Lo, vI t3.Hi] 38), (75, .blk ((u4 7).n 0) [vI t6.Lo, vI t6.Hi] 38), (67, rdl fr 4 p_a0_F c_a0_F a0.F en_TNode), (68, rdl fr 2 p_a1_From c_a1_From a1.From en_TInterval), (69, rdl fr 2 p_a1_Pre c_a1_Pre a1.Pre en_TInterval), (70, rdl fr 2 p_a1_Tube c_a1_Tube a1.Tube en_TInterval), (71, rdl fr 2 p_a1_To c_a1_To a1.To en_TInterval)]
 refine k_seq ?_
 replace G := bnd G; obtain ⟨t8, ht8, G⟩ := G
 replace G := bnd G; obtain ⟨t9, ht9, G⟩ := G
 refine k_regT mixed H (.cons [29] (ok_ld (fun u7 => .agg #[.slice p_a0_F a0.F.length c_a0_F, vI a0.Dir]) 29 72 0 2 (fun u7 => ((u1 0).n 0)) (fun u7 => [.slice p_a0_F a0.F.length c_a0_F, vI a0.Dir]) 31) <|
   .v 30 (vP ((u1 1).n 0) 5) <|
   .cons [31] (ok_ld (fun u7 => .slice p_a1_To a1.To.length c_a1_To) 31 73 5 1 (fun u7 => ((u1 1).n 0)) (fun u7 => [vI a1.T, vI a1.H, .slice p_a1_From a1.From.length c_a1_From, .slice p_a1_Pre a1.Pre.length c_a1_Pre, .slice p_a1_Tube a1.Tube.length c_a1_Tube, .slice p_a1_To a1.To.length c_a1_To]) 34) <|
   .v 32 (vP ((u1 1).n 0) 0) <|
   .cons [33] (ok_ld (fun u7 => vI a1.T) 33 73 0 1 (fun u7 => ((u1 1).n 0)) (fun u7 => [vI a1.T, vI a1.H, .slice p_a1_From a1.From.length c_a1_From, .slice p_a1_Pre a1.Pre.length c_a1_Pre, .slice p_a1_Tube a1.Tube.length c_a1_Tube, .slice p_a1_To a1.To.length c_a1_To]) 34) <|
   .v 34 (vP ((u1 1).n 0) 1) <|
   .cons [35] (ok_ld (fun u7 => vI a1.H) 35 73 1 1 (fun u7 => ((u1 1).n 0)) (fun u7 => [vI a1.T, vI a1.H, .slice p_a1_From a1.From.length c_a1_From, .slice p_a1_Pre a1.Pre.length c_a1_Pre, .slice p_a1_Tube a1.Tube.length c_a1_Tube, .slice p_a1_To a1.To.length c_a1_To]) 34) <|
   .v 36 (vI (w_i64 (a1.T + a1.H))) <|
   .cons [37] (ok_callv 23 (fun u7 => #[vI (w_i64 (a1.T + a1.H))]) (.agg #[vI t8.Lo, vI t8.Hi]) 37 [] (fun _ w _ => armillaryref02_Point.calls (w_i64 (a1.T + a1.H)) t8 w ht8)) <|
   .cons [38] (ok_callL [67, 71] (fun u7 => [rdl fr 4 p_a0_F c_a0_F a0.F en_TNode, rdl fr 2 p_a1_To c_a1_To a1.To en_TInterval]) 13 (fun u7 => #[.agg #[.slice p_a0_F a0.F.length c_a0_F, vI a0.Dir], .slice p_a1_To a1.To.length c_a1_To, .agg #[vI t8.Lo, vI t8.Hi]]) (.agg #[vI t9.Lo, vI t9.Hi]) 38 (fun u7 w hF => armillaryref15_Eval.calls k0 (⟨a0.F, a0.Dir⟩ : TGuard) a1.To t8 p_a0_F c_a0_F p_a1_To c_a1_To t9 w (rdF_of hF.1) (rdF_of hF.2.1) ht9)) <|
   .cons [7, 76] (ok_new (fun b => vP b 0) (fun u7 => [vI 0, vI 0]) 38 7 76) <|
   .cons [76] (ok_as (u' := fun u7 => [(76, .blk ((u7 10).n 0) [vI t9.Lo, vI t9.Hi] 38)]) (ok_store 76 0 (fun u7 => ((u7 10).n 0)) (fun u7 => [vI 0, vI 0]) (fun u7 => [vI t9.Lo, vI t9.Hi]) 38) (fun _ => by kernel_rfl)) <| .nil) (by kernel_rfl) fun u7 a w' H => ?_
 replace H := H.toM [(2, (sP ((u1 0).n 0) 0)), (5, (sP ((u2 12).n 0) 0)), (6, (sP ((u4 7).n 0) 0)), (7, (sP ((u7 10).n 0) 0)), (72, .blk ((u1 0).n 0) [.slice p_a0_F a0.F.length c_a0_F, vI a0.Dir] 31), (74, .blk ((u2 12).n 0) [vI t3.Lo, vI t3.Hi] 38), (75, .blk ((u4 7).n 0) [vI t6.Lo, vI t6.Hi] 38), (76, .blk ((u7 10).n 0) [vI t9.Lo, vI t9.Hi] 38), (67, rdl fr 4 p_a0_F c_a0_F a0.F en_TNode)]
 refine k_seq ?_
 replace G := bnd G; obtain ⟨t11, ht11, G⟩ := G
 refine k_rg mixed H (.cons [39] (ok_ld (fun u10 => .agg #[vI t3.Lo, vI t3.Hi]) 39 74 0 2 (fun u10 => ((u2 12).n 0)) (fun u10 => [vI t3.Lo, vI t3.Hi]) 38) <|
   .cons [40] (ok_ld (fun u10 => .agg #[vI t6.Lo, vI t6.Hi]) 40 75 0 2 (fun u10 => ((u4 7).n 0)) (fun u10 => [vI t6.Lo, vI t6.Hi]) 38) <|
   .cons [41] (ok_ld (fun u10 => .agg #[vI t9.Lo, vI t9.Hi]) 41 76 0 2 (fun u10 => ((u7 10).n 0)) (fun u10 => [vI t9.Lo, vI t9.Hi]) 38) <|
   .cons [42] (ok_callv 43 (fun u10 => #[.agg #[vI t3.Lo, vI t3.Hi], .agg #[vI t6.Lo, vI t6.Hi], .agg #[vI t9.Lo, vI t9.Hi]]) (vI t11) 42 [] (fun _ w _ => armillaryref15_upward.calls t3 t6 t9 t11 w ht11)) <|
   .v 8 (vI t11) <| .nil) fun u10 a w' H => ?_
 replace H := H.toM [(2, (sP ((u1 0).n 0) 0)), (5, (sP ((u2 12).n 0) 0)), (6, (sP ((u4 7).n 0) 0)), (7, (sP ((u7 10).n 0) 0)), (8, sI t11), (72, .blk ((u1 0).n 0) [.slice p_a0_F a0.F.length c_a0_F, vI a0.Dir] 31), (74, .blk ((u2 12).n 0) [vI t3.Lo, vI t3.Hi] 38), (75, .blk ((u4 7).n 0) [vI t6.Lo, vI t6.Hi] 38), (76, .blk ((u7 10).n 0) [vI t9.Lo, vI t9.Hi] 38), (67, rdl fr 4 p_a0_F c_a0_F a0.F en_TNode)]
 refine k_seq ?_
 replace G := bnd G; obtain ⟨t13, ht13, G⟩ := G
 refine k_rg mixed H (.cons [43] (ok_ld (fun u12 => .agg #[vI t3.Lo, vI t3.Hi]) 43 74 0 2 (fun u12 => ((u2 12).n 0)) (fun u12 => [vI t3.Lo, vI t3.Hi]) 38) <|
   .cons [44] (ok_ld (fun u12 => .agg #[vI t6.Lo, vI t6.Hi]) 44 75 0 2 (fun u12 => ((u4 7).n 0)) (fun u12 => [vI t6.Lo, vI t6.Hi]) 38) <|
   .cons [45] (ok_ld (fun u12 => .agg #[vI t9.Lo, vI t9.Hi]) 45 76 0 2 (fun u12 => ((u7 10).n 0)) (fun u12 => [vI t9.Lo, vI t9.Hi]) 38) <|
   .cons [46] (ok_callv 44 (fun u12 => #[.agg #[vI t3.Lo, vI t3.Hi], .agg #[vI t6.Lo, vI t6.Hi], .agg #[vI t9.Lo, vI t9.Hi]]) (vI t13) 46 [] (fun _ w _ => armillaryref15_downward.calls t3 t6 t9 t13 w ht13)) <|
   .v 9 (vI t13) <| .nil) fun u12 a w' H => ?_
 replace H := H.toM [(2, (sP ((u1 0).n 0) 0)), (8, sI t11), (9, sI t13), (72, .blk ((u1 0).n 0) [.slice p_a0_F a0.F.length c_a0_F, vI a0.Dir] 31), (67, rdl fr 4 p_a0_F c_a0_F a0.F en_TNode)]
 refine k_seq ?_
 refine k_seq ?_
 refine k_rg mixed H (.v 47 (vP ((u1 0).n 0) 1) <|
   .cons [48] (ok_ld (fun u14 => vI a0.Dir) 48 72 1 1 (fun u14 => ((u1 0).n 0)) (fun u14 => [.slice p_a0_F a0.F.length c_a0_F, vI a0.Dir]) 31) <|
   .v 49 (.bool (a0.Dir == 1)) <| .nil) fun u14 a w' H => ?_
 replace H := H.toM [(2, (sP ((u1 0).n 0) 0)), (8, sI t11), (9, sI t13), (49, (sB (a0.Dir == 1))), (72, .blk ((u1 0).n 0) [.slice p_a0_F a0.F.length c_a0_F, vI a0.Dir] 31), (67, rdl fr 4 p_a0_F c_a0_F a0.F en_TNode)]
 refine k_cond H (by kernel_rfl) (t := (a0.Dir == 1)) (by kernel_rfl) (fun c26 => ?_) (fun c26 => ?_)
 ·rw [if_pos c26] at G
  refine k_seq ?_
  refine k_rg mixed H (.v 50 (vI t11) <|
   .v 4 (vI t11) <| .nil) fun u15 a w' H => ?_
  replace H := H.toM [(4, sI t11)]
  refine k_ret ?_
  obtain rfl := Option.some.inj G
  exact k_done0 H _ (by kernel_rfl) (by kernel_rfl)
 ·rw [if_neg (nt c26)] at G
  refine k_skip ?_
  refine k_seq ?_
  refine k_seq ?_
  refine k_rg mixed H (.v 51 (vP ((u1 0).n 0) 1) <|
   .cons [52] (ok_ld (fun u16 => vI a0.Dir) 52 72 1 1 (fun u16 => ((u1 0).n 0)) (fun u16 => [.slice p_a0_F a0.F.length c_a0_F, vI a0.Dir]) 31) <|
   .v 53 (.bool (a0.Dir == (-1))) <| .nil) fun u16 a w' H => ?_
  replace H := H.toM [(8, sI t11), (9, sI t13), (53, (sB (a0.Dir == (-1))))]
  refine k_cond H (by kernel_rfl) (t := (a0.Dir == (-1))) (by kernel_rfl) (fun c25 => ?_) (fun c25 => ?_)
  ·rw [if_pos c25] at G
   refine k_seq ?_
   refine k_rg mixed H (.v 54 (vI t13) <|
   .v 4 (vI t13) <| .nil) fun u17 a w' H => ?_
   replace H := H.toM [(4, sI t13)]
   refine k_ret ?_
   obtain rfl := Option.some.inj G
   exact k_done0 H _ (by kernel_rfl) (by kernel_rfl)
  ·rw [if_neg (nt c25)] at G
   refine k_skip ?_
   refine k_seq ?_
   refine k_seq ?_
   refine k_rg mixed H (.v 55 (vI t11) <|
   .v 56 (.bool (t11 == 2)) <|
   .v 57 (.bool (t11 == 2)) <|
   .cons [58] (ok_valg (fun u18 => vI t13) (fun u18 => ((t11 == 2) == false)) [true] 58) <|
   .cons [59] (ok_valg (fun u18 => .bool (t13 == 2)) (fun u18 => ((t11 == 2) == false)) [false, true] 59) <|
   .cons [60] (ok_or 57 59 (fun u18 => true) (fun u18 => true) (fun u18 => (t11 == 2)) (fun u18 => (t13 == 2)) 60) <| .nil) fun u18 a w' H => ?_
   replace H := H.toM [(8, sI t11), (9, sI t13), (60, (sB ((t11 == 2) || (t13 == 2))))]
   refine k_cond H (by kernel_rfl) (t := ((t11 == 2) || (t13 == 2))) (by kernel_rfl) (fun c24 => ?_) (fun c24 => ?_)
   ·rw [if_pos c24] at G
    refine k_seq ?_
    refine k_rg mixed H (.v 4 (vI 2) <| .nil) fun u19 a w' H => ?_
    replace H := H.toM [(4, sI 2)]
    refine k_ret ?_
    obtain rfl := Option.some.inj G
    exact k_done0 H _ (by kernel_rfl) (by kernel_rfl)
   ·rw [if_neg (nt c24)] at G
    refine k_skip ?_
    refine k_seq ?_
    refine k_seq ?_
    refine k_rg mixed H (.v 61 (vI t11) <|
   .v 62 (.bool (t11 == 0)) <|
   .v 63 (.bool (t11 == 0)) <|
   .cons [64] (ok_valg (fun u20 => vI t13) (fun u20 => ((t11 == 0) == true)) [true] 64) <|
   .cons [65] (ok_valg (fun u20 => .bool (t13 == 0)) (fun u20 => ((t11 == 0) == true)) [false, true] 65) <|
   .cons [66] (ok_and 63 65 (fun u20 => true) (fun u20 => true) (fun u20 => (t11 == 0)) (fun u20 => (t13 == 0)) 66) <| .nil) fun u20 a w' H => ?_
    replace H := H.toM [(66, (sB ((t11 == 0) && (t13 == 0))))]
    refine k_cond H (by kernel_rfl) (t := ((t11 == 0) && (t13 == 0))) (by kernel_rfl) (fun c23 => ?_) (fun c23 => ?_)
    ·rw [if_pos c23] at G
     refine k_seq ?_
     refine k_rg mixed H (.v 4 (vI 0) <| .nil) fun u21 a w' H => ?_
     replace H := H.toM [(4, sI 0)]
     refine k_ret ?_
     obtain rfl := Option.some.inj G
     exact k_done0 H _ (by kernel_rfl) (by kernel_rfl)
    ·rw [if_neg (nt c23)] at G
     refine k_skip ?_
     refine k_seq ?_
     refine k_rg mixed H (.v 4 (vI 1) <| .nil) fun u22 a w' H => ?_
     replace H := H.toM [(4, sI 1)]
     refine k_ret ?_
     obtain rfl := Option.some.inj G
     exact k_done0 H _ (by kernel_rfl) (by kernel_rfl)

end Go.Proofs.YtkkodieceehkmaaDoor
