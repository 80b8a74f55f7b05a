/- Each function of the program answers as the plain Lean function of its name (part 1). Printed by a program of this session. -/
import Derived.Test.YtkkodieceehkmaaDoorFn0
set_option linter.unusedVariables false
set_option maxRecDepth 100000
namespace Go.Proofs.YtkkodieceehkmaaDoor
open Go Go.RowKit Go.Sx Go.Proofs
set_option maxHeartbeats 4000000 in
theorem ode_Eval_1.calls : ∀ (k0 : Nat) (q0_0 : List TNode) (q1_0 : Int) (q2_0 : List TInterval) (q3_0 : TInterval) (p_q0_0 : Option Addr) (c_q0_0 : Nat) (p_q2_0 : Option Addr) (c_q2_0 : Nat) (b_q0_0 : Nat) (b_q1_0 : Nat) (b_q2_0 : Nat) (b_q3_0 : Nat) (b_q4_0 : Nat) (b_q5_0 : Nat) (l_q5_0 : Nat) (r : TInterval × Int) (w : World) (hg : Glob w) (R_p_q0_0 : RowC w 4 p_q0_0 q0_0.length c_q0_0 (q0_0.flatMap en_TNode)) (R_p_q2_0 : RowC w 2 p_q2_0 q2_0.length c_q2_0 (q2_0.flatMap en_TInterval)) (X_b_q0_0 : w.heap[b_q0_0]? = some (.cells [.slice p_q0_0 q0_0.length c_q0_0].toArray 22 (0, 0))) (X_b_q2_0 : w.heap[b_q2_0]? = some (.cells [.slice p_q2_0 q2_0.length c_q2_0].toArray 24 (0, 0))) (X_b_q3_0 : w.heap[b_q3_0]? = some (.cells [vI q3_0.Lo, vI q3_0.Hi].toArray 38 (0, 0))) (X_b_q4_0 : w.heap[b_q4_0]? = some (.cells [.func (.func 58) #[] #[vP b_q0_0 0, vP b_q1_0 0, vP b_q2_0 0, vP b_q3_0 0, vP b_q4_0 0, vP b_q5_0 0]].toArray 89 (0, 0))) (X_b_q5_0 : w.heap[b_q5_0]? = some (.cells [.map (some l_q5_0)].toArray 87 (0, 0))) (M_l_q5_0 : w.heap[l_q5_0]? = some (.map #[⟨vI 7, .func (.func 82) #[] #[], 0⟩, ⟨vI 8, .func (.func 83) #[] #[], 1⟩, ⟨vI 9, .func (.func 84) #[] #[], 2⟩, ⟨vI 10, .func (.func 85) #[] #[], 3⟩] 4)) (X_b_q1_0 : (KV.blk b_q1_0 [vI q1_0] 3).holds w) (NB_g : ¬ globFp b_q1_0) (NB_p_q0_0 : ¬ fpRow p_q0_0 q0_0.length b_q1_0) (NB_p_q2_0 : ¬ fpRow p_q2_0 q2_0.length b_q1_0) (NB_b_q0_0 : ¬ (b_q1_0 = b_q0_0)) (NB_b_q2_0 : ¬ (b_q1_0 = b_q2_0)) (NB_b_q3_0 : ¬ (b_q1_0 = b_q3_0)) (NB_b_q4_0 : ¬ (b_q1_0 = b_q4_0)) (NB_b_q5_0 : ¬ (b_q1_0 = b_q5_0)) (NB_l_q5_0 : ¬ (b_q1_0 = l_q5_0)) (G : ode_Eval_1 k0 q0_0 q1_0 q2_0 q3_0 = some r),
  Calls Tryd.prog 58 #[vP b_q0_0 0, vP b_q1_0 0, vP b_q2_0 0, vP b_q3_0 0, vP b_q4_0 0, vP b_q5_0 0] w fun e w' => ∃ g : Gh, e = .returned (.agg #[vI r.1.Lo, vI r.1.Hi]) ∧ But (· = b_q1_0) w w' ∧ (KV.blk b_q1_0 [vI r.2] 3).holds w' ∧ RowsF (frP w.heap.size (insV ([vI q1_0] ++ (#[vP b_q0_0 0, vP b_q1_0 0, vP b_q2_0 0, vP b_q3_0 0, vP b_q4_0 0, vP b_q5_0 0] : Array Value).toList))) w' g.o g.n 0 [] := by
 intro k0
 induction k0 with
 | zero => intros; rename_i G; exact absurd G (by unfold ode_Eval_1; exact fun h => by cases h)
 | succ k0 IH => ?_
 intro q0_0 q1_0 q2_0 q3_0 p_q0_0 c_q0_0 p_q2_0 c_q2_0 b_q0_0 b_q1_0 b_q2_0 b_q3_0 b_q4_0 b_q5_0 l_q5_0 r w hg R_p_q0_0 R_p_q2_0 X_b_q0_0 X_b_q2_0 X_b_q3_0 X_b_q4_0 X_b_q5_0 M_l_q5_0 X_b_q1_0 NB_g NB_p_q0_0 NB_p_q2_0 NB_b_q0_0 NB_b_q2_0 NB_b_q3_0 NB_b_q4_0 NB_b_q5_0 NB_l_q5_0 G
 obtain ⟨fr, hfr⟩ : ∃ fr : Nat → Prop, fr = frP w.heap.size [(p_q0_0, q0_0.length), (p_q2_0, q2_0.length)] := ⟨_, rfl⟩
 have hB : ∀ j, w.heap.size ≤ j → fr j := fun j h => by rw [hfr]; exact .inl h
 have hin_p_q0_0 : ∀ j, fpRow p_q0_0 q0_0.length j → fr j := fun j h => by rw [hfr]; exact frP_in (.head _) j h
 have hin_p_q2_0 : ∀ j, fpRow p_q2_0 q2_0.length j → fr j := fun j h => by rw [hfr]; exact frP_in (.tail _ (.head _)) j h
 refine k_enterX (args := [vP b_q0_0 0, vP b_q1_0 0, vP b_q2_0 0, vP b_q3_0 0, vP b_q4_0 0, vP b_q5_0 0]) 66 [(73, rdl fr 4 p_q0_0 c_q0_0 q0_0 en_TNode), (74, rdl fr 2 p_q2_0 c_q2_0 q2_0 en_TInterval), (66, bxK b_q0_0 [.slice p_q0_0 q0_0.length c_q0_0] 22), (68, bxK b_q2_0 [.slice p_q2_0 q2_0.length c_q2_0] 24), (69, bxK b_q3_0 [vI q3_0.Lo, vI q3_0.Hi] 38), (70, bxK b_q4_0 [.func (.func 58) #[] #[vP b_q0_0 0, vP b_q1_0 0, vP b_q2_0 0, vP b_q3_0 0, vP b_q4_0 0, vP b_q5_0 0]] 89), (71, bxK b_q5_0 [.map (some l_q5_0)] 87), (72, obF l_q5_0 (.map #[⟨vI 7, .func (.func 82) #[] #[], 0⟩, ⟨vI 8, .func (.func 83) #[] #[], 1⟩, ⟨vI 9, .func (.func 84) #[] #[], 2⟩, ⟨vI 10, .func (.func 85) #[] #[], 3⟩] 4)), (999999, gk)] 67 b_q1_0 [vI q1_0] 3 X_b_q1_0 (by
  intro x hx
  simp only [List.mem_cons, List.not_mem_nil, or_false] at hx
  rcases hx with rfl | rfl | rfl | rfl | rfl | rfl | rfl | rfl | rfl
  ·exact ⟨rdF_fact R_p_q0_0 hin_p_q0_0 (by decide) _, NB_p_q0_0⟩
  ·exact ⟨rdF_fact R_p_q2_0 hin_p_q2_0 (by decide) _, NB_p_q2_0⟩
  ·exact ⟨bx_fact X_b_q0_0 66, NB_b_q0_0⟩
  ·exact ⟨bx_fact X_b_q2_0 68, NB_b_q2_0⟩
  ·exact ⟨bx_fact X_b_q3_0 69, NB_b_q3_0⟩
  ·exact ⟨bx_fact X_b_q4_0 70, NB_b_q4_0⟩
  ·exact ⟨bx_fact X_b_q5_0 71, NB_b_q5_0⟩
  ·exact ⟨obF_fact M_l_q5_0 72, NB_l_q5_0⟩
  ·exact ⟨⟨⟨_, _, rfl⟩, glob_local hg, glob_in hg⟩, NB_g⟩) Tryd.func58 rfl (by kernel_rfl) (by kernel_rfl) fun a H => ?_
 unfold ode_Eval_1 at G
 generalize ode_Eval_1 k0 = rec at G IH
 unfold ode_Eval_1.body at G
 refine k_seq ?_
 refine k_rg mixed H (.cons [6, 75] (ok_new (fun b => vP b 0) (fun u1 => [vI 0, vI 0]) 38 6 75) <| .nil) fun u1 a w' H => ?_
 replace H := H.toM [(0, sP b_q0_0 0), (1, sP b_q1_0 0), (2, sP b_q2_0 0), (3, sP b_q3_0 0), (4, sP b_q4_0 0), (5, sP b_q5_0 0), (6, (sP ((u1 0).n 0) 0)), (67, .blk b_q1_0 [vI q1_0] 3), (75, .blk ((u1 0).n 0) [vI 0, vI 0] 38), (73, rdl fr 4 p_q0_0 c_q0_0 q0_0 en_TNode), (74, rdl fr 2 p_q2_0 c_q2_0 q2_0 en_TInterval), (66, bxK b_q0_0 [.slice p_q0_0 q0_0.length c_q0_0] 22), (68, bxK b_q2_0 [.slice p_q2_0 q2_0.length c_q2_0] 24), (69, bxK b_q3_0 [vI q3_0.Lo, vI q3_0.Hi] 38), (70, bxK b_q4_0 [.func (.func 58) #[] #[vP b_q0_0 0, vP b_q1_0 0, vP b_q2_0 0, vP b_q3_0 0, vP b_q4_0 0, vP b_q5_0 0]] 89), (71, bxK b_q5_0 [.map (some l_q5_0)] 87), (999999, gk), (72, obF l_q5_0 (.map #[⟨vI 7, .func (.func 82) #[] #[], 0⟩, ⟨vI 8, .func (.func 83) #[] #[], 1⟩, ⟨vI 9, .func (.func 84) #[] #[], 2⟩, ⟨vI 10, .func (.func 85) #[] #[], 3⟩] 4)), (999998, frK b_q1_0 w)]
 refine k_seq ?_
 replace G := gd G; obtain ⟨b3, G⟩ := G
 replace G := bnd G; obtain ⟨t4, ht4, G⟩ := G
 refine k_rg mixed H (.cons [10] (ok_ldK (fun u2 => .slice p_q0_0 q0_0.length c_q0_0) 10 66 (bxK b_q0_0 [.slice p_q0_0 q0_0.length c_q0_0] 22) b_q0_0 0 1 [.slice p_q0_0 q0_0.length c_q0_0] (fun w h => bx_of h)) <|
   .cons [11] (ok_ld (fun u2 => vI q1_0) 11 67 0 1 (fun u2 => b_q1_0) (fun u2 => [vI q1_0]) 3) <|
   .cons [12] (ok_valL [73] (fun u2 => [rdl fr 4 p_q0_0 c_q0_0 q0_0 en_TNode]) (fun u2 => .pointer (some ⟨hdB p_q0_0, hdO p_q0_0 + q1_0.toNat * 4, none⟩)) (fun u2 => true) [true, true] 12 (fun u2 w hg hF => run_of (by kernel_rfl) (run_ix (t := 22) (p := p_q0_0) (n := q0_0.length) (cap := c_q0_0) (k := .i64) (i := q1_0) (sz := 4) (by kernel_rfl) (by kernel_rfl) (rdF_of hF.1).2 b3))) <|
   .cons [13] (ok_valL [73] (fun u2 => [rdl fr 4 p_q0_0 c_q0_0 q0_0 en_TNode]) (fun u2 => .agg #[vI t4.Op, vI t4.N, vI t4.C.Lo, vI t4.C.Hi]) (fun u2 => true) [true] 13 (fun u2 w hg hF => ld_of (vs := [vI t4.Op, vI t4.N, vI t4.C.Lo, vI t4.C.Hi]) (b := hdB p_q0_0) (off := hdO p_q0_0 + q1_0.toNat * 4 + 0) (m := 4) (by kernel_rfl) (el_cells (rdF_of hF.1).2 en_TNode_len ht4 0 4 rfl))) <|
   .cons [7, 76] (ok_new (fun b => vP b 0) (fun u2 => [vI 0, vI 0, vI 0, vI 0]) 53 7 76) <|
   .cons [76] (ok_as (u' := fun u2 => [(76, .blk ((u2 4).n 0) [vI t4.Op, vI t4.N, vI t4.C.Lo, vI t4.C.Hi] 53)]) (ok_store 76 0 (fun u2 => ((u2 4).n 0)) (fun u2 => [vI 0, vI 0, vI 0, vI 0]) (fun u2 => [vI t4.Op, vI t4.N, vI t4.C.Lo, vI t4.C.Hi]) 53) (fun _ => by kernel_rfl)) <| .nil) fun u2 a w' H => ?_
 replace H := H.toM [(1, sP b_q1_0 0), (2, sP b_q2_0 0), (3, sP b_q3_0 0), (4, sP b_q4_0 0), (5, sP b_q5_0 0), (6, (sP ((u1 0).n 0) 0)), (7, (sP ((u2 4).n 0) 0)), (67, .blk b_q1_0 [vI q1_0] 3), (75, .blk ((u1 0).n 0) [vI 0, vI 0] 38), (76, .blk ((u2 4).n 0) [vI t4.Op, vI t4.N, vI t4.C.Lo, vI t4.C.Hi] 53), (73, rdl fr 4 p_q0_0 c_q0_0 q0_0 en_TNode), (74, rdl fr 2 p_q2_0 c_q2_0 q2_0 en_TInterval), (66, bxK b_q0_0 [.slice p_q0_0 q0_0.length c_q0_0] 22), (68, bxK b_q2_0 [.slice p_q2_0 q2_0.length c_q2_0] 24), (69, bxK b_q3_0 [vI q3_0.Lo, vI q3_0.Hi] 38), (70, bxK b_q4_0 [.func (.func 58) #[] #[vP b_q0_0 0, vP b_q1_0 0, vP b_q2_0 0, vP b_q3_0 0, vP b_q4_0 0, vP b_q5_0 0]] 89), (71, bxK b_q5_0 [.map (some l_q5_0)] 87), (999999, gk), (72, obF l_q5_0 (.map #[⟨vI 7, .func (.func 82) #[] #[], 0⟩, ⟨vI 8, .func (.func 83) #[] #[], 1⟩, ⟨vI 9, .func (.func 84) #[] #[], 2⟩, ⟨vI 10, .func (.func 85) #[] #[], 3⟩] 4)), (999998, frK b_q1_0 w)]
 refine k_seq ?_
 refine k_rg mixed H (.cons [14] (ok_ld (fun u5 => vI q1_0) 14 67 0 1 (fun u5 => b_q1_0) (fun u5 => [vI q1_0]) 3) <|
   .v 15 (vI (w_i64 (q1_0 + 1))) <|
   .cons [67] (ok_as (u' := fun u5 => [(67, .blk b_q1_0 [vI (w_i64 (q1_0 + 1))] 3)]) (ok_store 67 0 (fun u5 => b_q1_0) (fun u5 => [vI q1_0]) (fun u5 => [vI (w_i64 (q1_0 + 1))]) 3) (fun _ => by kernel_rfl)) <| .nil) fun u5 a w' H => ?_
 replace H := H.toM [(2, sP b_q2_0 0), (3, sP b_q3_0 0), (4, sP b_q4_0 0), (5, sP b_q5_0 0), (6, (sP ((u1 0).n 0) 0)), (7, (sP ((u2 4).n 0) 0)), (67, .blk b_q1_0 [vI (w_i64 (q1_0 + 1))] 3), (75, .blk ((u1 0).n 0) [vI 0, vI 0] 38), (76, .blk ((u2 4).n 0) [vI t4.Op, vI t4.N, vI t4.C.Lo, vI t4.C.Hi] 53), (73, rdl fr 4 p_q0_0 c_q0_0 q0_0 en_TNode), (74, rdl fr 2 p_q2_0 c_q2_0 q2_0 en_TInterval), (66, bxK b_q0_0 [.slice p_q0_0 q0_0.length c_q0_0] 22), (68, bxK b_q2_0 [.slice p_q2_0 q2_0.length c_q2_0] 24), (69, bxK b_q3_0 [vI q3_0.Lo, vI q3_0.Hi] 38), (70, bxK b_q4_0 [.func (.func 58) #[] #[vP b_q0_0 0, vP b_q1_0 0, vP b_q2_0 0, vP b_q3_0 0, vP b_q4_0 0, vP b_q5_0 0]] 89), (71, bxK b_q5_0 [.map (some l_q5_0)] 87), (999999, gk), (72, obF l_q5_0 (.map #[⟨vI 7, .func (.func 82) #[] #[], 0⟩, ⟨vI 8, .func (.func 83) #[] #[], 1⟩, ⟨vI 9, .func (.func 84) #[] #[], 2⟩, ⟨vI 10, .func (.func 85) #[] #[], 3⟩] 4)), (999998, frK b_q1_0 w)]
 refine k_seq ?_
 refine k_seq ?_
 refine k_rg mixed H (.v 16 (vP ((u2 4).n 0) 0) <|
   .cons [17] (ok_ld (fun u6 => vI t4.Op) 17 76 0 1 (fun u6 => ((u2 4).n 0)) (fun u6 => [vI t4.Op, vI t4.N, vI t4.C.Lo, vI t4.C.Hi]) 53) <| .nil) fun u6 a w' H => ?_
 replace H := H.toM [(2, sP b_q2_0 0), (3, sP b_q3_0 0), (4, sP b_q4_0 0), (5, sP b_q5_0 0), (6, (sP ((u1 0).n 0) 0)), (7, (sP ((u2 4).n 0) 0)), (17, sI t4.Op), (67, .blk b_q1_0 [vI (w_i64 (q1_0 + 1))] 3), (75, .blk ((u1 0).n 0) [vI 0, vI 0] 38), (76, .blk ((u2 4).n 0) [vI t4.Op, vI t4.N, vI t4.C.Lo, vI t4.C.Hi] 53), (73, rdl fr 4 p_q0_0 c_q0_0 q0_0 en_TNode), (74, rdl fr 2 p_q2_0 c_q2_0 q2_0 en_TInterval), (66, bxK b_q0_0 [.slice p_q0_0 q0_0.length c_q0_0] 22), (68, bxK b_q2_0 [.slice p_q2_0 q2_0.length c_q2_0] 24), (69, bxK b_q3_0 [vI q3_0.Lo, vI q3_0.Hi] 38), (70, bxK b_q4_0 [.func (.func 58) #[] #[vP b_q0_0 0, vP b_q1_0 0, vP b_q2_0 0, vP b_q3_0 0, vP b_q4_0 0, vP b_q5_0 0]] 89), (71, bxK b_q5_0 [.map (some l_q5_0)] 87), (999999, gk), (72, obF l_q5_0 (.map #[⟨vI 7, .func (.func 82) #[] #[], 0⟩, ⟨vI 8, .func (.func 83) #[] #[], 1⟩, ⟨vI 9, .func (.func 84) #[] #[], 2⟩, ⟨vI 10, .func (.func 85) #[] #[], 3⟩] 4)), (999998, frK b_q1_0 w)]
 refine k_block ?_
 refine k_seq ?_
 refine k_rg mixed H (.v 19 (.bool (t4.Op == 1)) <|
   .v 18 (.bool (t4.Op == 1)) <| .nil) fun u7 a w' H => ?_
 replace H := H.toM [(2, sP b_q2_0 0), (3, sP b_q3_0 0), (4, sP b_q4_0 0), (5, sP b_q5_0 0), (6, (sP ((u1 0).n 0) 0)), (7, (sP ((u2 4).n 0) 0)), (17, sI t4.Op), (18, (sB (t4.Op == 1))), (67, .blk b_q1_0 [vI (w_i64 (q1_0 + 1))] 3), (75, .blk ((u1 0).n 0) [vI 0, vI 0] 38), (76, .blk ((u2 4).n 0) [vI t4.Op, vI t4.N, vI t4.C.Lo, vI t4.C.Hi] 53), (73, rdl fr 4 p_q0_0 c_q0_0 q0_0 en_TNode), (74, rdl fr 2 p_q2_0 c_q2_0 q2_0 en_TInterval), (66, bxK b_q0_0 [.slice p_q0_0 q0_0.length c_q0_0] 22), (68, bxK b_q2_0 [.slice p_q2_0 q2_0.length c_q2_0] 24), (69, bxK b_q3_0 [vI q3_0.Lo, vI q3_0.Hi] 38), (70, bxK b_q4_0 [.func (.func 58) #[] #[vP b_q0_0 0, vP b_q1_0 0, vP b_q2_0 0, vP b_q3_0 0, vP b_q4_0 0, vP b_q5_0 0]] 89), (71, bxK b_q5_0 [.map (some l_q5_0)] 87), (999999, gk), (72, obF l_q5_0 (.map #[⟨vI 7, .func (.func 82) #[] #[], 0⟩, ⟨vI 8, .func (.func 83) #[] #[], 1⟩, ⟨vI 9, .func (.func 84) #[] #[], 2⟩, ⟨vI 10, .func (.func 85) #[] #[], 3⟩] 4)), (999998, frK b_q1_0 w)]
 refine k_cond H (by kernel_rfl) (t := (t4.Op == 1)) (by kernel_rfl) (fun c48 => ?_) (fun c48 => ?_)
 ·rw [if_pos c48] at G
  refine k_seq ?_
  refine k_rg mixed H (.v 20 (vP ((u2 4).n 0) 2) <|
   .cons [21] (ok_ld (fun u8 => .agg #[vI t4.C.Lo, vI t4.C.Hi]) 21 76 2 2 (fun u8 => ((u2 4).n 0)) (fun u8 => [vI t4.Op, vI t4.N, vI t4.C.Lo, vI t4.C.Hi]) 53) <|
   .cons [75] (ok_as (u' := fun u8 => [(75, .blk ((u1 0).n 0) [vI t4.C.Lo, vI t4.C.Hi] 38)]) (ok_store 75 0 (fun u8 => ((u1 0).n 0)) (fun u8 => [vI 0, vI 0]) (fun u8 => [vI t4.C.Lo, vI t4.C.Hi]) 38) (fun _ => by kernel_rfl)) <| .nil) fun u8 a w' H => ?_
  replace H := H.toM [(6, (sP ((u1 0).n 0) 0)), (67, .blk b_q1_0 [vI (w_i64 (q1_0 + 1))] 3), (75, .blk ((u1 0).n 0) [vI t4.C.Lo, vI t4.C.Hi] 38), (73, rdl fr 4 p_q0_0 c_q0_0 q0_0 en_TNode), (74, rdl fr 2 p_q2_0 c_q2_0 q2_0 en_TInterval), (66, bxK b_q0_0 [.slice p_q0_0 q0_0.length c_q0_0] 22), (68, bxK b_q2_0 [.slice p_q2_0 q2_0.length c_q2_0] 24), (69, bxK b_q3_0 [vI q3_0.Lo, vI q3_0.Hi] 38), (70, bxK b_q4_0 [.func (.func 58) #[] #[vP b_q0_0 0, vP b_q1_0 0, vP b_q2_0 0, vP b_q3_0 0, vP b_q4_0 0, vP b_q5_0 0]] 89), (71, bxK b_q5_0 [.map (some l_q5_0)] 87), (999999, gk), (72, obF l_q5_0 (.map #[⟨vI 7, .func (.func 82) #[] #[], 0⟩, ⟨vI 8, .func (.func 83) #[] #[], 1⟩, ⟨vI 9, .func (.func 84) #[] #[], 2⟩, ⟨vI 10, .func (.func 85) #[] #[], 3⟩] 4)), (999998, frK b_q1_0 w)]
  refine k_ret ?_
  obtain rfl := Option.some.inj G
  exact k_doneX H 67 [vI (w_i64 (q1_0 + 1))] 3 (fun g => .agg #[vI t4.C.Lo, vI t4.C.Hi]) (fun g => [vI (w_i64 (q1_0 + 1))]) default _ [] [(75, ⟨((u1 0).n 0), [vI t4.C.Lo, vI t4.C.Hi], 0, 2⟩)] (by kernel_rfl) (by kernel_rfl) (by kernel_rfl) rowsF_nil (by kernel_rfl) (by intro p hp; simp only [List.mem_cons, List.not_mem_nil, or_false] at hp; rcases hp with rfl; exact ⟨⟨38, by kernel_rfl⟩, by kernel_rfl⟩) (by kernel_rfl)
 ·rw [if_neg (nt c48)] at G
  refine k_seq ?_
  refine k_rg mixed H (.v 23 (.bool (t4.Op == 2)) <|
   .v 22 (.bool (t4.Op == 2)) <| .nil) fun u9 a w' H => ?_
  replace H := H.toM [(2, sP b_q2_0 0), (3, sP b_q3_0 0), (4, sP b_q4_0 0), (5, sP b_q5_0 0), (6, (sP ((u1 0).n 0) 0)), (7, (sP ((u2 4).n 0) 0)), (17, sI t4.Op), (22, (sB (t4.Op == 2))), (67, .blk b_q1_0 [vI (w_i64 (q1_0 + 1))] 3), (75, .blk ((u1 0).n 0) [vI 0, vI 0] 38), (76, .blk ((u2 4).n 0) [vI t4.Op, vI t4.N, vI t4.C.Lo, vI t4.C.Hi] 53), (73, rdl fr 4 p_q0_0 c_q0_0 q0_0 en_TNode), (74, rdl fr 2 p_q2_0 c_q2_0 q2_0 en_TInterval), (66, bxK b_q0_0 [.slice p_q0_0 q0_0.length c_q0_0] 22), (68, bxK b_q2_0 [.slice p_q2_0 q2_0.length c_q2_0] 24), (69, bxK b_q3_0 [vI q3_0.Lo, vI q3_0.Hi] 38), (70, bxK b_q4_0 [.func (.func 58) #[] #[vP b_q0_0 0, vP b_q1_0 0, vP b_q2_0 0, vP b_q3_0 0, vP b_q4_0 0, vP b_q5_0 0]] 89), (71, bxK b_q5_0 [.map (some l_q5_0)] 87), (999999, gk), (72, obF l_q5_0 (.map #[⟨vI 7, .func (.func 82) #[] #[], 0⟩, ⟨vI 8, .func (.func 83) #[] #[], 1⟩, ⟨vI 9, .func (.func 84) #[] #[], 2⟩, ⟨vI 10, .func (.func 85) #[] #[], 3⟩] 4)), (999998, frK b_q1_0 w)]
  refine k_cond H (by kernel_rfl) (t := (t4.Op == 2)) (by kernel_rfl) (fun c47 => ?_) (fun c47 => ?_)
  ·rw [if_pos c47] at G
   refine k_seq ?_
   replace G := gd G; obtain ⟨b11, G⟩ := G
   replace G := bnd G; obtain ⟨t12, ht12, G⟩ := G
   refine k_rg mixed H (.cons [24] (ok_ldK (fun u10 => .slice p_q2_0 q2_0.length c_q2_0) 24 68 (bxK b_q2_0 [.slice p_q2_0 q2_0.length c_q2_0] 24) b_q2_0 0 1 [.slice p_q2_0 q2_0.length c_q2_0] (fun w h => bx_of h)) <|
   .v 25 (vP ((u2 4).n 0) 1) <|
   .cons [26] (ok_ld (fun u10 => vI t4.N) 26 76 1 1 (fun u10 => ((u2 4).n 0)) (fun u10 => [vI t4.Op, vI t4.N, vI t4.C.Lo, vI t4.C.Hi]) 53) <|
   .cons [27] (ok_valL [74] (fun u10 => [rdl fr 2 p_q2_0 c_q2_0 q2_0 en_TInterval]) (fun u10 => .pointer (some ⟨hdB p_q2_0, hdO p_q2_0 + t4.N.toNat * 2, none⟩)) (fun u10 => true) [true, true] 27 (fun u10 w hg hF => run_of (by kernel_rfl) (run_ix (t := 24) (p := p_q2_0) (n := q2_0.length) (cap := c_q2_0) (k := .i64) (i := t4.N) (sz := 2) (by kernel_rfl) (by kernel_rfl) (rdF_of hF.1).2 b11))) <|
   .cons [28] (ok_valL [74] (fun u10 => [rdl fr 2 p_q2_0 c_q2_0 q2_0 en_TInterval]) (fun u10 => .agg #[vI t12.Lo, vI t12.Hi]) (fun u10 => true) [true] 28 (fun u10 w hg hF => ld_of (vs := [vI t12.Lo, vI t12.Hi]) (b := hdB p_q2_0) (off := hdO p_q2_0 + t4.N.toNat * 2 + 0) (m := 2) (by kernel_rfl) (el_cells (rdF_of hF.1).2 en_TInterval_len ht12 0 2 rfl))) <|
   .cons [75] (ok_as (u' := fun u10 => [(75, .blk ((u1 0).n 0) [vI t12.Lo, vI t12.Hi] 38)]) (ok_store 75 0 (fun u10 => ((u1 0).n 0)) (fun u10 => [vI 0, vI 0]) (fun u10 => [vI t12.Lo, vI t12.Hi]) 38) (fun _ => by kernel_rfl)) <| .nil) fun u10 a w' H => ?_
   replace H := H.toM [(6, (sP ((u1 0).n 0) 0)), (67, .blk b_q1_0 [vI (w_i64 (q1_0 + 1))] 3), (75, .blk ((u1 0).n 0) [vI t12.Lo, vI t12.Hi] 38), (73, rdl fr 4 p_q0_0 c_q0_0 q0_0 en_TNode), (74, rdl fr 2 p_q2_0 c_q2_0 q2_0 en_TInterval), (66, bxK b_q0_0 [.slice p_q0_0 q0_0.length c_q0_0] 22), (68, bxK b_q2_0 [.slice p_q2_0 q2_0.length c_q2_0] 24), (69, bxK b_q3_0 [vI q3_0.Lo, vI q3_0.Hi] 38), (70, bxK b_q4_0 [.func (.func 58) #[] #[vP b_q0_0 0, vP b_q1_0 0, vP b_q2_0 0, vP b_q3_0 0, vP b_q4_0 0, vP b_q5_0 0]] 89), (71, bxK b_q5_0 [.map (some l_q5_0)] 87), (999999, gk), (72, obF l_q5_0 (.map #[⟨vI 7, .func (.func 82) #[] #[], 0⟩, ⟨vI 8, .func (.func 83) #[] #[], 1⟩, ⟨vI 9, .func (.func 84) #[] #[], 2⟩, ⟨vI 10, .func (.func 85) #[] #[], 3⟩] 4)), (999998, frK b_q1_0 w)]
   refine k_ret ?_
   obtain rfl := Option.some.inj G
   exact k_doneX H 67 [vI (w_i64 (q1_0 + 1))] 3 (fun g => .agg #[vI t12.Lo, vI t12.Hi]) (fun g => [vI (w_i64 (q1_0 + 1))]) default _ [] [(75, ⟨((u1 0).n 0), [vI t12.Lo, vI t12.Hi], 0, 2⟩)] (by kernel_rfl) (by kernel_rfl) (by kernel_rfl) rowsF_nil (by kernel_rfl) (by intro p hp; simp only [List.mem_cons, List.not_mem_nil, or_false] at hp; rcases hp with rfl; exact ⟨⟨38, by kernel_rfl⟩, by kernel_rfl⟩) (by kernel_rfl)
  ·rw [if_neg (nt c47)] at G
   refine k_seq ?_
   refine k_rg mixed H (.v 30 (.bool (t4.Op == 3)) <|
   .v 29 (.bool (t4.Op == 3)) <| .nil) fun u13 a w' H => ?_
   replace H := H.toM [(3, sP b_q3_0 0), (4, sP b_q4_0 0), (5, sP b_q5_0 0), (6, (sP ((u1 0).n 0) 0)), (7, (sP ((u2 4).n 0) 0)), (17, sI t4.Op), (29, (sB (t4.Op == 3))), (67, .blk b_q1_0 [vI (w_i64 (q1_0 + 1))] 3), (75, .blk ((u1 0).n 0) [vI 0, vI 0] 38), (76, .blk ((u2 4).n 0) [vI t4.Op, vI t4.N, vI t4.C.Lo, vI t4.C.Hi] 53), (73, rdl fr 4 p_q0_0 c_q0_0 q0_0 en_TNode), (74, rdl fr 2 p_q2_0 c_q2_0 q2_0 en_TInterval), (66, bxK b_q0_0 [.slice p_q0_0 q0_0.length c_q0_0] 22), (68, bxK b_q2_0 [.slice p_q2_0 q2_0.length c_q2_0] 24), (69, bxK b_q3_0 [vI q3_0.Lo, vI q3_0.Hi] 38), (70, bxK b_q4_0 [.func (.func 58) #[] #[vP b_q0_0 0, vP b_q1_0 0, vP b_q2_0 0, vP b_q3_0 0, vP b_q4_0 0, vP b_q5_0 0]] 89), (71, bxK b_q5_0 [.map (some l_q5_0)] 87), (999999, gk), (72, obF l_q5_0 (.map #[⟨vI 7, .func (.func 82) #[] #[], 0⟩, ⟨vI 8, .func (.func 83) #[] #[], 1⟩, ⟨vI 9, .func (.func 84) #[] #[], 2⟩, ⟨vI 10, .func (.func 85) #[] #[], 3⟩] 4)), (999998, frK b_q1_0 w)]
   refine k_cond H (by kernel_rfl) (t := (t4.Op == 3)) (by kernel_rfl) (fun c46 => ?_) (fun c46 => ?_)
   ·rw [if_pos c46] at G
    refine k_seq ?_
    refine k_rg mixed H (.cons [31] (ok_ldK (fun u14 => .agg #[vI q3_0.Lo, vI q3_0.Hi]) 31 69 (bxK b_q3_0 [vI q3_0.Lo, vI q3_0.Hi] 38) b_q3_0 0 2 [vI q3_0.Lo, vI q3_0.Hi] (fun w h => bx_of h)) <|
   .cons [75] (ok_as (u' := fun u14 => [(75, .blk ((u1 0).n 0) [vI q3_0.Lo, vI q3_0.Hi] 38)]) (ok_store 75 0 (fun u14 => ((u1 0).n 0)) (fun u14 => [vI 0, vI 0]) (fun u14 => [vI q3_0.Lo, vI q3_0.Hi]) 38) (fun _ => by kernel_rfl)) <| .nil) fun u14 a w' H => ?_
    replace H := H.toM [(6, (sP ((u1 0).n 0) 0)), (67, .blk b_q1_0 [vI (w_i64 (q1_0 + 1))] 3), (75, .blk ((u1 0).n 0) [vI q3_0.Lo, vI q3_0.Hi] 38), (73, rdl fr 4 p_q0_0 c_q0_0 q0_0 en_TNode), (74, rdl fr 2 p_q2_0 c_q2_0 q2_0 en_TInterval), (66, bxK b_q0_0 [.slice p_q0_0 q0_0.length c_q0_0] 22), (68, bxK b_q2_0 [.slice p_q2_0 q2_0.length c_q2_0] 24), (69, bxK b_q3_0 [vI q3_0.Lo, vI q3_0.Hi] 38), (70, bxK b_q4_0 [.func (.func 58) #[] #[vP b_q0_0 0, vP b_q1_0 0, vP b_q2_0 0, vP b_q3_0 0, vP b_q4_0 0, vP b_q5_0 0]] 89), (71, bxK b_q5_0 [.map (some l_q5_0)] 87), (999999, gk), (72, obF l_q5_0 (.map #[⟨vI 7, .func (.func 82) #[] #[], 0⟩, ⟨vI 8, .func (.func 83) #[] #[], 1⟩, ⟨vI 9, .func (.func 84) #[] #[], 2⟩, ⟨vI 10, .func (.func 85) #[] #[], 3⟩] 4)), (999998, frK b_q1_0 w)]
    refine k_ret ?_
    obtain rfl := Option.some.inj G
    exact k_doneX H 67 [vI (w_i64 (q1_0 + 1))] 3 (fun g => .agg #[vI q3_0.Lo, vI q3_0.Hi]) (fun g => [vI (w_i64 (q1_0 + 1))]) default _ [] [(75, ⟨((u1 0).n 0), [vI q3_0.Lo, vI q3_0.Hi], 0, 2⟩)] (by kernel_rfl) (by kernel_rfl) (by kernel_rfl) rowsF_nil (by kernel_rfl) (by intro p hp; simp only [List.mem_cons, List.not_mem_nil, or_false] at hp; rcases hp with rfl; exact ⟨⟨38, by kernel_rfl⟩, by kernel_rfl⟩) (by kernel_rfl)
   ·rw [if_neg (nt c46)] at G
    refine k_seq ?_
    refine k_rg mixed H (.v 33 (.bool (t4.Op == 4)) <|
   .v 32 (.bool (t4.Op == 4)) <| .nil) fun u15 a w' H => ?_
    replace H := H.toM [(4, sP b_q4_0 0), (5, sP b_q5_0 0), (6, (sP ((u1 0).n 0) 0)), (7, (sP ((u2 4).n 0) 0)), (17, sI t4.Op), (32, (sB (t4.Op == 4))), (67, .blk b_q1_0 [vI (w_i64 (q1_0 + 1))] 3), (75, .blk ((u1 0).n 0) [vI 0, vI 0] 38), (76, .blk ((u2 4).n 0) [vI t4.Op, vI t4.N, vI t4.C.Lo, vI t4.C.Hi] 53), (73, rdl fr 4 p_q0_0 c_q0_0 q0_0 en_TNode), (74, rdl fr 2 p_q2_0 c_q2_0 q2_0 en_TInterval), (66, bxK b_q0_0 [.slice p_q0_0 q0_0.length c_q0_0] 22), (68, bxK b_q2_0 [.slice p_q2_0 q2_0.length c_q2_0] 24), (69, bxK b_q3_0 [vI q3_0.Lo, vI q3_0.Hi] 38), (70, bxK b_q4_0 [.func (.func 58) #[] #[vP b_q0_0 0, vP b_q1_0 0, vP b_q2_0 0, vP b_q3_0 0, vP b_q4_0 0, vP b_q5_0 0]] 89), (71, bxK b_q5_0 [.map (some l_q5_0)] 87), (999999, gk), (72, obF l_q5_0 (.map #[⟨vI 7, .func (.func 82) #[] #[], 0⟩, ⟨vI 8, .func (.func 83) #[] #[], 1⟩, ⟨vI 9, .func (.func 84) #[] #[], 2⟩, ⟨vI 10, .func (.func 85) #[] #[], 3⟩] 4)), (999998, frK b_q1_0 w)]
    refine k_cond H (by kernel_rfl) (t := (t4.Op == 4)) (by kernel_rfl) (fun c45 => ?_) (fun c45 => ?_)
    ·rw [if_pos c45] at G
     refine k_seq ?_
     replace G := bnd G; obtain ⟨t17, ht17, G⟩ := G
     replace G := bnd G; obtain ⟨t18, ht18, G⟩ := G
     refine k_rg mixed H (.cons [34] (ok_ldK (fun u16 => .func (.func 58) #[] #[vP b_q0_0 0, vP b_q1_0 0, vP b_q2_0 0, vP b_q3_0 0, vP b_q4_0 0, vP b_q5_0 0]) 34 70 (bxK b_q4_0 [.func (.func 58) #[] #[vP b_q0_0 0, vP b_q1_0 0, vP b_q2_0 0, vP b_q3_0 0, vP b_q4_0 0, vP b_q5_0 0]] 89) b_q4_0 0 1 [.func (.func 58) #[] #[vP b_q0_0 0, vP b_q1_0 0, vP b_q2_0 0, vP b_q3_0 0, vP b_q4_0 0, vP b_q5_0 0]] (fun w h => bx_of h)) <|
   .cons [35, 67] (ok_callX [73, 74, 66, 68, 69, 70, 71, 72, 999999] (fun u16 => [rdl fr 4 p_q0_0 c_q0_0 q0_0 en_TNode, rdl fr 2 p_q2_0 c_q2_0 q2_0 en_TInterval, bxK b_q0_0 [.slice p_q0_0 q0_0.length c_q0_0] 22, bxK b_q2_0 [.slice p_q2_0 q2_0.length c_q2_0] 24, bxK b_q3_0 [vI q3_0.Lo, vI q3_0.Hi] 38, bxK b_q4_0 [.func (.func 58) #[] #[vP b_q0_0 0, vP b_q1_0 0, vP b_q2_0 0, vP b_q3_0 0, vP b_q4_0 0, vP b_q5_0 0]] 89, bxK b_q5_0 [.map (some l_q5_0)] 87, obF l_q5_0 (.map #[⟨vI 7, .func (.func 82) #[] #[], 0⟩, ⟨vI 8, .func (.func 83) #[] #[], 1⟩, ⟨vI 9, .func (.func 84) #[] #[], 2⟩, ⟨vI 10, .func (.func 85) #[] #[], 3⟩] 4), gk]) 58 (fun u16 => #[vP b_q0_0 0, vP b_q1_0 0, vP b_q2_0 0, vP b_q3_0 0, vP b_q4_0 0, vP b_q5_0 0]) (fun g => .agg #[vI t17.1.Lo, vI t17.1.Hi]) [] fr 35 77 67 1 (fun u16 => b_q1_0) (fun u16 => [vI (w_i64 (q1_0 + 1))]) (fun g => [vI t17.2]) 3 (fun u16 w hb hF hN => IH q0_0 (w_i64 (q1_0 + 1)) q2_0 q3_0 p_q0_0 c_q0_0 p_q2_0 c_q2_0 b_q0_0 b_q1_0 b_q2_0 b_q3_0 b_q4_0 b_q5_0 l_q5_0 t17 w (glob_of hF.2.2.2.2.2.2.2.2.1) (rdF_of hF.1) (rdF_of hF.2.1) (hF.2.2.1 w (agree.refl _ _)) (hF.2.2.2.1 w (agree.refl _ _)) (hF.2.2.2.2.1 w (agree.refl _ _)) (hF.2.2.2.2.2.1 w (agree.refl _ _)) (hF.2.2.2.2.2.2.1 w (agree.refl _ _)) (obF_of hF.2.2.2.2.2.2.2.1) hb (hN _ (.tail _ (.tail _ (.tail _ (.tail _ (.tail _ (.tail _ (.tail _ (.tail _ (.head _)))))))))) (fun h => hN _ (.head _) h) (fun h => hN _ (.tail _ (.head _)) h) (hN _ (.tail _ (.tail _ (.head _)))) (hN _ (.tail _ (.tail _ (.tail _ (.head _))))) (hN _ (.tail _ (.tail _ (.tail _ (.tail _ (.head _)))))) (hN _ (.tail _ (.tail _ (.tail _ (.tail _ (.tail _ (.head _))))))) (hN _ (.tail _ (.tail _ (.tail _ (.tail _ (.tail _ (.tail _ (.head _)))))))) (hN _ (.tail _ (.tail _ (.tail _ (.tail _ (.tail _ (.tail _ (.tail _ (.head _))))))))) ht17) (fun u16 w hF => ins_as (ins' := []) ins_nil) hB) <|
   .cons [36] (ok_callv 59 (fun u16 => #[.agg #[vI t17.1.Lo, vI t17.1.Hi]]) (.agg #[vI t18.Lo, vI t18.Hi]) 36 [] (fun _ w _ => interval_Neg.calls t17.1 t18 w ht18)) <|
   .cons [75] (ok_as (u' := fun u16 => [(75, .blk ((u1 0).n 0) [vI t18.Lo, vI t18.Hi] 38)]) (ok_store 75 0 (fun u16 => ((u1 0).n 0)) (fun u16 => [vI 0, vI 0]) (fun u16 => [vI t18.Lo, vI t18.Hi]) 38) (fun _ => by kernel_rfl)) <| .nil) fun u16 a w' H => ?_
     replace H := H.toM [(6, (sP ((u1 0).n 0) 0)), (67, .blk b_q1_0 [vI t17.2] 3), (75, .blk ((u1 0).n 0) [vI t18.Lo, vI t18.Hi] 38), (73, rdl fr 4 p_q0_0 c_q0_0 q0_0 en_TNode), (74, rdl fr 2 p_q2_0 c_q2_0 q2_0 en_TInterval), (66, bxK b_q0_0 [.slice p_q0_0 q0_0.length c_q0_0] 22), (68, bxK b_q2_0 [.slice p_q2_0 q2_0.length c_q2_0] 24), (69, bxK b_q3_0 [vI q3_0.Lo, vI q3_0.Hi] 38), (70, bxK b_q4_0 [.func (.func 58) #[] #[vP b_q0_0 0, vP b_q1_0 0, vP b_q2_0 0, vP b_q3_0 0, vP b_q4_0 0, vP b_q5_0 0]] 89), (71, bxK b_q5_0 [.map (some l_q5_0)] 87), (999999, gk), (72, obF l_q5_0 (.map #[⟨vI 7, .func (.func 82) #[] #[], 0⟩, ⟨vI 8, .func (.func 83) #[] #[], 1⟩, ⟨vI 9, .func (.func 84) #[] #[], 2⟩, ⟨vI 10, .func (.func 85) #[] #[], 3⟩] 4)), (999998, frK b_q1_0 w)]
     refine k_ret ?_
     obtain rfl := Option.some.inj G
     exact k_doneX H 67 [vI t17.2] 3 (fun g => .agg #[vI t18.Lo, vI t18.Hi]) (fun g => [vI t17.2]) default _ [] [(75, ⟨((u1 0).n 0), [vI t18.Lo, vI t18.Hi], 0, 2⟩)] (by kernel_rfl) (by kernel_rfl) (by kernel_rfl) rowsF_nil (by kernel_rfl) (by intro p hp; simp only [List.mem_cons, List.not_mem_nil, or_false] at hp; rcases hp with rfl; exact ⟨⟨38, by kernel_rfl⟩, by kernel_rfl⟩) (by kernel_rfl)
    ·rw [if_neg (nt c45)] at G
     refine k_seq ?_
     refine k_rg mixed H (.v 38 (.bool (t4.Op == 5)) <|
   .v 37 (.bool (t4.Op == 5)) <| .nil) fun u19 a w' H => ?_
     replace H := H.toM [(4, sP b_q4_0 0), (5, sP b_q5_0 0), (6, (sP ((u1 0).n 0) 0)), (7, (sP ((u2 4).n 0) 0)), (17, sI t4.Op), (37, (sB (t4.Op == 5))), (67, .blk b_q1_0 [vI (w_i64 (q1_0 + 1))] 3), (75, .blk ((u1 0).n 0) [vI 0, vI 0] 38), (76, .blk ((u2 4).n 0) [vI t4.Op, vI t4.N, vI t4.C.Lo, vI t4.C.Hi] 53), (73, rdl fr 4 p_q0_0 c_q0_0 q0_0 en_TNode), (74, rdl fr 2 p_q2_0 c_q2_0 q2_0 en_TInterval), (66, bxK b_q0_0 [.slice p_q0_0 q0_0.length c_q0_0] 22), (68, bxK b_q2_0 [.slice p_q2_0 q2_0.length c_q2_0] 24), (69, bxK b_q3_0 [vI q3_0.Lo, vI q3_0.Hi] 38), (70, bxK b_q4_0 [.func (.func 58) #[] #[vP b_q0_0 0, vP b_q1_0 0, vP b_q2_0 0, vP b_q3_0 0, vP b_q4_0 0, vP b_q5_0 0]] 89), (71, bxK b_q5_0 [.map (some l_q5_0)] 87), (999999, gk), (72, obF l_q5_0 (.map #[⟨vI 7, .func (.func 82) #[] #[], 0⟩, ⟨vI 8, .func (.func 83) #[] #[], 1⟩, ⟨vI 9, .func (.func 84) #[] #[], 2⟩, ⟨vI 10, .func (.func 85) #[] #[], 3⟩] 4)), (999998, frK b_q1_0 w)]
     refine k_cond H (by kernel_rfl) (t := (t4.Op == 5)) (by kernel_rfl) (fun c44 => ?_) (fun c44 => ?_)
     ·rw [if_pos c44] at G
      refine k_seq ?_
      replace G := bnd G; obtain ⟨t21, ht21, G⟩ := G
      replace G := bnd G; obtain ⟨t22, ht22, G⟩ := G
      refine k_rg mixed H (.cons [39] (ok_ldK (fun u20 => .func (.func 58) #[] #[vP b_q0_0 0, vP b_q1_0 0, vP b_q2_0 0, vP b_q3_0 0, vP b_q4_0 0, vP b_q5_0 0]) 39 70 (bxK b_q4_0 [.func (.func 58) #[] #[vP b_q0_0 0, vP b_q1_0 0, vP b_q2_0 0, vP b_q3_0 0, vP b_q4_0 0, vP b_q5_0 0]] 89) b_q4_0 0 1 [.func (.func 58) #[] #[vP b_q0_0 0, vP b_q1_0 0, vP b_q2_0 0, vP b_q3_0 0, vP b_q4_0 0, vP b_q5_0 0]] (fun w h => bx_of h)) <|
   .cons [40, 67] (ok_callX [73, 74, 66, 68, 69, 70, 71, 72, 999999] (fun u20 => [rdl fr 4 p_q0_0 c_q0_0 q0_0 en_TNode, rdl fr 2 p_q2_0 c_q2_0 q2_0 en_TInterval, bxK b_q0_0 [.slice p_q0_0 q0_0.length c_q0_0] 22, bxK b_q2_0 [.slice p_q2_0 q2_0.length c_q2_0] 24, bxK b_q3_0 [vI q3_0.Lo, vI q3_0.Hi] 38, bxK b_q4_0 [.func (.func 58) #[] #[vP b_q0_0 0, vP b_q1_0 0, vP b_q2_0 0, vP b_q3_0 0, vP b_q4_0 0, vP b_q5_0 0]] 89, bxK b_q5_0 [.map (some l_q5_0)] 87, obF l_q5_0 (.map #[⟨vI 7, .func (.func 82) #[] #[], 0⟩, ⟨vI 8, .func (.func 83) #[] #[], 1⟩, ⟨vI 9, .func (.func 84) #[] #[], 2⟩, ⟨vI 10, .func (.func 85) #[] #[], 3⟩] 4), gk]) 58 (fun u20 => #[vP b_q0_0 0, vP b_q1_0 0, vP b_q2_0 0, vP b_q3_0 0, vP b_q4_0 0, vP b_q5_0 0]) (fun g => .agg #[vI t21.1.Lo, vI t21.1.Hi]) [] fr 40 77 67 1 (fun u20 => b_q1_0) (fun u20 => [vI (w_i64 (q1_0 + 1))]) (fun g => [vI t21.2]) 3 (fun u20 w hb hF hN => IH q0_0 (w_i64 (q1_0 + 1)) q2_0 q3_0 p_q0_0 c_q0_0 p_q2_0 c_q2_0 b_q0_0 b_q1_0 b_q2_0 b_q3_0 b_q4_0 b_q5_0 l_q5_0 t21 w (glob_of hF.2.2.2.2.2.2.2.2.1) (rdF_of hF.1) (rdF_of hF.2.1) (hF.2.2.1 w (agree.refl _ _)) (hF.2.2.2.1 w (agree.refl _ _)) (hF.2.2.2.2.1 w (agree.refl _ _)) (hF.2.2.2.2.2.1 w (agree.refl _ _)) (hF.2.2.2.2.2.2.1 w (agree.refl _ _)) (obF_of hF.2.2.2.2.2.2.2.1) hb (hN _ (.tail _ (.tail _ (.tail _ (.tail _ (.tail _ (.tail _ (.tail _ (.tail _ (.head _)))))))))) (fun h => hN _ (.head _) h) (fun h => hN _ (.tail _ (.head _)) h) (hN _ (.tail _ (.tail _ (.head _)))) (hN _ (.tail _ (.tail _ (.tail _ (.head _))))) (hN _ (.tail _ (.tail _ (.tail _ (.tail _ (.head _)))))) (hN _ (.tail _ (.tail _ (.tail _ (.tail _ (.tail _ (.head _))))))) (hN _ (.tail _ (.tail _ (.tail _ (.tail _ (.tail _ (.tail _ (.head _)))))))) (hN _ (.tail _ (.tail _ (.tail _ (.tail _ (.tail _ (.tail _ (.tail _ (.head _))))))))) ht21) (fun u20 w hF => ins_as (ins' := []) ins_nil) hB) <|
   .cons [41] (ok_callv 60 (fun u20 => #[.agg #[vI t21.1.Lo, vI t21.1.Hi]]) (.agg #[vI t22.Lo, vI t22.Hi]) 41 [] (fun _ w _ => interval_Square.calls t21.1 t22 w ht22)) <|
   .cons [75] (ok_as (u' := fun u20 => [(75, .blk ((u1 0).n 0) [vI t22.Lo, vI t22.Hi] 38)]) (ok_store 75 0 (fun u20 => ((u1 0).n 0)) (fun u20 => [vI 0, vI 0]) (fun u20 => [vI t22.Lo, vI t22.Hi]) 38) (fun _ => by kernel_rfl)) <| .nil) fun u20 a w' H => ?_
      replace H := H.toM [(6, (sP ((u1 0).n 0) 0)), (67, .blk b_q1_0 [vI t21.2] 3), (75, .blk ((u1 0).n 0) [vI t22.Lo, vI t22.Hi] 38), (73, rdl fr 4 p_q0_0 c_q0_0 q0_0 en_TNode), (74, rdl fr 2 p_q2_0 c_q2_0 q2_0 en_TInterval), (66, bxK b_q0_0 [.slice p_q0_0 q0_0.length c_q0_0] 22), (68, bxK b_q2_0 [.slice p_q2_0 q2_0.length c_q2_0] 24), (69, bxK b_q3_0 [vI q3_0.Lo, vI q3_0.Hi] 38), (70, bxK b_q4_0 [.func (.func 58) #[] #[vP b_q0_0 0, vP b_q1_0 0, vP b_q2_0 0, vP b_q3_0 0, vP b_q4_0 0, vP b_q5_0 0]] 89), (71, bxK b_q5_0 [.map (some l_q5_0)] 87), (999999, gk), (72, obF l_q5_0 (.map #[⟨vI 7, .func (.func 82) #[] #[], 0⟩, ⟨vI 8, .func (.func 83) #[] #[], 1⟩, ⟨vI 9, .func (.func 84) #[] #[], 2⟩, ⟨vI 10, .func (.func 85) #[] #[], 3⟩] 4)), (999998, frK b_q1_0 w)]
      refine k_ret ?_
      obtain rfl := Option.some.inj G
      exact k_doneX H 67 [vI t21.2] 3 (fun g => .agg #[vI t22.Lo, vI t22.Hi]) (fun g => [vI t21.2]) default _ [] [(75, ⟨((u1 0).n 0), [vI t22.Lo, vI t22.Hi], 0, 2⟩)] (by kernel_rfl) (by kernel_rfl) (by kernel_rfl) rowsF_nil (by kernel_rfl) (by intro p hp; simp only [List.mem_cons, List.not_mem_nil, or_false] at hp; rcases hp with rfl; exact ⟨⟨38, by kernel_rfl⟩, by kernel_rfl⟩) (by kernel_rfl)
     ·rw [if_neg (nt c44)] at G
      refine k_seq ?_
      refine k_rg mixed H (.v 43 (.bool (t4.Op == 6)) <|
   .v 42 (.bool (t4.Op == 6)) <| .nil) fun u23 a w' H => ?_
      replace H := H.toM [(4, sP b_q4_0 0), (5, sP b_q5_0 0), (6, (sP ((u1 0).n 0) 0)), (7, (sP ((u2 4).n 0) 0)), (42, (sB (t4.Op == 6))), (67, .blk b_q1_0 [vI (w_i64 (q1_0 + 1))] 3), (75, .blk ((u1 0).n 0) [vI 0, vI 0] 38), (76, .blk ((u2 4).n 0) [vI t4.Op, vI t4.N, vI t4.C.Lo, vI t4.C.Hi] 53), (73, rdl fr 4 p_q0_0 c_q0_0 q0_0 en_TNode), (74, rdl fr 2 p_q2_0 c_q2_0 q2_0 en_TInterval), (66, bxK b_q0_0 [.slice p_q0_0 q0_0.length c_q0_0] 22), (68, bxK b_q2_0 [.slice p_q2_0 q2_0.length c_q2_0] 24), (69, bxK b_q3_0 [vI q3_0.Lo, vI q3_0.Hi] 38), (70, bxK b_q4_0 [.func (.func 58) #[] #[vP b_q0_0 0, vP b_q1_0 0, vP b_q2_0 0, vP b_q3_0 0, vP b_q4_0 0, vP b_q5_0 0]] 89), (71, bxK b_q5_0 [.map (some l_q5_0)] 87), (999999, gk), (72, obF l_q5_0 (.map #[⟨vI 7, .func (.func 82) #[] #[], 0⟩, ⟨vI 8, .func (.func 83) #[] #[], 1⟩, ⟨vI 9, .func (.func 84) #[] #[], 2⟩, ⟨vI 10, .func (.func 85) #[] #[], 3⟩] 4)), (999998, frK b_q1_0 w)]
      refine k_cond H (by kernel_rfl) (t := (t4.Op == 6)) (by kernel_rfl) (fun c43 => ?_) (fun c43 => ?_)
      ·rw [if_pos c43] at G
       refine k_seq ?_
       replace G := bnd G; obtain ⟨t25, ht25, G⟩ := G
       refine k_rg mixed H (.cons [44] (ok_ldK (fun u24 => .func (.func 58) #[] #[vP b_q0_0 0, vP b_q1_0 0, vP b_q2_0 0, vP b_q3_0 0, vP b_q4_0 0, vP b_q5_0 0]) 44 70 (bxK b_q4_0 [.func (.func 58) #[] #[vP b_q0_0 0, vP b_q1_0 0, vP b_q2_0 0, vP b_q3_0 0, vP b_q4_0 0, vP b_q5_0 0]] 89) b_q4_0 0 1 [.func (.func 58) #[] #[vP b_q0_0 0, vP b_q1_0 0, vP b_q2_0 0, vP b_q3_0 0, vP b_q4_0 0, vP b_q5_0 0]] (fun w h => bx_of h)) <|
   .cons [45, 67] (ok_callX [73, 74, 66, 68, 69, 70, 71, 72, 999999] (fun u24 => [rdl fr 4 p_q0_0 c_q0_0 q0_0 en_TNode, rdl fr 2 p_q2_0 c_q2_0 q2_0 en_TInterval, bxK b_q0_0 [.slice p_q0_0 q0_0.length c_q0_0] 22, bxK b_q2_0 [.slice p_q2_0 q2_0.length c_q2_0] 24, bxK b_q3_0 [vI q3_0.Lo, vI q3_0.Hi] 38, bxK b_q4_0 [.func (.func 58) #[] #[vP b_q0_0 0, vP b_q1_0 0, vP b_q2_0 0, vP b_q3_0 0, vP b_q4_0 0, vP b_q5_0 0]] 89, bxK b_q5_0 [.map (some l_q5_0)] 87, obF l_q5_0 (.map #[⟨vI 7, .func (.func 82) #[] #[], 0⟩, ⟨vI 8, .func (.func 83) #[] #[], 1⟩, ⟨vI 9, .func (.func 84) #[] #[], 2⟩, ⟨vI 10, .func (.func 85) #[] #[], 3⟩] 4), gk]) 58 (fun u24 => #[vP b_q0_0 0, vP b_q1_0 0, vP b_q2_0 0, vP b_q3_0 0, vP b_q4_0 0, vP b_q5_0 0]) (fun g => .agg #[vI t25.1.Lo, vI t25.1.Hi]) [] fr 45 77 67 1 (fun u24 => b_q1_0) (fun u24 => [vI (w_i64 (q1_0 + 1))]) (fun g => [vI t25.2]) 3 (fun u24 w hb hF hN => IH q0_0 (w_i64 (q1_0 + 1)) q2_0 q3_0 p_q0_0 c_q0_0 p_q2_0 c_q2_0 b_q0_0 b_q1_0 b_q2_0 b_q3_0 b_q4_0 b_q5_0 l_q5_0 t25 w (glob_of hF.2.2.2.2.2.2.2.2.1) (rdF_of hF.1) (rdF_of hF.2.1) (hF.2.2.1 w (agree.refl _ _)) (hF.2.2.2.1 w (agree.refl _ _)) (hF.2.2.2.2.1 w (agree.refl _ _)) (hF.2.2.2.2.2.1 w (agree.refl _ _)) (hF.2.2.2.2.2.2.1 w (agree.refl _ _)) (obF_of hF.2.2.2.2.2.2.2.1) hb (hN _ (.tail _ (.tail _ (.tail _ (.tail _ (.tail _ (.tail _ (.tail _ (.tail _ (.head _)))))))))) (fun h => hN _ (.head _) h) (fun h => hN _ (.tail _ (.head _)) h) (hN _ (.tail _ (.tail _ (.head _)))) (hN _ (.tail _ (.tail _ (.tail _ (.head _))))) (hN _ (.tail _ (.tail _ (.tail _ (.tail _ (.head _)))))) (hN _ (.tail _ (.tail _ (.tail _ (.tail _ (.tail _ (.head _))))))) (hN _ (.tail _ (.tail _ (.tail _ (.tail _ (.tail _ (.tail _ (.head _)))))))) (hN _ (.tail _ (.tail _ (.tail _ (.tail _ (.tail _ (.tail _ (.tail _ (.head _))))))))) ht25) (fun u24 w hF => ins_as (ins' := []) ins_nil) hB) <|
   .cons [8, 77] (ok_new (fun b => vP b 0) (fun u24 => [vI 0, vI 0]) 38 8 77) <|
   .cons [77] (ok_as (u' := fun u24 => [(77, .blk ((u24 2).n 0) [vI t25.1.Lo, vI t25.1.Hi] 38)]) (ok_store 77 0 (fun u24 => ((u24 2).n 0)) (fun u24 => [vI 0, vI 0]) (fun u24 => [vI t25.1.Lo, vI t25.1.Hi]) 38) (fun _ => by kernel_rfl)) <| .nil) fun u24 a w' H => ?_
       replace H := H.toM [(6, (sP ((u1 0).n 0) 0)), (8, (sP ((u24 2).n 0) 0)), (67, .blk b_q1_0 [vI t25.2] 3), (75, .blk ((u1 0).n 0) [vI 0, vI 0] 38), (77, .blk ((u24 2).n 0) [vI t25.1.Lo, vI t25.1.Hi] 38), (73, rdl fr 4 p_q0_0 c_q0_0 q0_0 en_TNode), (74, rdl fr 2 p_q2_0 c_q2_0 q2_0 en_TInterval), (66, bxK b_q0_0 [.slice p_q0_0 q0_0.length c_q0_0] 22), (68, bxK b_q2_0 [.slice p_q2_0 q2_0.length c_q2_0] 24), (69, bxK b_q3_0 [vI q3_0.Lo, vI q3_0.Hi] 38), (70, bxK b_q4_0 [.func (.func 58) #[] #[vP b_q0_0 0, vP b_q1_0 0, vP b_q2_0 0, vP b_q3_0 0, vP b_q4_0 0, vP b_q5_0 0]] 89), (71, bxK b_q5_0 [.map (some l_q5_0)] 87), (999999, gk), (72, obF l_q5_0 (.map #[⟨vI 7, .func (.func 82) #[] #[], 0⟩, ⟨vI 8, .func (.func 83) #[] #[], 1⟩, ⟨vI 9, .func (.func 84) #[] #[], 2⟩, ⟨vI 10, .func (.func 85) #[] #[], 3⟩] 4)), (999998, frK b_q1_0 w)]
       refine k_seq ?_
       refine k_seq ?_
       refine k_rg mixed H (.v 46 (vP ((u24 2).n 0) 0) <|
   .cons [47] (ok_ld (fun u26 => vI t25.1.Lo) 47 77 0 1 (fun u26 => ((u24 2).n 0)) (fun u26 => [vI t25.1.Lo, vI t25.1.Hi]) 38) <|
   .v 48 (.bool (decide (t25.1.Lo < 0))) <| .nil) fun u26 a w' H => ?_
       replace H := H.toM [(6, (sP ((u1 0).n 0) 0)), (8, (sP ((u24 2).n 0) 0)), (48, (sB (decide (t25.1.Lo < 0)))), (67, .blk b_q1_0 [vI t25.2] 3), (75, .blk ((u1 0).n 0) [vI 0, vI 0] 38), (77, .blk ((u24 2).n 0) [vI t25.1.Lo, vI t25.1.Hi] 38), (73, rdl fr 4 p_q0_0 c_q0_0 q0_0 en_TNode), (74, rdl fr 2 p_q2_0 c_q2_0 q2_0 en_TInterval), (66, bxK b_q0_0 [.slice p_q0_0 q0_0.length c_q0_0] 22), (68, bxK b_q2_0 [.slice p_q2_0 q2_0.length c_q2_0] 24), (69, bxK b_q3_0 [vI q3_0.Lo, vI q3_0.Hi] 38), (70, bxK b_q4_0 [.func (.func 58) #[] #[vP b_q0_0 0, vP b_q1_0 0, vP b_q2_0 0, vP b_q3_0 0, vP b_q4_0 0, vP b_q5_0 0]] 89), (71, bxK b_q5_0 [.map (some l_q5_0)] 87), (999999, gk), (72, obF l_q5_0 (.map #[⟨vI 7, .func (.func 82) #[] #[], 0⟩, ⟨vI 8, .func (.func 83) #[] #[], 1⟩, ⟨vI 9, .func (.func 84) #[] #[], 2⟩, ⟨vI 10, .func (.func 85) #[] #[], 3⟩] 4)), (999998, frK b_q1_0 w)]
       refine k_cond H (by kernel_rfl) (t := decide (t25.1.Lo < 0)) (by kernel_rfl) (fun c32 => ?_) (fun c32 => ?_)
       ·rw [if_pos c32] at G
        refine k_seq ?_
        replace G := bnd G; obtain ⟨t28, ht28, G⟩ := G
        refine k_rg mixed H (.cons [49] (ok_callv 61 (fun u27 => #[]) (.agg #[vI t28.Lo, vI t28.Hi]) 49 [] (fun _ w _ => interval_Entire.calls  t28 w ht28)) <|
   .cons [75] (ok_as (u' := fun u27 => [(75, .blk ((u1 0).n 0) [vI t28.Lo, vI t28.Hi] 38)]) (ok_store 75 0 (fun u27 => ((u1 0).n 0)) (fun u27 => [vI 0, vI 0]) (fun u27 => [vI t28.Lo, vI t28.Hi]) 38) (fun _ => by kernel_rfl)) <| .nil) fun u27 a w' H => ?_
        replace H := H.toM [(6, (sP ((u1 0).n 0) 0)), (67, .blk b_q1_0 [vI t25.2] 3), (75, .blk ((u1 0).n 0) [vI t28.Lo, vI t28.Hi] 38), (73, rdl fr 4 p_q0_0 c_q0_0 q0_0 en_TNode), (74, rdl fr 2 p_q2_0 c_q2_0 q2_0 en_TInterval), (66, bxK b_q0_0 [.slice p_q0_0 q0_0.length c_q0_0] 22), (68, bxK b_q2_0 [.slice p_q2_0 q2_0.length c_q2_0] 24), (69, bxK b_q3_0 [vI q3_0.Lo, vI q3_0.Hi] 38), (70, bxK b_q4_0 [.func (.func 58) #[] #[vP b_q0_0 0, vP b_q1_0 0, vP b_q2_0 0, vP b_q3_0 0, vP b_q4_0 0, vP b_q5_0 0]] 89), (71, bxK b_q5_0 [.map (some l_q5_0)] 87), (999999, gk), (72, obF l_q5_0 (.map #[⟨vI 7, .func (.func 82) #[] #[], 0⟩, ⟨vI 8, .func (.func 83) #[] #[], 1⟩, ⟨vI 9, .func (.func 84) #[] #[], 2⟩, ⟨vI 10, .func (.func 85) #[] #[], 3⟩] 4)), (999998, frK b_q1_0 w)]
        refine k_ret ?_
        obtain rfl := Option.some.inj G
        exact k_doneX H 67 [vI t25.2] 3 (fun g => .agg #[vI t28.Lo, vI t28.Hi]) (fun g => [vI t25.2]) default _ [] [(75, ⟨((u1 0).n 0), [vI t28.Lo, vI t28.Hi], 0, 2⟩)] (by kernel_rfl) (by kernel_rfl) (by kernel_rfl) rowsF_nil (by kernel_rfl) (by intro p hp; simp only [List.mem_cons, List.not_mem_nil, or_false] at hp; rcases hp with rfl; exact ⟨⟨38, by kernel_rfl⟩, by kernel_rfl⟩) (by kernel_rfl)
       ·rw [if_neg (nt c32)] at G
        refine k_skip ?_
        refine k_seq ?_
        replace G := bnd G; obtain ⟨t30, ht30, G⟩ := G
        refine k_rg mixed H (.cons [51] (ok_ld (fun u29 => .agg #[vI t25.1.Lo, vI t25.1.Hi]) 51 77 0 2 (fun u29 => ((u24 2).n 0)) (fun u29 => [vI t25.1.Lo, vI t25.1.Hi]) 38) <|
   .cons [52] (ok_callv 62 (fun u29 => #[.agg #[vI t25.1.Lo, vI t25.1.Hi]]) (.tuple #[.agg #[vI t30.1.Lo, vI t30.1.Hi], .bool t30.2]) 52 [] (fun _ w _ => interval_Sqrt.calls k0 (⟨t25.1.Lo, t25.1.Hi⟩ : TInterval) t30 w ht30)) <|
   .v 50 (.tuple #[.agg #[vI t30.1.Lo, vI t30.1.Hi], .bool t30.2]) <|
   .v 53 (.agg #[vI t30.1.Lo, vI t30.1.Hi]) <|
   .v 54 (.bool t30.2) <|
   .cons [77] (ok_as (u' := fun u29 => [(77, .blk ((u24 2).n 0) [vI t30.1.Lo, vI t30.1.Hi] 38)]) (ok_store 77 0 (fun u29 => ((u24 2).n 0)) (fun u29 => [vI t25.1.Lo, vI t25.1.Hi]) (fun u29 => [vI t30.1.Lo, vI t30.1.Hi]) 38) (fun _ => by kernel_rfl)) <| .nil) fun u29 a w' H => ?_
        replace H := H.toM [(6, (sP ((u1 0).n 0) 0)), (8, (sP ((u24 2).n 0) 0)), (67, .blk b_q1_0 [vI t25.2] 3), (75, .blk ((u1 0).n 0) [vI 0, vI 0] 38), (77, .blk ((u24 2).n 0) [vI t30.1.Lo, vI t30.1.Hi] 38), (73, rdl fr 4 p_q0_0 c_q0_0 q0_0 en_TNode), (74, rdl fr 2 p_q2_0 c_q2_0 q2_0 en_TInterval), (66, bxK b_q0_0 [.slice p_q0_0 q0_0.length c_q0_0] 22), (68, bxK b_q2_0 [.slice p_q2_0 q2_0.length c_q2_0] 24), (69, bxK b_q3_0 [vI q3_0.Lo, vI q3_0.Hi] 38), (70, bxK b_q4_0 [.func (.func 58) #[] #[vP b_q0_0 0, vP b_q1_0 0, vP b_q2_0 0, vP b_q3_0 0, vP b_q4_0 0, vP b_q5_0 0]] 89), (71, bxK b_q5_0 [.map (some l_q5_0)] 87), (999999, gk), (72, obF l_q5_0 (.map #[⟨vI 7, .func (.func 82) #[] #[], 0⟩, ⟨vI 8, .func (.func 83) #[] #[], 1⟩, ⟨vI 9, .func (.func 84) #[] #[], 2⟩, ⟨vI 10, .func (.func 85) #[] #[], 3⟩] 4)), (999998, frK b_q1_0 w)]
        refine k_seq ?_
        refine k_rg mixed H (.cons [55] (ok_ld (fun u31 => .agg #[vI t30.1.Lo, vI t30.1.Hi]) 55 77 0 2 (fun u31 => ((u24 2).n 0)) (fun u31 => [vI t30.1.Lo, vI t30.1.Hi]) 38) <|
   .cons [75] (ok_as (u' := fun u31 => [(75, .blk ((u1 0).n 0) [vI t30.1.Lo, vI t30.1.Hi] 38)]) (ok_store 75 0 (fun u31 => ((u1 0).n 0)) (fun u31 => [vI 0, vI 0]) (fun u31 => [vI t30.1.Lo, vI t30.1.Hi]) 38) (fun _ => by kernel_rfl)) <| .nil) fun u31 a w' H => ?_
        replace H := H.toM [(6, (sP ((u1 0).n 0) 0)), (67, .blk b_q1_0 [vI t25.2] 3), (75, .blk ((u1 0).n 0) [vI t30.1.Lo, vI t30.1.Hi] 38), (73, rdl fr 4 p_q0_0 c_q0_0 q0_0 en_TNode), (74, rdl fr 2 p_q2_0 c_q2_0 q2_0 en_TInterval), (66, bxK b_q0_0 [.slice p_q0_0 q0_0.length c_q0_0] 22), (68, bxK b_q2_0 [.slice p_q2_0 q2_0.length c_q2_0] 24), (69, bxK b_q3_0 [vI q3_0.Lo, vI q3_0.Hi] 38), (70, bxK b_q4_0 [.func (.func 58) #[] #[vP b_q0_0 0, vP b_q1_0 0, vP b_q2_0 0, vP b_q3_0 0, vP b_q4_0 0, vP b_q5_0 0]] 89), (71, bxK b_q5_0 [.map (some l_q5_0)] 87), (999999, gk), (72, obF l_q5_0 (.map #[⟨vI 7, .func (.func 82) #[] #[], 0⟩, ⟨vI 8, .func (.func 83) #[] #[], 1⟩, ⟨vI 9, .func (.func 84) #[] #[], 2⟩, ⟨vI 10, .func (.func 85) #[] #[], 3⟩] 4)), (999998, frK b_q1_0 w)]
        refine k_ret ?_
        obtain rfl := Option.some.inj G
        exact k_doneX H 67 [vI t25.2] 3 (fun g => .agg #[vI t30.1.Lo, vI t30.1.Hi]) (fun g => [vI t25.2]) default _ [] [(75, ⟨((u1 0).n 0), [vI t30.1.Lo, vI t30.1.Hi], 0, 2⟩)] (by kernel_rfl) (by kernel_rfl) (by kernel_rfl) rowsF_nil (by kernel_rfl) (by intro p hp; simp only [List.mem_cons, List.not_mem_nil, or_false] at hp; rcases hp with rfl; exact ⟨⟨38, by kernel_rfl⟩, by kernel_rfl⟩) (by kernel_rfl)
      ·rw [if_neg (nt c43)] at G
       refine k_skip ?_
       refine k_seq ?_
       replace G := bnd G; obtain ⟨t34, ht34, G⟩ := G
       refine k_rg mixed H (.cons [56] (ok_ldK (fun u33 => .func (.func 58) #[] #[vP b_q0_0 0, vP b_q1_0 0, vP b_q2_0 0, vP b_q3_0 0, vP b_q4_0 0, vP b_q5_0 0]) 56 70 (bxK b_q4_0 [.func (.func 58) #[] #[vP b_q0_0 0, vP b_q1_0 0, vP b_q2_0 0, vP b_q3_0 0, vP b_q4_0 0, vP b_q5_0 0]] 89) b_q4_0 0 1 [.func (.func 58) #[] #[vP b_q0_0 0, vP b_q1_0 0, vP b_q2_0 0, vP b_q3_0 0, vP b_q4_0 0, vP b_q5_0 0]] (fun w h => bx_of h)) <|
   .cons [57, 67] (ok_callX [73, 74, 66, 68, 69, 70, 71, 72, 999999] (fun u33 => [rdl fr 4 p_q0_0 c_q0_0 q0_0 en_TNode, rdl fr 2 p_q2_0 c_q2_0 q2_0 en_TInterval, bxK b_q0_0 [.slice p_q0_0 q0_0.length c_q0_0] 22, bxK b_q2_0 [.slice p_q2_0 q2_0.length c_q2_0] 24, bxK b_q3_0 [vI q3_0.Lo, vI q3_0.Hi] 38, bxK b_q4_0 [.func (.func 58) #[] #[vP b_q0_0 0, vP b_q1_0 0, vP b_q2_0 0, vP b_q3_0 0, vP b_q4_0 0, vP b_q5_0 0]] 89, bxK b_q5_0 [.map (some l_q5_0)] 87, obF l_q5_0 (.map #[⟨vI 7, .func (.func 82) #[] #[], 0⟩, ⟨vI 8, .func (.func 83) #[] #[], 1⟩, ⟨vI 9, .func (.func 84) #[] #[], 2⟩, ⟨vI 10, .func (.func 85) #[] #[], 3⟩] 4), gk]) 58 (fun u33 => #[vP b_q0_0 0, vP b_q1_0 0, vP b_q2_0 0, vP b_q3_0 0, vP b_q4_0 0, vP b_q5_0 0]) (fun g => .agg #[vI t34.1.Lo, vI t34.1.Hi]) [] fr 57 78 67 1 (fun u33 => b_q1_0) (fun u33 => [vI (w_i64 (q1_0 + 1))]) (fun g => [vI t34.2]) 3 (fun u33 w hb hF hN => IH q0_0 (w_i64 (q1_0 + 1)) q2_0 q3_0 p_q0_0 c_q0_0 p_q2_0 c_q2_0 b_q0_0 b_q1_0 b_q2_0 b_q3_0 b_q4_0 b_q5_0 l_q5_0 t34 w (glob_of hF.2.2.2.2.2.2.2.2.1) (rdF_of hF.1) (rdF_of hF.2.1) (hF.2.2.1 w (agree.refl _ _)) (hF.2.2.2.1 w (agree.refl _ _)) (hF.2.2.2.2.1 w (agree.refl _ _)) (hF.2.2.2.2.2.1 w (agree.refl _ _)) (hF.2.2.2.2.2.2.1 w (agree.refl _ _)) (obF_of hF.2.2.2.2.2.2.2.1) hb (hN _ (.tail _ (.tail _ (.tail _ (.tail _ (.tail _ (.tail _ (.tail _ (.tail _ (.head _)))))))))) (fun h => hN _ (.head _) h) (fun h => hN _ (.tail _ (.head _)) h) (hN _ (.tail _ (.tail _ (.head _)))) (hN _ (.tail _ (.tail _ (.tail _ (.head _))))) (hN _ (.tail _ (.tail _ (.tail _ (.tail _ (.head _)))))) (hN _ (.tail _ (.tail _ (.tail _ (.tail _ (.tail _ (.head _))))))) (hN _ (.tail _ (.tail _ (.tail _ (.tail _ (.tail _ (.tail _ (.head _)))))))) (hN _ (.tail _ (.tail _ (.tail _ (.tail _ (.tail _ (.tail _ (.tail _ (.head _))))))))) ht34) (fun u33 w hF => ins_as (ins' := []) ins_nil) hB) <|
   .cons [9, 78] (ok_new (fun b => vP b 0) (fun u33 => [vI 0, vI 0]) 38 9 78) <|
   .cons [78] (ok_as (u' := fun u33 => [(78, .blk ((u33 2).n 0) [vI t34.1.Lo, vI t34.1.Hi] 38)]) (ok_store 78 0 (fun u33 => ((u33 2).n 0)) (fun u33 => [vI 0, vI 0]) (fun u33 => [vI t34.1.Lo, vI t34.1.Hi]) 38) (fun _ => by kernel_rfl)) <| .nil) fun u33 a w' H => ?_
       replace H := H.toM [(4, sP b_q4_0 0), (5, sP b_q5_0 0), (6, (sP ((u1 0).n 0) 0)), (7, (sP ((u2 4).n 0) 0)), (9, (sP ((u33 2).n 0) 0)), (67, .blk b_q1_0 [vI t34.2] 3), (75, .blk ((u1 0).n 0) [vI 0, vI 0] 38), (76, .blk ((u2 4).n 0) [vI t4.Op, vI t4.N, vI t4.C.Lo, vI t4.C.Hi] 53), (78, .blk ((u33 2).n 0) [vI t34.1.Lo, vI t34.1.Hi] 38), (73, rdl fr 4 p_q0_0 c_q0_0 q0_0 en_TNode), (74, rdl fr 2 p_q2_0 c_q2_0 q2_0 en_TInterval), (66, bxK b_q0_0 [.slice p_q0_0 q0_0.length c_q0_0] 22), (68, bxK b_q2_0 [.slice p_q2_0 q2_0.length c_q2_0] 24), (69, bxK b_q3_0 [vI q3_0.Lo, vI q3_0.Hi] 38), (70, bxK b_q4_0 [.func (.func 58) #[] #[vP b_q0_0 0, vP b_q1_0 0, vP b_q2_0 0, vP b_q3_0 0, vP b_q4_0 0, vP b_q5_0 0]] 89), (71, bxK b_q5_0 [.map (some l_q5_0)] 87), (999999, gk), (72, obF l_q5_0 (.map #[⟨vI 7, .func (.func 82) #[] #[], 0⟩, ⟨vI 8, .func (.func 83) #[] #[], 1⟩, ⟨vI 9, .func (.func 84) #[] #[], 2⟩, ⟨vI 10, .func (.func 85) #[] #[], 3⟩] 4)), (999998, frK b_q1_0 w)]
       refine k_seq ?_
       replace G := bnd G; obtain ⟨z36, hz36, G⟩ := G
       replace hz36 := Option.some.inj hz36
       by_cases c39 : z36 = 7
       ·rw [if_pos c39] at G; subst c39
        replace G := bnd G; obtain ⟨t37, ht37, G⟩ := G
        replace G := bnd G; obtain ⟨t38, ht38, G⟩ := G
        refine k_rg mixed H (.cons [58] (ok_ldK (fun u35 => .map (some l_q5_0)) 58 71 (bxK b_q5_0 [.map (some l_q5_0)] 87) b_q5_0 0 1 [.map (some l_q5_0)] (fun w h => bx_of h)) <|
   .v 59 (vP ((u2 4).n 0) 0) <|
   .cons [60] (ok_ld (fun u35 => vI t4.Op) 60 76 0 1 (fun u35 => ((u2 4).n 0)) (fun u35 => [vI t4.Op, vI t4.N, vI t4.C.Lo, vI t4.C.Hi]) 53) <|
   .cons [61] (ok_valL [72] (fun u35 => [obF l_q5_0 (.map #[⟨vI 7, .func (.func 82) #[] #[], 0⟩, ⟨vI 8, .func (.func 83) #[] #[], 1⟩, ⟨vI 9, .func (.func 84) #[] #[], 2⟩, ⟨vI 10, .func (.func 85) #[] #[], 3⟩] 4)]) (fun u35 => .func (.func 82) #[] #[]) (fun u35 => true) [true, true] 61 (fun u35 w _ hF => run_of (by kernel_rfl) (run_lookup (t := 87) (k := 3) (e := 79) (l := l_q5_0) (n := t4.Op) (m := 7) (kd := .i64) (i := 0) rfl hz36 (obF_of hF.1) (by kernel_rfl) (by kernel_rfl) (by kernel_rfl)))) <|
   .cons [62] (ok_ld (fun u35 => .agg #[vI t34.1.Lo, vI t34.1.Hi]) 62 78 0 2 (fun u35 => ((u33 2).n 0)) (fun u35 => [vI t34.1.Lo, vI t34.1.Hi]) 38) <|
   .cons [63] (ok_ldK (fun u35 => .func (.func 58) #[] #[vP b_q0_0 0, vP b_q1_0 0, vP b_q2_0 0, vP b_q3_0 0, vP b_q4_0 0, vP b_q5_0 0]) 63 70 (bxK b_q4_0 [.func (.func 58) #[] #[vP b_q0_0 0, vP b_q1_0 0, vP b_q2_0 0, vP b_q3_0 0, vP b_q4_0 0, vP b_q5_0 0]] 89) b_q4_0 0 1 [.func (.func 58) #[] #[vP b_q0_0 0, vP b_q1_0 0, vP b_q2_0 0, vP b_q3_0 0, vP b_q4_0 0, vP b_q5_0 0]] (fun w h => bx_of h)) <|
   .cons [64, 67] (ok_callX [73, 74, 66, 68, 69, 70, 71, 72, 999999] (fun u35 => [rdl fr 4 p_q0_0 c_q0_0 q0_0 en_TNode, rdl fr 2 p_q2_0 c_q2_0 q2_0 en_TInterval, bxK b_q0_0 [.slice p_q0_0 q0_0.length c_q0_0] 22, bxK b_q2_0 [.slice p_q2_0 q2_0.length c_q2_0] 24, bxK b_q3_0 [vI q3_0.Lo, vI q3_0.Hi] 38, bxK b_q4_0 [.func (.func 58) #[] #[vP b_q0_0 0, vP b_q1_0 0, vP b_q2_0 0, vP b_q3_0 0, vP b_q4_0 0, vP b_q5_0 0]] 89, bxK b_q5_0 [.map (some l_q5_0)] 87, obF l_q5_0 (.map #[⟨vI 7, .func (.func 82) #[] #[], 0⟩, ⟨vI 8, .func (.func 83) #[] #[], 1⟩, ⟨vI 9, .func (.func 84) #[] #[], 2⟩, ⟨vI 10, .func (.func 85) #[] #[], 3⟩] 4), gk]) 58 (fun u35 => #[vP b_q0_0 0, vP b_q1_0 0, vP b_q2_0 0, vP b_q3_0 0, vP b_q4_0 0, vP b_q5_0 0]) (fun g => .agg #[vI t37.1.Lo, vI t37.1.Hi]) [] fr 64 79 67 1 (fun u35 => b_q1_0) (fun u35 => [vI t34.2]) (fun g => [vI t37.2]) 3 (fun u35 w hb hF hN => IH q0_0 t34.2 q2_0 q3_0 p_q0_0 c_q0_0 p_q2_0 c_q2_0 b_q0_0 b_q1_0 b_q2_0 b_q3_0 b_q4_0 b_q5_0 l_q5_0 t37 w (glob_of hF.2.2.2.2.2.2.2.2.1) (rdF_of hF.1) (rdF_of hF.2.1) (hF.2.2.1 w (agree.refl _ _)) (hF.2.2.2.1 w (agree.refl _ _)) (hF.2.2.2.2.1 w (agree.refl _ _)) (hF.2.2.2.2.2.1 w (agree.refl _ _)) (hF.2.2.2.2.2.2.1 w (agree.refl _ _)) (obF_of hF.2.2.2.2.2.2.2.1) hb (hN _ (.tail _ (.tail _ (.tail _ (.tail _ (.tail _ (.tail _ (.tail _ (.tail _ (.head _)))))))))) (fun h => hN _ (.head _) h) (fun h => hN _ (.tail _ (.head _)) h) (hN _ (.tail _ (.tail _ (.head _)))) (hN _ (.tail _ (.tail _ (.tail _ (.head _))))) (hN _ (.tail _ (.tail _ (.tail _ (.tail _ (.head _)))))) (hN _ (.tail _ (.tail _ (.tail _ (.tail _ (.tail _ (.head _))))))) (hN _ (.tail _ (.tail _ (.tail _ (.tail _ (.tail _ (.tail _ (.head _)))))))) (hN _ (.tail _ (.tail _ (.tail _ (.tail _ (.tail _ (.tail _ (.tail _ (.head _))))))))) ht37) (fun u35 w hF => ins_as (ins' := []) ins_nil) hB) <|
   .cons [65] (ok_callv 82 (fun u35 => #[.agg #[vI t34.1.Lo, vI t34.1.Hi], .agg #[vI t37.1.Lo, vI t37.1.Hi]]) (.agg #[vI t38.Lo, vI t38.Hi]) 65 [] (fun _ w _ => interval_Add.calls (⟨t34.1.Lo, t34.1.Hi⟩ : TInterval) t37.1 t38 w ht38)) <|
   .cons [75] (ok_as (u' := fun u35 => [(75, .blk ((u1 0).n 0) [vI t38.Lo, vI t38.Hi] 38)]) (ok_store 75 0 (fun u35 => ((u1 0).n 0)) (fun u35 => [vI 0, vI 0]) (fun u35 => [vI t38.Lo, vI t38.Hi]) 38) (fun _ => by kernel_rfl)) <| .nil) fun u35 a w' H => ?_
        replace H := H.toM [(6, (sP ((u1 0).n 0) 0)), (67, .blk b_q1_0 [vI t37.2] 3), (75, .blk ((u1 0).n 0) [vI t38.Lo, vI t38.Hi] 38), (73, rdl fr 4 p_q0_0 c_q0_0 q0_0 en_TNode), (74, rdl fr 2 p_q2_0 c_q2_0 q2_0 en_TInterval), (66, bxK b_q0_0 [.slice p_q0_0 q0_0.length c_q0_0] 22), (68, bxK b_q2_0 [.slice p_q2_0 q2_0.length c_q2_0] 24), (69, bxK b_q3_0 [vI q3_0.Lo, vI q3_0.Hi] 38), (70, bxK b_q4_0 [.func (.func 58) #[] #[vP b_q0_0 0, vP b_q1_0 0, vP b_q2_0 0, vP b_q3_0 0, vP b_q4_0 0, vP b_q5_0 0]] 89), (71, bxK b_q5_0 [.map (some l_q5_0)] 87), (999999, gk), (72, obF l_q5_0 (.map #[⟨vI 7, .func (.func 82) #[] #[], 0⟩, ⟨vI 8, .func (.func 83) #[] #[], 1⟩, ⟨vI 9, .func (.func 84) #[] #[], 2⟩, ⟨vI 10, .func (.func 85) #[] #[], 3⟩] 4)), (999998, frK b_q1_0 w)]
        refine k_ret ?_
        obtain rfl := Option.some.inj G
        exact k_doneX H 67 [vI t37.2] 3 (fun g => .agg #[vI t38.Lo, vI t38.Hi]) (fun g => [vI t37.2]) default _ [] [(75, ⟨((u1 0).n 0), [vI t38.Lo, vI t38.Hi], 0, 2⟩)] (by kernel_rfl) (by kernel_rfl) (by kernel_rfl) rowsF_nil (by kernel_rfl) (by intro p hp; simp only [List.mem_cons, List.not_mem_nil, or_false] at hp; rcases hp with rfl; exact ⟨⟨38, by kernel_rfl⟩, by kernel_rfl⟩) (by kernel_rfl)
       rw [if_neg c39] at G
       by_cases c40 : z36 = 8
       ·rw [if_pos c40] at G; subst c40
        replace G := bnd G; obtain ⟨t37, ht37, G⟩ := G
        replace G := bnd G; obtain ⟨t38, ht38, G⟩ := G
        refine k_rg mixed H (.cons [58] (ok_ldK (fun u35 => .map (some l_q5_0)) 58 71 (bxK b_q5_0 [.map (some l_q5_0)] 87) b_q5_0 0 1 [.map (some l_q5_0)] (fun w h => bx_of h)) <|
   .v 59 (vP ((u2 4).n 0) 0) <|
   .cons [60] (ok_ld (fun u35 => vI t4.Op) 60 76 0 1 (fun u35 => ((u2 4).n 0)) (fun u35 => [vI t4.Op, vI t4.N, vI t4.C.Lo, vI t4.C.Hi]) 53) <|
   .cons [61] (ok_valL [72] (fun u35 => [obF l_q5_0 (.map #[⟨vI 7, .func (.func 82) #[] #[], 0⟩, ⟨vI 8, .func (.func 83) #[] #[], 1⟩, ⟨vI 9, .func (.func 84) #[] #[], 2⟩, ⟨vI 10, .func (.func 85) #[] #[], 3⟩] 4)]) (fun u35 => .func (.func 83) #[] #[]) (fun u35 => true) [true, true] 61 (fun u35 w _ hF => run_of (by kernel_rfl) (run_lookup (t := 87) (k := 3) (e := 79) (l := l_q5_0) (n := t4.Op) (m := 8) (kd := .i64) (i := 1) rfl hz36 (obF_of hF.1) (by kernel_rfl) (by kernel_rfl) (by kernel_rfl)))) <|
   .cons [62] (ok_ld (fun u35 => .agg #[vI t34.1.Lo, vI t34.1.Hi]) 62 78 0 2 (fun u35 => ((u33 2).n 0)) (fun u35 => [vI t34.1.Lo, vI t34.1.Hi]) 38) <|
   .cons [63] (ok_ldK (fun u35 => .func (.func 58) #[] #[vP b_q0_0 0, vP b_q1_0 0, vP b_q2_0 0, vP b_q3_0 0, vP b_q4_0 0, vP b_q5_0 0]) 63 70 (bxK b_q4_0 [.func (.func 58) #[] #[vP b_q0_0 0, vP b_q1_0 0, vP b_q2_0 0, vP b_q3_0 0, vP b_q4_0 0, vP b_q5_0 0]] 89) b_q4_0 0 1 [.func (.func 58) #[] #[vP b_q0_0 0, vP b_q1_0 0, vP b_q2_0 0, vP b_q3_0 0, vP b_q4_0 0, vP b_q5_0 0]] (fun w h => bx_of h)) <|
   .cons [64, 67] (ok_callX [73, 74, 66, 68, 69, 70, 71, 72, 999999] (fun u35 => [rdl fr 4 p_q0_0 c_q0_0 q0_0 en_TNode, rdl fr 2 p_q2_0 c_q2_0 q2_0 en_TInterval, bxK b_q0_0 [.slice p_q0_0 q0_0.length c_q0_0] 22, bxK b_q2_0 [.slice p_q2_0 q2_0.length c_q2_0] 24, bxK b_q3_0 [vI q3_0.Lo, vI q3_0.Hi] 38, bxK b_q4_0 [.func (.func 58) #[] #[vP b_q0_0 0, vP b_q1_0 0, vP b_q2_0 0, vP b_q3_0 0, vP b_q4_0 0, vP b_q5_0 0]] 89, bxK b_q5_0 [.map (some l_q5_0)] 87, obF l_q5_0 (.map #[⟨vI 7, .func (.func 82) #[] #[], 0⟩, ⟨vI 8, .func (.func 83) #[] #[], 1⟩, ⟨vI 9, .func (.func 84) #[] #[], 2⟩, ⟨vI 10, .func (.func 85) #[] #[], 3⟩] 4), gk]) 58 (fun u35 => #[vP b_q0_0 0, vP b_q1_0 0, vP b_q2_0 0, vP b_q3_0 0, vP b_q4_0 0, vP b_q5_0 0]) (fun g => .agg #[vI t37.1.Lo, vI t37.1.Hi]) [] fr 64 79 67 1 (fun u35 => b_q1_0) (fun u35 => [vI t34.2]) (fun g => [vI t37.2]) 3 (fun u35 w hb hF hN => IH q0_0 t34.2 q2_0 q3_0 p_q0_0 c_q0_0 p_q2_0 c_q2_0 b_q0_0 b_q1_0 b_q2_0 b_q3_0 b_q4_0 b_q5_0 l_q5_0 t37 w (glob_of hF.2.2.2.2.2.2.2.2.1) (rdF_of hF.1) (rdF_of hF.2.1) (hF.2.2.1 w (agree.refl _ _)) (hF.2.2.2.1 w (agree.refl _ _)) (hF.2.2.2.2.1 w (agree.refl _ _)) (hF.2.2.2.2.2.1 w (agree.refl _ _)) (hF.2.2.2.2.2.2.1 w (agree.refl _ _)) (obF_of hF.2.2.2.2.2.2.2.1) hb (hN _ (.tail _ (.tail _ (.tail _ (.tail _ (.tail _ (.tail _ (.tail _ (.tail _ (.head _)))))))))) (fun h => hN _ (.head _) h) (fun h => hN _ (.tail _ (.head _)) h) (hN _ (.tail _ (.tail _ (.head _)))) (hN _ (.tail _ (.tail _ (.tail _ (.head _))))) (hN _ (.tail _ (.tail _ (.tail _ (.tail _ (.head _)))))) (hN _ (.tail _ (.tail _ (.tail _ (.tail _ (.tail _ (.head _))))))) (hN _ (.tail _ (.tail _ (.tail _ (.tail _ (.tail _ (.tail _ (.head _)))))))) (hN _ (.tail _ (.tail _ (.tail _ (.tail _ (.tail _ (.tail _ (.tail _ (.head _))))))))) ht37) (fun u35 w hF => ins_as (ins' := []) ins_nil) hB) <|
   .cons [65] (ok_callv 83 (fun u35 => #[.agg #[vI t34.1.Lo, vI t34.1.Hi], .agg #[vI t37.1.Lo, vI t37.1.Hi]]) (.agg #[vI t38.Lo, vI t38.Hi]) 65 [] (fun _ w _ => interval_Sub.calls (⟨t34.1.Lo, t34.1.Hi⟩ : TInterval) t37.1 t38 w ht38)) <|
   .cons [75] (ok_as (u' := fun u35 => [(75, .blk ((u1 0).n 0) [vI t38.Lo, vI t38.Hi] 38)]) (ok_store 75 0 (fun u35 => ((u1 0).n 0)) (fun u35 => [vI 0, vI 0]) (fun u35 => [vI t38.Lo, vI t38.Hi]) 38) (fun _ => by kernel_rfl)) <| .nil) fun u35 a w' H => ?_
        replace H := H.toM [(6, (sP ((u1 0).n 0) 0)), (67, .blk b_q1_0 [vI t37.2] 3), (75, .blk ((u1 0).n 0) [vI t38.Lo, vI t38.Hi] 38), (73, rdl fr 4 p_q0_0 c_q0_0 q0_0 en_TNode), (74, rdl fr 2 p_q2_0 c_q2_0 q2_0 en_TInterval), (66, bxK b_q0_0 [.slice p_q0_0 q0_0.length c_q0_0] 22), (68, bxK b_q2_0 [.slice p_q2_0 q2_0.length c_q2_0] 24), (69, bxK b_q3_0 [vI q3_0.Lo, vI q3_0.Hi] 38), (70, bxK b_q4_0 [.func (.func 58) #[] #[vP b_q0_0 0, vP b_q1_0 0, vP b_q2_0 0, vP b_q3_0 0, vP b_q4_0 0, vP b_q5_0 0]] 89), (71, bxK b_q5_0 [.map (some l_q5_0)] 87), (999999, gk), (72, obF l_q5_0 (.map #[⟨vI 7, .func (.func 82) #[] #[], 0⟩, ⟨vI 8, .func (.func 83) #[] #[], 1⟩, ⟨vI 9, .func (.func 84) #[] #[], 2⟩, ⟨vI 10, .func (.func 85) #[] #[], 3⟩] 4)), (999998, frK b_q1_0 w)]
        refine k_ret ?_
        obtain rfl := Option.some.inj G
        exact k_doneX H 67 [vI t37.2] 3 (fun g => .agg #[vI t38.Lo, vI t38.Hi]) (fun g => [vI t37.2]) default _ [] [(75, ⟨((u1 0).n 0), [vI t38.Lo, vI t38.Hi], 0, 2⟩)] (by kernel_rfl) (by kernel_rfl) (by kernel_rfl) rowsF_nil (by kernel_rfl) (by intro p hp; simp only [List.mem_cons, List.not_mem_nil, or_false] at hp; rcases hp with rfl; exact ⟨⟨38, by kernel_rfl⟩, by kernel_rfl⟩) (by kernel_rfl)
       rw [if_neg c40] at G
       by_cases c41 : z36 = 9
       ·rw [if_pos c41] at G; subst c41
        replace G := bnd G; obtain ⟨t37, ht37, G⟩ := G
        replace G := bnd G; obtain ⟨t38, ht38, G⟩ := G
        refine k_rg mixed H (.cons [58] (ok_ldK (fun u35 => .map (some l_q5_0)) 58 71 (bxK b_q5_0 [.map (some l_q5_0)] 87) b_q5_0 0 1 [.map (some l_q5_0)] (fun w h => bx_of h)) <|
   .v 59 (vP ((u2 4).n 0) 0) <|
   .cons [60] (ok_ld (fun u35 => vI t4.Op) 60 76 0 1 (fun u35 => ((u2 4).n 0)) (fun u35 => [vI t4.Op, vI t4.N, vI t4.C.Lo, vI t4.C.Hi]) 53) <|
   .cons [61] (ok_valL [72] (fun u35 => [obF l_q5_0 (.map #[⟨vI 7, .func (.func 82) #[] #[], 0⟩, ⟨vI 8, .func (.func 83) #[] #[], 1⟩, ⟨vI 9, .func (.func 84) #[] #[], 2⟩, ⟨vI 10, .func (.func 85) #[] #[], 3⟩] 4)]) (fun u35 => .func (.func 84) #[] #[]) (fun u35 => true) [true, true] 61 (fun u35 w _ hF => run_of (by kernel_rfl) (run_lookup (t := 87) (k := 3) (e := 79) (l := l_q5_0) (n := t4.Op) (m := 9) (kd := .i64) (i := 2) rfl hz36 (obF_of hF.1) (by kernel_rfl) (by kernel_rfl) (by kernel_rfl)))) <|
   .cons [62] (ok_ld (fun u35 => .agg #[vI t34.1.Lo, vI t34.1.Hi]) 62 78 0 2 (fun u35 => ((u33 2).n 0)) (fun u35 => [vI t34.1.Lo, vI t34.1.Hi]) 38) <|
   .cons [63] (ok_ldK (fun u35 => .func (.func 58) #[] #[vP b_q0_0 0, vP b_q1_0 0, vP b_q2_0 0, vP b_q3_0 0, vP b_q4_0 0, vP b_q5_0 0]) 63 70 (bxK b_q4_0 [.func (.func 58) #[] #[vP b_q0_0 0, vP b_q1_0 0, vP b_q2_0 0, vP b_q3_0 0, vP b_q4_0 0, vP b_q5_0 0]] 89) b_q4_0 0 1 [.func (.func 58) #[] #[vP b_q0_0 0, vP b_q1_0 0, vP b_q2_0 0, vP b_q3_0 0, vP b_q4_0 0, vP b_q5_0 0]] (fun w h => bx_of h)) <|
   .cons [64, 67] (ok_callX [73, 74, 66, 68, 69, 70, 71, 72, 999999] (fun u35 => [rdl fr 4 p_q0_0 c_q0_0 q0_0 en_TNode, rdl fr 2 p_q2_0 c_q2_0 q2_0 en_TInterval, bxK b_q0_0 [.slice p_q0_0 q0_0.length c_q0_0] 22, bxK b_q2_0 [.slice p_q2_0 q2_0.length c_q2_0] 24, bxK b_q3_0 [vI q3_0.Lo, vI q3_0.Hi] 38, bxK b_q4_0 [.func (.func 58) #[] #[vP b_q0_0 0, vP b_q1_0 0, vP b_q2_0 0, vP b_q3_0 0, vP b_q4_0 0, vP b_q5_0 0]] 89, bxK b_q5_0 [.map (some l_q5_0)] 87, obF l_q5_0 (.map #[⟨vI 7, .func (.func 82) #[] #[], 0⟩, ⟨vI 8, .func (.func 83) #[] #[], 1⟩, ⟨vI 9, .func (.func 84) #[] #[], 2⟩, ⟨vI 10, .func (.func 85) #[] #[], 3⟩] 4), gk]) 58 (fun u35 => #[vP b_q0_0 0, vP b_q1_0 0, vP b_q2_0 0, vP b_q3_0 0, vP b_q4_0 0, vP b_q5_0 0]) (fun g => .agg #[vI t37.1.Lo, vI t37.1.Hi]) [] fr 64 79 67 1 (fun u35 => b_q1_0) (fun u35 => [vI t34.2]) (fun g => [vI t37.2]) 3 (fun u35 w hb hF hN => IH q0_0 t34.2 q2_0 q3_0 p_q0_0 c_q0_0 p_q2_0 c_q2_0 b_q0_0 b_q1_0 b_q2_0 b_q3_0 b_q4_0 b_q5_0 l_q5_0 t37 w (glob_of hF.2.2.2.2.2.2.2.2.1) (rdF_of hF.1) (rdF_of hF.2.1) (hF.2.2.1 w (agree.refl _ _)) (hF.2.2.2.1 w (agree.refl _ _)) (hF.2.2.2.2.1 w (agree.refl _ _)) (hF.2.2.2.2.2.1 w (agree.refl _ _)) (hF.2.2.2.2.2.2.1 w (agree.refl _ _)) (obF_of hF.2.2.2.2.2.2.2.1) hb (hN _ (.tail _ (.tail _ (.tail _ (.tail _ (.tail _ (.tail _ (.tail _ (.tail _ (.head _)))))))))) (fun h => hN _ (.head _) h) (fun h => hN _ (.tail _ (.head _)) h) (hN _ (.tail _ (.tail _ (.head _)))) (hN _ (.tail _ (.tail _ (.tail _ (.head _))))) (hN _ (.tail _ (.tail _ (.tail _ (.tail _ (.head _)))))) (hN _ (.tail _ (.tail _ (.tail _ (.tail _ (.tail _ (.head _))))))) (hN _ (.tail _ (.tail _ (.tail _ (.tail _ (.tail _ (.tail _ (.head _)))))))) (hN _ (.tail _ (.tail _ (.tail _ (.tail _ (.tail _ (.tail _ (.tail _ (.head _))))))))) ht37) (fun u35 w hF => ins_as (ins' := []) ins_nil) hB) <|
   .cons [65] (ok_callvG 999999 gk 84 (fun u35 => #[.agg #[vI t34.1.Lo, vI t34.1.Hi], .agg #[vI t37.1.Lo, vI t37.1.Hi]]) (.agg #[vI t38.Lo, vI t38.Hi]) 65 (fun _ w hg => interval_Mul.calls (⟨t34.1.Lo, t34.1.Hi⟩ : TInterval) t37.1 t38 w (glob_of hg) ht38)) <|
   .cons [75] (ok_as (u' := fun u35 => [(75, .blk ((u1 0).n 0) [vI t38.Lo, vI t38.Hi] 38)]) (ok_store 75 0 (fun u35 => ((u1 0).n 0)) (fun u35 => [vI 0, vI 0]) (fun u35 => [vI t38.Lo, vI t38.Hi]) 38) (fun _ => by kernel_rfl)) <| .nil) fun u35 a w' H => ?_
        replace H := H.toM [(6, (sP ((u1 0).n 0) 0)), (67, .blk b_q1_0 [vI t37.2] 3), (75, .blk ((u1 0).n 0) [vI t38.Lo, vI t38.Hi] 38), (73, rdl fr 4 p_q0_0 c_q0_0 q0_0 en_TNode), (74, rdl fr 2 p_q2_0 c_q2_0 q2_0 en_TInterval), (66, bxK b_q0_0 [.slice p_q0_0 q0_0.length c_q0_0] 22), (68, bxK b_q2_0 [.slice p_q2_0 q2_0.length c_q2_0] 24), (69, bxK b_q3_0 [vI q3_0.Lo, vI q3_0.Hi] 38), (70, bxK b_q4_0 [.func (.func 58) #[] #[vP b_q0_0 0, vP b_q1_0 0, vP b_q2_0 0, vP b_q3_0 0, vP b_q4_0 0, vP b_q5_0 0]] 89), (71, bxK b_q5_0 [.map (some l_q5_0)] 87), (999999, gk), (72, obF l_q5_0 (.map #[⟨vI 7, .func (.func 82) #[] #[], 0⟩, ⟨vI 8, .func (.func 83) #[] #[], 1⟩, ⟨vI 9, .func (.func 84) #[] #[], 2⟩, ⟨vI 10, .func (.func 85) #[] #[], 3⟩] 4)), (999998, frK b_q1_0 w)]
        refine k_ret ?_
        obtain rfl := Option.some.inj G
        exact k_doneX H 67 [vI t37.2] 3 (fun g => .agg #[vI t38.Lo, vI t38.Hi]) (fun g => [vI t37.2]) default _ [] [(75, ⟨((u1 0).n 0), [vI t38.Lo, vI t38.Hi], 0, 2⟩)] (by kernel_rfl) (by kernel_rfl) (by kernel_rfl) rowsF_nil (by kernel_rfl) (by intro p hp; simp only [List.mem_cons, List.not_mem_nil, or_false] at hp; rcases hp with rfl; exact ⟨⟨38, by kernel_rfl⟩, by kernel_rfl⟩) (by kernel_rfl)
       rw [if_neg c41] at G
       by_cases c42 : z36 = 10
       ·rw [if_pos c42] at G; subst c42
        replace G := bnd G; obtain ⟨t37, ht37, G⟩ := G
        replace G := bnd G; obtain ⟨t38, ht38, G⟩ := G
        refine k_rg mixed H (.cons [58] (ok_ldK (fun u35 => .map (some l_q5_0)) 58 71 (bxK b_q5_0 [.map (some l_q5_0)] 87) b_q5_0 0 1 [.map (some l_q5_0)] (fun w h => bx_of h)) <|
   .v 59 (vP ((u2 4).n 0) 0) <|
   .cons [60] (ok_ld (fun u35 => vI t4.Op) 60 76 0 1 (fun u35 => ((u2 4).n 0)) (fun u35 => [vI t4.Op, vI t4.N, vI t4.C.Lo, vI t4.C.Hi]) 53) <|
   .cons [61] (ok_valL [72] (fun u35 => [obF l_q5_0 (.map #[⟨vI 7, .func (.func 82) #[] #[], 0⟩, ⟨vI 8, .func (.func 83) #[] #[], 1⟩, ⟨vI 9, .func (.func 84) #[] #[], 2⟩, ⟨vI 10, .func (.func 85) #[] #[], 3⟩] 4)]) (fun u35 => .func (.func 85) #[] #[]) (fun u35 => true) [true, true] 61 (fun u35 w _ hF => run_of (by kernel_rfl) (run_lookup (t := 87) (k := 3) (e := 79) (l := l_q5_0) (n := t4.Op) (m := 10) (kd := .i64) (i := 3) rfl hz36 (obF_of hF.1) (by kernel_rfl) (by kernel_rfl) (by kernel_rfl)))) <|
   .cons [62] (ok_ld (fun u35 => .agg #[vI t34.1.Lo, vI t34.1.Hi]) 62 78 0 2 (fun u35 => ((u33 2).n 0)) (fun u35 => [vI t34.1.Lo, vI t34.1.Hi]) 38) <|
   .cons [63] (ok_ldK (fun u35 => .func (.func 58) #[] #[vP b_q0_0 0, vP b_q1_0 0, vP b_q2_0 0, vP b_q3_0 0, vP b_q4_0 0, vP b_q5_0 0]) 63 70 (bxK b_q4_0 [.func (.func 58) #[] #[vP b_q0_0 0, vP b_q1_0 0, vP b_q2_0 0, vP b_q3_0 0, vP b_q4_0 0, vP b_q5_0 0]] 89) b_q4_0 0 1 [.func (.func 58) #[] #[vP b_q0_0 0, vP b_q1_0 0, vP b_q2_0 0, vP b_q3_0 0, vP b_q4_0 0, vP b_q5_0 0]] (fun w h => bx_of h)) <|
   .cons [64, 67] (ok_callX [73, 74, 66, 68, 69, 70, 71, 72, 999999] (fun u35 => [rdl fr 4 p_q0_0 c_q0_0 q0_0 en_TNode, rdl fr 2 p_q2_0 c_q2_0 q2_0 en_TInterval, bxK b_q0_0 [.slice p_q0_0 q0_0.length c_q0_0] 22, bxK b_q2_0 [.slice p_q2_0 q2_0.length c_q2_0] 24, bxK b_q3_0 [vI q3_0.Lo, vI q3_0.Hi] 38, bxK b_q4_0 [.func (.func 58) #[] #[vP b_q0_0 0, vP b_q1_0 0, vP b_q2_0 0, vP b_q3_0 0, vP b_q4_0 0, vP b_q5_0 0]] 89, bxK b_q5_0 [.map (some l_q5_0)] 87, obF l_q5_0 (.map #[⟨vI 7, .func (.func 82) #[] #[], 0⟩, ⟨vI 8, .func (.func 83) #[] #[], 1⟩, ⟨vI 9, .func (.func 84) #[] #[], 2⟩, ⟨vI 10, .func (.func 85) #[] #[], 3⟩] 4), gk]) 58 (fun u35 => #[vP b_q0_0 0, vP b_q1_0 0, vP b_q2_0 0, vP b_q3_0 0, vP b_q4_0 0, vP b_q5_0 0]) (fun g => .agg #[vI t37.1.Lo, vI t37.1.Hi]) [] fr 64 79 67 1 (fun u35 => b_q1_0) (fun u35 => [vI t34.2]) (fun g => [vI t37.2]) 3 (fun u35 w hb hF hN => IH q0_0 t34.2 q2_0 q3_0 p_q0_0 c_q0_0 p_q2_0 c_q2_0 b_q0_0 b_q1_0 b_q2_0 b_q3_0 b_q4_0 b_q5_0 l_q5_0 t37 w (glob_of hF.2.2.2.2.2.2.2.2.1) (rdF_of hF.1) (rdF_of hF.2.1) (hF.2.2.1 w (agree.refl _ _)) (hF.2.2.2.1 w (agree.refl _ _)) (hF.2.2.2.2.1 w (agree.refl _ _)) (hF.2.2.2.2.2.1 w (agree.refl _ _)) (hF.2.2.2.2.2.2.1 w (agree.refl _ _)) (obF_of hF.2.2.2.2.2.2.2.1) hb (hN _ (.tail _ (.tail _ (.tail _ (.tail _ (.tail _ (.tail _ (.tail _ (.tail _ (.head _)))))))))) (fun h => hN _ (.head _) h) (fun h => hN _ (.tail _ (.head _)) h) (hN _ (.tail _ (.tail _ (.head _)))) (hN _ (.tail _ (.tail _ (.tail _ (.head _))))) (hN _ (.tail _ (.tail _ (.tail _ (.tail _ (.head _)))))) (hN _ (.tail _ (.tail _ (.tail _ (.tail _ (.tail _ (.head _))))))) (hN _ (.tail _ (.tail _ (.tail _ (.tail _ (.tail _ (.tail _ (.head _)))))))) (hN _ (.tail _ (.tail _ (.tail _ (.tail _ (.tail _ (.tail _ (.tail _ (.head _))))))))) ht37) (fun u35 w hF => ins_as (ins' := []) ins_nil) hB) <|
   .cons [65] (ok_callvG 999999 gk 85 (fun u35 => #[.agg #[vI t34.1.Lo, vI t34.1.Hi], .agg #[vI t37.1.Lo, vI t37.1.Hi]]) (.agg #[vI t38.Lo, vI t38.Hi]) 65 (fun _ w hg => interval_Div.calls (⟨t34.1.Lo, t34.1.Hi⟩ : TInterval) t37.1 t38 w (glob_of hg) ht38)) <|
   .cons [75] (ok_as (u' := fun u35 => [(75, .blk ((u1 0).n 0) [vI t38.Lo, vI t38.Hi] 38)]) (ok_store 75 0 (fun u35 => ((u1 0).n 0)) (fun u35 => [vI 0, vI 0]) (fun u35 => [vI t38.Lo, vI t38.Hi]) 38) (fun _ => by kernel_rfl)) <| .nil) fun u35 a w' H => ?_
        replace H := H.toM [(6, (sP ((u1 0).n 0) 0)), (67, .blk b_q1_0 [vI t37.2] 3), (75, .blk ((u1 0).n 0) [vI t38.Lo, vI t38.Hi] 38), (73, rdl fr 4 p_q0_0 c_q0_0 q0_0 en_TNode), (74, rdl fr 2 p_q2_0 c_q2_0 q2_0 en_TInterval), (66, bxK b_q0_0 [.slice p_q0_0 q0_0.length c_q0_0] 22), (68, bxK b_q2_0 [.slice p_q2_0 q2_0.length c_q2_0] 24), (69, bxK b_q3_0 [vI q3_0.Lo, vI q3_0.Hi] 38), (70, bxK b_q4_0 [.func (.func 58) #[] #[vP b_q0_0 0, vP b_q1_0 0, vP b_q2_0 0, vP b_q3_0 0, vP b_q4_0 0, vP b_q5_0 0]] 89), (71, bxK b_q5_0 [.map (some l_q5_0)] 87), (999999, gk), (72, obF l_q5_0 (.map #[⟨vI 7, .func (.func 82) #[] #[], 0⟩, ⟨vI 8, .func (.func 83) #[] #[], 1⟩, ⟨vI 9, .func (.func 84) #[] #[], 2⟩, ⟨vI 10, .func (.func 85) #[] #[], 3⟩] 4)), (999998, frK b_q1_0 w)]
        refine k_ret ?_
        obtain rfl := Option.some.inj G
        exact k_doneX H 67 [vI t37.2] 3 (fun g => .agg #[vI t38.Lo, vI t38.Hi]) (fun g => [vI t37.2]) default _ [] [(75, ⟨((u1 0).n 0), [vI t38.Lo, vI t38.Hi], 0, 2⟩)] (by kernel_rfl) (by kernel_rfl) (by kernel_rfl) rowsF_nil (by kernel_rfl) (by intro p hp; simp only [List.mem_cons, List.not_mem_nil, or_false] at hp; rcases hp with rfl; exact ⟨⟨38, by kernel_rfl⟩, by kernel_rfl⟩) (by kernel_rfl)
       rw [if_neg c42] at G
       cases G

set_option maxHeartbeats 4000000 in
theorem ode_Eval.calls (k0 : Nat) (a0 : List TNode) (a1 : List TInterval) (a2 : TInterval) (p_a0 : Option Addr) (c_a0 : Nat) (p_a1 : Option Addr) (c_a1 : Nat) (r : TInterval) (w : World) (hg : Glob w) (R_p_a0 : RowC w 4 p_a0 a0.length c_a0 (a0.flatMap en_TNode)) (R_p_a1 : RowC w 2 p_a1 a1.length c_a1 (a1.flatMap en_TInterval)) (G : ode_Eval k0 a0 a1 a2 = some r) :
  Calls Tryd.prog 33 #[.slice p_a0 a0.length c_a0, .slice p_a1 a1.length c_a1, .agg #[vI a2.Lo, vI a2.Hi]] w fun e w' => e = .returned (.agg #[vI r.Lo, vI r.Hi]) ∧ Below w.heap.size w w' := by
 obtain ⟨fr, hfr⟩ : ∃ fr : Nat → Prop, ∀ j, fr j := ⟨fun _ => True, fun _ => trivial⟩
 have hB : ∀ j, w.heap.size ≤ j → fr j := fun j _ => hfr j
 have hin_p_a0 : ∀ j, fpRow p_a0 a0.length j → fr j := fun j _ => hfr j
 have hin_p_a1 : ∀ j, fpRow p_a1 a1.length j → fr j := fun j _ => hfr j
 refine k_enterF (args := [.slice p_a0 a0.length c_a0, .slice p_a1 a1.length c_a1, .agg #[vI a2.Lo, vI a2.Hi]]) 14 [(14, rdl fr 4 p_a0 c_a0 a0 en_TNode), (15, rdl fr 2 p_a1 c_a1 a1 en_TInterval), (999999, gk)] (by
  intro x hx
  simp only [List.mem_cons, List.not_mem_nil, or_false] at hx
  rcases hx with rfl | rfl | rfl
  ·exact rdF_fact R_p_a0 hin_p_a0 (by decide) _
  ·exact rdF_fact R_p_a1 hin_p_a1 (by decide) _
  ·exact ⟨⟨_, _, rfl⟩, glob_local hg, glob_in hg⟩) Tryd.func33 rfl (by kernel_rfl) (by kernel_rfl) fun a H => ?_
 unfold ode_Eval at G
 refine k_seq ?_
 refine k_rg mixed H (.cons [3, 16] (ok_new (fun b => vP b 0) (fun u1 => [.slice p_a0 a0.length c_a0]) 22 3 16) <|
   .cons [4, 17] (ok_new (fun b => vP b 0) (fun u1 => [.slice p_a1 a1.length c_a1]) 24 4 17) <|
   .cons [5, 18] (ok_new (fun b => vP b 0) (fun u1 => [vI a2.Lo, vI a2.Hi]) 38 5 18) <|
   .cons [6, 19] (ok_new (fun b => vP b 0) (fun u1 => [vI 0, vI 0]) 38 6 19) <| .nil) fun u1 a w' H => ?_
 replace H := H.toM [(3, (sP ((u1 0).n 0) 0)), (4, (sP ((u1 1).n 0) 0)), (5, (sP ((u1 2).n 0) 0)), (6, (sP ((u1 3).n 0) 0)), (16, .blk ((u1 0).n 0) [.slice p_a0 a0.length c_a0] 22), (17, .blk ((u1 1).n 0) [.slice p_a1 a1.length c_a1] 24), (18, .blk ((u1 2).n 0) [vI a2.Lo, vI a2.Hi] 38), (19, .blk ((u1 3).n 0) [vI 0, vI 0] 38), (14, rdl fr 4 p_a0 c_a0 a0 en_TNode), (15, rdl fr 2 p_a1 c_a1 a1 en_TInterval), (999999, gk)]
 refine k_seq ?_
 refine k_rg mixed H (.cons [10, 20] (ok_callOb 57 (fun u2 => #[]) (.map #[⟨vI 7, .func (.func 82) #[] #[], 0⟩, ⟨vI 8, .func (.func 83) #[] #[], 1⟩, ⟨vI 9, .func (.func 84) #[] #[], 2⟩, ⟨vI 10, .func (.func 85) #[] #[], 3⟩] 4) 10 20 (fun u2 w => ode_binaryOps.calls w)) <|
   .cons [7, 21] (ok_new (fun b => vP b 0) (fun u2 => [vI 0]) 3 7 21) <|
   .cons [8, 22] (ok_new (fun b => vP b 0) (fun u2 => [.map none]) 87 8 22) <|
   .cons [21] (ok_as (u' := fun u2 => [(21, .blk ((u2 1).n 0) [vI 0] 3)]) (ok_store 21 0 (fun u2 => ((u2 1).n 0)) (fun u2 => [vI 0]) (fun u2 => [vI 0]) 3) (fun _ => by kernel_rfl)) <|
   .cons [22] (ok_as (u' := fun u2 => [(22, .blk ((u2 2).n 0) [.map (some ((u2 0).n 0))] 87)]) (ok_store 22 0 (fun u2 => ((u2 2).n 0)) (fun u2 => [.map none]) (fun u2 => [.map (some ((u2 0).n 0))]) 87) (fun _ => by kernel_rfl)) <| .nil) fun u2 a w' H => ?_
 replace H := H.toM [(3, (sP ((u1 0).n 0) 0)), (4, (sP ((u1 1).n 0) 0)), (5, (sP ((u1 2).n 0) 0)), (6, (sP ((u1 3).n 0) 0)), (7, (sP ((u2 1).n 0) 0)), (8, (sP ((u2 2).n 0) 0)), (16, .blk ((u1 0).n 0) [.slice p_a0 a0.length c_a0] 22), (17, .blk ((u1 1).n 0) [.slice p_a1 a1.length c_a1] 24), (18, .blk ((u1 2).n 0) [vI a2.Lo, vI a2.Hi] 38), (19, .blk ((u1 3).n 0) [vI 0, vI 0] 38), (21, .blk ((u2 1).n 0) [vI 0] 3), (22, .blk ((u2 2).n 0) [.map (some ((u2 0).n 0))] 87), (14, rdl fr 4 p_a0 c_a0 a0 en_TNode), (15, rdl fr 2 p_a1 c_a1 a1 en_TInterval), (999999, gk), (20, obF ((u2 0).n 0) (.map #[⟨vI 7, .func (.func 82) #[] #[], 0⟩, ⟨vI 8, .func (.func 83) #[] #[], 1⟩, ⟨vI 9, .func (.func 84) #[] #[], 2⟩, ⟨vI 10, .func (.func 85) #[] #[], 3⟩] 4))]
 refine k_seq ?_
 refine k_rg mixed H (.cons [9, 23] (ok_new (fun b => vP b 0) (fun u3 => [.nilFunc]) 89 9 23) <| .nil) fun u3 a w' H => ?_
 replace H := H.toM [(3, (sP ((u1 0).n 0) 0)), (4, (sP ((u1 1).n 0) 0)), (5, (sP ((u1 2).n 0) 0)), (6, (sP ((u1 3).n 0) 0)), (7, (sP ((u2 1).n 0) 0)), (8, (sP ((u2 2).n 0) 0)), (9, (sP ((u3 0).n 0) 0)), (16, .blk ((u1 0).n 0) [.slice p_a0 a0.length c_a0] 22), (17, .blk ((u1 1).n 0) [.slice p_a1 a1.length c_a1] 24), (18, .blk ((u1 2).n 0) [vI a2.Lo, vI a2.Hi] 38), (19, .blk ((u1 3).n 0) [vI 0, vI 0] 38), (21, .blk ((u2 1).n 0) [vI 0] 3), (22, .blk ((u2 2).n 0) [.map (some ((u2 0).n 0))] 87), (23, .blk ((u3 0).n 0) [.nilFunc] 89), (14, rdl fr 4 p_a0 c_a0 a0 en_TNode), (15, rdl fr 2 p_a1 c_a1 a1 en_TInterval), (999999, gk), (20, obF ((u2 0).n 0) (.map #[⟨vI 7, .func (.func 82) #[] #[], 0⟩, ⟨vI 8, .func (.func 83) #[] #[], 1⟩, ⟨vI 9, .func (.func 84) #[] #[], 2⟩, ⟨vI 10, .func (.func 85) #[] #[], 3⟩] 4))]
 refine k_seq ?_
 refine k_rg mixed H (.v 11 (.func (.func 58) #[] #[vP ((u1 0).n 0) 0, vP ((u2 1).n 0) 0, vP ((u1 1).n 0) 0, vP ((u1 2).n 0) 0, vP ((u3 0).n 0) 0, vP ((u2 2).n 0) 0]) <|
   .cons [23] (ok_as (u' := fun u4 => [(23, .blk ((u3 0).n 0) [.func (.func 58) #[] #[vP ((u1 0).n 0) 0, vP ((u2 1).n 0) 0, vP ((u1 1).n 0) 0, vP ((u1 2).n 0) 0, vP ((u3 0).n 0) 0, vP ((u2 2).n 0) 0]] 89)]) (ok_store 23 0 (fun u4 => ((u3 0).n 0)) (fun u4 => [.nilFunc]) (fun u4 => [.func (.func 58) #[] #[vP ((u1 0).n 0) 0, vP ((u2 1).n 0) 0, vP ((u1 1).n 0) 0, vP ((u1 2).n 0) 0, vP ((u3 0).n 0) 0, vP ((u2 2).n 0) 0]]) 89) (fun _ => by kernel_rfl)) <| .nil) fun u4 a w' H => ?_
 replace H := H.toM [(6, (sP ((u1 3).n 0) 0)), (9, (sP ((u3 0).n 0) 0)), (16, .blk ((u1 0).n 0) [.slice p_a0 a0.length c_a0] 22), (17, .blk ((u1 1).n 0) [.slice p_a1 a1.length c_a1] 24), (18, .blk ((u1 2).n 0) [vI a2.Lo, vI a2.Hi] 38), (19, .blk ((u1 3).n 0) [vI 0, vI 0] 38), (21, .blk ((u2 1).n 0) [vI 0] 3), (22, .blk ((u2 2).n 0) [.map (some ((u2 0).n 0))] 87), (23, .blk ((u3 0).n 0) [.func (.func 58) #[] #[vP ((u1 0).n 0) 0, vP ((u2 1).n 0) 0, vP ((u1 1).n 0) 0, vP ((u1 2).n 0) 0, vP ((u3 0).n 0) 0, vP ((u2 2).n 0) 0]] 89), (14, rdl fr 4 p_a0 c_a0 a0 en_TNode), (15, rdl fr 2 p_a1 c_a1 a1 en_TInterval), (999999, gk), (20, obF ((u2 0).n 0) (.map #[⟨vI 7, .func (.func 82) #[] #[], 0⟩, ⟨vI 8, .func (.func 83) #[] #[], 1⟩, ⟨vI 9, .func (.func 84) #[] #[], 2⟩, ⟨vI 10, .func (.func 85) #[] #[], 3⟩] 4))]
 refine k_seq ?_
 replace G := bnd G; obtain ⟨t6, ht6, G⟩ := G
 refine k_rg mixed H (.cons [12] (ok_ld (fun u5 => .func (.func 58) #[] #[vP ((u1 0).n 0) 0, vP ((u2 1).n 0) 0, vP ((u1 1).n 0) 0, vP ((u1 2).n 0) 0, vP ((u3 0).n 0) 0, vP ((u2 2).n 0) 0]) 12 23 0 1 (fun u5 => ((u3 0).n 0)) (fun u5 => [.func (.func 58) #[] #[vP ((u1 0).n 0) 0, vP ((u2 1).n 0) 0, vP ((u1 1).n 0) 0, vP ((u1 2).n 0) 0, vP ((u3 0).n 0) 0, vP ((u2 2).n 0) 0]]) 89) <|
   .cons [13, 21] (ok_callX [14, 15, 16, 17, 18, 23, 22, 20, 999999] (fun u5 => [rdl fr 4 p_a0 c_a0 a0 en_TNode, rdl fr 2 p_a1 c_a1 a1 en_TInterval, .blk ((u1 0).n 0) [.slice p_a0 a0.length c_a0] 22, .blk ((u1 1).n 0) [.slice p_a1 a1.length c_a1] 24, .blk ((u1 2).n 0) [vI a2.Lo, vI a2.Hi] 38, .blk ((u3 0).n 0) [.func (.func 58) #[] #[vP ((u1 0).n 0) 0, vP ((u2 1).n 0) 0, vP ((u1 1).n 0) 0, vP ((u1 2).n 0) 0, vP ((u3 0).n 0) 0, vP ((u2 2).n 0) 0]] 89, .blk ((u2 2).n 0) [.map (some ((u2 0).n 0))] 87, obF ((u2 0).n 0) (.map #[⟨vI 7, .func (.func 82) #[] #[], 0⟩, ⟨vI 8, .func (.func 83) #[] #[], 1⟩, ⟨vI 9, .func (.func 84) #[] #[], 2⟩, ⟨vI 10, .func (.func 85) #[] #[], 3⟩] 4), gk]) 58 (fun u5 => #[vP ((u1 0).n 0) 0, vP ((u2 1).n 0) 0, vP ((u1 1).n 0) 0, vP ((u1 2).n 0) 0, vP ((u3 0).n 0) 0, vP ((u2 2).n 0) 0]) (fun g => .agg #[vI t6.1.Lo, vI t6.1.Hi]) [] fr 13 24 21 1 (fun u5 => ((u2 1).n 0)) (fun u5 => [vI 0]) (fun g => [vI t6.2]) 3 (fun u5 w hb hF hN => ode_Eval_1.calls k0 a0 0 a1 a2 p_a0 c_a0 p_a1 c_a1 ((u1 0).n 0) ((u2 1).n 0) ((u1 1).n 0) ((u1 2).n 0) ((u3 0).n 0) ((u2 2).n 0) ((u2 0).n 0) t6 w (glob_of hF.2.2.2.2.2.2.2.2.1) (rdF_of hF.1) (rdF_of hF.2.1) hF.2.2.1 hF.2.2.2.1 hF.2.2.2.2.1 hF.2.2.2.2.2.1 hF.2.2.2.2.2.2.1 (obF_of hF.2.2.2.2.2.2.2.1) hb (hN _ (.tail _ (.tail _ (.tail _ (.tail _ (.tail _ (.tail _ (.tail _ (.tail _ (.head _)))))))))) (fun h => hN _ (.head _) h) (fun h => hN _ (.tail _ (.head _)) h) (hN _ (.tail _ (.tail _ (.head _)))) (hN _ (.tail _ (.tail _ (.tail _ (.head _))))) (hN _ (.tail _ (.tail _ (.tail _ (.tail _ (.head _)))))) (hN _ (.tail _ (.tail _ (.tail _ (.tail _ (.tail _ (.head _))))))) (hN _ (.tail _ (.tail _ (.tail _ (.tail _ (.tail _ (.tail _ (.head _)))))))) (hN _ (.tail _ (.tail _ (.tail _ (.tail _ (.tail _ (.tail _ (.tail _ (.head _))))))))) ht6) (fun u5 w hF => ins_as (ins' := []) ins_nil) hB) <|
   .cons [19] (ok_as (u' := fun u5 => [(19, .blk ((u1 3).n 0) [vI t6.1.Lo, vI t6.1.Hi] 38)]) (ok_store 19 0 (fun u5 => ((u1 3).n 0)) (fun u5 => [vI 0, vI 0]) (fun u5 => [vI t6.1.Lo, vI t6.1.Hi]) 38) (fun _ => by kernel_rfl)) <| .nil) fun u5 a w' H => ?_
 replace H := H.toM [(6, (sP ((u1 3).n 0) 0)), (19, .blk ((u1 3).n 0) [vI t6.1.Lo, vI t6.1.Hi] 38), (999999, gk), (20, obF ((u2 0).n 0) (.map #[⟨vI 7, .func (.func 82) #[] #[], 0⟩, ⟨vI 8, .func (.func 83) #[] #[], 1⟩, ⟨vI 9, .func (.func 84) #[] #[], 2⟩, ⟨vI 10, .func (.func 85) #[] #[], 3⟩] 4))]
 refine k_ret ?_
 obtain rfl := Option.some.inj G
 exact k_done1 H _ 19 ((u1 3).n 0) [vI t6.1.Lo, vI t6.1.Hi] 38 0 2 (by kernel_rfl) (by kernel_rfl) (by kernel_rfl) (by kernel_rfl)

set_option maxHeartbeats 4000000 in
theorem guard_Eval.calls (k0 : Nat) (a0 : TGuard) (a1 : List TInterval) (a2 : TInterval) (p_a0_F : Option Addr) (c_a0_F : Nat) (p_a1 : Option Addr) (c_a1 : Nat) (r : TInterval) (w : World) (hg : Glob w) (R_p_a0_F : RowC w 4 p_a0_F a0.F.length c_a0_F (a0.F.flatMap en_TNode)) (R_p_a1 : RowC w 2 p_a1 a1.length c_a1 (a1.flatMap en_TInterval)) (G : guard_Eval k0 a0 a1 a2 = some r) :
  Calls Tryd.prog 12 #[.agg #[.slice p_a0_F a0.F.length c_a0_F, vI a0.Dir], .slice p_a1 a1.length c_a1, .agg #[vI a2.Lo, vI a2.Hi]] w fun e w' => e = .returned (.agg #[vI r.Lo, vI r.Hi]) ∧ Below w.heap.size w w' := by
 obtain ⟨fr, hfr⟩ : ∃ fr : Nat → Prop, ∀ j, fr j := ⟨fun _ => True, fun _ => trivial⟩
 have hB : ∀ j, w.heap.size ≤ j → fr j := fun j _ => hfr j
 have hin_p_a0_F : ∀ j, fpRow p_a0_F a0.F.length j → fr j := fun j _ => hfr j
 have hin_p_a1 : ∀ j, fpRow p_a1 a1.length j → fr j := fun j _ => hfr j
 refine k_enterF (args := [.agg #[.slice p_a0_F a0.F.length c_a0_F, vI a0.Dir], .slice p_a1 a1.length c_a1, .agg #[vI a2.Lo, vI a2.Hi]]) 12 [(12, rdl fr 4 p_a0_F c_a0_F a0.F en_TNode), (13, rdl fr 2 p_a1 c_a1 a1 en_TInterval), (999999, gk)] (by
  intro x hx
  simp only [List.mem_cons, List.not_mem_nil, or_false] at hx
  rcases hx with rfl | rfl | rfl
  ·exact rdF_fact R_p_a0_F hin_p_a0_F (by decide) _
  ·exact rdF_fact R_p_a1 hin_p_a1 (by decide) _
  ·exact ⟨⟨_, _, rfl⟩, glob_local hg, glob_in hg⟩) Tryd.func12 rfl (by kernel_rfl) (by kernel_rfl) fun a H => ?_
 unfold guard_Eval at G
 refine k_seq ?_
 refine k_rg mixed H (.cons [3, 14] (ok_new (fun b => vP b 0) (fun u1 => [.slice p_a0_F a0.F.length c_a0_F, vI a0.Dir]) 31 3 14) <|
   .cons [5, 15] (ok_new (fun b => vP b 0) (fun u1 => [vI a2.Lo, vI a2.Hi]) 38 5 15) <|
   .cons [6, 16] (ok_new (fun b => vP b 0) (fun u1 => [vI 0, vI 0]) 38 6 16) <| .nil) fun u1 a w' H => ?_
 replace H := H.toM [(1, sS p_a1 a1.length c_a1), (3, (sP ((u1 0).n 0) 0)), (5, (sP ((u1 1).n 0) 0)), (6, (sP ((u1 2).n 0) 0)), (14, .blk ((u1 0).n 0) [.slice p_a0_F a0.F.length c_a0_F, vI a0.Dir] 31), (15, .blk ((u1 1).n 0) [vI a2.Lo, vI a2.Hi] 38), (16, .blk ((u1 2).n 0) [vI 0, vI 0] 38), (12, rdl fr 4 p_a0_F c_a0_F a0.F en_TNode), (13, rdl fr 2 p_a1 c_a1 a1 en_TInterval), (999999, gk)]
 refine k_seq ?_
 replace G := bnd G; obtain ⟨t3, ht3, G⟩ := G
 refine k_rg mixed H (.v 7 (vP ((u1 0).n 0) 0) <|
   .cons [8] (ok_ld (fun u2 => .slice p_a0_F a0.F.length c_a0_F) 8 14 0 1 (fun u2 => ((u1 0).n 0)) (fun u2 => [.slice p_a0_F a0.F.length c_a0_F, vI a0.Dir]) 31) <|
   .v 9 (.slice p_a1 a1.length c_a1) <|
   .cons [10] (ok_ld (fun u2 => .agg #[vI a2.Lo, vI a2.Hi]) 10 15 0 2 (fun u2 => ((u1 1).n 0)) (fun u2 => [vI a2.Lo, vI a2.Hi]) 38) <|
   .cons [11] (ok_callL [12, 13, 999999] (fun u2 => [rdl fr 4 p_a0_F c_a0_F a0.F en_TNode, rdl fr 2 p_a1 c_a1 a1 en_TInterval, gk]) 33 (fun u2 => #[.slice p_a0_F a0.F.length c_a0_F, .slice p_a1 a1.length c_a1, .agg #[vI a2.Lo, vI a2.Hi]]) (.agg #[vI t3.Lo, vI t3.Hi]) 11 (fun u2 w hF => ode_Eval.calls k0 a0.F a1 a2 p_a0_F c_a0_F p_a1 c_a1 t3 w (glob_of hF.2.2.1) (rdF_of hF.1) (rdF_of hF.2.1) ht3)) <|
   .cons [16] (ok_as (u' := fun u2 => [(16, .blk ((u1 2).n 0) [vI t3.Lo, vI t3.Hi] 38)]) (ok_store 16 0 (fun u2 => ((u1 2).n 0)) (fun u2 => [vI 0, vI 0]) (fun u2 => [vI t3.Lo, vI t3.Hi]) 38) (fun _ => by kernel_rfl)) <| .nil) fun u2 a w' H => ?_
 replace H := H.toM [(6, (sP ((u1 2).n 0) 0)), (16, .blk ((u1 2).n 0) [vI t3.Lo, vI t3.Hi] 38), (999999, gk)]
 refine k_ret ?_
 obtain rfl := Option.some.inj G
 exact k_done1 H _ 16 ((u1 2).n 0) [vI t3.Lo, vI t3.Hi] 38 0 2 (by kernel_rfl) (by kernel_rfl) (by kernel_rfl) (by kernel_rfl)

set_option maxHeartbeats 4000000 in
theorem interval_Sign.calls (a0 : TInterval) (r : Int) (w : World) (G : interval_Sign a0 = some r) :
  Calls Tryd.prog 35 #[.agg #[vI a0.Lo, vI a0.Hi]] w fun e w' => e = .returned (vI r) ∧ Below w.heap.size w w' := by
 refine k_enter (args := [.agg #[vI a0.Lo, vI a0.Hi]]) 11 Tryd.func35 rfl (by kernel_rfl) (by kernel_rfl) fun a H => ?_
 unfold interval_Sign at G
 refine k_seq ?_
 refine k_rg mixed H (.cons [1, 11] (ok_new (fun b => vP b 0) (fun u1 => [vI a0.Lo, vI a0.Hi]) 38 1 11) <|
   .v 2 (vI 0) <| .nil) fun u1 a w' H => ?_
 replace H := H.toM [(1, (sP ((u1 0).n 0) 0)), (11, .blk ((u1 0).n 0) [vI a0.Lo, vI a0.Hi] 38)]
 refine k_seq ?_
 replace G := bnd G; obtain ⟨t3, ht3, G⟩ := G
 replace G := bnd G; obtain ⟨t4, ht4, G⟩ := G
 refine k_rg mixed H (.v 3 (vP ((u1 0).n 0) 0) <|
   .cons [4] (ok_ld (fun u2 => vI a0.Lo) 4 11 0 1 (fun u2 => ((u1 0).n 0)) (fun u2 => [vI a0.Lo, vI a0.Hi]) 38) <|
   .v 5 (.bool (decide (a0.Lo > 0))) <|
   .v 6 (vP ((u1 0).n 0) 1) <|
   .cons [7] (ok_ld (fun u2 => vI a0.Hi) 7 11 1 1 (fun u2 => ((u1 0).n 0)) (fun u2 => [vI a0.Lo, vI a0.Hi]) 38) <|
   .v 8 (.bool (decide (a0.Hi < 0))) <|
   .cons [9] (ok_callv 72 (fun u2 => #[.bool (decide (a0.Hi < 0)), vI (-1), vI 0]) (vI t3) 9 [] (fun _ w _ => interval_pick_int.calls (decide (a0.Hi < 0)) (-1) 0 t3 w ht3)) <|
   .cons [10] (ok_callv 72 (fun u2 => #[.bool (decide (a0.Lo > 0)), vI 1, vI t3]) (vI t4) 10 [] (fun _ w _ => interval_pick_int.calls (decide (a0.Lo > 0)) 1 t3 t4 w ht4)) <|
   .v 2 (vI t4) <| .nil) fun u2 a w' H => ?_
 replace H := H.toM [(2, sI t4)]
 refine k_ret ?_
 obtain rfl := Option.some.inj G
 exact k_done0 H _ (by kernel_rfl) (by kernel_rfl)

set_option maxHeartbeats 4000000 in
theorem guard_Side.calls (k0 : Nat) (a0 : TGuard) (a1 : List TInterval) (a2 : TInterval) (p_a0_F : Option Addr) (c_a0_F : Nat) (p_a1 : Option Addr) (c_a1 : Nat) (r : Int) (w : World) (hg : Glob w) (R_p_a0_F : RowC w 4 p_a0_F a0.F.length c_a0_F (a0.F.flatMap en_TNode)) (R_p_a1 : RowC w 2 p_a1 a1.length c_a1 (a1.flatMap en_TInterval)) (G : guard_Side k0 a0 a1 a2 = some r) :
  Calls Tryd.prog 14 #[.agg #[.slice p_a0_F a0.F.length c_a0_F, vI a0.Dir], .slice p_a1 a1.length c_a1, .agg #[vI a2.Lo, vI a2.Hi]] w fun e w' => e = .returned (vI r) ∧ Below w.heap.size w w' := by
 obtain ⟨fr, hfr⟩ : ∃ fr : Nat → Prop, ∀ j, fr j := ⟨fun _ => True, fun _ => trivial⟩
 have hB : ∀ j, w.heap.size ≤ j → fr j := fun j _ => hfr j
 have hin_p_a0_F : ∀ j, fpRow p_a0_F a0.F.length j → fr j := fun j _ => hfr j
 have hin_p_a1 : ∀ j, fpRow p_a1 a1.length j → fr j := fun j _ => hfr j
 refine k_enterF (args := [.agg #[.slice p_a0_F a0.F.length c_a0_F, vI a0.Dir], .slice p_a1 a1.length c_a1, .agg #[vI a2.Lo, vI a2.Hi]]) 12 [(12, rdl fr 4 p_a0_F c_a0_F a0.F en_TNode), (13, rdl fr 2 p_a1 c_a1 a1 en_TInterval), (999999, gk)] (by
  intro x hx
  simp only [List.mem_cons, List.not_mem_nil, or_false] at hx
  rcases hx with rfl | rfl | rfl
  ·exact rdF_fact R_p_a0_F hin_p_a0_F (by decide) _
  ·exact rdF_fact R_p_a1 hin_p_a1 (by decide) _
  ·exact ⟨⟨_, _, rfl⟩, glob_local hg, glob_in hg⟩) Tryd.func14 rfl (by kernel_rfl) (by kernel_rfl) fun a H => ?_
 unfold guard_Side at G
 refine k_seq ?_
 refine k_rg mixed H (.cons [3, 14] (ok_new (fun b => vP b 0) (fun u1 => [.slice p_a0_F a0.F.length c_a0_F, vI a0.Dir]) 31 3 14) <|
   .cons [5, 15] (ok_new (fun b => vP b 0) (fun u1 => [vI a2.Lo, vI a2.Hi]) 38 5 15) <|
   .v 6 (vI 0) <| .nil) fun u1 a w' H => ?_
 replace H := H.toM [(1, sS p_a1 a1.length c_a1), (3, (sP ((u1 0).n 0) 0)), (5, (sP ((u1 1).n 0) 0)), (14, .blk ((u1 0).n 0) [.slice p_a0_F a0.F.length c_a0_F, vI a0.Dir] 31), (15, .blk ((u1 1).n 0) [vI a2.Lo, vI a2.Hi] 38), (12, rdl fr 4 p_a0_F c_a0_F a0.F en_TNode), (13, rdl fr 2 p_a1 c_a1 a1 en_TInterval), (999999, gk)]
 refine k_seq ?_
 replace G := bnd G; obtain ⟨t3, ht3, G⟩ := G
 replace G := bnd G; obtain ⟨t4, ht4, G⟩ := G
 refine k_rg mixed H (.cons [7] (ok_ld (fun u2 => .agg #[.slice p_a0_F a0.F.length c_a0_F, vI a0.Dir]) 7 14 0 2 (fun u2 => ((u1 0).n 0)) (fun u2 => [.slice p_a0_F a0.F.length c_a0_F, vI a0.Dir]) 31) <|
   .v 8 (.slice p_a1 a1.length c_a1) <|
   .cons [9] (ok_ld (fun u2 => .agg #[vI a2.Lo, vI a2.Hi]) 9 15 0 2 (fun u2 => ((u1 1).n 0)) (fun u2 => [vI a2.Lo, vI a2.Hi]) 38) <|
   .cons [10] (ok_callL [12, 13, 999999] (fun u2 => [rdl fr 4 p_a0_F c_a0_F a0.F en_TNode, rdl fr 2 p_a1 c_a1 a1 en_TInterval, gk]) 12 (fun u2 => #[.agg #[.slice p_a0_F a0.F.length c_a0_F, vI a0.Dir], .slice p_a1 a1.length c_a1, .agg #[vI a2.Lo, vI a2.Hi]]) (.agg #[vI t3.Lo, vI t3.Hi]) 10 (fun u2 w hF => guard_Eval.calls k0 (⟨a0.F, a0.Dir⟩ : TGuard) a1 a2 p_a0_F c_a0_F p_a1 c_a1 t3 w (glob_of hF.2.2.1) (rdF_of hF.1) (rdF_of hF.2.1) ht3)) <|
   .cons [11] (ok_callv 35 (fun u2 => #[.agg #[vI t3.Lo, vI t3.Hi]]) (vI t4) 11 [] (fun _ w _ => interval_Sign.calls t3 t4 w ht4)) <|
   .v 6 (vI t4) <| .nil) fun u2 a w' H => ?_
 replace H := H.toM [(6, sI t4), (999999, gk)]
 refine k_ret ?_
 obtain rfl := Option.some.inj G
 exact k_done0 H _ (by kernel_rfl) (by kernel_rfl)

set_option maxHeartbeats 4000000 in
theorem armillaryref07_Same.calls (k0 : Nat) (a0 : List TNode) (a1 : List TNode) (p_a0 : Option Addr) (c_a0 : Nat) (p_a1 : Option Addr) (c_a1 : Nat) (r : Bool) (w : World) (R_p_a0 : RowC w 4 p_a0 a0.length c_a0 (a0.flatMap en_TNode)) (R_p_a1 : RowC w 4 p_a1 a1.length c_a1 (a1.flatMap en_TNode)) (G : armillaryref07_Same k0 a0 a1 = some r) :
  Calls Tryd.prog 37 #[.slice p_a0 a0.length c_a0, .slice p_a1 a1.length c_a1] w fun e w' => e = .returned (.bool r) ∧ Below w.heap.size w w' := by
 obtain ⟨fr, hfr⟩ : ∃ fr : Nat → Prop, ∀ j, fr j := ⟨fun _ => True, fun _ => trivial⟩
 have hB : ∀ j, w.heap.size ≤ j → fr j := fun j _ => hfr j
 have hin_p_a0 : ∀ j, fpRow p_a0 a0.length j → fr j := fun j _ => hfr j
 have hin_p_a1 : ∀ j, fpRow p_a1 a1.length j → fr j := fun j _ => hfr j
 refine k_enterF (args := [.slice p_a0 a0.length c_a0, .slice p_a1 a1.length c_a1]) 26 [(26, rdl fr 4 p_a0 c_a0 a0 en_TNode), (27, rdl fr 4 p_a1 c_a1 a1 en_TNode)] (by
  intro x hx
  simp only [List.mem_cons, List.not_mem_nil, or_false] at hx
  rcases hx with rfl | rfl
  ·exact rdF_fact R_p_a0 hin_p_a0 (by decide) _
  ·exact rdF_fact R_p_a1 hin_p_a1 (by decide) _) Tryd.func37 rfl (by kernel_rfl) (by kernel_rfl) fun a H => ?_
 unfold armillaryref07_Same at G
 refine k_seq ?_
 refine k_rg mixed H (.v 4 (.bool false) <| .nil) fun u1 a w' H => ?_
 replace H := H.toM [(0, sS p_a0 a0.length c_a0), (1, sS p_a1 a1.length c_a1), (26, rdl fr 4 p_a0 c_a0 a0 en_TNode), (27, rdl fr 4 p_a1 c_a1 a1 en_TNode)]
 refine k_seq ?_
 refine k_seq ?_
 refine k_rg mixed H (.v 6 (.slice p_a0 a0.length c_a0) <|
   .v 7 (vI (a0.length : Int)) <|
   .v 8 (.slice p_a1 a1.length c_a1) <|
   .v 9 (vI (a1.length : Int)) <|
   .v 10 (.bool ((a0.length : Int) != (a1.length : Int))) <| .nil) fun u2 a w' H => ?_
 replace H := H.toM [(0, sS p_a0 a0.length c_a0), (1, sS p_a1 a1.length c_a1), (10, (sB ((a0.length : Int) != (a1.length : Int)))), (26, rdl fr 4 p_a0 c_a0 a0 en_TNode), (27, rdl fr 4 p_a1 c_a1 a1 en_TNode)]
 refine k_cond H (by kernel_rfl) (t := ((a0.length : Int) != (a1.length : Int))) (by kernel_rfl) (fun c20 => ?_) (fun c20 => ?_)
 ·rw [if_pos c20] at G
  refine k_seq ?_
  refine k_rg mixed H (.v 4 (.bool false) <| .nil) fun u3 a w' H => ?_
  replace H := H.toM [(4, sB false)]
  refine k_ret ?_
  obtain rfl := Option.some.inj G
  exact k_done0 H _ (by kernel_rfl) (by kernel_rfl)
 ·rw [if_neg (nt c20)] at G
  refine k_skip ?_
  refine k_seq ?_
  replace G := bnd G; obtain ⟨j4, hj4, Gj4⟩ := G
  refine k_join (fun a w' => ∃ j4v, j4 = Sum.inr j4v ∧ Rep w.heap.size w 26 (ofL []) a w') ?_ ?_
  ·clear H; rintro a w' ⟨j4v, rfl, H⟩; have G := Gj4; clear Gj4; dsimp only at G
   refine k_seq ?_
   refine k_rg mixed H (.v 4 (.bool true) <| .nil) fun u5 a w' H => ?_
   replace H := H.toM [(4, sB true)]
   refine k_ret ?_
   obtain rfl := Option.some.inj G
   exact k_done0 H _ (by kernel_rfl) (by kernel_rfl)
  ·have G := hj4; clear hj4
   refine k_seq ?_
   refine k_rg mixed H (.v 5 (vI 0) <| .nil) fun u6 a w' H => ?_
   replace H := H.toM [(0, sS p_a0 a0.length c_a0), (1, sS p_a1 a1.length c_a1), (5, sI 0), (26, rdl fr 4 p_a0 c_a0 a0 en_TNode), (27, rdl fr 4 p_a1 c_a1 a1 en_TNode)]
   refine k_block ?_
   refine k_loopJ (fun m a w' => ∃ x7 : Int, armillaryref07_Same.l8 k0 a0 a1 m x7 = some j4 ∧ Rep w.heap.size w 26 (ofL [(0, sS p_a0 a0.length c_a0), (1, sS p_a1 a1.length c_a1), (5, sI x7), (26, rdl fr 4 p_a0 c_a0 a0 en_TNode), (27, rdl fr 4 p_a1 c_a1 a1 en_TNode)]) a w') k0 ⟨_, G, H.toL _ (by kernel_rfl)⟩ ?_
   clear G H
   rintro (_ | k) a w' ⟨x7, G, H⟩
   ·exact absurd G (by unfold armillaryref07_Same.l8; exact fun h => by cases h)
   ·unfold armillaryref07_Same.l8 at G
    refine k_seq ?_
    refine k_seq ?_
    refine k_rg mixed H (.v 11 (vI x7) <|
   .v 12 (.slice p_a0 a0.length c_a0) <|
   .v 13 (vI (a0.length : Int)) <|
   .v 14 (.bool (decide (x7 < (a0.length : Int)))) <| .nil) fun u9 a w' H => ?_
    replace H := H.toM [(0, sS p_a0 a0.length c_a0), (1, sS p_a1 a1.length c_a1), (5, sI x7), (14, (sB (decide (x7 < (a0.length : Int))))), (26, rdl fr 4 p_a0 c_a0 a0 en_TNode), (27, rdl fr 4 p_a1 c_a1 a1 en_TNode)]
    refine k_cond H (by kernel_rfl) (t := decide (x7 < (a0.length : Int))) (by kernel_rfl) (fun c19 => ?_) (fun c19 => ?_)
    ·rw [if_pos c19] at G
     refine k_skip ?_
     refine k_seq ?_
     refine k_block ?_
     refine k_seq ?_
     replace G := gd G; obtain ⟨b11, G⟩ := G
     replace G := bnd G; obtain ⟨t12, ht12, G⟩ := G
     replace G := gd G; obtain ⟨b13, G⟩ := G
     replace G := bnd G; obtain ⟨t14, ht14, G⟩ := G
     replace G := bnd G; obtain ⟨z15, hz15, G⟩ := G
     replace hz15 := Option.some.inj hz15
     refine k_rg mixed H (.v 17 (.slice p_a0 a0.length c_a0) <|
   .v 18 (vI x7) <|
   .cons [19] (ok_valL [26] (fun u10 => [rdl fr 4 p_a0 c_a0 a0 en_TNode]) (fun u10 => .pointer (some ⟨hdB p_a0, hdO p_a0 + x7.toNat * 4, none⟩)) (fun u10 => true) [true, true] 19 (fun u10 w hg hF => run_of (by kernel_rfl) (run_ix (t := 22) (p := p_a0) (n := a0.length) (cap := c_a0) (k := .i64) (i := x7) (sz := 4) (by kernel_rfl) (by kernel_rfl) (rdF_of hF.1).2 b11))) <|
   .cons [20] (ok_valL [26] (fun u10 => [rdl fr 4 p_a0 c_a0 a0 en_TNode]) (fun u10 => .agg #[vI t12.Op, vI t12.N, vI t12.C.Lo, vI t12.C.Hi]) (fun u10 => true) [true] 20 (fun u10 w hg hF => ld_of (vs := [vI t12.Op, vI t12.N, vI t12.C.Lo, vI t12.C.Hi]) (b := hdB p_a0) (off := hdO p_a0 + x7.toNat * 4 + 0) (m := 4) (by kernel_rfl) (el_cells (rdF_of hF.1).2 en_TNode_len ht12 0 4 rfl))) <|
   .v 21 (.slice p_a1 a1.length c_a1) <|
   .v 22 (vI x7) <|
   .cons [23] (ok_valL [27] (fun u10 => [rdl fr 4 p_a1 c_a1 a1 en_TNode]) (fun u10 => .pointer (some ⟨hdB p_a1, hdO p_a1 + x7.toNat * 4, none⟩)) (fun u10 => true) [true, true] 23 (fun u10 w hg hF => run_of (by kernel_rfl) (run_ix (t := 22) (p := p_a1) (n := a1.length) (cap := c_a1) (k := .i64) (i := x7) (sz := 4) (by kernel_rfl) (by kernel_rfl) (rdF_of hF.1).2 b13))) <|
   .cons [24] (ok_valL [27] (fun u10 => [rdl fr 4 p_a1 c_a1 a1 en_TNode]) (fun u10 => .agg #[vI t14.Op, vI t14.N, vI t14.C.Lo, vI t14.C.Hi]) (fun u10 => true) [true] 24 (fun u10 w hg hF => ld_of (vs := [vI t14.Op, vI t14.N, vI t14.C.Lo, vI t14.C.Hi]) (b := hdB p_a1) (off := hdO p_a1 + x7.toNat * 4 + 0) (m := 4) (by kernel_rfl) (el_cells (rdF_of hF.1).2 en_TNode_len ht14 0 4 rfl))) <|
   .cons [25] (ok_as (u' := fun u10 => [(25, sB z15)]) (ok_val (fun u10 => .bool (!((t12.Op == t14.Op) && ((t12.N == t14.N) && (((t12.C.Lo == t14.C.Lo) && ((t12.C.Hi == t14.C.Hi) && true)) && true))))) 25 (hv := fun _ _ => run_of (by kernel_rfl) (run_neq_agg (t := 53) (x := (.tmp 20)) (y := (.tmp 24)) (xs := #[vI t12.Op, vI t12.N, vI t12.C.Lo, vI t12.C.Hi]) (ys := #[vI t14.Op, vI t14.N, vI t14.C.Lo, vI t14.C.Hi]) (b := ((t12.Op == t14.Op) && ((t12.N == t14.N) && (((t12.C.Lo == t14.C.Lo) && ((t12.C.Hi == t14.C.Hi) && true)) && true)))) (by kernel_rfl) (by kernel_rfl)))) (fun _ => by rw [← hz15])) <| .nil) fun u10 a w' H => ?_
     replace H := H.toM [(0, sS p_a0 a0.length c_a0), (1, sS p_a1 a1.length c_a1), (5, sI x7), (25, sB z15), (26, rdl fr 4 p_a0 c_a0 a0 en_TNode), (27, rdl fr 4 p_a1 c_a1 a1 en_TNode)]
     refine k_cond H (by kernel_rfl) (t := z15) (by kernel_rfl) (fun c18 => ?_) (fun c18 => ?_)
     ·rw [if_pos c18] at G
      refine k_seq ?_
      refine k_rg mixed H (.v 4 (.bool false) <| .nil) fun u16 a w' H => ?_
      replace H := H.toM [(4, sB false)]
      refine k_ret ?_
      obtain rfl := Option.some.inj G
      replace G := Gj4
      obtain rfl := Option.some.inj G
      exact k_done0 H _ (by kernel_rfl) (by kernel_rfl)
     ·rw [if_neg (nt c18)] at G
      refine k_skip ?_
      refine k_rg mixed H (.v 15 (vI x7) <|
   .v 16 (vI (w_i64 (x7 + 1))) <|
   .v 5 (vI (w_i64 (x7 + 1))) <| .nil) fun u17 a w' H => ?_
      replace H := H.toM [(0, sS p_a0 a0.length c_a0), (1, sS p_a1 a1.length c_a1), (5, (sI (w_i64 (x7 + 1)))), (26, rdl fr 4 p_a0 c_a0 a0 en_TNode), (27, rdl fr 4 p_a1 c_a1 a1 en_TNode)]
      exact ⟨k, Nat.lt_succ_self k, _, G, H.toL _ (by kernel_rfl)⟩
    ·rw [if_neg (nt c19)] at G
     refine k_exit rfl ?_
     obtain rfl := Option.some.inj G
     exact ⟨_, rfl, H.toL _ (by kernel_rfl)⟩

set_option maxHeartbeats 4000000 in
theorem armillaryref15_Same.calls (k0 : Nat) (a0 : TGuard) (a1 : TGuard) (p_a0_F : Option Addr) (c_a0_F : Nat) (p_a1_F : Option Addr) (c_a1_F : Nat) (r : Bool) (w : World) (R_p_a0_F : RowC w 4 p_a0_F a0.F.length c_a0_F (a0.F.flatMap en_TNode)) (R_p_a1_F : RowC w 4 p_a1_F a1.F.length c_a1_F (a1.F.flatMap en_TNode)) (G : armillaryref15_Same k0 a0 a1 = some r) :
  Calls Tryd.prog 16 #[.agg #[.slice p_a0_F a0.F.length c_a0_F, vI a0.Dir], .agg #[.slice p_a1_F a1.F.length c_a1_F, vI a1.Dir]] w fun e w' => e = .returned (.bool r) ∧ Below w.heap.size w w' := by
 obtain ⟨fr, hfr⟩ : ∃ fr : Nat → Prop, ∀ j, fr j := ⟨fun _ => True, fun _ => trivial⟩
 have hB : ∀ j, w.heap.size ≤ j → fr j := fun j _ => hfr j
 have hin_p_a0_F : ∀ j, fpRow p_a0_F a0.F.length j → fr j := fun j _ => hfr j
 have hin_p_a1_F : ∀ j, fpRow p_a1_F a1.F.length j → fr j := fun j _ => hfr j
 refine k_enterF (args := [.agg #[.slice p_a0_F a0.F.length c_a0_F, vI a0.Dir], .agg #[.slice p_a1_F a1.F.length c_a1_F, vI a1.Dir]]) 17 [(17, rdl fr 4 p_a0_F c_a0_F a0.F en_TNode), (18, rdl fr 4 p_a1_F c_a1_F a1.F en_TNode)] (by
  intro x hx
  simp only [List.mem_cons, List.not_mem_nil, or_false] at hx
  rcases hx with rfl | rfl
  ·exact rdF_fact R_p_a0_F hin_p_a0_F (by decide) _
  ·exact rdF_fact R_p_a1_F hin_p_a1_F (by decide) _) Tryd.func16 rfl (by kernel_rfl) (by kernel_rfl) fun a H => ?_
 unfold armillaryref15_Same at G
 refine k_seq ?_
 refine k_rg mixed H (.cons [2, 19] (ok_new (fun b => vP b 0) (fun u1 => [.slice p_a0_F a0.F.length c_a0_F, vI a0.Dir]) 31 2 19) <|
   .cons [3, 20] (ok_new (fun b => vP b 0) (fun u1 => [.slice p_a1_F a1.F.length c_a1_F, vI a1.Dir]) 31 3 20) <|
   .v 4 (.bool false) <| .nil) fun u1 a w' H => ?_
 replace H := H.toM [(2, (sP ((u1 0).n 0) 0)), (3, (sP ((u1 1).n 0) 0)), (19, .blk ((u1 0).n 0) [.slice p_a0_F a0.F.length c_a0_F, vI a0.Dir] 31), (20, .blk ((u1 1).n 0) [.slice p_a1_F a1.F.length c_a1_F, vI a1.Dir] 31), (17, rdl fr 4 p_a0_F c_a0_F a0.F en_TNode), (18, rdl fr 4 p_a1_F c_a1_F a1.F en_TNode)]
 refine k_seq ?_
 replace G := bnd G; obtain ⟨t3, ht3, G⟩ := G
 refine k_rg mixed H (.v 5 (vP ((u1 0).n 0) 1) <|
   .cons [6] (ok_ld (fun u2 => vI a0.Dir) 6 19 1 1 (fun u2 => ((u1 0).n 0)) (fun u2 => [.slice p_a0_F a0.F.length c_a0_F, vI a0.Dir]) 31) <|
   .v 7 (vP ((u1 1).n 0) 1) <|
   .cons [8] (ok_ld (fun u2 => vI a1.Dir) 8 20 1 1 (fun u2 => ((u1 1).n 0)) (fun u2 => [.slice p_a1_F a1.F.length c_a1_F, vI a1.Dir]) 31) <|
   .v 9 (.bool (a0.Dir == a1.Dir)) <|
   .v 10 (.bool (a0.Dir == a1.Dir)) <|
   .cons [11] (ok_valg (fun u2 => vP ((u1 0).n 0) 0) (fun u2 => ((a0.Dir == a1.Dir) == true)) [true] 11) <|
   .cons [12] (ok_ldg (fun u2 => .slice p_a0_F a0.F.length c_a0_F) (fun u2 => ((a0.Dir == a1.Dir) == true)) [false] 12 19 0 1 (fun u2 => ((u1 0).n 0)) (fun u2 => [.slice p_a0_F a0.F.length c_a0_F, vI a0.Dir]) 31) <|
   .cons [13] (ok_valg (fun u2 => vP ((u1 1).n 0) 0) (fun u2 => ((a0.Dir == a1.Dir) == true)) [true] 13) <|
   .cons [14] (ok_ldg (fun u2 => .slice p_a1_F a1.F.length c_a1_F) (fun u2 => ((a0.Dir == a1.Dir) == true)) [false] 14 20 0 1 (fun u2 => ((u1 1).n 0)) (fun u2 => [.slice p_a1_F a1.F.length c_a1_F, vI a1.Dir]) 31) <|
   .cons [15] (ok_callLg [17, 18] (fun u2 => [rdl fr 4 p_a0_F c_a0_F a0.F en_TNode, rdl fr 4 p_a1_F c_a1_F a1.F en_TNode]) 37 (fun u2 => #[.slice p_a0_F a0.F.length c_a0_F, .slice p_a1_F a1.F.length c_a1_F]) (.bool t3) (fun u2 => ((a0.Dir == a1.Dir) == true)) [true, false, false] 15 (fun u2 w hg hF => armillaryref07_Same.calls k0 a0.F a1.F p_a0_F c_a0_F p_a1_F c_a1_F t3 w (rdF_of hF.1) (rdF_of hF.2.1) (ifp ht3 hg))) <|
   .cons [16] (ok_and 10 15 (fun u2 => true) (fun u2 => true) (fun u2 => (a0.Dir == a1.Dir)) (fun u2 => t3) 16) <|
   .v 4 (.bool ((a0.Dir == a1.Dir) && t3)) <| .nil) fun u2 a w' H => ?_
 replace H := H.toM [(4, (sB ((a0.Dir == a1.Dir) && t3)))]
 refine k_ret ?_
 obtain rfl := Option.some.inj G
 exact k_done0 H _ (by kernel_rfl) (by kernel_rfl)

set_option maxHeartbeats 4000000 in
theorem api_Node_73.calls (a1 : Int) (r : List TNode) (w : World) (G : api_Node_73 a1 = some r) :
  Calls Tryd.prog 73 #[.slice none 0 0, vI a1] w fun e w' => ∃ p cap, e = .returned (.slice p r.length cap) ∧ Below w.heap.size w w' ∧ w'.ownsRow w.heap.size 53 4 (.slice p r.length cap) r.length (r.flatMap en_TNode) := by
 refine k_enter (args := [.slice none 0 0, vI a1]) 27 Tryd.func73 rfl (by kernel_rfl) (by kernel_rfl) fun a H => ?_
 unfold api_Node_73 at G
 refine k_seq ?_
 refine k_rg mixed H (.v 4 (.slice none 0 0) <| .nil) fun u1 a w' H => ?_
 replace H := H.toM [(0, sS none 0 0), (1, sI a1)]
 refine k_seq ?_
 refine k_seq ?_
 refine k_rg mixed H (.v 5 (vI a1) <|
   .v 6 (.bool (decide (a1 < 0))) <| .nil) fun u2 a w' H => ?_
 replace H := H.toM [(0, sS none 0 0), (1, sI a1), (6, (sB (decide (a1 < 0))))]
 refine k_cond H (by kernel_rfl) (t := decide (a1 < 0)) (by kernel_rfl) (fun c10 => ?_) (fun c10 => ?_)
 ·rw [if_pos c10] at G
  cases G
 ·rw [if_neg (nt c10)] at G
  refine k_skip ?_
  refine k_seq ?_
  refine k_seq ?_
  refine k_rg mixed H (.v 8 (vI a1) <|
   .v 9 (.slice none 0 0) <|
   .v 10 (vI 0) <|
   .v 11 (.slice none 0 0) <|
   .v 12 (vI 0) <|
   .v 13 (vI (w_i64 (0 - 0))) <|
   .v 14 (vI (w_i64 (a1 - (w_i64 (0 - 0))))) <|
   .v 1 (vI (w_i64 (a1 - (w_i64 (0 - 0))))) <| .nil) fun u3 a w' H => ?_
  replace H := H.toM [(0, sS none 0 0), (1, (sI (w_i64 (a1 - (w_i64 (0 - 0))))))]
  refine k_seq ?_
  refine k_rg mixed H (.v 15 (vI (w_i64 (a1 - (w_i64 (0 - 0))))) <|
   .v 16 (.bool (decide ((w_i64 (a1 - (w_i64 (0 - 0)))) > 0))) <| .nil) fun u4 a w' H => ?_
  replace H := H.toM [(0, sS none 0 0), (1, (sI (w_i64 (a1 - (w_i64 (0 - 0)))))), (16, (sB (decide ((w_i64 (a1 - (w_i64 (0 - 0)))) > 0))))]
  refine k_cond H (by kernel_rfl) (t := decide ((w_i64 (a1 - (w_i64 (0 - 0)))) > 0)) (by kernel_rfl) (fun c9 => ?_) (fun c9 => ?_)
  ·rw [if_pos c9] at G
   replace G := gd G; obtain ⟨b6, G⟩ := G
   refine k_rg mixed H (.v 17 (.slice none 0 0) <|
   .v 18 (.slice none 0 0) <|
   .v 19 (vI 0) <|
   .v 20 (.slice none 0 0) <|
   .v 21 (vI (w_i64 (a1 - (w_i64 (0 - 0))))) <|
   .cons [22, 27] (ok_rowL [] (fun u5 => []) 53 4 (List.replicate (w_i64 (a1 - (w_i64 (0 - 0)))).toNat (⟨0, 0, (⟨0, 0⟩ : TInterval)⟩ : TNode)).length ((List.replicate (w_i64 (a1 - (w_i64 (0 - 0)))).toNat (⟨0, 0, (⟨0, 0⟩ : TInterval)⟩ : TNode)).flatMap en_TNode) 22 27 (fun _ => .none) (fun u5 w hF => run_app_zeros (t := 22) (tn := 3) (ty := 22) (kn := .i64) (k := .i64) (m := w_i64 (a1 - (w_i64 (0 - 0)))) (en := en_TNode) (z := (⟨0, 0, (⟨0, 0⟩ : TInterval)⟩ : TNode)) en_TNode_len inf53 rfl b6 (by kernel_rfl)) (fun _ => .inl rfl)) <|
   .v 23 (.slice none 0 0) <|
   .v 24 (vI 0) <|
   .cons [25, 27] (ok_rowL [27] (fun u5 => [owK 53 4 ((u5 5).o 0) (List.replicate (w_i64 (a1 - (w_i64 (0 - 0)))).toNat (⟨0, 0, (⟨0, 0⟩ : TInterval)⟩ : TNode)).length ((u5 5).n 0) ((List.replicate (w_i64 (a1 - (w_i64 (0 - 0)))).toNat (⟨0, 0, (⟨0, 0⟩ : TInterval)⟩ : TNode)).flatMap en_TNode)]) 53 4 ([] : List TNode).length (([] : List TNode).flatMap en_TNode) 25 27 (fun u5 => owK 53 4 ((u5 5).o 0) (List.replicate (w_i64 (a1 - (w_i64 (0 - 0)))).toNat (⟨0, 0, (⟨0, 0⟩ : TInterval)⟩ : TNode)).length ((u5 5).n 0) ((List.replicate (w_i64 (a1 - (w_i64 (0 - 0)))).toNat (⟨0, 0, (⟨0, 0⟩ : TInterval)⟩ : TNode)).flatMap en_TNode)) (fun u5 w hF => run_cut0 (t := 22) (l := (List.replicate (w_i64 (a1 - (w_i64 (0 - 0)))).toNat (⟨0, 0, (⟨0, 0⟩ : TInterval)⟩ : TNode))) (k := .i64) (ow_of hF.1) rfl (by kernel_rfl)) (fun _ => .inr trivial)) <|
   .cons [0] (ok_val (fun u5 => .slice ((u5 8).o 0) ([] : List TNode).length ((u5 8).n 0)) 0) <| .nil) fun u5 a w' H => ?_
   replace H := H.toM [(0, (sS ((u5 8).o 0) ([] : List TNode).length ((u5 8).n 0))), (27, owK 53 4 ((u5 8).o 0) ([] : List TNode).length ((u5 8).n 0) (([] : List TNode).flatMap en_TNode))]
   refine k_seq ?_
   refine k_rg mixed H (.v 26 (.slice ((u5 8).o 0) ([] : List TNode).length ((u5 8).n 0)) <|
   .v 4 (.slice ((u5 8).o 0) ([] : List TNode).length ((u5 8).n 0)) <| .nil) fun u7 a w' H => ?_
   replace H := H.toM [(4, (sS ((u5 8).o 0) ([] : List TNode).length ((u5 8).n 0))), (27, owK 53 4 ((u5 8).o 0) ([] : List TNode).length ((u5 8).n 0) (([] : List TNode).flatMap en_TNode))]
   refine k_ret ?_
   obtain rfl := Option.some.inj G
   exact k_doneR H (fun p cap => .slice p ([] : List TNode).length cap) ((u5 8).o 0) ((u5 8).n 0) [] 27 53 4 ([] : List TNode).length (([] : List TNode).flatMap en_TNode) (by kernel_rfl) (by kernel_rfl) (by simp) (by kernel_rfl)
  ·rw [if_neg (nt c9)] at G
   refine k_skip ?_
   refine k_seq ?_
   refine k_rg mixed H (.v 26 (.slice none 0 0) <|
   .v 4 (.slice none 0 0) <| .nil) fun u8 a w' H => ?_
   replace H := H.toM [(4, sS none 0 0)]
   refine k_ret ?_
   obtain rfl := Option.some.inj G
   replace H := H.nil_row 28 53 4
   exact k_doneR H (fun p cap => .slice p ([] : List TNode).length cap) none 0 [] 28 53 4 ([] : List TNode).length (([] : List TNode).flatMap en_TNode) (by kernel_rfl) (by kernel_rfl) (by simp) (by kernel_rfl)

set_option maxHeartbeats 4000000 in
theorem api_Node_38.calls (k0 : Nat) (a0 : List (List TNode)) (p_a0 : Option Addr) (c_a0 : Nat) (L_a0 : List (Sl TNode)) (r : List TNode) (w : World) (R_p_a0 : RowC w 1 p_a0 L_a0.length c_a0 (L_a0.flatMap enSl)) (h_a0 : a0 = L_a0.map Sl.l) (I_p_a0 : RowsC w 4 en_TNode L_a0) (G : api_Node_38 k0 a0 = some r) :
  Calls Tryd.prog 38 #[.slice p_a0 L_a0.length c_a0] w fun e w' => ∃ p cap, e = .returned (.slice p r.length cap) ∧ Below w.heap.size w w' ∧ w'.ownsRow w.heap.size 53 4 (.slice p r.length cap) r.length (r.flatMap en_TNode) := by
 obtain ⟨fr, hfr⟩ : ∃ fr : Nat → Prop, ∀ j, fr j := ⟨fun _ => True, fun _ => trivial⟩
 have hB : ∀ j, w.heap.size ≤ j → fr j := fun j _ => hfr j
 have hin_p_a0 : ∀ j, fpRow p_a0 L_a0.length j → fr j := fun j _ => hfr j
 refine k_enterF (args := [.slice p_a0 L_a0.length c_a0]) 36 [(36, rdl fr 1 p_a0 c_a0 L_a0 enSl), (37, rdN fr 4 en_TNode L_a0)] (by
  intro x hx
  simp only [List.mem_cons, List.not_mem_nil, or_false] at hx
  rcases hx with rfl | rfl
  ·exact rdF_fact R_p_a0 hin_p_a0 (by decide) _
  ·exact rdN_fact I_p_a0 (fun j _ => hfr j) (by decide) _) Tryd.func38 rfl (by kernel_rfl) (by kernel_rfl) fun a H => ?_
 unfold api_Node_38 at G
 refine k_seq ?_
 refine k_rg mixed H (.v 2 (.slice none 0 0) <| .nil) fun u1 a w' H => ?_
 replace H := H.toM [(0, sS p_a0 L_a0.length c_a0), (36, rdl fr 1 p_a0 c_a0 L_a0 enSl), (37, rdN fr 4 en_TNode L_a0)]
 refine k_seq ?_
 refine k_rg mixed H (.v 3 (vI 0) <| .nil) fun u2 a w' H => ?_
 replace H := H.toM [(0, sS p_a0 L_a0.length c_a0), (3, sI 0), (36, rdl fr 1 p_a0 c_a0 L_a0 enSl), (37, rdN fr 4 en_TNode L_a0)]
 refine k_seq ?_
 replace G := bnd G; obtain ⟨j4, hj4, G⟩ := G
 refine k_join (fun a w' => Rep w.heap.size w 36 (ofL [(0, sS p_a0 L_a0.length c_a0), (3, sI j4), (36, rdl fr 1 p_a0 c_a0 L_a0 enSl), (37, rdN fr 4 en_TNode L_a0)]) a w') ?_ ?_
 ·clear H; intro a w' H
  refine k_seq ?_
  replace G := bnd G; obtain ⟨t6, ht6, G⟩ := G
  refine k_rg mixed H (.v 23 (vI j4) <|
   .cons [24, 38] (ok_callRL [] (fun u5 => []) 73 (fun u5 => #[.slice none 0 0, vI j4]) (fun p cap => .slice p t6.length cap) 53 4 t6.length (t6.flatMap en_TNode) 24 38 (fun u5 w hF => api_Node_73.calls j4  t6 w  ht6)) <|
   .cons [6] (ok_val (fun u5 => .slice ((u5 1).o 0) t6.length ((u5 1).n 0)) 6) <| .nil) fun u5 a w' H => ?_
  replace H := H.toM [(0, sS p_a0 L_a0.length c_a0), (6, (sS ((u5 1).o 0) t6.length ((u5 1).n 0))), (36, rdl fr 1 p_a0 c_a0 L_a0 enSl), (38, owK 53 4 ((u5 1).o 0) t6.length ((u5 1).n 0) (t6.flatMap en_TNode)), (37, rdN fr 4 en_TNode L_a0)]
  refine k_seq ?_
  replace G := bnd G; obtain ⟨j8, hj8, G⟩ := G
  refine k_join (fun a w' => ∃ (p_j7 : Option Addr) (c_j7 np_j7 : Nat), np_j7 = j8.length ∧ Rep w.heap.size w 36 (ofL [(6, sS p_j7 np_j7 c_j7), (38, owK 53 4 p_j7 np_j7 c_j7 (j8.flatMap en_TNode))]) a w') ?_ ?_
  ·clear H; rintro a w' ⟨p_j7, c_j7, _, rfl, H⟩
   refine k_seq ?_
   refine k_rg mixed H (.v 35 (.slice p_j7 j8.length c_j7) <|
   .v 2 (.slice p_j7 j8.length c_j7) <| .nil) fun u9 a w' H => ?_
   replace H := H.toM [(2, sS p_j7 j8.length c_j7), (38, owK 53 4 p_j7 j8.length c_j7 (j8.flatMap en_TNode))]
   refine k_ret ?_
   obtain rfl := Option.some.inj G
   exact k_doneR H (fun p cap => .slice p j8.length cap) p_j7 c_j7 [] 38 53 4 j8.length (j8.flatMap en_TNode) (by kernel_rfl) (by kernel_rfl) (by simp) (by kernel_rfl)
  ·clear G; replace G := hj8; clear hj8
   refine k_seq ?_
   refine k_rg mixed H (.v 25 (.slice p_a0 L_a0.length c_a0) <|
   .cons [26] (ok_val (fun u10 => vI (a0.length : Int)) 26 (hv := fun _ _ => by rw [sl_len h_a0]; kernel_rfl)) <|
   .v 27 (vI 0) <| .nil) fun u10 a w' H => ?_
   replace H := H.toM [(6, (sS ((u5 1).o 0) t6.length ((u5 1).n 0))), (25, sS p_a0 L_a0.length c_a0), (26, (sI (a0.length : Int))), (27, sI 0), (36, rdl fr 1 p_a0 c_a0 L_a0 enSl), (38, owK 53 4 ((u5 1).o 0) t6.length ((u5 1).n 0) (t6.flatMap en_TNode)), (37, rdN fr 4 en_TNode L_a0)]
   refine k_block ?_
   refine k_loopJ (fun m a w' => ∃ x11 : List TNode, ∃ x12 : Int, api_Node_38.l13 k0 a0 j4 t6 m x11 x12 = some j8 ∧ ∃ (p_x11 : Option Addr) (c_x11 np_x11 : Nat), np_x11 = x11.length ∧ Rep w.heap.size w 36 (ofL [(6, sS p_x11 np_x11 c_x11), (25, sS p_a0 L_a0.length c_a0), (26, (sI (a0.length : Int))), (27, sI x12), (36, rdl fr 1 p_a0 c_a0 L_a0 enSl), (38, owK 53 4 p_x11 np_x11 c_x11 (x11.flatMap en_TNode)), (37, rdN fr 4 en_TNode L_a0)]) a w') k0 ⟨_, _, G, ((u5 1).o 0), ((u5 1).n 0), _, rfl, H.toL _ (by kernel_rfl)⟩ ?_
   clear G H
   rintro (_ | k) a w' ⟨x11, x12, G, p_x11, c_x11, _, rfl, H⟩
   ·exact absurd G (by unfold api_Node_38.l13; exact fun h => by cases h)
   ·unfold api_Node_38.l13 at G
    refine k_seq ?_
    refine k_rg mixed H (.v 28 (.bool (decide (x12 < (a0.length : Int)))) <| .nil) fun u14 a w' H => ?_
    replace H := H.toM [(6, sS p_x11 x11.length c_x11), (25, sS p_a0 L_a0.length c_a0), (26, (sI (a0.length : Int))), (27, sI x12), (28, (sB (decide (x12 < (a0.length : Int))))), (36, rdl fr 1 p_a0 c_a0 L_a0 enSl), (38, owK 53 4 p_x11 x11.length c_x11 (x11.flatMap en_TNode)), (37, rdN fr 4 en_TNode L_a0)]
    refine k_seq ?_
    refine k_cond H (by kernel_rfl) (t := decide (x12 < (a0.length : Int))) (by kernel_rfl) (fun c21 => ?_) (fun c21 => ?_)
    ·rw [if_pos c21] at G
     refine k_skip ?_
     refine k_seq ?_
     refine k_block ?_
     refine k_seq ?_
     replace G := gd G; obtain ⟨b16, G⟩ := G
     replace G := bnd G; obtain ⟨t17, ht17, G⟩ := G
     obtain ⟨p_t17, c_t17, y_t17⟩ := sl_get h_a0 ht17
     refine k_rg mixed H (.cons [29] (ok_valL [36] (fun u15 => [rdl fr 1 p_a0 c_a0 L_a0 enSl]) (fun u15 => .pointer (some ⟨hdB p_a0, hdO p_a0 + x12.toNat * 1, none⟩)) (fun u15 => true) [true, true] 29 (fun u15 w hg hF => run_of (by kernel_rfl) (run_ix (t := 92) (p := p_a0) (n := L_a0.length) (cap := c_a0) (k := .i64) (i := x12) (sz := 1) (by kernel_rfl) (by kernel_rfl) (rdF_of hF.1).2 (by rw [← sl_len h_a0]; exact b16)))) <|
   .cons [30] (ok_valL [36] (fun u15 => [rdl fr 1 p_a0 c_a0 L_a0 enSl]) (fun u15 => .slice p_t17 t17.length c_t17) (fun u15 => true) [true] 30 (fun u15 w hg hF => ld_of (vs := [.slice p_t17 t17.length c_t17]) (b := hdB p_a0) (off := hdO p_a0 + x12.toNat * 1 + 0) (m := 1) (by kernel_rfl) (el_cells (rdF_of hF.1).2 enSl_len y_t17 0 1 rfl))) <|
   .v 8 (.slice p_t17 t17.length c_t17) <| .nil) fun u15 a w' H => ?_
     replace H := H.toM [(6, sS p_x11 x11.length c_x11), (8, sS p_t17 t17.length c_t17), (25, sS p_a0 L_a0.length c_a0), (26, (sI (a0.length : Int))), (27, sI x12), (36, rdl fr 1 p_a0 c_a0 L_a0 enSl), (38, owK 53 4 p_x11 x11.length c_x11 (x11.flatMap en_TNode)), (37, rdN fr 4 en_TNode L_a0)]
     replace G := gd G; obtain ⟨b19, G⟩ := G
     refine k_rg mixed H (.v 31 (.slice p_x11 x11.length c_x11) <|
   .v 32 (.slice p_t17 t17.length c_t17) <|
   .cons [33, 38] (ok_rowL [38, 37] (fun u18 => [owK 53 4 p_x11 x11.length c_x11 (x11.flatMap en_TNode), rdN fr 4 en_TNode L_a0]) 53 4 (x11 ++ t17).length ((x11 ++ t17).flatMap en_TNode) 33 38 (fun u18 => owK 53 4 p_x11 x11.length c_x11 (x11.flatMap en_TNode)) (fun u18 w hF => run_app_rows (t := 22) (ty := 22) (en := en_TNode) (l := x11) (m := t17) (p2 := p_t17) (cap2 := c_t17) en_TNode_len (fun _ => rfl) inf53 (ow_of hF.1) (sl_row (rdN_of hF.2.1) y_t17).2 b19 (by kernel_rfl)) (fun _ => .inr trivial)) <|
   .cons [6] (ok_val (fun u18 => .slice ((u18 2).o 0) (x11 ++ t17).length ((u18 2).n 0)) 6) <| .nil) fun u18 a w' H => ?_
     replace H := H.toM [(6, (sS ((u18 2).o 0) (x11 ++ t17).length ((u18 2).n 0))), (25, sS p_a0 L_a0.length c_a0), (26, (sI (a0.length : Int))), (27, sI x12), (36, rdl fr 1 p_a0 c_a0 L_a0 enSl), (38, owK 53 4 ((u18 2).o 0) (x11 ++ t17).length ((u18 2).n 0) ((x11 ++ t17).flatMap en_TNode)), (37, rdN fr 4 en_TNode L_a0)]
     refine k_rg mixed H (.v 34 (vI (w_i64 (x12 + 1))) <|
   .v 27 (vI (w_i64 (x12 + 1))) <| .nil) fun u20 a w' H => ?_
     replace H := H.toM [(6, (sS ((u18 2).o 0) (x11 ++ t17).length ((u18 2).n 0))), (25, sS p_a0 L_a0.length c_a0), (26, (sI (a0.length : Int))), (27, (sI (w_i64 (x12 + 1)))), (36, rdl fr 1 p_a0 c_a0 L_a0 enSl), (38, owK 53 4 ((u18 2).o 0) (x11 ++ t17).length ((u18 2).n 0) ((x11 ++ t17).flatMap en_TNode)), (37, rdN fr 4 en_TNode L_a0)]
     exact ⟨k, Nat.lt_succ_self k, _, _, G, ((u18 2).o 0), ((u18 2).n 0), _, rfl, H.toL _ (by kernel_rfl)⟩
    ·rw [if_neg (nt c21)] at G
     refine k_exit rfl ?_
     obtain rfl := Option.some.inj G
     exact ⟨p_x11, c_x11, _, rfl, H.toL _ (by kernel_rfl)⟩
 ·clear G; replace G := hj4; clear hj4
  refine k_seq ?_
  refine k_rg mixed H (.v 9 (.slice p_a0 L_a0.length c_a0) <|
   .cons [10] (ok_val (fun u22 => vI (a0.length : Int)) 10 (hv := fun _ _ => by rw [sl_len h_a0]; kernel_rfl)) <|
   .v 11 (vI 0) <| .nil) fun u22 a w' H => ?_
  replace H := H.toM [(0, sS p_a0 L_a0.length c_a0), (3, sI 0), (9, sS p_a0 L_a0.length c_a0), (10, (sI (a0.length : Int))), (11, sI 0), (36, rdl fr 1 p_a0 c_a0 L_a0 enSl), (37, rdN fr 4 en_TNode L_a0)]
  refine k_block ?_
  refine k_loopJ (fun m a w' => ∃ x23 : Int, ∃ x24 : Int, api_Node_38.l25 k0 a0 m x23 x24 = some j4 ∧ Rep w.heap.size w 36 (ofL [(0, sS p_a0 L_a0.length c_a0), (3, sI x23), (9, sS p_a0 L_a0.length c_a0), (10, (sI (a0.length : Int))), (11, sI x24), (36, rdl fr 1 p_a0 c_a0 L_a0 enSl), (37, rdN fr 4 en_TNode L_a0)]) a w') k0 ⟨_, _, G, H.toL _ (by kernel_rfl)⟩ ?_
  clear G H
  rintro (_ | k) a w' ⟨x23, x24, G, H⟩
  ·exact absurd G (by unfold api_Node_38.l25; exact fun h => by cases h)
  ·unfold api_Node_38.l25 at G
   refine k_seq ?_
   refine k_rg mixed H (.v 12 (.bool (decide (x24 < (a0.length : Int)))) <| .nil) fun u26 a w' H => ?_
   replace H := H.toM [(0, sS p_a0 L_a0.length c_a0), (3, sI x23), (9, sS p_a0 L_a0.length c_a0), (10, (sI (a0.length : Int))), (11, sI x24), (12, (sB (decide (x24 < (a0.length : Int))))), (36, rdl fr 1 p_a0 c_a0 L_a0 enSl), (37, rdN fr 4 en_TNode L_a0)]
   refine k_seq ?_
   refine k_cond H (by kernel_rfl) (t := decide (x24 < (a0.length : Int))) (by kernel_rfl) (fun c34 => ?_) (fun c34 => ?_)
   ·rw [if_pos c34] at G
    refine k_skip ?_
    refine k_seq ?_
    refine k_block ?_
    refine k_seq ?_
    replace G := gd G; obtain ⟨b28, G⟩ := G
    replace G := bnd G; obtain ⟨t29, ht29, G⟩ := G
    obtain ⟨p_t29, c_t29, y_t29⟩ := sl_get h_a0 ht29
    refine k_rg mixed H (.cons [13] (ok_valL [36] (fun u27 => [rdl fr 1 p_a0 c_a0 L_a0 enSl]) (fun u27 => .pointer (some ⟨hdB p_a0, hdO p_a0 + x24.toNat * 1, none⟩)) (fun u27 => true) [true, true] 13 (fun u27 w hg hF => run_of (by kernel_rfl) (run_ix (t := 92) (p := p_a0) (n := L_a0.length) (cap := c_a0) (k := .i64) (i := x24) (sz := 1) (by kernel_rfl) (by kernel_rfl) (rdF_of hF.1).2 (by rw [← sl_len h_a0]; exact b28)))) <|
   .cons [14] (ok_valL [36] (fun u27 => [rdl fr 1 p_a0 c_a0 L_a0 enSl]) (fun u27 => .slice p_t29 t29.length c_t29) (fun u27 => true) [true] 14 (fun u27 w hg hF => ld_of (vs := [.slice p_t29 t29.length c_t29]) (b := hdB p_a0) (off := hdO p_a0 + x24.toNat * 1 + 0) (m := 1) (by kernel_rfl) (el_cells (rdF_of hF.1).2 enSl_len y_t29 0 1 rfl))) <|
   .v 5 (.slice p_t29 t29.length c_t29) <| .nil) fun u27 a w' H => ?_
    replace H := H.toM [(0, sS p_a0 L_a0.length c_a0), (3, sI x23), (5, sS p_t29 t29.length c_t29), (9, sS p_a0 L_a0.length c_a0), (10, (sI (a0.length : Int))), (11, sI x24), (36, rdl fr 1 p_a0 c_a0 L_a0 enSl), (37, rdN fr 4 en_TNode L_a0)]
    refine k_seq ?_
    refine k_rg mixed H (.v 15 (vI x23) <|
   .v 16 (.slice p_t29 t29.length c_t29) <|
   .v 17 (vI (t29.length : Int)) <|
   .v 18 (vI (w_i64 (x23 + (t29.length : Int)))) <|
   .v 3 (vI (w_i64 (x23 + (t29.length : Int)))) <| .nil) fun u30 a w' H => ?_
    replace H := H.toM [(0, sS p_a0 L_a0.length c_a0), (3, (sI (w_i64 (x23 + (t29.length : Int))))), (9, sS p_a0 L_a0.length c_a0), (10, (sI (a0.length : Int))), (11, sI x24), (36, rdl fr 1 p_a0 c_a0 L_a0 enSl), (37, rdN fr 4 en_TNode L_a0)]
    refine k_seq ?_
    refine k_rg mixed H (.v 19 (vI (w_i64 (x23 + (t29.length : Int)))) <|
   .v 20 (.bool (decide ((w_i64 (x23 + (t29.length : Int))) < 0))) <| .nil) fun u31 a w' H => ?_
    replace H := H.toM [(0, sS p_a0 L_a0.length c_a0), (3, (sI (w_i64 (x23 + (t29.length : Int))))), (9, sS p_a0 L_a0.length c_a0), (10, (sI (a0.length : Int))), (11, sI x24), (20, (sB (decide ((w_i64 (x23 + (t29.length : Int))) < 0)))), (36, rdl fr 1 p_a0 c_a0 L_a0 enSl), (37, rdN fr 4 en_TNode L_a0)]
    refine k_cond H (by kernel_rfl) (t := decide ((w_i64 (x23 + (t29.length : Int))) < 0)) (by kernel_rfl) (fun c33 => ?_) (fun c33 => ?_)
    ·rw [if_pos c33] at G
     cases G
    ·rw [if_neg (nt c33)] at G
     refine k_skip ?_
     refine k_rg mixed H (.v 22 (vI (w_i64 (x24 + 1))) <|
   .v 11 (vI (w_i64 (x24 + 1))) <| .nil) fun u32 a w' H => ?_
     replace H := H.toM [(0, sS p_a0 L_a0.length c_a0), (3, (sI (w_i64 (x23 + (t29.length : Int))))), (9, sS p_a0 L_a0.length c_a0), (10, (sI (a0.length : Int))), (11, (sI (w_i64 (x24 + 1)))), (36, rdl fr 1 p_a0 c_a0 L_a0 enSl), (37, rdN fr 4 en_TNode L_a0)]
     exact ⟨k, Nat.lt_succ_self k, _, _, G, H.toL _ (by kernel_rfl)⟩
   ·rw [if_neg (nt c34)] at G
    refine k_exit rfl ?_
    obtain rfl := Option.some.inj G
    exact H.toL _ (by kernel_rfl)

set_option maxHeartbeats 4000000 in
theorem guard_Reverse.calls (k0 : Nat) (a0 : TGuard) (p_a0_F : Option Addr) (c_a0_F : Nat) (r : TGuard) (w : World) (R_p_a0_F : RowC w 4 p_a0_F a0.F.length c_a0_F (a0.F.flatMap en_TNode)) (G : guard_Reverse k0 a0 = some r) :
  Calls Tryd.prog 17 #[.agg #[.slice p_a0_F a0.F.length c_a0_F, vI a0.Dir]] w fun e w' => ∃ g : Gh, e = .returned (.agg #[.slice (g.o 0) r.F.length (g.n 0), vI r.Dir]) ∧ Below w.heap.size w w' ∧ RowsF (frP w.heap.size (insV ((#[.agg #[.slice p_a0_F a0.F.length c_a0_F, vI a0.Dir]] : Array Value).toList))) w' g.o g.n 0 [(4, r.F.length, r.F.flatMap en_TNode)] := by
 obtain ⟨fr, hfr⟩ : ∃ fr : Nat → Prop, fr = frP w.heap.size [(p_a0_F, a0.F.length)] := ⟨_, rfl⟩
 have hB : ∀ j, w.heap.size ≤ j → fr j := fun j h => by rw [hfr]; exact .inl h
 have hin_p_a0_F : ∀ j, fpRow p_a0_F a0.F.length j → fr j := fun j h => by rw [hfr]; exact frP_in (.head _) j h
 refine k_enterF (args := [.agg #[.slice p_a0_F a0.F.length c_a0_F, vI a0.Dir]]) 32 [(32, rdl fr 4 p_a0_F c_a0_F a0.F en_TNode)] (by
  intro x hx
  simp only [List.mem_cons, List.not_mem_nil, or_false] at hx
  rcases hx with rfl
  exact rdF_fact R_p_a0_F hin_p_a0_F (by decide) _) Tryd.func17 rfl (by kernel_rfl) (by kernel_rfl) fun a H => ?_
 unfold guard_Reverse at G
 refine k_seq ?_
 refine k_rg mixed H (.cons [1, 33] (ok_new (fun b => vP b 0) (fun u1 => [.slice p_a0_F a0.F.length c_a0_F, vI a0.Dir]) 31 1 33) <|
   .cons [2, 34] (ok_new (fun b => vP b 0) (fun u1 => [.slice none 0 0, vI 0]) 31 2 34) <| .nil) fun u1 a w' H => ?_
 replace H := H.toM [(1, (sP ((u1 0).n 0) 0)), (2, (sP ((u1 1).n 0) 0)), (33, .blk ((u1 0).n 0) [.slice p_a0_F a0.F.length c_a0_F, vI a0.Dir] 31), (34, .blk ((u1 1).n 0) [.slice none 0 0, vI 0] 31), (32, rdl fr 4 p_a0_F c_a0_F a0.F en_TNode)]
 refine k_seq ?_
 replace G := gd G; obtain ⟨b3, G⟩ := G
 replace G := bnd G; obtain ⟨t4, ht4, G⟩ := G
 refine k_rg mixed H (.v 5 (vP ((u1 0).n 0) 0) <|
   .cons [6] (ok_ld (fun u2 => .slice p_a0_F a0.F.length c_a0_F) 6 33 0 1 (fun u2 => ((u1 0).n 0)) (fun u2 => [.slice p_a0_F a0.F.length c_a0_F, vI a0.Dir]) 31) <|
   .v 7 (vP ((u1 0).n 0) 0) <|
   .cons [8] (ok_ld (fun u2 => .slice p_a0_F a0.F.length c_a0_F) 8 33 0 1 (fun u2 => ((u1 0).n 0)) (fun u2 => [.slice p_a0_F a0.F.length c_a0_F, vI a0.Dir]) 31) <|
   .v 9 (vI (a0.F.length : Int)) <|
   .v 10 (.bool (decide ((a0.F.length : Int) > 0))) <|
   .v 11 (.bool (decide ((a0.F.length : Int) > 0))) <|
   .cons [12] (ok_valg (fun u2 => vP ((u1 0).n 0) 0) (fun u2 => ((decide ((a0.F.length : Int) > 0)) == true)) [true] 12) <|
   .cons [13] (ok_ldg (fun u2 => .slice p_a0_F a0.F.length c_a0_F) (fun u2 => ((decide ((a0.F.length : Int) > 0)) == true)) [false] 13 33 0 1 (fun u2 => ((u1 0).n 0)) (fun u2 => [.slice p_a0_F a0.F.length c_a0_F, vI a0.Dir]) 31) <|
   .cons [14] (ok_valL [32] (fun u2 => [rdl fr 4 p_a0_F c_a0_F a0.F en_TNode]) (fun u2 => .pointer (some ⟨hdB p_a0_F, hdO p_a0_F + ((0 : Int).toNat) * 4, none⟩)) (fun u2 => ((decide ((a0.F.length : Int) > 0)) == true)) [false, true] 14 (fun u2 w hg hF => run_of (by kernel_rfl) (run_ix (t := 22) (p := p_a0_F) (n := a0.F.length) (cap := c_a0_F) (k := .i64) (i := (0 : Int)) (sz := 4) (by kernel_rfl) (by kernel_rfl) (rdF_of hF.1).2 (b3 hg)))) <|
   .cons [15] (ok_valg (fun u2 => .pointer (some ⟨hdB p_a0_F, hdO p_a0_F + ((0 : Int).toNat) * 4 + 0, none⟩)) (fun u2 => ((decide ((a0.F.length : Int) > 0)) == true)) [false] 15) <|
   .cons [16] (ok_valL [32] (fun u2 => [rdl fr 4 p_a0_F c_a0_F a0.F en_TNode]) (fun u2 => vI t4.Op) (fun u2 => ((decide ((a0.F.length : Int) > 0)) == true)) [false] 16 (fun u2 w hg hF => ld_of (vs := [vI t4.Op]) (b := hdB p_a0_F) (off := hdO p_a0_F + ((0 : Int).toNat) * 4 + 0) (m := 1) (by kernel_rfl) (el_cells (rdF_of hF.1).2 en_TNode_len (ifp ht4 hg) 0 1 rfl))) <|
   .cons [17] (ok_valg (fun u2 => .bool (t4.Op == 4)) (fun u2 => ((decide ((a0.F.length : Int) > 0)) == true)) [false, true] 17) <|
   .cons [18] (ok_and 11 17 (fun u2 => true) (fun u2 => true) (fun u2 => decide ((a0.F.length : Int) > 0)) (fun u2 => (t4.Op == 4)) 18) <|
   .v 3 (.slice p_a0_F a0.F.length c_a0_F) <|
   .v 4 (.bool ((decide ((a0.F.length : Int) > 0)) && (t4.Op == 4))) <| .nil) fun u2 a w' H => ?_
 replace H := H.toM [(1, (sP ((u1 0).n 0) 0)), (2, (sP ((u1 1).n 0) 0)), (3, sS p_a0_F a0.F.length c_a0_F), (4, (sB ((decide ((a0.F.length : Int) > 0)) && (t4.Op == 4)))), (33, .blk ((u1 0).n 0) [.slice p_a0_F a0.F.length c_a0_F, vI a0.Dir] 31), (34, .blk ((u1 1).n 0) [.slice none 0 0, vI 0] 31), (32, rdl fr 4 p_a0_F c_a0_F a0.F en_TNode)]
 refine k_seq ?_
 refine k_seq ?_
 refine k_rg mixed H (.v 19 (.bool ((decide ((a0.F.length : Int) > 0)) && (t4.Op == 4))) <| .nil) fun u5 a w' H => ?_
 replace H := H.toM [(1, (sP ((u1 0).n 0) 0)), (2, (sP ((u1 1).n 0) 0)), (3, sS p_a0_F a0.F.length c_a0_F), (19, (sB ((decide ((a0.F.length : Int) > 0)) && (t4.Op == 4)))), (33, .blk ((u1 0).n 0) [.slice p_a0_F a0.F.length c_a0_F, vI a0.Dir] 31), (34, .blk ((u1 1).n 0) [.slice none 0 0, vI 0] 31), (32, rdl fr 4 p_a0_F c_a0_F a0.F en_TNode)]
 refine k_cond H (by kernel_rfl) (t := ((decide ((a0.F.length : Int) > 0)) && (t4.Op == 4))) (by kernel_rfl) (fun c12 => ?_) (fun c12 => ?_)
 ·rw [if_pos c12] at G
  replace G := gd G; obtain ⟨b7, G⟩ := G
  refine k_rg mixed H (.v 20 (.slice p_a0_F a0.F.length c_a0_F) <|
   .cons [21] (ok_val (fun u6 => .slice (viewP p_a0_F (1 : Int).toNat 4 c_a0_F) (a0.F.drop (1 : Int).toNat).length (c_a0_F - (1 : Int).toNat)) 21 (hv := fun _ _ => run_of (by kernel_rfl) (run_low (t := 22) (sz := 4) (l := a0.F) (k := .i64) rfl b7))) <|
   .v 3 (.slice (viewP p_a0_F (1 : Int).toNat 4 c_a0_F) (a0.F.drop (1 : Int).toNat).length (c_a0_F - (1 : Int).toNat)) <| .nil) fun u6 a w' H => ?_
  replace H := H.toM [(1, (sP ((u1 0).n 0) 0)), (2, (sP ((u1 1).n 0) 0)), (3, (sS (viewP p_a0_F (1 : Int).toNat 4 c_a0_F) (a0.F.drop (1 : Int).toNat).length (c_a0_F - (1 : Int).toNat))), (33, .blk ((u1 0).n 0) [.slice p_a0_F a0.F.length c_a0_F, vI a0.Dir] 31), (34, .blk ((u1 1).n 0) [.slice none 0 0, vI 0] 31), (32, rdl fr 4 p_a0_F c_a0_F a0.F en_TNode)]
  refine k_seq ?_
  refine k_rg mixed H (.v 27 (.slice (viewP p_a0_F (1 : Int).toNat 4 c_a0_F) (a0.F.drop (1 : Int).toNat).length (c_a0_F - (1 : Int).toNat)) <|
   .v 28 (vP ((u1 0).n 0) 1) <|
   .cons [29] (ok_ld (fun u8 => vI a0.Dir) 29 33 1 1 (fun u8 => ((u1 0).n 0)) (fun u8 => [.slice p_a0_F a0.F.length c_a0_F, vI a0.Dir]) 31) <|
   .v 30 (vI (w_i64 (0 - a0.Dir))) <|
   .v 31 (.agg #[.slice (viewP p_a0_F (1 : Int).toNat 4 c_a0_F) (a0.F.drop (1 : Int).toNat).length (c_a0_F - (1 : Int).toNat), vI (w_i64 (0 - a0.Dir))]) <|
   .cons [34] (ok_as (u' := fun u8 => [(34, .blk ((u1 1).n 0) [.slice (viewP p_a0_F (1 : Int).toNat 4 c_a0_F) (a0.F.drop (1 : Int).toNat).length (c_a0_F - (1 : Int).toNat), vI (w_i64 (0 - a0.Dir))] 31)]) (ok_store 34 0 (fun u8 => ((u1 1).n 0)) (fun u8 => [.slice none 0 0, vI 0]) (fun u8 => [.slice (viewP p_a0_F (1 : Int).toNat 4 c_a0_F) (a0.F.drop (1 : Int).toNat).length (c_a0_F - (1 : Int).toNat), vI (w_i64 (0 - a0.Dir))]) 31) (fun _ => by kernel_rfl)) <| .nil) fun u8 a w' H => ?_
  replace H := H.toM [(2, (sP ((u1 1).n 0) 0)), (34, .blk ((u1 1).n 0) [.slice (viewP p_a0_F (1 : Int).toNat 4 c_a0_F) (a0.F.drop (1 : Int).toNat).length (c_a0_F - (1 : Int).toNat), vI (w_i64 (0 - a0.Dir))] 31), (32, rdl fr 4 p_a0_F c_a0_F a0.F en_TNode)]
  refine k_ret ?_
  obtain rfl := Option.some.inj G
  rw [show frP w.heap.size (insV ((#[.agg #[.slice p_a0_F a0.F.length c_a0_F, vI a0.Dir]] : Array Value).toList)) = fr from by rw [hfr]; exact congrArg (frP w.heap.size) (by kernel_rfl)]
  exact k_doneF H (fun g => .agg #[.slice (g.o 0) (a0.F.drop (1 : Int).toNat).length (g.n 0), vI (w_i64 (0 - a0.Dir))]) ⟨fun i => [(c_a0_F - (1 : Int).toNat)].getD i 0, fun i => [(viewP p_a0_F (1 : Int).toNat 4 c_a0_F)].getD i none⟩ fr [(4, (a0.F.drop (1 : Int).toNat).length, (a0.F.drop (1 : Int).toNat).flatMap en_TNode)] [(34, ⟨((u1 1).n 0), [.slice (viewP p_a0_F (1 : Int).toNat 4 c_a0_F) (a0.F.drop (1 : Int).toNat).length (c_a0_F - (1 : Int).toNat), vI (w_i64 (0 - a0.Dir))], 0, 2⟩)] (rowsF_cons (by decide) (And.imp (fun q => (RowC.low (en := en_TNode) q en_TNode_len b7)) (fun f j h => f j (fpRow_low (by simp) h)) (H.rdRow (fr := fr) (sz := 4) (m := a0.F.length) (cap := c_a0_F) (p := p_a0_F) (xs := a0.F.flatMap en_TNode) 32 (by kernel_rfl))) rfl rfl rowsF_nil) (by kernel_rfl) (by intro p hp; simp only [List.mem_cons, List.not_mem_nil, or_false] at hp; rcases hp with rfl; exact ⟨⟨31, by kernel_rfl⟩, by kernel_rfl⟩) (by kernel_rfl)
 ·rw [if_neg (nt c12)] at G
  replace G := bnd G; obtain ⟨t10, ht10, G⟩ := G
  refine k_rg mixed H (.v 22 (.agg #[vI 4, vI 0, vI 0, vI 0]) <|
   .cons [23, 35] (ok_blkrow 4 1 (ok_new (fun b => .slice (some ⟨b, 0, none⟩) 1 1) (fun u9 => [vI 4, vI 0, vI 0, vI 0]) 53 23 35) (fun _ => rfl) (by decide)) <|
   .v 24 (.slice p_a0_F a0.F.length c_a0_F) <|
   .cons [25, 36] (ok_blkrow 1 2 (ok_new (fun b => .slice (some ⟨b, 0, none⟩) 2 2) (fun u9 => [.slice (some ⟨((u9 1).n 0), 0, none⟩) ([(⟨4, 0, (⟨0, 0⟩ : TInterval)⟩ : TNode)] : List TNode).length 1, .slice p_a0_F a0.F.length c_a0_F]) 22 25 36) (fun _ => rfl) (by decide)) <|
   .cons [26, 37] (ok_callRL [36, 35, 32] (fun u9 => [owK 22 1 (some ⟨((u9 3).n 0), 0, none⟩) ([⟨(some ⟨((u9 1).n 0), 0, none⟩), 1, ([(⟨4, 0, (⟨0, 0⟩ : TInterval)⟩ : TNode)] : List TNode)⟩, ⟨p_a0_F, c_a0_F, a0.F⟩] : List (Sl TNode)).length 2 (([⟨(some ⟨((u9 1).n 0), 0, none⟩), 1, ([(⟨4, 0, (⟨0, 0⟩ : TInterval)⟩ : TNode)] : List TNode)⟩, ⟨p_a0_F, c_a0_F, a0.F⟩] : List (Sl TNode)).flatMap enSl), owK 53 4 (some ⟨((u9 1).n 0), 0, none⟩) ([(⟨4, 0, (⟨0, 0⟩ : TInterval)⟩ : TNode)] : List TNode).length 1 (([(⟨4, 0, (⟨0, 0⟩ : TInterval)⟩ : TNode)] : List TNode).flatMap en_TNode), rdl fr 4 p_a0_F c_a0_F a0.F en_TNode]) 38 (fun u9 => #[.slice (some ⟨((u9 3).n 0), 0, none⟩) ([⟨(some ⟨((u9 1).n 0), 0, none⟩), 1, ([(⟨4, 0, (⟨0, 0⟩ : TInterval)⟩ : TNode)] : List TNode)⟩, ⟨p_a0_F, c_a0_F, a0.F⟩] : List (Sl TNode)).length 2]) (fun p cap => .slice p t10.length cap) 53 4 t10.length (t10.flatMap en_TNode) 26 37 (fun u9 w hF => api_Node_38.calls k0 ([([(⟨4, 0, (⟨0, 0⟩ : TInterval)⟩ : TNode)] : List TNode), a0.F] : List (List TNode)) (some ⟨((u9 3).n 0), 0, none⟩) 2 ([⟨(some ⟨((u9 1).n 0), 0, none⟩), 1, ([(⟨4, 0, (⟨0, 0⟩ : TInterval)⟩ : TNode)] : List TNode)⟩, ⟨p_a0_F, c_a0_F, a0.F⟩] : List (Sl TNode)) t10 w (owns_rowC (ow_of hF.1)) rfl (rowsC_cons (owns_rowC (ow_of hF.2.1)) (rowsC_cons (rdF_of hF.2.2.1) rowsC_nil)) ht10)) <|
   .cons [3] (ok_val (fun u9 => .slice ((u9 4).o 0) t10.length ((u9 4).n 0)) 3) <| .nil) fun u9 a w' H => ?_
  replace H := H.toM [(1, (sP ((u1 0).n 0) 0)), (2, (sP ((u1 1).n 0) 0)), (3, (sS ((u9 4).o 0) t10.length ((u9 4).n 0))), (33, .blk ((u1 0).n 0) [.slice p_a0_F a0.F.length c_a0_F, vI a0.Dir] 31), (34, .blk ((u1 1).n 0) [.slice none 0 0, vI 0] 31), (32, rdl fr 4 p_a0_F c_a0_F a0.F en_TNode), (37, owK 53 4 ((u9 4).o 0) t10.length ((u9 4).n 0) (t10.flatMap en_TNode))]
  refine k_seq ?_
  refine k_rg mixed H (.v 27 (.slice ((u9 4).o 0) t10.length ((u9 4).n 0)) <|
   .v 28 (vP ((u1 0).n 0) 1) <|
   .cons [29] (ok_ld (fun u11 => vI a0.Dir) 29 33 1 1 (fun u11 => ((u1 0).n 0)) (fun u11 => [.slice p_a0_F a0.F.length c_a0_F, vI a0.Dir]) 31) <|
   .v 30 (vI (w_i64 (0 - a0.Dir))) <|
   .v 31 (.agg #[.slice ((u9 4).o 0) t10.length ((u9 4).n 0), vI (w_i64 (0 - a0.Dir))]) <|
   .cons [34] (ok_as (u' := fun u11 => [(34, .blk ((u1 1).n 0) [.slice ((u9 4).o 0) t10.length ((u9 4).n 0), vI (w_i64 (0 - a0.Dir))] 31)]) (ok_store 34 0 (fun u11 => ((u1 1).n 0)) (fun u11 => [.slice none 0 0, vI 0]) (fun u11 => [.slice ((u9 4).o 0) t10.length ((u9 4).n 0), vI (w_i64 (0 - a0.Dir))]) 31) (fun _ => by kernel_rfl)) <| .nil) fun u11 a w' H => ?_
  replace H := H.toM [(2, (sP ((u1 1).n 0) 0)), (34, .blk ((u1 1).n 0) [.slice ((u9 4).o 0) t10.length ((u9 4).n 0), vI (w_i64 (0 - a0.Dir))] 31), (37, owK 53 4 ((u9 4).o 0) t10.length ((u9 4).n 0) (t10.flatMap en_TNode))]
  refine k_ret ?_
  obtain rfl := Option.some.inj G
  rw [show frP w.heap.size (insV ((#[.agg #[.slice p_a0_F a0.F.length c_a0_F, vI a0.Dir]] : Array Value).toList)) = fr from by rw [hfr]; exact congrArg (frP w.heap.size) (by kernel_rfl)]
  exact k_doneF H (fun g => .agg #[.slice (g.o 0) t10.length (g.n 0), vI (w_i64 (0 - a0.Dir))]) ⟨fun i => [((u9 4).n 0)].getD i 0, fun i => [((u9 4).o 0)].getD i none⟩ fr [(4, t10.length, t10.flatMap en_TNode)] [(34, ⟨((u1 1).n 0), [.slice ((u9 4).o 0) t10.length ((u9 4).n 0), vI (w_i64 (0 - a0.Dir))], 0, 2⟩)] (rowsF_cons (by decide) (And.imp id (fun f j h => hB j (f j h)) (H.owRow (e := 53) (sz := 4) (m := t10.length) (cap := ((u9 4).n 0)) (p := ((u9 4).o 0)) (xs := t10.flatMap en_TNode) 37 (by kernel_rfl))) rfl rfl rowsF_nil) (by kernel_rfl) (by intro p hp; simp only [List.mem_cons, List.not_mem_nil, or_false] at hp; rcases hp with rfl; exact ⟨⟨31, by kernel_rfl⟩, by kernel_rfl⟩) (by kernel_rfl)

set_option maxHeartbeats 4000000 in
theorem guard_values_upward.calls (a0 : Tvalues) (r : Int) (w : World) (G : guard_values_upward a0 = some r) :
  Calls Tryd.prog 40 #[.agg #[vI a0.whole.Lo, vI a0.whole.Hi, vI a0.start.Lo, vI a0.start.Hi, vI a0.end_.Lo, vI a0.end_.Hi]] w fun e w' => e = .returned (vI r) ∧ Below w.heap.size w w' := by
 refine k_enter (args := [.agg #[vI a0.whole.Lo, vI a0.whole.Hi, vI a0.start.Lo, vI a0.start.Hi, vI a0.end_.Lo, vI a0.end_.Hi]]) 23 Tryd.func40 rfl (by kernel_rfl) (by kernel_rfl) fun a H => ?_
 unfold guard_values_upward at G
 refine k_seq ?_
 refine k_rg mixed H (.cons [1, 23] (ok_new (fun b => vP b 0) (fun u1 => [vI a0.whole.Lo, vI a0.whole.Hi, vI a0.start.Lo, vI a0.start.Hi, vI a0.end_.Lo, vI a0.end_.Hi]) 69 1 23) <|
   .v 2 (vI 0) <| .nil) fun u1 a w' H => ?_
 replace H := H.toM [(1, (sP ((u1 0).n 0) 0)), (23, .blk ((u1 0).n 0) [vI a0.whole.Lo, vI a0.whole.Hi, vI a0.start.Lo, vI a0.start.Hi, vI a0.end_.Lo, vI a0.end_.Hi] 69)]
 refine k_seq ?_
 refine k_block ?_
 refine k_seq ?_
 refine k_rg mixed H (.v 4 (vP ((u1 0).n 0) 2) <|
   .v 5 (vP ((u1 0).n 0) 3) <|
   .cons [6] (ok_ld (fun u2 => vI a0.start.Hi) 6 23 3 1 (fun u2 => ((u1 0).n 0)) (fun u2 => [vI a0.whole.Lo, vI a0.whole.Hi, vI a0.start.Lo, vI a0.start.Hi, vI a0.end_.Lo, vI a0.end_.Hi]) 69) <|
   .v 7 (.bool (decide (a0.start.Hi < 0))) <|
   .v 8 (.bool (decide (a0.start.Hi < 0))) <|
   .cons [9] (ok_valg (fun u2 => vP ((u1 0).n 0) 4) (fun u2 => ((decide (a0.start.Hi < 0)) == true)) [true] 9) <|
   .cons [10] (ok_valg (fun u2 => vP ((u1 0).n 0) 4) (fun u2 => ((decide (a0.start.Hi < 0)) == true)) [false] 10) <|
   .cons [11] (ok_ldg (fun u2 => vI a0.end_.Lo) (fun u2 => ((decide (a0.start.Hi < 0)) == true)) [false] 11 23 4 1 (fun u2 => ((u1 0).n 0)) (fun u2 => [vI a0.whole.Lo, vI a0.whole.Hi, vI a0.start.Lo, vI a0.start.Hi, vI a0.end_.Lo, vI a0.end_.Hi]) 69) <|
   .cons [12] (ok_valg (fun u2 => .bool (decide (a0.end_.Lo ≥ 0))) (fun u2 => ((decide (a0.start.Hi < 0)) == true)) [false, true] 12) <|
   .cons [13] (ok_and 8 12 (fun u2 => true) (fun u2 => true) (fun u2 => decide (a0.start.Hi < 0)) (fun u2 => decide (a0.end_.Lo ≥ 0)) 13) <|
   .v 3 (.bool ((decide (a0.start.Hi < 0)) && (decide (a0.end_.Lo ≥ 0)))) <| .nil) fun u2 a w' H => ?_
 replace H := H.toM [(1, (sP ((u1 0).n 0) 0)), (3, (sB ((decide (a0.start.Hi < 0)) && (decide (a0.end_.Lo ≥ 0))))), (23, .blk ((u1 0).n 0) [vI a0.whole.Lo, vI a0.whole.Hi, vI a0.start.Lo, vI a0.start.Hi, vI a0.end_.Lo, vI a0.end_.Hi] 69)]
 refine k_cond H (by kernel_rfl) (t := ((decide (a0.start.Hi < 0)) && (decide (a0.end_.Lo ≥ 0)))) (by kernel_rfl) (fun c12 => ?_) (fun c12 => ?_)
 ·rw [if_pos c12] at G
  refine k_seq ?_
  refine k_rg mixed H (.v 2 (vI 2) <| .nil) fun u3 a w' H => ?_
  replace H := H.toM [(2, sI 2)]
  refine k_ret ?_
  obtain rfl := Option.some.inj G
  exact k_done0 H _ (by kernel_rfl) (by kernel_rfl)
 ·rw [if_neg (nt c12)] at G
  refine k_seq ?_
  replace G := bnd G; obtain ⟨j5, hj5, G⟩ := G
  refine k_join (fun a w' => Rep w.heap.size w 23 (ofL [(14, sB j5)]) a w') ?_ ?_
  ·clear H; intro a w' H
   refine k_cond H (by kernel_rfl) (t := j5) (by kernel_rfl) (fun c8 => ?_) (fun c8 => ?_)
   ·rw [if_pos c8] at G
    refine k_seq ?_
    refine k_rg mixed H (.v 2 (vI 0) <| .nil) fun u6 a w' H => ?_
    replace H := H.toM [(2, sI 0)]
    refine k_ret ?_
    obtain rfl := Option.some.inj G
    exact k_done0 H _ (by kernel_rfl) (by kernel_rfl)
   ·rw [if_neg (nt c8)] at G
    refine k_skip ?_
    refine k_seq ?_
    refine k_rg mixed H (.v 2 (vI 1) <| .nil) fun u7 a w' H => ?_
    replace H := H.toM [(2, sI 1)]
    refine k_ret ?_
    obtain rfl := Option.some.inj G
    exact k_done0 H _ (by kernel_rfl) (by kernel_rfl)
  ·clear G; replace G := hj5; clear hj5
   refine k_seq ?_
   refine k_rg mixed H (.v 15 (vP ((u1 0).n 0) 0) <|
   .v 16 (vP ((u1 0).n 0) 1) <|
   .cons [17] (ok_ld (fun u9 => vI a0.whole.Hi) 17 23 1 1 (fun u9 => ((u1 0).n 0)) (fun u9 => [vI a0.whole.Lo, vI a0.whole.Hi, vI a0.start.Lo, vI a0.start.Hi, vI a0.end_.Lo, vI a0.end_.Hi]) 69) <|
   .v 18 (.bool (decide (a0.whole.Hi < 0))) <|
   .v 14 (.bool (decide (a0.whole.Hi < 0))) <| .nil) fun u9 a w' H => ?_
   replace H := H.toM [(1, (sP ((u1 0).n 0) 0)), (14, (sB (decide (a0.whole.Hi < 0)))), (23, .blk ((u1 0).n 0) [vI a0.whole.Lo, vI a0.whole.Hi, vI a0.start.Lo, vI a0.start.Hi, vI a0.end_.Lo, vI a0.end_.Hi] 69)]
   refine k_cond H (by kernel_rfl) (t := decide (a0.whole.Hi < 0)) (by kernel_rfl) (fun c11 => ?_) (fun c11 => ?_)
   ·rw [if_pos c11] at G
    refine k_skip ?_
    obtain rfl := Option.some.inj G
    exact H.toL _ (by kernel_rfl)
   ·rw [if_neg (nt c11)] at G
    refine k_rg mixed H (.v 19 (vP ((u1 0).n 0) 0) <|
   .v 20 (vP ((u1 0).n 0) 0) <|
   .cons [21] (ok_ld (fun u10 => vI a0.whole.Lo) 21 23 0 1 (fun u10 => ((u1 0).n 0)) (fun u10 => [vI a0.whole.Lo, vI a0.whole.Hi, vI a0.start.Lo, vI a0.start.Hi, vI a0.end_.Lo, vI a0.end_.Hi]) 69) <|
   .v 22 (.bool (decide (a0.whole.Lo ≥ 0))) <|
   .v 14 (.bool (decide (a0.whole.Lo ≥ 0))) <| .nil) fun u10 a w' H => ?_
    replace H := H.toM [(14, (sB (decide (a0.whole.Lo ≥ 0))))]
    obtain rfl := Option.some.inj G
    exact H.toL _ (by kernel_rfl)

set_option maxHeartbeats 4000000 in
theorem guard_values_negated.calls (a0 : Tvalues) (r : Tvalues) (w : World) (G : guard_values_negated a0 = some r) :
  Calls Tryd.prog 41 #[.agg #[vI a0.whole.Lo, vI a0.whole.Hi, vI a0.start.Lo, vI a0.start.Hi, vI a0.end_.Lo, vI a0.end_.Hi]] w fun e w' => e = .returned (.agg #[vI r.whole.Lo, vI r.whole.Hi, vI r.start.Lo, vI r.start.Hi, vI r.end_.Lo, vI r.end_.Hi]) ∧ Below w.heap.size w w' := by
 refine k_enter (args := [.agg #[vI a0.whole.Lo, vI a0.whole.Hi, vI a0.start.Lo, vI a0.start.Hi, vI a0.end_.Lo, vI a0.end_.Hi]]) 13 Tryd.func41 rfl (by kernel_rfl) (by kernel_rfl) fun a H => ?_
 unfold guard_values_negated at G
 refine k_seq ?_
 refine k_rg mixed H (.cons [1, 13] (ok_new (fun b => vP b 0) (fun u1 => [vI a0.whole.Lo, vI a0.whole.Hi, vI a0.start.Lo, vI a0.start.Hi, vI a0.end_.Lo, vI a0.end_.Hi]) 69 1 13) <|
   .cons [2, 14] (ok_new (fun b => vP b 0) (fun u1 => [vI 0, vI 0, vI 0, vI 0, vI 0, vI 0]) 69 2 14) <| .nil) fun u1 a w' H => ?_
 replace H := H.toM [(1, (sP ((u1 0).n 0) 0)), (2, (sP ((u1 1).n 0) 0)), (13, .blk ((u1 0).n 0) [vI a0.whole.Lo, vI a0.whole.Hi, vI a0.start.Lo, vI a0.start.Hi, vI a0.end_.Lo, vI a0.end_.Hi] 69), (14, .blk ((u1 1).n 0) [vI 0, vI 0, vI 0, vI 0, vI 0, vI 0] 69)]
 refine k_seq ?_
 replace G := bnd G; obtain ⟨t3, ht3, G⟩ := G
 replace G := bnd G; obtain ⟨t4, ht4, G⟩ := G
 replace G := bnd G; obtain ⟨t5, ht5, G⟩ := G
 refine k_rg mixed H (.v 3 (vP ((u1 0).n 0) 0) <|
   .cons [4] (ok_ld (fun u2 => .agg #[vI a0.whole.Lo, vI a0.whole.Hi]) 4 13 0 2 (fun u2 => ((u1 0).n 0)) (fun u2 => [vI a0.whole.Lo, vI a0.whole.Hi, vI a0.start.Lo, vI a0.start.Hi, vI a0.end_.Lo, vI a0.end_.Hi]) 69) <|
   .cons [5] (ok_callv 59 (fun u2 => #[.agg #[vI a0.whole.Lo, vI a0.whole.Hi]]) (.agg #[vI t3.Lo, vI t3.Hi]) 5 [] (fun _ w _ => interval_Neg.calls (⟨a0.whole.Lo, a0.whole.Hi⟩ : TInterval) t3 w ht3)) <|
   .v 6 (vP ((u1 0).n 0) 2) <|
   .cons [7] (ok_ld (fun u2 => .agg #[vI a0.start.Lo, vI a0.start.Hi]) 7 13 2 2 (fun u2 => ((u1 0).n 0)) (fun u2 => [vI a0.whole.Lo, vI a0.whole.Hi, vI a0.start.Lo, vI a0.start.Hi, vI a0.end_.Lo, vI a0.end_.Hi]) 69) <|
   .cons [8] (ok_callv 59 (fun u2 => #[.agg #[vI a0.start.Lo, vI a0.start.Hi]]) (.agg #[vI t4.Lo, vI t4.Hi]) 8 [] (fun _ w _ => interval_Neg.calls (⟨a0.start.Lo, a0.start.Hi⟩ : TInterval) t4 w ht4)) <|
   .v 9 (vP ((u1 0).n 0) 4) <|
   .cons [10] (ok_ld (fun u2 => .agg #[vI a0.end_.Lo, vI a0.end_.Hi]) 10 13 4 2 (fun u2 => ((u1 0).n 0)) (fun u2 => [vI a0.whole.Lo, vI a0.whole.Hi, vI a0.start.Lo, vI a0.start.Hi, vI a0.end_.Lo, vI a0.end_.Hi]) 69) <|
   .cons [11] (ok_callv 59 (fun u2 => #[.agg #[vI a0.end_.Lo, vI a0.end_.Hi]]) (.agg #[vI t5.Lo, vI t5.Hi]) 11 [] (fun _ w _ => interval_Neg.calls (⟨a0.end_.Lo, a0.end_.Hi⟩ : TInterval) t5 w ht5)) <|
   .v 12 (.agg #[vI t3.Lo, vI t3.Hi, vI t4.Lo, vI t4.Hi, vI t5.Lo, vI t5.Hi]) <|
   .cons [14] (ok_as (u' := fun u2 => [(14, .blk ((u1 1).n 0) [vI t3.Lo, vI t3.Hi, vI t4.Lo, vI t4.Hi, vI t5.Lo, vI t5.Hi] 69)]) (ok_store 14 0 (fun u2 => ((u1 1).n 0)) (fun u2 => [vI 0, vI 0, vI 0, vI 0, vI 0, vI 0]) (fun u2 => [vI t3.Lo, vI t3.Hi, vI t4.Lo, vI t4.Hi, vI t5.Lo, vI t5.Hi]) 69) (fun _ => by kernel_rfl)) <| .nil) fun u2 a w' H => ?_
 replace H := H.toM [(2, (sP ((u1 1).n 0) 0)), (14, .blk ((u1 1).n 0) [vI t3.Lo, vI t3.Hi, vI t4.Lo, vI t4.Hi, vI t5.Lo, vI t5.Hi] 69)]
 refine k_ret ?_
 obtain rfl := Option.some.inj G
 exact k_done1 H _ 14 ((u1 1).n 0) [vI t3.Lo, vI t3.Hi, vI t4.Lo, vI t4.Hi, vI t5.Lo, vI t5.Hi] 69 0 6 (by kernel_rfl) (by kernel_rfl) (by kernel_rfl) (by kernel_rfl)

set_option maxHeartbeats 4000000 in
theorem slices_Index_int_int.calls (k0 : Nat) (a0 : List Int) (a1 : Int) (p_a0 : Option Addr) (c_a0 : Nat) (r : Int) (w : World) (R_p_a0 : RowC w 1 p_a0 a0.length c_a0 (a0.flatMap en_i64)) (G : slices_Index_int_int k0 a0 a1 = some r) :
  Calls Tryd.prog 74 #[.slice p_a0 a0.length c_a0, vI a1] w fun e w' => e = .returned (vI r) ∧ Below w.heap.size w w' := by
 obtain ⟨fr, hfr⟩ : ∃ fr : Nat → Prop, ∀ j, fr j := ⟨fun _ => True, fun _ => trivial⟩
 have hB : ∀ j, w.heap.size ≤ j → fr j := fun j _ => hfr j
 have hin_p_a0 : ∀ j, fpRow p_a0 a0.length j → fr j := fun j _ => hfr j
 refine k_enterF (args := [.slice p_a0 a0.length c_a0, vI a1]) 19 [(19, rdl fr 1 p_a0 c_a0 a0 en_i64)] (by
  intro x hx
  simp only [List.mem_cons, List.not_mem_nil, or_false] at hx
  rcases hx with rfl
  exact rdF_fact R_p_a0 hin_p_a0 (by decide) _) Tryd.func74 rfl (by kernel_rfl) (by kernel_rfl) fun a H => ?_
 unfold slices_Index_int_int at G
 refine k_seq ?_
 refine k_rg mixed H (.v 4 (vI 0) <| .nil) fun u1 a w' H => ?_
 replace H := H.toM [(0, sS p_a0 a0.length c_a0), (1, sI a1), (19, rdl fr 1 p_a0 c_a0 a0 en_i64)]
 refine k_seq ?_
 replace G := bnd G; obtain ⟨j2, hj2, Gj2⟩ := G
 refine k_join (fun a w' => ∃ j2v, j2 = Sum.inr j2v ∧ Rep w.heap.size w 19 (ofL []) a w') ?_ ?_
 ·clear H; rintro a w' ⟨j2v, rfl, H⟩; have G := Gj2; clear Gj2; dsimp only at G
  refine k_seq ?_
  refine k_rg mixed H (.v 4 (vI (-1)) <| .nil) fun u3 a w' H => ?_
  replace H := H.toM [(4, (sI (-1)))]
  refine k_ret ?_
  obtain rfl := Option.some.inj G
  exact k_done0 H _ (by kernel_rfl) (by kernel_rfl)
 ·have G := hj2; clear hj2
  refine k_seq ?_
  refine k_rg mixed H (.v 6 (.slice p_a0 a0.length c_a0) <|
   .v 7 (vI (a0.length : Int)) <|
   .v 8 (vI 0) <| .nil) fun u4 a w' H => ?_
  replace H := H.toM [(0, sS p_a0 a0.length c_a0), (1, sI a1), (7, (sI (a0.length : Int))), (8, sI 0), (19, rdl fr 1 p_a0 c_a0 a0 en_i64)]
  refine k_block ?_
  refine k_loopJ (fun m a w' => ∃ x5 : Int, slices_Index_int_int.l6 k0 a0 a1 m x5 = some j2 ∧ Rep w.heap.size w 19 (ofL [(0, sS p_a0 a0.length c_a0), (1, sI a1), (7, (sI (a0.length : Int))), (8, sI x5), (19, rdl fr 1 p_a0 c_a0 a0 en_i64)]) a w') k0 ⟨_, G, H.toL _ (by kernel_rfl)⟩ ?_
  clear G H
  rintro (_ | k) a w' ⟨x5, G, H⟩
  ·exact absurd G (by unfold slices_Index_int_int.l6; exact fun h => by cases h)
  ·unfold slices_Index_int_int.l6 at G
   refine k_seq ?_
   refine k_rg mixed H (.v 9 (.bool (decide (x5 < (a0.length : Int)))) <| .nil) fun u7 a w' H => ?_
   replace H := H.toM [(0, sS p_a0 a0.length c_a0), (1, sI a1), (7, (sI (a0.length : Int))), (8, sI x5), (9, (sB (decide (x5 < (a0.length : Int))))), (19, rdl fr 1 p_a0 c_a0 a0 en_i64)]
   refine k_seq ?_
   refine k_cond H (by kernel_rfl) (t := decide (x5 < (a0.length : Int))) (by kernel_rfl) (fun c15 => ?_) (fun c15 => ?_)
   ·rw [if_pos c15] at G
    refine k_skip ?_
    refine k_seq ?_
    refine k_block ?_
    refine k_seq ?_
    refine k_rg mixed H (.v 10 (vI x5) <|
   .v 5 (vI x5) <| .nil) fun u8 a w' H => ?_
    replace H := H.toM [(0, sS p_a0 a0.length c_a0), (1, sI a1), (5, sI x5), (7, (sI (a0.length : Int))), (8, sI x5), (19, rdl fr 1 p_a0 c_a0 a0 en_i64)]
    refine k_seq ?_
    replace G := gd G; obtain ⟨b10, G⟩ := G
    replace G := bnd G; obtain ⟨t11, ht11, G⟩ := G
    refine k_rg mixed H (.v 11 (vI a1) <|
   .v 12 (.slice p_a0 a0.length c_a0) <|
   .v 13 (vI x5) <|
   .cons [14] (ok_valL [19] (fun u9 => [rdl fr 1 p_a0 c_a0 a0 en_i64]) (fun u9 => .pointer (some ⟨hdB p_a0, hdO p_a0 + x5.toNat * 1, none⟩)) (fun u9 => true) [true, true] 14 (fun u9 w hg hF => run_of (by kernel_rfl) (run_ix (t := 74) (p := p_a0) (n := a0.length) (cap := c_a0) (k := .i64) (i := x5) (sz := 1) (by kernel_rfl) (by kernel_rfl) (rdF_of hF.1).2 b10))) <|
   .cons [15] (ok_valL [19] (fun u9 => [rdl fr 1 p_a0 c_a0 a0 en_i64]) (fun u9 => vI t11) (fun u9 => true) [true] 15 (fun u9 w hg hF => ld_of (vs := [vI t11]) (b := hdB p_a0) (off := hdO p_a0 + x5.toNat * 1 + 0) (m := 1) (by kernel_rfl) (el_cells (rdF_of hF.1).2 en_i64_len ht11 0 1 rfl))) <|
   .v 16 (.bool (a1 == t11)) <| .nil) fun u9 a w' H => ?_
    replace H := H.toM [(0, sS p_a0 a0.length c_a0), (1, sI a1), (5, sI x5), (7, (sI (a0.length : Int))), (8, sI x5), (16, (sB (a1 == t11))), (19, rdl fr 1 p_a0 c_a0 a0 en_i64)]
    refine k_cond H (by kernel_rfl) (t := (a1 == t11)) (by kernel_rfl) (fun c14 => ?_) (fun c14 => ?_)
    ·rw [if_pos c14] at G
     refine k_seq ?_
     refine k_rg mixed H (.v 17 (vI x5) <|
   .v 4 (vI x5) <| .nil) fun u12 a w' H => ?_
     replace H := H.toM [(4, sI x5)]
     refine k_ret ?_
     obtain rfl := Option.some.inj G
     replace G := Gj2
     obtain rfl := Option.some.inj G
     exact k_done0 H _ (by kernel_rfl) (by kernel_rfl)
    ·rw [if_neg (nt c14)] at G
     refine k_skip ?_
     refine k_rg mixed H (.v 18 (vI (w_i64 (x5 + 1))) <|
   .v 8 (vI (w_i64 (x5 + 1))) <| .nil) fun u13 a w' H => ?_
     replace H := H.toM [(0, sS p_a0 a0.length c_a0), (1, sI a1), (7, (sI (a0.length : Int))), (8, (sI (w_i64 (x5 + 1)))), (19, rdl fr 1 p_a0 c_a0 a0 en_i64)]
     exact ⟨k, Nat.lt_succ_self k, _, G, H.toL _ (by kernel_rfl)⟩
   ·rw [if_neg (nt c15)] at G
    refine k_exit rfl ?_
    obtain rfl := Option.some.inj G
    exact ⟨_, rfl, H.toL _ (by kernel_rfl)⟩

set_option maxHeartbeats 4000000 in
theorem slices_Contains_int_int.calls (k0 : Nat) (a0 : List Int) (a1 : Int) (p_a0 : Option Addr) (c_a0 : Nat) (r : Bool) (w : World) (R_p_a0 : RowC w 1 p_a0 a0.length c_a0 (a0.flatMap en_i64)) (G : slices_Contains_int_int k0 a0 a1 = some r) :
  Calls Tryd.prog 42 #[.slice p_a0 a0.length c_a0, vI a1] w fun e w' => e = .returned (.bool r) ∧ Below w.heap.size w w' := by
 obtain ⟨fr, hfr⟩ : ∃ fr : Nat → Prop, ∀ j, fr j := ⟨fun _ => True, fun _ => trivial⟩
 have hB : ∀ j, w.heap.size ≤ j → fr j := fun j _ => hfr j
 have hin_p_a0 : ∀ j, fpRow p_a0 a0.length j → fr j := fun j _ => hfr j
 refine k_enterF (args := [.slice p_a0 a0.length c_a0, vI a1]) 9 [(9, rdl fr 1 p_a0 c_a0 a0 en_i64)] (by
  intro x hx
  simp only [List.mem_cons, List.not_mem_nil, or_false] at hx
  rcases hx with rfl
  exact rdF_fact R_p_a0 hin_p_a0 (by decide) _) Tryd.func42 rfl (by kernel_rfl) (by kernel_rfl) fun a H => ?_
 unfold slices_Contains_int_int at G
 refine k_seq ?_
 refine k_rg mixed H (.v 4 (.bool false) <| .nil) fun u1 a w' H => ?_
 replace H := H.toM [(0, sS p_a0 a0.length c_a0), (1, sI a1), (9, rdl fr 1 p_a0 c_a0 a0 en_i64)]
 refine k_seq ?_
 replace G := bnd G; obtain ⟨t3, ht3, G⟩ := G
 refine k_rg mixed H (.v 5 (.slice p_a0 a0.length c_a0) <|
   .v 6 (vI a1) <|
   .cons [7] (ok_callL [9] (fun u2 => [rdl fr 1 p_a0 c_a0 a0 en_i64]) 74 (fun u2 => #[.slice p_a0 a0.length c_a0, vI a1]) (vI t3) 7 (fun u2 w hF => slices_Index_int_int.calls k0 a0 a1 p_a0 c_a0 t3 w (rdF_of hF.1) ht3)) <|
   .v 8 (.bool (decide (t3 ≥ 0))) <|
   .v 4 (.bool (decide (t3 ≥ 0))) <| .nil) fun u2 a w' H => ?_
 replace H := H.toM [(4, (sB (decide (t3 ≥ 0))))]
 refine k_ret ?_
 obtain rfl := Option.some.inj G
 exact k_done0 H _ (by kernel_rfl) (by kernel_rfl)

set_option maxHeartbeats 4000000 in
theorem guard_Crossing_1.calls (k0 : Nat) (a0 : List TInterval) (a1 : Int) (a2 : Int) (q3_0 : TGuard) (p_a0 : Option Addr) (c_a0 : Nat) (p_q3_0_F : Option Addr) (c_q3_0_F : Nat) (b_q3_0 : Nat) (r : TInterval) (w : World) (hg : Glob w) (R_p_a0 : RowC w 2 p_a0 a0.length c_a0 (a0.flatMap en_TInterval)) (R_p_q3_0_F : RowC w 4 p_q3_0_F q3_0.F.length c_q3_0_F (q3_0.F.flatMap en_TNode)) (X_b_q3_0 : w.heap[b_q3_0]? = some (.cells [.slice p_q3_0_F q3_0.F.length c_q3_0_F, vI q3_0.Dir].toArray 31 (0, 0))) (G : guard_Crossing_1 k0 a0 a1 a2 q3_0 = some r) :
  Calls Tryd.prog 39 #[.slice p_a0 a0.length c_a0, vI a1, vI a2, vP b_q3_0 0] w fun e w' => e = .returned (.agg #[vI r.Lo, vI r.Hi]) ∧ Below w.heap.size w w' := by
 obtain ⟨fr, hfr⟩ : ∃ fr : Nat → Prop, ∀ j, fr j := ⟨fun _ => True, fun _ => trivial⟩
 have hB : ∀ j, w.heap.size ≤ j → fr j := fun j _ => hfr j
 have hin_p_a0 : ∀ j, fpRow p_a0 a0.length j → fr j := fun j _ => hfr j
 have hin_p_q3_0_F : ∀ j, fpRow p_q3_0_F q3_0.F.length j → fr j := fun j _ => hfr j
 refine k_enterF (args := [.slice p_a0 a0.length c_a0, vI a1, vI a2, vP b_q3_0 0]) 14 [(15, rdl fr 2 p_a0 c_a0 a0 en_TInterval), (16, rdl fr 4 p_q3_0_F c_q3_0_F q3_0.F en_TNode), (14, bxK b_q3_0 [.slice p_q3_0_F q3_0.F.length c_q3_0_F, vI q3_0.Dir] 31), (999999, gk)] (by
  intro x hx
  simp only [List.mem_cons, List.not_mem_nil, or_false] at hx
  rcases hx with rfl | rfl | rfl | rfl
  ·exact rdF_fact R_p_a0 hin_p_a0 (by decide) _
  ·exact rdF_fact R_p_q3_0_F hin_p_q3_0_F (by decide) _
  ·exact bx_fact X_b_q3_0 14
  ·exact ⟨⟨_, _, rfl⟩, glob_local hg, glob_in hg⟩) Tryd.func39 rfl (by kernel_rfl) (by kernel_rfl) fun a H => ?_
 unfold guard_Crossing_1 at G
 refine k_seq ?_
 refine k_rg mixed H (.cons [7, 17] (ok_new (fun b => vP b 0) (fun u1 => [vI 0, vI 0]) 38 7 17) <| .nil) fun u1 a w' H => ?_
 replace H := H.toM [(0, sS p_a0 a0.length c_a0), (1, sI a1), (2, sI a2), (3, sP b_q3_0 0), (7, (sP ((u1 0).n 0) 0)), (17, .blk ((u1 0).n 0) [vI 0, vI 0] 38), (15, rdl fr 2 p_a0 c_a0 a0 en_TInterval), (16, rdl fr 4 p_q3_0_F c_q3_0_F q3_0.F en_TNode), (14, bxK b_q3_0 [.slice p_q3_0_F q3_0.F.length c_q3_0_F, vI q3_0.Dir] 31), (999999, gk)]
 refine k_seq ?_
 replace G := bnd G; obtain ⟨t3, ht3, G⟩ := G
 refine k_rg mixed H (.cons [8] (ok_ldK (fun u2 => .agg #[.slice p_q3_0_F q3_0.F.length c_q3_0_F, vI q3_0.Dir]) 8 14 (bxK b_q3_0 [.slice p_q3_0_F q3_0.F.length c_q3_0_F, vI q3_0.Dir] 31) b_q3_0 0 2 [.slice p_q3_0_F q3_0.F.length c_q3_0_F, vI q3_0.Dir] (fun w h => bx_of h)) <|
   .v 9 (.slice p_a0 a0.length c_a0) <|
   .v 10 (vI a1) <|
   .v 11 (vI a2) <|
   .v 12 (.agg #[vI a1, vI a2]) <|
   .cons [13] (ok_callL [16, 15, 999999] (fun u2 => [rdl fr 4 p_q3_0_F c_q3_0_F q3_0.F en_TNode, rdl fr 2 p_a0 c_a0 a0 en_TInterval, gk]) 12 (fun u2 => #[.agg #[.slice p_q3_0_F q3_0.F.length c_q3_0_F, vI q3_0.Dir], .slice p_a0 a0.length c_a0, .agg #[vI a1, vI a2]]) (.agg #[vI t3.Lo, vI t3.Hi]) 13 (fun u2 w hF => guard_Eval.calls k0 (⟨q3_0.F, q3_0.Dir⟩ : TGuard) a0 (⟨a1, a2⟩ : TInterval) p_q3_0_F c_q3_0_F p_a0 c_a0 t3 w (glob_of hF.2.2.1) (rdF_of hF.1) (rdF_of hF.2.1) ht3)) <|
   .cons [17] (ok_as (u' := fun u2 => [(17, .blk ((u1 0).n 0) [vI t3.Lo, vI t3.Hi] 38)]) (ok_store 17 0 (fun u2 => ((u1 0).n 0)) (fun u2 => [vI 0, vI 0]) (fun u2 => [vI t3.Lo, vI t3.Hi]) 38) (fun _ => by kernel_rfl)) <| .nil) fun u2 a w' H => ?_
 replace H := H.toM [(7, (sP ((u1 0).n 0) 0)), (17, .blk ((u1 0).n 0) [vI t3.Lo, vI t3.Hi] 38), (16, rdl fr 4 p_q3_0_F c_q3_0_F q3_0.F en_TNode), (14, bxK b_q3_0 [.slice p_q3_0_F q3_0.F.length c_q3_0_F, vI q3_0.Dir] 31), (999999, gk)]
 refine k_ret ?_
 obtain rfl := Option.some.inj G
 exact k_done1 H _ 17 ((u1 0).n 0) [vI t3.Lo, vI t3.Hi] 38 0 2 (by kernel_rfl) (by kernel_rfl) (by kernel_rfl) (by kernel_rfl)

set_option maxHeartbeats 4000000 in
theorem guard_Crossing.calls (k0 : Nat) (a0 : TGuard) (a1 : TSegment) (p_a0_F : Option Addr) (c_a0_F : Nat) (p_a1_From : Option Addr) (c_a1_From : Nat) (p_a1_Pre : Option Addr) (c_a1_Pre : Nat) (p_a1_Tube : Option Addr) (c_a1_Tube : Nat) (p_a1_To : Option Addr) (c_a1_To : Nat) (r : Int) (w : World) (hg : Glob w) (R_p_a0_F : RowC w 4 p_a0_F a0.F.length c_a0_F (a0.F.flatMap en_TNode)) (R_p_a1_From : RowC w 2 p_a1_From a1.From.length c_a1_From (a1.From.flatMap en_TInterval)) (R_p_a1_Pre : RowC w 2 p_a1_Pre a1.Pre.length c_a1_Pre (a1.Pre.flatMap en_TInterval)) (R_p_a1_Tube : RowC w 2 p_a1_Tube a1.Tube.length c_a1_Tube (a1.Tube.flatMap en_TInterval)) (R_p_a1_To : RowC w 2 p_a1_To a1.To.length c_a1_To (a1.To.flatMap en_TInterval)) (G : guard_Crossing k0 a0 a1 = some r) :
  Calls Tryd.prog 19 #[.agg #[.slice p_a0_F a0.F.length c_a0_F, vI a0.Dir], .agg #[vI a1.T, vI a1.H, .slice p_a1_From a1.From.length c_a1_From, .slice p_a1_Pre a1.Pre.length c_a1_Pre, .slice p_a1_Tube a1.Tube.length c_a1_Tube, .slice p_a1_To a1.To.length c_a1_To]] w fun e w' => e = .returned (vI r) ∧ Below w.heap.size w w' := by
 obtain ⟨fr, hfr⟩ : ∃ fr : Nat → Prop, ∀ j, fr j := ⟨fun _ => True, fun _ => trivial⟩
 have hB : ∀ j, w.heap.size ≤ j → fr j := fun j _ => hfr j
 have hin_p_a0_F : ∀ j, fpRow p_a0_F a0.F.length j → fr j := fun j _ => hfr j
 have hin_p_a1_From : ∀ j, fpRow p_a1_From a1.From.length j → fr j := fun j _ => hfr j
 have hin_p_a1_Pre : ∀ j, fpRow p_a1_Pre a1.Pre.length j → fr j := fun j _ => hfr j
 have hin_p_a1_Tube : ∀ j, fpRow p_a1_Tube a1.Tube.length j → fr j := fun j _ => hfr j
 have hin_p_a1_To : ∀ j, fpRow p_a1_To a1.To.length j → fr j := fun j _ => hfr j
 refine k_enterF (args := [.agg #[.slice p_a0_F a0.F.length c_a0_F, vI a0.Dir], .agg #[vI a1.T, vI a1.H, .slice p_a1_From a1.From.length c_a1_From, .slice p_a1_Pre a1.Pre.length c_a1_Pre, .slice p_a1_Tube a1.Tube.length c_a1_Tube, .slice p_a1_To a1.To.length c_a1_To]]) 62 [(62, rdl fr 4 p_a0_F c_a0_F a0.F en_TNode), (63, rdl fr 2 p_a1_From c_a1_From a1.From en_TInterval), (64, rdl fr 2 p_a1_Pre c_a1_Pre a1.Pre en_TInterval), (65, rdl fr 2 p_a1_Tube c_a1_Tube a1.Tube en_TInterval), (66, rdl fr 2 p_a1_To c_a1_To a1.To en_TInterval), (999999, gk)] (by
  intro x hx
  simp only [List.mem_cons, List.not_mem_nil, or_false] at hx
  rcases hx with rfl | rfl | rfl | rfl | rfl | rfl
  ·exact rdF_fact R_p_a0_F hin_p_a0_F (by decide) _
  ·exact rdF_fact R_p_a1_From hin_p_a1_From (by decide) _
  ·exact rdF_fact R_p_a1_Pre hin_p_a1_Pre (by decide) _
  ·exact rdF_fact R_p_a1_Tube hin_p_a1_Tube (by decide) _
  ·exact rdF_fact R_p_a1_To hin_p_a1_To (by decide) _
  ·exact ⟨⟨_, _, rfl⟩, glob_local hg, glob_in hg⟩) Tryd.func19 rfl (by kernel_rfl) (by kernel_rfl) fun a H => ?_
 unfold guard_Crossing at G
 refine k_seq ?_
 refine k_rg mixed H (.cons [2, 67] (ok_new (fun b => vP b 0) (fun u1 => [.slice p_a0_F a0.F.length c_a0_F, vI a0.Dir]) 31 2 67) <|
   .cons [3, 68] (ok_new (fun b => vP b 0) (fun u1 => [vI a1.T, vI a1.H, .slice p_a1_From a1.From.length c_a1_From, .slice p_a1_Pre a1.Pre.length c_a1_Pre, .slice p_a1_Tube a1.Tube.length c_a1_Tube, .slice p_a1_To a1.To.length c_a1_To]) 34 3 68) <|
   .v 4 (vI 0) <| .nil) fun u1 a w' H => ?_
 replace H := H.toM [(2, (sP ((u1 0).n 0) 0)), (3, (sP ((u1 1).n 0) 0)), (67, .blk ((u1 0).n 0) [.slice p_a0_F a0.F.length c_a0_F, vI a0.Dir] 31), (68, .blk ((u1 1).n 0) [vI a1.T, vI a1.H, .slice p_a1_From a1.From.length c_a1_From, .slice p_a1_Pre a1.Pre.length c_a1_Pre, .slice p_a1_Tube a1.Tube.length c_a1_Tube, .slice p_a1_To a1.To.length c_a1_To] 34), (62, rdl fr 4 p_a0_F c_a0_F a0.F en_TNode), (63, rdl fr 2 p_a1_From c_a1_From a1.From en_TInterval), (64, rdl fr 2 p_a1_Pre c_a1_Pre a1.Pre en_TInterval), (65, rdl fr 2 p_a1_Tube c_a1_Tube a1.Tube en_TInterval), (66, rdl fr 2 p_a1_To c_a1_To a1.To en_TInterval), (999999, gk)]
 refine k_seq ?_
 refine k_rg mixed H (.v 9 (.func (.func 39) #[] #[vP ((u1 0).n 0) 0]) <|
   .v 5 (.func (.func 39) #[] #[vP ((u1 0).n 0) 0]) <| .nil) fun u2 a w' H => ?_
 replace H := H.toM [(2, (sP ((u1 0).n 0) 0)), (3, (sP ((u1 1).n 0) 0)), (5, .slot true (.func (.func 39) #[] #[vP ((u1 0).n 0) 0])), (67, .blk ((u1 0).n 0) [.slice p_a0_F a0.F.length c_a0_F, vI a0.Dir] 31), (68, .blk ((u1 1).n 0) [vI a1.T, vI a1.H, .slice p_a1_From a1.From.length c_a1_From, .slice p_a1_Pre a1.Pre.length c_a1_Pre, .slice p_a1_Tube a1.Tube.length c_a1_Tube, .slice p_a1_To a1.To.length c_a1_To] 34), (62, rdl fr 4 p_a0_F c_a0_F a0.F en_TNode), (63, rdl fr 2 p_a1_From c_a1_From a1.From en_TInterval), (64, rdl fr 2 p_a1_Pre c_a1_Pre a1.Pre en_TInterval), (65, rdl fr 2 p_a1_Tube c_a1_Tube a1.Tube en_TInterval), (66, rdl fr 2 p_a1_To c_a1_To a1.To en_TInterval), (999999, gk)]
 refine k_seq ?_
 refine k_rg mixed H (.v 10 (vP ((u1 1).n 0) 0) <|
   .cons [11] (ok_ld (fun u3 => vI a1.T) 11 68 0 1 (fun u3 => ((u1 1).n 0)) (fun u3 => [vI a1.T, vI a1.H, .slice p_a1_From a1.From.length c_a1_From, .slice p_a1_Pre a1.Pre.length c_a1_Pre, .slice p_a1_Tube a1.Tube.length c_a1_Tube, .slice p_a1_To a1.To.length c_a1_To]) 34) <|
   .v 12 (vP ((u1 1).n 0) 1) <|
   .cons [13] (ok_ld (fun u3 => vI a1.H) 13 68 1 1 (fun u3 => ((u1 1).n 0)) (fun u3 => [vI a1.T, vI a1.H, .slice p_a1_From a1.From.length c_a1_From, .slice p_a1_Pre a1.Pre.length c_a1_Pre, .slice p_a1_Tube a1.Tube.length c_a1_Tube, .slice p_a1_To a1.To.length c_a1_To]) 34) <|
   .v 14 (vI (w_i64 (a1.T + a1.H))) <|
   .v 6 (vI (w_i64 (a1.T + a1.H))) <| .nil) fun u3 a w' H => ?_
 replace H := H.toM [(2, (sP ((u1 0).n 0) 0)), (3, (sP ((u1 1).n 0) 0)), (5, .slot true (.func (.func 39) #[] #[vP ((u1 0).n 0) 0])), (6, (sI (w_i64 (a1.T + a1.H)))), (67, .blk ((u1 0).n 0) [.slice p_a0_F a0.F.length c_a0_F, vI a0.Dir] 31), (68, .blk ((u1 1).n 0) [vI a1.T, vI a1.H, .slice p_a1_From a1.From.length c_a1_From, .slice p_a1_Pre a1.Pre.length c_a1_Pre, .slice p_a1_Tube a1.Tube.length c_a1_Tube, .slice p_a1_To a1.To.length c_a1_To] 34), (62, rdl fr 4 p_a0_F c_a0_F a0.F en_TNode), (63, rdl fr 2 p_a1_From c_a1_From a1.From en_TInterval), (64, rdl fr 2 p_a1_Pre c_a1_Pre a1.Pre en_TInterval), (65, rdl fr 2 p_a1_Tube c_a1_Tube a1.Tube en_TInterval), (66, rdl fr 2 p_a1_To c_a1_To a1.To en_TInterval), (999999, gk)]
 refine k_seq ?_
 replace G := bnd G; obtain ⟨t5, ht5, G⟩ := G
 replace G := bnd G; obtain ⟨t6, ht6, G⟩ := G
 replace G := bnd G; obtain ⟨t7, ht7, G⟩ := G
 refine k_regT mixed H (.v 15 (.func (.func 39) #[] #[vP ((u1 0).n 0) 0]) <|
   .v 16 (vP ((u1 1).n 0) 4) <|
   .cons [17] (ok_ld (fun u4 => .slice p_a1_Tube a1.Tube.length c_a1_Tube) 17 68 4 1 (fun u4 => ((u1 1).n 0)) (fun u4 => [vI a1.T, vI a1.H, .slice p_a1_From a1.From.length c_a1_From, .slice p_a1_Pre a1.Pre.length c_a1_Pre, .slice p_a1_Tube a1.Tube.length c_a1_Tube, .slice p_a1_To a1.To.length c_a1_To]) 34) <|
   .v 18 (vP ((u1 1).n 0) 0) <|
   .cons [19] (ok_ld (fun u4 => vI a1.T) 19 68 0 1 (fun u4 => ((u1 1).n 0)) (fun u4 => [vI a1.T, vI a1.H, .slice p_a1_From a1.From.length c_a1_From, .slice p_a1_Pre a1.Pre.length c_a1_Pre, .slice p_a1_Tube a1.Tube.length c_a1_Tube, .slice p_a1_To a1.To.length c_a1_To]) 34) <|
   .v 20 (vI (w_i64 (a1.T + a1.H))) <|
   .cons [21] (ok_callL [65, 62, 67, 999999] (fun u4 => [rdl fr 2 p_a1_Tube c_a1_Tube a1.Tube en_TInterval, rdl fr 4 p_a0_F c_a0_F a0.F en_TNode, .blk ((u1 0).n 0) [.slice p_a0_F a0.F.length c_a0_F, vI a0.Dir] 31, gk]) 39 (fun u4 => #[.slice p_a1_Tube a1.Tube.length c_a1_Tube, vI a1.T, vI (w_i64 (a1.T + a1.H)), vP ((u1 0).n 0) 0]) (.agg #[vI t5.Lo, vI t5.Hi]) 21 (fun u4 w hF => guard_Crossing_1.calls k0 a1.Tube a1.T (w_i64 (a1.T + a1.H)) (⟨a0.F, a0.Dir⟩ : TGuard) p_a1_Tube c_a1_Tube p_a0_F c_a0_F ((u1 0).n 0) t5 w (glob_of hF.2.2.2.1) (rdF_of hF.1) (rdF_of hF.2.1) hF.2.2.1 ht5)) <|
   .v 22 (.func (.func 39) #[] #[vP ((u1 0).n 0) 0]) <|
   .v 23 (vP ((u1 1).n 0) 2) <|
   .cons [24] (ok_ld (fun u4 => .slice p_a1_From a1.From.length c_a1_From) 24 68 2 1 (fun u4 => ((u1 1).n 0)) (fun u4 => [vI a1.T, vI a1.H, .slice p_a1_From a1.From.length c_a1_From, .slice p_a1_Pre a1.Pre.length c_a1_Pre, .slice p_a1_Tube a1.Tube.length c_a1_Tube, .slice p_a1_To a1.To.length c_a1_To]) 34) <|
   .v 25 (vP ((u1 1).n 0) 0) <|
   .cons [26] (ok_ld (fun u4 => vI a1.T) 26 68 0 1 (fun u4 => ((u1 1).n 0)) (fun u4 => [vI a1.T, vI a1.H, .slice p_a1_From a1.From.length c_a1_From, .slice p_a1_Pre a1.Pre.length c_a1_Pre, .slice p_a1_Tube a1.Tube.length c_a1_Tube, .slice p_a1_To a1.To.length c_a1_To]) 34) <|
   .v 27 (vP ((u1 1).n 0) 0) <|
   .cons [28] (ok_ld (fun u4 => vI a1.T) 28 68 0 1 (fun u4 => ((u1 1).n 0)) (fun u4 => [vI a1.T, vI a1.H, .slice p_a1_From a1.From.length c_a1_From, .slice p_a1_Pre a1.Pre.length c_a1_Pre, .slice p_a1_Tube a1.Tube.length c_a1_Tube, .slice p_a1_To a1.To.length c_a1_To]) 34) <|
   .cons [29] (ok_callL [63, 62, 67, 999999] (fun u4 => [rdl fr 2 p_a1_From c_a1_From a1.From en_TInterval, rdl fr 4 p_a0_F c_a0_F a0.F en_TNode, .blk ((u1 0).n 0) [.slice p_a0_F a0.F.length c_a0_F, vI a0.Dir] 31, gk]) 39 (fun u4 => #[.slice p_a1_From a1.From.length c_a1_From, vI a1.T, vI a1.T, vP ((u1 0).n 0) 0]) (.agg #[vI t6.Lo, vI t6.Hi]) 29 (fun u4 w hF => guard_Crossing_1.calls k0 a1.From a1.T a1.T (⟨a0.F, a0.Dir⟩ : TGuard) p_a1_From c_a1_From p_a0_F c_a0_F ((u1 0).n 0) t6 w (glob_of hF.2.2.2.1) (rdF_of hF.1) (rdF_of hF.2.1) hF.2.2.1 ht6)) <|
   .v 30 (.func (.func 39) #[] #[vP ((u1 0).n 0) 0]) <|
   .v 31 (vP ((u1 1).n 0) 5) <|
   .cons [32] (ok_ld (fun u4 => .slice p_a1_To a1.To.length c_a1_To) 32 68 5 1 (fun u4 => ((u1 1).n 0)) (fun u4 => [vI a1.T, vI a1.H, .slice p_a1_From a1.From.length c_a1_From, .slice p_a1_Pre a1.Pre.length c_a1_Pre, .slice p_a1_Tube a1.Tube.length c_a1_Tube, .slice p_a1_To a1.To.length c_a1_To]) 34) <|
   .v 33 (vI (w_i64 (a1.T + a1.H))) <|
   .v 34 (vI (w_i64 (a1.T + a1.H))) <|
   .cons [35] (ok_callL [66, 62, 67, 999999] (fun u4 => [rdl fr 2 p_a1_To c_a1_To a1.To en_TInterval, rdl fr 4 p_a0_F c_a0_F a0.F en_TNode, .blk ((u1 0).n 0) [.slice p_a0_F a0.F.length c_a0_F, vI a0.Dir] 31, gk]) 39 (fun u4 => #[.slice p_a1_To a1.To.length c_a1_To, vI (w_i64 (a1.T + a1.H)), vI (w_i64 (a1.T + a1.H)), vP ((u1 0).n 0) 0]) (.agg #[vI t7.Lo, vI t7.Hi]) 35 (fun u4 w hF => guard_Crossing_1.calls k0 a1.To (w_i64 (a1.T + a1.H)) (w_i64 (a1.T + a1.H)) (⟨a0.F, a0.Dir⟩ : TGuard) p_a1_To c_a1_To p_a0_F c_a0_F ((u1 0).n 0) t7 w (glob_of hF.2.2.2.1) (rdF_of hF.1) (rdF_of hF.2.1) hF.2.2.1 ht7)) <|
   .v 36 (.agg #[vI t5.Lo, vI t5.Hi, vI t6.Lo, vI t6.Hi, vI t7.Lo, vI t7.Hi]) <|
   .cons [7, 69] (ok_new (fun b => vP b 0) (fun u4 => [vI 0, vI 0, vI 0, vI 0, vI 0, vI 0]) 69 7 69) <|
   .cons [69] (ok_as (u' := fun u4 => [(69, .blk ((u4 22).n 0) [vI t5.Lo, vI t5.Hi, vI t6.Lo, vI t6.Hi, vI t7.Lo, vI t7.Hi] 69)]) (ok_store 69 0 (fun u4 => ((u4 22).n 0)) (fun u4 => [vI 0, vI 0, vI 0, vI 0, vI 0, vI 0]) (fun u4 => [vI t5.Lo, vI t5.Hi, vI t6.Lo, vI t6.Hi, vI t7.Lo, vI t7.Hi]) 69) (fun _ => by kernel_rfl)) <| .nil) (by kernel_rfl) fun u4 a w' H => ?_
 replace H := H.toM [(2, (sP ((u1 0).n 0) 0)), (7, (sP ((u4 22).n 0) 0)), (67, .blk ((u1 0).n 0) [.slice p_a0_F a0.F.length c_a0_F, vI a0.Dir] 31), (69, .blk ((u4 22).n 0) [vI t5.Lo, vI t5.Hi, vI t6.Lo, vI t6.Hi, vI t7.Lo, vI t7.Hi] 69), (62, rdl fr 4 p_a0_F c_a0_F a0.F en_TNode), (999999, gk)]
 refine k_seq ?_
 replace G := bnd G; obtain ⟨t9, ht9, G⟩ := G
 replace G := bnd G; obtain ⟨t10, ht10, G⟩ := G
 replace G := bnd G; obtain ⟨t11, ht11, G⟩ := G
 refine k_rg mixed H (.cons [37] (ok_ld (fun u8 => .agg #[vI t5.Lo, vI t5.Hi, vI t6.Lo, vI t6.Hi, vI t7.Lo, vI t7.Hi]) 37 69 0 6 (fun u8 => ((u4 22).n 0)) (fun u8 => [vI t5.Lo, vI t5.Hi, vI t6.Lo, vI t6.Hi, vI t7.Lo, vI t7.Hi]) 69) <|
   .cons [38] (ok_callv 40 (fun u8 => #[.agg #[vI t5.Lo, vI t5.Hi, vI t6.Lo, vI t6.Hi, vI t7.Lo, vI t7.Hi]]) (vI t9) 38 [] (fun _ w _ => guard_values_upward.calls (⟨t5, t6, t7⟩ : Tvalues) t9 w ht9)) <|
   .cons [39] (ok_ld (fun u8 => .agg #[vI t5.Lo, vI t5.Hi, vI t6.Lo, vI t6.Hi, vI t7.Lo, vI t7.Hi]) 39 69 0 6 (fun u8 => ((u4 22).n 0)) (fun u8 => [vI t5.Lo, vI t5.Hi, vI t6.Lo, vI t6.Hi, vI t7.Lo, vI t7.Hi]) 69) <|
   .cons [40] (ok_callv 41 (fun u8 => #[.agg #[vI t5.Lo, vI t5.Hi, vI t6.Lo, vI t6.Hi, vI t7.Lo, vI t7.Hi]]) (.agg #[vI t10.whole.Lo, vI t10.whole.Hi, vI t10.start.Lo, vI t10.start.Hi, vI t10.end_.Lo, vI t10.end_.Hi]) 40 [] (fun _ w _ => guard_values_negated.calls (⟨t5, t6, t7⟩ : Tvalues) t10 w ht10)) <|
   .cons [41] (ok_callv 40 (fun u8 => #[.agg #[vI t10.whole.Lo, vI t10.whole.Hi, vI t10.start.Lo, vI t10.start.Hi, vI t10.end_.Lo, vI t10.end_.Hi]]) (vI t11) 41 [] (fun _ w _ => guard_values_upward.calls t10 t11 w ht11)) <|
   .v 42 (.agg #[vI t9, vI t11]) <|
   .cons [8, 70] (ok_new (fun b => vP b 0) (fun u8 => [vI 0, vI 0]) 72 8 70) <|
   .cons [70] (ok_as (u' := fun u8 => [(70, .blk ((u8 6).n 0) [vI t9, vI t11] 72)]) (ok_store 70 0 (fun u8 => ((u8 6).n 0)) (fun u8 => [vI 0, vI 0]) (fun u8 => [vI t9, vI t11]) 72) (fun _ => by kernel_rfl)) <| .nil) fun u8 a w' H => ?_
 replace H := H.toM [(2, (sP ((u1 0).n 0) 0)), (8, (sP ((u8 6).n 0) 0)), (67, .blk ((u1 0).n 0) [.slice p_a0_F a0.F.length c_a0_F, vI a0.Dir] 31), (70, .blk ((u8 6).n 0) [vI t9, vI t11] 72), (62, rdl fr 4 p_a0_F c_a0_F a0.F en_TNode), (999999, gk)]
 refine k_seq ?_
 refine k_block ?_
 refine k_seq ?_
 refine k_rg mixed H (.v 44 (vP ((u1 0).n 0) 1) <|
   .cons [45] (ok_ld (fun u12 => vI a0.Dir) 45 67 1 1 (fun u12 => ((u1 0).n 0)) (fun u12 => [.slice p_a0_F a0.F.length c_a0_F, vI a0.Dir]) 31) <|
   .v 46 (.bool (decide (a0.Dir > 0))) <|
   .v 43 (.bool (decide (a0.Dir > 0))) <| .nil) fun u12 a w' H => ?_
 replace H := H.toM [(2, (sP ((u1 0).n 0) 0)), (8, (sP ((u8 6).n 0) 0)), (43, (sB (decide (a0.Dir > 0)))), (67, .blk ((u1 0).n 0) [.slice p_a0_F a0.F.length c_a0_F, vI a0.Dir] 31), (70, .blk ((u8 6).n 0) [vI t9, vI t11] 72), (62, rdl fr 4 p_a0_F c_a0_F a0.F en_TNode), (999999, gk)]
 refine k_cond H (by kernel_rfl) (t := decide (a0.Dir > 0)) (by kernel_rfl) (fun c25 => ?_) (fun c25 => ?_)
 ·rw [if_pos c25] at G
  refine k_seq ?_
  refine k_rg mixed H (.v 47 (vP ((u8 6).n 0) 0) <|
   .cons [48] (ok_ld (fun u13 => vI t9) 48 70 0 1 (fun u13 => ((u8 6).n 0)) (fun u13 => [vI t9, vI t11]) 72) <|
   .v 4 (vI t9) <| .nil) fun u13 a w' H => ?_
  replace H := H.toM [(4, sI t9), (999999, gk)]
  refine k_ret ?_
  obtain rfl := Option.some.inj G
  exact k_done0 H _ (by kernel_rfl) (by kernel_rfl)
 ·rw [if_neg (nt c25)] at G
  refine k_seq ?_
  refine k_rg mixed H (.v 50 (vP ((u1 0).n 0) 1) <|
   .cons [51] (ok_ld (fun u14 => vI a0.Dir) 51 67 1 1 (fun u14 => ((u1 0).n 0)) (fun u14 => [.slice p_a0_F a0.F.length c_a0_F, vI a0.Dir]) 31) <|
   .v 52 (.bool (decide (a0.Dir < 0))) <|
   .v 49 (.bool (decide (a0.Dir < 0))) <| .nil) fun u14 a w' H => ?_
  replace H := H.toM [(8, (sP ((u8 6).n 0) 0)), (49, (sB (decide (a0.Dir < 0)))), (70, .blk ((u8 6).n 0) [vI t9, vI t11] 72), (999999, gk)]
  refine k_cond H (by kernel_rfl) (t := decide (a0.Dir < 0)) (by kernel_rfl) (fun c24 => ?_) (fun c24 => ?_)
  ·rw [if_pos c24] at G
   refine k_seq ?_
   refine k_rg mixed H (.v 53 (vP ((u8 6).n 0) 1) <|
   .cons [54] (ok_ld (fun u15 => vI t11) 54 70 1 1 (fun u15 => ((u8 6).n 0)) (fun u15 => [vI t9, vI t11]) 72) <|
   .v 4 (vI t11) <| .nil) fun u15 a w' H => ?_
   replace H := H.toM [(4, sI t11), (999999, gk)]
   refine k_ret ?_
   obtain rfl := Option.some.inj G
   exact k_done0 H _ (by kernel_rfl) (by kernel_rfl)
  ·rw [if_neg (nt c24)] at G
   refine k_seq ?_
   replace G := bnd G; obtain ⟨t17, ht17, G⟩ := G
   refine k_rg mixed H (.v 56 (.slice (some ⟨((u8 6).n 0), 0, none⟩) ([t9, t11] : List Int).length 2) <|
   .cons [57] (ok_callL [70] (fun u16 => [.blk ((u8 6).n 0) [vI t9, vI t11] 72]) 42 (fun u16 => #[.slice (some ⟨((u8 6).n 0), 0, none⟩) ([t9, t11] : List Int).length 2, vI 2]) (.bool t17) 57 (fun u16 w hF => slices_Contains_int_int.calls k0 ([t9, t11] : List Int) 2 (some ⟨((u8 6).n 0), 0, none⟩) 2 t17 w (blk_rowC (en := en_i64) (l := ([t9, t11] : List Int)) hF.1) ht17)) <|
   .v 55 (.bool t17) <| .nil) fun u16 a w' H => ?_
   replace H := H.toM [(8, (sP ((u8 6).n 0) 0)), (55, sB t17), (70, .blk ((u8 6).n 0) [vI t9, vI t11] 72), (999999, gk)]
   refine k_cond H (by kernel_rfl) (t := t17) (by kernel_rfl) (fun c23 => ?_) (fun c23 => ?_)
   ·rw [if_pos c23] at G
    refine k_seq ?_
    refine k_rg mixed H (.v 4 (vI 2) <| .nil) fun u18 a w' H => ?_
    replace H := H.toM [(4, sI 2), (999999, gk)]
    refine k_ret ?_
    obtain rfl := Option.some.inj G
    exact k_done0 H _ (by kernel_rfl) (by kernel_rfl)
   ·rw [if_neg (nt c23)] at G
    refine k_seq ?_
    refine k_rg mixed H (.cons [59] (ok_ld (fun u19 => .agg #[vI t9, vI t11]) 59 70 0 2 (fun u19 => ((u8 6).n 0)) (fun u19 => [vI t9, vI t11]) 72) <|
   .v 60 (.agg #[vI 0, vI 0]) <|
   .cons [61] (ok_val (fun u19 => .bool ((t9 == 0) && ((t11 == 0) && true))) 61 (hv := fun _ _ => run_of (by kernel_rfl) (run_eql_arr (t := 72) (e := 3) (n := 2) (c := 1) (x := (.tmp 59)) (y := (.tmp 60)) (xs := #[vI t9, vI t11]) (ys := #[vI 0, vI 0]) (b := ((t9 == 0) && ((t11 == 0) && true))) (by kernel_rfl) (by kernel_rfl) (by kernel_rfl) (by kernel_rfl) (by kernel_rfl)))) <|
   .v 58 (.bool ((t9 == 0) && ((t11 == 0) && true))) <| .nil) fun u19 a w' H => ?_
    replace H := H.toM [(58, (sB ((t9 == 0) && ((t11 == 0) && true)))), (999999, gk)]
    refine k_cond H (by kernel_rfl) (t := ((t9 == 0) && ((t11 == 0) && true))) (by kernel_rfl) (fun c22 => ?_) (fun c22 => ?_)
    ·rw [if_pos c22] at G
     refine k_seq ?_
     refine k_rg mixed H (.v 4 (vI 0) <| .nil) fun u20 a w' H => ?_
     replace H := H.toM [(4, sI 0), (999999, gk)]
     refine k_ret ?_
     obtain rfl := Option.some.inj G
     exact k_done0 H _ (by kernel_rfl) (by kernel_rfl)
    ·rw [if_neg (nt c22)] at G
     refine k_skip ?_
     refine k_seq ?_
     refine k_rg mixed H (.v 4 (vI 1) <| .nil) fun u21 a w' H => ?_
     replace H := H.toM [(4, sI 1), (999999, gk)]
     refine k_ret ?_
     obtain rfl := Option.some.inj G
     exact k_done0 H _ (by kernel_rfl) (by kernel_rfl)

set_option maxHeartbeats 4000000 in
theorem armillarylaw15_span.calls (a0 : Int) (a1 : Int) (r : TInterval) (w : World) (G : armillarylaw15_span a0 a1 = some r) :
  Calls Tryd.prog 26 #[vI a0, vI a1] w fun e w' => e = .returned (.agg #[vI r.Lo, vI r.Hi]) ∧ Below w.heap.size w w' := by
 refine k_enter (args := [vI a0, vI a1]) 10 Tryd.func26 rfl (by kernel_rfl) (by kernel_rfl) fun a H => ?_
 unfold armillarylaw15_span at G
 refine k_seq ?_
 refine k_rg mixed H (.cons [4, 10] (ok_new (fun b => vP b 0) (fun u1 => [vI 0, vI 0]) 38 4 10) <| .nil) fun u1 a w' H => ?_
 replace H := H.toM [(0, sI a0), (1, sI a1), (4, (sP ((u1 0).n 0) 0)), (10, .blk ((u1 0).n 0) [vI 0, vI 0] 38)]
 refine k_seq ?_
 refine k_rg mixed H (.v 5 (vI a0) <|
   .v 6 (vI (w_i64 (a0 * 65536))) <|
   .v 7 (vI a1) <|
   .v 8 (vI (w_i64 (a1 * 65536))) <|
   .v 9 (.agg #[vI (w_i64 (a0 * 65536)), vI (w_i64 (a1 * 65536))]) <|
   .cons [10] (ok_as (u' := fun u2 => [(10, .blk ((u1 0).n 0) [vI (w_i64 (a0 * 65536)), vI (w_i64 (a1 * 65536))] 38)]) (ok_store 10 0 (fun u2 => ((u1 0).n 0)) (fun u2 => [vI 0, vI 0]) (fun u2 => [vI (w_i64 (a0 * 65536)), vI (w_i64 (a1 * 65536))]) 38) (fun _ => by kernel_rfl)) <| .nil) fun u2 a w' H => ?_
 replace H := H.toM [(4, (sP ((u1 0).n 0) 0)), (10, .blk ((u1 0).n 0) [vI (w_i64 (a0 * 65536)), vI (w_i64 (a1 * 65536))] 38)]
 refine k_ret ?_
 obtain rfl := Option.some.inj G
 exact k_done1 H _ 10 ((u1 0).n 0) [vI (w_i64 (a0 * 65536)), vI (w_i64 (a1 * 65536))] 38 0 2 (by kernel_rfl) (by kernel_rfl) (by kernel_rfl) (by kernel_rfl)

set_option maxHeartbeats 4000000 in
theorem armillarylaw15_minus.calls (a0 : Int) (r : List TNode) (w : World) (G : armillarylaw15_minus a0 = some r) :
  Calls Tryd.prog 27 #[vI a0] w fun e w' => ∃ p cap, e = .returned (.slice p r.length cap) ∧ Below w.heap.size w w' ∧ w'.ownsRow w.heap.size 53 4 (.slice p r.length cap) r.length (r.flatMap en_TNode) := by
 refine k_enter (args := [vI a0]) 10 Tryd.func27 rfl (by kernel_rfl) (by kernel_rfl) fun a H => ?_
 unfold armillarylaw15_minus at G
 refine k_seq ?_
 refine k_rg mixed H (.v 2 (.slice none 0 0) <| .nil) fun u1 a w' H => ?_
 replace H := H.toM [(0, sI a0)]
 refine k_seq ?_
 replace G := bnd G; obtain ⟨t3, ht3, G⟩ := G
 refine k_rg mixed H (.v 3 (.agg #[vI 8, vI 0, vI 0, vI 0]) <|
   .v 4 (.agg #[vI 2, vI 0, vI 0, vI 0]) <|
   .v 5 (vI a0) <|
   .v 6 (vI a0) <|
   .cons [7] (ok_callv 26 (fun u2 => #[vI a0, vI a0]) (.agg #[vI t3.Lo, vI t3.Hi]) 7 [] (fun _ w _ => armillarylaw15_span.calls a0 a0 t3 w ht3)) <|
   .v 8 (.agg #[vI 1, vI 0, vI t3.Lo, vI t3.Hi]) <|
   .cons [9, 10] (ok_new (fun b => .slice (some ⟨b, 0, none⟩) 3 3) (fun u2 => [vI 8, vI 0, vI 0, vI 0, vI 2, vI 0, vI 0, vI 0, vI 1, vI 0, vI t3.Lo, vI t3.Hi]) 53 9 10) <|
   .cons [2] (ok_val (fun u2 => .slice (some ⟨((u2 6).n 0), 0, none⟩) 3 3) 2) <| .nil) fun u2 a w' H => ?_
 replace H := H.toM [(2, (sS (some ⟨((u2 6).n 0), 0, none⟩) 3 3)), (10, .blk ((u2 6).n 0) [vI 8, vI 0, vI 0, vI 0, vI 2, vI 0, vI 0, vI 0, vI 1, vI 0, vI t3.Lo, vI t3.Hi] 53)]
 refine k_ret ?_
 obtain rfl := Option.some.inj G
 replace H := H.blk_row 10 ((u2 6).n 0) [vI 8, vI 0, vI 0, vI 0, vI 2, vI 0, vI 0, vI 0, vI 1, vI 0, vI t3.Lo, vI t3.Hi] 53 4 3 (by kernel_rfl) (by kernel_rfl) (by decide)
 exact k_doneR H (fun p cap => .slice p ([(⟨8, 0, (⟨0, 0⟩ : TInterval)⟩ : TNode), (⟨2, 0, (⟨0, 0⟩ : TInterval)⟩ : TNode), (⟨1, 0, t3⟩ : TNode)] : List TNode).length cap) (some ⟨((u2 6).n 0), 0, none⟩) 3 [] 10 53 4 ([(⟨8, 0, (⟨0, 0⟩ : TInterval)⟩ : TNode), (⟨2, 0, (⟨0, 0⟩ : TInterval)⟩ : TNode), (⟨1, 0, t3⟩ : TNode)] : List TNode).length (([(⟨8, 0, (⟨0, 0⟩ : TInterval)⟩ : TNode), (⟨2, 0, (⟨0, 0⟩ : TInterval)⟩ : TNode), (⟨1, 0, t3⟩ : TNode)] : List TNode).flatMap en_TNode) (by kernel_rfl) (by kernel_rfl) (by simp) (by kernel_rfl)

set_option maxHeartbeats 4000000 in
theorem armillarylaw15_sanity.calls (k0 : Nat)  (r : Bool) (w : World) (hg : Glob w) (G : armillarylaw15_sanity k0 = some r) :
  Calls Tryd.prog 8 #[] w fun e w' => e = .returned (.bool r) ∧ Below w.heap.size w w' := by
 obtain ⟨fr, hfr⟩ : ∃ fr : Nat → Prop, ∀ j, fr j := ⟨fun _ => True, fun _ => trivial⟩
 have hB : ∀ j, w.heap.size ≤ j → fr j := fun j _ => hfr j
 refine k_enterG (args := []) 114 999999 globFp Glob (glob_local hg) (glob_in hg) Tryd.func8 rfl (by kernel_rfl) (by kernel_rfl) fun a H => ?_
 unfold armillarylaw15_sanity at G
 refine k_seq ?_
 refine k_rg mixed H (.v 0 (.bool false) <| .nil) fun u1 a w' H => ?_
 replace H := H.toM [(999999, gk)]
 refine k_seq ?_
 replace G := bnd G; obtain ⟨t3, ht3, G⟩ := G
 replace G := bnd G; obtain ⟨t4, ht4, G⟩ := G
 replace G := bnd G; obtain ⟨t5, ht5, G⟩ := G
 refine k_rg mixed H (.cons [6] (ok_callv 26 (fun u2 => #[vI 0, vI 0]) (.agg #[vI t3.Lo, vI t3.Hi]) 6 [] (fun _ w _ => armillarylaw15_span.calls 0 0 t3 w ht3)) <|
   .cons [7, 114] (ok_new (fun b => .slice (some ⟨b, 0, none⟩) 1 1) (fun u2 => [vI t3.Lo, vI t3.Hi]) 38 7 114) <|
   .cons [8] (ok_callv 26 (fun u2 => #[vI 0, vI 2]) (.agg #[vI t4.Lo, vI t4.Hi]) 8 [] (fun _ w _ => armillarylaw15_span.calls 0 2 t4 w ht4)) <|
   .cons [9, 115] (ok_new (fun b => .slice (some ⟨b, 0, none⟩) 1 1) (fun u2 => [vI t4.Lo, vI t4.Hi]) 38 9 115) <|
   .cons [10] (ok_callv 26 (fun u2 => #[vI 2, vI 2]) (.agg #[vI t5.Lo, vI t5.Hi]) 10 [] (fun _ w _ => armillarylaw15_span.calls 2 2 t5 w ht5)) <|
   .cons [11, 116] (ok_new (fun b => .slice (some ⟨b, 0, none⟩) 1 1) (fun u2 => [vI t5.Lo, vI t5.Hi]) 38 11 116) <|
   .cons [12] (ok_val (fun u2 => .agg #[vI 0, vI 65536, .slice (some ⟨((u2 1).n 0), 0, none⟩) 1 1, .slice none 0 0, .slice (some ⟨((u2 3).n 0), 0, none⟩) 1 1, .slice (some ⟨((u2 5).n 0), 0, none⟩) 1 1]) 12) <|
   .cons [1, 117] (ok_new (fun b => vP b 0) (fun u2 => [vI 0, vI 0, .slice none 0 0, .slice none 0 0, .slice none 0 0, .slice none 0 0]) 34 1 117) <|
   .cons [117] (ok_as (u' := fun u2 => [(117, .blk ((u2 7).n 0) [vI 0, vI 65536, .slice (some ⟨((u2 1).n 0), 0, none⟩) 1 1, .slice none 0 0, .slice (some ⟨((u2 3).n 0), 0, none⟩) 1 1, .slice (some ⟨((u2 5).n 0), 0, none⟩) 1 1] 34)]) (ok_store 117 0 (fun u2 => ((u2 7).n 0)) (fun u2 => [vI 0, vI 0, .slice none 0 0, .slice none 0 0, .slice none 0 0, .slice none 0 0]) (fun u2 => [vI 0, vI 65536, .slice (some ⟨((u2 1).n 0), 0, none⟩) 1 1, .slice none 0 0, .slice (some ⟨((u2 3).n 0), 0, none⟩) 1 1, .slice (some ⟨((u2 5).n 0), 0, none⟩) 1 1]) 34) (fun _ => by kernel_rfl)) <| .nil) fun u2 a w' H => ?_
 replace H := H.toM [(1, (sP ((u2 7).n 0) 0)), (114, .blk ((u2 1).n 0) [vI t3.Lo, vI t3.Hi] 38), (115, .blk ((u2 3).n 0) [vI t4.Lo, vI t4.Hi] 38), (116, .blk ((u2 5).n 0) [vI t5.Lo, vI t5.Hi] 38), (117, .blk ((u2 7).n 0) [vI 0, vI 65536, .slice (some ⟨((u2 1).n 0), 0, none⟩) 1 1, .slice none 0 0, .slice (some ⟨((u2 3).n 0), 0, none⟩) 1 1, .slice (some ⟨((u2 5).n 0), 0, none⟩) 1 1] 34), (999999, gk)]
 refine k_seq ?_
 replace G := bnd G; obtain ⟨t7, ht7, G⟩ := G
 refine k_rg mixed H (.cons [13, 118] (ok_callRL [] (fun u6 => []) 27 (fun u6 => #[vI 1]) (fun p cap => .slice p t7.length cap) 53 4 t7.length (t7.flatMap en_TNode) 13 118 (fun u6 w hF => armillarylaw15_minus.calls 1  t7 w  ht7)) <|
   .cons [14] (ok_val (fun u6 => .agg #[.slice ((u6 0).o 0) t7.length ((u6 0).n 0), vI 1]) 14) <|
   .cons [2, 119] (ok_new (fun b => vP b 0) (fun u6 => [.slice none 0 0, vI 0]) 31 2 119) <|
   .cons [119] (ok_as (u' := fun u6 => [(119, .blk ((u6 2).n 0) [.slice ((u6 0).o 0) t7.length ((u6 0).n 0), vI 1] 31)]) (ok_store 119 0 (fun u6 => ((u6 2).n 0)) (fun u6 => [.slice none 0 0, vI 0]) (fun u6 => [.slice ((u6 0).o 0) t7.length ((u6 0).n 0), vI 1]) 31) (fun _ => by kernel_rfl)) <| .nil) fun u6 a w' H => ?_
 replace H := H.toM [(1, (sP ((u2 7).n 0) 0)), (2, (sP ((u6 2).n 0) 0)), (114, .blk ((u2 1).n 0) [vI t3.Lo, vI t3.Hi] 38), (115, .blk ((u2 3).n 0) [vI t4.Lo, vI t4.Hi] 38), (116, .blk ((u2 5).n 0) [vI t5.Lo, vI t5.Hi] 38), (117, .blk ((u2 7).n 0) [vI 0, vI 65536, .slice (some ⟨((u2 1).n 0), 0, none⟩) 1 1, .slice none 0 0, .slice (some ⟨((u2 3).n 0), 0, none⟩) 1 1, .slice (some ⟨((u2 5).n 0), 0, none⟩) 1 1] 34), (119, .blk ((u6 2).n 0) [.slice ((u6 0).o 0) t7.length ((u6 0).n 0), vI 1] 31), (118, owK 53 4 ((u6 0).o 0) t7.length ((u6 0).n 0) (t7.flatMap en_TNode)), (999999, gk)]
 refine k_seq ?_
 replace G := bnd G; obtain ⟨t9, ht9, G⟩ := G
 refine k_rg mixed H (.cons [15, 120] (ok_callRL [] (fun u8 => []) 27 (fun u8 => #[vI 1]) (fun p cap => .slice p t9.length cap) 53 4 t9.length (t9.flatMap en_TNode) 15 120 (fun u8 w hF => armillarylaw15_minus.calls 1  t9 w  ht9)) <|
   .cons [16] (ok_val (fun u8 => .agg #[.slice ((u8 0).o 0) t9.length ((u8 0).n 0), vI (-1)]) 16) <|
   .cons [3, 121] (ok_new (fun b => vP b 0) (fun u8 => [.slice none 0 0, vI 0]) 31 3 121) <|
   .cons [121] (ok_as (u' := fun u8 => [(121, .blk ((u8 2).n 0) [.slice ((u8 0).o 0) t9.length ((u8 0).n 0), vI (-1)] 31)]) (ok_store 121 0 (fun u8 => ((u8 2).n 0)) (fun u8 => [.slice none 0 0, vI 0]) (fun u8 => [.slice ((u8 0).o 0) t9.length ((u8 0).n 0), vI (-1)]) 31) (fun _ => by kernel_rfl)) <| .nil) fun u8 a w' H => ?_
 replace H := H.toM [(1, (sP ((u2 7).n 0) 0)), (2, (sP ((u6 2).n 0) 0)), (3, (sP ((u8 2).n 0) 0)), (114, .blk ((u2 1).n 0) [vI t3.Lo, vI t3.Hi] 38), (115, .blk ((u2 3).n 0) [vI t4.Lo, vI t4.Hi] 38), (116, .blk ((u2 5).n 0) [vI t5.Lo, vI t5.Hi] 38), (117, .blk ((u2 7).n 0) [vI 0, vI 65536, .slice (some ⟨((u2 1).n 0), 0, none⟩) 1 1, .slice none 0 0, .slice (some ⟨((u2 3).n 0), 0, none⟩) 1 1, .slice (some ⟨((u2 5).n 0), 0, none⟩) 1 1] 34), (119, .blk ((u6 2).n 0) [.slice ((u6 0).o 0) t7.length ((u6 0).n 0), vI 1] 31), (121, .blk ((u8 2).n 0) [.slice ((u8 0).o 0) t9.length ((u8 0).n 0), vI (-1)] 31), (118, owK 53 4 ((u6 0).o 0) t7.length ((u6 0).n 0) (t7.flatMap en_TNode)), (120, owK 53 4 ((u8 0).o 0) t9.length ((u8 0).n 0) (t9.flatMap en_TNode)), (999999, gk)]
 refine k_seq ?_
 replace G := bnd G; obtain ⟨t11, ht11, G⟩ := G
 refine k_rg mixed H (.cons [17, 122] (ok_callRL [] (fun u10 => []) 27 (fun u10 => #[vI 3]) (fun p cap => .slice p t11.length cap) 53 4 t11.length (t11.flatMap en_TNode) 17 122 (fun u10 w hF => armillarylaw15_minus.calls 3  t11 w  ht11)) <|
   .cons [18] (ok_val (fun u10 => .agg #[.slice ((u10 0).o 0) t11.length ((u10 0).n 0), vI 0]) 18) <|
   .cons [4, 123] (ok_new (fun b => vP b 0) (fun u10 => [.slice none 0 0, vI 0]) 31 4 123) <|
   .cons [123] (ok_as (u' := fun u10 => [(123, .blk ((u10 2).n 0) [.slice ((u10 0).o 0) t11.length ((u10 0).n 0), vI 0] 31)]) (ok_store 123 0 (fun u10 => ((u10 2).n 0)) (fun u10 => [.slice none 0 0, vI 0]) (fun u10 => [.slice ((u10 0).o 0) t11.length ((u10 0).n 0), vI 0]) 31) (fun _ => by kernel_rfl)) <| .nil) fun u10 a w' H => ?_
 replace H := H.toM [(1, (sP ((u2 7).n 0) 0)), (2, (sP ((u6 2).n 0) 0)), (3, (sP ((u8 2).n 0) 0)), (4, (sP ((u10 2).n 0) 0)), (114, .blk ((u2 1).n 0) [vI t3.Lo, vI t3.Hi] 38), (115, .blk ((u2 3).n 0) [vI t4.Lo, vI t4.Hi] 38), (116, .blk ((u2 5).n 0) [vI t5.Lo, vI t5.Hi] 38), (117, .blk ((u2 7).n 0) [vI 0, vI 65536, .slice (some ⟨((u2 1).n 0), 0, none⟩) 1 1, .slice none 0 0, .slice (some ⟨((u2 3).n 0), 0, none⟩) 1 1, .slice (some ⟨((u2 5).n 0), 0, none⟩) 1 1] 34), (119, .blk ((u6 2).n 0) [.slice ((u6 0).o 0) t7.length ((u6 0).n 0), vI 1] 31), (121, .blk ((u8 2).n 0) [.slice ((u8 0).o 0) t9.length ((u8 0).n 0), vI (-1)] 31), (123, .blk ((u10 2).n 0) [.slice ((u10 0).o 0) t11.length ((u10 0).n 0), vI 0] 31), (118, owK 53 4 ((u6 0).o 0) t7.length ((u6 0).n 0) (t7.flatMap en_TNode)), (120, owK 53 4 ((u8 0).o 0) t9.length ((u8 0).n 0) (t9.flatMap en_TNode)), (122, owK 53 4 ((u10 0).o 0) t11.length ((u10 0).n 0) (t11.flatMap en_TNode)), (999999, gk)]
 refine k_seq ?_
 replace H := H.blk_row 114 ((u2 1).n 0) [vI t3.Lo, vI t3.Hi] 38 2 1 (by kernel_rfl) (by kernel_rfl) (by decide)
 replace H := H.blk_row 115 ((u2 3).n 0) [vI t4.Lo, vI t4.Hi] 38 2 1 (by kernel_rfl) (by kernel_rfl) (by decide)
 replace H := H.blk_row 116 ((u2 5).n 0) [vI t5.Lo, vI t5.Hi] 38 2 1 (by kernel_rfl) (by kernel_rfl) (by decide)
 replace H := H.demote fr 118 53 4 ((u6 0).o 0) t7.length ((u6 0).n 0) (t7.flatMap en_TNode) (by kernel_rfl) (by decide) hB
 replace G := bnd G; obtain ⟨t13, ht13, G⟩ := G
 refine k_rg mixed H (.cons [19] (ok_ld (fun u12 => .agg #[.slice ((u6 0).o 0) t7.length ((u6 0).n 0), vI 1]) 19 119 0 2 (fun u12 => ((u6 2).n 0)) (fun u12 => [.slice ((u6 0).o 0) t7.length ((u6 0).n 0), vI 1]) 31) <|
   .cons [20, 124] (ok_callF [118] (fun u12 => [rdF fr 4 ((u6 0).o 0) t7.length ((u6 0).n 0) (t7.flatMap en_TNode)]) 17 (fun u12 => #[.agg #[.slice ((u6 0).o 0) t7.length ((u6 0).n 0), vI 1]]) (fun g => .agg #[.slice (g.o 0) t13.F.length (g.n 0), vI t13.Dir]) [(4, t13.F.length, t13.F.flatMap en_TNode)] fr 20 124 (fun u12 w hF => guard_Reverse.calls k0 (⟨t7, 1⟩ : TGuard) ((u6 0).o 0) ((u6 0).n 0) t13 w (rdF_of hF.1) ht13) (fun u12 w hF => ins_as (ins' := [(((u6 0).o 0), t7.length)]) (ins_cons (rdF fr 4 ((u6 0).o 0) t7.length ((u6 0).n 0) (t7.flatMap en_TNode)) (.head _) (fun h => h) (fun j h => ⟨rdF_fr hF.1 j h, h⟩) ins_nil)) hB) <|
   .cons [5, 125] (ok_new (fun b => vP b 0) (fun u12 => [.slice none 0 0, vI 0]) 31 5 125) <|
   .cons [125] (ok_as (u' := fun u12 => [(125, .blk ((u12 2).n 0) [.slice ((u12 1).o 0) t13.F.length ((u12 1).n 0), vI t13.Dir] 31)]) (ok_store 125 0 (fun u12 => ((u12 2).n 0)) (fun u12 => [.slice none 0 0, vI 0]) (fun u12 => [.slice ((u12 1).o 0) t13.F.length ((u12 1).n 0), vI t13.Dir]) 31) (fun _ => by kernel_rfl)) <| .nil) fun u12 a w' H => ?_
 replace H := H.toM [(1, (sP ((u2 7).n 0) 0)), (2, (sP ((u6 2).n 0) 0)), (3, (sP ((u8 2).n 0) 0)), (4, (sP ((u10 2).n 0) 0)), (5, (sP ((u12 2).n 0) 0)), (117, .blk ((u2 7).n 0) [vI 0, vI 65536, .slice (some ⟨((u2 1).n 0), 0, none⟩) ([t3] : List TInterval).length 1, .slice none 0 0, .slice (some ⟨((u2 3).n 0), 0, none⟩) ([t4] : List TInterval).length 1, .slice (some ⟨((u2 5).n 0), 0, none⟩) ([t5] : List TInterval).length 1] 34), (119, .blk ((u6 2).n 0) [.slice ((u6 0).o 0) t7.length ((u6 0).n 0), vI 1] 31), (121, .blk ((u8 2).n 0) [.slice ((u8 0).o 0) t9.length ((u8 0).n 0), vI (-1)] 31), (123, .blk ((u10 2).n 0) [.slice ((u10 0).o 0) t11.length ((u10 0).n 0), vI 0] 31), (125, .blk ((u12 2).n 0) [.slice ((u12 1).o 0) t13.F.length ((u12 1).n 0), vI t13.Dir] 31), (114, owK 38 2 (some ⟨((u2 1).n 0), 0, none⟩) ([t3] : List TInterval).length 1 (([t3] : List TInterval).flatMap en_TInterval)), (115, owK 38 2 (some ⟨((u2 3).n 0), 0, none⟩) ([t4] : List TInterval).length 1 (([t4] : List TInterval).flatMap en_TInterval)), (116, owK 38 2 (some ⟨((u2 5).n 0), 0, none⟩) ([t5] : List TInterval).length 1 (([t5] : List TInterval).flatMap en_TInterval)), (118, rdF fr 4 ((u6 0).o 0) t7.length ((u6 0).n 0) (t7.flatMap en_TNode)), (120, owK 53 4 ((u8 0).o 0) t9.length ((u8 0).n 0) (t9.flatMap en_TNode)), (122, owK 53 4 ((u10 0).o 0) t11.length ((u10 0).n 0) (t11.flatMap en_TNode)), (124, rdF fr 4 ((u12 1).o 0) t13.F.length ((u12 1).n 0) (t13.F.flatMap en_TNode)), (999999, gk)]
 refine k_seq ?_
 replace G := bnd G; obtain ⟨t15, ht15, G⟩ := G
 replace G := bnd G; obtain ⟨t16, ht16, G⟩ := G
 replace G := bnd G; obtain ⟨t17, ht17, G⟩ := G
 replace G := gd G; obtain ⟨b18, G⟩ := G
 replace G := bnd G; obtain ⟨t19, ht19, G⟩ := G
 replace G := bnd G; obtain ⟨t20, ht20, G⟩ := G
 replace G := bnd G; obtain ⟨t21, ht21, G⟩ := G
 replace G := gd G; obtain ⟨b22, G⟩ := G
 replace G := bnd G; obtain ⟨t23, ht23, G⟩ := G
 replace G := bnd G; obtain ⟨t24, ht24, G⟩ := G
 replace G := bnd G; obtain ⟨t25, ht25, G⟩ := G
 replace G := bnd G; obtain ⟨t26, ht26, G⟩ := G
 replace G := bnd G; obtain ⟨t27, ht27, G⟩ := G
 replace G := bnd G; obtain ⟨t28, ht28, G⟩ := G
 replace G := bnd G; obtain ⟨t29, ht29, G⟩ := G
 replace G := bnd G; obtain ⟨t30, ht30, G⟩ := G
 replace G := bnd G; obtain ⟨t31, ht31, G⟩ := G
 replace G := bnd G; obtain ⟨z32, hz32, G⟩ := G
 replace hz32 := Option.some.inj hz32
 replace G := bnd G; obtain ⟨t33, ht33, G⟩ := G
 replace G := gd G; obtain ⟨b34, G⟩ := G
 replace G := bnd G; obtain ⟨t35, ht35, G⟩ := G
 replace G := bnd G; obtain ⟨t36, ht36, G⟩ := G
 replace G := bnd G; obtain ⟨t37, ht37, G⟩ := G
 replace G := gd G; obtain ⟨b38, G⟩ := G
 replace G := bnd G; obtain ⟨t39, ht39, G⟩ := G
 refine k_regT mixed H (.cons [21] (ok_ld (fun u14 => .agg #[.slice ((u6 0).o 0) t7.length ((u6 0).n 0), vI 1]) 21 119 0 2 (fun u14 => ((u6 2).n 0)) (fun u14 => [.slice ((u6 0).o 0) t7.length ((u6 0).n 0), vI 1]) 31) <|
   .cons [22] (ok_ld (fun u14 => .agg #[vI 0, vI 65536, .slice (some ⟨((u2 1).n 0), 0, none⟩) ([t3] : List TInterval).length 1, .slice none 0 0, .slice (some ⟨((u2 3).n 0), 0, none⟩) ([t4] : List TInterval).length 1, .slice (some ⟨((u2 5).n 0), 0, none⟩) ([t5] : List TInterval).length 1]) 22 117 0 6 (fun u14 => ((u2 7).n 0)) (fun u14 => [vI 0, vI 65536, .slice (some ⟨((u2 1).n 0), 0, none⟩) ([t3] : List TInterval).length 1, .slice none 0 0, .slice (some ⟨((u2 3).n 0), 0, none⟩) ([t4] : List TInterval).length 1, .slice (some ⟨((u2 5).n 0), 0, none⟩) ([t5] : List TInterval).length 1]) 34) <|
   .cons [23] (ok_callL [118, 114, 115, 116, 999999] (fun u14 => [rdF fr 4 ((u6 0).o 0) t7.length ((u6 0).n 0) (t7.flatMap en_TNode), owK 38 2 (some ⟨((u2 1).n 0), 0, none⟩) ([t3] : List TInterval).length 1 (([t3] : List TInterval).flatMap en_TInterval), owK 38 2 (some ⟨((u2 3).n 0), 0, none⟩) ([t4] : List TInterval).length 1 (([t4] : List TInterval).flatMap en_TInterval), owK 38 2 (some ⟨((u2 5).n 0), 0, none⟩) ([t5] : List TInterval).length 1 (([t5] : List TInterval).flatMap en_TInterval), gk]) 19 (fun u14 => #[.agg #[.slice ((u6 0).o 0) t7.length ((u6 0).n 0), vI 1], .agg #[vI 0, vI 65536, .slice (some ⟨((u2 1).n 0), 0, none⟩) ([t3] : List TInterval).length 1, .slice none ([] : List TInterval).length 0, .slice (some ⟨((u2 3).n 0), 0, none⟩) ([t4] : List TInterval).length 1, .slice (some ⟨((u2 5).n 0), 0, none⟩) ([t5] : List TInterval).length 1]]) (vI t15) 23 (fun u14 w hF => guard_Crossing.calls k0 (⟨t7, 1⟩ : TGuard) (⟨0, 65536, ([t3] : List TInterval), ([] : List TInterval), ([t4] : List TInterval), ([t5] : List TInterval)⟩ : TSegment) ((u6 0).o 0) ((u6 0).n 0) (some ⟨((u2 1).n 0), 0, none⟩) 1 none 0 (some ⟨((u2 3).n 0), 0, none⟩) 1 (some ⟨((u2 5).n 0), 0, none⟩) 1 t15 w (glob_of hF.2.2.2.2.1) (rdF_of hF.1) (owns_rowC (ow_of hF.2.1)) rowC_nil (owns_rowC (ow_of hF.2.2.1)) (owns_rowC (ow_of hF.2.2.2.1)) ht15)) <|
   .v 24 (.bool (t15 == 2)) <|
   .v 25 (.bool (t15 == 2)) <|
   .cons [26] (ok_ldg (fun u14 => .agg #[.slice ((u8 0).o 0) t9.length ((u8 0).n 0), vI (-1)]) (fun u14 => ((t15 == 2) == true)) [true] 26 121 0 2 (fun u14 => ((u8 2).n 0)) (fun u14 => [.slice ((u8 0).o 0) t9.length ((u8 0).n 0), vI (-1)]) 31) <|
   .cons [27] (ok_ldg (fun u14 => .agg #[vI 0, vI 65536, .slice (some ⟨((u2 1).n 0), 0, none⟩) ([t3] : List TInterval).length 1, .slice none 0 0, .slice (some ⟨((u2 3).n 0), 0, none⟩) ([t4] : List TInterval).length 1, .slice (some ⟨((u2 5).n 0), 0, none⟩) ([t5] : List TInterval).length 1]) (fun u14 => ((t15 == 2) == true)) [true] 27 117 0 6 (fun u14 => ((u2 7).n 0)) (fun u14 => [vI 0, vI 65536, .slice (some ⟨((u2 1).n 0), 0, none⟩) ([t3] : List TInterval).length 1, .slice none 0 0, .slice (some ⟨((u2 3).n 0), 0, none⟩) ([t4] : List TInterval).length 1, .slice (some ⟨((u2 5).n 0), 0, none⟩) ([t5] : List TInterval).length 1]) 34) <|
   .cons [28] (ok_callLg [120, 114, 115, 116, 999999] (fun u14 => [owK 53 4 ((u8 0).o 0) t9.length ((u8 0).n 0) (t9.flatMap en_TNode), owK 38 2 (some ⟨((u2 1).n 0), 0, none⟩) ([t3] : List TInterval).length 1 (([t3] : List TInterval).flatMap en_TInterval), owK 38 2 (some ⟨((u2 3).n 0), 0, none⟩) ([t4] : List TInterval).length 1 (([t4] : List TInterval).flatMap en_TInterval), owK 38 2 (some ⟨((u2 5).n 0), 0, none⟩) ([t5] : List TInterval).length 1 (([t5] : List TInterval).flatMap en_TInterval), gk]) 19 (fun u14 => #[.agg #[.slice ((u8 0).o 0) t9.length ((u8 0).n 0), vI (-1)], .agg #[vI 0, vI 65536, .slice (some ⟨((u2 1).n 0), 0, none⟩) ([t3] : List TInterval).length 1, .slice none ([] : List TInterval).length 0, .slice (some ⟨((u2 3).n 0), 0, none⟩) ([t4] : List TInterval).length 1, .slice (some ⟨((u2 5).n 0), 0, none⟩) ([t5] : List TInterval).length 1]]) (vI t16) (fun u14 => ((t15 == 2) == true)) [true, false, false] 28 (fun u14 w hg hF => guard_Crossing.calls k0 (⟨t9, (-1)⟩ : TGuard) (⟨0, 65536, ([t3] : List TInterval), ([] : List TInterval), ([t4] : List TInterval), ([t5] : List TInterval)⟩ : TSegment) ((u8 0).o 0) ((u8 0).n 0) (some ⟨((u2 1).n 0), 0, none⟩) 1 none 0 (some ⟨((u2 3).n 0), 0, none⟩) 1 (some ⟨((u2 5).n 0), 0, none⟩) 1 t16 w (glob_of hF.2.2.2.2.1) (owns_rowC (ow_of hF.1)) (owns_rowC (ow_of hF.2.1)) rowC_nil (owns_rowC (ow_of hF.2.2.1)) (owns_rowC (ow_of hF.2.2.2.1)) (ifp ht16 hg))) <|
   .cons [29] (ok_valg (fun u14 => .bool (t16 == 1)) (fun u14 => ((t15 == 2) == true)) [false, true] 29) <|
   .cons [30] (ok_and 25 29 (fun u14 => true) (fun u14 => true) (fun u14 => (t15 == 2)) (fun u14 => (t16 == 1)) 30) <|
   .v 31 (.bool ((t15 == 2) && (t16 == 1))) <|
   .cons [32] (ok_ldg (fun u14 => .agg #[.slice ((u10 0).o 0) t11.length ((u10 0).n 0), vI 0]) (fun u14 => (((t15 == 2) && (t16 == 1)) == true)) [true] 32 123 0 2 (fun u14 => ((u10 2).n 0)) (fun u14 => [.slice ((u10 0).o 0) t11.length ((u10 0).n 0), vI 0]) 31) <|
   .cons [33] (ok_ldg (fun u14 => .agg #[vI 0, vI 65536, .slice (some ⟨((u2 1).n 0), 0, none⟩) ([t3] : List TInterval).length 1, .slice none 0 0, .slice (some ⟨((u2 3).n 0), 0, none⟩) ([t4] : List TInterval).length 1, .slice (some ⟨((u2 5).n 0), 0, none⟩) ([t5] : List TInterval).length 1]) (fun u14 => (((t15 == 2) && (t16 == 1)) == true)) [true] 33 117 0 6 (fun u14 => ((u2 7).n 0)) (fun u14 => [vI 0, vI 65536, .slice (some ⟨((u2 1).n 0), 0, none⟩) ([t3] : List TInterval).length 1, .slice none 0 0, .slice (some ⟨((u2 3).n 0), 0, none⟩) ([t4] : List TInterval).length 1, .slice (some ⟨((u2 5).n 0), 0, none⟩) ([t5] : List TInterval).length 1]) 34) <|
   .cons [34] (ok_callLg [122, 114, 115, 116, 999999] (fun u14 => [owK 53 4 ((u10 0).o 0) t11.length ((u10 0).n 0) (t11.flatMap en_TNode), owK 38 2 (some ⟨((u2 1).n 0), 0, none⟩) ([t3] : List TInterval).length 1 (([t3] : List TInterval).flatMap en_TInterval), owK 38 2 (some ⟨((u2 3).n 0), 0, none⟩) ([t4] : List TInterval).length 1 (([t4] : List TInterval).flatMap en_TInterval), owK 38 2 (some ⟨((u2 5).n 0), 0, none⟩) ([t5] : List TInterval).length 1 (([t5] : List TInterval).flatMap en_TInterval), gk]) 19 (fun u14 => #[.agg #[.slice ((u10 0).o 0) t11.length ((u10 0).n 0), vI 0], .agg #[vI 0, vI 65536, .slice (some ⟨((u2 1).n 0), 0, none⟩) ([t3] : List TInterval).length 1, .slice none ([] : List TInterval).length 0, .slice (some ⟨((u2 3).n 0), 0, none⟩) ([t4] : List TInterval).length 1, .slice (some ⟨((u2 5).n 0), 0, none⟩) ([t5] : List TInterval).length 1]]) (vI t17) (fun u14 => (((t15 == 2) && (t16 == 1)) == true)) [true, false, false] 34 (fun u14 w hg hF => guard_Crossing.calls k0 (⟨t11, 0⟩ : TGuard) (⟨0, 65536, ([t3] : List TInterval), ([] : List TInterval), ([t4] : List TInterval), ([t5] : List TInterval)⟩ : TSegment) ((u10 0).o 0) ((u10 0).n 0) (some ⟨((u2 1).n 0), 0, none⟩) 1 none 0 (some ⟨((u2 3).n 0), 0, none⟩) 1 (some ⟨((u2 5).n 0), 0, none⟩) 1 t17 w (glob_of hF.2.2.2.2.1) (owns_rowC (ow_of hF.1)) (owns_rowC (ow_of hF.2.1)) rowC_nil (owns_rowC (ow_of hF.2.2.1)) (owns_rowC (ow_of hF.2.2.2.1)) (ifp ht17 hg))) <|
   .cons [35] (ok_valg (fun u14 => .bool (t17 == 0)) (fun u14 => (((t15 == 2) && (t16 == 1)) == true)) [false, true] 35) <|
   .cons [36] (ok_and 31 35 (fun u14 => true) (fun u14 => true) (fun u14 => ((t15 == 2) && (t16 == 1))) (fun u14 => (t17 == 0)) 36) <|
   .cons [37] (ok_as (u' := fun u14 => [(37, sB true)]) (ok_val (fun u14 => .bool (((t15 == 2) && (t16 == 1)) && (t17 == 0))) 37) (fun _ => by rw [b18])) <|
   .cons [38, 126] (ok_gd (ok_callRL [] (fun u14 => []) 27 (fun u14 => #[vI 1]) (fun p cap => .slice p t19.length cap) 53 4 t19.length (t19.flatMap en_TNode) 38 126 (fun u14 w hF => armillarylaw15_minus.calls 1  t19 w  ht19)) (by intro _; kernel_rfl)) <|
   .cons [39] (ok_gd (ok_val (fun u14 => .agg #[.slice ((u14 17).o 0) t19.length ((u14 17).n 0), vI 0]) 39) (by intro _; kernel_rfl)) <|
   .cons [40] (ok_gd (ok_ld (fun u14 => .agg #[vI 0, vI 65536, .slice (some ⟨((u2 1).n 0), 0, none⟩) ([t3] : List TInterval).length 1, .slice none 0 0, .slice (some ⟨((u2 3).n 0), 0, none⟩) ([t4] : List TInterval).length 1, .slice (some ⟨((u2 5).n 0), 0, none⟩) ([t5] : List TInterval).length 1]) 40 117 0 6 (fun u14 => ((u2 7).n 0)) (fun u14 => [vI 0, vI 65536, .slice (some ⟨((u2 1).n 0), 0, none⟩) ([t3] : List TInterval).length 1, .slice none 0 0, .slice (some ⟨((u2 3).n 0), 0, none⟩) ([t4] : List TInterval).length 1, .slice (some ⟨((u2 5).n 0), 0, none⟩) ([t5] : List TInterval).length 1]) 34) (by intro _; kernel_rfl)) <|
   .cons [41] (ok_gd (ok_callL [126, 114, 115, 116, 999999] (fun u14 => [owK 53 4 ((u14 17).o 0) t19.length ((u14 17).n 0) (t19.flatMap en_TNode), owK 38 2 (some ⟨((u2 1).n 0), 0, none⟩) ([t3] : List TInterval).length 1 (([t3] : List TInterval).flatMap en_TInterval), owK 38 2 (some ⟨((u2 3).n 0), 0, none⟩) ([t4] : List TInterval).length 1 (([t4] : List TInterval).flatMap en_TInterval), owK 38 2 (some ⟨((u2 5).n 0), 0, none⟩) ([t5] : List TInterval).length 1 (([t5] : List TInterval).flatMap en_TInterval), gk]) 19 (fun u14 => #[.agg #[.slice ((u14 17).o 0) t19.length ((u14 17).n 0), vI 0], .agg #[vI 0, vI 65536, .slice (some ⟨((u2 1).n 0), 0, none⟩) ([t3] : List TInterval).length 1, .slice none ([] : List TInterval).length 0, .slice (some ⟨((u2 3).n 0), 0, none⟩) ([t4] : List TInterval).length 1, .slice (some ⟨((u2 5).n 0), 0, none⟩) ([t5] : List TInterval).length 1]]) (vI t20) 41 (fun u14 w hF => guard_Crossing.calls k0 (⟨t19, 0⟩ : TGuard) (⟨0, 65536, ([t3] : List TInterval), ([] : List TInterval), ([t4] : List TInterval), ([t5] : List TInterval)⟩ : TSegment) ((u14 17).o 0) ((u14 17).n 0) (some ⟨((u2 1).n 0), 0, none⟩) 1 none 0 (some ⟨((u2 3).n 0), 0, none⟩) 1 (some ⟨((u2 5).n 0), 0, none⟩) 1 t20 w (glob_of hF.2.2.2.2.1) (owns_rowC (ow_of hF.1)) (owns_rowC (ow_of hF.2.1)) rowC_nil (owns_rowC (ow_of hF.2.2.1)) (owns_rowC (ow_of hF.2.2.2.1)) ht20)) (by intro _; kernel_rfl)) <|
   .cons [42] (ok_gd (ok_val (fun u14 => .bool (t20 == 2)) 42) (by intro _; kernel_rfl)) <|
   .cons [43] (ok_pickK (fun u14 => .bool (t20 == 2)) 43) <|
   .v 44 (.bool (t20 == 2)) <|
   .cons [45] (ok_ldg (fun u14 => .agg #[.slice ((u12 1).o 0) t13.F.length ((u12 1).n 0), vI t13.Dir]) (fun u14 => ((t20 == 2) == true)) [true] 45 125 0 2 (fun u14 => ((u12 2).n 0)) (fun u14 => [.slice ((u12 1).o 0) t13.F.length ((u12 1).n 0), vI t13.Dir]) 31) <|
   .cons [46] (ok_ldg (fun u14 => .agg #[vI 0, vI 65536, .slice (some ⟨((u2 1).n 0), 0, none⟩) ([t3] : List TInterval).length 1, .slice none 0 0, .slice (some ⟨((u2 3).n 0), 0, none⟩) ([t4] : List TInterval).length 1, .slice (some ⟨((u2 5).n 0), 0, none⟩) ([t5] : List TInterval).length 1]) (fun u14 => ((t20 == 2) == true)) [true] 46 117 0 6 (fun u14 => ((u2 7).n 0)) (fun u14 => [vI 0, vI 65536, .slice (some ⟨((u2 1).n 0), 0, none⟩) ([t3] : List TInterval).length 1, .slice none 0 0, .slice (some ⟨((u2 3).n 0), 0, none⟩) ([t4] : List TInterval).length 1, .slice (some ⟨((u2 5).n 0), 0, none⟩) ([t5] : List TInterval).length 1]) 34) <|
   .cons [47] (ok_callLg [124, 114, 115, 116, 999999] (fun u14 => [rdF fr 4 ((u12 1).o 0) t13.F.length ((u12 1).n 0) (t13.F.flatMap en_TNode), owK 38 2 (some ⟨((u2 1).n 0), 0, none⟩) ([t3] : List TInterval).length 1 (([t3] : List TInterval).flatMap en_TInterval), owK 38 2 (some ⟨((u2 3).n 0), 0, none⟩) ([t4] : List TInterval).length 1 (([t4] : List TInterval).flatMap en_TInterval), owK 38 2 (some ⟨((u2 5).n 0), 0, none⟩) ([t5] : List TInterval).length 1 (([t5] : List TInterval).flatMap en_TInterval), gk]) 19 (fun u14 => #[.agg #[.slice ((u12 1).o 0) t13.F.length ((u12 1).n 0), vI t13.Dir], .agg #[vI 0, vI 65536, .slice (some ⟨((u2 1).n 0), 0, none⟩) ([t3] : List TInterval).length 1, .slice none ([] : List TInterval).length 0, .slice (some ⟨((u2 3).n 0), 0, none⟩) ([t4] : List TInterval).length 1, .slice (some ⟨((u2 5).n 0), 0, none⟩) ([t5] : List TInterval).length 1]]) (vI t21) (fun u14 => ((t20 == 2) == true)) [true, false, false] 47 (fun u14 w hg hF => guard_Crossing.calls k0 (⟨t13.F, t13.Dir⟩ : TGuard) (⟨0, 65536, ([t3] : List TInterval), ([] : List TInterval), ([t4] : List TInterval), ([t5] : List TInterval)⟩ : TSegment) ((u12 1).o 0) ((u12 1).n 0) (some ⟨((u2 1).n 0), 0, none⟩) 1 none 0 (some ⟨((u2 3).n 0), 0, none⟩) 1 (some ⟨((u2 5).n 0), 0, none⟩) 1 t21 w (glob_of hF.2.2.2.2.1) (rdF_of hF.1) (owns_rowC (ow_of hF.2.1)) rowC_nil (owns_rowC (ow_of hF.2.2.1)) (owns_rowC (ow_of hF.2.2.2.1)) (ifp ht21 hg))) <|
   .cons [48] (ok_valg (fun u14 => .bool (t21 == 2)) (fun u14 => ((t20 == 2) == true)) [false, true] 48) <|
   .cons [49] (ok_and 44 48 (fun u14 => true) (fun u14 => true) (fun u14 => (t20 == 2)) (fun u14 => (t21 == 2)) 49) <|
   .v 50 (.bool ((t20 == 2) && (t21 == 2))) <|
   .cons [51] (ok_valg (fun u14 => vP ((u12 2).n 0) 1) (fun u14 => (((t20 == 2) && (t21 == 2)) == true)) [true] 51) <|
   .cons [52] (ok_ldg (fun u14 => vI t13.Dir) (fun u14 => (((t20 == 2) && (t21 == 2)) == true)) [false] 52 125 1 1 (fun u14 => ((u12 2).n 0)) (fun u14 => [.slice ((u12 1).o 0) t13.F.length ((u12 1).n 0), vI t13.Dir]) 31) <|
   .cons [53] (ok_valg (fun u14 => .bool (t13.Dir == (-1))) (fun u14 => (((t20 == 2) && (t21 == 2)) == true)) [false, true] 53) <|
   .cons [54] (ok_and 50 53 (fun u14 => true) (fun u14 => true) (fun u14 => ((t20 == 2) && (t21 == 2))) (fun u14 => (t13.Dir == (-1))) 54) <|
   .v 55 (.bool (((t20 == 2) && (t21 == 2)) && (t13.Dir == (-1)))) <|
   .cons [56] (ok_valg (fun u14 => vP ((u12 2).n 0) 0) (fun u14 => ((((t20 == 2) && (t21 == 2)) && (t13.Dir == (-1))) == true)) [true] 56) <|
   .cons [57] (ok_ldg (fun u14 => .slice ((u12 1).o 0) t13.F.length ((u12 1).n 0)) (fun u14 => ((((t20 == 2) && (t21 == 2)) && (t13.Dir == (-1))) == true)) [false] 57 125 0 1 (fun u14 => ((u12 2).n 0)) (fun u14 => [.slice ((u12 1).o 0) t13.F.length ((u12 1).n 0), vI t13.Dir]) 31) <|
   .cons [58] (ok_valg (fun u14 => vI (t13.F.length : Int)) (fun u14 => ((((t20 == 2) && (t21 == 2)) && (t13.Dir == (-1))) == true)) [false] 58) <|
   .cons [59] (ok_valg (fun u14 => .bool ((t13.F.length : Int) == 4)) (fun u14 => ((((t20 == 2) && (t21 == 2)) && (t13.Dir == (-1))) == true)) [false, true] 59) <|
   .cons [60] (ok_and 55 59 (fun u14 => true) (fun u14 => true) (fun u14 => (((t20 == 2) && (t21 == 2)) && (t13.Dir == (-1)))) (fun u14 => ((t13.F.length : Int) == 4)) 60) <|
   .cons [61] (ok_as (u' := fun u14 => [(61, sB true)]) (ok_val (fun u14 => .bool ((((t20 == 2) && (t21 == 2)) && (t13.Dir == (-1))) && ((t13.F.length : Int) == 4))) 61) (fun _ => by rw [b22])) <|
   .cons [62] (ok_gd (ok_ld (fun u14 => .agg #[.slice ((u12 1).o 0) t13.F.length ((u12 1).n 0), vI t13.Dir]) 62 125 0 2 (fun u14 => ((u12 2).n 0)) (fun u14 => [.slice ((u12 1).o 0) t13.F.length ((u12 1).n 0), vI t13.Dir]) 31) (by intro _; kernel_rfl)) <|
   .cons [63, 127] (ok_gd (ok_callF [124] (fun u14 => [rdF fr 4 ((u12 1).o 0) t13.F.length ((u12 1).n 0) (t13.F.flatMap en_TNode)]) 17 (fun u14 => #[.agg #[.slice ((u12 1).o 0) t13.F.length ((u12 1).n 0), vI t13.Dir]]) (fun g => .agg #[.slice (g.o 0) t23.F.length (g.n 0), vI t23.Dir]) [(4, t23.F.length, t23.F.flatMap en_TNode)] fr 63 127 (fun u14 w hF => guard_Reverse.calls k0 (⟨t13.F, t13.Dir⟩ : TGuard) ((u12 1).o 0) ((u12 1).n 0) t23 w (rdF_of hF.1) ht23) (fun u14 w hF => ins_as (ins' := [(((u12 1).o 0), t13.F.length)]) (ins_cons (rdF fr 4 ((u12 1).o 0) t13.F.length ((u12 1).n 0) (t13.F.flatMap en_TNode)) (.head _) (fun h => h) (fun j h => ⟨rdF_fr hF.1 j h, h⟩) ins_nil)) hB) (by intro _; kernel_rfl)) <|
   .cons [64] (ok_gd (ok_ld (fun u14 => .agg #[.slice ((u6 0).o 0) t7.length ((u6 0).n 0), vI 1]) 64 119 0 2 (fun u14 => ((u6 2).n 0)) (fun u14 => [.slice ((u6 0).o 0) t7.length ((u6 0).n 0), vI 1]) 31) (by intro _; kernel_rfl)) <|
   .cons [65] (ok_gd (ok_callL [127, 118] (fun u14 => [rdF fr 4 ((u14 42).o 0) t23.F.length ((u14 42).n 0) (t23.F.flatMap en_TNode), rdF fr 4 ((u6 0).o 0) t7.length ((u6 0).n 0) (t7.flatMap en_TNode)]) 16 (fun u14 => #[.agg #[.slice ((u14 42).o 0) t23.F.length ((u14 42).n 0), vI t23.Dir], .agg #[.slice ((u6 0).o 0) t7.length ((u6 0).n 0), vI 1]]) (.bool t24) 65 (fun u14 w hF => armillaryref15_Same.calls k0 t23 (⟨t7, 1⟩ : TGuard) ((u14 42).o 0) ((u14 42).n 0) ((u6 0).o 0) ((u6 0).n 0) t24 w (rdF_of hF.1) (rdF_of hF.2.1) ht24)) (by intro _; kernel_rfl)) <|
   .cons [66] (ok_pickK (fun u14 => .bool t24) 66) <|
   .v 67 (.bool t24) <|
   .cons [68] (ok_ldg (fun u14 => .agg #[.slice ((u6 0).o 0) t7.length ((u6 0).n 0), vI 1]) (fun u14 => (t24 == true)) [true] 68 119 0 2 (fun u14 => ((u6 2).n 0)) (fun u14 => [.slice ((u6 0).o 0) t7.length ((u6 0).n 0), vI 1]) 31) <|
   .cons [69] (ok_valg (fun u14 => vP ((u2 7).n 0) 4) (fun u14 => (t24 == true)) [true] 69) <|
   .cons [70] (ok_ldg (fun u14 => .slice (some ⟨((u2 3).n 0), 0, none⟩) ([t4] : List TInterval).length 1) (fun u14 => (t24 == true)) [false] 70 117 4 1 (fun u14 => ((u2 7).n 0)) (fun u14 => [vI 0, vI 65536, .slice (some ⟨((u2 1).n 0), 0, none⟩) ([t3] : List TInterval).length 1, .slice none 0 0, .slice (some ⟨((u2 3).n 0), 0, none⟩) ([t4] : List TInterval).length 1, .slice (some ⟨((u2 5).n 0), 0, none⟩) ([t5] : List TInterval).length 1]) 34) <|
   .cons [71] (ok_call 26 (fun u14 => #[vI 0, vI 1]) (.agg #[vI t25.Lo, vI t25.Hi]) (fun u14 => (t24 == true)) [true, true, true] 71 [] (fun _ w hg _ => armillarylaw15_span.calls 0 1 t25 w (ifp ht25 hg))) <|
   .cons [72] (ok_callLg [118, 115, 999999] (fun u14 => [rdF fr 4 ((u6 0).o 0) t7.length ((u6 0).n 0) (t7.flatMap en_TNode), owK 38 2 (some ⟨((u2 3).n 0), 0, none⟩) ([t4] : List TInterval).length 1 (([t4] : List TInterval).flatMap en_TInterval), gk]) 12 (fun u14 => #[.agg #[.slice ((u6 0).o 0) t7.length ((u6 0).n 0), vI 1], .slice (some ⟨((u2 3).n 0), 0, none⟩) ([t4] : List TInterval).length 1, .agg #[vI t25.Lo, vI t25.Hi]]) (.agg #[vI t26.Lo, vI t26.Hi]) (fun u14 => (t24 == true)) [true, false, false, false] 72 (fun u14 w hg hF => guard_Eval.calls k0 (⟨t7, 1⟩ : TGuard) ([t4] : List TInterval) t25 ((u6 0).o 0) ((u6 0).n 0) (some ⟨((u2 3).n 0), 0, none⟩) 1 t26 w (glob_of hF.2.2.1) (rdF_of hF.1) (owns_rowC (ow_of hF.2.1)) (ifp ht26 hg))) <|
   .cons [73] (ok_call 26 (fun u14 => #[vI (-1), vI 1]) (.agg #[vI t27.Lo, vI t27.Hi]) (fun u14 => (t24 == true)) [true, true, true] 73 [] (fun _ w hg _ => armillarylaw15_span.calls (-1) 1 t27 w (ifp ht27 hg))) <|
   .cons [74] (ok_valg (fun u14 => .bool ((t26.Lo == t27.Lo) && ((t26.Hi == t27.Hi) && true))) (fun u14 => (t24 == true)) [false, false] 74 (hv := fun _ _ => run_of (by kernel_rfl) (run_eql_agg (t := 38) (x := (.tmp 72)) (y := (.tmp 73)) (xs := #[vI t26.Lo, vI t26.Hi]) (ys := #[vI t27.Lo, vI t27.Hi]) (b := ((t26.Lo == t27.Lo) && ((t26.Hi == t27.Hi) && true))) (by kernel_rfl) (by kernel_rfl)))) <|
   .cons [75] (ok_and 67 74 (fun u14 => true) (fun u14 => true) (fun u14 => t24) (fun u14 => ((t26.Lo == t27.Lo) && ((t26.Hi == t27.Hi) && true))) 75) <|
   .v 76 (.bool (t24 && ((t26.Lo == t27.Lo) && ((t26.Hi == t27.Hi) && true)))) <|
   .cons [77] (ok_ldg (fun u14 => .agg #[.slice ((u6 0).o 0) t7.length ((u6 0).n 0), vI 1]) (fun u14 => ((t24 && ((t26.Lo == t27.Lo) && ((t26.Hi == t27.Hi) && true))) == true)) [true] 77 119 0 2 (fun u14 => ((u6 2).n 0)) (fun u14 => [.slice ((u6 0).o 0) t7.length ((u6 0).n 0), vI 1]) 31) <|
   .cons [78] (ok_valg (fun u14 => vP ((u2 7).n 0) 2) (fun u14 => ((t24 && ((t26.Lo == t27.Lo) && ((t26.Hi == t27.Hi) && true))) == true)) [true] 78) <|
   .cons [79] (ok_ldg (fun u14 => .slice (some ⟨((u2 1).n 0), 0, none⟩) ([t3] : List TInterval).length 1) (fun u14 => ((t24 && ((t26.Lo == t27.Lo) && ((t26.Hi == t27.Hi) && true))) == true)) [false] 79 117 2 1 (fun u14 => ((u2 7).n 0)) (fun u14 => [vI 0, vI 65536, .slice (some ⟨((u2 1).n 0), 0, none⟩) ([t3] : List TInterval).length 1, .slice none 0 0, .slice (some ⟨((u2 3).n 0), 0, none⟩) ([t4] : List TInterval).length 1, .slice (some ⟨((u2 5).n 0), 0, none⟩) ([t5] : List TInterval).length 1]) 34) <|
   .cons [80] (ok_call 26 (fun u14 => #[vI 0, vI 0]) (.agg #[vI t28.Lo, vI t28.Hi]) (fun u14 => ((t24 && ((t26.Lo == t27.Lo) && ((t26.Hi == t27.Hi) && true))) == true)) [true, true, true] 80 [] (fun _ w hg _ => armillarylaw15_span.calls 0 0 t28 w (ifp ht28 hg))) <|
   .cons [81] (ok_callLg [118, 114, 999999] (fun u14 => [rdF fr 4 ((u6 0).o 0) t7.length ((u6 0).n 0) (t7.flatMap en_TNode), owK 38 2 (some ⟨((u2 1).n 0), 0, none⟩) ([t3] : List TInterval).length 1 (([t3] : List TInterval).flatMap en_TInterval), gk]) 14 (fun u14 => #[.agg #[.slice ((u6 0).o 0) t7.length ((u6 0).n 0), vI 1], .slice (some ⟨((u2 1).n 0), 0, none⟩) ([t3] : List TInterval).length 1, .agg #[vI t28.Lo, vI t28.Hi]]) (vI t29) (fun u14 => ((t24 && ((t26.Lo == t27.Lo) && ((t26.Hi == t27.Hi) && true))) == true)) [true, false, false, false] 81 (fun u14 w hg hF => guard_Side.calls k0 (⟨t7, 1⟩ : TGuard) ([t3] : List TInterval) t28 ((u6 0).o 0) ((u6 0).n 0) (some ⟨((u2 1).n 0), 0, none⟩) 1 t29 w (glob_of hF.2.2.1) (rdF_of hF.1) (owns_rowC (ow_of hF.2.1)) (ifp ht29 hg))) <|
   .cons [82] (ok_valg (fun u14 => .bool (t29 == (-1))) (fun u14 => ((t24 && ((t26.Lo == t27.Lo) && ((t26.Hi == t27.Hi) && true))) == true)) [false, true] 82) <|
   .cons [83] (ok_and 76 82 (fun u14 => true) (fun u14 => true) (fun u14 => (t24 && ((t26.Lo == t27.Lo) && ((t26.Hi == t27.Hi) && true)))) (fun u14 => (t29 == (-1))) 83) <|
   .v 84 (.bool ((t24 && ((t26.Lo == t27.Lo) && ((t26.Hi == t27.Hi) && true))) && (t29 == (-1)))) <|
   .cons [85] (ok_ldg (fun u14 => .agg #[.slice ((u6 0).o 0) t7.length ((u6 0).n 0), vI 1]) (fun u14 => (((t24 && ((t26.Lo == t27.Lo) && ((t26.Hi == t27.Hi) && true))) && (t29 == (-1))) == true)) [true] 85 119 0 2 (fun u14 => ((u6 2).n 0)) (fun u14 => [.slice ((u6 0).o 0) t7.length ((u6 0).n 0), vI 1]) 31) <|
   .cons [86] (ok_valg (fun u14 => vP ((u2 7).n 0) 4) (fun u14 => (((t24 && ((t26.Lo == t27.Lo) && ((t26.Hi == t27.Hi) && true))) && (t29 == (-1))) == true)) [true] 86) <|
   .cons [87] (ok_ldg (fun u14 => .slice (some ⟨((u2 3).n 0), 0, none⟩) ([t4] : List TInterval).length 1) (fun u14 => (((t24 && ((t26.Lo == t27.Lo) && ((t26.Hi == t27.Hi) && true))) && (t29 == (-1))) == true)) [false] 87 117 4 1 (fun u14 => ((u2 7).n 0)) (fun u14 => [vI 0, vI 65536, .slice (some ⟨((u2 1).n 0), 0, none⟩) ([t3] : List TInterval).length 1, .slice none 0 0, .slice (some ⟨((u2 3).n 0), 0, none⟩) ([t4] : List TInterval).length 1, .slice (some ⟨((u2 5).n 0), 0, none⟩) ([t5] : List TInterval).length 1]) 34) <|
   .cons [88] (ok_call 26 (fun u14 => #[vI 0, vI 0]) (.agg #[vI t30.Lo, vI t30.Hi]) (fun u14 => (((t24 && ((t26.Lo == t27.Lo) && ((t26.Hi == t27.Hi) && true))) && (t29 == (-1))) == true)) [true, true, true] 88 [] (fun _ w hg _ => armillarylaw15_span.calls 0 0 t30 w (ifp ht30 hg))) <|
   .cons [89] (ok_callLg [118, 115, 999999] (fun u14 => [rdF fr 4 ((u6 0).o 0) t7.length ((u6 0).n 0) (t7.flatMap en_TNode), owK 38 2 (some ⟨((u2 3).n 0), 0, none⟩) ([t4] : List TInterval).length 1 (([t4] : List TInterval).flatMap en_TInterval), gk]) 14 (fun u14 => #[.agg #[.slice ((u6 0).o 0) t7.length ((u6 0).n 0), vI 1], .slice (some ⟨((u2 3).n 0), 0, none⟩) ([t4] : List TInterval).length 1, .agg #[vI t30.Lo, vI t30.Hi]]) (vI t31) (fun u14 => (((t24 && ((t26.Lo == t27.Lo) && ((t26.Hi == t27.Hi) && true))) && (t29 == (-1))) == true)) [true, false, false, false] 89 (fun u14 w hg hF => guard_Side.calls k0 (⟨t7, 1⟩ : TGuard) ([t4] : List TInterval) t30 ((u6 0).o 0) ((u6 0).n 0) (some ⟨((u2 3).n 0), 0, none⟩) 1 t31 w (glob_of hF.2.2.1) (rdF_of hF.1) (owns_rowC (ow_of hF.2.1)) (ifp ht31 hg))) <|
   .cons [90] (ok_valg (fun u14 => .bool (t31 == 0)) (fun u14 => (((t24 && ((t26.Lo == t27.Lo) && ((t26.Hi == t27.Hi) && true))) && (t29 == (-1))) == true)) [false, true] 90) <|
   .cons [91] (ok_and 84 90 (fun u14 => true) (fun u14 => true) (fun u14 => ((t24 && ((t26.Lo == t27.Lo) && ((t26.Hi == t27.Hi) && true))) && (t29 == (-1)))) (fun u14 => (t31 == 0)) 91) <|
   .cons [92] (ok_as (u' := fun u14 => [(92, sB z32)]) (ok_val (fun u14 => .bool (((t24 && ((t26.Lo == t27.Lo) && ((t26.Hi == t27.Hi) && true))) && (t29 == (-1))) && (t31 == 0))) 92) (fun _ => by rw [← hz32])) <|
   .cons [93] (ok_ldg (fun u14 => .agg #[.slice ((u6 0).o 0) t7.length ((u6 0).n 0), vI 1]) (fun u14 => (z32 == true)) [true] 93 119 0 2 (fun u14 => ((u6 2).n 0)) (fun u14 => [.slice ((u6 0).o 0) t7.length ((u6 0).n 0), vI 1]) 31) <|
   .cons [94] (ok_callLg [118] (fun u14 => [rdF fr 4 ((u6 0).o 0) t7.length ((u6 0).n 0) (t7.flatMap en_TNode)]) 10 (fun u14 => #[.agg #[.slice ((u6 0).o 0) t7.length ((u6 0).n 0), vI 1], vI 1]) (.bool t33) (fun u14 => (z32 == true)) [true, false, true] 94 (fun u14 w hg hF => guard_Valid.calls k0 (⟨t7, 1⟩ : TGuard) 1 ((u6 0).o 0) ((u6 0).n 0) t33 w (rdF_of hF.1) (ifp ht33 hg))) <|
   .cons [95] (ok_and 92 94 (fun u14 => true) (fun u14 => true) (fun u14 => z32) (fun u14 => t33) 95) <|
   .cons [96] (ok_as (u' := fun u14 => [(96, sB true)]) (ok_val (fun u14 => .bool (z32 && t33)) 96) (fun _ => by rw [b34])) <|
   .cons [97, 128] (ok_gd (ok_callRL [] (fun u14 => []) 27 (fun u14 => #[vI 1]) (fun p cap => .slice p t35.length cap) 53 4 t35.length (t35.flatMap en_TNode) 97 128 (fun u14 w hF => armillarylaw15_minus.calls 1  t35 w  ht35)) (by intro _; kernel_rfl)) <|
   .cons [98] (ok_gd (ok_val (fun u14 => .agg #[.slice ((u14 76).o 0) t35.length ((u14 76).n 0), vI 2]) 98) (by intro _; kernel_rfl)) <|
   .cons [99] (ok_gd (ok_callL [128] (fun u14 => [owK 53 4 ((u14 76).o 0) t35.length ((u14 76).n 0) (t35.flatMap en_TNode)]) 10 (fun u14 => #[.agg #[.slice ((u14 76).o 0) t35.length ((u14 76).n 0), vI 2], vI 1]) (.bool t36) 99 (fun u14 w hF => guard_Valid.calls k0 (⟨t35, 2⟩ : TGuard) 1 ((u14 76).o 0) ((u14 76).n 0) t36 w (owns_rowC (ow_of hF.1)) ht36)) (by intro _; kernel_rfl)) <|
   .cons [100] (ok_gd (ok_val (fun u14 => .bool (!t36)) 100) (by intro _; kernel_rfl)) <|
   .cons [101] (ok_pickK (fun u14 => .bool (!t36)) 101) <|
   .v 102 (.bool (!t36)) <|
   .cons [103] (ok_valg (fun u14 => .agg #[.slice none 0 0, vI 0]) (fun u14 => ((!t36) == true)) [] 103) <|
   .cons [104] (ok_callLg [] (fun u14 => []) 10 (fun u14 => #[.agg #[.slice none ([] : List TNode).length 0, vI 0], vI 1]) (.bool t37) (fun u14 => ((!t36) == true)) [true, false, true] 104 (fun u14 w hg hF => guard_Valid.calls k0 (⟨([] : List TNode), 0⟩ : TGuard) 1 none 0 t37 w rowC_nil (ifp ht37 hg))) <|
   .cons [105] (ok_valg (fun u14 => .bool (!t37)) (fun u14 => ((!t36) == true)) [false] 105) <|
   .cons [106] (ok_and 102 105 (fun u14 => true) (fun u14 => true) (fun u14 => (!t36)) (fun u14 => (!t37)) 106) <|
   .cons [107] (ok_as (u' := fun u14 => [(107, sB true)]) (ok_val (fun u14 => .bool ((!t36) && (!t37))) 107) (fun _ => by rw [b38])) <|
   .cons [108] (ok_gd (ok_val (fun u14 => .agg #[vI 2, vI 1, vI 0, vI 0]) 108) (by intro _; kernel_rfl)) <|
   .cons [109, 129] (ok_gd (ok_blkrow 4 1 (ok_new (fun b => .slice (some ⟨b, 0, none⟩) 1 1) (fun u14 => [vI 2, vI 1, vI 0, vI 0]) 53 109 129) (fun _ => rfl) (by decide)) (by intro _; kernel_rfl)) <|
   .cons [110] (ok_gd (ok_val (fun u14 => .agg #[.slice (some ⟨((u14 88).n 0), 0, none⟩) ([(⟨2, 1, (⟨0, 0⟩ : TInterval)⟩ : TNode)] : List TNode).length 1, vI 0]) 110) (by intro _; kernel_rfl)) <|
   .cons [111] (ok_gd (ok_callL [129] (fun u14 => [owK 53 4 (some ⟨((u14 88).n 0), 0, none⟩) ([(⟨2, 1, (⟨0, 0⟩ : TInterval)⟩ : TNode)] : List TNode).length 1 (([(⟨2, 1, (⟨0, 0⟩ : TInterval)⟩ : TNode)] : List TNode).flatMap en_TNode)]) 10 (fun u14 => #[.agg #[.slice (some ⟨((u14 88).n 0), 0, none⟩) ([(⟨2, 1, (⟨0, 0⟩ : TInterval)⟩ : TNode)] : List TNode).length 1, vI 0], vI 1]) (.bool t39) 111 (fun u14 w hF => guard_Valid.calls k0 (⟨([(⟨2, 1, (⟨0, 0⟩ : TInterval)⟩ : TNode)] : List TNode), 0⟩ : TGuard) 1 (some ⟨((u14 88).n 0), 0, none⟩) 1 t39 w (owns_rowC (ow_of hF.1)) ht39)) (by intro _; kernel_rfl)) <|
   .cons [112] (ok_gd (ok_val (fun u14 => .bool (!t39)) 112) (by intro _; kernel_rfl)) <|
   .cons [113] (ok_pickK (fun u14 => .bool (!t39)) 113) <|
   .v 0 (.bool (!t39)) <| .nil) (by kernel_rfl) fun u14 a w' H => ?_
 replace H := H.toM [(0, (sB (!t39))), (999999, gk)]
 refine k_ret ?_
 obtain rfl := Option.some.inj G
 exact k_done0 H _ (by kernel_rfl) (by kernel_rfl)

set_option maxHeartbeats 4000000 in
theorem armillaryref02_Hull.calls (a0 : TInterval) (a1 : TInterval) (r : TInterval) (w : World) (G : armillaryref02_Hull a0 a1 = some r) :
  Calls Tryd.prog 47 #[.agg #[vI a0.Lo, vI a0.Hi], .agg #[vI a1.Lo, vI a1.Hi]] w fun e w' => e = .returned (.agg #[vI r.Lo, vI r.Hi]) ∧ Below w.heap.size w w' := by
 refine k_enter (args := [.agg #[vI a0.Lo, vI a0.Hi], .agg #[vI a1.Lo, vI a1.Hi]]) 16 Tryd.func47 rfl (by kernel_rfl) (by kernel_rfl) fun a H => ?_
 unfold armillaryref02_Hull at G
 refine k_seq ?_
 refine k_rg mixed H (.cons [2, 16] (ok_new (fun b => vP b 0) (fun u1 => [vI a0.Lo, vI a0.Hi]) 38 2 16) <|
   .cons [3, 17] (ok_new (fun b => vP b 0) (fun u1 => [vI a1.Lo, vI a1.Hi]) 38 3 17) <|
   .cons [4, 18] (ok_new (fun b => vP b 0) (fun u1 => [vI 0, vI 0]) 38 4 18) <| .nil) fun u1 a w' H => ?_
 replace H := H.toM [(2, (sP ((u1 0).n 0) 0)), (3, (sP ((u1 1).n 0) 0)), (4, (sP ((u1 2).n 0) 0)), (16, .blk ((u1 0).n 0) [vI a0.Lo, vI a0.Hi] 38), (17, .blk ((u1 1).n 0) [vI a1.Lo, vI a1.Hi] 38), (18, .blk ((u1 2).n 0) [vI 0, vI 0] 38)]
 refine k_seq ?_
 refine k_rg mixed H (.v 5 (vP ((u1 0).n 0) 0) <|
   .cons [6] (ok_ld (fun u2 => vI a0.Lo) 6 16 0 1 (fun u2 => ((u1 0).n 0)) (fun u2 => [vI a0.Lo, vI a0.Hi]) 38) <|
   .v 7 (vP ((u1 1).n 0) 0) <|
   .cons [8] (ok_ld (fun u2 => vI a1.Lo) 8 17 0 1 (fun u2 => ((u1 1).n 0)) (fun u2 => [vI a1.Lo, vI a1.Hi]) 38) <|
   .v 9 (vI (mn a0.Lo a1.Lo)) <|
   .v 10 (vP ((u1 0).n 0) 1) <|
   .cons [11] (ok_ld (fun u2 => vI a0.Hi) 11 16 1 1 (fun u2 => ((u1 0).n 0)) (fun u2 => [vI a0.Lo, vI a0.Hi]) 38) <|
   .v 12 (vP ((u1 1).n 0) 1) <|
   .cons [13] (ok_ld (fun u2 => vI a1.Hi) 13 17 1 1 (fun u2 => ((u1 1).n 0)) (fun u2 => [vI a1.Lo, vI a1.Hi]) 38) <|
   .v 14 (vI (mx a0.Hi a1.Hi)) <|
   .v 15 (.agg #[vI (mn a0.Lo a1.Lo), vI (mx a0.Hi a1.Hi)]) <|
   .cons [18] (ok_as (u' := fun u2 => [(18, .blk ((u1 2).n 0) [vI (mn a0.Lo a1.Lo), vI (mx a0.Hi a1.Hi)] 38)]) (ok_store 18 0 (fun u2 => ((u1 2).n 0)) (fun u2 => [vI 0, vI 0]) (fun u2 => [vI (mn a0.Lo a1.Lo), vI (mx a0.Hi a1.Hi)]) 38) (fun _ => by kernel_rfl)) <| .nil) fun u2 a w' H => ?_
 replace H := H.toM [(4, (sP ((u1 2).n 0) 0)), (18, .blk ((u1 2).n 0) [vI (mn a0.Lo a1.Lo), vI (mx a0.Hi a1.Hi)] 38)]
 refine k_ret ?_
 obtain rfl := Option.some.inj G
 exact k_done1 H _ 18 ((u1 2).n 0) [vI (mn a0.Lo a1.Lo), vI (mx a0.Hi a1.Hi)] 38 0 2 (by kernel_rfl) (by kernel_rfl) (by kernel_rfl) (by kernel_rfl)

set_option maxHeartbeats 4000000 in
theorem armillaryref03_Hull.calls (k0 : Nat) (a0 : List TInterval) (a1 : List TInterval) (p_a0 : Option Addr) (c_a0 : Nat) (p_a1 : Option Addr) (c_a1 : Nat) (r : List TInterval) (w : World) (R_p_a0 : RowC w 2 p_a0 a0.length c_a0 (a0.flatMap en_TInterval)) (R_p_a1 : RowC w 2 p_a1 a1.length c_a1 (a1.flatMap en_TInterval)) (G : armillaryref03_Hull k0 a0 a1 = some r) :
  Calls Tryd.prog 22 #[.slice p_a0 a0.length c_a0, .slice p_a1 a1.length c_a1] w fun e w' => ∃ p cap, e = .returned (.slice p r.length cap) ∧ Below w.heap.size w w' ∧ w'.ownsRow w.heap.size 38 2 (.slice p r.length cap) r.length (r.flatMap en_TInterval) := by
 obtain ⟨fr, hfr⟩ : ∃ fr : Nat → Prop, ∀ j, fr j := ⟨fun _ => True, fun _ => trivial⟩
 have hB : ∀ j, w.heap.size ≤ j → fr j := fun j _ => hfr j
 have hin_p_a0 : ∀ j, fpRow p_a0 a0.length j → fr j := fun j _ => hfr j
 have hin_p_a1 : ∀ j, fpRow p_a1 a1.length j → fr j := fun j _ => hfr j
 refine k_enterF (args := [.slice p_a0 a0.length c_a0, .slice p_a1 a1.length c_a1]) 27 [(27, rdl fr 2 p_a0 c_a0 a0 en_TInterval), (28, rdl fr 2 p_a1 c_a1 a1 en_TInterval)] (by
  intro x hx
  simp only [List.mem_cons, List.not_mem_nil, or_false] at hx
  rcases hx with rfl | rfl
  ·exact rdF_fact R_p_a0 hin_p_a0 (by decide) _
  ·exact rdF_fact R_p_a1 hin_p_a1 (by decide) _) Tryd.func22 rfl (by kernel_rfl) (by kernel_rfl) fun a H => ?_
 unfold armillaryref03_Hull at G
 refine k_seq ?_
 refine k_rg mixed H (.v 4 (.slice none 0 0) <| .nil) fun u1 a w' H => ?_
 replace H := H.toM [(0, sS p_a0 a0.length c_a0), (1, sS p_a1 a1.length c_a1), (27, rdl fr 2 p_a0 c_a0 a0 en_TInterval), (28, rdl fr 2 p_a1 c_a1 a1 en_TInterval)]
 refine k_seq ?_
 refine k_rg mixed H (.cons [7, 29] (ok_new (fun b => .slice (some ⟨b, 0, none⟩) 0 0) (fun u2 => []) 38 7 29) <|
   .cons [5] (ok_val (fun u2 => .slice (some ⟨((u2 0).n 0), 0, none⟩) 0 0) 5) <| .nil) fun u2 a w' H => ?_
 replace H := H.toM [(0, sS p_a0 a0.length c_a0), (1, sS p_a1 a1.length c_a1), (5, (sS (some ⟨((u2 0).n 0), 0, none⟩) 0 0)), (29, .blk ((u2 0).n 0) [] 38), (27, rdl fr 2 p_a0 c_a0 a0 en_TInterval), (28, rdl fr 2 p_a1 c_a1 a1 en_TInterval)]
 refine k_seq ?_
 replace G := bnd G; obtain ⟨j4, hj4, G⟩ := G
 refine k_join (fun a w' => ∃ (p_j3 : Option Addr) (c_j3 np_j3 : Nat), np_j3 = j4.length ∧ Rep w.heap.size w 27 (ofL [(5, sS p_j3 np_j3 c_j3), (29, owK 38 2 p_j3 np_j3 c_j3 (j4.flatMap en_TInterval))]) a w') ?_ ?_
 ·clear H; rintro a w' ⟨p_j3, c_j3, _, rfl, H⟩
  refine k_seq ?_
  refine k_rg mixed H (.v 26 (.slice p_j3 j4.length c_j3) <|
   .v 4 (.slice p_j3 j4.length c_j3) <| .nil) fun u5 a w' H => ?_
  replace H := H.toM [(4, sS p_j3 j4.length c_j3), (29, owK 38 2 p_j3 j4.length c_j3 (j4.flatMap en_TInterval))]
  refine k_ret ?_
  obtain rfl := Option.some.inj G
  exact k_doneR H (fun p cap => .slice p j4.length cap) p_j3 c_j3 [] 29 38 2 j4.length (j4.flatMap en_TInterval) (by kernel_rfl) (by kernel_rfl) (by simp) (by kernel_rfl)
 ·clear G; replace G := hj4; clear hj4
  refine k_seq ?_
  refine k_rg mixed H (.v 6 (vI 0) <| .nil) fun u6 a w' H => ?_
  replace H := H.toM [(0, sS p_a0 a0.length c_a0), (1, sS p_a1 a1.length c_a1), (5, (sS (some ⟨((u2 0).n 0), 0, none⟩) 0 0)), (6, sI 0), (29, .blk ((u2 0).n 0) [] 38), (27, rdl fr 2 p_a0 c_a0 a0 en_TInterval), (28, rdl fr 2 p_a1 c_a1 a1 en_TInterval)]
  refine k_block ?_
  replace H := H.blk_row 29 ((u2 0).n 0) [] 38 2 0 (by kernel_rfl) (by kernel_rfl) (by decide)
  refine k_loopJ (fun m a w' => ∃ x7 : List TInterval, ∃ x8 : Int, armillaryref03_Hull.l9 k0 a0 a1 m x7 x8 = some j4 ∧ ∃ (p_x7 : Option Addr) (c_x7 np_x7 : Nat), np_x7 = x7.length ∧ Rep w.heap.size w 27 (ofL [(0, sS p_a0 a0.length c_a0), (1, sS p_a1 a1.length c_a1), (5, sS p_x7 np_x7 c_x7), (6, sI x8), (27, rdl fr 2 p_a0 c_a0 a0 en_TInterval), (28, rdl fr 2 p_a1 c_a1 a1 en_TInterval), (29, owK 38 2 p_x7 np_x7 c_x7 (x7.flatMap en_TInterval))]) a w') k0 ⟨_, _, G, (some ⟨((u2 0).n 0), 0, none⟩), 0, _, rfl, H.toL _ (by kernel_rfl)⟩ ?_
  clear G H
  rintro (_ | k) a w' ⟨x7, x8, G, p_x7, c_x7, _, rfl, H⟩
  ·exact absurd G (by unfold armillaryref03_Hull.l9; exact fun h => by cases h)
  ·unfold armillaryref03_Hull.l9 at G
   refine k_seq ?_
   refine k_seq ?_
   refine k_rg mixed H (.v 8 (vI x8) <|
   .v 9 (.slice p_a0 a0.length c_a0) <|
   .v 10 (vI (a0.length : Int)) <|
   .v 11 (.bool (decide (x8 < (a0.length : Int)))) <| .nil) fun u10 a w' H => ?_
   replace H := H.toM [(0, sS p_a0 a0.length c_a0), (1, sS p_a1 a1.length c_a1), (5, sS p_x7 x7.length c_x7), (6, sI x8), (11, (sB (decide (x8 < (a0.length : Int))))), (27, rdl fr 2 p_a0 c_a0 a0 en_TInterval), (28, rdl fr 2 p_a1 c_a1 a1 en_TInterval), (29, owK 38 2 p_x7 x7.length c_x7 (x7.flatMap en_TInterval))]
   refine k_cond H (by kernel_rfl) (t := decide (x8 < (a0.length : Int))) (by kernel_rfl) (fun c19 => ?_) (fun c19 => ?_)
   ·rw [if_pos c19] at G
    refine k_skip ?_
    refine k_seq ?_
    refine k_block ?_
    replace G := gd G; obtain ⟨b12, G⟩ := G
    replace G := bnd G; obtain ⟨t13, ht13, G⟩ := G
    replace G := gd G; obtain ⟨b14, G⟩ := G
    replace G := bnd G; obtain ⟨t15, ht15, G⟩ := G
    replace G := bnd G; obtain ⟨t16, ht16, G⟩ := G
    replace G := gd G; obtain ⟨b17, G⟩ := G
    refine k_rg mixed H (.v 14 (.slice p_x7 x7.length c_x7) <|
   .v 15 (.slice p_a0 a0.length c_a0) <|
   .v 16 (vI x8) <|
   .cons [17] (ok_valL [27] (fun u11 => [rdl fr 2 p_a0 c_a0 a0 en_TInterval]) (fun u11 => .pointer (some ⟨hdB p_a0, hdO p_a0 + x8.toNat * 2, none⟩)) (fun u11 => true) [true, true] 17 (fun u11 w hg hF => run_of (by kernel_rfl) (run_ix (t := 24) (p := p_a0) (n := a0.length) (cap := c_a0) (k := .i64) (i := x8) (sz := 2) (by kernel_rfl) (by kernel_rfl) (rdF_of hF.1).2 b12))) <|
   .cons [18] (ok_valL [27] (fun u11 => [rdl fr 2 p_a0 c_a0 a0 en_TInterval]) (fun u11 => .agg #[vI t13.Lo, vI t13.Hi]) (fun u11 => true) [true] 18 (fun u11 w hg hF => ld_of (vs := [vI t13.Lo, vI t13.Hi]) (b := hdB p_a0) (off := hdO p_a0 + x8.toNat * 2 + 0) (m := 2) (by kernel_rfl) (el_cells (rdF_of hF.1).2 en_TInterval_len ht13 0 2 rfl))) <|
   .v 19 (.slice p_a1 a1.length c_a1) <|
   .v 20 (vI x8) <|
   .cons [21] (ok_valL [28] (fun u11 => [rdl fr 2 p_a1 c_a1 a1 en_TInterval]) (fun u11 => .pointer (some ⟨hdB p_a1, hdO p_a1 + x8.toNat * 2, none⟩)) (fun u11 => true) [true, true] 21 (fun u11 w hg hF => run_of (by kernel_rfl) (run_ix (t := 24) (p := p_a1) (n := a1.length) (cap := c_a1) (k := .i64) (i := x8) (sz := 2) (by kernel_rfl) (by kernel_rfl) (rdF_of hF.1).2 b14))) <|
   .cons [22] (ok_valL [28] (fun u11 => [rdl fr 2 p_a1 c_a1 a1 en_TInterval]) (fun u11 => .agg #[vI t15.Lo, vI t15.Hi]) (fun u11 => true) [true] 22 (fun u11 w hg hF => ld_of (vs := [vI t15.Lo, vI t15.Hi]) (b := hdB p_a1) (off := hdO p_a1 + x8.toNat * 2 + 0) (m := 2) (by kernel_rfl) (el_cells (rdF_of hF.1).2 en_TInterval_len ht15 0 2 rfl))) <|
   .cons [23] (ok_callv 47 (fun u11 => #[.agg #[vI t13.Lo, vI t13.Hi], .agg #[vI t15.Lo, vI t15.Hi]]) (.agg #[vI t16.Lo, vI t16.Hi]) 23 [] (fun _ w _ => armillaryref02_Hull.calls t13 t15 t16 w ht16)) <|
   .cons [24, 30] (ok_new (fun b => .slice (some ⟨b, 0, none⟩) 1 1) (fun u11 => [vI t16.Lo, vI t16.Hi]) 38 24 30) <|
   .cons [25, 29] (ok_rowL [29, 30] (fun u11 => [owK 38 2 p_x7 x7.length c_x7 (x7.flatMap en_TInterval), .blk ((u11 10).n 0) [vI t16.Lo, vI t16.Hi] 38]) 38 2 (x7 ++ [t16]).length ((x7 ++ [t16]).flatMap en_TInterval) 25 29 (fun u11 => owK 38 2 p_x7 x7.length c_x7 (x7.flatMap en_TInterval)) (fun u11 w hF => run_app_row (t := 24) (ty := 24) (en := en_TInterval) en_TInterval_len inf38 (ow_of hF.1) hF.2.1 (news := [t16]) rfl (by simp) (by kernel_rfl) b17) (fun _ => .inr trivial)) <|
   .cons [5] (ok_val (fun u11 => .slice ((u11 11).o 0) (x7 ++ [t16]).length ((u11 11).n 0)) 5) <| .nil) fun u11 a w' H => ?_
    replace H := H.toM [(0, sS p_a0 a0.length c_a0), (1, sS p_a1 a1.length c_a1), (5, (sS ((u11 11).o 0) (x7 ++ [t16]).length ((u11 11).n 0))), (6, sI x8), (27, rdl fr 2 p_a0 c_a0 a0 en_TInterval), (28, rdl fr 2 p_a1 c_a1 a1 en_TInterval), (29, owK 38 2 ((u11 11).o 0) (x7 ++ [t16]).length ((u11 11).n 0) ((x7 ++ [t16]).flatMap en_TInterval))]
    refine k_rg mixed H (.v 12 (vI x8) <|
   .v 13 (vI (w_i64 (x8 + 1))) <|
   .v 6 (vI (w_i64 (x8 + 1))) <| .nil) fun u18 a w' H => ?_
    replace H := H.toM [(0, sS p_a0 a0.length c_a0), (1, sS p_a1 a1.length c_a1), (5, (sS ((u11 11).o 0) (x7 ++ [t16]).length ((u11 11).n 0))), (6, (sI (w_i64 (x8 + 1)))), (27, rdl fr 2 p_a0 c_a0 a0 en_TInterval), (28, rdl fr 2 p_a1 c_a1 a1 en_TInterval), (29, owK 38 2 ((u11 11).o 0) (x7 ++ [t16]).length ((u11 11).n 0) ((x7 ++ [t16]).flatMap en_TInterval))]
    exact ⟨k, Nat.lt_succ_self k, _, _, G, ((u11 11).o 0), ((u11 11).n 0), _, rfl, H.toL _ (by kernel_rfl)⟩
   ·rw [if_neg (nt c19)] at G
    refine k_exit rfl ?_
    obtain rfl := Option.some.inj G
    exact ⟨p_x7, c_x7, _, rfl, H.toL _ (by kernel_rfl)⟩

set_option maxHeartbeats 4000000 in
theorem armillaryref12_Made.calls (a0 : TTimeStep) (r : TTimeStep) (w : World) (G : armillaryref12_Made a0 = some r) :
  Calls Tryd.prog 28 #[.agg #[vI a0.T, vI a0.H]] w fun e w' => e = .returned (.agg #[vI r.T, vI r.H]) ∧ Below w.heap.size w w' := by
 refine k_enter (args := [.agg #[vI a0.T, vI a0.H]]) 17 Tryd.func28 rfl (by kernel_rfl) (by kernel_rfl) fun a H => ?_
 unfold armillaryref12_Made at G
 refine k_seq ?_
 refine k_rg mixed H (.cons [1, 17] (ok_new (fun b => vP b 0) (fun u1 => [vI a0.T, vI a0.H]) 26 1 17) <|
   .cons [2, 18] (ok_new (fun b => vP b 0) (fun u1 => [vI 0, vI 0]) 26 2 18) <| .nil) fun u1 a w' H => ?_
 replace H := H.toM [(1, (sP ((u1 0).n 0) 0)), (2, (sP ((u1 1).n 0) 0)), (17, .blk ((u1 0).n 0) [vI a0.T, vI a0.H] 26), (18, .blk ((u1 1).n 0) [vI 0, vI 0] 26)]
 refine k_seq ?_
 refine k_rg mixed H (.v 4 (vP ((u1 0).n 0) 1) <|
   .cons [5] (ok_ld (fun u2 => vI a0.H) 5 17 1 1 (fun u2 => ((u1 0).n 0)) (fun u2 => [vI a0.T, vI a0.H]) 26) <|
   .v 6 (vI (Int.tmod a0.H 131072)) <|
   .v 3 (vI (Int.tmod a0.H 131072)) <| .nil) fun u2 a w' H => ?_
 replace H := H.toM [(1, (sP ((u1 0).n 0) 0)), (2, (sP ((u1 1).n 0) 0)), (3, (sI (Int.tmod a0.H 131072))), (17, .blk ((u1 0).n 0) [vI a0.T, vI a0.H] 26), (18, .blk ((u1 1).n 0) [vI 0, vI 0] 26)]
 refine k_seq ?_
 replace G := bnd G; obtain ⟨j4, hj4, G⟩ := G
 refine k_join (fun a w' => Rep w.heap.size w 17 (ofL [(1, (sP ((u1 0).n 0) 0)), (2, (sP ((u1 1).n 0) 0)), (3, sI j4), (17, .blk ((u1 0).n 0) [vI a0.T, vI a0.H] 26), (18, .blk ((u1 1).n 0) [vI 0, vI 0] 26)]) a w') ?_ ?_
 ·clear H; intro a w' H
  refine k_seq ?_
  refine k_rg mixed H (.v 11 (vP ((u1 0).n 0) 0) <|
   .cons [12] (ok_ld (fun u5 => vI a0.T) 12 17 0 1 (fun u5 => ((u1 0).n 0)) (fun u5 => [vI a0.T, vI a0.H]) 26) <|
   .v 13 (vI (Int.tmod a0.T 1048576)) <|
   .v 14 (vI j4) <|
   .v 15 (vI (w_i64 (j4 + 1))) <|
   .v 16 (.agg #[vI (Int.tmod a0.T 1048576), vI (w_i64 (j4 + 1))]) <|
   .cons [18] (ok_as (u' := fun u5 => [(18, .blk ((u1 1).n 0) [vI (Int.tmod a0.T 1048576), vI (w_i64 (j4 + 1))] 26)]) (ok_store 18 0 (fun u5 => ((u1 1).n 0)) (fun u5 => [vI 0, vI 0]) (fun u5 => [vI (Int.tmod a0.T 1048576), vI (w_i64 (j4 + 1))]) 26) (fun _ => by kernel_rfl)) <| .nil) fun u5 a w' H => ?_
  replace H := H.toM [(2, (sP ((u1 1).n 0) 0)), (18, .blk ((u1 1).n 0) [vI (Int.tmod a0.T 1048576), vI (w_i64 (j4 + 1))] 26)]
  refine k_ret ?_
  obtain rfl := Option.some.inj G
  exact k_done1 H _ 18 ((u1 1).n 0) [vI (Int.tmod a0.T 1048576), vI (w_i64 (j4 + 1))] 26 0 2 (by kernel_rfl) (by kernel_rfl) (by kernel_rfl) (by kernel_rfl)
 ·clear G; replace G := hj4; clear hj4
  refine k_seq ?_
  refine k_rg mixed H (.v 7 (vI (Int.tmod a0.H 131072)) <|
   .v 8 (.bool (decide ((Int.tmod a0.H 131072) < 0))) <| .nil) fun u6 a w' H => ?_
  replace H := H.toM [(1, (sP ((u1 0).n 0) 0)), (2, (sP ((u1 1).n 0) 0)), (3, (sI (Int.tmod a0.H 131072))), (8, (sB (decide ((Int.tmod a0.H 131072) < 0)))), (17, .blk ((u1 0).n 0) [vI a0.T, vI a0.H] 26), (18, .blk ((u1 1).n 0) [vI 0, vI 0] 26)]
  refine k_cond H (by kernel_rfl) (t := decide ((Int.tmod a0.H 131072) < 0)) (by kernel_rfl) (fun c8 => ?_) (fun c8 => ?_)
  ·rw [if_pos c8] at G
   refine k_rg mixed H (.v 9 (vI (Int.tmod a0.H 131072)) <|
   .v 10 (vI (w_i64 (0 - (Int.tmod a0.H 131072)))) <|
   .v 3 (vI (w_i64 (0 - (Int.tmod a0.H 131072)))) <| .nil) fun u7 a w' H => ?_
   replace H := H.toM [(1, (sP ((u1 0).n 0) 0)), (2, (sP ((u1 1).n 0) 0)), (3, (sI (w_i64 (0 - (Int.tmod a0.H 131072))))), (17, .blk ((u1 0).n 0) [vI a0.T, vI a0.H] 26), (18, .blk ((u1 1).n 0) [vI 0, vI 0] 26)]
   obtain rfl := Option.some.inj G
   exact H.toL _ (by kernel_rfl)
  ·rw [if_neg (nt c8)] at G
   refine k_skip ?_
   obtain rfl := Option.some.inj G
   exact H.toL _ (by kernel_rfl)

set_option maxHeartbeats 4000000 in
theorem armillaryref02_Small.calls (a0 : TInterval) (r : TInterval) (w : World) (G : armillaryref02_Small a0 = some r) :
  Calls Tryd.prog 49 #[.agg #[vI a0.Lo, vI a0.Hi]] w fun e w' => e = .returned (.agg #[vI r.Lo, vI r.Hi]) ∧ Below w.heap.size w w' := by
 refine k_enter (args := [.agg #[vI a0.Lo, vI a0.Hi]]) 18 Tryd.func49 rfl (by kernel_rfl) (by kernel_rfl) fun a H => ?_
 unfold armillaryref02_Small at G
 refine k_seq ?_
 refine k_rg mixed H (.cons [1, 18] (ok_new (fun b => vP b 0) (fun u1 => [vI a0.Lo, vI a0.Hi]) 38 1 18) <|
   .cons [2, 19] (ok_new (fun b => vP b 0) (fun u1 => [vI 0, vI 0]) 38 2 19) <| .nil) fun u1 a w' H => ?_
 replace H := H.toM [(1, (sP ((u1 0).n 0) 0)), (2, (sP ((u1 1).n 0) 0)), (18, .blk ((u1 0).n 0) [vI a0.Lo, vI a0.Hi] 38), (19, .blk ((u1 1).n 0) [vI 0, vI 0] 38)]
 refine k_seq ?_
 refine k_rg mixed H (.v 5 (vP ((u1 0).n 0) 0) <|
   .cons [6] (ok_ld (fun u2 => vI a0.Lo) 6 18 0 1 (fun u2 => ((u1 0).n 0)) (fun u2 => [vI a0.Lo, vI a0.Hi]) 38) <|
   .v 7 (vI (Int.tmod a0.Lo 16777216)) <|
   .v 8 (vP ((u1 0).n 0) 1) <|
   .cons [9] (ok_ld (fun u2 => vI a0.Hi) 9 18 1 1 (fun u2 => ((u1 0).n 0)) (fun u2 => [vI a0.Lo, vI a0.Hi]) 38) <|
   .v 10 (vI (Int.tmod a0.Hi 16777216)) <|
   .v 3 (vI (Int.tmod a0.Lo 16777216)) <|
   .v 4 (vI (Int.tmod a0.Hi 16777216)) <| .nil) fun u2 a w' H => ?_
 replace H := H.toM [(2, (sP ((u1 1).n 0) 0)), (3, (sI (Int.tmod a0.Lo 16777216))), (4, (sI (Int.tmod a0.Hi 16777216))), (19, .blk ((u1 1).n 0) [vI 0, vI 0] 38)]
 refine k_seq ?_
 refine k_rg mixed H (.v 11 (vI (Int.tmod a0.Lo 16777216)) <|
   .v 12 (vI (Int.tmod a0.Hi 16777216)) <|
   .v 13 (vI (mn (Int.tmod a0.Lo 16777216) (Int.tmod a0.Hi 16777216))) <|
   .v 14 (vI (Int.tmod a0.Lo 16777216)) <|
   .v 15 (vI (Int.tmod a0.Hi 16777216)) <|
   .v 16 (vI (mx (Int.tmod a0.Lo 16777216) (Int.tmod a0.Hi 16777216))) <|
   .v 17 (.agg #[vI (mn (Int.tmod a0.Lo 16777216) (Int.tmod a0.Hi 16777216)), vI (mx (Int.tmod a0.Lo 16777216) (Int.tmod a0.Hi 16777216))]) <|
   .cons [19] (ok_as (u' := fun u3 => [(19, .blk ((u1 1).n 0) [vI (mn (Int.tmod a0.Lo 16777216) (Int.tmod a0.Hi 16777216)), vI (mx (Int.tmod a0.Lo 16777216) (Int.tmod a0.Hi 16777216))] 38)]) (ok_store 19 0 (fun u3 => ((u1 1).n 0)) (fun u3 => [vI 0, vI 0]) (fun u3 => [vI (mn (Int.tmod a0.Lo 16777216) (Int.tmod a0.Hi 16777216)), vI (mx (Int.tmod a0.Lo 16777216) (Int.tmod a0.Hi 16777216))]) 38) (fun _ => by kernel_rfl)) <| .nil) fun u3 a w' H => ?_
 replace H := H.toM [(2, (sP ((u1 1).n 0) 0)), (19, .blk ((u1 1).n 0) [vI (mn (Int.tmod a0.Lo 16777216) (Int.tmod a0.Hi 16777216)), vI (mx (Int.tmod a0.Lo 16777216) (Int.tmod a0.Hi 16777216))] 38)]
 refine k_ret ?_
 obtain rfl := Option.some.inj G
 exact k_done1 H _ 19 ((u1 1).n 0) [vI (mn (Int.tmod a0.Lo 16777216) (Int.tmod a0.Hi 16777216)), vI (mx (Int.tmod a0.Lo 16777216) (Int.tmod a0.Hi 16777216))] 38 0 2 (by kernel_rfl) (by kernel_rfl) (by kernel_rfl) (by kernel_rfl)

set_option maxHeartbeats 4000000 in
theorem armillarylaw15_bounded.calls (k0 : Nat) (a0 : List TInterval) (a1 : Int) (p_a0 : Option Addr) (c_a0 : Nat) (r : List TInterval) (w : World) (R_p_a0 : RowC w 2 p_a0 a0.length c_a0 (a0.flatMap en_TInterval)) (G : armillarylaw15_bounded k0 a0 a1 = some r) :
  Calls Tryd.prog 29 #[.slice p_a0 a0.length c_a0, vI a1] w fun e w' => ∃ p cap, e = .returned (.slice p r.length cap) ∧ Below w.heap.size w w' ∧ w'.ownsRow w.heap.size 38 2 (.slice p r.length cap) r.length (r.flatMap en_TInterval) := by
 obtain ⟨fr, hfr⟩ : ∃ fr : Nat → Prop, ∀ j, fr j := ⟨fun _ => True, fun _ => trivial⟩
 have hB : ∀ j, w.heap.size ≤ j → fr j := fun j _ => hfr j
 have hin_p_a0 : ∀ j, fpRow p_a0 a0.length j → fr j := fun j _ => hfr j
 refine k_enterF (args := [.slice p_a0 a0.length c_a0, vI a1]) 29 [(29, rdl fr 2 p_a0 c_a0 a0 en_TInterval)] (by
  intro x hx
  simp only [List.mem_cons, List.not_mem_nil, or_false] at hx
  rcases hx with rfl
  exact rdF_fact R_p_a0 hin_p_a0 (by decide) _) Tryd.func29 rfl (by kernel_rfl) (by kernel_rfl) fun a H => ?_
 unfold armillarylaw15_bounded at G
 refine k_seq ?_
 refine k_rg mixed H (.v 4 (.slice none 0 0) <| .nil) fun u1 a w' H => ?_
 replace H := H.toM [(0, sS p_a0 a0.length c_a0), (1, sI a1), (29, rdl fr 2 p_a0 c_a0 a0 en_TInterval)]
 refine k_seq ?_
 refine k_rg mixed H (.cons [8, 30] (ok_new (fun b => .slice (some ⟨b, 0, none⟩) 0 0) (fun u2 => []) 38 8 30) <|
   .cons [5] (ok_val (fun u2 => .slice (some ⟨((u2 0).n 0), 0, none⟩) 0 0) 5) <| .nil) fun u2 a w' H => ?_
 replace H := H.toM [(0, sS p_a0 a0.length c_a0), (1, sI a1), (5, (sS (some ⟨((u2 0).n 0), 0, none⟩) 0 0)), (30, .blk ((u2 0).n 0) [] 38), (29, rdl fr 2 p_a0 c_a0 a0 en_TInterval)]
 refine k_seq ?_
 replace G := bnd G; obtain ⟨j4, hj4, G⟩ := G
 refine k_join (fun a w' => ∃ (p_j3 : Option Addr) (c_j3 np_j3 : Nat), np_j3 = j4.length ∧ Rep w.heap.size w 29 (ofL [(5, sS p_j3 np_j3 c_j3), (30, owK 38 2 p_j3 np_j3 c_j3 (j4.flatMap en_TInterval))]) a w') ?_ ?_
 ·clear H; rintro a w' ⟨p_j3, c_j3, _, rfl, H⟩
  refine k_seq ?_
  refine k_rg mixed H (.v 28 (.slice p_j3 j4.length c_j3) <|
   .v 4 (.slice p_j3 j4.length c_j3) <| .nil) fun u5 a w' H => ?_
  replace H := H.toM [(4, sS p_j3 j4.length c_j3), (30, owK 38 2 p_j3 j4.length c_j3 (j4.flatMap en_TInterval))]
  refine k_ret ?_
  obtain rfl := Option.some.inj G
  exact k_doneR H (fun p cap => .slice p j4.length cap) p_j3 c_j3 [] 30 38 2 j4.length (j4.flatMap en_TInterval) (by kernel_rfl) (by kernel_rfl) (by simp) (by kernel_rfl)
 ·clear G; replace G := hj4; clear hj4
  refine k_seq ?_
  refine k_rg mixed H (.v 6 (vI 0) <| .nil) fun u6 a w' H => ?_
  replace H := H.toM [(0, sS p_a0 a0.length c_a0), (1, sI a1), (5, (sS (some ⟨((u2 0).n 0), 0, none⟩) 0 0)), (6, sI 0), (30, .blk ((u2 0).n 0) [] 38), (29, rdl fr 2 p_a0 c_a0 a0 en_TInterval)]
  refine k_block ?_
  replace H := H.blk_row 30 ((u2 0).n 0) [] 38 2 0 (by kernel_rfl) (by kernel_rfl) (by decide)
  refine k_loopJ (fun m a w' => ∃ x7 : List TInterval, ∃ x8 : Int, armillarylaw15_bounded.l9 k0 a0 a1 m x7 x8 = some j4 ∧ ∃ (p_x7 : Option Addr) (c_x7 np_x7 : Nat), np_x7 = x7.length ∧ Rep w.heap.size w 29 (ofL [(0, sS p_a0 a0.length c_a0), (1, sI a1), (5, sS p_x7 np_x7 c_x7), (6, sI x8), (29, rdl fr 2 p_a0 c_a0 a0 en_TInterval), (30, owK 38 2 p_x7 np_x7 c_x7 (x7.flatMap en_TInterval))]) a w') k0 ⟨_, _, G, (some ⟨((u2 0).n 0), 0, none⟩), 0, _, rfl, H.toL _ (by kernel_rfl)⟩ ?_
  clear G H
  rintro (_ | k) a w' ⟨x7, x8, G, p_x7, c_x7, _, rfl, H⟩
  ·exact absurd G (by unfold armillarylaw15_bounded.l9; exact fun h => by cases h)
  ·unfold armillarylaw15_bounded.l9 at G
   refine k_seq ?_
   refine k_seq ?_
   refine k_rg mixed H (.v 9 (vI x8) <|
   .v 10 (vI a1) <|
   .v 11 (.bool (decide (x8 < a1))) <| .nil) fun u10 a w' H => ?_
   replace H := H.toM [(0, sS p_a0 a0.length c_a0), (1, sI a1), (5, sS p_x7 x7.length c_x7), (6, sI x8), (11, (sB (decide (x8 < a1)))), (29, rdl fr 2 p_a0 c_a0 a0 en_TInterval), (30, owK 38 2 p_x7 x7.length c_x7 (x7.flatMap en_TInterval))]
   refine k_cond H (by kernel_rfl) (t := decide (x8 < a1)) (by kernel_rfl) (fun c24 => ?_) (fun c24 => ?_)
   ·rw [if_pos c24] at G
    refine k_skip ?_
    refine k_seq ?_
    refine k_block ?_
    refine k_seq ?_
    refine k_rg mixed H (.v 14 (.agg #[vI 0, vI 0]) <|
   .cons [7, 31] (ok_new (fun b => vP b 0) (fun u11 => [vI 0, vI 0]) 38 7 31) <|
   .cons [31] (ok_as (u' := fun u11 => [(31, .blk ((u11 1).n 0) [vI 0, vI 0] 38)]) (ok_store 31 0 (fun u11 => ((u11 1).n 0)) (fun u11 => [vI 0, vI 0]) (fun u11 => [vI 0, vI 0]) 38) (fun _ => by kernel_rfl)) <| .nil) fun u11 a w' H => ?_
    replace H := H.toM [(0, sS p_a0 a0.length c_a0), (1, sI a1), (5, sS p_x7 x7.length c_x7), (6, sI x8), (7, (sP ((u11 1).n 0) 0)), (31, .blk ((u11 1).n 0) [vI 0, vI 0] 38), (29, rdl fr 2 p_a0 c_a0 a0 en_TInterval), (30, owK 38 2 p_x7 x7.length c_x7 (x7.flatMap en_TInterval))]
    refine k_seq ?_
    replace G := bnd G; obtain ⟨j14, hj14, G⟩ := G
    refine k_join (fun a w' => Rep w.heap.size w 29 (ofL [(0, sS p_a0 a0.length c_a0), (1, sI a1), (5, sS p_x7 x7.length c_x7), (6, sI x8), (7, (sP ((u11 1).n 0) 0)), (31, .blk ((u11 1).n 0) [vI j14.1, vI j14.2] 38), (29, rdl fr 2 p_a0 c_a0 a0 en_TInterval), (30, owK 38 2 p_x7 x7.length c_x7 (x7.flatMap en_TInterval))]) a w') ?_ ?_
    ·clear H; intro a w' H
     replace G := gd G; obtain ⟨b16, G⟩ := G
     refine k_rg mixed H (.v 24 (.slice p_x7 x7.length c_x7) <|
   .cons [25] (ok_ld (fun u15 => .agg #[vI j14.1, vI j14.2]) 25 31 0 2 (fun u15 => ((u11 1).n 0)) (fun u15 => [vI j14.1, vI j14.2]) 38) <|
   .cons [26, 32] (ok_new (fun b => .slice (some ⟨b, 0, none⟩) 1 1) (fun u15 => [vI j14.1, vI j14.2]) 38 26 32) <|
   .cons [27, 30] (ok_rowL [30, 32] (fun u15 => [owK 38 2 p_x7 x7.length c_x7 (x7.flatMap en_TInterval), .blk ((u15 2).n 0) [vI j14.1, vI j14.2] 38]) 38 2 (x7 ++ [(⟨j14.1, j14.2⟩ : TInterval)]).length ((x7 ++ [(⟨j14.1, j14.2⟩ : TInterval)]).flatMap en_TInterval) 27 30 (fun u15 => owK 38 2 p_x7 x7.length c_x7 (x7.flatMap en_TInterval)) (fun u15 w hF => run_app_row (t := 24) (ty := 24) (en := en_TInterval) en_TInterval_len inf38 (ow_of hF.1) hF.2.1 (news := [(⟨j14.1, j14.2⟩ : TInterval)]) rfl (by simp) (by kernel_rfl) b16) (fun _ => .inr trivial)) <|
   .cons [5] (ok_val (fun u15 => .slice ((u15 3).o 0) (x7 ++ [(⟨j14.1, j14.2⟩ : TInterval)]).length ((u15 3).n 0)) 5) <| .nil) fun u15 a w' H => ?_
     replace H := H.toM [(0, sS p_a0 a0.length c_a0), (1, sI a1), (5, (sS ((u15 3).o 0) (x7 ++ [(⟨j14.1, j14.2⟩ : TInterval)]).length ((u15 3).n 0))), (6, sI x8), (29, rdl fr 2 p_a0 c_a0 a0 en_TInterval), (30, owK 38 2 ((u15 3).o 0) (x7 ++ [(⟨j14.1, j14.2⟩ : TInterval)]).length ((u15 3).n 0) ((x7 ++ [(⟨j14.1, j14.2⟩ : TInterval)]).flatMap en_TInterval))]
     refine k_rg mixed H (.v 12 (vI x8) <|
   .v 13 (vI (w_i64 (x8 + 1))) <|
   .v 6 (vI (w_i64 (x8 + 1))) <| .nil) fun u17 a w' H => ?_
     replace H := H.toM [(0, sS p_a0 a0.length c_a0), (1, sI a1), (5, (sS ((u15 3).o 0) (x7 ++ [(⟨j14.1, j14.2⟩ : TInterval)]).length ((u15 3).n 0))), (6, (sI (w_i64 (x8 + 1)))), (29, rdl fr 2 p_a0 c_a0 a0 en_TInterval), (30, owK 38 2 ((u15 3).o 0) (x7 ++ [(⟨j14.1, j14.2⟩ : TInterval)]).length ((u15 3).n 0) ((x7 ++ [(⟨j14.1, j14.2⟩ : TInterval)]).flatMap en_TInterval))]
     exact ⟨k, Nat.lt_succ_self k, _, _, G, ((u15 3).o 0), ((u15 3).n 0), _, rfl, H.toL _ (by kernel_rfl)⟩
    ·clear G; replace G := hj14; clear hj14
     refine k_seq ?_
     refine k_rg mixed H (.v 15 (vI x8) <|
   .v 16 (.slice p_a0 a0.length c_a0) <|
   .v 17 (vI (a0.length : Int)) <|
   .v 18 (.bool (decide (x8 < (a0.length : Int)))) <| .nil) fun u18 a w' H => ?_
     replace H := H.toM [(0, sS p_a0 a0.length c_a0), (1, sI a1), (5, sS p_x7 x7.length c_x7), (6, sI x8), (7, (sP ((u11 1).n 0) 0)), (18, (sB (decide (x8 < (a0.length : Int))))), (31, .blk ((u11 1).n 0) [vI 0, vI 0] 38), (29, rdl fr 2 p_a0 c_a0 a0 en_TInterval), (30, owK 38 2 p_x7 x7.length c_x7 (x7.flatMap en_TInterval))]
     refine k_cond H (by kernel_rfl) (t := decide (x8 < (a0.length : Int))) (by kernel_rfl) (fun c23 => ?_) (fun c23 => ?_)
     ·rw [if_pos c23] at G
      replace G := gd G; obtain ⟨b20, G⟩ := G
      replace G := bnd G; obtain ⟨t21, ht21, G⟩ := G
      replace G := bnd G; obtain ⟨t22, ht22, G⟩ := G
      refine k_rg mixed H (.v 19 (.slice p_a0 a0.length c_a0) <|
   .v 20 (vI x8) <|
   .cons [21] (ok_valL [29] (fun u19 => [rdl fr 2 p_a0 c_a0 a0 en_TInterval]) (fun u19 => .pointer (some ⟨hdB p_a0, hdO p_a0 + x8.toNat * 2, none⟩)) (fun u19 => true) [true, true] 21 (fun u19 w hg hF => run_of (by kernel_rfl) (run_ix (t := 24) (p := p_a0) (n := a0.length) (cap := c_a0) (k := .i64) (i := x8) (sz := 2) (by kernel_rfl) (by kernel_rfl) (rdF_of hF.1).2 b20))) <|
   .cons [22] (ok_valL [29] (fun u19 => [rdl fr 2 p_a0 c_a0 a0 en_TInterval]) (fun u19 => .agg #[vI t21.Lo, vI t21.Hi]) (fun u19 => true) [true] 22 (fun u19 w hg hF => ld_of (vs := [vI t21.Lo, vI t21.Hi]) (b := hdB p_a0) (off := hdO p_a0 + x8.toNat * 2 + 0) (m := 2) (by kernel_rfl) (el_cells (rdF_of hF.1).2 en_TInterval_len ht21 0 2 rfl))) <|
   .cons [23] (ok_callv 49 (fun u19 => #[.agg #[vI t21.Lo, vI t21.Hi]]) (.agg #[vI t22.Lo, vI t22.Hi]) 23 [] (fun _ w _ => armillaryref02_Small.calls t21 t22 w ht22)) <|
   .cons [31] (ok_as (u' := fun u19 => [(31, .blk ((u11 1).n 0) [vI t22.Lo, vI t22.Hi] 38)]) (ok_store 31 0 (fun u19 => ((u11 1).n 0)) (fun u19 => [vI 0, vI 0]) (fun u19 => [vI t22.Lo, vI t22.Hi]) 38) (fun _ => by kernel_rfl)) <| .nil) fun u19 a w' H => ?_
      replace H := H.toM [(0, sS p_a0 a0.length c_a0), (1, sI a1), (5, sS p_x7 x7.length c_x7), (6, sI x8), (7, (sP ((u11 1).n 0) 0)), (31, .blk ((u11 1).n 0) [vI t22.Lo, vI t22.Hi] 38), (29, rdl fr 2 p_a0 c_a0 a0 en_TInterval), (30, owK 38 2 p_x7 x7.length c_x7 (x7.flatMap en_TInterval))]
      obtain rfl := Option.some.inj G
      exact H.toL _ (by kernel_rfl)
     ·rw [if_neg (nt c23)] at G
      refine k_skip ?_
      obtain rfl := Option.some.inj G
      exact H.toL _ (by kernel_rfl)
   ·rw [if_neg (nt c24)] at G
    refine k_exit rfl ?_
    obtain rfl := Option.some.inj G
    exact ⟨p_x7, c_x7, _, rfl, H.toL _ (by kernel_rfl)⟩

set_option maxHeartbeats 4000000 in
theorem armillaryref02_Entire.calls (r : TInterval) (w : World) (G : armillaryref02_Entire = some r) :
  Calls Tryd.prog 66 #[] w fun e w' => e = .returned (.agg #[vI r.Lo, vI r.Hi]) ∧ Below w.heap.size w w' := by
 refine k_enter (args := []) 2 Tryd.func66 rfl (by kernel_rfl) (by kernel_rfl) fun a H => ?_
 unfold armillaryref02_Entire at G
 refine k_seq ?_
 refine k_rg mixed H (.cons [0, 2] (ok_new (fun b => vP b 0) (fun u1 => [vI 0, vI 0]) 38 0 2) <| .nil) fun u1 a w' H => ?_
 replace H := H.toM [(0, (sP ((u1 0).n 0) 0)), (2, .blk ((u1 0).n 0) [vI 0, vI 0] 38)]
 refine k_seq ?_
 refine k_rg mixed H (.v 1 (.agg #[vI (-2147483648), vI 2147483648]) <|
   .cons [2] (ok_as (u' := fun u2 => [(2, .blk ((u1 0).n 0) [vI (-2147483648), vI 2147483648] 38)]) (ok_store 2 0 (fun u2 => ((u1 0).n 0)) (fun u2 => [vI 0, vI 0]) (fun u2 => [vI (-2147483648), vI 2147483648]) 38) (fun _ => by kernel_rfl)) <| .nil) fun u2 a w' H => ?_
 replace H := H.toM [(0, (sP ((u1 0).n 0) 0)), (2, .blk ((u1 0).n 0) [vI (-2147483648), vI 2147483648] 38)]
 refine k_ret ?_
 obtain rfl := Option.some.inj G
 exact k_done1 H _ 2 ((u1 0).n 0) [vI (-2147483648), vI 2147483648] 38 0 2 (by kernel_rfl) (by kernel_rfl) (by kernel_rfl) (by kernel_rfl)

set_option maxHeartbeats 4000000 in
theorem armillaryref02_Number.calls (a0 : Int) (r : Bool) (w : World) (G : armillaryref02_Number a0 = some r) :
  Calls Tryd.prog 76 #[vI a0] w fun e w' => e = .returned (.bool r) ∧ Below w.heap.size w w' := by
 refine k_enter (args := [vI a0]) 9 Tryd.func76 rfl (by kernel_rfl) (by kernel_rfl) fun a H => ?_
 unfold armillaryref02_Number at G
 refine k_seq ?_
 refine k_rg mixed H (.v 2 (.bool false) <| .nil) fun u1 a w' H => ?_
 replace H := H.toM [(0, sI a0)]
 refine k_seq ?_
 refine k_rg mixed H (.v 3 (vI a0) <|
   .v 4 (.bool (decide (a0 > (-2147483648)))) <|
   .v 5 (.bool (decide (a0 > (-2147483648)))) <|
   .cons [6] (ok_valg (fun u2 => vI a0) (fun u2 => ((decide (a0 > (-2147483648))) == true)) [true] 6) <|
   .cons [7] (ok_valg (fun u2 => .bool (decide (a0 < 2147483648))) (fun u2 => ((decide (a0 > (-2147483648))) == true)) [false, true] 7) <|
   .cons [8] (ok_and 5 7 (fun u2 => true) (fun u2 => true) (fun u2 => decide (a0 > (-2147483648))) (fun u2 => decide (a0 < 2147483648)) 8) <|
   .v 2 (.bool ((decide (a0 > (-2147483648))) && (decide (a0 < 2147483648)))) <| .nil) fun u2 a w' H => ?_
 replace H := H.toM [(2, (sB ((decide (a0 > (-2147483648))) && (decide (a0 < 2147483648)))))]
 refine k_ret ?_
 obtain rfl := Option.some.inj G
 exact k_done0 H _ (by kernel_rfl) (by kernel_rfl)

set_option maxHeartbeats 4000000 in
theorem armillaryref02_New.calls (a0 : Int) (a1 : Int) (r : TInterval) (w : World) (G : armillaryref02_New a0 a1 = some r) :
  Calls Tryd.prog 48 #[vI a0, vI a1] w fun e w' => e = .returned (.agg #[vI r.Lo, vI r.Hi]) ∧ Below w.heap.size w w' := by
 refine k_enter (args := [vI a0, vI a1]) 17 Tryd.func48 rfl (by kernel_rfl) (by kernel_rfl) fun a H => ?_
 unfold armillaryref02_New at G
 refine k_seq ?_
 refine k_rg mixed H (.cons [4, 17] (ok_new (fun b => vP b 0) (fun u1 => [vI 0, vI 0]) 38 4 17) <| .nil) fun u1 a w' H => ?_
 replace H := H.toM [(0, sI a0), (1, sI a1), (4, (sP ((u1 0).n 0) 0)), (17, .blk ((u1 0).n 0) [vI 0, vI 0] 38)]
 refine k_seq ?_
 refine k_seq ?_
 replace G := bnd G; obtain ⟨t3, ht3, G⟩ := G
 replace G := bnd G; obtain ⟨t4, ht4, G⟩ := G
 refine k_rg mixed H (.v 5 (vI a0) <|
   .cons [6] (ok_callv 76 (fun u2 => #[vI a0]) (.bool t3) 6 [] (fun _ w _ => armillaryref02_Number.calls a0 t3 w ht3)) <|
   .v 7 (.bool (!t3)) <|
   .v 8 (.bool (!t3)) <|
   .cons [9] (ok_valg (fun u2 => vI a1) (fun u2 => ((!t3) == false)) [true] 9) <|
   .cons [10] (ok_call 76 (fun u2 => #[vI a1]) (.bool t4) (fun u2 => ((!t3) == false)) [true, false] 10 [] (fun _ w hg _ => armillaryref02_Number.calls a1 t4 w (ifp ht4 hg))) <|
   .cons [11] (ok_valg (fun u2 => .bool (!t4)) (fun u2 => ((!t3) == false)) [false] 11) <|
   .cons [12] (ok_or 8 11 (fun u2 => true) (fun u2 => true) (fun u2 => (!t3)) (fun u2 => (!t4)) 12) <| .nil) fun u2 a w' H => ?_
 replace H := H.toM [(0, sI a0), (1, sI a1), (4, (sP ((u1 0).n 0) 0)), (12, (sB ((!t3) || (!t4)))), (17, .blk ((u1 0).n 0) [vI 0, vI 0] 38)]
 refine k_cond H (by kernel_rfl) (t := ((!t3) || (!t4))) (by kernel_rfl) (fun c8 => ?_) (fun c8 => ?_)
 ·rw [if_pos c8] at G
  refine k_seq ?_
  replace G := bnd G; obtain ⟨t6, ht6, G⟩ := G
  refine k_rg mixed H (.cons [13] (ok_callv 66 (fun u5 => #[]) (.agg #[vI t6.Lo, vI t6.Hi]) 13 [] (fun _ w _ => armillaryref02_Entire.calls  t6 w ht6)) <|
   .cons [17] (ok_as (u' := fun u5 => [(17, .blk ((u1 0).n 0) [vI t6.Lo, vI t6.Hi] 38)]) (ok_store 17 0 (fun u5 => ((u1 0).n 0)) (fun u5 => [vI 0, vI 0]) (fun u5 => [vI t6.Lo, vI t6.Hi]) 38) (fun _ => by kernel_rfl)) <| .nil) fun u5 a w' H => ?_
  replace H := H.toM [(4, (sP ((u1 0).n 0) 0)), (17, .blk ((u1 0).n 0) [vI t6.Lo, vI t6.Hi] 38)]
  refine k_ret ?_
  obtain rfl := Option.some.inj G
  exact k_done1 H _ 17 ((u1 0).n 0) [vI t6.Lo, vI t6.Hi] 38 0 2 (by kernel_rfl) (by kernel_rfl) (by kernel_rfl) (by kernel_rfl)
 ·rw [if_neg (nt c8)] at G
  refine k_skip ?_
  refine k_seq ?_
  refine k_rg mixed H (.v 14 (vI a0) <|
   .v 15 (vI a1) <|
   .v 16 (.agg #[vI a0, vI a1]) <|
   .cons [17] (ok_as (u' := fun u7 => [(17, .blk ((u1 0).n 0) [vI a0, vI a1] 38)]) (ok_store 17 0 (fun u7 => ((u1 0).n 0)) (fun u7 => [vI 0, vI 0]) (fun u7 => [vI a0, vI a1]) 38) (fun _ => by kernel_rfl)) <| .nil) fun u7 a w' H => ?_
  replace H := H.toM [(4, (sP ((u1 0).n 0) 0)), (17, .blk ((u1 0).n 0) [vI a0, vI a1] 38)]
  refine k_ret ?_
  obtain rfl := Option.some.inj G
  exact k_done1 H _ 17 ((u1 0).n 0) [vI a0, vI a1] 38 0 2 (by kernel_rfl) (by kernel_rfl) (by kernel_rfl) (by kernel_rfl)

set_option maxHeartbeats 4000000 in
theorem armillaryref02_Point.calls (a0 : Int) (r : TInterval) (w : World) (G : armillaryref02_Point a0 = some r) :
  Calls Tryd.prog 23 #[vI a0] w fun e w' => e = .returned (.agg #[vI r.Lo, vI r.Hi]) ∧ Below w.heap.size w w' := by
 refine k_enter (args := [vI a0]) 6 Tryd.func23 rfl (by kernel_rfl) (by kernel_rfl) fun a H => ?_
 unfold armillaryref02_Point at G
 refine k_seq ?_
 refine k_rg mixed H (.cons [2, 6] (ok_new (fun b => vP b 0) (fun u1 => [vI 0, vI 0]) 38 2 6) <| .nil) fun u1 a w' H => ?_
 replace H := H.toM [(0, sI a0), (2, (sP ((u1 0).n 0) 0)), (6, .blk ((u1 0).n 0) [vI 0, vI 0] 38)]
 refine k_seq ?_
 replace G := bnd G; obtain ⟨t3, ht3, G⟩ := G
 refine k_rg mixed H (.v 3 (vI a0) <|
   .v 4 (vI a0) <|
   .cons [5] (ok_callv 48 (fun u2 => #[vI a0, vI a0]) (.agg #[vI t3.Lo, vI t3.Hi]) 5 [] (fun _ w _ => armillaryref02_New.calls a0 a0 t3 w ht3)) <|
   .cons [6] (ok_as (u' := fun u2 => [(6, .blk ((u1 0).n 0) [vI t3.Lo, vI t3.Hi] 38)]) (ok_store 6 0 (fun u2 => ((u1 0).n 0)) (fun u2 => [vI 0, vI 0]) (fun u2 => [vI t3.Lo, vI t3.Hi]) 38) (fun _ => by kernel_rfl)) <| .nil) fun u2 a w' H => ?_
 replace H := H.toM [(2, (sP ((u1 0).n 0) 0)), (6, .blk ((u1 0).n 0) [vI t3.Lo, vI t3.Hi] 38)]
 refine k_ret ?_
 obtain rfl := Option.some.inj G
 exact k_done1 H _ 6 ((u1 0).n 0) [vI t3.Lo, vI t3.Hi] 38 0 2 (by kernel_rfl) (by kernel_rfl) (by kernel_rfl) (by kernel_rfl)

end Go.Proofs.YtkkodieceehkmaaDoor
