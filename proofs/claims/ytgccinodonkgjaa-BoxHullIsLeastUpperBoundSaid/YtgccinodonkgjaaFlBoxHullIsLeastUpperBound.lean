/- The law BoxHullIsLeastUpperBound answers as the plain Lean function of its name. Printed by a program of this session. -/
import Derived.Test.YtgccinodonkgjaaFn2
set_option linter.unusedVariables false
set_option maxRecDepth 100000
namespace Go.Proofs.Ytgccinodonkgjaa
open Go Go.RowKit Go.Sx Go.Proofs
set_option maxHeartbeats 4000000 in
theorem armillarylaw03_BoxHullIsLeastUpperBound.calls (k0 : Nat) (a0 : TInput) (p_a0_A : Option Addr) (c_a0_A : Nat) (p_a0_B : Option Addr) (c_a0_B : Nat) (p_a0_C : Option Addr) (c_a0_C : Nat) (p_a0_P_e0 : Option Addr) (c_a0_P_e0 : Nat) (p_a0_P_e1 : Option Addr) (c_a0_P_e1 : Nat) (r : Bool) (w : World) (R_p_a0_A : RowAt w 2 p_a0_A a0.A.length (a0.A.flatMap en_TInterval)) (R_p_a0_B : RowAt w 2 p_a0_B a0.B.length (a0.B.flatMap en_TInterval)) (R_p_a0_C : RowAt w 2 p_a0_C a0.C.length (a0.C.flatMap en_TInterval)) (R_p_a0_P_e0 : RowAt w 1 p_a0_P_e0 a0.P.e0.length (a0.P.e0.flatMap en_u16)) (R_p_a0_P_e1 : RowAt w 1 p_a0_P_e1 a0.P.e1.length (a0.P.e1.flatMap en_u16)) (G : armillarylaw03_BoxHullIsLeastUpperBound k0 a0 = some r) :
    Calls Try.prog 6 #[.agg #[.slice p_a0_A a0.A.length c_a0_A, .slice p_a0_B a0.B.length c_a0_B, .slice p_a0_C a0.C.length c_a0_C, .int .u8 a0.N, .slice p_a0_P_e0 a0.P.e0.length c_a0_P_e0, .slice p_a0_P_e1 a0.P.e1.length c_a0_P_e1]] w fun e w' => e = .returned (.bool r) ∧ Below w.heap.size w w' := by
  refine k_enterF (args := [.agg #[.slice p_a0_A a0.A.length c_a0_A, .slice p_a0_B a0.B.length c_a0_B, .slice p_a0_C a0.C.length c_a0_C, .int .u8 a0.N, .slice p_a0_P_e0 a0.P.e0.length c_a0_P_e0, .slice p_a0_P_e1 a0.P.e1.length c_a0_P_e1]]) 83 [(83, rdK 2 p_a0_A a0.A.length (a0.A.flatMap en_TInterval)), (84, rdK 2 p_a0_B a0.B.length (a0.B.flatMap en_TInterval)), (85, rdK 2 p_a0_C a0.C.length (a0.C.flatMap en_TInterval)), (86, rdK 1 p_a0_P_e0 a0.P.e0.length (a0.P.e0.flatMap en_u16)), (87, rdK 1 p_a0_P_e1 a0.P.e1.length (a0.P.e1.flatMap en_u16))] (by
    intro x hx
    simp only [List.mem_cons, List.not_mem_nil, or_false] at hx
    rcases hx with rfl | rfl | rfl | rfl | rfl
    · exact rd_fact R_p_a0_A (by decide) _
    · exact rd_fact R_p_a0_B (by decide) _
    · exact rd_fact R_p_a0_C (by decide) _
    · exact rd_fact R_p_a0_P_e0 (by decide) _
    · exact rd_fact R_p_a0_P_e1 (by decide) _) Try.func6 rfl (by kernel_rfl) (by kernel_rfl) fun a H => ?_
  unfold armillarylaw03_BoxHullIsLeastUpperBound at G
  refine k_seq ?_
  refine k_reg mixed H (.cons [1, 88] (ok_new (fun b => .pointer (some ⟨b, 0, none⟩)) (fun ν1 => [.slice p_a0_A a0.A.length c_a0_A, .slice p_a0_B a0.B.length c_a0_B, .slice p_a0_C a0.C.length c_a0_C, .int .u8 a0.N, .slice p_a0_P_e0 a0.P.e0.length c_a0_P_e0, .slice p_a0_P_e1 a0.P.e1.length c_a0_P_e1]) 26 1 88) <|
      .cons [2] (ok_val (fun ν1 => .bool false) 2) <| .nil) (by kernel_rfl) fun ν1 a w' H => ?_
  replace H := H.toL [(1, .slot true (.pointer (some ⟨((ν1 0).n 0), 0, none⟩))), (2, .slot true (.bool false)), (88, .blk ((ν1 0).n 0) [.slice p_a0_A a0.A.length c_a0_A, .slice p_a0_B a0.B.length c_a0_B, .slice p_a0_C a0.C.length c_a0_C, .int .u8 a0.N, .slice p_a0_P_e0 a0.P.e0.length c_a0_P_e0, .slice p_a0_P_e1 a0.P.e1.length c_a0_P_e1] 26), (83, rdK 2 p_a0_A a0.A.length (a0.A.flatMap en_TInterval)), (84, rdK 2 p_a0_B a0.B.length (a0.B.flatMap en_TInterval)), (85, rdK 2 p_a0_C a0.C.length (a0.C.flatMap en_TInterval)), (86, rdK 1 p_a0_P_e0 a0.P.e0.length (a0.P.e0.flatMap en_u16)), (87, rdK 1 p_a0_P_e1 a0.P.e1.length (a0.P.e1.flatMap en_u16))] (by kernel_rfl)
  refine k_seq ?_
  replace G := bnd G; obtain ⟨t3, ht3, G⟩ := G
  refine k_reg mixed H (.cons [8] (ok_callv 12 (fun ν2 => #[]) (.bool t3) 8 [] (fun _ w _ => armillarylaw03_sanity.calls k0 t3 w ht3)) <|
      .cons [3] (ok_val (fun ν2 => .bool t3) 3) <| .nil) (by kernel_rfl) fun ν2 a w' H => ?_
  replace H := H.toL [(1, .slot true (.pointer (some ⟨((ν1 0).n 0), 0, none⟩))), (2, .slot true (.bool false)), (3, .slot true (.bool t3)), (88, .blk ((ν1 0).n 0) [.slice p_a0_A a0.A.length c_a0_A, .slice p_a0_B a0.B.length c_a0_B, .slice p_a0_C a0.C.length c_a0_C, .int .u8 a0.N, .slice p_a0_P_e0 a0.P.e0.length c_a0_P_e0, .slice p_a0_P_e1 a0.P.e1.length c_a0_P_e1] 26), (83, rdK 2 p_a0_A a0.A.length (a0.A.flatMap en_TInterval)), (84, rdK 2 p_a0_B a0.B.length (a0.B.flatMap en_TInterval)), (85, rdK 2 p_a0_C a0.C.length (a0.C.flatMap en_TInterval)), (86, rdK 1 p_a0_P_e0 a0.P.e0.length (a0.P.e0.flatMap en_u16)), (87, rdK 1 p_a0_P_e1 a0.P.e1.length (a0.P.e1.flatMap en_u16))] (by kernel_rfl)
  refine k_seq ?_
  replace G := bnd G; obtain ⟨t5, ht5, G⟩ := G
  refine k_reg mixed H (.cons [10] (ok_ld (fun ν4 => .agg #[.slice p_a0_A a0.A.length c_a0_A, .slice p_a0_B a0.B.length c_a0_B, .slice p_a0_C a0.C.length c_a0_C, .int .u8 a0.N, .slice p_a0_P_e0 a0.P.e0.length c_a0_P_e0, .slice p_a0_P_e1 a0.P.e1.length c_a0_P_e1]) 10 88 0 6 (fun ν4 => ((ν1 0).n 0)) (fun ν4 => [.slice p_a0_A a0.A.length c_a0_A, .slice p_a0_B a0.B.length c_a0_B, .slice p_a0_C a0.C.length c_a0_C, .int .u8 a0.N, .slice p_a0_P_e0 a0.P.e0.length c_a0_P_e0, .slice p_a0_P_e1 a0.P.e1.length c_a0_P_e1]) 26) <|
      .cons [11, 89, 90] (ok_callRL2 [83, 84, 85, 86, 87] (fun ν4 => [rdK 2 p_a0_A a0.A.length (a0.A.flatMap en_TInterval), rdK 2 p_a0_B a0.B.length (a0.B.flatMap en_TInterval), rdK 2 p_a0_C a0.C.length (a0.C.flatMap en_TInterval), rdK 1 p_a0_P_e0 a0.P.e0.length (a0.P.e0.flatMap en_u16), rdK 1 p_a0_P_e1 a0.P.e1.length (a0.P.e1.flatMap en_u16)]) 13 (fun ν4 => #[.agg #[.slice p_a0_A a0.A.length c_a0_A, .slice p_a0_B a0.B.length c_a0_B, .slice p_a0_C a0.C.length c_a0_C, .int .u8 a0.N, .slice p_a0_P_e0 a0.P.e0.length c_a0_P_e0, .slice p_a0_P_e1 a0.P.e1.length c_a0_P_e1]]) (fun p cap p2 cap2 => .tuple #[.slice p t5.1.length cap, .slice p2 t5.2.length cap2]) 40 2 t5.1.length (t5.1.flatMap en_TInterval) 40 2 t5.2.length (t5.2.flatMap en_TInterval) 11 89 90 (fun ν4 w hF => armillarylaw03_boxes.calls k0 (⟨a0.A, a0.B, a0.C, a0.N, (⟨a0.P.e0, a0.P.e1⟩ : TA2_List_Int)⟩ : TInput) p_a0_A c_a0_A p_a0_B c_a0_B p_a0_C c_a0_C p_a0_P_e0 c_a0_P_e0 p_a0_P_e1 c_a0_P_e1 t5 w (rd_of hF.1) (rd_of hF.2.1) (rd_of hF.2.2.1) (rd_of hF.2.2.2.1) (rd_of hF.2.2.2.2.1) ht5)) <|
      .cons [9] (ok_val (fun ν4 => .tuple #[.slice ((ν4 1).o 0) t5.1.length ((ν4 1).n 0), .slice ((ν4 1).o 1) t5.2.length ((ν4 1).n 1)]) 9) <|
      .cons [12] (ok_val (fun ν4 => .slice ((ν4 1).o 0) t5.1.length ((ν4 1).n 0)) 12) <|
      .cons [13] (ok_val (fun ν4 => .slice ((ν4 1).o 1) t5.2.length ((ν4 1).n 1)) 13) <|
      .cons [4] (ok_val (fun ν4 => .slice ((ν4 1).o 0) t5.1.length ((ν4 1).n 0)) 4) <|
      .cons [5] (ok_val (fun ν4 => .slice ((ν4 1).o 1) t5.2.length ((ν4 1).n 1)) 5) <| .nil) (by kernel_rfl) fun ν4 a w' H => ?_
  replace H := H.toL [(1, .slot true (.pointer (some ⟨((ν1 0).n 0), 0, none⟩))), (2, .slot true (.bool false)), (3, .slot true (.bool t3)), (4, .slot true (.slice ((ν4 1).o 0) t5.1.length ((ν4 1).n 0))), (5, .slot true (.slice ((ν4 1).o 1) t5.2.length ((ν4 1).n 1))), (88, .blk ((ν1 0).n 0) [.slice p_a0_A a0.A.length c_a0_A, .slice p_a0_B a0.B.length c_a0_B, .slice p_a0_C a0.C.length c_a0_C, .int .u8 a0.N, .slice p_a0_P_e0 a0.P.e0.length c_a0_P_e0, .slice p_a0_P_e1 a0.P.e1.length c_a0_P_e1] 26), (83, rdK 2 p_a0_A a0.A.length (a0.A.flatMap en_TInterval)), (84, rdK 2 p_a0_B a0.B.length (a0.B.flatMap en_TInterval)), (85, rdK 2 p_a0_C a0.C.length (a0.C.flatMap en_TInterval)), (86, rdK 1 p_a0_P_e0 a0.P.e0.length (a0.P.e0.flatMap en_u16)), (87, rdK 1 p_a0_P_e1 a0.P.e1.length (a0.P.e1.flatMap en_u16)), (89, owK 40 2 ((ν4 1).o 0) t5.1.length ((ν4 1).n 0) (t5.1.flatMap en_TInterval)), (90, owK 40 2 ((ν4 1).o 1) t5.2.length ((ν4 1).n 1) (t5.2.flatMap en_TInterval))] (by kernel_rfl)
  refine k_seq ?_
  replace G := bnd G; obtain ⟨t7, ht7, G⟩ := G
  refine k_reg mixed H (.cons [14] (ok_val (fun ν6 => .pointer (some ⟨((ν1 0).n 0), 2, none⟩)) 14) <|
      .cons [15] (ok_ld (fun ν6 => .slice p_a0_C a0.C.length c_a0_C) 15 88 2 1 (fun ν6 => ((ν1 0).n 0)) (fun ν6 => [.slice p_a0_A a0.A.length c_a0_A, .slice p_a0_B a0.B.length c_a0_B, .slice p_a0_C a0.C.length c_a0_C, .int .u8 a0.N, .slice p_a0_P_e0 a0.P.e0.length c_a0_P_e0, .slice p_a0_P_e1 a0.P.e1.length c_a0_P_e1]) 26) <|
      .cons [16] (ok_val (fun ν6 => .pointer (some ⟨((ν1 0).n 0), 3, none⟩)) 16) <|
      .cons [17] (ok_ld (fun ν6 => .int .u8 a0.N) 17 88 3 1 (fun ν6 => ((ν1 0).n 0)) (fun ν6 => [.slice p_a0_A a0.A.length c_a0_A, .slice p_a0_B a0.B.length c_a0_B, .slice p_a0_C a0.C.length c_a0_C, .int .u8 a0.N, .slice p_a0_P_e0 a0.P.e0.length c_a0_P_e0, .slice p_a0_P_e1 a0.P.e1.length c_a0_P_e1]) 26) <|
      .cons [18] (ok_val (fun ν6 => .int .u8 (Int.tmod a0.N 6)) 18) <|
      .cons [19] (ok_val (fun ν6 => .int .i64 (w_i64 (Int.tmod a0.N 6))) 19) <|
      .cons [20] (ok_val (fun ν6 => .int .i64 (w_i64 (1 + (w_i64 (Int.tmod a0.N 6))))) 20) <|
      .cons [21, 91] (ok_callRL [85] (fun ν6 => [rdK 2 p_a0_C a0.C.length (a0.C.flatMap en_TInterval)]) 44 (fun ν6 => #[.slice p_a0_C a0.C.length c_a0_C, .int .i64 (w_i64 (1 + (w_i64 (Int.tmod a0.N 6))))]) (fun p cap => .slice p t7.length cap) 40 2 t7.length (t7.flatMap en_TInterval) 21 91 (fun ν6 w hF => armillaryref03_Made.calls k0 a0.C (w_i64 (1 + (w_i64 (Int.tmod a0.N 6)))) p_a0_C c_a0_C t7 w (rd_of hF.1) ht7)) <|
      .cons [6] (ok_val (fun ν6 => .slice ((ν6 7).o 0) t7.length ((ν6 7).n 0)) 6) <| .nil) (by kernel_rfl) fun ν6 a w' H => ?_
  replace H := H.toL [(2, .slot true (.bool false)), (3, .slot true (.bool t3)), (4, .slot true (.slice ((ν4 1).o 0) t5.1.length ((ν4 1).n 0))), (5, .slot true (.slice ((ν4 1).o 1) t5.2.length ((ν4 1).n 1))), (6, .slot true (.slice ((ν6 7).o 0) t7.length ((ν6 7).n 0))), (89, owK 40 2 ((ν4 1).o 0) t5.1.length ((ν4 1).n 0) (t5.1.flatMap en_TInterval)), (90, owK 40 2 ((ν4 1).o 1) t5.2.length ((ν4 1).n 1) (t5.2.flatMap en_TInterval)), (91, owK 40 2 ((ν6 7).o 0) t7.length ((ν6 7).n 0) (t7.flatMap en_TInterval))] (by kernel_rfl)
  refine k_seq ?_
  replace G := bnd G; obtain ⟨t9, ht9, G⟩ := G
  refine k_reg mixed H (.cons [22] (ok_val (fun ν8 => .slice ((ν4 1).o 0) t5.1.length ((ν4 1).n 0)) 22) <|
      .cons [23] (ok_val (fun ν8 => .slice ((ν4 1).o 1) t5.2.length ((ν4 1).n 1)) 23) <|
      .cons [24, 92] (ok_callRL [89, 90] (fun ν8 => [owK 40 2 ((ν4 1).o 0) t5.1.length ((ν4 1).n 0) (t5.1.flatMap en_TInterval), owK 40 2 ((ν4 1).o 1) t5.2.length ((ν4 1).n 1) (t5.2.flatMap en_TInterval)]) 26 (fun ν8 => #[.slice ((ν4 1).o 0) t5.1.length ((ν4 1).n 0), .slice ((ν4 1).o 1) t5.2.length ((ν4 1).n 1)]) (fun p cap => .slice p t9.length cap) 40 2 t9.length (t9.flatMap en_TInterval) 24 92 (fun ν8 w hF => box_Hull.calls t5.1 t5.2 ((ν4 1).o 0) ((ν4 1).n 0) ((ν4 1).o 1) ((ν4 1).n 1) t9 w (owns_row (ow_of hF.1)) (owns_row (ow_of hF.2.1)) ht9)) <|
      .cons [7] (ok_val (fun ν8 => .slice ((ν8 2).o 0) t9.length ((ν8 2).n 0)) 7) <| .nil) (by kernel_rfl) fun ν8 a w' H => ?_
  replace H := H.toL [(2, .slot true (.bool false)), (3, .slot true (.bool t3)), (4, .slot true (.slice ((ν4 1).o 0) t5.1.length ((ν4 1).n 0))), (5, .slot true (.slice ((ν4 1).o 1) t5.2.length ((ν4 1).n 1))), (6, .slot true (.slice ((ν6 7).o 0) t7.length ((ν6 7).n 0))), (7, .slot true (.slice ((ν8 2).o 0) t9.length ((ν8 2).n 0))), (89, owK 40 2 ((ν4 1).o 0) t5.1.length ((ν4 1).n 0) (t5.1.flatMap en_TInterval)), (90, owK 40 2 ((ν4 1).o 1) t5.2.length ((ν4 1).n 1) (t5.2.flatMap en_TInterval)), (91, owK 40 2 ((ν6 7).o 0) t7.length ((ν6 7).n 0) (t7.flatMap en_TInterval)), (92, owK 40 2 ((ν8 2).o 0) t9.length ((ν8 2).n 0) (t9.flatMap en_TInterval))] (by kernel_rfl)
  refine k_seq ?_
  refine k_seq ?_
  replace G := bnd G; obtain ⟨t11, ht11, G⟩ := G
  replace G := bnd G; obtain ⟨t12, ht12, G⟩ := G
  replace G := bnd G; obtain ⟨t13, ht13, G⟩ := G
  replace G := bnd G; obtain ⟨z14, hz14, G⟩ := G
  replace hz14 := Option.some.inj hz14
  by_cases c28 : z14 = true
  · rw [if_pos c28] at G; subst c28
    refine k_reg mixed H (.cons [25] (ok_val (fun ν10 => .slice ((ν8 2).o 0) t9.length ((ν8 2).n 0)) 25) <|
      .cons [26] (ok_callL [92] (fun ν10 => [owK 40 2 ((ν8 2).o 0) t9.length ((ν8 2).n 0) (t9.flatMap en_TInterval)]) 18 (fun ν10 => #[.slice ((ν8 2).o 0) t9.length ((ν8 2).n 0)]) (.bool t11) 26 (fun ν10 w hF => box_Valid.calls k0 t9 ((ν8 2).o 0) ((ν8 2).n 0) t11 w (owns_row (ow_of hF.1)) ht11)) <|
      .cons [27] (ok_val (fun ν10 => .bool (!t11)) 27) <|
      .cons [28] (ok_val (fun ν10 => .bool (!t11)) 28) <|
      .cons [29] (ok_valg (fun ν10 => .slice ((ν4 1).o 0) t5.1.length ((ν4 1).n 0)) (fun ν10 => ((!t11) == false)) [true] 29) <|
      .cons [30] (ok_valg (fun ν10 => .slice ((ν8 2).o 0) t9.length ((ν8 2).n 0)) (fun ν10 => ((!t11) == false)) [true] 30) <|
      .cons [31] (ok_callLg [89, 92] (fun ν10 => [owK 40 2 ((ν4 1).o 0) t5.1.length ((ν4 1).n 0) (t5.1.flatMap en_TInterval), owK 40 2 ((ν8 2).o 0) t9.length ((ν8 2).n 0) (t9.flatMap en_TInterval)]) 23 (fun ν10 => #[.slice ((ν4 1).o 0) t5.1.length ((ν4 1).n 0), .slice ((ν8 2).o 0) t9.length ((ν8 2).n 0)]) (.bool t12) (fun ν10 => ((!t11) == false)) [true, false, false] 31 (fun ν10 w hg hF => box_Subset.calls t5.1 t9 ((ν4 1).o 0) ((ν4 1).n 0) ((ν8 2).o 0) ((ν8 2).n 0) t12 w (owns_row (ow_of hF.1)) (owns_row (ow_of hF.2.1)) (ifp ht12 hg))) <|
      .cons [32] (ok_valg (fun ν10 => .bool (!t12)) (fun ν10 => ((!t11) == false)) [false] 32) <|
      .cons [33] (ok_or 28 32 (fun ν10 => true) (fun ν10 => true) (fun ν10 => (!t11)) (fun ν10 => (!t12)) 33) <|
      .cons [34] (ok_val (fun ν10 => .bool ((!t11) || (!t12))) 34) <|
      .cons [35] (ok_valg (fun ν10 => .slice ((ν4 1).o 1) t5.2.length ((ν4 1).n 1)) (fun ν10 => (((!t11) || (!t12)) == false)) [true] 35) <|
      .cons [36] (ok_valg (fun ν10 => .slice ((ν8 2).o 0) t9.length ((ν8 2).n 0)) (fun ν10 => (((!t11) || (!t12)) == false)) [true] 36) <|
      .cons [37] (ok_callLg [90, 92] (fun ν10 => [owK 40 2 ((ν4 1).o 1) t5.2.length ((ν4 1).n 1) (t5.2.flatMap en_TInterval), owK 40 2 ((ν8 2).o 0) t9.length ((ν8 2).n 0) (t9.flatMap en_TInterval)]) 23 (fun ν10 => #[.slice ((ν4 1).o 1) t5.2.length ((ν4 1).n 1), .slice ((ν8 2).o 0) t9.length ((ν8 2).n 0)]) (.bool t13) (fun ν10 => (((!t11) || (!t12)) == false)) [true, false, false] 37 (fun ν10 w hg hF => box_Subset.calls t5.2 t9 ((ν4 1).o 1) ((ν4 1).n 1) ((ν8 2).o 0) ((ν8 2).n 0) t13 w (owns_row (ow_of hF.1)) (owns_row (ow_of hF.2.1)) (ifp ht13 hg))) <|
      .cons [38] (ok_valg (fun ν10 => .bool (!t13)) (fun ν10 => (((!t11) || (!t12)) == false)) [false] 38) <|
      .cons [39] (ok_or 34 38 (fun ν10 => true) (fun ν10 => true) (fun ν10 => ((!t11) || (!t12))) (fun ν10 => (!t13)) 39) <|
      .cons [40] (ok_as (u' := fun ν10 => [(40, .slot true (.bool true))]) (ok_val (fun ν10 => .bool (((!t11) || (!t12)) || (!t13))) 40) (fun _ => by rw [hz14])) <|
      .cons [41] (ok_offB 41) <|
      .cons [42] (ok_offB 42) <|
      .cons [43] (ok_offB 43) <|
      .cons [44] (ok_offB 44) <|
      .cons [45] (ok_offB 45) <|
      .cons [46] (ok_offB 46) <|
      .cons [47] (ok_pickK (fun ν10 => .bool true) 47) <|
      .cons [48] (ok_val (fun ν10 => .bool true) 48) <|
      .cons [49] (ok_offB 49) <|
      .cons [50] (ok_offB 50) <|
      .cons [51] (ok_offB 51) <|
      .cons [52] (ok_offB 52) <|
      .cons [53] (ok_offB 53) <|
      .cons [54] (ok_offB 54) <|
      .cons [55] (ok_offB 55) <|
      .cons [56] (ok_offB 56) <|
      .cons [57] (ok_offB 57) <|
      .cons [58] (ok_offB 58) <|
      .cons [59] (ok_offB 59) <|
      .cons [60] (ok_offB 60) <|
      .cons [61] (ok_offB 61) <|
      .cons [62] (ok_offB 62) <|
      .cons [63] (ok_pickK (fun ν10 => .bool true) 63) <| .nil) (by kernel_rfl) fun ν10 a w' H => ?_
    replace H := H.toL [(2, .slot true (.bool false)), (3, .slot true (.bool t3)), (4, .slot true (.slice ((ν4 1).o 0) t5.1.length ((ν4 1).n 0))), (5, .slot true (.slice ((ν4 1).o 1) t5.2.length ((ν4 1).n 1))), (7, .slot true (.slice ((ν8 2).o 0) t9.length ((ν8 2).n 0))), (63, .slot true (.bool true)), (89, owK 40 2 ((ν4 1).o 0) t5.1.length ((ν4 1).n 0) (t5.1.flatMap en_TInterval)), (90, owK 40 2 ((ν4 1).o 1) t5.2.length ((ν4 1).n 1) (t5.2.flatMap en_TInterval)), (92, owK 40 2 ((ν8 2).o 0) t9.length ((ν8 2).n 0) (t9.flatMap en_TInterval))] (by kernel_rfl)
    refine k_cond_true H (by kernel_rfl) (by kernel_rfl) ?_
    refine k_seq ?_
    refine k_reg mixed H (.cons [2] (ok_val (fun ν15 => .bool false) 2) <| .nil) (by kernel_rfl) fun ν15 a w' H => ?_
    replace H := H.toL [(2, .slot true (.bool false)), (3, .slot true (.bool t3)), (4, .slot true (.slice ((ν4 1).o 0) t5.1.length ((ν4 1).n 0))), (5, .slot true (.slice ((ν4 1).o 1) t5.2.length ((ν4 1).n 1))), (7, .slot true (.slice ((ν8 2).o 0) t9.length ((ν8 2).n 0))), (89, owK 40 2 ((ν4 1).o 0) t5.1.length ((ν4 1).n 0) (t5.1.flatMap en_TInterval)), (90, owK 40 2 ((ν4 1).o 1) t5.2.length ((ν4 1).n 1) (t5.2.flatMap en_TInterval)), (92, owK 40 2 ((ν8 2).o 0) t9.length ((ν8 2).n 0) (t9.flatMap en_TInterval))] (by kernel_rfl)
    refine k_ret ?_
    obtain rfl := Option.some.inj G
    exact k_done0 H _ (by kernel_rfl) (by kernel_rfl)
  rw [if_neg c28] at G
  by_cases c29 : z14 = false
  · rw [if_pos c29] at G; subst c29
    replace G := bnd G; obtain ⟨t15, ht15, G⟩ := G
    replace G := bnd G; obtain ⟨t16, ht16, G⟩ := G
    replace G := bnd G; obtain ⟨t17, ht17, G⟩ := G
    replace G := bnd G; obtain ⟨t18, ht18, G⟩ := G
    replace G := bnd G; obtain ⟨t19, ht19, G⟩ := G
    refine k_reg mixed H (.cons [25] (ok_val (fun ν10 => .slice ((ν8 2).o 0) t9.length ((ν8 2).n 0)) 25) <|
      .cons [26] (ok_callL [92] (fun ν10 => [owK 40 2 ((ν8 2).o 0) t9.length ((ν8 2).n 0) (t9.flatMap en_TInterval)]) 18 (fun ν10 => #[.slice ((ν8 2).o 0) t9.length ((ν8 2).n 0)]) (.bool t11) 26 (fun ν10 w hF => box_Valid.calls k0 t9 ((ν8 2).o 0) ((ν8 2).n 0) t11 w (owns_row (ow_of hF.1)) ht11)) <|
      .cons [27] (ok_val (fun ν10 => .bool (!t11)) 27) <|
      .cons [28] (ok_val (fun ν10 => .bool (!t11)) 28) <|
      .cons [29] (ok_valg (fun ν10 => .slice ((ν4 1).o 0) t5.1.length ((ν4 1).n 0)) (fun ν10 => ((!t11) == false)) [true] 29) <|
      .cons [30] (ok_valg (fun ν10 => .slice ((ν8 2).o 0) t9.length ((ν8 2).n 0)) (fun ν10 => ((!t11) == false)) [true] 30) <|
      .cons [31] (ok_callLg [89, 92] (fun ν10 => [owK 40 2 ((ν4 1).o 0) t5.1.length ((ν4 1).n 0) (t5.1.flatMap en_TInterval), owK 40 2 ((ν8 2).o 0) t9.length ((ν8 2).n 0) (t9.flatMap en_TInterval)]) 23 (fun ν10 => #[.slice ((ν4 1).o 0) t5.1.length ((ν4 1).n 0), .slice ((ν8 2).o 0) t9.length ((ν8 2).n 0)]) (.bool t12) (fun ν10 => ((!t11) == false)) [true, false, false] 31 (fun ν10 w hg hF => box_Subset.calls t5.1 t9 ((ν4 1).o 0) ((ν4 1).n 0) ((ν8 2).o 0) ((ν8 2).n 0) t12 w (owns_row (ow_of hF.1)) (owns_row (ow_of hF.2.1)) (ifp ht12 hg))) <|
      .cons [32] (ok_valg (fun ν10 => .bool (!t12)) (fun ν10 => ((!t11) == false)) [false] 32) <|
      .cons [33] (ok_or 28 32 (fun ν10 => true) (fun ν10 => true) (fun ν10 => (!t11)) (fun ν10 => (!t12)) 33) <|
      .cons [34] (ok_val (fun ν10 => .bool ((!t11) || (!t12))) 34) <|
      .cons [35] (ok_valg (fun ν10 => .slice ((ν4 1).o 1) t5.2.length ((ν4 1).n 1)) (fun ν10 => (((!t11) || (!t12)) == false)) [true] 35) <|
      .cons [36] (ok_valg (fun ν10 => .slice ((ν8 2).o 0) t9.length ((ν8 2).n 0)) (fun ν10 => (((!t11) || (!t12)) == false)) [true] 36) <|
      .cons [37] (ok_callLg [90, 92] (fun ν10 => [owK 40 2 ((ν4 1).o 1) t5.2.length ((ν4 1).n 1) (t5.2.flatMap en_TInterval), owK 40 2 ((ν8 2).o 0) t9.length ((ν8 2).n 0) (t9.flatMap en_TInterval)]) 23 (fun ν10 => #[.slice ((ν4 1).o 1) t5.2.length ((ν4 1).n 1), .slice ((ν8 2).o 0) t9.length ((ν8 2).n 0)]) (.bool t13) (fun ν10 => (((!t11) || (!t12)) == false)) [true, false, false] 37 (fun ν10 w hg hF => box_Subset.calls t5.2 t9 ((ν4 1).o 1) ((ν4 1).n 1) ((ν8 2).o 0) ((ν8 2).n 0) t13 w (owns_row (ow_of hF.1)) (owns_row (ow_of hF.2.1)) (ifp ht13 hg))) <|
      .cons [38] (ok_valg (fun ν10 => .bool (!t13)) (fun ν10 => (((!t11) || (!t12)) == false)) [false] 38) <|
      .cons [39] (ok_or 34 38 (fun ν10 => true) (fun ν10 => true) (fun ν10 => ((!t11) || (!t12))) (fun ν10 => (!t13)) 39) <|
      .cons [40] (ok_as (u' := fun ν10 => [(40, .slot true (.bool false))]) (ok_val (fun ν10 => .bool (((!t11) || (!t12)) || (!t13))) 40) (fun _ => by rw [hz14])) <|
      .cons [41] (ok_gd (ok_val (fun ν10 => .slice ((ν8 2).o 0) t9.length ((ν8 2).n 0)) 41) (by intro _; kernel_rfl)) <|
      .cons [42] (ok_gd (ok_val (fun ν10 => .slice ((ν4 1).o 1) t5.2.length ((ν4 1).n 1)) 42) (by intro _; kernel_rfl)) <|
      .cons [43] (ok_gd (ok_val (fun ν10 => .slice ((ν4 1).o 0) t5.1.length ((ν4 1).n 0)) 43) (by intro _; kernel_rfl)) <|
      .cons [44, 93] (ok_gd (ok_callRL [90, 89] (fun ν10 => [owK 40 2 ((ν4 1).o 1) t5.2.length ((ν4 1).n 1) (t5.2.flatMap en_TInterval), owK 40 2 ((ν4 1).o 0) t5.1.length ((ν4 1).n 0) (t5.1.flatMap en_TInterval)]) 26 (fun ν10 => #[.slice ((ν4 1).o 1) t5.2.length ((ν4 1).n 1), .slice ((ν4 1).o 0) t5.1.length ((ν4 1).n 0)]) (fun p cap => .slice p t15.length cap) 40 2 t15.length (t15.flatMap en_TInterval) 44 93 (fun ν10 w hF => box_Hull.calls t5.2 t5.1 ((ν4 1).o 1) ((ν4 1).n 1) ((ν4 1).o 0) ((ν4 1).n 0) t15 w (owns_row (ow_of hF.1)) (owns_row (ow_of hF.2.1)) ht15)) (by intro _; kernel_rfl)) <|
      .cons [45] (ok_gd (ok_callL [92, 93] (fun ν10 => [owK 40 2 ((ν8 2).o 0) t9.length ((ν8 2).n 0) (t9.flatMap en_TInterval), owK 40 2 ((ν10 19).o 0) t15.length ((ν10 19).n 0) (t15.flatMap en_TInterval)]) 20 (fun ν10 => #[.slice ((ν8 2).o 0) t9.length ((ν8 2).n 0), .slice ((ν10 19).o 0) t15.length ((ν10 19).n 0)]) (.bool t16) 45 (fun ν10 w hF => armillaryref03_Same.calls k0 t9 t15 ((ν8 2).o 0) ((ν8 2).n 0) ((ν10 19).o 0) ((ν10 19).n 0) t16 w (owns_row (ow_of hF.1)) (owns_row (ow_of hF.2.1)) ht16)) (by intro _; kernel_rfl)) <|
      .cons [46] (ok_gd (ok_val (fun ν10 => .bool (!t16)) 46) (by intro _; kernel_rfl)) <|
      .cons [47] (ok_pickK (fun ν10 => .bool (!t16)) 47) <|
      .cons [48] (ok_val (fun ν10 => .bool (!t16)) 48) <|
      .cons [49] (ok_valg (fun ν10 => .slice ((ν4 1).o 0) t5.1.length ((ν4 1).n 0)) (fun ν10 => ((!t16) == false)) [true] 49) <|
      .cons [50] (ok_valg (fun ν10 => .slice ((ν6 7).o 0) t7.length ((ν6 7).n 0)) (fun ν10 => ((!t16) == false)) [true] 50) <|
      .cons [51] (ok_callLg [89, 91] (fun ν10 => [owK 40 2 ((ν4 1).o 0) t5.1.length ((ν4 1).n 0) (t5.1.flatMap en_TInterval), owK 40 2 ((ν6 7).o 0) t7.length ((ν6 7).n 0) (t7.flatMap en_TInterval)]) 23 (fun ν10 => #[.slice ((ν4 1).o 0) t5.1.length ((ν4 1).n 0), .slice ((ν6 7).o 0) t7.length ((ν6 7).n 0)]) (.bool t17) (fun ν10 => ((!t16) == false)) [true, false, false] 51 (fun ν10 w hg hF => box_Subset.calls t5.1 t7 ((ν4 1).o 0) ((ν4 1).n 0) ((ν6 7).o 0) ((ν6 7).n 0) t17 w (owns_row (ow_of hF.1)) (owns_row (ow_of hF.2.1)) (ifp ht17 hg))) <|
      .cons [52] (ok_valg (fun ν10 => .bool t17) (fun ν10 => ((!t16) == false)) [false] 52) <|
      .cons [53] (ok_valg (fun ν10 => .slice ((ν4 1).o 1) t5.2.length ((ν4 1).n 1)) (fun ν10 => (((!t16) == false) && (t17 == true))) [true] 53) <|
      .cons [54] (ok_valg (fun ν10 => .slice ((ν6 7).o 0) t7.length ((ν6 7).n 0)) (fun ν10 => (((!t16) == false) && (t17 == true))) [true] 54) <|
      .cons [55] (ok_callLg [90, 91] (fun ν10 => [owK 40 2 ((ν4 1).o 1) t5.2.length ((ν4 1).n 1) (t5.2.flatMap en_TInterval), owK 40 2 ((ν6 7).o 0) t7.length ((ν6 7).n 0) (t7.flatMap en_TInterval)]) 23 (fun ν10 => #[.slice ((ν4 1).o 1) t5.2.length ((ν4 1).n 1), .slice ((ν6 7).o 0) t7.length ((ν6 7).n 0)]) (.bool t18) (fun ν10 => (((!t16) == false) && (t17 == true))) [true, false, false] 55 (fun ν10 w hg hF => box_Subset.calls t5.2 t7 ((ν4 1).o 1) ((ν4 1).n 1) ((ν6 7).o 0) ((ν6 7).n 0) t18 w (owns_row (ow_of hF.1)) (owns_row (ow_of hF.2.1)) (ifp ht18 hg))) <|
      .cons [56] (ok_and 52 55 (fun ν10 => ((!t16) == false)) (fun ν10 => ((!t16) == false)) (fun ν10 => t17) (fun ν10 => t18) 56) <|
      .cons [57] (ok_valg (fun ν10 => .bool (t17 && t18)) (fun ν10 => ((!t16) == false)) [false] 57) <|
      .cons [58] (ok_valg (fun ν10 => .slice ((ν8 2).o 0) t9.length ((ν8 2).n 0)) (fun ν10 => (((!t16) == false) && ((t17 && t18) == true))) [true] 58) <|
      .cons [59] (ok_valg (fun ν10 => .slice ((ν6 7).o 0) t7.length ((ν6 7).n 0)) (fun ν10 => (((!t16) == false) && ((t17 && t18) == true))) [true] 59) <|
      .cons [60] (ok_callLg [92, 91] (fun ν10 => [owK 40 2 ((ν8 2).o 0) t9.length ((ν8 2).n 0) (t9.flatMap en_TInterval), owK 40 2 ((ν6 7).o 0) t7.length ((ν6 7).n 0) (t7.flatMap en_TInterval)]) 23 (fun ν10 => #[.slice ((ν8 2).o 0) t9.length ((ν8 2).n 0), .slice ((ν6 7).o 0) t7.length ((ν6 7).n 0)]) (.bool t19) (fun ν10 => (((!t16) == false) && ((t17 && t18) == true))) [true, false, false] 60 (fun ν10 w hg hF => box_Subset.calls t9 t7 ((ν8 2).o 0) ((ν8 2).n 0) ((ν6 7).o 0) ((ν6 7).n 0) t19 w (owns_row (ow_of hF.1)) (owns_row (ow_of hF.2.1)) (ifp ht19 hg))) <|
      .cons [61] (ok_valg (fun ν10 => .bool (!t19)) (fun ν10 => (((!t16) == false) && ((t17 && t18) == true))) [false] 61) <|
      .cons [62] (ok_and 57 61 (fun ν10 => ((!t16) == false)) (fun ν10 => ((!t16) == false)) (fun ν10 => (t17 && t18)) (fun ν10 => (!t19)) 62) <|
      .cons [63] (ok_or 48 62 (fun ν10 => true) (fun ν10 => true) (fun ν10 => (!t16)) (fun ν10 => ((t17 && t18) && (!t19))) 63) <| .nil) (by kernel_rfl) fun ν10 a w' H => ?_
    replace H := H.toL [(2, .slot true (.bool false)), (3, .slot true (.bool t3)), (4, .slot true (.slice ((ν4 1).o 0) t5.1.length ((ν4 1).n 0))), (5, .slot true (.slice ((ν4 1).o 1) t5.2.length ((ν4 1).n 1))), (7, .slot true (.slice ((ν8 2).o 0) t9.length ((ν8 2).n 0))), (63, .slot true (.bool ((!t16) || ((t17 && t18) && (!t19))))), (89, owK 40 2 ((ν4 1).o 0) t5.1.length ((ν4 1).n 0) (t5.1.flatMap en_TInterval)), (90, owK 40 2 ((ν4 1).o 1) t5.2.length ((ν4 1).n 1) (t5.2.flatMap en_TInterval)), (92, owK 40 2 ((ν8 2).o 0) t9.length ((ν8 2).n 0) (t9.flatMap en_TInterval))] (by kernel_rfl)
    refine k_cond H (by kernel_rfl) (t := ((!t16) || ((t17 && t18) && (!t19)))) (by kernel_rfl) (fun c27 => ?_) (fun c27 => ?_)
    · rw [if_pos c27] at G
      refine k_seq ?_
      refine k_reg mixed H (.cons [2] (ok_val (fun ν20 => .bool false) 2) <| .nil) (by kernel_rfl) fun ν20 a w' H => ?_
      replace H := H.toL [(2, .slot true (.bool false)), (3, .slot true (.bool t3)), (4, .slot true (.slice ((ν4 1).o 0) t5.1.length ((ν4 1).n 0))), (5, .slot true (.slice ((ν4 1).o 1) t5.2.length ((ν4 1).n 1))), (7, .slot true (.slice ((ν8 2).o 0) t9.length ((ν8 2).n 0))), (89, owK 40 2 ((ν4 1).o 0) t5.1.length ((ν4 1).n 0) (t5.1.flatMap en_TInterval)), (90, owK 40 2 ((ν4 1).o 1) t5.2.length ((ν4 1).n 1) (t5.2.flatMap en_TInterval)), (92, owK 40 2 ((ν8 2).o 0) t9.length ((ν8 2).n 0) (t9.flatMap en_TInterval))] (by kernel_rfl)
      refine k_ret ?_
      obtain rfl := Option.some.inj G
      exact k_done0 H _ (by kernel_rfl) (by kernel_rfl)
    · rw [if_neg (nt c27)] at G
      refine k_skip ?_
      refine k_seq ?_
      replace G := bnd G; obtain ⟨t22, ht22, G⟩ := G
      replace G := bnd G; obtain ⟨t23, ht23, G⟩ := G
      replace G := bnd G; obtain ⟨z24, hz24, G⟩ := G
      replace hz24 := Option.some.inj hz24
      by_cases c25 : z24 = true
      · rw [if_pos c25] at G; subst c25
        replace G := bnd G; obtain ⟨t25, ht25, G⟩ := G
        replace G := bnd G; obtain ⟨t26, ht26, G⟩ := G
        refine k_reg mixed H (.cons [64] (ok_val (fun ν21 => .bool t3) 64) <|
      .cons [65] (ok_val (fun ν21 => .bool t3) 65) <|
      .cons [66] (ok_valg (fun ν21 => .slice ((ν4 1).o 0) t5.1.length ((ν4 1).n 0)) (fun ν21 => (t3 == true)) [true] 66) <|
      .cons [67] (ok_valg (fun ν21 => .slice ((ν4 1).o 1) t5.2.length ((ν4 1).n 1)) (fun ν21 => (t3 == true)) [true] 67) <|
      .cons [68] (ok_callLg [89, 90] (fun ν21 => [owK 40 2 ((ν4 1).o 0) t5.1.length ((ν4 1).n 0) (t5.1.flatMap en_TInterval), owK 40 2 ((ν4 1).o 1) t5.2.length ((ν4 1).n 1) (t5.2.flatMap en_TInterval)]) 23 (fun ν21 => #[.slice ((ν4 1).o 0) t5.1.length ((ν4 1).n 0), .slice ((ν4 1).o 1) t5.2.length ((ν4 1).n 1)]) (.bool t22) (fun ν21 => (t3 == true)) [true, false, false] 68 (fun ν21 w hg hF => box_Subset.calls t5.1 t5.2 ((ν4 1).o 0) ((ν4 1).n 0) ((ν4 1).o 1) ((ν4 1).n 1) t22 w (owns_row (ow_of hF.1)) (owns_row (ow_of hF.2.1)) (ifp ht22 hg))) <|
      .cons [69] (ok_valg (fun ν21 => .bool (!t22)) (fun ν21 => (t3 == true)) [false] 69) <|
      .cons [70] (ok_valg (fun ν21 => .bool (!t22)) (fun ν21 => (t3 == true)) [false] 70) <|
      .cons [71] (ok_valg (fun ν21 => .slice ((ν8 2).o 0) t9.length ((ν8 2).n 0)) (fun ν21 => ((t3 == true) && ((!t22) == false))) [true] 71) <|
      .cons [72] (ok_valg (fun ν21 => .slice ((ν4 1).o 1) t5.2.length ((ν4 1).n 1)) (fun ν21 => ((t3 == true) && ((!t22) == false))) [true] 72) <|
      .cons [73] (ok_callLg [92, 90] (fun ν21 => [owK 40 2 ((ν8 2).o 0) t9.length ((ν8 2).n 0) (t9.flatMap en_TInterval), owK 40 2 ((ν4 1).o 1) t5.2.length ((ν4 1).n 1) (t5.2.flatMap en_TInterval)]) 20 (fun ν21 => #[.slice ((ν8 2).o 0) t9.length ((ν8 2).n 0), .slice ((ν4 1).o 1) t5.2.length ((ν4 1).n 1)]) (.bool t23) (fun ν21 => ((t3 == true) && ((!t22) == false))) [true, false, false] 73 (fun ν21 w hg hF => armillaryref03_Same.calls k0 t9 t5.2 ((ν8 2).o 0) ((ν8 2).n 0) ((ν4 1).o 1) ((ν4 1).n 1) t23 w (owns_row (ow_of hF.1)) (owns_row (ow_of hF.2.1)) (ifp ht23 hg))) <|
      .cons [74] (ok_or 70 73 (fun ν21 => (t3 == true)) (fun ν21 => (t3 == true)) (fun ν21 => (!t22)) (fun ν21 => t23) 74) <|
      .cons [75] (ok_and 65 74 (fun ν21 => true) (fun ν21 => true) (fun ν21 => t3) (fun ν21 => ((!t22) || t23)) 75) <|
      .cons [76] (ok_as (u' := fun ν21 => [(76, .slot true (.bool true))]) (ok_val (fun ν21 => .bool (t3 && ((!t22) || t23))) 76) (fun _ => by rw [hz24])) <|
      .cons [77] (ok_gd (ok_val (fun ν21 => .slice ((ν8 2).o 0) t9.length ((ν8 2).n 0)) 77) (by intro _; kernel_rfl)) <|
      .cons [78] (ok_gd (ok_val (fun ν21 => .slice ((ν4 1).o 0) t5.1.length ((ν4 1).n 0)) 78) (by intro _; kernel_rfl)) <|
      .cons [79, 94] (ok_gd (ok_callRL [92, 89] (fun ν21 => [owK 40 2 ((ν8 2).o 0) t9.length ((ν8 2).n 0) (t9.flatMap en_TInterval), owK 40 2 ((ν4 1).o 0) t5.1.length ((ν4 1).n 0) (t5.1.flatMap en_TInterval)]) 26 (fun ν21 => #[.slice ((ν8 2).o 0) t9.length ((ν8 2).n 0), .slice ((ν4 1).o 0) t5.1.length ((ν4 1).n 0)]) (fun p cap => .slice p t25.length cap) 40 2 t25.length (t25.flatMap en_TInterval) 79 94 (fun ν21 w hF => box_Hull.calls t9 t5.1 ((ν8 2).o 0) ((ν8 2).n 0) ((ν4 1).o 0) ((ν4 1).n 0) t25 w (owns_row (ow_of hF.1)) (owns_row (ow_of hF.2.1)) ht25)) (by intro _; kernel_rfl)) <|
      .cons [80] (ok_gd (ok_val (fun ν21 => .slice ((ν8 2).o 0) t9.length ((ν8 2).n 0)) 80) (by intro _; kernel_rfl)) <|
      .cons [81] (ok_gd (ok_callL [94, 92] (fun ν21 => [owK 40 2 ((ν21 15).o 0) t25.length ((ν21 15).n 0) (t25.flatMap en_TInterval), owK 40 2 ((ν8 2).o 0) t9.length ((ν8 2).n 0) (t9.flatMap en_TInterval)]) 20 (fun ν21 => #[.slice ((ν21 15).o 0) t25.length ((ν21 15).n 0), .slice ((ν8 2).o 0) t9.length ((ν8 2).n 0)]) (.bool t26) 81 (fun ν21 w hF => armillaryref03_Same.calls k0 t25 t9 ((ν21 15).o 0) ((ν21 15).n 0) ((ν8 2).o 0) ((ν8 2).n 0) t26 w (owns_row (ow_of hF.1)) (owns_row (ow_of hF.2.1)) ht26)) (by intro _; kernel_rfl)) <|
      .cons [82] (ok_pickK (fun ν21 => .bool t26) 82) <|
      .cons [2] (ok_val (fun ν21 => .bool t26) 2) <| .nil) (by kernel_rfl) fun ν21 a w' H => ?_
        replace H := H.toL [(2, .slot true (.bool t26))] (by kernel_rfl)
        refine k_ret ?_
        obtain rfl := Option.some.inj G
        exact k_done0 H _ (by kernel_rfl) (by kernel_rfl)
      rw [if_neg c25] at G
      by_cases c26 : z24 = false
      · rw [if_pos c26] at G; subst c26
        refine k_reg mixed H (.cons [64] (ok_val (fun ν21 => .bool t3) 64) <|
      .cons [65] (ok_val (fun ν21 => .bool t3) 65) <|
      .cons [66] (ok_valg (fun ν21 => .slice ((ν4 1).o 0) t5.1.length ((ν4 1).n 0)) (fun ν21 => (t3 == true)) [true] 66) <|
      .cons [67] (ok_valg (fun ν21 => .slice ((ν4 1).o 1) t5.2.length ((ν4 1).n 1)) (fun ν21 => (t3 == true)) [true] 67) <|
      .cons [68] (ok_callLg [89, 90] (fun ν21 => [owK 40 2 ((ν4 1).o 0) t5.1.length ((ν4 1).n 0) (t5.1.flatMap en_TInterval), owK 40 2 ((ν4 1).o 1) t5.2.length ((ν4 1).n 1) (t5.2.flatMap en_TInterval)]) 23 (fun ν21 => #[.slice ((ν4 1).o 0) t5.1.length ((ν4 1).n 0), .slice ((ν4 1).o 1) t5.2.length ((ν4 1).n 1)]) (.bool t22) (fun ν21 => (t3 == true)) [true, false, false] 68 (fun ν21 w hg hF => box_Subset.calls t5.1 t5.2 ((ν4 1).o 0) ((ν4 1).n 0) ((ν4 1).o 1) ((ν4 1).n 1) t22 w (owns_row (ow_of hF.1)) (owns_row (ow_of hF.2.1)) (ifp ht22 hg))) <|
      .cons [69] (ok_valg (fun ν21 => .bool (!t22)) (fun ν21 => (t3 == true)) [false] 69) <|
      .cons [70] (ok_valg (fun ν21 => .bool (!t22)) (fun ν21 => (t3 == true)) [false] 70) <|
      .cons [71] (ok_valg (fun ν21 => .slice ((ν8 2).o 0) t9.length ((ν8 2).n 0)) (fun ν21 => ((t3 == true) && ((!t22) == false))) [true] 71) <|
      .cons [72] (ok_valg (fun ν21 => .slice ((ν4 1).o 1) t5.2.length ((ν4 1).n 1)) (fun ν21 => ((t3 == true) && ((!t22) == false))) [true] 72) <|
      .cons [73] (ok_callLg [92, 90] (fun ν21 => [owK 40 2 ((ν8 2).o 0) t9.length ((ν8 2).n 0) (t9.flatMap en_TInterval), owK 40 2 ((ν4 1).o 1) t5.2.length ((ν4 1).n 1) (t5.2.flatMap en_TInterval)]) 20 (fun ν21 => #[.slice ((ν8 2).o 0) t9.length ((ν8 2).n 0), .slice ((ν4 1).o 1) t5.2.length ((ν4 1).n 1)]) (.bool t23) (fun ν21 => ((t3 == true) && ((!t22) == false))) [true, false, false] 73 (fun ν21 w hg hF => armillaryref03_Same.calls k0 t9 t5.2 ((ν8 2).o 0) ((ν8 2).n 0) ((ν4 1).o 1) ((ν4 1).n 1) t23 w (owns_row (ow_of hF.1)) (owns_row (ow_of hF.2.1)) (ifp ht23 hg))) <|
      .cons [74] (ok_or 70 73 (fun ν21 => (t3 == true)) (fun ν21 => (t3 == true)) (fun ν21 => (!t22)) (fun ν21 => t23) 74) <|
      .cons [75] (ok_and 65 74 (fun ν21 => true) (fun ν21 => true) (fun ν21 => t3) (fun ν21 => ((!t22) || t23)) 75) <|
      .cons [76] (ok_as (u' := fun ν21 => [(76, .slot true (.bool false))]) (ok_val (fun ν21 => .bool (t3 && ((!t22) || t23))) 76) (fun _ => by rw [hz24])) <|
      .cons [77] (ok_offB 77) <|
      .cons [78] (ok_offB 78) <|
      .cons [79] (ok_offB 79) <|
      .cons [80] (ok_offB 80) <|
      .cons [81] (ok_offB 81) <|
      .cons [82] (ok_pickK (fun ν21 => .bool false) 82) <|
      .cons [2] (ok_val (fun ν21 => .bool false) 2) <| .nil) (by kernel_rfl) fun ν21 a w' H => ?_
        replace H := H.toL [(2, .slot true (.bool false))] (by kernel_rfl)
        refine k_ret ?_
        obtain rfl := Option.some.inj G
        exact k_done0 H _ (by kernel_rfl) (by kernel_rfl)
      rw [if_neg c26] at G
      cases G
  rw [if_neg c29] at G
  cases G

end Go.Proofs.Ytgccinodonkgjaa
