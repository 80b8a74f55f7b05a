/- The law BoxSeparatedIsMonotone answers as the plain Lean function of its name. Printed by a program of this session. -/
import Derived.Test.YtgccinodonkgjaaFn2
set_option linter.unusedVariables false
set_option maxRecDepth 100000
namespace Go.Proofs.Ytgccinodonkgjaa
open Go Go.RowKit Go.Sx Go.Proofs
set_option maxHeartbeats 4000000 in
theorem armillarylaw03_BoxSeparatedIsMonotone.calls (k0 : Nat) (a0 : TInput) (a1 : Int) (a2 : Int) (p_a0_A : Option Addr) (c_a0_A : Nat) (p_a0_B : Option Addr) (c_a0_B : Nat) (p_a0_C : Option Addr) (c_a0_C : Nat) (p_a0_P_e0 : Option Addr) (c_a0_P_e0 : Nat) (p_a0_P_e1 : Option Addr) (c_a0_P_e1 : Nat) (r : Bool) (w : World) (R_p_a0_A : RowAt w 2 p_a0_A a0.A.length (a0.A.flatMap en_TInterval)) (R_p_a0_B : RowAt w 2 p_a0_B a0.B.length (a0.B.flatMap en_TInterval)) (R_p_a0_C : RowAt w 2 p_a0_C a0.C.length (a0.C.flatMap en_TInterval)) (R_p_a0_P_e0 : RowAt w 1 p_a0_P_e0 a0.P.e0.length (a0.P.e0.flatMap en_u16)) (R_p_a0_P_e1 : RowAt w 1 p_a0_P_e1 a0.P.e1.length (a0.P.e1.flatMap en_u16)) (G : armillarylaw03_BoxSeparatedIsMonotone k0 a0 a1 a2 = some r) :
    Calls Try.prog 10 #[.agg #[.slice p_a0_A a0.A.length c_a0_A, .slice p_a0_B a0.B.length c_a0_B, .slice p_a0_C a0.C.length c_a0_C, .int .u8 a0.N, .slice p_a0_P_e0 a0.P.e0.length c_a0_P_e0, .slice p_a0_P_e1 a0.P.e1.length c_a0_P_e1], .int .i64 a1, .int .i64 a2] w fun e w' => e = .returned (.bool r) ∧ Below w.heap.size w w' := by
  refine k_enterF (args := [.agg #[.slice p_a0_A a0.A.length c_a0_A, .slice p_a0_B a0.B.length c_a0_B, .slice p_a0_C a0.C.length c_a0_C, .int .u8 a0.N, .slice p_a0_P_e0 a0.P.e0.length c_a0_P_e0, .slice p_a0_P_e1 a0.P.e1.length c_a0_P_e1], .int .i64 a1, .int .i64 a2]) 92 [(92, rdK 2 p_a0_A a0.A.length (a0.A.flatMap en_TInterval)), (93, rdK 2 p_a0_B a0.B.length (a0.B.flatMap en_TInterval)), (94, rdK 2 p_a0_C a0.C.length (a0.C.flatMap en_TInterval)), (95, rdK 1 p_a0_P_e0 a0.P.e0.length (a0.P.e0.flatMap en_u16)), (96, rdK 1 p_a0_P_e1 a0.P.e1.length (a0.P.e1.flatMap en_u16))] (by
    intro x hx
    simp only [List.mem_cons, List.not_mem_nil, or_false] at hx
    rcases hx with rfl | rfl | rfl | rfl | rfl
    · exact rd_fact R_p_a0_A (by decide) _
    · exact rd_fact R_p_a0_B (by decide) _
    · exact rd_fact R_p_a0_C (by decide) _
    · exact rd_fact R_p_a0_P_e0 (by decide) _
    · exact rd_fact R_p_a0_P_e1 (by decide) _) Try.func10 rfl (by kernel_rfl) (by kernel_rfl) fun a H => ?_
  unfold armillarylaw03_BoxSeparatedIsMonotone at G
  refine k_seq ?_
  refine k_reg mixed H (.cons [3, 97] (ok_new (fun b => .pointer (some ⟨b, 0, none⟩)) (fun ν1 => [.slice p_a0_A a0.A.length c_a0_A, .slice p_a0_B a0.B.length c_a0_B, .slice p_a0_C a0.C.length c_a0_C, .int .u8 a0.N, .slice p_a0_P_e0 a0.P.e0.length c_a0_P_e0, .slice p_a0_P_e1 a0.P.e1.length c_a0_P_e1]) 26 3 97) <|
      .cons [6] (ok_val (fun ν1 => .bool false) 6) <| .nil) (by kernel_rfl) fun ν1 a w' H => ?_
  replace H := H.toL [(1, .slot true (.int .i64 a1)), (2, .slot true (.int .i64 a2)), (3, .slot true (.pointer (some ⟨((ν1 0).n 0), 0, none⟩))), (6, .slot true (.bool false)), (97, .blk ((ν1 0).n 0) [.slice p_a0_A a0.A.length c_a0_A, .slice p_a0_B a0.B.length c_a0_B, .slice p_a0_C a0.C.length c_a0_C, .int .u8 a0.N, .slice p_a0_P_e0 a0.P.e0.length c_a0_P_e0, .slice p_a0_P_e1 a0.P.e1.length c_a0_P_e1] 26), (92, rdK 2 p_a0_A a0.A.length (a0.A.flatMap en_TInterval)), (93, rdK 2 p_a0_B a0.B.length (a0.B.flatMap en_TInterval)), (94, rdK 2 p_a0_C a0.C.length (a0.C.flatMap en_TInterval)), (95, rdK 1 p_a0_P_e0 a0.P.e0.length (a0.P.e0.flatMap en_u16)), (96, rdK 1 p_a0_P_e1 a0.P.e1.length (a0.P.e1.flatMap en_u16))] (by kernel_rfl)
  refine k_seq ?_
  replace G := bnd G; obtain ⟨t3, ht3, G⟩ := G
  refine k_reg mixed H (.cons [17] (ok_callv 12 (fun ν2 => #[]) (.bool t3) 17 [] (fun _ w _ => armillarylaw03_sanity.calls k0 t3 w ht3)) <|
      .cons [7] (ok_val (fun ν2 => .bool t3) 7) <| .nil) (by kernel_rfl) fun ν2 a w' H => ?_
  replace H := H.toL [(1, .slot true (.int .i64 a1)), (2, .slot true (.int .i64 a2)), (3, .slot true (.pointer (some ⟨((ν1 0).n 0), 0, none⟩))), (6, .slot true (.bool false)), (7, .slot true (.bool t3)), (97, .blk ((ν1 0).n 0) [.slice p_a0_A a0.A.length c_a0_A, .slice p_a0_B a0.B.length c_a0_B, .slice p_a0_C a0.C.length c_a0_C, .int .u8 a0.N, .slice p_a0_P_e0 a0.P.e0.length c_a0_P_e0, .slice p_a0_P_e1 a0.P.e1.length c_a0_P_e1] 26), (92, rdK 2 p_a0_A a0.A.length (a0.A.flatMap en_TInterval)), (93, rdK 2 p_a0_B a0.B.length (a0.B.flatMap en_TInterval)), (94, rdK 2 p_a0_C a0.C.length (a0.C.flatMap en_TInterval)), (95, rdK 1 p_a0_P_e0 a0.P.e0.length (a0.P.e0.flatMap en_u16)), (96, rdK 1 p_a0_P_e1 a0.P.e1.length (a0.P.e1.flatMap en_u16))] (by kernel_rfl)
  refine k_seq ?_
  replace G := bnd G; obtain ⟨t5, ht5, G⟩ := G
  refine k_reg mixed H (.cons [19] (ok_ld (fun ν4 => .agg #[.slice p_a0_A a0.A.length c_a0_A, .slice p_a0_B a0.B.length c_a0_B, .slice p_a0_C a0.C.length c_a0_C, .int .u8 a0.N, .slice p_a0_P_e0 a0.P.e0.length c_a0_P_e0, .slice p_a0_P_e1 a0.P.e1.length c_a0_P_e1]) 19 97 0 6 (fun ν4 => ((ν1 0).n 0)) (fun ν4 => [.slice p_a0_A a0.A.length c_a0_A, .slice p_a0_B a0.B.length c_a0_B, .slice p_a0_C a0.C.length c_a0_C, .int .u8 a0.N, .slice p_a0_P_e0 a0.P.e0.length c_a0_P_e0, .slice p_a0_P_e1 a0.P.e1.length c_a0_P_e1]) 26) <|
      .cons [20, 98, 99] (ok_callRL2 [92, 93, 94, 95, 96] (fun ν4 => [rdK 2 p_a0_A a0.A.length (a0.A.flatMap en_TInterval), rdK 2 p_a0_B a0.B.length (a0.B.flatMap en_TInterval), rdK 2 p_a0_C a0.C.length (a0.C.flatMap en_TInterval), rdK 1 p_a0_P_e0 a0.P.e0.length (a0.P.e0.flatMap en_u16), rdK 1 p_a0_P_e1 a0.P.e1.length (a0.P.e1.flatMap en_u16)]) 13 (fun ν4 => #[.agg #[.slice p_a0_A a0.A.length c_a0_A, .slice p_a0_B a0.B.length c_a0_B, .slice p_a0_C a0.C.length c_a0_C, .int .u8 a0.N, .slice p_a0_P_e0 a0.P.e0.length c_a0_P_e0, .slice p_a0_P_e1 a0.P.e1.length c_a0_P_e1]]) (fun p cap p2 cap2 => .tuple #[.slice p t5.1.length cap, .slice p2 t5.2.length cap2]) 40 2 t5.1.length (t5.1.flatMap en_TInterval) 40 2 t5.2.length (t5.2.flatMap en_TInterval) 20 98 99 (fun ν4 w hF => armillarylaw03_boxes.calls k0 (⟨a0.A, a0.B, a0.C, a0.N, (⟨a0.P.e0, a0.P.e1⟩ : TA2_List_Int)⟩ : TInput) p_a0_A c_a0_A p_a0_B c_a0_B p_a0_C c_a0_C p_a0_P_e0 c_a0_P_e0 p_a0_P_e1 c_a0_P_e1 t5 w (rd_of hF.1) (rd_of hF.2.1) (rd_of hF.2.2.1) (rd_of hF.2.2.2.1) (rd_of hF.2.2.2.2.1) ht5)) <|
      .cons [18] (ok_val (fun ν4 => .tuple #[.slice ((ν4 1).o 0) t5.1.length ((ν4 1).n 0), .slice ((ν4 1).o 1) t5.2.length ((ν4 1).n 1)]) 18) <|
      .cons [21] (ok_val (fun ν4 => .slice ((ν4 1).o 0) t5.1.length ((ν4 1).n 0)) 21) <|
      .cons [22] (ok_val (fun ν4 => .slice ((ν4 1).o 1) t5.2.length ((ν4 1).n 1)) 22) <|
      .cons [8] (ok_val (fun ν4 => .slice ((ν4 1).o 0) t5.1.length ((ν4 1).n 0)) 8) <|
      .cons [9] (ok_val (fun ν4 => .slice ((ν4 1).o 1) t5.2.length ((ν4 1).n 1)) 9) <| .nil) (by kernel_rfl) fun ν4 a w' H => ?_
  replace H := H.toL [(1, .slot true (.int .i64 a1)), (2, .slot true (.int .i64 a2)), (3, .slot true (.pointer (some ⟨((ν1 0).n 0), 0, none⟩))), (6, .slot true (.bool false)), (7, .slot true (.bool t3)), (8, .slot true (.slice ((ν4 1).o 0) t5.1.length ((ν4 1).n 0))), (9, .slot true (.slice ((ν4 1).o 1) t5.2.length ((ν4 1).n 1))), (97, .blk ((ν1 0).n 0) [.slice p_a0_A a0.A.length c_a0_A, .slice p_a0_B a0.B.length c_a0_B, .slice p_a0_C a0.C.length c_a0_C, .int .u8 a0.N, .slice p_a0_P_e0 a0.P.e0.length c_a0_P_e0, .slice p_a0_P_e1 a0.P.e1.length c_a0_P_e1] 26), (92, rdK 2 p_a0_A a0.A.length (a0.A.flatMap en_TInterval)), (93, rdK 2 p_a0_B a0.B.length (a0.B.flatMap en_TInterval)), (94, rdK 2 p_a0_C a0.C.length (a0.C.flatMap en_TInterval)), (95, rdK 1 p_a0_P_e0 a0.P.e0.length (a0.P.e0.flatMap en_u16)), (96, rdK 1 p_a0_P_e1 a0.P.e1.length (a0.P.e1.flatMap en_u16)), (98, owK 40 2 ((ν4 1).o 0) t5.1.length ((ν4 1).n 0) (t5.1.flatMap en_TInterval)), (99, owK 40 2 ((ν4 1).o 1) t5.2.length ((ν4 1).n 1) (t5.2.flatMap en_TInterval))] (by kernel_rfl)
  refine k_seq ?_
  replace G := bnd G; obtain ⟨t7, ht7, G⟩ := G
  refine k_reg mixed H (.cons [23] (ok_val (fun ν6 => .int .i64 a1) 23) <|
      .cons [24] (ok_callv 17 (fun ν6 => #[.int .i64 a1]) (.int .i64 t7) 24 [] (fun _ w _ => armillarylaw03_magnitude.calls a1 t7 w ht7)) <|
      .cons [10] (ok_val (fun ν6 => .int .i64 t7) 10) <| .nil) (by kernel_rfl) fun ν6 a w' H => ?_
  replace H := H.toL [(2, .slot true (.int .i64 a2)), (3, .slot true (.pointer (some ⟨((ν1 0).n 0), 0, none⟩))), (6, .slot true (.bool false)), (7, .slot true (.bool t3)), (8, .slot true (.slice ((ν4 1).o 0) t5.1.length ((ν4 1).n 0))), (9, .slot true (.slice ((ν4 1).o 1) t5.2.length ((ν4 1).n 1))), (10, .slot true (.int .i64 t7)), (97, .blk ((ν1 0).n 0) [.slice p_a0_A a0.A.length c_a0_A, .slice p_a0_B a0.B.length c_a0_B, .slice p_a0_C a0.C.length c_a0_C, .int .u8 a0.N, .slice p_a0_P_e0 a0.P.e0.length c_a0_P_e0, .slice p_a0_P_e1 a0.P.e1.length c_a0_P_e1] 26), (92, rdK 2 p_a0_A a0.A.length (a0.A.flatMap en_TInterval)), (93, rdK 2 p_a0_B a0.B.length (a0.B.flatMap en_TInterval)), (94, rdK 2 p_a0_C a0.C.length (a0.C.flatMap en_TInterval)), (95, rdK 1 p_a0_P_e0 a0.P.e0.length (a0.P.e0.flatMap en_u16)), (96, rdK 1 p_a0_P_e1 a0.P.e1.length (a0.P.e1.flatMap en_u16)), (98, owK 40 2 ((ν4 1).o 0) t5.1.length ((ν4 1).n 0) (t5.1.flatMap en_TInterval)), (99, owK 40 2 ((ν4 1).o 1) t5.2.length ((ν4 1).n 1) (t5.2.flatMap en_TInterval))] (by kernel_rfl)
  refine k_seq ?_
  replace G := bnd G; obtain ⟨t9, ht9, G⟩ := G
  refine k_reg mixed H (.cons [25] (ok_val (fun ν8 => .int .i64 a2) 25) <|
      .cons [26] (ok_callv 17 (fun ν8 => #[.int .i64 a2]) (.int .i64 t9) 26 [] (fun _ w _ => armillarylaw03_magnitude.calls a2 t9 w ht9)) <|
      .cons [11] (ok_val (fun ν8 => .int .i64 t9) 11) <| .nil) (by kernel_rfl) fun ν8 a w' H => ?_
  replace H := H.toL [(3, .slot true (.pointer (some ⟨((ν1 0).n 0), 0, none⟩))), (6, .slot true (.bool false)), (7, .slot true (.bool t3)), (8, .slot true (.slice ((ν4 1).o 0) t5.1.length ((ν4 1).n 0))), (9, .slot true (.slice ((ν4 1).o 1) t5.2.length ((ν4 1).n 1))), (10, .slot true (.int .i64 t7)), (11, .slot true (.int .i64 t9)), (97, .blk ((ν1 0).n 0) [.slice p_a0_A a0.A.length c_a0_A, .slice p_a0_B a0.B.length c_a0_B, .slice p_a0_C a0.C.length c_a0_C, .int .u8 a0.N, .slice p_a0_P_e0 a0.P.e0.length c_a0_P_e0, .slice p_a0_P_e1 a0.P.e1.length c_a0_P_e1] 26), (92, rdK 2 p_a0_A a0.A.length (a0.A.flatMap en_TInterval)), (93, rdK 2 p_a0_B a0.B.length (a0.B.flatMap en_TInterval)), (94, rdK 2 p_a0_C a0.C.length (a0.C.flatMap en_TInterval)), (95, rdK 1 p_a0_P_e0 a0.P.e0.length (a0.P.e0.flatMap en_u16)), (96, rdK 1 p_a0_P_e1 a0.P.e1.length (a0.P.e1.flatMap en_u16)), (98, owK 40 2 ((ν4 1).o 0) t5.1.length ((ν4 1).n 0) (t5.1.flatMap en_TInterval)), (99, owK 40 2 ((ν4 1).o 1) t5.2.length ((ν4 1).n 1) (t5.2.flatMap en_TInterval))] (by kernel_rfl)
  refine k_seq ?_
  replace G := bnd G; obtain ⟨t11, ht11, G⟩ := G
  refine k_reg mixed H (.cons [27] (ok_val (fun ν10 => .slice ((ν4 1).o 0) t5.1.length ((ν4 1).n 0)) 27) <|
      .cons [28] (ok_val (fun ν10 => .slice ((ν4 1).o 1) t5.2.length ((ν4 1).n 1)) 28) <|
      .cons [29] (ok_val (fun ν10 => .int .i64 t7) 29) <|
      .cons [30] (ok_callL [98, 99] (fun ν10 => [owK 40 2 ((ν4 1).o 0) t5.1.length ((ν4 1).n 0) (t5.1.flatMap en_TInterval), owK 40 2 ((ν4 1).o 1) t5.2.length ((ν4 1).n 1) (t5.2.flatMap en_TInterval)]) 30 (fun ν10 => #[.slice ((ν4 1).o 0) t5.1.length ((ν4 1).n 0), .slice ((ν4 1).o 1) t5.2.length ((ν4 1).n 1), .int .i64 t7]) (.bool t11) 30 (fun ν10 w hF => box_Separated.calls t5.1 t5.2 t7 ((ν4 1).o 0) ((ν4 1).n 0) ((ν4 1).o 1) ((ν4 1).n 1) t11 w (owns_row (ow_of hF.1)) (owns_row (ow_of hF.2.1)) ht11)) <|
      .cons [12] (ok_val (fun ν10 => .bool t11) 12) <| .nil) (by kernel_rfl) fun ν10 a w' H => ?_
  replace H := H.toL [(3, .slot true (.pointer (some ⟨((ν1 0).n 0), 0, none⟩))), (6, .slot true (.bool false)), (7, .slot true (.bool t3)), (8, .slot true (.slice ((ν4 1).o 0) t5.1.length ((ν4 1).n 0))), (9, .slot true (.slice ((ν4 1).o 1) t5.2.length ((ν4 1).n 1))), (10, .slot true (.int .i64 t7)), (11, .slot true (.int .i64 t9)), (12, .slot true (.bool t11)), (97, .blk ((ν1 0).n 0) [.slice p_a0_A a0.A.length c_a0_A, .slice p_a0_B a0.B.length c_a0_B, .slice p_a0_C a0.C.length c_a0_C, .int .u8 a0.N, .slice p_a0_P_e0 a0.P.e0.length c_a0_P_e0, .slice p_a0_P_e1 a0.P.e1.length c_a0_P_e1] 26), (92, rdK 2 p_a0_A a0.A.length (a0.A.flatMap en_TInterval)), (93, rdK 2 p_a0_B a0.B.length (a0.B.flatMap en_TInterval)), (94, rdK 2 p_a0_C a0.C.length (a0.C.flatMap en_TInterval)), (95, rdK 1 p_a0_P_e0 a0.P.e0.length (a0.P.e0.flatMap en_u16)), (96, rdK 1 p_a0_P_e1 a0.P.e1.length (a0.P.e1.flatMap en_u16)), (98, owK 40 2 ((ν4 1).o 0) t5.1.length ((ν4 1).n 0) (t5.1.flatMap en_TInterval)), (99, owK 40 2 ((ν4 1).o 1) t5.2.length ((ν4 1).n 1) (t5.2.flatMap en_TInterval))] (by kernel_rfl)
  refine k_seq ?_
  refine k_seq ?_
  replace G := bnd G; obtain ⟨t13, ht13, G⟩ := G
  replace G := bnd G; obtain ⟨t14, ht14, G⟩ := G
  refine k_reg mixed H (.cons [31] (ok_val (fun ν12 => .bool t11) 31) <|
      .cons [32] (ok_val (fun ν12 => .slice ((ν4 1).o 1) t5.2.length ((ν4 1).n 1)) 32) <|
      .cons [33] (ok_val (fun ν12 => .slice ((ν4 1).o 0) t5.1.length ((ν4 1).n 0)) 33) <|
      .cons [34] (ok_val (fun ν12 => .int .i64 t7) 34) <|
      .cons [35] (ok_callL [99, 98] (fun ν12 => [owK 40 2 ((ν4 1).o 1) t5.2.length ((ν4 1).n 1) (t5.2.flatMap en_TInterval), owK 40 2 ((ν4 1).o 0) t5.1.length ((ν4 1).n 0) (t5.1.flatMap en_TInterval)]) 30 (fun ν12 => #[.slice ((ν4 1).o 1) t5.2.length ((ν4 1).n 1), .slice ((ν4 1).o 0) t5.1.length ((ν4 1).n 0), .int .i64 t7]) (.bool t13) 35 (fun ν12 w hF => box_Separated.calls t5.2 t5.1 t7 ((ν4 1).o 1) ((ν4 1).n 1) ((ν4 1).o 0) ((ν4 1).n 0) t13 w (owns_row (ow_of hF.1)) (owns_row (ow_of hF.2.1)) ht13)) <|
      .cons [36] (ok_val (fun ν12 => .bool (!(t11 == t13))) 36) <|
      .cons [37] (ok_val (fun ν12 => .bool (!(t11 == t13))) 37) <|
      .cons [38] (ok_valg (fun ν12 => .slice ((ν4 1).o 0) t5.1.length ((ν4 1).n 0)) (fun ν12 => ((!(t11 == t13)) == false)) [true] 38) <|
      .cons [39] (ok_valg (fun ν12 => .slice ((ν4 1).o 0) t5.1.length ((ν4 1).n 0)) (fun ν12 => ((!(t11 == t13)) == false)) [true] 39) <|
      .cons [40] (ok_valg (fun ν12 => .int .i64 t9) (fun ν12 => ((!(t11 == t13)) == false)) [true] 40) <|
      .cons [41] (ok_callLg [98, 98] (fun ν12 => [owK 40 2 ((ν4 1).o 0) t5.1.length ((ν4 1).n 0) (t5.1.flatMap en_TInterval), owK 40 2 ((ν4 1).o 0) t5.1.length ((ν4 1).n 0) (t5.1.flatMap en_TInterval)]) 30 (fun ν12 => #[.slice ((ν4 1).o 0) t5.1.length ((ν4 1).n 0), .slice ((ν4 1).o 0) t5.1.length ((ν4 1).n 0), .int .i64 t9]) (.bool t14) (fun ν12 => ((!(t11 == t13)) == false)) [true, false, false, false] 41 (fun ν12 w hg hF => box_Separated.calls t5.1 t5.1 t9 ((ν4 1).o 0) ((ν4 1).n 0) ((ν4 1).o 0) ((ν4 1).n 0) t14 w (owns_row (ow_of hF.1)) (owns_row (ow_of hF.2.1)) (ifp ht14 hg))) <|
      .cons [42] (ok_or 37 41 (fun ν12 => true) (fun ν12 => true) (fun ν12 => (!(t11 == t13))) (fun ν12 => t14) 42) <| .nil) (by kernel_rfl) fun ν12 a w' H => ?_
  replace H := H.toL [(3, .slot true (.pointer (some ⟨((ν1 0).n 0), 0, none⟩))), (6, .slot true (.bool false)), (7, .slot true (.bool t3)), (8, .slot true (.slice ((ν4 1).o 0) t5.1.length ((ν4 1).n 0))), (9, .slot true (.slice ((ν4 1).o 1) t5.2.length ((ν4 1).n 1))), (10, .slot true (.int .i64 t7)), (11, .slot true (.int .i64 t9)), (12, .slot true (.bool t11)), (42, .slot true (.bool ((!(t11 == t13)) || t14))), (97, .blk ((ν1 0).n 0) [.slice p_a0_A a0.A.length c_a0_A, .slice p_a0_B a0.B.length c_a0_B, .slice p_a0_C a0.C.length c_a0_C, .int .u8 a0.N, .slice p_a0_P_e0 a0.P.e0.length c_a0_P_e0, .slice p_a0_P_e1 a0.P.e1.length c_a0_P_e1] 26), (92, rdK 2 p_a0_A a0.A.length (a0.A.flatMap en_TInterval)), (93, rdK 2 p_a0_B a0.B.length (a0.B.flatMap en_TInterval)), (94, rdK 2 p_a0_C a0.C.length (a0.C.flatMap en_TInterval)), (95, rdK 1 p_a0_P_e0 a0.P.e0.length (a0.P.e0.flatMap en_u16)), (96, rdK 1 p_a0_P_e1 a0.P.e1.length (a0.P.e1.flatMap en_u16)), (98, owK 40 2 ((ν4 1).o 0) t5.1.length ((ν4 1).n 0) (t5.1.flatMap en_TInterval)), (99, owK 40 2 ((ν4 1).o 1) t5.2.length ((ν4 1).n 1) (t5.2.flatMap en_TInterval))] (by kernel_rfl)
  refine k_cond H (by kernel_rfl) (t := ((!(t11 == t13)) || t14)) (by kernel_rfl) (fun c31 => ?_) (fun c31 => ?_)
  · rw [if_pos c31] at G
    refine k_seq ?_
    refine k_reg mixed H (.cons [6] (ok_val (fun ν15 => .bool false) 6) <| .nil) (by kernel_rfl) fun ν15 a w' H => ?_
    replace H := H.toL [(3, .slot true (.pointer (some ⟨((ν1 0).n 0), 0, none⟩))), (6, .slot true (.bool false)), (7, .slot true (.bool t3)), (8, .slot true (.slice ((ν4 1).o 0) t5.1.length ((ν4 1).n 0))), (9, .slot true (.slice ((ν4 1).o 1) t5.2.length ((ν4 1).n 1))), (10, .slot true (.int .i64 t7)), (11, .slot true (.int .i64 t9)), (12, .slot true (.bool t11)), (97, .blk ((ν1 0).n 0) [.slice p_a0_A a0.A.length c_a0_A, .slice p_a0_B a0.B.length c_a0_B, .slice p_a0_C a0.C.length c_a0_C, .int .u8 a0.N, .slice p_a0_P_e0 a0.P.e0.length c_a0_P_e0, .slice p_a0_P_e1 a0.P.e1.length c_a0_P_e1] 26), (92, rdK 2 p_a0_A a0.A.length (a0.A.flatMap en_TInterval)), (93, rdK 2 p_a0_B a0.B.length (a0.B.flatMap en_TInterval)), (94, rdK 2 p_a0_C a0.C.length (a0.C.flatMap en_TInterval)), (95, rdK 1 p_a0_P_e0 a0.P.e0.length (a0.P.e0.flatMap en_u16)), (96, rdK 1 p_a0_P_e1 a0.P.e1.length (a0.P.e1.flatMap en_u16)), (98, owK 40 2 ((ν4 1).o 0) t5.1.length ((ν4 1).n 0) (t5.1.flatMap en_TInterval)), (99, owK 40 2 ((ν4 1).o 1) t5.2.length ((ν4 1).n 1) (t5.2.flatMap en_TInterval))] (by kernel_rfl)
    refine k_ret ?_
    obtain rfl := Option.some.inj G
    exact k_done0 H _ (by kernel_rfl) (by kernel_rfl)
  · rw [if_neg (nt c31)] at G
    refine k_skip ?_
    refine k_seq ?_
    refine k_seq ?_
    refine k_reg mixed H (.cons [43] (ok_val (fun ν16 => .bool t11) 43) <|
      .cons [44] (ok_val (fun ν16 => .bool (!t11)) 44) <| .nil) (by kernel_rfl) fun ν16 a w' H => ?_
    replace H := H.toL [(3, .slot true (.pointer (some ⟨((ν1 0).n 0), 0, none⟩))), (6, .slot true (.bool false)), (7, .slot true (.bool t3)), (8, .slot true (.slice ((ν4 1).o 0) t5.1.length ((ν4 1).n 0))), (9, .slot true (.slice ((ν4 1).o 1) t5.2.length ((ν4 1).n 1))), (10, .slot true (.int .i64 t7)), (11, .slot true (.int .i64 t9)), (44, .slot true (.bool (!t11))), (97, .blk ((ν1 0).n 0) [.slice p_a0_A a0.A.length c_a0_A, .slice p_a0_B a0.B.length c_a0_B, .slice p_a0_C a0.C.length c_a0_C, .int .u8 a0.N, .slice p_a0_P_e0 a0.P.e0.length c_a0_P_e0, .slice p_a0_P_e1 a0.P.e1.length c_a0_P_e1] 26), (92, rdK 2 p_a0_A a0.A.length (a0.A.flatMap en_TInterval)), (93, rdK 2 p_a0_B a0.B.length (a0.B.flatMap en_TInterval)), (94, rdK 2 p_a0_C a0.C.length (a0.C.flatMap en_TInterval)), (95, rdK 1 p_a0_P_e0 a0.P.e0.length (a0.P.e0.flatMap en_u16)), (96, rdK 1 p_a0_P_e1 a0.P.e1.length (a0.P.e1.flatMap en_u16)), (98, owK 40 2 ((ν4 1).o 0) t5.1.length ((ν4 1).n 0) (t5.1.flatMap en_TInterval)), (99, owK 40 2 ((ν4 1).o 1) t5.2.length ((ν4 1).n 1) (t5.2.flatMap en_TInterval))] (by kernel_rfl)
    refine k_cond H (by kernel_rfl) (t := (!t11)) (by kernel_rfl) (fun c30 => ?_) (fun c30 => ?_)
    · rw [if_pos c30] at G
      refine k_seq ?_
      refine k_reg mixed H (.cons [45] (ok_val (fun ν17 => .bool t3) 45) <|
      .cons [6] (ok_val (fun ν17 => .bool t3) 6) <| .nil) (by kernel_rfl) fun ν17 a w' H => ?_
      replace H := H.toL [(3, .slot true (.pointer (some ⟨((ν1 0).n 0), 0, none⟩))), (6, .slot true (.bool t3)), (7, .slot true (.bool t3)), (8, .slot true (.slice ((ν4 1).o 0) t5.1.length ((ν4 1).n 0))), (9, .slot true (.slice ((ν4 1).o 1) t5.2.length ((ν4 1).n 1))), (10, .slot true (.int .i64 t7)), (11, .slot true (.int .i64 t9)), (97, .blk ((ν1 0).n 0) [.slice p_a0_A a0.A.length c_a0_A, .slice p_a0_B a0.B.length c_a0_B, .slice p_a0_C a0.C.length c_a0_C, .int .u8 a0.N, .slice p_a0_P_e0 a0.P.e0.length c_a0_P_e0, .slice p_a0_P_e1 a0.P.e1.length c_a0_P_e1] 26), (92, rdK 2 p_a0_A a0.A.length (a0.A.flatMap en_TInterval)), (93, rdK 2 p_a0_B a0.B.length (a0.B.flatMap en_TInterval)), (94, rdK 2 p_a0_C a0.C.length (a0.C.flatMap en_TInterval)), (95, rdK 1 p_a0_P_e0 a0.P.e0.length (a0.P.e0.flatMap en_u16)), (96, rdK 1 p_a0_P_e1 a0.P.e1.length (a0.P.e1.flatMap en_u16)), (98, owK 40 2 ((ν4 1).o 0) t5.1.length ((ν4 1).n 0) (t5.1.flatMap en_TInterval)), (99, owK 40 2 ((ν4 1).o 1) t5.2.length ((ν4 1).n 1) (t5.2.flatMap en_TInterval))] (by kernel_rfl)
      refine k_ret ?_
      obtain rfl := Option.some.inj G
      exact k_done0 H _ (by kernel_rfl) (by kernel_rfl)
    · rw [if_neg (nt c30)] at G
      refine k_skip ?_
      refine k_seq ?_
      replace G := bnd G; obtain ⟨t19, ht19, G⟩ := G
      refine k_reg mixed H (.cons [47] (ok_val (fun ν18 => .slice ((ν4 1).o 0) t5.1.length ((ν4 1).n 0)) 47) <|
      .cons [48] (ok_val (fun ν18 => .slice ((ν4 1).o 1) t5.2.length ((ν4 1).n 1)) 48) <|
      .cons [49, 100] (ok_callRL [98, 99] (fun ν18 => [owK 40 2 ((ν4 1).o 0) t5.1.length ((ν4 1).n 0) (t5.1.flatMap en_TInterval), owK 40 2 ((ν4 1).o 1) t5.2.length ((ν4 1).n 1) (t5.2.flatMap en_TInterval)]) 14 (fun ν18 => #[.slice ((ν4 1).o 0) t5.1.length ((ν4 1).n 0), .slice ((ν4 1).o 1) t5.2.length ((ν4 1).n 1)]) (fun p cap => .tuple #[.slice p t19.1.length cap, .bool t19.2]) 40 2 t19.1.length (t19.1.flatMap en_TInterval) 49 100 (fun ν18 w hF => box_Intersect.calls t5.1 t5.2 ((ν4 1).o 0) ((ν4 1).n 0) ((ν4 1).o 1) ((ν4 1).n 1) t19 w (owns_row (ow_of hF.1)) (owns_row (ow_of hF.2.1)) ht19)) <|
      .cons [46] (ok_val (fun ν18 => .tuple #[.slice ((ν18 2).o 0) t19.1.length ((ν18 2).n 0), .bool t19.2]) 46) <|
      .cons [50] (ok_val (fun ν18 => .slice ((ν18 2).o 0) t19.1.length ((ν18 2).n 0)) 50) <|
      .cons [51] (ok_val (fun ν18 => .bool t19.2) 51) <|
      .cons [13] (ok_val (fun ν18 => .slice ((ν18 2).o 0) t19.1.length ((ν18 2).n 0)) 13) <|
      .cons [14] (ok_val (fun ν18 => .bool t19.2) 14) <| .nil) (by kernel_rfl) fun ν18 a w' H => ?_
      replace H := H.toL [(3, .slot true (.pointer (some ⟨((ν1 0).n 0), 0, none⟩))), (6, .slot true (.bool false)), (7, .slot true (.bool t3)), (8, .slot true (.slice ((ν4 1).o 0) t5.1.length ((ν4 1).n 0))), (9, .slot true (.slice ((ν4 1).o 1) t5.2.length ((ν4 1).n 1))), (10, .slot true (.int .i64 t7)), (11, .slot true (.int .i64 t9)), (14, .slot true (.bool t19.2)), (97, .blk ((ν1 0).n 0) [.slice p_a0_A a0.A.length c_a0_A, .slice p_a0_B a0.B.length c_a0_B, .slice p_a0_C a0.C.length c_a0_C, .int .u8 a0.N, .slice p_a0_P_e0 a0.P.e0.length c_a0_P_e0, .slice p_a0_P_e1 a0.P.e1.length c_a0_P_e1] 26), (92, rdK 2 p_a0_A a0.A.length (a0.A.flatMap en_TInterval)), (93, rdK 2 p_a0_B a0.B.length (a0.B.flatMap en_TInterval)), (94, rdK 2 p_a0_C a0.C.length (a0.C.flatMap en_TInterval)), (95, rdK 1 p_a0_P_e0 a0.P.e0.length (a0.P.e0.flatMap en_u16)), (96, rdK 1 p_a0_P_e1 a0.P.e1.length (a0.P.e1.flatMap en_u16)), (98, owK 40 2 ((ν4 1).o 0) t5.1.length ((ν4 1).n 0) (t5.1.flatMap en_TInterval)), (99, owK 40 2 ((ν4 1).o 1) t5.2.length ((ν4 1).n 1) (t5.2.flatMap en_TInterval))] (by kernel_rfl)
      refine k_seq ?_
      replace G := bnd G; obtain ⟨t21, ht21, G⟩ := G
      replace G := bnd G; obtain ⟨t22, ht22, G⟩ := G
      refine k_reg mixed H (.cons [52] (ok_val (fun ν20 => .slice ((ν4 1).o 0) t5.1.length ((ν4 1).n 0)) 52) <|
      .cons [53] (ok_val (fun ν20 => .pointer (some ⟨((ν1 0).n 0), 4, none⟩)) 53) <|
      .cons [54] (ok_val (fun ν20 => .pointer (some ⟨((ν1 0).n 0), 4, none⟩)) 54) <|
      .cons [55] (ok_ld (fun ν20 => .slice p_a0_P_e0 a0.P.e0.length c_a0_P_e0) 55 97 4 1 (fun ν20 => ((ν1 0).n 0)) (fun ν20 => [.slice p_a0_A a0.A.length c_a0_A, .slice p_a0_B a0.B.length c_a0_B, .slice p_a0_C a0.C.length c_a0_C, .int .u8 a0.N, .slice p_a0_P_e0 a0.P.e0.length c_a0_P_e0, .slice p_a0_P_e1 a0.P.e1.length c_a0_P_e1]) 26) <|
      .cons [56, 101] (ok_callRL [98, 95] (fun ν20 => [owK 40 2 ((ν4 1).o 0) t5.1.length ((ν4 1).n 0) (t5.1.flatMap en_TInterval), rdK 1 p_a0_P_e0 a0.P.e0.length (a0.P.e0.flatMap en_u16)]) 16 (fun ν20 => #[.slice ((ν4 1).o 0) t5.1.length ((ν4 1).n 0), .slice p_a0_P_e0 a0.P.e0.length c_a0_P_e0]) (fun p cap => .slice p t21.length cap) 2 1 t21.length (t21.flatMap en_i64) 56 101 (fun ν20 w hF => armillaryref03_PointIn.calls k0 t5.1 a0.P.e0 ((ν4 1).o 0) ((ν4 1).n 0) p_a0_P_e0 c_a0_P_e0 t21 w (owns_row (ow_of hF.1)) (rd_of hF.2.1) ht21)) <|
      .cons [57, 102] (ok_callRL [101] (fun ν20 => [owK 2 1 ((ν20 4).o 0) t21.length ((ν20 4).n 0) (t21.flatMap en_i64)]) 34 (fun ν20 => #[.slice ((ν20 4).o 0) t21.length ((ν20 4).n 0)]) (fun p cap => .slice p t22.length cap) 40 2 t22.length (t22.flatMap en_TInterval) 57 102 (fun ν20 w hF => box_Point.calls k0 t21 ((ν20 4).o 0) ((ν20 4).n 0) t22 w (owns_row (ow_of hF.1)) ht22)) <|
      .cons [15] (ok_val (fun ν20 => .slice ((ν20 5).o 0) t22.length ((ν20 5).n 0)) 15) <| .nil) (by kernel_rfl) fun ν20 a w' H => ?_
      replace H := H.toL [(3, .slot true (.pointer (some ⟨((ν1 0).n 0), 0, none⟩))), (6, .slot true (.bool false)), (7, .slot true (.bool t3)), (8, .slot true (.slice ((ν4 1).o 0) t5.1.length ((ν4 1).n 0))), (9, .slot true (.slice ((ν4 1).o 1) t5.2.length ((ν4 1).n 1))), (10, .slot true (.int .i64 t7)), (11, .slot true (.int .i64 t9)), (14, .slot true (.bool t19.2)), (15, .slot true (.slice ((ν20 5).o 0) t22.length ((ν20 5).n 0))), (97, .blk ((ν1 0).n 0) [.slice p_a0_A a0.A.length c_a0_A, .slice p_a0_B a0.B.length c_a0_B, .slice p_a0_C a0.C.length c_a0_C, .int .u8 a0.N, .slice p_a0_P_e0 a0.P.e0.length c_a0_P_e0, .slice p_a0_P_e1 a0.P.e1.length c_a0_P_e1] 26), (92, rdK 2 p_a0_A a0.A.length (a0.A.flatMap en_TInterval)), (93, rdK 2 p_a0_B a0.B.length (a0.B.flatMap en_TInterval)), (94, rdK 2 p_a0_C a0.C.length (a0.C.flatMap en_TInterval)), (95, rdK 1 p_a0_P_e0 a0.P.e0.length (a0.P.e0.flatMap en_u16)), (96, rdK 1 p_a0_P_e1 a0.P.e1.length (a0.P.e1.flatMap en_u16)), (98, owK 40 2 ((ν4 1).o 0) t5.1.length ((ν4 1).n 0) (t5.1.flatMap en_TInterval)), (99, owK 40 2 ((ν4 1).o 1) t5.2.length ((ν4 1).n 1) (t5.2.flatMap en_TInterval)), (102, owK 40 2 ((ν20 5).o 0) t22.length ((ν20 5).n 0) (t22.flatMap en_TInterval))] (by kernel_rfl)
      refine k_seq ?_
      replace G := bnd G; obtain ⟨t24, ht24, G⟩ := G
      replace G := bnd G; obtain ⟨t25, ht25, G⟩ := G
      refine k_reg mixed H (.cons [58] (ok_val (fun ν23 => .slice ((ν4 1).o 1) t5.2.length ((ν4 1).n 1)) 58) <|
      .cons [59] (ok_val (fun ν23 => .pointer (some ⟨((ν1 0).n 0), 4, none⟩)) 59) <|
      .cons [60] (ok_val (fun ν23 => .pointer (some ⟨((ν1 0).n 0), 5, none⟩)) 60) <|
      .cons [61] (ok_ld (fun ν23 => .slice p_a0_P_e1 a0.P.e1.length c_a0_P_e1) 61 97 5 1 (fun ν23 => ((ν1 0).n 0)) (fun ν23 => [.slice p_a0_A a0.A.length c_a0_A, .slice p_a0_B a0.B.length c_a0_B, .slice p_a0_C a0.C.length c_a0_C, .int .u8 a0.N, .slice p_a0_P_e0 a0.P.e0.length c_a0_P_e0, .slice p_a0_P_e1 a0.P.e1.length c_a0_P_e1]) 26) <|
      .cons [62, 103] (ok_callRL [99, 96] (fun ν23 => [owK 40 2 ((ν4 1).o 1) t5.2.length ((ν4 1).n 1) (t5.2.flatMap en_TInterval), rdK 1 p_a0_P_e1 a0.P.e1.length (a0.P.e1.flatMap en_u16)]) 16 (fun ν23 => #[.slice ((ν4 1).o 1) t5.2.length ((ν4 1).n 1), .slice p_a0_P_e1 a0.P.e1.length c_a0_P_e1]) (fun p cap => .slice p t24.length cap) 2 1 t24.length (t24.flatMap en_i64) 62 103 (fun ν23 w hF => armillaryref03_PointIn.calls k0 t5.2 a0.P.e1 ((ν4 1).o 1) ((ν4 1).n 1) p_a0_P_e1 c_a0_P_e1 t24 w (owns_row (ow_of hF.1)) (rd_of hF.2.1) ht24)) <|
      .cons [63, 104] (ok_callRL [103] (fun ν23 => [owK 2 1 ((ν23 4).o 0) t24.length ((ν23 4).n 0) (t24.flatMap en_i64)]) 34 (fun ν23 => #[.slice ((ν23 4).o 0) t24.length ((ν23 4).n 0)]) (fun p cap => .slice p t25.length cap) 40 2 t25.length (t25.flatMap en_TInterval) 63 104 (fun ν23 w hF => box_Point.calls k0 t24 ((ν23 4).o 0) ((ν23 4).n 0) t25 w (owns_row (ow_of hF.1)) ht25)) <|
      .cons [16] (ok_val (fun ν23 => .slice ((ν23 5).o 0) t25.length ((ν23 5).n 0)) 16) <| .nil) (by kernel_rfl) fun ν23 a w' H => ?_
      replace H := H.toL [(6, .slot true (.bool false)), (7, .slot true (.bool t3)), (8, .slot true (.slice ((ν4 1).o 0) t5.1.length ((ν4 1).n 0))), (9, .slot true (.slice ((ν4 1).o 1) t5.2.length ((ν4 1).n 1))), (10, .slot true (.int .i64 t7)), (11, .slot true (.int .i64 t9)), (14, .slot true (.bool t19.2)), (15, .slot true (.slice ((ν20 5).o 0) t22.length ((ν20 5).n 0))), (16, .slot true (.slice ((ν23 5).o 0) t25.length ((ν23 5).n 0))), (98, owK 40 2 ((ν4 1).o 0) t5.1.length ((ν4 1).n 0) (t5.1.flatMap en_TInterval)), (99, owK 40 2 ((ν4 1).o 1) t5.2.length ((ν4 1).n 1) (t5.2.flatMap en_TInterval)), (102, owK 40 2 ((ν20 5).o 0) t22.length ((ν20 5).n 0) (t22.flatMap en_TInterval)), (104, owK 40 2 ((ν23 5).o 0) t25.length ((ν23 5).n 0) (t25.flatMap en_TInterval))] (by kernel_rfl)
      refine k_seq ?_
      replace G := bnd G; obtain ⟨t27, ht27, G⟩ := G
      replace G := bnd G; obtain ⟨t28, ht28, G⟩ := G
      replace G := bnd G; obtain ⟨t29, ht29, G⟩ := G
      refine k_reg mixed H (.cons [64] (ok_val (fun ν26 => .bool t3) 64) <|
      .cons [65] (ok_val (fun ν26 => .bool t3) 65) <|
      .cons [66] (ok_valg (fun ν26 => .bool t19.2) (fun ν26 => (t3 == true)) [true] 66) <|
      .cons [67] (ok_valg (fun ν26 => .bool (!t19.2)) (fun ν26 => (t3 == true)) [false] 67) <|
      .cons [68] (ok_and 65 67 (fun ν26 => true) (fun ν26 => true) (fun ν26 => t3) (fun ν26 => (!t19.2)) 68) <|
      .cons [69] (ok_val (fun ν26 => .bool (t3 && (!t19.2))) 69) <|
      .cons [70] (ok_valg (fun ν26 => .slice ((ν20 5).o 0) t22.length ((ν20 5).n 0)) (fun ν26 => ((t3 && (!t19.2)) == true)) [true] 70) <|
      .cons [71] (ok_valg (fun ν26 => .slice ((ν23 5).o 0) t25.length ((ν23 5).n 0)) (fun ν26 => ((t3 && (!t19.2)) == true)) [true] 71) <|
      .cons [72] (ok_valg (fun ν26 => .int .i64 t7) (fun ν26 => ((t3 && (!t19.2)) == true)) [true] 72) <|
      .cons [73] (ok_callLg [102, 104] (fun ν26 => [owK 40 2 ((ν20 5).o 0) t22.length ((ν20 5).n 0) (t22.flatMap en_TInterval), owK 40 2 ((ν23 5).o 0) t25.length ((ν23 5).n 0) (t25.flatMap en_TInterval)]) 30 (fun ν26 => #[.slice ((ν20 5).o 0) t22.length ((ν20 5).n 0), .slice ((ν23 5).o 0) t25.length ((ν23 5).n 0), .int .i64 t7]) (.bool t27) (fun ν26 => ((t3 && (!t19.2)) == true)) [true, false, false, false] 73 (fun ν26 w hg hF => box_Separated.calls t22 t25 t7 ((ν20 5).o 0) ((ν20 5).n 0) ((ν23 5).o 0) ((ν23 5).n 0) t27 w (owns_row (ow_of hF.1)) (owns_row (ow_of hF.2.1)) (ifp ht27 hg))) <|
      .cons [74] (ok_and 69 73 (fun ν26 => true) (fun ν26 => true) (fun ν26 => (t3 && (!t19.2))) (fun ν26 => t27) 74) <|
      .cons [75] (ok_val (fun ν26 => .bool ((t3 && (!t19.2)) && t27)) 75) <|
      .cons [76] (ok_valg (fun ν26 => .int .i64 t9) (fun ν26 => (((t3 && (!t19.2)) && t27) == true)) [true] 76) <|
      .cons [77] (ok_valg (fun ν26 => .int .i64 t7) (fun ν26 => (((t3 && (!t19.2)) && t27) == true)) [true] 77) <|
      .cons [78] (ok_valg (fun ν26 => .bool (decide (t9 > t7))) (fun ν26 => (((t3 && (!t19.2)) && t27) == true)) [false, false] 78) <|
      .cons [79] (ok_valg (fun ν26 => .bool (decide (t9 > t7))) (fun ν26 => (((t3 && (!t19.2)) && t27) == true)) [false] 79) <|
      .cons [80] (ok_valg (fun ν26 => .slice ((ν4 1).o 0) t5.1.length ((ν4 1).n 0)) (fun ν26 => ((((t3 && (!t19.2)) && t27) == true) && ((decide (t9 > t7)) == false))) [true] 80) <|
      .cons [81] (ok_valg (fun ν26 => .slice ((ν4 1).o 1) t5.2.length ((ν4 1).n 1)) (fun ν26 => ((((t3 && (!t19.2)) && t27) == true) && ((decide (t9 > t7)) == false))) [true] 81) <|
      .cons [82] (ok_valg (fun ν26 => .int .i64 t9) (fun ν26 => ((((t3 && (!t19.2)) && t27) == true) && ((decide (t9 > t7)) == false))) [true] 82) <|
      .cons [83] (ok_callLg [98, 99] (fun ν26 => [owK 40 2 ((ν4 1).o 0) t5.1.length ((ν4 1).n 0) (t5.1.flatMap en_TInterval), owK 40 2 ((ν4 1).o 1) t5.2.length ((ν4 1).n 1) (t5.2.flatMap en_TInterval)]) 30 (fun ν26 => #[.slice ((ν4 1).o 0) t5.1.length ((ν4 1).n 0), .slice ((ν4 1).o 1) t5.2.length ((ν4 1).n 1), .int .i64 t9]) (.bool t28) (fun ν26 => ((((t3 && (!t19.2)) && t27) == true) && ((decide (t9 > t7)) == false))) [true, false, false, false] 83 (fun ν26 w hg hF => box_Separated.calls t5.1 t5.2 t9 ((ν4 1).o 0) ((ν4 1).n 0) ((ν4 1).o 1) ((ν4 1).n 1) t28 w (owns_row (ow_of hF.1)) (owns_row (ow_of hF.2.1)) (ifp ht28 hg))) <|
      .cons [84] (ok_or 79 83 (fun ν26 => (((t3 && (!t19.2)) && t27) == true)) (fun ν26 => (((t3 && (!t19.2)) && t27) == true)) (fun ν26 => decide (t9 > t7)) (fun ν26 => t28) 84) <|
      .cons [85] (ok_and 75 84 (fun ν26 => true) (fun ν26 => true) (fun ν26 => ((t3 && (!t19.2)) && t27)) (fun ν26 => ((decide (t9 > t7)) || t28)) 85) <|
      .cons [86] (ok_val (fun ν26 => .bool (((t3 && (!t19.2)) && t27) && ((decide (t9 > t7)) || t28))) 86) <|
      .cons [87] (ok_valg (fun ν26 => .slice ((ν20 5).o 0) t22.length ((ν20 5).n 0)) (fun ν26 => ((((t3 && (!t19.2)) && t27) && ((decide (t9 > t7)) || t28)) == true)) [true] 87) <|
      .cons [88] (ok_valg (fun ν26 => .slice ((ν4 1).o 1) t5.2.length ((ν4 1).n 1)) (fun ν26 => ((((t3 && (!t19.2)) && t27) && ((decide (t9 > t7)) || t28)) == true)) [true] 88) <|
      .cons [89] (ok_callLg [102, 99] (fun ν26 => [owK 40 2 ((ν20 5).o 0) t22.length ((ν20 5).n 0) (t22.flatMap en_TInterval), owK 40 2 ((ν4 1).o 1) t5.2.length ((ν4 1).n 1) (t5.2.flatMap en_TInterval)]) 23 (fun ν26 => #[.slice ((ν20 5).o 0) t22.length ((ν20 5).n 0), .slice ((ν4 1).o 1) t5.2.length ((ν4 1).n 1)]) (.bool t29) (fun ν26 => ((((t3 && (!t19.2)) && t27) && ((decide (t9 > t7)) || t28)) == true)) [true, false, false] 89 (fun ν26 w hg hF => box_Subset.calls t22 t5.2 ((ν20 5).o 0) ((ν20 5).n 0) ((ν4 1).o 1) ((ν4 1).n 1) t29 w (owns_row (ow_of hF.1)) (owns_row (ow_of hF.2.1)) (ifp ht29 hg))) <|
      .cons [90] (ok_valg (fun ν26 => .bool (!t29)) (fun ν26 => ((((t3 && (!t19.2)) && t27) && ((decide (t9 > t7)) || t28)) == true)) [false] 90) <|
      .cons [91] (ok_and 86 90 (fun ν26 => true) (fun ν26 => true) (fun ν26 => (((t3 && (!t19.2)) && t27) && ((decide (t9 > t7)) || t28))) (fun ν26 => (!t29)) 91) <|
      .cons [6] (ok_val (fun ν26 => .bool ((((t3 && (!t19.2)) && t27) && ((decide (t9 > t7)) || t28)) && (!t29))) 6) <| .nil) (by kernel_rfl) fun ν26 a w' H => ?_
      replace H := H.toL [(6, .slot true (.bool ((((t3 && (!t19.2)) && t27) && ((decide (t9 > t7)) || t28)) && (!t29))))] (by kernel_rfl)
      refine k_ret ?_
      obtain rfl := Option.some.inj G
      exact k_done0 H _ (by kernel_rfl) (by kernel_rfl)

end Go.Proofs.Ytgccinodonkgjaa
