/- The law BoxBisectionCovers answers as the plain Lean function of its name. Printed by a program of this session. -/
import Derived.Test.YtgccinodonkgjaaFn2
set_option linter.unusedVariables false
set_option maxRecDepth 100000
namespace Go.Proofs.Ytgccinodonkgjaa
open Go Go.RowKit Go.Sx Go.Proofs
set_option maxHeartbeats 4000000 in
theorem armillarylaw03_BoxBisectionCovers.calls (k0 : Nat) (a0 : TInput) (p_a0_A : Option Addr) (c_a0_A : Nat) (p_a0_B : Option Addr) (c_a0_B : Nat) (p_a0_C : Option Addr) (c_a0_C : Nat) (p_a0_P_e0 : Option Addr) (c_a0_P_e0 : Nat) (p_a0_P_e1 : Option Addr) (c_a0_P_e1 : Nat) (r : Bool) (w : World) (R_p_a0_A : RowAt w 2 p_a0_A a0.A.length (a0.A.flatMap en_TInterval)) (R_p_a0_B : RowAt w 2 p_a0_B a0.B.length (a0.B.flatMap en_TInterval)) (R_p_a0_C : RowAt w 2 p_a0_C a0.C.length (a0.C.flatMap en_TInterval)) (R_p_a0_P_e0 : RowAt w 1 p_a0_P_e0 a0.P.e0.length (a0.P.e0.flatMap en_u16)) (R_p_a0_P_e1 : RowAt w 1 p_a0_P_e1 a0.P.e1.length (a0.P.e1.flatMap en_u16)) (G : armillarylaw03_BoxBisectionCovers k0 a0 = some r) :
    Calls Try.prog 8 #[.agg #[.slice p_a0_A a0.A.length c_a0_A, .slice p_a0_B a0.B.length c_a0_B, .slice p_a0_C a0.C.length c_a0_C, .int .u8 a0.N, .slice p_a0_P_e0 a0.P.e0.length c_a0_P_e0, .slice p_a0_P_e1 a0.P.e1.length c_a0_P_e1]] w fun e w' => e = .returned (.bool r) ∧ Below w.heap.size w w' := by
  refine k_enterF (args := [.agg #[.slice p_a0_A a0.A.length c_a0_A, .slice p_a0_B a0.B.length c_a0_B, .slice p_a0_C a0.C.length c_a0_C, .int .u8 a0.N, .slice p_a0_P_e0 a0.P.e0.length c_a0_P_e0, .slice p_a0_P_e1 a0.P.e1.length c_a0_P_e1]]) 150 [(150, rdK 2 p_a0_A a0.A.length (a0.A.flatMap en_TInterval)), (151, rdK 2 p_a0_B a0.B.length (a0.B.flatMap en_TInterval)), (152, rdK 2 p_a0_C a0.C.length (a0.C.flatMap en_TInterval)), (153, rdK 1 p_a0_P_e0 a0.P.e0.length (a0.P.e0.flatMap en_u16)), (154, rdK 1 p_a0_P_e1 a0.P.e1.length (a0.P.e1.flatMap en_u16))] (by
    intro x hx
    simp only [List.mem_cons, List.not_mem_nil, or_false] at hx
    rcases hx with rfl | rfl | rfl | rfl | rfl
    · exact rd_fact R_p_a0_A (by decide) _
    · exact rd_fact R_p_a0_B (by decide) _
    · exact rd_fact R_p_a0_C (by decide) _
    · exact rd_fact R_p_a0_P_e0 (by decide) _
    · exact rd_fact R_p_a0_P_e1 (by decide) _) Try.func8 rfl (by kernel_rfl) (by kernel_rfl) fun a H => ?_
  unfold armillarylaw03_BoxBisectionCovers at G
  refine k_seq ?_
  refine k_reg mixed H (.cons [1, 155] (ok_new (fun b => .pointer (some ⟨b, 0, none⟩)) (fun ν1 => [.slice p_a0_A a0.A.length c_a0_A, .slice p_a0_B a0.B.length c_a0_B, .slice p_a0_C a0.C.length c_a0_C, .int .u8 a0.N, .slice p_a0_P_e0 a0.P.e0.length c_a0_P_e0, .slice p_a0_P_e1 a0.P.e1.length c_a0_P_e1]) 26 1 155) <|
      .cons [2] (ok_val (fun ν1 => .bool false) 2) <| .nil) (by kernel_rfl) fun ν1 a w' H => ?_
  replace H := H.toL [(1, .slot true (.pointer (some ⟨((ν1 0).n 0), 0, none⟩))), (2, .slot true (.bool false)), (155, .blk ((ν1 0).n 0) [.slice p_a0_A a0.A.length c_a0_A, .slice p_a0_B a0.B.length c_a0_B, .slice p_a0_C a0.C.length c_a0_C, .int .u8 a0.N, .slice p_a0_P_e0 a0.P.e0.length c_a0_P_e0, .slice p_a0_P_e1 a0.P.e1.length c_a0_P_e1] 26), (150, rdK 2 p_a0_A a0.A.length (a0.A.flatMap en_TInterval)), (151, rdK 2 p_a0_B a0.B.length (a0.B.flatMap en_TInterval)), (152, rdK 2 p_a0_C a0.C.length (a0.C.flatMap en_TInterval)), (153, rdK 1 p_a0_P_e0 a0.P.e0.length (a0.P.e0.flatMap en_u16)), (154, rdK 1 p_a0_P_e1 a0.P.e1.length (a0.P.e1.flatMap en_u16))] (by kernel_rfl)
  refine k_seq ?_
  replace G := bnd G; obtain ⟨t3, ht3, G⟩ := G
  refine k_reg mixed H (.cons [13] (ok_callv 12 (fun ν2 => #[]) (.bool t3) 13 [] (fun _ w _ => armillarylaw03_sanity.calls k0 t3 w ht3)) <|
      .cons [3] (ok_val (fun ν2 => .bool t3) 3) <| .nil) (by kernel_rfl) fun ν2 a w' H => ?_
  replace H := H.toL [(1, .slot true (.pointer (some ⟨((ν1 0).n 0), 0, none⟩))), (2, .slot true (.bool false)), (3, .slot true (.bool t3)), (155, .blk ((ν1 0).n 0) [.slice p_a0_A a0.A.length c_a0_A, .slice p_a0_B a0.B.length c_a0_B, .slice p_a0_C a0.C.length c_a0_C, .int .u8 a0.N, .slice p_a0_P_e0 a0.P.e0.length c_a0_P_e0, .slice p_a0_P_e1 a0.P.e1.length c_a0_P_e1] 26), (150, rdK 2 p_a0_A a0.A.length (a0.A.flatMap en_TInterval)), (151, rdK 2 p_a0_B a0.B.length (a0.B.flatMap en_TInterval)), (152, rdK 2 p_a0_C a0.C.length (a0.C.flatMap en_TInterval)), (153, rdK 1 p_a0_P_e0 a0.P.e0.length (a0.P.e0.flatMap en_u16)), (154, rdK 1 p_a0_P_e1 a0.P.e1.length (a0.P.e1.flatMap en_u16))] (by kernel_rfl)
  refine k_seq ?_
  replace G := bnd G; obtain ⟨t5, ht5, G⟩ := G
  refine k_reg mixed H (.cons [15] (ok_ld (fun ν4 => .agg #[.slice p_a0_A a0.A.length c_a0_A, .slice p_a0_B a0.B.length c_a0_B, .slice p_a0_C a0.C.length c_a0_C, .int .u8 a0.N, .slice p_a0_P_e0 a0.P.e0.length c_a0_P_e0, .slice p_a0_P_e1 a0.P.e1.length c_a0_P_e1]) 15 155 0 6 (fun ν4 => ((ν1 0).n 0)) (fun ν4 => [.slice p_a0_A a0.A.length c_a0_A, .slice p_a0_B a0.B.length c_a0_B, .slice p_a0_C a0.C.length c_a0_C, .int .u8 a0.N, .slice p_a0_P_e0 a0.P.e0.length c_a0_P_e0, .slice p_a0_P_e1 a0.P.e1.length c_a0_P_e1]) 26) <|
      .cons [16, 156, 157] (ok_callRL2 [150, 151, 152, 153, 154] (fun ν4 => [rdK 2 p_a0_A a0.A.length (a0.A.flatMap en_TInterval), rdK 2 p_a0_B a0.B.length (a0.B.flatMap en_TInterval), rdK 2 p_a0_C a0.C.length (a0.C.flatMap en_TInterval), rdK 1 p_a0_P_e0 a0.P.e0.length (a0.P.e0.flatMap en_u16), rdK 1 p_a0_P_e1 a0.P.e1.length (a0.P.e1.flatMap en_u16)]) 13 (fun ν4 => #[.agg #[.slice p_a0_A a0.A.length c_a0_A, .slice p_a0_B a0.B.length c_a0_B, .slice p_a0_C a0.C.length c_a0_C, .int .u8 a0.N, .slice p_a0_P_e0 a0.P.e0.length c_a0_P_e0, .slice p_a0_P_e1 a0.P.e1.length c_a0_P_e1]]) (fun p cap p2 cap2 => .tuple #[.slice p t5.1.length cap, .slice p2 t5.2.length cap2]) 40 2 t5.1.length (t5.1.flatMap en_TInterval) 40 2 t5.2.length (t5.2.flatMap en_TInterval) 16 156 157 (fun ν4 w hF => armillarylaw03_boxes.calls k0 (⟨a0.A, a0.B, a0.C, a0.N, (⟨a0.P.e0, a0.P.e1⟩ : TA2_List_Int)⟩ : TInput) p_a0_A c_a0_A p_a0_B c_a0_B p_a0_C c_a0_C p_a0_P_e0 c_a0_P_e0 p_a0_P_e1 c_a0_P_e1 t5 w (rd_of hF.1) (rd_of hF.2.1) (rd_of hF.2.2.1) (rd_of hF.2.2.2.1) (rd_of hF.2.2.2.2.1) ht5)) <|
      .cons [14] (ok_val (fun ν4 => .tuple #[.slice ((ν4 1).o 0) t5.1.length ((ν4 1).n 0), .slice ((ν4 1).o 1) t5.2.length ((ν4 1).n 1)]) 14) <|
      .cons [17] (ok_val (fun ν4 => .slice ((ν4 1).o 0) t5.1.length ((ν4 1).n 0)) 17) <|
      .cons [18] (ok_val (fun ν4 => .slice ((ν4 1).o 1) t5.2.length ((ν4 1).n 1)) 18) <|
      .cons [4] (ok_val (fun ν4 => .slice ((ν4 1).o 0) t5.1.length ((ν4 1).n 0)) 4) <|
      .cons [5] (ok_val (fun ν4 => .slice ((ν4 1).o 1) t5.2.length ((ν4 1).n 1)) 5) <| .nil) (by kernel_rfl) fun ν4 a w' H => ?_
  replace H := H.toL [(1, .slot true (.pointer (some ⟨((ν1 0).n 0), 0, none⟩))), (2, .slot true (.bool false)), (3, .slot true (.bool t3)), (4, .slot true (.slice ((ν4 1).o 0) t5.1.length ((ν4 1).n 0))), (155, .blk ((ν1 0).n 0) [.slice p_a0_A a0.A.length c_a0_A, .slice p_a0_B a0.B.length c_a0_B, .slice p_a0_C a0.C.length c_a0_C, .int .u8 a0.N, .slice p_a0_P_e0 a0.P.e0.length c_a0_P_e0, .slice p_a0_P_e1 a0.P.e1.length c_a0_P_e1] 26), (150, rdK 2 p_a0_A a0.A.length (a0.A.flatMap en_TInterval)), (151, rdK 2 p_a0_B a0.B.length (a0.B.flatMap en_TInterval)), (152, rdK 2 p_a0_C a0.C.length (a0.C.flatMap en_TInterval)), (153, rdK 1 p_a0_P_e0 a0.P.e0.length (a0.P.e0.flatMap en_u16)), (154, rdK 1 p_a0_P_e1 a0.P.e1.length (a0.P.e1.flatMap en_u16)), (156, owK 40 2 ((ν4 1).o 0) t5.1.length ((ν4 1).n 0) (t5.1.flatMap en_TInterval))] (by kernel_rfl)
  refine k_seq ?_
  replace G := bnd G; obtain ⟨t7, ht7, G⟩ := G
  refine k_reg mixed H (.cons [19] (ok_val (fun ν6 => .slice ((ν4 1).o 0) t5.1.length ((ν4 1).n 0)) 19) <|
      .cons [20] (ok_val (fun ν6 => .pointer (some ⟨((ν1 0).n 0), 4, none⟩)) 20) <|
      .cons [21] (ok_val (fun ν6 => .pointer (some ⟨((ν1 0).n 0), 4, none⟩)) 21) <|
      .cons [22] (ok_ld (fun ν6 => .slice p_a0_P_e0 a0.P.e0.length c_a0_P_e0) 22 155 4 1 (fun ν6 => ((ν1 0).n 0)) (fun ν6 => [.slice p_a0_A a0.A.length c_a0_A, .slice p_a0_B a0.B.length c_a0_B, .slice p_a0_C a0.C.length c_a0_C, .int .u8 a0.N, .slice p_a0_P_e0 a0.P.e0.length c_a0_P_e0, .slice p_a0_P_e1 a0.P.e1.length c_a0_P_e1]) 26) <|
      .cons [23, 158] (ok_callRL [156, 153] (fun ν6 => [owK 40 2 ((ν4 1).o 0) t5.1.length ((ν4 1).n 0) (t5.1.flatMap en_TInterval), rdK 1 p_a0_P_e0 a0.P.e0.length (a0.P.e0.flatMap en_u16)]) 16 (fun ν6 => #[.slice ((ν4 1).o 0) t5.1.length ((ν4 1).n 0), .slice p_a0_P_e0 a0.P.e0.length c_a0_P_e0]) (fun p cap => .slice p t7.length cap) 2 1 t7.length (t7.flatMap en_i64) 23 158 (fun ν6 w hF => armillaryref03_PointIn.calls k0 t5.1 a0.P.e0 ((ν4 1).o 0) ((ν4 1).n 0) p_a0_P_e0 c_a0_P_e0 t7 w (owns_row (ow_of hF.1)) (rd_of hF.2.1) ht7)) <|
      .cons [6] (ok_val (fun ν6 => .slice ((ν6 4).o 0) t7.length ((ν6 4).n 0)) 6) <| .nil) (by kernel_rfl) fun ν6 a w' H => ?_
  replace H := H.toL [(2, .slot true (.bool false)), (3, .slot true (.bool t3)), (4, .slot true (.slice ((ν4 1).o 0) t5.1.length ((ν4 1).n 0))), (6, .slot true (.slice ((ν6 4).o 0) t7.length ((ν6 4).n 0))), (156, owK 40 2 ((ν4 1).o 0) t5.1.length ((ν4 1).n 0) (t5.1.flatMap en_TInterval)), (158, owK 2 1 ((ν6 4).o 0) t7.length ((ν6 4).n 0) (t7.flatMap en_i64))] (by kernel_rfl)
  refine k_seq ?_
  replace G := bnd G; obtain ⟨t9, ht9, G⟩ := G
  refine k_reg mixed H (.cons [24] (ok_val (fun ν8 => .slice ((ν4 1).o 0) t5.1.length ((ν4 1).n 0)) 24) <|
      .cons [25] (ok_callL [156] (fun ν8 => [owK 40 2 ((ν4 1).o 0) t5.1.length ((ν4 1).n 0) (t5.1.flatMap en_TInterval)]) 42 (fun ν8 => #[.slice ((ν4 1).o 0) t5.1.length ((ν4 1).n 0)]) (.int .i64 t9) 25 (fun ν8 w hF => box_WidestAxis.calls k0 t5.1 ((ν4 1).o 0) ((ν4 1).n 0) t9 w (owns_row (ow_of hF.1)) ht9)) <|
      .cons [7] (ok_val (fun ν8 => .int .i64 t9) 7) <| .nil) (by kernel_rfl) fun ν8 a w' H => ?_
  replace H := H.toL [(2, .slot true (.bool false)), (3, .slot true (.bool t3)), (4, .slot true (.slice ((ν4 1).o 0) t5.1.length ((ν4 1).n 0))), (6, .slot true (.slice ((ν6 4).o 0) t7.length ((ν6 4).n 0))), (7, .slot true (.int .i64 t9)), (156, owK 40 2 ((ν4 1).o 0) t5.1.length ((ν4 1).n 0) (t5.1.flatMap en_TInterval)), (158, owK 2 1 ((ν6 4).o 0) t7.length ((ν6 4).n 0) (t7.flatMap en_i64))] (by kernel_rfl)
  refine k_seq ?_
  replace G := bnd G; obtain ⟨t11, ht11, G⟩ := G
  refine k_reg mixed H (.cons [27] (ok_val (fun ν10 => .slice ((ν4 1).o 0) t5.1.length ((ν4 1).n 0)) 27) <|
      .cons [28] (ok_val (fun ν10 => .int .i64 t9) 28) <|
      .cons [29, 159, 160] (ok_callRL2 [156] (fun ν10 => [owK 40 2 ((ν4 1).o 0) t5.1.length ((ν4 1).n 0) (t5.1.flatMap en_TInterval)]) 36 (fun ν10 => #[.slice ((ν4 1).o 0) t5.1.length ((ν4 1).n 0), .int .i64 t9]) (fun p cap p2 cap2 => .tuple #[.slice p t11.1.length cap, .slice p2 t11.2.1.length cap2, .int .i64 t11.2.2]) 40 2 t11.1.length (t11.1.flatMap en_TInterval) 40 2 t11.2.1.length (t11.2.1.flatMap en_TInterval) 29 159 160 (fun ν10 w hF => box_Bisect.calls t5.1 t9 ((ν4 1).o 0) ((ν4 1).n 0) t11 w (owns_row (ow_of hF.1)) ht11)) <|
      .cons [26] (ok_val (fun ν10 => .tuple #[.slice ((ν10 2).o 0) t11.1.length ((ν10 2).n 0), .slice ((ν10 2).o 1) t11.2.1.length ((ν10 2).n 1), .int .i64 t11.2.2]) 26) <|
      .cons [30] (ok_val (fun ν10 => .slice ((ν10 2).o 0) t11.1.length ((ν10 2).n 0)) 30) <|
      .cons [31] (ok_val (fun ν10 => .slice ((ν10 2).o 1) t11.2.1.length ((ν10 2).n 1)) 31) <|
      .cons [32] (ok_val (fun ν10 => .int .i64 t11.2.2) 32) <|
      .cons [8] (ok_val (fun ν10 => .slice ((ν10 2).o 0) t11.1.length ((ν10 2).n 0)) 8) <|
      .cons [9] (ok_val (fun ν10 => .slice ((ν10 2).o 1) t11.2.1.length ((ν10 2).n 1)) 9) <|
      .cons [10] (ok_val (fun ν10 => .int .i64 t11.2.2) 10) <| .nil) (by kernel_rfl) fun ν10 a w' H => ?_
  replace H := H.toL [(2, .slot true (.bool false)), (3, .slot true (.bool t3)), (4, .slot true (.slice ((ν4 1).o 0) t5.1.length ((ν4 1).n 0))), (6, .slot true (.slice ((ν6 4).o 0) t7.length ((ν6 4).n 0))), (7, .slot true (.int .i64 t9)), (8, .slot true (.slice ((ν10 2).o 0) t11.1.length ((ν10 2).n 0))), (9, .slot true (.slice ((ν10 2).o 1) t11.2.1.length ((ν10 2).n 1))), (10, .slot true (.int .i64 t11.2.2)), (156, owK 40 2 ((ν4 1).o 0) t5.1.length ((ν4 1).n 0) (t5.1.flatMap en_TInterval)), (158, owK 2 1 ((ν6 4).o 0) t7.length ((ν6 4).n 0) (t7.flatMap en_i64)), (159, owK 40 2 ((ν10 2).o 0) t11.1.length ((ν10 2).n 0) (t11.1.flatMap en_TInterval)), (160, owK 40 2 ((ν10 2).o 1) t11.2.1.length ((ν10 2).n 1) (t11.2.1.flatMap en_TInterval))] (by kernel_rfl)
  refine k_seq ?_
  refine k_seq ?_
  refine k_reg mixed H (.cons [33] (ok_val (fun ν12 => .int .i64 t9) 33) <|
      .cons [34] (ok_val (fun ν12 => .bool (decide (t9 < 0))) 34) <|
      .cons [35] (ok_val (fun ν12 => .bool (decide (t9 < 0))) 35) <|
      .cons [36] (ok_valg (fun ν12 => .int .i64 t9) (fun ν12 => ((decide (t9 < 0)) == false)) [true] 36) <|
      .cons [37] (ok_valg (fun ν12 => .slice ((ν4 1).o 0) t5.1.length ((ν4 1).n 0)) (fun ν12 => ((decide (t9 < 0)) == false)) [true] 37) <|
      .cons [38] (ok_valg (fun ν12 => .int .i64 (t5.1.length : Int)) (fun ν12 => ((decide (t9 < 0)) == false)) [false] 38) <|
      .cons [39] (ok_valg (fun ν12 => .bool (decide (t9 ≥ (t5.1.length : Int)))) (fun ν12 => ((decide (t9 < 0)) == false)) [false, false] 39) <|
      .cons [40] (ok_or 35 39 (fun ν12 => true) (fun ν12 => true) (fun ν12 => decide (t9 < 0)) (fun ν12 => decide (t9 ≥ (t5.1.length : Int))) 40) <| .nil) (by kernel_rfl) fun ν12 a w' H => ?_
  replace H := H.toL [(2, .slot true (.bool false)), (3, .slot true (.bool t3)), (4, .slot true (.slice ((ν4 1).o 0) t5.1.length ((ν4 1).n 0))), (6, .slot true (.slice ((ν6 4).o 0) t7.length ((ν6 4).n 0))), (7, .slot true (.int .i64 t9)), (8, .slot true (.slice ((ν10 2).o 0) t11.1.length ((ν10 2).n 0))), (9, .slot true (.slice ((ν10 2).o 1) t11.2.1.length ((ν10 2).n 1))), (10, .slot true (.int .i64 t11.2.2)), (40, .slot true (.bool ((decide (t9 < 0)) || (decide (t9 ≥ (t5.1.length : Int)))))), (156, owK 40 2 ((ν4 1).o 0) t5.1.length ((ν4 1).n 0) (t5.1.flatMap en_TInterval)), (158, owK 2 1 ((ν6 4).o 0) t7.length ((ν6 4).n 0) (t7.flatMap en_i64)), (159, owK 40 2 ((ν10 2).o 0) t11.1.length ((ν10 2).n 0) (t11.1.flatMap en_TInterval)), (160, owK 40 2 ((ν10 2).o 1) t11.2.1.length ((ν10 2).n 1) (t11.2.1.flatMap en_TInterval))] (by kernel_rfl)
  refine k_cond H (by kernel_rfl) (t := ((decide (t9 < 0)) || (decide (t9 ≥ (t5.1.length : Int))))) (by kernel_rfl) (fun c59 => ?_) (fun c59 => ?_)
  · rw [if_pos c59] at G
    refine k_seq ?_
    refine k_reg mixed H (.cons [2] (ok_val (fun ν13 => .bool false) 2) <| .nil) (by kernel_rfl) fun ν13 a w' H => ?_
    replace H := H.toL [(2, .slot true (.bool false)), (3, .slot true (.bool t3)), (4, .slot true (.slice ((ν4 1).o 0) t5.1.length ((ν4 1).n 0))), (6, .slot true (.slice ((ν6 4).o 0) t7.length ((ν6 4).n 0))), (7, .slot true (.int .i64 t9)), (8, .slot true (.slice ((ν10 2).o 0) t11.1.length ((ν10 2).n 0))), (9, .slot true (.slice ((ν10 2).o 1) t11.2.1.length ((ν10 2).n 1))), (10, .slot true (.int .i64 t11.2.2)), (156, owK 40 2 ((ν4 1).o 0) t5.1.length ((ν4 1).n 0) (t5.1.flatMap en_TInterval)), (158, owK 2 1 ((ν6 4).o 0) t7.length ((ν6 4).n 0) (t7.flatMap en_i64)), (159, owK 40 2 ((ν10 2).o 0) t11.1.length ((ν10 2).n 0) (t11.1.flatMap en_TInterval)), (160, owK 40 2 ((ν10 2).o 1) t11.2.1.length ((ν10 2).n 1) (t11.2.1.flatMap en_TInterval))] (by kernel_rfl)
    refine k_ret ?_
    obtain rfl := Option.some.inj G
    exact k_done0 H _ (by kernel_rfl) (by kernel_rfl)
  · rw [if_neg (nt c59)] at G
    refine k_skip ?_
    refine k_seq ?_
    refine k_seq ?_
    replace G := gd G; obtain ⟨b15, G⟩ := G
    replace G := bnd G; obtain ⟨t16, ht16, G⟩ := G
    replace G := bnd G; obtain ⟨t17, ht17, G⟩ := G
    refine k_reg mixed H (.cons [41] (ok_val (fun ν14 => .slice ((ν4 1).o 0) t5.1.length ((ν4 1).n 0)) 41) <|
      .cons [42] (ok_val (fun ν14 => .int .i64 t9) 42) <|
      .cons [43] (ok_valL [156] (fun ν14 => [owK 40 2 ((ν4 1).o 0) t5.1.length ((ν4 1).n 0) (t5.1.flatMap en_TInterval)]) (fun ν14 => .pointer (some ⟨hdB ((ν4 1).o 0), hdO ((ν4 1).o 0) + t9.toNat * 2, none⟩)) (fun ν14 => true) [true, true] 43 (fun ν14 w hg hF => run_of (by kernel_rfl) (run_ix (t := 22) (p := ((ν4 1).o 0)) (n := t5.1.length) (cap := ((ν4 1).n 0)) (k := .i64) (i := t9) (sz := 2) (by kernel_rfl) (by kernel_rfl) (owns_row (ow_of hF.1)) b15))) <|
      .cons [44] (ok_valL [156] (fun ν14 => [owK 40 2 ((ν4 1).o 0) t5.1.length ((ν4 1).n 0) (t5.1.flatMap en_TInterval)]) (fun ν14 => .agg #[.int .i64 t16.Lo, .int .i64 t16.Hi]) (fun ν14 => true) [true] 44 (fun ν14 w hg hF => ld_of (vs := [.int .i64 t16.Lo, .int .i64 t16.Hi]) (b := hdB ((ν4 1).o 0)) (off := hdO ((ν4 1).o 0) + t9.toNat * 2 + 0) (m := 2) (by kernel_rfl) (el_cells (owns_row (ow_of hF.1)) en_TInterval_len ht16 0 2 rfl))) <|
      .cons [45] (ok_callv 45 (fun ν14 => #[.agg #[.int .i64 t16.Lo, .int .i64 t16.Hi]]) (.bool t17) 45 [] (fun _ w _ => armillaryref02_IsEntire.calls t16 t17 w ht17)) <| .nil) (by kernel_rfl) fun ν14 a w' H => ?_
    replace H := H.toL [(2, .slot true (.bool false)), (3, .slot true (.bool t3)), (4, .slot true (.slice ((ν4 1).o 0) t5.1.length ((ν4 1).n 0))), (6, .slot true (.slice ((ν6 4).o 0) t7.length ((ν6 4).n 0))), (7, .slot true (.int .i64 t9)), (8, .slot true (.slice ((ν10 2).o 0) t11.1.length ((ν10 2).n 0))), (9, .slot true (.slice ((ν10 2).o 1) t11.2.1.length ((ν10 2).n 1))), (10, .slot true (.int .i64 t11.2.2)), (45, .slot true (.bool t17)), (156, owK 40 2 ((ν4 1).o 0) t5.1.length ((ν4 1).n 0) (t5.1.flatMap en_TInterval)), (158, owK 2 1 ((ν6 4).o 0) t7.length ((ν6 4).n 0) (t7.flatMap en_i64)), (159, owK 40 2 ((ν10 2).o 0) t11.1.length ((ν10 2).n 0) (t11.1.flatMap en_TInterval)), (160, owK 40 2 ((ν10 2).o 1) t11.2.1.length ((ν10 2).n 1) (t11.2.1.flatMap en_TInterval))] (by kernel_rfl)
    refine k_cond H (by kernel_rfl) (t := t17) (by kernel_rfl) (fun c58 => ?_) (fun c58 => ?_)
    · rw [if_pos c58] at G
      refine k_seq ?_
      refine k_reg mixed H (.cons [46] (ok_val (fun ν18 => .bool t3) 46) <|
      .cons [47] (ok_val (fun ν18 => .bool t3) 47) <|
      .cons [48] (ok_valg (fun ν18 => .int .i64 t11.2.2) (fun ν18 => (t3 == true)) [true] 48) <|
      .cons [49] (ok_valg (fun ν18 => .bool (t11.2.2 == 1)) (fun ν18 => (t3 == true)) [false, true] 49) <|
      .cons [50] (ok_and 47 49 (fun ν18 => true) (fun ν18 => true) (fun ν18 => t3) (fun ν18 => (t11.2.2 == 1)) 50) <|
      .cons [2] (ok_val (fun ν18 => .bool (t3 && (t11.2.2 == 1))) 2) <| .nil) (by kernel_rfl) fun ν18 a w' H => ?_
      replace H := H.toL [(2, .slot true (.bool (t3 && (t11.2.2 == 1)))), (3, .slot true (.bool t3)), (4, .slot true (.slice ((ν4 1).o 0) t5.1.length ((ν4 1).n 0))), (6, .slot true (.slice ((ν6 4).o 0) t7.length ((ν6 4).n 0))), (7, .slot true (.int .i64 t9)), (8, .slot true (.slice ((ν10 2).o 0) t11.1.length ((ν10 2).n 0))), (9, .slot true (.slice ((ν10 2).o 1) t11.2.1.length ((ν10 2).n 1))), (10, .slot true (.int .i64 t11.2.2)), (156, owK 40 2 ((ν4 1).o 0) t5.1.length ((ν4 1).n 0) (t5.1.flatMap en_TInterval)), (158, owK 2 1 ((ν6 4).o 0) t7.length ((ν6 4).n 0) (t7.flatMap en_i64)), (159, owK 40 2 ((ν10 2).o 0) t11.1.length ((ν10 2).n 0) (t11.1.flatMap en_TInterval)), (160, owK 40 2 ((ν10 2).o 1) t11.2.1.length ((ν10 2).n 1) (t11.2.1.flatMap en_TInterval))] (by kernel_rfl)
      refine k_ret ?_
      obtain rfl := Option.some.inj G
      exact k_done0 H _ (by kernel_rfl) (by kernel_rfl)
    · rw [if_neg (nt c58)] at G
      refine k_skip ?_
      refine k_seq ?_
      refine k_seq ?_
      replace G := bnd G; obtain ⟨z20, hz20, G⟩ := G
      replace hz20 := Option.some.inj hz20
      replace G := bnd G; obtain ⟨z21, hz21, G⟩ := G
      replace hz21 := Option.some.inj hz21
      by_cases c56 : z21 = true
      · rw [if_pos c56] at G; subst c56
        refine k_reg mixed H (.cons [51] (ok_val (fun ν19 => .int .i64 t11.2.2) 51) <|
      .cons [52] (ok_val (fun ν19 => .bool (t11.2.2 != 0)) 52) <|
      .cons [53] (ok_val (fun ν19 => .bool (t11.2.2 != 0)) 53) <|
      .cons [54] (ok_valg (fun ν19 => .slice ((ν10 2).o 0) t11.1.length ((ν10 2).n 0)) (fun ν19 => ((t11.2.2 != 0) == false)) [true] 54) <|
      .cons [55] (ok_valg (fun ν19 => .int .i64 (t11.1.length : Int)) (fun ν19 => ((t11.2.2 != 0) == false)) [false] 55) <|
      .cons [56] (ok_valg (fun ν19 => .slice ((ν4 1).o 0) t5.1.length ((ν4 1).n 0)) (fun ν19 => ((t11.2.2 != 0) == false)) [true] 56) <|
      .cons [57] (ok_valg (fun ν19 => .int .i64 (t5.1.length : Int)) (fun ν19 => ((t11.2.2 != 0) == false)) [false] 57) <|
      .cons [58] (ok_valg (fun ν19 => .bool ((t11.1.length : Int) != (t5.1.length : Int))) (fun ν19 => ((t11.2.2 != 0) == false)) [false, false] 58) <|
      .cons [59] (ok_or 53 58 (fun ν19 => true) (fun ν19 => true) (fun ν19 => (t11.2.2 != 0)) (fun ν19 => ((t11.1.length : Int) != (t5.1.length : Int))) 59) <|
      .cons [60] (ok_val (fun ν19 => .bool ((t11.2.2 != 0) || ((t11.1.length : Int) != (t5.1.length : Int)))) 60) <|
      .cons [61] (ok_valg (fun ν19 => .slice ((ν10 2).o 1) t11.2.1.length ((ν10 2).n 1)) (fun ν19 => (((t11.2.2 != 0) || ((t11.1.length : Int) != (t5.1.length : Int))) == false)) [true] 61) <|
      .cons [62] (ok_valg (fun ν19 => .int .i64 (t11.2.1.length : Int)) (fun ν19 => (((t11.2.2 != 0) || ((t11.1.length : Int) != (t5.1.length : Int))) == false)) [false] 62) <|
      .cons [63] (ok_valg (fun ν19 => .slice ((ν4 1).o 0) t5.1.length ((ν4 1).n 0)) (fun ν19 => (((t11.2.2 != 0) || ((t11.1.length : Int) != (t5.1.length : Int))) == false)) [true] 63) <|
      .cons [64] (ok_valg (fun ν19 => .int .i64 (t5.1.length : Int)) (fun ν19 => (((t11.2.2 != 0) || ((t11.1.length : Int) != (t5.1.length : Int))) == false)) [false] 64) <|
      .cons [65] (ok_valg (fun ν19 => .bool ((t11.2.1.length : Int) != (t5.1.length : Int))) (fun ν19 => (((t11.2.2 != 0) || ((t11.1.length : Int) != (t5.1.length : Int))) == false)) [false, false] 65) <|
      .cons [66] (ok_or 60 65 (fun ν19 => true) (fun ν19 => true) (fun ν19 => ((t11.2.2 != 0) || ((t11.1.length : Int) != (t5.1.length : Int)))) (fun ν19 => ((t11.2.1.length : Int) != (t5.1.length : Int))) 66) <|
      .cons [67] (ok_as (u' := fun ν19 => [(67, .slot true (.bool true))]) (ok_as (u' := fun ν19 => [(67, .slot true (.bool z20))]) (ok_val (fun ν19 => .bool (((t11.2.2 != 0) || ((t11.1.length : Int) != (t5.1.length : Int))) || ((t11.2.1.length : Int) != (t5.1.length : Int)))) 67) (fun _ => by rw [← hz20])) (fun _ => by rw [hz21])) <|
      .cons [68] (ok_offB 68) <|
      .cons [69] (ok_offB 69) <|
      .cons [70] (ok_offB 70) <|
      .cons [71] (ok_offB 71) <|
      .cons [72] (ok_offB 72) <|
      .cons [73] (ok_offB 73) <|
      .cons [74] (ok_pickK (fun ν19 => .bool true) 74) <|
      .cons [75] (ok_val (fun ν19 => .bool true) 75) <|
      .cons [76] (ok_offB 76) <|
      .cons [77] (ok_offB 77) <|
      .cons [78] (ok_offB 78) <|
      .cons [79] (ok_offB 79) <|
      .cons [80] (ok_offB 80) <|
      .cons [81] (ok_offB 81) <|
      .cons [82] (ok_offB 82) <|
      .cons [83] (ok_offB 83) <|
      .cons [84] (ok_offB 84) <|
      .cons [85] (ok_pickK (fun ν19 => .bool true) 85) <| .nil) (by kernel_rfl) fun ν19 a w' H => ?_
        replace H := H.toL [(2, .slot true (.bool false)), (3, .slot true (.bool t3)), (4, .slot true (.slice ((ν4 1).o 0) t5.1.length ((ν4 1).n 0))), (7, .slot true (.int .i64 t9)), (8, .slot true (.slice ((ν10 2).o 0) t11.1.length ((ν10 2).n 0))), (9, .slot true (.slice ((ν10 2).o 1) t11.2.1.length ((ν10 2).n 1))), (85, .slot true (.bool true)), (156, owK 40 2 ((ν4 1).o 0) t5.1.length ((ν4 1).n 0) (t5.1.flatMap en_TInterval)), (159, owK 40 2 ((ν10 2).o 0) t11.1.length ((ν10 2).n 0) (t11.1.flatMap en_TInterval)), (160, owK 40 2 ((ν10 2).o 1) t11.2.1.length ((ν10 2).n 1) (t11.2.1.flatMap en_TInterval))] (by kernel_rfl)
        refine k_cond_true H (by kernel_rfl) (by kernel_rfl) ?_
        refine k_seq ?_
        refine k_reg mixed H (.cons [2] (ok_val (fun ν22 => .bool false) 2) <| .nil) (by kernel_rfl) fun ν22 a w' H => ?_
        replace H := H.toL [(2, .slot true (.bool false)), (3, .slot true (.bool t3)), (4, .slot true (.slice ((ν4 1).o 0) t5.1.length ((ν4 1).n 0))), (7, .slot true (.int .i64 t9)), (8, .slot true (.slice ((ν10 2).o 0) t11.1.length ((ν10 2).n 0))), (9, .slot true (.slice ((ν10 2).o 1) t11.2.1.length ((ν10 2).n 1))), (156, owK 40 2 ((ν4 1).o 0) t5.1.length ((ν4 1).n 0) (t5.1.flatMap en_TInterval)), (159, owK 40 2 ((ν10 2).o 0) t11.1.length ((ν10 2).n 0) (t11.1.flatMap en_TInterval)), (160, owK 40 2 ((ν10 2).o 1) t11.2.1.length ((ν10 2).n 1) (t11.2.1.flatMap en_TInterval))] (by kernel_rfl)
        refine k_ret ?_
        obtain rfl := Option.some.inj G
        exact k_done0 H _ (by kernel_rfl) (by kernel_rfl)
      rw [if_neg c56] at G
      by_cases c57 : z21 = false
      · rw [if_pos c57] at G; subst c57
        replace G := bnd G; obtain ⟨t22, ht22, G⟩ := G
        replace G := bnd G; obtain ⟨t23, ht23, G⟩ := G
        replace G := bnd G; obtain ⟨t24, ht24, G⟩ := G
        replace G := bnd G; obtain ⟨t25, ht25, G⟩ := G
        refine k_reg mixed H (.cons [51] (ok_val (fun ν19 => .int .i64 t11.2.2) 51) <|
      .cons [52] (ok_val (fun ν19 => .bool (t11.2.2 != 0)) 52) <|
      .cons [53] (ok_val (fun ν19 => .bool (t11.2.2 != 0)) 53) <|
      .cons [54] (ok_valg (fun ν19 => .slice ((ν10 2).o 0) t11.1.length ((ν10 2).n 0)) (fun ν19 => ((t11.2.2 != 0) == false)) [true] 54) <|
      .cons [55] (ok_valg (fun ν19 => .int .i64 (t11.1.length : Int)) (fun ν19 => ((t11.2.2 != 0) == false)) [false] 55) <|
      .cons [56] (ok_valg (fun ν19 => .slice ((ν4 1).o 0) t5.1.length ((ν4 1).n 0)) (fun ν19 => ((t11.2.2 != 0) == false)) [true] 56) <|
      .cons [57] (ok_valg (fun ν19 => .int .i64 (t5.1.length : Int)) (fun ν19 => ((t11.2.2 != 0) == false)) [false] 57) <|
      .cons [58] (ok_valg (fun ν19 => .bool ((t11.1.length : Int) != (t5.1.length : Int))) (fun ν19 => ((t11.2.2 != 0) == false)) [false, false] 58) <|
      .cons [59] (ok_or 53 58 (fun ν19 => true) (fun ν19 => true) (fun ν19 => (t11.2.2 != 0)) (fun ν19 => ((t11.1.length : Int) != (t5.1.length : Int))) 59) <|
      .cons [60] (ok_val (fun ν19 => .bool ((t11.2.2 != 0) || ((t11.1.length : Int) != (t5.1.length : Int)))) 60) <|
      .cons [61] (ok_valg (fun ν19 => .slice ((ν10 2).o 1) t11.2.1.length ((ν10 2).n 1)) (fun ν19 => (((t11.2.2 != 0) || ((t11.1.length : Int) != (t5.1.length : Int))) == false)) [true] 61) <|
      .cons [62] (ok_valg (fun ν19 => .int .i64 (t11.2.1.length : Int)) (fun ν19 => (((t11.2.2 != 0) || ((t11.1.length : Int) != (t5.1.length : Int))) == false)) [false] 62) <|
      .cons [63] (ok_valg (fun ν19 => .slice ((ν4 1).o 0) t5.1.length ((ν4 1).n 0)) (fun ν19 => (((t11.2.2 != 0) || ((t11.1.length : Int) != (t5.1.length : Int))) == false)) [true] 63) <|
      .cons [64] (ok_valg (fun ν19 => .int .i64 (t5.1.length : Int)) (fun ν19 => (((t11.2.2 != 0) || ((t11.1.length : Int) != (t5.1.length : Int))) == false)) [false] 64) <|
      .cons [65] (ok_valg (fun ν19 => .bool ((t11.2.1.length : Int) != (t5.1.length : Int))) (fun ν19 => (((t11.2.2 != 0) || ((t11.1.length : Int) != (t5.1.length : Int))) == false)) [false, false] 65) <|
      .cons [66] (ok_or 60 65 (fun ν19 => true) (fun ν19 => true) (fun ν19 => ((t11.2.2 != 0) || ((t11.1.length : Int) != (t5.1.length : Int)))) (fun ν19 => ((t11.2.1.length : Int) != (t5.1.length : Int))) 66) <|
      .cons [67] (ok_as (u' := fun ν19 => [(67, .slot true (.bool false))]) (ok_as (u' := fun ν19 => [(67, .slot true (.bool z20))]) (ok_val (fun ν19 => .bool (((t11.2.2 != 0) || ((t11.1.length : Int) != (t5.1.length : Int))) || ((t11.2.1.length : Int) != (t5.1.length : Int)))) 67) (fun _ => by rw [← hz20])) (fun _ => by rw [hz21])) <|
      .cons [68] (ok_gd (ok_val (fun ν19 => .slice ((ν10 2).o 0) t11.1.length ((ν10 2).n 0)) 68) (by intro _; kernel_rfl)) <|
      .cons [69] (ok_gd (ok_val (fun ν19 => .slice ((ν10 2).o 1) t11.2.1.length ((ν10 2).n 1)) 69) (by intro _; kernel_rfl)) <|
      .cons [70, 161] (ok_gd (ok_callRL [159, 160] (fun ν19 => [owK 40 2 ((ν10 2).o 0) t11.1.length ((ν10 2).n 0) (t11.1.flatMap en_TInterval), owK 40 2 ((ν10 2).o 1) t11.2.1.length ((ν10 2).n 1) (t11.2.1.flatMap en_TInterval)]) 26 (fun ν19 => #[.slice ((ν10 2).o 0) t11.1.length ((ν10 2).n 0), .slice ((ν10 2).o 1) t11.2.1.length ((ν10 2).n 1)]) (fun p cap => .slice p t22.length cap) 40 2 t22.length (t22.flatMap en_TInterval) 70 161 (fun ν19 w hF => box_Hull.calls t11.1 t11.2.1 ((ν10 2).o 0) ((ν10 2).n 0) ((ν10 2).o 1) ((ν10 2).n 1) t22 w (owns_row (ow_of hF.1)) (owns_row (ow_of hF.2.1)) ht22)) (by intro _; kernel_rfl)) <|
      .cons [71] (ok_gd (ok_val (fun ν19 => .slice ((ν4 1).o 0) t5.1.length ((ν4 1).n 0)) 71) (by intro _; kernel_rfl)) <|
      .cons [72] (ok_gd (ok_callL [161, 156] (fun ν19 => [owK 40 2 ((ν19 19).o 0) t22.length ((ν19 19).n 0) (t22.flatMap en_TInterval), owK 40 2 ((ν4 1).o 0) t5.1.length ((ν4 1).n 0) (t5.1.flatMap en_TInterval)]) 20 (fun ν19 => #[.slice ((ν19 19).o 0) t22.length ((ν19 19).n 0), .slice ((ν4 1).o 0) t5.1.length ((ν4 1).n 0)]) (.bool t23) 72 (fun ν19 w hF => armillaryref03_Same.calls k0 t22 t5.1 ((ν19 19).o 0) ((ν19 19).n 0) ((ν4 1).o 0) ((ν4 1).n 0) t23 w (owns_row (ow_of hF.1)) (owns_row (ow_of hF.2.1)) ht23)) (by intro _; kernel_rfl)) <|
      .cons [73] (ok_gd (ok_val (fun ν19 => .bool (!t23)) 73) (by intro _; kernel_rfl)) <|
      .cons [74] (ok_pickK (fun ν19 => .bool (!t23)) 74) <|
      .cons [75] (ok_val (fun ν19 => .bool (!t23)) 75) <|
      .cons [76] (ok_valg (fun ν19 => .slice ((ν10 2).o 0) t11.1.length ((ν10 2).n 0)) (fun ν19 => ((!t23) == false)) [true] 76) <|
      .cons [77] (ok_valg (fun ν19 => .slice ((ν6 4).o 0) t7.length ((ν6 4).n 0)) (fun ν19 => ((!t23) == false)) [true] 77) <|
      .cons [78] (ok_callLg [159, 158] (fun ν19 => [owK 40 2 ((ν10 2).o 0) t11.1.length ((ν10 2).n 0) (t11.1.flatMap en_TInterval), owK 2 1 ((ν6 4).o 0) t7.length ((ν6 4).n 0) (t7.flatMap en_i64)]) 21 (fun ν19 => #[.slice ((ν10 2).o 0) t11.1.length ((ν10 2).n 0), .slice ((ν6 4).o 0) t7.length ((ν6 4).n 0)]) (.bool t24) (fun ν19 => ((!t23) == false)) [true, false, false] 78 (fun ν19 w hg hF => box_Contains.calls k0 t11.1 t7 ((ν10 2).o 0) ((ν10 2).n 0) ((ν6 4).o 0) ((ν6 4).n 0) t24 w (owns_row (ow_of hF.1)) (owns_row (ow_of hF.2.1)) (ifp ht24 hg))) <|
      .cons [79] (ok_valg (fun ν19 => .bool t24) (fun ν19 => ((!t23) == false)) [false] 79) <|
      .cons [80] (ok_valg (fun ν19 => .slice ((ν10 2).o 1) t11.2.1.length ((ν10 2).n 1)) (fun ν19 => (((!t23) == false) && (t24 == false))) [true] 80) <|
      .cons [81] (ok_valg (fun ν19 => .slice ((ν6 4).o 0) t7.length ((ν6 4).n 0)) (fun ν19 => (((!t23) == false) && (t24 == false))) [true] 81) <|
      .cons [82] (ok_callLg [160, 158] (fun ν19 => [owK 40 2 ((ν10 2).o 1) t11.2.1.length ((ν10 2).n 1) (t11.2.1.flatMap en_TInterval), owK 2 1 ((ν6 4).o 0) t7.length ((ν6 4).n 0) (t7.flatMap en_i64)]) 21 (fun ν19 => #[.slice ((ν10 2).o 1) t11.2.1.length ((ν10 2).n 1), .slice ((ν6 4).o 0) t7.length ((ν6 4).n 0)]) (.bool t25) (fun ν19 => (((!t23) == false) && (t24 == false))) [true, false, false] 82 (fun ν19 w hg hF => box_Contains.calls k0 t11.2.1 t7 ((ν10 2).o 1) ((ν10 2).n 1) ((ν6 4).o 0) ((ν6 4).n 0) t25 w (owns_row (ow_of hF.1)) (owns_row (ow_of hF.2.1)) (ifp ht25 hg))) <|
      .cons [83] (ok_or 79 82 (fun ν19 => ((!t23) == false)) (fun ν19 => ((!t23) == false)) (fun ν19 => t24) (fun ν19 => t25) 83) <|
      .cons [84] (ok_valg (fun ν19 => .bool (!(t24 || t25))) (fun ν19 => ((!t23) == false)) [false] 84) <|
      .cons [85] (ok_or 75 84 (fun ν19 => true) (fun ν19 => true) (fun ν19 => (!t23)) (fun ν19 => (!(t24 || t25))) 85) <| .nil) (by kernel_rfl) fun ν19 a w' H => ?_
        replace H := H.toL [(2, .slot true (.bool false)), (3, .slot true (.bool t3)), (4, .slot true (.slice ((ν4 1).o 0) t5.1.length ((ν4 1).n 0))), (7, .slot true (.int .i64 t9)), (8, .slot true (.slice ((ν10 2).o 0) t11.1.length ((ν10 2).n 0))), (9, .slot true (.slice ((ν10 2).o 1) t11.2.1.length ((ν10 2).n 1))), (85, .slot true (.bool ((!t23) || (!(t24 || t25))))), (156, owK 40 2 ((ν4 1).o 0) t5.1.length ((ν4 1).n 0) (t5.1.flatMap en_TInterval)), (159, owK 40 2 ((ν10 2).o 0) t11.1.length ((ν10 2).n 0) (t11.1.flatMap en_TInterval)), (160, owK 40 2 ((ν10 2).o 1) t11.2.1.length ((ν10 2).n 1) (t11.2.1.flatMap en_TInterval))] (by kernel_rfl)
        refine k_cond H (by kernel_rfl) (t := ((!t23) || (!(t24 || t25)))) (by kernel_rfl) (fun c55 => ?_) (fun c55 => ?_)
        · rw [if_pos c55] at G
          refine k_seq ?_
          refine k_reg mixed H (.cons [2] (ok_val (fun ν26 => .bool false) 2) <| .nil) (by kernel_rfl) fun ν26 a w' H => ?_
          replace H := H.toL [(2, .slot true (.bool false)), (3, .slot true (.bool t3)), (4, .slot true (.slice ((ν4 1).o 0) t5.1.length ((ν4 1).n 0))), (7, .slot true (.int .i64 t9)), (8, .slot true (.slice ((ν10 2).o 0) t11.1.length ((ν10 2).n 0))), (9, .slot true (.slice ((ν10 2).o 1) t11.2.1.length ((ν10 2).n 1))), (156, owK 40 2 ((ν4 1).o 0) t5.1.length ((ν4 1).n 0) (t5.1.flatMap en_TInterval)), (159, owK 40 2 ((ν10 2).o 0) t11.1.length ((ν10 2).n 0) (t11.1.flatMap en_TInterval)), (160, owK 40 2 ((ν10 2).o 1) t11.2.1.length ((ν10 2).n 1) (t11.2.1.flatMap en_TInterval))] (by kernel_rfl)
          refine k_ret ?_
          obtain rfl := Option.some.inj G
          exact k_done0 H _ (by kernel_rfl) (by kernel_rfl)
        · rw [if_neg (nt c55)] at G
          refine k_skip ?_
          refine k_seq ?_
          replace G := bnd G; obtain ⟨t28, ht28, G⟩ := G
          refine k_reg mixed H (.cons [87] (ok_val (fun ν27 => .slice ((ν10 2).o 0) t11.1.length ((ν10 2).n 0)) 87) <|
      .cons [88] (ok_val (fun ν27 => .slice ((ν10 2).o 1) t11.2.1.length ((ν10 2).n 1)) 88) <|
      .cons [89, 162] (ok_callRL [159, 160] (fun ν27 => [owK 40 2 ((ν10 2).o 0) t11.1.length ((ν10 2).n 0) (t11.1.flatMap en_TInterval), owK 40 2 ((ν10 2).o 1) t11.2.1.length ((ν10 2).n 1) (t11.2.1.flatMap en_TInterval)]) 14 (fun ν27 => #[.slice ((ν10 2).o 0) t11.1.length ((ν10 2).n 0), .slice ((ν10 2).o 1) t11.2.1.length ((ν10 2).n 1)]) (fun p cap => .tuple #[.slice p t28.1.length cap, .bool t28.2]) 40 2 t28.1.length (t28.1.flatMap en_TInterval) 89 162 (fun ν27 w hF => box_Intersect.calls t11.1 t11.2.1 ((ν10 2).o 0) ((ν10 2).n 0) ((ν10 2).o 1) ((ν10 2).n 1) t28 w (owns_row (ow_of hF.1)) (owns_row (ow_of hF.2.1)) ht28)) <|
      .cons [86] (ok_val (fun ν27 => .tuple #[.slice ((ν27 2).o 0) t28.1.length ((ν27 2).n 0), .bool t28.2]) 86) <|
      .cons [90] (ok_val (fun ν27 => .slice ((ν27 2).o 0) t28.1.length ((ν27 2).n 0)) 90) <|
      .cons [91] (ok_val (fun ν27 => .bool t28.2) 91) <|
      .cons [11] (ok_val (fun ν27 => .slice ((ν27 2).o 0) t28.1.length ((ν27 2).n 0)) 11) <|
      .cons [12] (ok_val (fun ν27 => .bool t28.2) 12) <| .nil) (by kernel_rfl) fun ν27 a w' H => ?_
          replace H := H.toL [(2, .slot true (.bool false)), (3, .slot true (.bool t3)), (4, .slot true (.slice ((ν4 1).o 0) t5.1.length ((ν4 1).n 0))), (7, .slot true (.int .i64 t9)), (8, .slot true (.slice ((ν10 2).o 0) t11.1.length ((ν10 2).n 0))), (9, .slot true (.slice ((ν10 2).o 1) t11.2.1.length ((ν10 2).n 1))), (11, .slot true (.slice ((ν27 2).o 0) t28.1.length ((ν27 2).n 0))), (12, .slot true (.bool t28.2)), (156, owK 40 2 ((ν4 1).o 0) t5.1.length ((ν4 1).n 0) (t5.1.flatMap en_TInterval)), (159, owK 40 2 ((ν10 2).o 0) t11.1.length ((ν10 2).n 0) (t11.1.flatMap en_TInterval)), (160, owK 40 2 ((ν10 2).o 1) t11.2.1.length ((ν10 2).n 1) (t11.2.1.flatMap en_TInterval)), (162, owK 40 2 ((ν27 2).o 0) t28.1.length ((ν27 2).n 0) (t28.1.flatMap en_TInterval))] (by kernel_rfl)
          refine k_seq ?_
          replace G := gd G; obtain ⟨b30, G⟩ := G
          replace G := bnd G; obtain ⟨t31, ht31, G⟩ := G
          replace G := bnd G; obtain ⟨t32, ht32, G⟩ := G
          replace G := gd G; obtain ⟨b33, G⟩ := G
          replace G := bnd G; obtain ⟨t34, ht34, G⟩ := G
          replace G := bnd G; obtain ⟨t35, ht35, G⟩ := G
          replace G := gd G; obtain ⟨b36, G⟩ := G
          replace G := bnd G; obtain ⟨t37, ht37, G⟩ := G
          replace G := bnd G; obtain ⟨t38, ht38, G⟩ := G
          replace G := gd G; obtain ⟨b39, G⟩ := G
          replace G := bnd G; obtain ⟨t40, ht40, G⟩ := G
          replace G := bnd G; obtain ⟨t41, ht41, G⟩ := G
          replace G := gd G; obtain ⟨b42, G⟩ := G
          replace G := bnd G; obtain ⟨t43, ht43, G⟩ := G
          replace G := bnd G; obtain ⟨t44, ht44, G⟩ := G
          replace G := gd G; obtain ⟨b45, G⟩ := G
          replace G := bnd G; obtain ⟨t46, ht46, G⟩ := G
          replace G := bnd G; obtain ⟨t47, ht47, G⟩ := G
          replace G := bnd G; obtain ⟨z48, hz48, G⟩ := G
          replace hz48 := Option.some.inj hz48
          replace G := gd G; obtain ⟨b49, G⟩ := G
          replace G := bnd G; obtain ⟨t50, ht50, G⟩ := G
          replace G := bnd G; obtain ⟨t51, ht51, G⟩ := G
          replace G := gd G; obtain ⟨b52, G⟩ := G
          replace G := bnd G; obtain ⟨t53, ht53, G⟩ := G
          replace G := bnd G; obtain ⟨t54, ht54, G⟩ := G
          refine k_reg mixed H (.cons [92] (ok_val (fun ν29 => .bool t3) 92) <|
      .cons [93] (ok_val (fun ν29 => .bool t3) 93) <|
      .cons [94] (ok_valg (fun ν29 => .bool t28.2) (fun ν29 => (t3 == true)) [true] 94) <|
      .cons [95] (ok_and 93 94 (fun ν29 => true) (fun ν29 => true) (fun ν29 => t3) (fun ν29 => t28.2) 95) <|
      .cons [96] (ok_val (fun ν29 => .bool (t3 && t28.2)) 96) <|
      .cons [97] (ok_valg (fun ν29 => .slice ((ν27 2).o 0) t28.1.length ((ν27 2).n 0)) (fun ν29 => ((t3 && t28.2) == true)) [true] 97) <|
      .cons [98] (ok_valg (fun ν29 => .int .i64 t9) (fun ν29 => ((t3 && t28.2) == true)) [true] 98) <|
      .cons [99] (ok_valL [162] (fun ν29 => [owK 40 2 ((ν27 2).o 0) t28.1.length ((ν27 2).n 0) (t28.1.flatMap en_TInterval)]) (fun ν29 => .pointer (some ⟨hdB ((ν27 2).o 0), hdO ((ν27 2).o 0) + t9.toNat * 2, none⟩)) (fun ν29 => ((t3 && t28.2) == true)) [false, false] 99 (fun ν29 w hg hF => run_of (by kernel_rfl) (run_ix (t := 22) (p := ((ν27 2).o 0)) (n := t28.1.length) (cap := ((ν27 2).n 0)) (k := .i64) (i := t9) (sz := 2) (by kernel_rfl) (by kernel_rfl) (owns_row (ow_of hF.1)) (b30 hg)))) <|
      .cons [100] (ok_valL [162] (fun ν29 => [owK 40 2 ((ν27 2).o 0) t28.1.length ((ν27 2).n 0) (t28.1.flatMap en_TInterval)]) (fun ν29 => .agg #[.int .i64 t31.Lo, .int .i64 t31.Hi]) (fun ν29 => ((t3 && t28.2) == true)) [false] 100 (fun ν29 w hg hF => ld_of (vs := [.int .i64 t31.Lo, .int .i64 t31.Hi]) (b := hdB ((ν27 2).o 0)) (off := hdO ((ν27 2).o 0) + t9.toNat * 2 + 0) (m := 2) (by kernel_rfl) (el_cells (owns_row (ow_of hF.1)) en_TInterval_len (ifp ht31 hg) 0 2 rfl))) <|
      .cons [101] (ok_call 46 (fun ν29 => #[.agg #[.int .i64 t31.Lo, .int .i64 t31.Hi]]) (.int .i64 t32) (fun ν29 => ((t3 && t28.2) == true)) [true, false] 101 [] (fun _ w hg _ => interval_Width.calls t31 t32 w (ifp ht32 hg))) <|
      .cons [102] (ok_valg (fun ν29 => .bool (t32 == 0)) (fun ν29 => ((t3 && t28.2) == true)) [false, true] 102) <|
      .cons [103] (ok_and 96 102 (fun ν29 => true) (fun ν29 => true) (fun ν29 => (t3 && t28.2)) (fun ν29 => (t32 == 0)) 103) <|
      .cons [104] (ok_val (fun ν29 => .bool ((t3 && t28.2) && (t32 == 0))) 104) <|
      .cons [105] (ok_valg (fun ν29 => .slice ((ν10 2).o 0) t11.1.length ((ν10 2).n 0)) (fun ν29 => (((t3 && t28.2) && (t32 == 0)) == true)) [true] 105) <|
      .cons [106] (ok_valg (fun ν29 => .int .i64 t9) (fun ν29 => (((t3 && t28.2) && (t32 == 0)) == true)) [true] 106) <|
      .cons [107] (ok_valL [159] (fun ν29 => [owK 40 2 ((ν10 2).o 0) t11.1.length ((ν10 2).n 0) (t11.1.flatMap en_TInterval)]) (fun ν29 => .pointer (some ⟨hdB ((ν10 2).o 0), hdO ((ν10 2).o 0) + t9.toNat * 2, none⟩)) (fun ν29 => (((t3 && t28.2) && (t32 == 0)) == true)) [false, false] 107 (fun ν29 w hg hF => run_of (by kernel_rfl) (run_ix (t := 22) (p := ((ν10 2).o 0)) (n := t11.1.length) (cap := ((ν10 2).n 0)) (k := .i64) (i := t9) (sz := 2) (by kernel_rfl) (by kernel_rfl) (owns_row (ow_of hF.1)) (b33 hg)))) <|
      .cons [108] (ok_valL [159] (fun ν29 => [owK 40 2 ((ν10 2).o 0) t11.1.length ((ν10 2).n 0) (t11.1.flatMap en_TInterval)]) (fun ν29 => .agg #[.int .i64 t34.Lo, .int .i64 t34.Hi]) (fun ν29 => (((t3 && t28.2) && (t32 == 0)) == true)) [false] 108 (fun ν29 w hg hF => ld_of (vs := [.int .i64 t34.Lo, .int .i64 t34.Hi]) (b := hdB ((ν10 2).o 0)) (off := hdO ((ν10 2).o 0) + t9.toNat * 2 + 0) (m := 2) (by kernel_rfl) (el_cells (owns_row (ow_of hF.1)) en_TInterval_len (ifp ht34 hg) 0 2 rfl))) <|
      .cons [109] (ok_call 46 (fun ν29 => #[.agg #[.int .i64 t34.Lo, .int .i64 t34.Hi]]) (.int .i64 t35) (fun ν29 => (((t3 && t28.2) && (t32 == 0)) == true)) [true, false] 109 [] (fun _ w hg _ => interval_Width.calls t34 t35 w (ifp ht35 hg))) <|
      .cons [110] (ok_valg (fun ν29 => .slice ((ν10 2).o 1) t11.2.1.length ((ν10 2).n 1)) (fun ν29 => (((t3 && t28.2) && (t32 == 0)) == true)) [true] 110) <|
      .cons [111] (ok_valg (fun ν29 => .int .i64 t9) (fun ν29 => (((t3 && t28.2) && (t32 == 0)) == true)) [true] 111) <|
      .cons [112] (ok_valL [160] (fun ν29 => [owK 40 2 ((ν10 2).o 1) t11.2.1.length ((ν10 2).n 1) (t11.2.1.flatMap en_TInterval)]) (fun ν29 => .pointer (some ⟨hdB ((ν10 2).o 1), hdO ((ν10 2).o 1) + t9.toNat * 2, none⟩)) (fun ν29 => (((t3 && t28.2) && (t32 == 0)) == true)) [false, false] 112 (fun ν29 w hg hF => run_of (by kernel_rfl) (run_ix (t := 22) (p := ((ν10 2).o 1)) (n := t11.2.1.length) (cap := ((ν10 2).n 1)) (k := .i64) (i := t9) (sz := 2) (by kernel_rfl) (by kernel_rfl) (owns_row (ow_of hF.1)) (b36 hg)))) <|
      .cons [113] (ok_valL [160] (fun ν29 => [owK 40 2 ((ν10 2).o 1) t11.2.1.length ((ν10 2).n 1) (t11.2.1.flatMap en_TInterval)]) (fun ν29 => .agg #[.int .i64 t37.Lo, .int .i64 t37.Hi]) (fun ν29 => (((t3 && t28.2) && (t32 == 0)) == true)) [false] 113 (fun ν29 w hg hF => ld_of (vs := [.int .i64 t37.Lo, .int .i64 t37.Hi]) (b := hdB ((ν10 2).o 1)) (off := hdO ((ν10 2).o 1) + t9.toNat * 2 + 0) (m := 2) (by kernel_rfl) (el_cells (owns_row (ow_of hF.1)) en_TInterval_len (ifp ht37 hg) 0 2 rfl))) <|
      .cons [114] (ok_call 46 (fun ν29 => #[.agg #[.int .i64 t37.Lo, .int .i64 t37.Hi]]) (.int .i64 t38) (fun ν29 => (((t3 && t28.2) && (t32 == 0)) == true)) [true, false] 114 [] (fun _ w hg _ => interval_Width.calls t37 t38 w (ifp ht38 hg))) <|
      .cons [115] (ok_valg (fun ν29 => .int .i64 (w_i64 (t35 + t38))) (fun ν29 => (((t3 && t28.2) && (t32 == 0)) == true)) [false, false] 115) <|
      .cons [116] (ok_valg (fun ν29 => .slice ((ν4 1).o 0) t5.1.length ((ν4 1).n 0)) (fun ν29 => (((t3 && t28.2) && (t32 == 0)) == true)) [true] 116) <|
      .cons [117] (ok_valg (fun ν29 => .int .i64 t9) (fun ν29 => (((t3 && t28.2) && (t32 == 0)) == true)) [true] 117) <|
      .cons [118] (ok_valL [156] (fun ν29 => [owK 40 2 ((ν4 1).o 0) t5.1.length ((ν4 1).n 0) (t5.1.flatMap en_TInterval)]) (fun ν29 => .pointer (some ⟨hdB ((ν4 1).o 0), hdO ((ν4 1).o 0) + t9.toNat * 2, none⟩)) (fun ν29 => (((t3 && t28.2) && (t32 == 0)) == true)) [false, false] 118 (fun ν29 w hg hF => run_of (by kernel_rfl) (run_ix (t := 22) (p := ((ν4 1).o 0)) (n := t5.1.length) (cap := ((ν4 1).n 0)) (k := .i64) (i := t9) (sz := 2) (by kernel_rfl) (by kernel_rfl) (owns_row (ow_of hF.1)) (b39 hg)))) <|
      .cons [119] (ok_valL [156] (fun ν29 => [owK 40 2 ((ν4 1).o 0) t5.1.length ((ν4 1).n 0) (t5.1.flatMap en_TInterval)]) (fun ν29 => .agg #[.int .i64 t40.Lo, .int .i64 t40.Hi]) (fun ν29 => (((t3 && t28.2) && (t32 == 0)) == true)) [false] 119 (fun ν29 w hg hF => ld_of (vs := [.int .i64 t40.Lo, .int .i64 t40.Hi]) (b := hdB ((ν4 1).o 0)) (off := hdO ((ν4 1).o 0) + t9.toNat * 2 + 0) (m := 2) (by kernel_rfl) (el_cells (owns_row (ow_of hF.1)) en_TInterval_len (ifp ht40 hg) 0 2 rfl))) <|
      .cons [120] (ok_call 46 (fun ν29 => #[.agg #[.int .i64 t40.Lo, .int .i64 t40.Hi]]) (.int .i64 t41) (fun ν29 => (((t3 && t28.2) && (t32 == 0)) == true)) [true, false] 120 [] (fun _ w hg _ => interval_Width.calls t40 t41 w (ifp ht41 hg))) <|
      .cons [121] (ok_valg (fun ν29 => .bool ((w_i64 (t35 + t38)) == t41)) (fun ν29 => (((t3 && t28.2) && (t32 == 0)) == true)) [false, false] 121) <|
      .cons [122] (ok_and 104 121 (fun ν29 => true) (fun ν29 => true) (fun ν29 => ((t3 && t28.2) && (t32 == 0))) (fun ν29 => ((w_i64 (t35 + t38)) == t41)) 122) <|
      .cons [123] (ok_val (fun ν29 => .bool (((t3 && t28.2) && (t32 == 0)) && ((w_i64 (t35 + t38)) == t41))) 123) <|
      .cons [124] (ok_valg (fun ν29 => .slice ((ν10 2).o 1) t11.2.1.length ((ν10 2).n 1)) (fun ν29 => ((((t3 && t28.2) && (t32 == 0)) && ((w_i64 (t35 + t38)) == t41)) == true)) [true] 124) <|
      .cons [125] (ok_valg (fun ν29 => .int .i64 t9) (fun ν29 => ((((t3 && t28.2) && (t32 == 0)) && ((w_i64 (t35 + t38)) == t41)) == true)) [true] 125) <|
      .cons [126] (ok_valL [160] (fun ν29 => [owK 40 2 ((ν10 2).o 1) t11.2.1.length ((ν10 2).n 1) (t11.2.1.flatMap en_TInterval)]) (fun ν29 => .pointer (some ⟨hdB ((ν10 2).o 1), hdO ((ν10 2).o 1) + t9.toNat * 2, none⟩)) (fun ν29 => ((((t3 && t28.2) && (t32 == 0)) && ((w_i64 (t35 + t38)) == t41)) == true)) [false, false] 126 (fun ν29 w hg hF => run_of (by kernel_rfl) (run_ix (t := 22) (p := ((ν10 2).o 1)) (n := t11.2.1.length) (cap := ((ν10 2).n 1)) (k := .i64) (i := t9) (sz := 2) (by kernel_rfl) (by kernel_rfl) (owns_row (ow_of hF.1)) (b42 hg)))) <|
      .cons [127] (ok_valL [160] (fun ν29 => [owK 40 2 ((ν10 2).o 1) t11.2.1.length ((ν10 2).n 1) (t11.2.1.flatMap en_TInterval)]) (fun ν29 => .agg #[.int .i64 t43.Lo, .int .i64 t43.Hi]) (fun ν29 => ((((t3 && t28.2) && (t32 == 0)) && ((w_i64 (t35 + t38)) == t41)) == true)) [false] 127 (fun ν29 w hg hF => ld_of (vs := [.int .i64 t43.Lo, .int .i64 t43.Hi]) (b := hdB ((ν10 2).o 1)) (off := hdO ((ν10 2).o 1) + t9.toNat * 2 + 0) (m := 2) (by kernel_rfl) (el_cells (owns_row (ow_of hF.1)) en_TInterval_len (ifp ht43 hg) 0 2 rfl))) <|
      .cons [128] (ok_call 46 (fun ν29 => #[.agg #[.int .i64 t43.Lo, .int .i64 t43.Hi]]) (.int .i64 t44) (fun ν29 => ((((t3 && t28.2) && (t32 == 0)) && ((w_i64 (t35 + t38)) == t41)) == true)) [true, false] 128 [] (fun _ w hg _ => interval_Width.calls t43 t44 w (ifp ht44 hg))) <|
      .cons [129] (ok_valg (fun ν29 => .slice ((ν10 2).o 0) t11.1.length ((ν10 2).n 0)) (fun ν29 => ((((t3 && t28.2) && (t32 == 0)) && ((w_i64 (t35 + t38)) == t41)) == true)) [true] 129) <|
      .cons [130] (ok_valg (fun ν29 => .int .i64 t9) (fun ν29 => ((((t3 && t28.2) && (t32 == 0)) && ((w_i64 (t35 + t38)) == t41)) == true)) [true] 130) <|
      .cons [131] (ok_valL [159] (fun ν29 => [owK 40 2 ((ν10 2).o 0) t11.1.length ((ν10 2).n 0) (t11.1.flatMap en_TInterval)]) (fun ν29 => .pointer (some ⟨hdB ((ν10 2).o 0), hdO ((ν10 2).o 0) + t9.toNat * 2, none⟩)) (fun ν29 => ((((t3 && t28.2) && (t32 == 0)) && ((w_i64 (t35 + t38)) == t41)) == true)) [false, false] 131 (fun ν29 w hg hF => run_of (by kernel_rfl) (run_ix (t := 22) (p := ((ν10 2).o 0)) (n := t11.1.length) (cap := ((ν10 2).n 0)) (k := .i64) (i := t9) (sz := 2) (by kernel_rfl) (by kernel_rfl) (owns_row (ow_of hF.1)) (b45 hg)))) <|
      .cons [132] (ok_valL [159] (fun ν29 => [owK 40 2 ((ν10 2).o 0) t11.1.length ((ν10 2).n 0) (t11.1.flatMap en_TInterval)]) (fun ν29 => .agg #[.int .i64 t46.Lo, .int .i64 t46.Hi]) (fun ν29 => ((((t3 && t28.2) && (t32 == 0)) && ((w_i64 (t35 + t38)) == t41)) == true)) [false] 132 (fun ν29 w hg hF => ld_of (vs := [.int .i64 t46.Lo, .int .i64 t46.Hi]) (b := hdB ((ν10 2).o 0)) (off := hdO ((ν10 2).o 0) + t9.toNat * 2 + 0) (m := 2) (by kernel_rfl) (el_cells (owns_row (ow_of hF.1)) en_TInterval_len (ifp ht46 hg) 0 2 rfl))) <|
      .cons [133] (ok_call 46 (fun ν29 => #[.agg #[.int .i64 t46.Lo, .int .i64 t46.Hi]]) (.int .i64 t47) (fun ν29 => ((((t3 && t28.2) && (t32 == 0)) && ((w_i64 (t35 + t38)) == t41)) == true)) [true, false] 133 [] (fun _ w hg _ => interval_Width.calls t46 t47 w (ifp ht47 hg))) <|
      .cons [134] (ok_valg (fun ν29 => .int .i64 (w_i64 (t44 - t47))) (fun ν29 => ((((t3 && t28.2) && (t32 == 0)) && ((w_i64 (t35 + t38)) == t41)) == true)) [false, false] 134) <|
      .cons [135] (ok_valg (fun ν29 => .bool (decide ((w_i64 (t44 - t47)) ≤ 1))) (fun ν29 => ((((t3 && t28.2) && (t32 == 0)) && ((w_i64 (t35 + t38)) == t41)) == true)) [false, true] 135) <|
      .cons [136] (ok_and 123 135 (fun ν29 => true) (fun ν29 => true) (fun ν29 => (((t3 && t28.2) && (t32 == 0)) && ((w_i64 (t35 + t38)) == t41))) (fun ν29 => decide ((w_i64 (t44 - t47)) ≤ 1)) 136) <|
      .cons [137] (ok_as (u' := fun ν29 => [(137, .slot true (.bool z48))]) (ok_val (fun ν29 => .bool ((((t3 && t28.2) && (t32 == 0)) && ((w_i64 (t35 + t38)) == t41)) && (decide ((w_i64 (t44 - t47)) ≤ 1)))) 137) (fun _ => by rw [← hz48])) <|
      .cons [138] (ok_valg (fun ν29 => .slice ((ν10 2).o 1) t11.2.1.length ((ν10 2).n 1)) (fun ν29 => (z48 == true)) [true] 138) <|
      .cons [139] (ok_valg (fun ν29 => .int .i64 t9) (fun ν29 => (z48 == true)) [true] 139) <|
      .cons [140] (ok_valL [160] (fun ν29 => [owK 40 2 ((ν10 2).o 1) t11.2.1.length ((ν10 2).n 1) (t11.2.1.flatMap en_TInterval)]) (fun ν29 => .pointer (some ⟨hdB ((ν10 2).o 1), hdO ((ν10 2).o 1) + t9.toNat * 2, none⟩)) (fun ν29 => (z48 == true)) [false, false] 140 (fun ν29 w hg hF => run_of (by kernel_rfl) (run_ix (t := 22) (p := ((ν10 2).o 1)) (n := t11.2.1.length) (cap := ((ν10 2).n 1)) (k := .i64) (i := t9) (sz := 2) (by kernel_rfl) (by kernel_rfl) (owns_row (ow_of hF.1)) (b49 hg)))) <|
      .cons [141] (ok_valL [160] (fun ν29 => [owK 40 2 ((ν10 2).o 1) t11.2.1.length ((ν10 2).n 1) (t11.2.1.flatMap en_TInterval)]) (fun ν29 => .agg #[.int .i64 t50.Lo, .int .i64 t50.Hi]) (fun ν29 => (z48 == true)) [false] 141 (fun ν29 w hg hF => ld_of (vs := [.int .i64 t50.Lo, .int .i64 t50.Hi]) (b := hdB ((ν10 2).o 1)) (off := hdO ((ν10 2).o 1) + t9.toNat * 2 + 0) (m := 2) (by kernel_rfl) (el_cells (owns_row (ow_of hF.1)) en_TInterval_len (ifp ht50 hg) 0 2 rfl))) <|
      .cons [142] (ok_call 46 (fun ν29 => #[.agg #[.int .i64 t50.Lo, .int .i64 t50.Hi]]) (.int .i64 t51) (fun ν29 => (z48 == true)) [true, false] 142 [] (fun _ w hg _ => interval_Width.calls t50 t51 w (ifp ht51 hg))) <|
      .cons [143] (ok_valg (fun ν29 => .slice ((ν10 2).o 0) t11.1.length ((ν10 2).n 0)) (fun ν29 => (z48 == true)) [true] 143) <|
      .cons [144] (ok_valg (fun ν29 => .int .i64 t9) (fun ν29 => (z48 == true)) [true] 144) <|
      .cons [145] (ok_valL [159] (fun ν29 => [owK 40 2 ((ν10 2).o 0) t11.1.length ((ν10 2).n 0) (t11.1.flatMap en_TInterval)]) (fun ν29 => .pointer (some ⟨hdB ((ν10 2).o 0), hdO ((ν10 2).o 0) + t9.toNat * 2, none⟩)) (fun ν29 => (z48 == true)) [false, false] 145 (fun ν29 w hg hF => run_of (by kernel_rfl) (run_ix (t := 22) (p := ((ν10 2).o 0)) (n := t11.1.length) (cap := ((ν10 2).n 0)) (k := .i64) (i := t9) (sz := 2) (by kernel_rfl) (by kernel_rfl) (owns_row (ow_of hF.1)) (b52 hg)))) <|
      .cons [146] (ok_valL [159] (fun ν29 => [owK 40 2 ((ν10 2).o 0) t11.1.length ((ν10 2).n 0) (t11.1.flatMap en_TInterval)]) (fun ν29 => .agg #[.int .i64 t53.Lo, .int .i64 t53.Hi]) (fun ν29 => (z48 == true)) [false] 146 (fun ν29 w hg hF => ld_of (vs := [.int .i64 t53.Lo, .int .i64 t53.Hi]) (b := hdB ((ν10 2).o 0)) (off := hdO ((ν10 2).o 0) + t9.toNat * 2 + 0) (m := 2) (by kernel_rfl) (el_cells (owns_row (ow_of hF.1)) en_TInterval_len (ifp ht53 hg) 0 2 rfl))) <|
      .cons [147] (ok_call 46 (fun ν29 => #[.agg #[.int .i64 t53.Lo, .int .i64 t53.Hi]]) (.int .i64 t54) (fun ν29 => (z48 == true)) [true, false] 147 [] (fun _ w hg _ => interval_Width.calls t53 t54 w (ifp ht54 hg))) <|
      .cons [148] (ok_valg (fun ν29 => .bool (decide (t51 ≥ t54))) (fun ν29 => (z48 == true)) [false, false] 148) <|
      .cons [149] (ok_and 137 148 (fun ν29 => true) (fun ν29 => true) (fun ν29 => z48) (fun ν29 => decide (t51 ≥ t54)) 149) <|
      .cons [2] (ok_val (fun ν29 => .bool (z48 && (decide (t51 ≥ t54)))) 2) <| .nil) (by kernel_rfl) fun ν29 a w' H => ?_
          replace H := H.toL [(2, .slot true (.bool (z48 && (decide (t51 ≥ t54)))))] (by kernel_rfl)
          refine k_ret ?_
          obtain rfl := Option.some.inj G
          exact k_done0 H _ (by kernel_rfl) (by kernel_rfl)
      rw [if_neg c57] at G
      cases G

end Go.Proofs.Ytgccinodonkgjaa
