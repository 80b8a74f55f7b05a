/- The law BoxSubsetOrder answers as the plain Lean function of its name. Printed by a program of this session. -/
import Derived.Test.YtgccinodonkgjaaFn2
set_option linter.unusedVariables false
set_option maxRecDepth 100000
namespace Go.Proofs.Ytgccinodonkgjaa
open Go Go.RowKit Go.Sx Go.Proofs
set_option maxHeartbeats 4000000 in
theorem armillarylaw03_BoxSubsetOrder.calls (k0 : Nat) (a0 : TInput) (p_a0_A : Option Addr) (c_a0_A : Nat) (p_a0_B : Option Addr) (c_a0_B : Nat) (p_a0_C : Option Addr) (c_a0_C : Nat) (p_a0_P_e0 : Option Addr) (c_a0_P_e0 : Nat) (p_a0_P_e1 : Option Addr) (c_a0_P_e1 : Nat) (r : Bool) (w : World) (R_p_a0_A : RowAt w 2 p_a0_A a0.A.length (a0.A.flatMap en_TInterval)) (R_p_a0_B : RowAt w 2 p_a0_B a0.B.length (a0.B.flatMap en_TInterval)) (R_p_a0_C : RowAt w 2 p_a0_C a0.C.length (a0.C.flatMap en_TInterval)) (R_p_a0_P_e0 : RowAt w 1 p_a0_P_e0 a0.P.e0.length (a0.P.e0.flatMap en_u16)) (R_p_a0_P_e1 : RowAt w 1 p_a0_P_e1 a0.P.e1.length (a0.P.e1.flatMap en_u16)) (G : armillarylaw03_BoxSubsetOrder k0 a0 = some r) :
    Calls Try.prog 5 #[.agg #[.slice p_a0_A a0.A.length c_a0_A, .slice p_a0_B a0.B.length c_a0_B, .slice p_a0_C a0.C.length c_a0_C, .int .u8 a0.N, .slice p_a0_P_e0 a0.P.e0.length c_a0_P_e0, .slice p_a0_P_e1 a0.P.e1.length c_a0_P_e1]] w fun e w' => e = .returned (.bool r) ∧ Below w.heap.size w w' := by
  refine k_enterF (args := [.agg #[.slice p_a0_A a0.A.length c_a0_A, .slice p_a0_B a0.B.length c_a0_B, .slice p_a0_C a0.C.length c_a0_C, .int .u8 a0.N, .slice p_a0_P_e0 a0.P.e0.length c_a0_P_e0, .slice p_a0_P_e1 a0.P.e1.length c_a0_P_e1]]) 86 [(86, rdK 2 p_a0_A a0.A.length (a0.A.flatMap en_TInterval)), (87, rdK 2 p_a0_B a0.B.length (a0.B.flatMap en_TInterval)), (88, rdK 2 p_a0_C a0.C.length (a0.C.flatMap en_TInterval)), (89, rdK 1 p_a0_P_e0 a0.P.e0.length (a0.P.e0.flatMap en_u16)), (90, rdK 1 p_a0_P_e1 a0.P.e1.length (a0.P.e1.flatMap en_u16))] (by
    intro x hx
    simp only [List.mem_cons, List.not_mem_nil, or_false] at hx
    rcases hx with rfl | rfl | rfl | rfl | rfl
    · exact rd_fact R_p_a0_A (by decide) _
    · exact rd_fact R_p_a0_B (by decide) _
    · exact rd_fact R_p_a0_C (by decide) _
    · exact rd_fact R_p_a0_P_e0 (by decide) _
    · exact rd_fact R_p_a0_P_e1 (by decide) _) Try.func5 rfl (by kernel_rfl) (by kernel_rfl) fun a H => ?_
  unfold armillarylaw03_BoxSubsetOrder at G
  refine k_seq ?_
  refine k_reg mixed H (.cons [1, 91] (ok_new (fun b => .pointer (some ⟨b, 0, none⟩)) (fun ν1 => [.slice p_a0_A a0.A.length c_a0_A, .slice p_a0_B a0.B.length c_a0_B, .slice p_a0_C a0.C.length c_a0_C, .int .u8 a0.N, .slice p_a0_P_e0 a0.P.e0.length c_a0_P_e0, .slice p_a0_P_e1 a0.P.e1.length c_a0_P_e1]) 26 1 91) <|
      .cons [2] (ok_val (fun ν1 => .bool false) 2) <| .nil) (by kernel_rfl) fun ν1 a w' H => ?_
  replace H := H.toL [(1, .slot true (.pointer (some ⟨((ν1 0).n 0), 0, none⟩))), (2, .slot true (.bool false)), (91, .blk ((ν1 0).n 0) [.slice p_a0_A a0.A.length c_a0_A, .slice p_a0_B a0.B.length c_a0_B, .slice p_a0_C a0.C.length c_a0_C, .int .u8 a0.N, .slice p_a0_P_e0 a0.P.e0.length c_a0_P_e0, .slice p_a0_P_e1 a0.P.e1.length c_a0_P_e1] 26), (86, rdK 2 p_a0_A a0.A.length (a0.A.flatMap en_TInterval)), (87, rdK 2 p_a0_B a0.B.length (a0.B.flatMap en_TInterval)), (88, rdK 2 p_a0_C a0.C.length (a0.C.flatMap en_TInterval)), (89, rdK 1 p_a0_P_e0 a0.P.e0.length (a0.P.e0.flatMap en_u16)), (90, rdK 1 p_a0_P_e1 a0.P.e1.length (a0.P.e1.flatMap en_u16))] (by kernel_rfl)
  refine k_seq ?_
  replace G := bnd G; obtain ⟨t3, ht3, G⟩ := G
  refine k_reg mixed H (.cons [8] (ok_callv 12 (fun ν2 => #[]) (.bool t3) 8 [] (fun _ w _ => armillarylaw03_sanity.calls k0 t3 w ht3)) <|
      .cons [3] (ok_val (fun ν2 => .bool t3) 3) <| .nil) (by kernel_rfl) fun ν2 a w' H => ?_
  replace H := H.toL [(1, .slot true (.pointer (some ⟨((ν1 0).n 0), 0, none⟩))), (2, .slot true (.bool false)), (3, .slot true (.bool t3)), (91, .blk ((ν1 0).n 0) [.slice p_a0_A a0.A.length c_a0_A, .slice p_a0_B a0.B.length c_a0_B, .slice p_a0_C a0.C.length c_a0_C, .int .u8 a0.N, .slice p_a0_P_e0 a0.P.e0.length c_a0_P_e0, .slice p_a0_P_e1 a0.P.e1.length c_a0_P_e1] 26), (86, rdK 2 p_a0_A a0.A.length (a0.A.flatMap en_TInterval)), (87, rdK 2 p_a0_B a0.B.length (a0.B.flatMap en_TInterval)), (88, rdK 2 p_a0_C a0.C.length (a0.C.flatMap en_TInterval)), (89, rdK 1 p_a0_P_e0 a0.P.e0.length (a0.P.e0.flatMap en_u16)), (90, rdK 1 p_a0_P_e1 a0.P.e1.length (a0.P.e1.flatMap en_u16))] (by kernel_rfl)
  refine k_seq ?_
  replace G := bnd G; obtain ⟨t5, ht5, G⟩ := G
  refine k_reg mixed H (.cons [10] (ok_ld (fun ν4 => .agg #[.slice p_a0_A a0.A.length c_a0_A, .slice p_a0_B a0.B.length c_a0_B, .slice p_a0_C a0.C.length c_a0_C, .int .u8 a0.N, .slice p_a0_P_e0 a0.P.e0.length c_a0_P_e0, .slice p_a0_P_e1 a0.P.e1.length c_a0_P_e1]) 10 91 0 6 (fun ν4 => ((ν1 0).n 0)) (fun ν4 => [.slice p_a0_A a0.A.length c_a0_A, .slice p_a0_B a0.B.length c_a0_B, .slice p_a0_C a0.C.length c_a0_C, .int .u8 a0.N, .slice p_a0_P_e0 a0.P.e0.length c_a0_P_e0, .slice p_a0_P_e1 a0.P.e1.length c_a0_P_e1]) 26) <|
      .cons [11, 92, 93] (ok_callRL2 [86, 87, 88, 89, 90] (fun ν4 => [rdK 2 p_a0_A a0.A.length (a0.A.flatMap en_TInterval), rdK 2 p_a0_B a0.B.length (a0.B.flatMap en_TInterval), rdK 2 p_a0_C a0.C.length (a0.C.flatMap en_TInterval), rdK 1 p_a0_P_e0 a0.P.e0.length (a0.P.e0.flatMap en_u16), rdK 1 p_a0_P_e1 a0.P.e1.length (a0.P.e1.flatMap en_u16)]) 13 (fun ν4 => #[.agg #[.slice p_a0_A a0.A.length c_a0_A, .slice p_a0_B a0.B.length c_a0_B, .slice p_a0_C a0.C.length c_a0_C, .int .u8 a0.N, .slice p_a0_P_e0 a0.P.e0.length c_a0_P_e0, .slice p_a0_P_e1 a0.P.e1.length c_a0_P_e1]]) (fun p cap p2 cap2 => .tuple #[.slice p t5.1.length cap, .slice p2 t5.2.length cap2]) 40 2 t5.1.length (t5.1.flatMap en_TInterval) 40 2 t5.2.length (t5.2.flatMap en_TInterval) 11 92 93 (fun ν4 w hF => armillarylaw03_boxes.calls k0 (⟨a0.A, a0.B, a0.C, a0.N, (⟨a0.P.e0, a0.P.e1⟩ : TA2_List_Int)⟩ : TInput) p_a0_A c_a0_A p_a0_B c_a0_B p_a0_C c_a0_C p_a0_P_e0 c_a0_P_e0 p_a0_P_e1 c_a0_P_e1 t5 w (rd_of hF.1) (rd_of hF.2.1) (rd_of hF.2.2.1) (rd_of hF.2.2.2.1) (rd_of hF.2.2.2.2.1) ht5)) <|
      .cons [9] (ok_val (fun ν4 => .tuple #[.slice ((ν4 1).o 0) t5.1.length ((ν4 1).n 0), .slice ((ν4 1).o 1) t5.2.length ((ν4 1).n 1)]) 9) <|
      .cons [12] (ok_val (fun ν4 => .slice ((ν4 1).o 0) t5.1.length ((ν4 1).n 0)) 12) <|
      .cons [13] (ok_val (fun ν4 => .slice ((ν4 1).o 1) t5.2.length ((ν4 1).n 1)) 13) <|
      .cons [4] (ok_val (fun ν4 => .slice ((ν4 1).o 0) t5.1.length ((ν4 1).n 0)) 4) <|
      .cons [5] (ok_val (fun ν4 => .slice ((ν4 1).o 1) t5.2.length ((ν4 1).n 1)) 5) <| .nil) (by kernel_rfl) fun ν4 a w' H => ?_
  replace H := H.toL [(1, .slot true (.pointer (some ⟨((ν1 0).n 0), 0, none⟩))), (2, .slot true (.bool false)), (3, .slot true (.bool t3)), (4, .slot true (.slice ((ν4 1).o 0) t5.1.length ((ν4 1).n 0))), (5, .slot true (.slice ((ν4 1).o 1) t5.2.length ((ν4 1).n 1))), (91, .blk ((ν1 0).n 0) [.slice p_a0_A a0.A.length c_a0_A, .slice p_a0_B a0.B.length c_a0_B, .slice p_a0_C a0.C.length c_a0_C, .int .u8 a0.N, .slice p_a0_P_e0 a0.P.e0.length c_a0_P_e0, .slice p_a0_P_e1 a0.P.e1.length c_a0_P_e1] 26), (86, rdK 2 p_a0_A a0.A.length (a0.A.flatMap en_TInterval)), (87, rdK 2 p_a0_B a0.B.length (a0.B.flatMap en_TInterval)), (88, rdK 2 p_a0_C a0.C.length (a0.C.flatMap en_TInterval)), (89, rdK 1 p_a0_P_e0 a0.P.e0.length (a0.P.e0.flatMap en_u16)), (90, rdK 1 p_a0_P_e1 a0.P.e1.length (a0.P.e1.flatMap en_u16)), (92, owK 40 2 ((ν4 1).o 0) t5.1.length ((ν4 1).n 0) (t5.1.flatMap en_TInterval)), (93, owK 40 2 ((ν4 1).o 1) t5.2.length ((ν4 1).n 1) (t5.2.flatMap en_TInterval))] (by kernel_rfl)
  refine k_seq ?_
  replace G := bnd G; obtain ⟨t7, ht7, G⟩ := G
  refine k_reg mixed H (.cons [14] (ok_val (fun ν6 => .pointer (some ⟨((ν1 0).n 0), 2, none⟩)) 14) <|
      .cons [15] (ok_ld (fun ν6 => .slice p_a0_C a0.C.length c_a0_C) 15 91 2 1 (fun ν6 => ((ν1 0).n 0)) (fun ν6 => [.slice p_a0_A a0.A.length c_a0_A, .slice p_a0_B a0.B.length c_a0_B, .slice p_a0_C a0.C.length c_a0_C, .int .u8 a0.N, .slice p_a0_P_e0 a0.P.e0.length c_a0_P_e0, .slice p_a0_P_e1 a0.P.e1.length c_a0_P_e1]) 26) <|
      .cons [16] (ok_val (fun ν6 => .pointer (some ⟨((ν1 0).n 0), 3, none⟩)) 16) <|
      .cons [17] (ok_ld (fun ν6 => .int .u8 a0.N) 17 91 3 1 (fun ν6 => ((ν1 0).n 0)) (fun ν6 => [.slice p_a0_A a0.A.length c_a0_A, .slice p_a0_B a0.B.length c_a0_B, .slice p_a0_C a0.C.length c_a0_C, .int .u8 a0.N, .slice p_a0_P_e0 a0.P.e0.length c_a0_P_e0, .slice p_a0_P_e1 a0.P.e1.length c_a0_P_e1]) 26) <|
      .cons [18] (ok_val (fun ν6 => .int .u8 (Int.tmod a0.N 6)) 18) <|
      .cons [19] (ok_val (fun ν6 => .int .i64 (w_i64 (Int.tmod a0.N 6))) 19) <|
      .cons [20] (ok_val (fun ν6 => .int .i64 (w_i64 (1 + (w_i64 (Int.tmod a0.N 6))))) 20) <|
      .cons [21, 94] (ok_callRL [88] (fun ν6 => [rdK 2 p_a0_C a0.C.length (a0.C.flatMap en_TInterval)]) 44 (fun ν6 => #[.slice p_a0_C a0.C.length c_a0_C, .int .i64 (w_i64 (1 + (w_i64 (Int.tmod a0.N 6))))]) (fun p cap => .slice p t7.length cap) 40 2 t7.length (t7.flatMap en_TInterval) 21 94 (fun ν6 w hF => armillaryref03_Made.calls k0 a0.C (w_i64 (1 + (w_i64 (Int.tmod a0.N 6)))) p_a0_C c_a0_C t7 w (rd_of hF.1) ht7)) <|
      .cons [6] (ok_val (fun ν6 => .slice ((ν6 7).o 0) t7.length ((ν6 7).n 0)) 6) <| .nil) (by kernel_rfl) fun ν6 a w' H => ?_
  replace H := H.toL [(1, .slot true (.pointer (some ⟨((ν1 0).n 0), 0, none⟩))), (2, .slot true (.bool false)), (3, .slot true (.bool t3)), (4, .slot true (.slice ((ν4 1).o 0) t5.1.length ((ν4 1).n 0))), (5, .slot true (.slice ((ν4 1).o 1) t5.2.length ((ν4 1).n 1))), (6, .slot true (.slice ((ν6 7).o 0) t7.length ((ν6 7).n 0))), (91, .blk ((ν1 0).n 0) [.slice p_a0_A a0.A.length c_a0_A, .slice p_a0_B a0.B.length c_a0_B, .slice p_a0_C a0.C.length c_a0_C, .int .u8 a0.N, .slice p_a0_P_e0 a0.P.e0.length c_a0_P_e0, .slice p_a0_P_e1 a0.P.e1.length c_a0_P_e1] 26), (86, rdK 2 p_a0_A a0.A.length (a0.A.flatMap en_TInterval)), (87, rdK 2 p_a0_B a0.B.length (a0.B.flatMap en_TInterval)), (88, rdK 2 p_a0_C a0.C.length (a0.C.flatMap en_TInterval)), (89, rdK 1 p_a0_P_e0 a0.P.e0.length (a0.P.e0.flatMap en_u16)), (90, rdK 1 p_a0_P_e1 a0.P.e1.length (a0.P.e1.flatMap en_u16)), (92, owK 40 2 ((ν4 1).o 0) t5.1.length ((ν4 1).n 0) (t5.1.flatMap en_TInterval)), (93, owK 40 2 ((ν4 1).o 1) t5.2.length ((ν4 1).n 1) (t5.2.flatMap en_TInterval)), (94, owK 40 2 ((ν6 7).o 0) t7.length ((ν6 7).n 0) (t7.flatMap en_TInterval))] (by kernel_rfl)
  refine k_seq ?_
  replace G := bnd G; obtain ⟨t9, ht9, G⟩ := G
  refine k_reg mixed H (.cons [22] (ok_val (fun ν8 => .slice ((ν4 1).o 0) t5.1.length ((ν4 1).n 0)) 22) <|
      .cons [23] (ok_val (fun ν8 => .pointer (some ⟨((ν1 0).n 0), 4, none⟩)) 23) <|
      .cons [24] (ok_val (fun ν8 => .pointer (some ⟨((ν1 0).n 0), 4, none⟩)) 24) <|
      .cons [25] (ok_ld (fun ν8 => .slice p_a0_P_e0 a0.P.e0.length c_a0_P_e0) 25 91 4 1 (fun ν8 => ((ν1 0).n 0)) (fun ν8 => [.slice p_a0_A a0.A.length c_a0_A, .slice p_a0_B a0.B.length c_a0_B, .slice p_a0_C a0.C.length c_a0_C, .int .u8 a0.N, .slice p_a0_P_e0 a0.P.e0.length c_a0_P_e0, .slice p_a0_P_e1 a0.P.e1.length c_a0_P_e1]) 26) <|
      .cons [26, 95] (ok_callRL [92, 89] (fun ν8 => [owK 40 2 ((ν4 1).o 0) t5.1.length ((ν4 1).n 0) (t5.1.flatMap en_TInterval), rdK 1 p_a0_P_e0 a0.P.e0.length (a0.P.e0.flatMap en_u16)]) 16 (fun ν8 => #[.slice ((ν4 1).o 0) t5.1.length ((ν4 1).n 0), .slice p_a0_P_e0 a0.P.e0.length c_a0_P_e0]) (fun p cap => .slice p t9.length cap) 2 1 t9.length (t9.flatMap en_i64) 26 95 (fun ν8 w hF => armillaryref03_PointIn.calls k0 t5.1 a0.P.e0 ((ν4 1).o 0) ((ν4 1).n 0) p_a0_P_e0 c_a0_P_e0 t9 w (owns_row (ow_of hF.1)) (rd_of hF.2.1) ht9)) <|
      .cons [7] (ok_val (fun ν8 => .slice ((ν8 4).o 0) t9.length ((ν8 4).n 0)) 7) <| .nil) (by kernel_rfl) fun ν8 a w' H => ?_
  replace H := H.toL [(2, .slot true (.bool false)), (3, .slot true (.bool t3)), (4, .slot true (.slice ((ν4 1).o 0) t5.1.length ((ν4 1).n 0))), (5, .slot true (.slice ((ν4 1).o 1) t5.2.length ((ν4 1).n 1))), (6, .slot true (.slice ((ν6 7).o 0) t7.length ((ν6 7).n 0))), (7, .slot true (.slice ((ν8 4).o 0) t9.length ((ν8 4).n 0))), (92, owK 40 2 ((ν4 1).o 0) t5.1.length ((ν4 1).n 0) (t5.1.flatMap en_TInterval)), (93, owK 40 2 ((ν4 1).o 1) t5.2.length ((ν4 1).n 1) (t5.2.flatMap en_TInterval)), (94, owK 40 2 ((ν6 7).o 0) t7.length ((ν6 7).n 0) (t7.flatMap en_TInterval)), (95, owK 2 1 ((ν8 4).o 0) t9.length ((ν8 4).n 0) (t9.flatMap en_i64))] (by kernel_rfl)
  refine k_seq ?_
  refine k_seq ?_
  replace G := bnd G; obtain ⟨t11, ht11, G⟩ := G
  replace G := bnd G; obtain ⟨t12, ht12, G⟩ := G
  replace G := bnd G; obtain ⟨t13, ht13, G⟩ := G
  replace G := bnd G; obtain ⟨t14, ht14, G⟩ := G
  replace G := bnd G; obtain ⟨t15, ht15, G⟩ := G
  replace G := bnd G; obtain ⟨t16, ht16, G⟩ := G
  replace G := bnd G; obtain ⟨t17, ht17, G⟩ := G
  refine k_reg mixed H (.cons [27] (ok_val (fun ν10 => .slice ((ν4 1).o 0) t5.1.length ((ν4 1).n 0)) 27) <|
      .cons [28] (ok_val (fun ν10 => .slice ((ν4 1).o 0) t5.1.length ((ν4 1).n 0)) 28) <|
      .cons [29] (ok_callL [92, 92] (fun ν10 => [owK 40 2 ((ν4 1).o 0) t5.1.length ((ν4 1).n 0) (t5.1.flatMap en_TInterval), owK 40 2 ((ν4 1).o 0) t5.1.length ((ν4 1).n 0) (t5.1.flatMap en_TInterval)]) 23 (fun ν10 => #[.slice ((ν4 1).o 0) t5.1.length ((ν4 1).n 0), .slice ((ν4 1).o 0) t5.1.length ((ν4 1).n 0)]) (.bool t11) 29 (fun ν10 w hF => box_Subset.calls t5.1 t5.1 ((ν4 1).o 0) ((ν4 1).n 0) ((ν4 1).o 0) ((ν4 1).n 0) t11 w (owns_row (ow_of hF.1)) (owns_row (ow_of hF.2.1)) ht11)) <|
      .cons [30] (ok_val (fun ν10 => .bool (!t11)) 30) <|
      .cons [31] (ok_val (fun ν10 => .bool (!t11)) 31) <|
      .cons [32] (ok_valg (fun ν10 => .slice ((ν4 1).o 0) t5.1.length ((ν4 1).n 0)) (fun ν10 => ((!t11) == false)) [true] 32) <|
      .cons [33] (ok_valg (fun ν10 => .slice ((ν4 1).o 1) t5.2.length ((ν4 1).n 1)) (fun ν10 => ((!t11) == false)) [true] 33) <|
      .cons [34] (ok_callLg [92, 93] (fun ν10 => [owK 40 2 ((ν4 1).o 0) t5.1.length ((ν4 1).n 0) (t5.1.flatMap en_TInterval), owK 40 2 ((ν4 1).o 1) t5.2.length ((ν4 1).n 1) (t5.2.flatMap en_TInterval)]) 23 (fun ν10 => #[.slice ((ν4 1).o 0) t5.1.length ((ν4 1).n 0), .slice ((ν4 1).o 1) t5.2.length ((ν4 1).n 1)]) (.bool t12) (fun ν10 => ((!t11) == false)) [true, false, false] 34 (fun ν10 w hg hF => box_Subset.calls t5.1 t5.2 ((ν4 1).o 0) ((ν4 1).n 0) ((ν4 1).o 1) ((ν4 1).n 1) t12 w (owns_row (ow_of hF.1)) (owns_row (ow_of hF.2.1)) (ifp ht12 hg))) <|
      .cons [35] (ok_valg (fun ν10 => .bool t12) (fun ν10 => ((!t11) == false)) [false] 35) <|
      .cons [36] (ok_valg (fun ν10 => .slice ((ν4 1).o 1) t5.2.length ((ν4 1).n 1)) (fun ν10 => (((!t11) == false) && (t12 == true))) [true] 36) <|
      .cons [37] (ok_valg (fun ν10 => .slice ((ν4 1).o 0) t5.1.length ((ν4 1).n 0)) (fun ν10 => (((!t11) == false) && (t12 == true))) [true] 37) <|
      .cons [38] (ok_callLg [93, 92] (fun ν10 => [owK 40 2 ((ν4 1).o 1) t5.2.length ((ν4 1).n 1) (t5.2.flatMap en_TInterval), owK 40 2 ((ν4 1).o 0) t5.1.length ((ν4 1).n 0) (t5.1.flatMap en_TInterval)]) 23 (fun ν10 => #[.slice ((ν4 1).o 1) t5.2.length ((ν4 1).n 1), .slice ((ν4 1).o 0) t5.1.length ((ν4 1).n 0)]) (.bool t13) (fun ν10 => (((!t11) == false) && (t12 == true))) [true, false, false] 38 (fun ν10 w hg hF => box_Subset.calls t5.2 t5.1 ((ν4 1).o 1) ((ν4 1).n 1) ((ν4 1).o 0) ((ν4 1).n 0) t13 w (owns_row (ow_of hF.1)) (owns_row (ow_of hF.2.1)) (ifp ht13 hg))) <|
      .cons [39] (ok_and 35 38 (fun ν10 => ((!t11) == false)) (fun ν10 => ((!t11) == false)) (fun ν10 => t12) (fun ν10 => t13) 39) <|
      .cons [40] (ok_valg (fun ν10 => .bool (t12 && t13)) (fun ν10 => ((!t11) == false)) [false] 40) <|
      .cons [41] (ok_valg (fun ν10 => .slice ((ν4 1).o 0) t5.1.length ((ν4 1).n 0)) (fun ν10 => (((!t11) == false) && ((t12 && t13) == true))) [true] 41) <|
      .cons [42] (ok_valg (fun ν10 => .slice ((ν4 1).o 1) t5.2.length ((ν4 1).n 1)) (fun ν10 => (((!t11) == false) && ((t12 && t13) == true))) [true] 42) <|
      .cons [43] (ok_callLg [92, 93] (fun ν10 => [owK 40 2 ((ν4 1).o 0) t5.1.length ((ν4 1).n 0) (t5.1.flatMap en_TInterval), owK 40 2 ((ν4 1).o 1) t5.2.length ((ν4 1).n 1) (t5.2.flatMap en_TInterval)]) 20 (fun ν10 => #[.slice ((ν4 1).o 0) t5.1.length ((ν4 1).n 0), .slice ((ν4 1).o 1) t5.2.length ((ν4 1).n 1)]) (.bool t14) (fun ν10 => (((!t11) == false) && ((t12 && t13) == true))) [true, false, false] 43 (fun ν10 w hg hF => armillaryref03_Same.calls k0 t5.1 t5.2 ((ν4 1).o 0) ((ν4 1).n 0) ((ν4 1).o 1) ((ν4 1).n 1) t14 w (owns_row (ow_of hF.1)) (owns_row (ow_of hF.2.1)) (ifp ht14 hg))) <|
      .cons [44] (ok_valg (fun ν10 => .bool (!t14)) (fun ν10 => (((!t11) == false) && ((t12 && t13) == true))) [false] 44) <|
      .cons [45] (ok_and 40 44 (fun ν10 => ((!t11) == false)) (fun ν10 => ((!t11) == false)) (fun ν10 => (t12 && t13)) (fun ν10 => (!t14)) 45) <|
      .cons [46] (ok_or 31 45 (fun ν10 => true) (fun ν10 => true) (fun ν10 => (!t11)) (fun ν10 => ((t12 && t13) && (!t14))) 46) <|
      .cons [47] (ok_val (fun ν10 => .bool ((!t11) || ((t12 && t13) && (!t14)))) 47) <|
      .cons [48] (ok_valg (fun ν10 => .slice ((ν4 1).o 0) t5.1.length ((ν4 1).n 0)) (fun ν10 => (((!t11) || ((t12 && t13) && (!t14))) == false)) [true] 48) <|
      .cons [49] (ok_valg (fun ν10 => .slice ((ν4 1).o 1) t5.2.length ((ν4 1).n 1)) (fun ν10 => (((!t11) || ((t12 && t13) && (!t14))) == false)) [true] 49) <|
      .cons [50] (ok_callLg [92, 93] (fun ν10 => [owK 40 2 ((ν4 1).o 0) t5.1.length ((ν4 1).n 0) (t5.1.flatMap en_TInterval), owK 40 2 ((ν4 1).o 1) t5.2.length ((ν4 1).n 1) (t5.2.flatMap en_TInterval)]) 23 (fun ν10 => #[.slice ((ν4 1).o 0) t5.1.length ((ν4 1).n 0), .slice ((ν4 1).o 1) t5.2.length ((ν4 1).n 1)]) (.bool t15) (fun ν10 => (((!t11) || ((t12 && t13) && (!t14))) == false)) [true, false, false] 50 (fun ν10 w hg hF => box_Subset.calls t5.1 t5.2 ((ν4 1).o 0) ((ν4 1).n 0) ((ν4 1).o 1) ((ν4 1).n 1) t15 w (owns_row (ow_of hF.1)) (owns_row (ow_of hF.2.1)) (ifp ht15 hg))) <|
      .cons [51] (ok_valg (fun ν10 => .bool t15) (fun ν10 => (((!t11) || ((t12 && t13) && (!t14))) == false)) [false] 51) <|
      .cons [52] (ok_valg (fun ν10 => .slice ((ν4 1).o 1) t5.2.length ((ν4 1).n 1)) (fun ν10 => ((((!t11) || ((t12 && t13) && (!t14))) == false) && (t15 == true))) [true] 52) <|
      .cons [53] (ok_valg (fun ν10 => .slice ((ν6 7).o 0) t7.length ((ν6 7).n 0)) (fun ν10 => ((((!t11) || ((t12 && t13) && (!t14))) == false) && (t15 == true))) [true] 53) <|
      .cons [54] (ok_callLg [93, 94] (fun ν10 => [owK 40 2 ((ν4 1).o 1) t5.2.length ((ν4 1).n 1) (t5.2.flatMap en_TInterval), owK 40 2 ((ν6 7).o 0) t7.length ((ν6 7).n 0) (t7.flatMap en_TInterval)]) 23 (fun ν10 => #[.slice ((ν4 1).o 1) t5.2.length ((ν4 1).n 1), .slice ((ν6 7).o 0) t7.length ((ν6 7).n 0)]) (.bool t16) (fun ν10 => ((((!t11) || ((t12 && t13) && (!t14))) == false) && (t15 == true))) [true, false, false] 54 (fun ν10 w hg hF => box_Subset.calls t5.2 t7 ((ν4 1).o 1) ((ν4 1).n 1) ((ν6 7).o 0) ((ν6 7).n 0) t16 w (owns_row (ow_of hF.1)) (owns_row (ow_of hF.2.1)) (ifp ht16 hg))) <|
      .cons [55] (ok_and 51 54 (fun ν10 => (((!t11) || ((t12 && t13) && (!t14))) == false)) (fun ν10 => (((!t11) || ((t12 && t13) && (!t14))) == false)) (fun ν10 => t15) (fun ν10 => t16) 55) <|
      .cons [56] (ok_valg (fun ν10 => .bool (t15 && t16)) (fun ν10 => (((!t11) || ((t12 && t13) && (!t14))) == false)) [false] 56) <|
      .cons [57] (ok_valg (fun ν10 => .slice ((ν4 1).o 0) t5.1.length ((ν4 1).n 0)) (fun ν10 => ((((!t11) || ((t12 && t13) && (!t14))) == false) && ((t15 && t16) == true))) [true] 57) <|
      .cons [58] (ok_valg (fun ν10 => .slice ((ν6 7).o 0) t7.length ((ν6 7).n 0)) (fun ν10 => ((((!t11) || ((t12 && t13) && (!t14))) == false) && ((t15 && t16) == true))) [true] 58) <|
      .cons [59] (ok_callLg [92, 94] (fun ν10 => [owK 40 2 ((ν4 1).o 0) t5.1.length ((ν4 1).n 0) (t5.1.flatMap en_TInterval), owK 40 2 ((ν6 7).o 0) t7.length ((ν6 7).n 0) (t7.flatMap en_TInterval)]) 23 (fun ν10 => #[.slice ((ν4 1).o 0) t5.1.length ((ν4 1).n 0), .slice ((ν6 7).o 0) t7.length ((ν6 7).n 0)]) (.bool t17) (fun ν10 => ((((!t11) || ((t12 && t13) && (!t14))) == false) && ((t15 && t16) == true))) [true, false, false] 59 (fun ν10 w hg hF => box_Subset.calls t5.1 t7 ((ν4 1).o 0) ((ν4 1).n 0) ((ν6 7).o 0) ((ν6 7).n 0) t17 w (owns_row (ow_of hF.1)) (owns_row (ow_of hF.2.1)) (ifp ht17 hg))) <|
      .cons [60] (ok_valg (fun ν10 => .bool (!t17)) (fun ν10 => ((((!t11) || ((t12 && t13) && (!t14))) == false) && ((t15 && t16) == true))) [false] 60) <|
      .cons [61] (ok_and 56 60 (fun ν10 => (((!t11) || ((t12 && t13) && (!t14))) == false)) (fun ν10 => (((!t11) || ((t12 && t13) && (!t14))) == false)) (fun ν10 => (t15 && t16)) (fun ν10 => (!t17)) 61) <|
      .cons [62] (ok_or 47 61 (fun ν10 => true) (fun ν10 => true) (fun ν10 => ((!t11) || ((t12 && t13) && (!t14)))) (fun ν10 => ((t15 && t16) && (!t17))) 62) <| .nil) (by kernel_rfl) fun ν10 a w' H => ?_
  replace H := H.toL [(2, .slot true (.bool false)), (3, .slot true (.bool t3)), (4, .slot true (.slice ((ν4 1).o 0) t5.1.length ((ν4 1).n 0))), (5, .slot true (.slice ((ν4 1).o 1) t5.2.length ((ν4 1).n 1))), (7, .slot true (.slice ((ν8 4).o 0) t9.length ((ν8 4).n 0))), (62, .slot true (.bool (((!t11) || ((t12 && t13) && (!t14))) || ((t15 && t16) && (!t17))))), (92, owK 40 2 ((ν4 1).o 0) t5.1.length ((ν4 1).n 0) (t5.1.flatMap en_TInterval)), (93, owK 40 2 ((ν4 1).o 1) t5.2.length ((ν4 1).n 1) (t5.2.flatMap en_TInterval)), (95, owK 2 1 ((ν8 4).o 0) t9.length ((ν8 4).n 0) (t9.flatMap en_i64))] (by kernel_rfl)
  refine k_cond H (by kernel_rfl) (t := (((!t11) || ((t12 && t13) && (!t14))) || ((t15 && t16) && (!t17)))) (by kernel_rfl) (fun c26 => ?_) (fun c26 => ?_)
  · rw [if_pos c26] at G
    refine k_seq ?_
    refine k_reg mixed H (.cons [2] (ok_val (fun ν18 => .bool false) 2) <| .nil) (by kernel_rfl) fun ν18 a w' H => ?_
    replace H := H.toL [(2, .slot true (.bool false)), (3, .slot true (.bool t3)), (4, .slot true (.slice ((ν4 1).o 0) t5.1.length ((ν4 1).n 0))), (5, .slot true (.slice ((ν4 1).o 1) t5.2.length ((ν4 1).n 1))), (7, .slot true (.slice ((ν8 4).o 0) t9.length ((ν8 4).n 0))), (92, owK 40 2 ((ν4 1).o 0) t5.1.length ((ν4 1).n 0) (t5.1.flatMap en_TInterval)), (93, owK 40 2 ((ν4 1).o 1) t5.2.length ((ν4 1).n 1) (t5.2.flatMap en_TInterval)), (95, owK 2 1 ((ν8 4).o 0) t9.length ((ν8 4).n 0) (t9.flatMap en_i64))] (by kernel_rfl)
    refine k_ret ?_
    obtain rfl := Option.some.inj G
    exact k_done0 H _ (by kernel_rfl) (by kernel_rfl)
  · rw [if_neg (nt c26)] at G
    refine k_skip ?_
    refine k_seq ?_
    replace G := bnd G; obtain ⟨t20, ht20, G⟩ := G
    replace G := bnd G; obtain ⟨t21, ht21, G⟩ := G
    replace G := bnd G; obtain ⟨t22, ht22, G⟩ := G
    replace G := bnd G; obtain ⟨z23, hz23, G⟩ := G
    replace hz23 := Option.some.inj hz23
    by_cases c24 : z23 = true
    · rw [if_pos c24] at G; subst c24
      replace G := bnd G; obtain ⟨t24, ht24, G⟩ := G
      replace G := bnd G; obtain ⟨t25, ht25, G⟩ := G
      refine k_reg mixed H (.cons [63] (ok_val (fun ν19 => .bool t3) 63) <|
      .cons [64] (ok_val (fun ν19 => .bool t3) 64) <|
      .cons [65] (ok_valg (fun ν19 => .slice ((ν4 1).o 0) t5.1.length ((ν4 1).n 0)) (fun ν19 => (t3 == true)) [true] 65) <|
      .cons [66] (ok_valg (fun ν19 => .slice ((ν8 4).o 0) t9.length ((ν8 4).n 0)) (fun ν19 => (t3 == true)) [true] 66) <|
      .cons [67] (ok_callLg [92, 95] (fun ν19 => [owK 40 2 ((ν4 1).o 0) t5.1.length ((ν4 1).n 0) (t5.1.flatMap en_TInterval), owK 2 1 ((ν8 4).o 0) t9.length ((ν8 4).n 0) (t9.flatMap en_i64)]) 21 (fun ν19 => #[.slice ((ν4 1).o 0) t5.1.length ((ν4 1).n 0), .slice ((ν8 4).o 0) t9.length ((ν8 4).n 0)]) (.bool t20) (fun ν19 => (t3 == true)) [true, false, false] 67 (fun ν19 w hg hF => box_Contains.calls k0 t5.1 t9 ((ν4 1).o 0) ((ν4 1).n 0) ((ν8 4).o 0) ((ν8 4).n 0) t20 w (owns_row (ow_of hF.1)) (owns_row (ow_of hF.2.1)) (ifp ht20 hg))) <|
      .cons [68] (ok_and 64 67 (fun ν19 => true) (fun ν19 => true) (fun ν19 => t3) (fun ν19 => t20) 68) <|
      .cons [69] (ok_val (fun ν19 => .bool (t3 && t20)) 69) <|
      .cons [70] (ok_valg (fun ν19 => .slice ((ν4 1).o 0) t5.1.length ((ν4 1).n 0)) (fun ν19 => ((t3 && t20) == true)) [true] 70) <|
      .cons [71] (ok_valg (fun ν19 => .slice ((ν4 1).o 1) t5.2.length ((ν4 1).n 1)) (fun ν19 => ((t3 && t20) == true)) [true] 71) <|
      .cons [72] (ok_callLg [92, 93] (fun ν19 => [owK 40 2 ((ν4 1).o 0) t5.1.length ((ν4 1).n 0) (t5.1.flatMap en_TInterval), owK 40 2 ((ν4 1).o 1) t5.2.length ((ν4 1).n 1) (t5.2.flatMap en_TInterval)]) 23 (fun ν19 => #[.slice ((ν4 1).o 0) t5.1.length ((ν4 1).n 0), .slice ((ν4 1).o 1) t5.2.length ((ν4 1).n 1)]) (.bool t21) (fun ν19 => ((t3 && t20) == true)) [true, false, false] 72 (fun ν19 w hg hF => box_Subset.calls t5.1 t5.2 ((ν4 1).o 0) ((ν4 1).n 0) ((ν4 1).o 1) ((ν4 1).n 1) t21 w (owns_row (ow_of hF.1)) (owns_row (ow_of hF.2.1)) (ifp ht21 hg))) <|
      .cons [73] (ok_valg (fun ν19 => .bool (!t21)) (fun ν19 => ((t3 && t20) == true)) [false] 73) <|
      .cons [74] (ok_valg (fun ν19 => .bool (!t21)) (fun ν19 => ((t3 && t20) == true)) [false] 74) <|
      .cons [75] (ok_valg (fun ν19 => .slice ((ν4 1).o 1) t5.2.length ((ν4 1).n 1)) (fun ν19 => (((t3 && t20) == true) && ((!t21) == false))) [true] 75) <|
      .cons [76] (ok_valg (fun ν19 => .slice ((ν8 4).o 0) t9.length ((ν8 4).n 0)) (fun ν19 => (((t3 && t20) == true) && ((!t21) == false))) [true] 76) <|
      .cons [77] (ok_callLg [93, 95] (fun ν19 => [owK 40 2 ((ν4 1).o 1) t5.2.length ((ν4 1).n 1) (t5.2.flatMap en_TInterval), owK 2 1 ((ν8 4).o 0) t9.length ((ν8 4).n 0) (t9.flatMap en_i64)]) 21 (fun ν19 => #[.slice ((ν4 1).o 1) t5.2.length ((ν4 1).n 1), .slice ((ν8 4).o 0) t9.length ((ν8 4).n 0)]) (.bool t22) (fun ν19 => (((t3 && t20) == true) && ((!t21) == false))) [true, false, false] 77 (fun ν19 w hg hF => box_Contains.calls k0 t5.2 t9 ((ν4 1).o 1) ((ν4 1).n 1) ((ν8 4).o 0) ((ν8 4).n 0) t22 w (owns_row (ow_of hF.1)) (owns_row (ow_of hF.2.1)) (ifp ht22 hg))) <|
      .cons [78] (ok_or 74 77 (fun ν19 => ((t3 && t20) == true)) (fun ν19 => ((t3 && t20) == true)) (fun ν19 => (!t21)) (fun ν19 => t22) 78) <|
      .cons [79] (ok_and 69 78 (fun ν19 => true) (fun ν19 => true) (fun ν19 => (t3 && t20)) (fun ν19 => ((!t21) || t22)) 79) <|
      .cons [80] (ok_as (u' := fun ν19 => [(80, .slot true (.bool true))]) (ok_val (fun ν19 => .bool ((t3 && t20) && ((!t21) || t22))) 80) (fun _ => by rw [hz23])) <|
      .cons [81] (ok_gd (ok_val (fun ν19 => .slice ((ν8 4).o 0) t9.length ((ν8 4).n 0)) 81) (by intro _; kernel_rfl)) <|
      .cons [82, 96] (ok_gd (ok_callRL [95] (fun ν19 => [owK 2 1 ((ν8 4).o 0) t9.length ((ν8 4).n 0) (t9.flatMap en_i64)]) 34 (fun ν19 => #[.slice ((ν8 4).o 0) t9.length ((ν8 4).n 0)]) (fun p cap => .slice p t24.length cap) 40 2 t24.length (t24.flatMap en_TInterval) 82 96 (fun ν19 w hF => box_Point.calls k0 t9 ((ν8 4).o 0) ((ν8 4).n 0) t24 w (owns_row (ow_of hF.1)) ht24)) (by intro _; kernel_rfl)) <|
      .cons [83] (ok_gd (ok_val (fun ν19 => .slice ((ν4 1).o 0) t5.1.length ((ν4 1).n 0)) 83) (by intro _; kernel_rfl)) <|
      .cons [84] (ok_gd (ok_callL [96, 92] (fun ν19 => [owK 40 2 ((ν19 19).o 0) t24.length ((ν19 19).n 0) (t24.flatMap en_TInterval), owK 40 2 ((ν4 1).o 0) t5.1.length ((ν4 1).n 0) (t5.1.flatMap en_TInterval)]) 23 (fun ν19 => #[.slice ((ν19 19).o 0) t24.length ((ν19 19).n 0), .slice ((ν4 1).o 0) t5.1.length ((ν4 1).n 0)]) (.bool t25) 84 (fun ν19 w hF => box_Subset.calls t24 t5.1 ((ν19 19).o 0) ((ν19 19).n 0) ((ν4 1).o 0) ((ν4 1).n 0) t25 w (owns_row (ow_of hF.1)) (owns_row (ow_of hF.2.1)) ht25)) (by intro _; kernel_rfl)) <|
      .cons [85] (ok_pickK (fun ν19 => .bool t25) 85) <|
      .cons [2] (ok_val (fun ν19 => .bool t25) 2) <| .nil) (by kernel_rfl) fun ν19 a w' H => ?_
      replace H := H.toL [(2, .slot true (.bool t25))] (by kernel_rfl)
      refine k_ret ?_
      obtain rfl := Option.some.inj G
      exact k_done0 H _ (by kernel_rfl) (by kernel_rfl)
    rw [if_neg c24] at G
    by_cases c25 : z23 = false
    · rw [if_pos c25] at G; subst c25
      refine k_reg mixed H (.cons [63] (ok_val (fun ν19 => .bool t3) 63) <|
      .cons [64] (ok_val (fun ν19 => .bool t3) 64) <|
      .cons [65] (ok_valg (fun ν19 => .slice ((ν4 1).o 0) t5.1.length ((ν4 1).n 0)) (fun ν19 => (t3 == true)) [true] 65) <|
      .cons [66] (ok_valg (fun ν19 => .slice ((ν8 4).o 0) t9.length ((ν8 4).n 0)) (fun ν19 => (t3 == true)) [true] 66) <|
      .cons [67] (ok_callLg [92, 95] (fun ν19 => [owK 40 2 ((ν4 1).o 0) t5.1.length ((ν4 1).n 0) (t5.1.flatMap en_TInterval), owK 2 1 ((ν8 4).o 0) t9.length ((ν8 4).n 0) (t9.flatMap en_i64)]) 21 (fun ν19 => #[.slice ((ν4 1).o 0) t5.1.length ((ν4 1).n 0), .slice ((ν8 4).o 0) t9.length ((ν8 4).n 0)]) (.bool t20) (fun ν19 => (t3 == true)) [true, false, false] 67 (fun ν19 w hg hF => box_Contains.calls k0 t5.1 t9 ((ν4 1).o 0) ((ν4 1).n 0) ((ν8 4).o 0) ((ν8 4).n 0) t20 w (owns_row (ow_of hF.1)) (owns_row (ow_of hF.2.1)) (ifp ht20 hg))) <|
      .cons [68] (ok_and 64 67 (fun ν19 => true) (fun ν19 => true) (fun ν19 => t3) (fun ν19 => t20) 68) <|
      .cons [69] (ok_val (fun ν19 => .bool (t3 && t20)) 69) <|
      .cons [70] (ok_valg (fun ν19 => .slice ((ν4 1).o 0) t5.1.length ((ν4 1).n 0)) (fun ν19 => ((t3 && t20) == true)) [true] 70) <|
      .cons [71] (ok_valg (fun ν19 => .slice ((ν4 1).o 1) t5.2.length ((ν4 1).n 1)) (fun ν19 => ((t3 && t20) == true)) [true] 71) <|
      .cons [72] (ok_callLg [92, 93] (fun ν19 => [owK 40 2 ((ν4 1).o 0) t5.1.length ((ν4 1).n 0) (t5.1.flatMap en_TInterval), owK 40 2 ((ν4 1).o 1) t5.2.length ((ν4 1).n 1) (t5.2.flatMap en_TInterval)]) 23 (fun ν19 => #[.slice ((ν4 1).o 0) t5.1.length ((ν4 1).n 0), .slice ((ν4 1).o 1) t5.2.length ((ν4 1).n 1)]) (.bool t21) (fun ν19 => ((t3 && t20) == true)) [true, false, false] 72 (fun ν19 w hg hF => box_Subset.calls t5.1 t5.2 ((ν4 1).o 0) ((ν4 1).n 0) ((ν4 1).o 1) ((ν4 1).n 1) t21 w (owns_row (ow_of hF.1)) (owns_row (ow_of hF.2.1)) (ifp ht21 hg))) <|
      .cons [73] (ok_valg (fun ν19 => .bool (!t21)) (fun ν19 => ((t3 && t20) == true)) [false] 73) <|
      .cons [74] (ok_valg (fun ν19 => .bool (!t21)) (fun ν19 => ((t3 && t20) == true)) [false] 74) <|
      .cons [75] (ok_valg (fun ν19 => .slice ((ν4 1).o 1) t5.2.length ((ν4 1).n 1)) (fun ν19 => (((t3 && t20) == true) && ((!t21) == false))) [true] 75) <|
      .cons [76] (ok_valg (fun ν19 => .slice ((ν8 4).o 0) t9.length ((ν8 4).n 0)) (fun ν19 => (((t3 && t20) == true) && ((!t21) == false))) [true] 76) <|
      .cons [77] (ok_callLg [93, 95] (fun ν19 => [owK 40 2 ((ν4 1).o 1) t5.2.length ((ν4 1).n 1) (t5.2.flatMap en_TInterval), owK 2 1 ((ν8 4).o 0) t9.length ((ν8 4).n 0) (t9.flatMap en_i64)]) 21 (fun ν19 => #[.slice ((ν4 1).o 1) t5.2.length ((ν4 1).n 1), .slice ((ν8 4).o 0) t9.length ((ν8 4).n 0)]) (.bool t22) (fun ν19 => (((t3 && t20) == true) && ((!t21) == false))) [true, false, false] 77 (fun ν19 w hg hF => box_Contains.calls k0 t5.2 t9 ((ν4 1).o 1) ((ν4 1).n 1) ((ν8 4).o 0) ((ν8 4).n 0) t22 w (owns_row (ow_of hF.1)) (owns_row (ow_of hF.2.1)) (ifp ht22 hg))) <|
      .cons [78] (ok_or 74 77 (fun ν19 => ((t3 && t20) == true)) (fun ν19 => ((t3 && t20) == true)) (fun ν19 => (!t21)) (fun ν19 => t22) 78) <|
      .cons [79] (ok_and 69 78 (fun ν19 => true) (fun ν19 => true) (fun ν19 => (t3 && t20)) (fun ν19 => ((!t21) || t22)) 79) <|
      .cons [80] (ok_as (u' := fun ν19 => [(80, .slot true (.bool false))]) (ok_val (fun ν19 => .bool ((t3 && t20) && ((!t21) || t22))) 80) (fun _ => by rw [hz23])) <|
      .cons [81] (ok_offB 81) <|
      .cons [82] (ok_offB 82) <|
      .cons [83] (ok_offB 83) <|
      .cons [84] (ok_offB 84) <|
      .cons [85] (ok_pickK (fun ν19 => .bool false) 85) <|
      .cons [2] (ok_val (fun ν19 => .bool false) 2) <| .nil) (by kernel_rfl) fun ν19 a w' H => ?_
      replace H := H.toL [(2, .slot true (.bool false))] (by kernel_rfl)
      refine k_ret ?_
      obtain rfl := Option.some.inj G
      exact k_done0 H _ (by kernel_rfl) (by kernel_rfl)
    rw [if_neg c25] at G
    cases G

end Go.Proofs.Ytgccinodonkgjaa
