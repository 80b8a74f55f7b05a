/- The law BoxIntersectIsGreatestLowerBound answers as the plain Lean function of its name. Printed by a program of this session. -/
import Derived.Test.YtgccinodonkgjaaFn2
set_option linter.unusedVariables false
set_option maxRecDepth 100000
namespace Go.Proofs.Ytgccinodonkgjaa
open Go Go.RowKit Go.Sx Go.Proofs
set_option maxHeartbeats 4000000 in
theorem armillarylaw03_BoxIntersectIsGreatestLowerBound.calls (k0 : Nat) (a0 : TInput) (p_a0_A : Option Addr) (c_a0_A : Nat) (p_a0_B : Option Addr) (c_a0_B : Nat) (p_a0_C : Option Addr) (c_a0_C : Nat) (p_a0_P_e0 : Option Addr) (c_a0_P_e0 : Nat) (p_a0_P_e1 : Option Addr) (c_a0_P_e1 : Nat) (r : Bool) (w : World) (R_p_a0_A : RowAt w 2 p_a0_A a0.A.length (a0.A.flatMap en_TInterval)) (R_p_a0_B : RowAt w 2 p_a0_B a0.B.length (a0.B.flatMap en_TInterval)) (R_p_a0_C : RowAt w 2 p_a0_C a0.C.length (a0.C.flatMap en_TInterval)) (R_p_a0_P_e0 : RowAt w 1 p_a0_P_e0 a0.P.e0.length (a0.P.e0.flatMap en_u16)) (R_p_a0_P_e1 : RowAt w 1 p_a0_P_e1 a0.P.e1.length (a0.P.e1.flatMap en_u16)) (G : armillarylaw03_BoxIntersectIsGreatestLowerBound k0 a0 = some r) :
    Calls Try.prog 7 #[.agg #[.slice p_a0_A a0.A.length c_a0_A, .slice p_a0_B a0.B.length c_a0_B, .slice p_a0_C a0.C.length c_a0_C, .int .u8 a0.N, .slice p_a0_P_e0 a0.P.e0.length c_a0_P_e0, .slice p_a0_P_e1 a0.P.e1.length c_a0_P_e1]] w fun e w' => e = .returned (.bool r) ∧ Below w.heap.size w w' := by
  refine k_enterF (args := [.agg #[.slice p_a0_A a0.A.length c_a0_A, .slice p_a0_B a0.B.length c_a0_B, .slice p_a0_C a0.C.length c_a0_C, .int .u8 a0.N, .slice p_a0_P_e0 a0.P.e0.length c_a0_P_e0, .slice p_a0_P_e1 a0.P.e1.length c_a0_P_e1]]) 109 [(109, rdK 2 p_a0_A a0.A.length (a0.A.flatMap en_TInterval)), (110, rdK 2 p_a0_B a0.B.length (a0.B.flatMap en_TInterval)), (111, rdK 2 p_a0_C a0.C.length (a0.C.flatMap en_TInterval)), (112, rdK 1 p_a0_P_e0 a0.P.e0.length (a0.P.e0.flatMap en_u16)), (113, rdK 1 p_a0_P_e1 a0.P.e1.length (a0.P.e1.flatMap en_u16))] (by
    intro x hx
    simp only [List.mem_cons, List.not_mem_nil, or_false] at hx
    rcases hx with rfl | rfl | rfl | rfl | rfl
    · exact rd_fact R_p_a0_A (by decide) _
    · exact rd_fact R_p_a0_B (by decide) _
    · exact rd_fact R_p_a0_C (by decide) _
    · exact rd_fact R_p_a0_P_e0 (by decide) _
    · exact rd_fact R_p_a0_P_e1 (by decide) _) Try.func7 rfl (by kernel_rfl) (by kernel_rfl) fun a H => ?_
  unfold armillarylaw03_BoxIntersectIsGreatestLowerBound at G
  refine k_seq ?_
  refine k_reg mixed H (.cons [1, 114] (ok_new (fun b => .pointer (some ⟨b, 0, none⟩)) (fun ν1 => [.slice p_a0_A a0.A.length c_a0_A, .slice p_a0_B a0.B.length c_a0_B, .slice p_a0_C a0.C.length c_a0_C, .int .u8 a0.N, .slice p_a0_P_e0 a0.P.e0.length c_a0_P_e0, .slice p_a0_P_e1 a0.P.e1.length c_a0_P_e1]) 26 1 114) <|
      .cons [2] (ok_val (fun ν1 => .bool false) 2) <| .nil) (by kernel_rfl) fun ν1 a w' H => ?_
  replace H := H.toL [(1, .slot true (.pointer (some ⟨((ν1 0).n 0), 0, none⟩))), (2, .slot true (.bool false)), (114, .blk ((ν1 0).n 0) [.slice p_a0_A a0.A.length c_a0_A, .slice p_a0_B a0.B.length c_a0_B, .slice p_a0_C a0.C.length c_a0_C, .int .u8 a0.N, .slice p_a0_P_e0 a0.P.e0.length c_a0_P_e0, .slice p_a0_P_e1 a0.P.e1.length c_a0_P_e1] 26), (109, rdK 2 p_a0_A a0.A.length (a0.A.flatMap en_TInterval)), (110, rdK 2 p_a0_B a0.B.length (a0.B.flatMap en_TInterval)), (111, rdK 2 p_a0_C a0.C.length (a0.C.flatMap en_TInterval)), (112, rdK 1 p_a0_P_e0 a0.P.e0.length (a0.P.e0.flatMap en_u16)), (113, rdK 1 p_a0_P_e1 a0.P.e1.length (a0.P.e1.flatMap en_u16))] (by kernel_rfl)
  refine k_seq ?_
  replace G := bnd G; obtain ⟨t3, ht3, G⟩ := G
  refine k_reg mixed H (.cons [12] (ok_callv 12 (fun ν2 => #[]) (.bool t3) 12 [] (fun _ w _ => armillarylaw03_sanity.calls k0 t3 w ht3)) <|
      .cons [3] (ok_val (fun ν2 => .bool t3) 3) <| .nil) (by kernel_rfl) fun ν2 a w' H => ?_
  replace H := H.toL [(1, .slot true (.pointer (some ⟨((ν1 0).n 0), 0, none⟩))), (2, .slot true (.bool false)), (3, .slot true (.bool t3)), (114, .blk ((ν1 0).n 0) [.slice p_a0_A a0.A.length c_a0_A, .slice p_a0_B a0.B.length c_a0_B, .slice p_a0_C a0.C.length c_a0_C, .int .u8 a0.N, .slice p_a0_P_e0 a0.P.e0.length c_a0_P_e0, .slice p_a0_P_e1 a0.P.e1.length c_a0_P_e1] 26), (109, rdK 2 p_a0_A a0.A.length (a0.A.flatMap en_TInterval)), (110, rdK 2 p_a0_B a0.B.length (a0.B.flatMap en_TInterval)), (111, rdK 2 p_a0_C a0.C.length (a0.C.flatMap en_TInterval)), (112, rdK 1 p_a0_P_e0 a0.P.e0.length (a0.P.e0.flatMap en_u16)), (113, rdK 1 p_a0_P_e1 a0.P.e1.length (a0.P.e1.flatMap en_u16))] (by kernel_rfl)
  refine k_seq ?_
  replace G := bnd G; obtain ⟨t5, ht5, G⟩ := G
  refine k_reg mixed H (.cons [14] (ok_ld (fun ν4 => .agg #[.slice p_a0_A a0.A.length c_a0_A, .slice p_a0_B a0.B.length c_a0_B, .slice p_a0_C a0.C.length c_a0_C, .int .u8 a0.N, .slice p_a0_P_e0 a0.P.e0.length c_a0_P_e0, .slice p_a0_P_e1 a0.P.e1.length c_a0_P_e1]) 14 114 0 6 (fun ν4 => ((ν1 0).n 0)) (fun ν4 => [.slice p_a0_A a0.A.length c_a0_A, .slice p_a0_B a0.B.length c_a0_B, .slice p_a0_C a0.C.length c_a0_C, .int .u8 a0.N, .slice p_a0_P_e0 a0.P.e0.length c_a0_P_e0, .slice p_a0_P_e1 a0.P.e1.length c_a0_P_e1]) 26) <|
      .cons [15, 115, 116] (ok_callRL2 [109, 110, 111, 112, 113] (fun ν4 => [rdK 2 p_a0_A a0.A.length (a0.A.flatMap en_TInterval), rdK 2 p_a0_B a0.B.length (a0.B.flatMap en_TInterval), rdK 2 p_a0_C a0.C.length (a0.C.flatMap en_TInterval), rdK 1 p_a0_P_e0 a0.P.e0.length (a0.P.e0.flatMap en_u16), rdK 1 p_a0_P_e1 a0.P.e1.length (a0.P.e1.flatMap en_u16)]) 13 (fun ν4 => #[.agg #[.slice p_a0_A a0.A.length c_a0_A, .slice p_a0_B a0.B.length c_a0_B, .slice p_a0_C a0.C.length c_a0_C, .int .u8 a0.N, .slice p_a0_P_e0 a0.P.e0.length c_a0_P_e0, .slice p_a0_P_e1 a0.P.e1.length c_a0_P_e1]]) (fun p cap p2 cap2 => .tuple #[.slice p t5.1.length cap, .slice p2 t5.2.length cap2]) 40 2 t5.1.length (t5.1.flatMap en_TInterval) 40 2 t5.2.length (t5.2.flatMap en_TInterval) 15 115 116 (fun ν4 w hF => armillarylaw03_boxes.calls k0 (⟨a0.A, a0.B, a0.C, a0.N, (⟨a0.P.e0, a0.P.e1⟩ : TA2_List_Int)⟩ : TInput) p_a0_A c_a0_A p_a0_B c_a0_B p_a0_C c_a0_C p_a0_P_e0 c_a0_P_e0 p_a0_P_e1 c_a0_P_e1 t5 w (rd_of hF.1) (rd_of hF.2.1) (rd_of hF.2.2.1) (rd_of hF.2.2.2.1) (rd_of hF.2.2.2.2.1) ht5)) <|
      .cons [13] (ok_val (fun ν4 => .tuple #[.slice ((ν4 1).o 0) t5.1.length ((ν4 1).n 0), .slice ((ν4 1).o 1) t5.2.length ((ν4 1).n 1)]) 13) <|
      .cons [16] (ok_val (fun ν4 => .slice ((ν4 1).o 0) t5.1.length ((ν4 1).n 0)) 16) <|
      .cons [17] (ok_val (fun ν4 => .slice ((ν4 1).o 1) t5.2.length ((ν4 1).n 1)) 17) <|
      .cons [4] (ok_val (fun ν4 => .slice ((ν4 1).o 0) t5.1.length ((ν4 1).n 0)) 4) <|
      .cons [5] (ok_val (fun ν4 => .slice ((ν4 1).o 1) t5.2.length ((ν4 1).n 1)) 5) <| .nil) (by kernel_rfl) fun ν4 a w' H => ?_
  replace H := H.toL [(1, .slot true (.pointer (some ⟨((ν1 0).n 0), 0, none⟩))), (2, .slot true (.bool false)), (3, .slot true (.bool t3)), (4, .slot true (.slice ((ν4 1).o 0) t5.1.length ((ν4 1).n 0))), (5, .slot true (.slice ((ν4 1).o 1) t5.2.length ((ν4 1).n 1))), (114, .blk ((ν1 0).n 0) [.slice p_a0_A a0.A.length c_a0_A, .slice p_a0_B a0.B.length c_a0_B, .slice p_a0_C a0.C.length c_a0_C, .int .u8 a0.N, .slice p_a0_P_e0 a0.P.e0.length c_a0_P_e0, .slice p_a0_P_e1 a0.P.e1.length c_a0_P_e1] 26), (109, rdK 2 p_a0_A a0.A.length (a0.A.flatMap en_TInterval)), (110, rdK 2 p_a0_B a0.B.length (a0.B.flatMap en_TInterval)), (111, rdK 2 p_a0_C a0.C.length (a0.C.flatMap en_TInterval)), (112, rdK 1 p_a0_P_e0 a0.P.e0.length (a0.P.e0.flatMap en_u16)), (113, rdK 1 p_a0_P_e1 a0.P.e1.length (a0.P.e1.flatMap en_u16)), (115, owK 40 2 ((ν4 1).o 0) t5.1.length ((ν4 1).n 0) (t5.1.flatMap en_TInterval)), (116, owK 40 2 ((ν4 1).o 1) t5.2.length ((ν4 1).n 1) (t5.2.flatMap en_TInterval))] (by kernel_rfl)
  refine k_seq ?_
  replace G := bnd G; obtain ⟨t7, ht7, G⟩ := G
  refine k_reg mixed H (.cons [18] (ok_val (fun ν6 => .pointer (some ⟨((ν1 0).n 0), 2, none⟩)) 18) <|
      .cons [19] (ok_ld (fun ν6 => .slice p_a0_C a0.C.length c_a0_C) 19 114 2 1 (fun ν6 => ((ν1 0).n 0)) (fun ν6 => [.slice p_a0_A a0.A.length c_a0_A, .slice p_a0_B a0.B.length c_a0_B, .slice p_a0_C a0.C.length c_a0_C, .int .u8 a0.N, .slice p_a0_P_e0 a0.P.e0.length c_a0_P_e0, .slice p_a0_P_e1 a0.P.e1.length c_a0_P_e1]) 26) <|
      .cons [20] (ok_val (fun ν6 => .pointer (some ⟨((ν1 0).n 0), 3, none⟩)) 20) <|
      .cons [21] (ok_ld (fun ν6 => .int .u8 a0.N) 21 114 3 1 (fun ν6 => ((ν1 0).n 0)) (fun ν6 => [.slice p_a0_A a0.A.length c_a0_A, .slice p_a0_B a0.B.length c_a0_B, .slice p_a0_C a0.C.length c_a0_C, .int .u8 a0.N, .slice p_a0_P_e0 a0.P.e0.length c_a0_P_e0, .slice p_a0_P_e1 a0.P.e1.length c_a0_P_e1]) 26) <|
      .cons [22] (ok_val (fun ν6 => .int .u8 (Int.tmod a0.N 6)) 22) <|
      .cons [23] (ok_val (fun ν6 => .int .i64 (w_i64 (Int.tmod a0.N 6))) 23) <|
      .cons [24] (ok_val (fun ν6 => .int .i64 (w_i64 (1 + (w_i64 (Int.tmod a0.N 6))))) 24) <|
      .cons [25, 117] (ok_callRL [111] (fun ν6 => [rdK 2 p_a0_C a0.C.length (a0.C.flatMap en_TInterval)]) 44 (fun ν6 => #[.slice p_a0_C a0.C.length c_a0_C, .int .i64 (w_i64 (1 + (w_i64 (Int.tmod a0.N 6))))]) (fun p cap => .slice p t7.length cap) 40 2 t7.length (t7.flatMap en_TInterval) 25 117 (fun ν6 w hF => armillaryref03_Made.calls k0 a0.C (w_i64 (1 + (w_i64 (Int.tmod a0.N 6)))) p_a0_C c_a0_C t7 w (rd_of hF.1) ht7)) <|
      .cons [6] (ok_val (fun ν6 => .slice ((ν6 7).o 0) t7.length ((ν6 7).n 0)) 6) <| .nil) (by kernel_rfl) fun ν6 a w' H => ?_
  replace H := H.toL [(1, .slot true (.pointer (some ⟨((ν1 0).n 0), 0, none⟩))), (2, .slot true (.bool false)), (3, .slot true (.bool t3)), (4, .slot true (.slice ((ν4 1).o 0) t5.1.length ((ν4 1).n 0))), (5, .slot true (.slice ((ν4 1).o 1) t5.2.length ((ν4 1).n 1))), (6, .slot true (.slice ((ν6 7).o 0) t7.length ((ν6 7).n 0))), (114, .blk ((ν1 0).n 0) [.slice p_a0_A a0.A.length c_a0_A, .slice p_a0_B a0.B.length c_a0_B, .slice p_a0_C a0.C.length c_a0_C, .int .u8 a0.N, .slice p_a0_P_e0 a0.P.e0.length c_a0_P_e0, .slice p_a0_P_e1 a0.P.e1.length c_a0_P_e1] 26), (109, rdK 2 p_a0_A a0.A.length (a0.A.flatMap en_TInterval)), (110, rdK 2 p_a0_B a0.B.length (a0.B.flatMap en_TInterval)), (111, rdK 2 p_a0_C a0.C.length (a0.C.flatMap en_TInterval)), (112, rdK 1 p_a0_P_e0 a0.P.e0.length (a0.P.e0.flatMap en_u16)), (113, rdK 1 p_a0_P_e1 a0.P.e1.length (a0.P.e1.flatMap en_u16)), (115, owK 40 2 ((ν4 1).o 0) t5.1.length ((ν4 1).n 0) (t5.1.flatMap en_TInterval)), (116, owK 40 2 ((ν4 1).o 1) t5.2.length ((ν4 1).n 1) (t5.2.flatMap en_TInterval)), (117, owK 40 2 ((ν6 7).o 0) t7.length ((ν6 7).n 0) (t7.flatMap en_TInterval))] (by kernel_rfl)
  refine k_seq ?_
  replace G := bnd G; obtain ⟨t9, ht9, G⟩ := G
  refine k_reg mixed H (.cons [26] (ok_val (fun ν8 => .slice ((ν4 1).o 0) t5.1.length ((ν4 1).n 0)) 26) <|
      .cons [27] (ok_val (fun ν8 => .pointer (some ⟨((ν1 0).n 0), 4, none⟩)) 27) <|
      .cons [28] (ok_val (fun ν8 => .pointer (some ⟨((ν1 0).n 0), 4, none⟩)) 28) <|
      .cons [29] (ok_ld (fun ν8 => .slice p_a0_P_e0 a0.P.e0.length c_a0_P_e0) 29 114 4 1 (fun ν8 => ((ν1 0).n 0)) (fun ν8 => [.slice p_a0_A a0.A.length c_a0_A, .slice p_a0_B a0.B.length c_a0_B, .slice p_a0_C a0.C.length c_a0_C, .int .u8 a0.N, .slice p_a0_P_e0 a0.P.e0.length c_a0_P_e0, .slice p_a0_P_e1 a0.P.e1.length c_a0_P_e1]) 26) <|
      .cons [30, 118] (ok_callRL [115, 112] (fun ν8 => [owK 40 2 ((ν4 1).o 0) t5.1.length ((ν4 1).n 0) (t5.1.flatMap en_TInterval), rdK 1 p_a0_P_e0 a0.P.e0.length (a0.P.e0.flatMap en_u16)]) 16 (fun ν8 => #[.slice ((ν4 1).o 0) t5.1.length ((ν4 1).n 0), .slice p_a0_P_e0 a0.P.e0.length c_a0_P_e0]) (fun p cap => .slice p t9.length cap) 2 1 t9.length (t9.flatMap en_i64) 30 118 (fun ν8 w hF => armillaryref03_PointIn.calls k0 t5.1 a0.P.e0 ((ν4 1).o 0) ((ν4 1).n 0) p_a0_P_e0 c_a0_P_e0 t9 w (owns_row (ow_of hF.1)) (rd_of hF.2.1) ht9)) <|
      .cons [7] (ok_val (fun ν8 => .slice ((ν8 4).o 0) t9.length ((ν8 4).n 0)) 7) <| .nil) (by kernel_rfl) fun ν8 a w' H => ?_
  replace H := H.toL [(2, .slot true (.bool false)), (3, .slot true (.bool t3)), (4, .slot true (.slice ((ν4 1).o 0) t5.1.length ((ν4 1).n 0))), (5, .slot true (.slice ((ν4 1).o 1) t5.2.length ((ν4 1).n 1))), (6, .slot true (.slice ((ν6 7).o 0) t7.length ((ν6 7).n 0))), (7, .slot true (.slice ((ν8 4).o 0) t9.length ((ν8 4).n 0))), (115, owK 40 2 ((ν4 1).o 0) t5.1.length ((ν4 1).n 0) (t5.1.flatMap en_TInterval)), (116, owK 40 2 ((ν4 1).o 1) t5.2.length ((ν4 1).n 1) (t5.2.flatMap en_TInterval)), (117, owK 40 2 ((ν6 7).o 0) t7.length ((ν6 7).n 0) (t7.flatMap en_TInterval)), (118, owK 2 1 ((ν8 4).o 0) t9.length ((ν8 4).n 0) (t9.flatMap en_i64))] (by kernel_rfl)
  refine k_seq ?_
  replace G := bnd G; obtain ⟨t11, ht11, G⟩ := G
  refine k_reg mixed H (.cons [32] (ok_val (fun ν10 => .slice ((ν4 1).o 0) t5.1.length ((ν4 1).n 0)) 32) <|
      .cons [33] (ok_val (fun ν10 => .slice ((ν4 1).o 1) t5.2.length ((ν4 1).n 1)) 33) <|
      .cons [34, 119] (ok_callRL [115, 116] (fun ν10 => [owK 40 2 ((ν4 1).o 0) t5.1.length ((ν4 1).n 0) (t5.1.flatMap en_TInterval), owK 40 2 ((ν4 1).o 1) t5.2.length ((ν4 1).n 1) (t5.2.flatMap en_TInterval)]) 14 (fun ν10 => #[.slice ((ν4 1).o 0) t5.1.length ((ν4 1).n 0), .slice ((ν4 1).o 1) t5.2.length ((ν4 1).n 1)]) (fun p cap => .tuple #[.slice p t11.1.length cap, .bool t11.2]) 40 2 t11.1.length (t11.1.flatMap en_TInterval) 34 119 (fun ν10 w hF => box_Intersect.calls t5.1 t5.2 ((ν4 1).o 0) ((ν4 1).n 0) ((ν4 1).o 1) ((ν4 1).n 1) t11 w (owns_row (ow_of hF.1)) (owns_row (ow_of hF.2.1)) ht11)) <|
      .cons [31] (ok_val (fun ν10 => .tuple #[.slice ((ν10 2).o 0) t11.1.length ((ν10 2).n 0), .bool t11.2]) 31) <|
      .cons [35] (ok_val (fun ν10 => .slice ((ν10 2).o 0) t11.1.length ((ν10 2).n 0)) 35) <|
      .cons [36] (ok_val (fun ν10 => .bool t11.2) 36) <|
      .cons [8] (ok_val (fun ν10 => .slice ((ν10 2).o 0) t11.1.length ((ν10 2).n 0)) 8) <|
      .cons [9] (ok_val (fun ν10 => .bool t11.2) 9) <| .nil) (by kernel_rfl) fun ν10 a w' H => ?_
  replace H := H.toL [(2, .slot true (.bool false)), (3, .slot true (.bool t3)), (4, .slot true (.slice ((ν4 1).o 0) t5.1.length ((ν4 1).n 0))), (5, .slot true (.slice ((ν4 1).o 1) t5.2.length ((ν4 1).n 1))), (6, .slot true (.slice ((ν6 7).o 0) t7.length ((ν6 7).n 0))), (7, .slot true (.slice ((ν8 4).o 0) t9.length ((ν8 4).n 0))), (8, .slot true (.slice ((ν10 2).o 0) t11.1.length ((ν10 2).n 0))), (9, .slot true (.bool t11.2)), (115, owK 40 2 ((ν4 1).o 0) t5.1.length ((ν4 1).n 0) (t5.1.flatMap en_TInterval)), (116, owK 40 2 ((ν4 1).o 1) t5.2.length ((ν4 1).n 1) (t5.2.flatMap en_TInterval)), (117, owK 40 2 ((ν6 7).o 0) t7.length ((ν6 7).n 0) (t7.flatMap en_TInterval)), (118, owK 2 1 ((ν8 4).o 0) t9.length ((ν8 4).n 0) (t9.flatMap en_i64)), (119, owK 40 2 ((ν10 2).o 0) t11.1.length ((ν10 2).n 0) (t11.1.flatMap en_TInterval))] (by kernel_rfl)
  refine k_seq ?_
  replace G := bnd G; obtain ⟨t13, ht13, G⟩ := G
  refine k_reg mixed H (.cons [38] (ok_val (fun ν12 => .slice ((ν4 1).o 1) t5.2.length ((ν4 1).n 1)) 38) <|
      .cons [39] (ok_val (fun ν12 => .slice ((ν4 1).o 0) t5.1.length ((ν4 1).n 0)) 39) <|
      .cons [40, 120] (ok_callRL [116, 115] (fun ν12 => [owK 40 2 ((ν4 1).o 1) t5.2.length ((ν4 1).n 1) (t5.2.flatMap en_TInterval), owK 40 2 ((ν4 1).o 0) t5.1.length ((ν4 1).n 0) (t5.1.flatMap en_TInterval)]) 14 (fun ν12 => #[.slice ((ν4 1).o 1) t5.2.length ((ν4 1).n 1), .slice ((ν4 1).o 0) t5.1.length ((ν4 1).n 0)]) (fun p cap => .tuple #[.slice p t13.1.length cap, .bool t13.2]) 40 2 t13.1.length (t13.1.flatMap en_TInterval) 40 120 (fun ν12 w hF => box_Intersect.calls t5.2 t5.1 ((ν4 1).o 1) ((ν4 1).n 1) ((ν4 1).o 0) ((ν4 1).n 0) t13 w (owns_row (ow_of hF.1)) (owns_row (ow_of hF.2.1)) ht13)) <|
      .cons [37] (ok_val (fun ν12 => .tuple #[.slice ((ν12 2).o 0) t13.1.length ((ν12 2).n 0), .bool t13.2]) 37) <|
      .cons [41] (ok_val (fun ν12 => .slice ((ν12 2).o 0) t13.1.length ((ν12 2).n 0)) 41) <|
      .cons [42] (ok_val (fun ν12 => .bool t13.2) 42) <|
      .cons [10] (ok_val (fun ν12 => .slice ((ν12 2).o 0) t13.1.length ((ν12 2).n 0)) 10) <|
      .cons [11] (ok_val (fun ν12 => .bool t13.2) 11) <| .nil) (by kernel_rfl) fun ν12 a w' H => ?_
  replace H := H.toL [(2, .slot true (.bool false)), (3, .slot true (.bool t3)), (4, .slot true (.slice ((ν4 1).o 0) t5.1.length ((ν4 1).n 0))), (5, .slot true (.slice ((ν4 1).o 1) t5.2.length ((ν4 1).n 1))), (6, .slot true (.slice ((ν6 7).o 0) t7.length ((ν6 7).n 0))), (7, .slot true (.slice ((ν8 4).o 0) t9.length ((ν8 4).n 0))), (8, .slot true (.slice ((ν10 2).o 0) t11.1.length ((ν10 2).n 0))), (9, .slot true (.bool t11.2)), (10, .slot true (.slice ((ν12 2).o 0) t13.1.length ((ν12 2).n 0))), (11, .slot true (.bool t13.2)), (115, owK 40 2 ((ν4 1).o 0) t5.1.length ((ν4 1).n 0) (t5.1.flatMap en_TInterval)), (116, owK 40 2 ((ν4 1).o 1) t5.2.length ((ν4 1).n 1) (t5.2.flatMap en_TInterval)), (117, owK 40 2 ((ν6 7).o 0) t7.length ((ν6 7).n 0) (t7.flatMap en_TInterval)), (118, owK 2 1 ((ν8 4).o 0) t9.length ((ν8 4).n 0) (t9.flatMap en_i64)), (119, owK 40 2 ((ν10 2).o 0) t11.1.length ((ν10 2).n 0) (t11.1.flatMap en_TInterval)), (120, owK 40 2 ((ν12 2).o 0) t13.1.length ((ν12 2).n 0) (t13.1.flatMap en_TInterval))] (by kernel_rfl)
  refine k_seq ?_
  refine k_seq ?_
  replace G := bnd G; obtain ⟨t15, ht15, G⟩ := G
  replace G := bnd G; obtain ⟨t16, ht16, G⟩ := G
  replace G := bnd G; obtain ⟨t17, ht17, G⟩ := G
  replace G := bnd G; obtain ⟨t18, ht18, G⟩ := G
  refine k_reg mixed H (.cons [43] (ok_val (fun ν14 => .bool t11.2) 43) <|
      .cons [44] (ok_val (fun ν14 => .bool t13.2) 44) <|
      .cons [45] (ok_val (fun ν14 => .bool (!(t11.2 == t13.2))) 45) <|
      .cons [46] (ok_val (fun ν14 => .bool (!(t11.2 == t13.2))) 46) <|
      .cons [47] (ok_valg (fun ν14 => .slice ((ν10 2).o 0) t11.1.length ((ν10 2).n 0)) (fun ν14 => ((!(t11.2 == t13.2)) == false)) [true] 47) <|
      .cons [48] (ok_valg (fun ν14 => .slice ((ν12 2).o 0) t13.1.length ((ν12 2).n 0)) (fun ν14 => ((!(t11.2 == t13.2)) == false)) [true] 48) <|
      .cons [49] (ok_callLg [119, 120] (fun ν14 => [owK 40 2 ((ν10 2).o 0) t11.1.length ((ν10 2).n 0) (t11.1.flatMap en_TInterval), owK 40 2 ((ν12 2).o 0) t13.1.length ((ν12 2).n 0) (t13.1.flatMap en_TInterval)]) 20 (fun ν14 => #[.slice ((ν10 2).o 0) t11.1.length ((ν10 2).n 0), .slice ((ν12 2).o 0) t13.1.length ((ν12 2).n 0)]) (.bool t15) (fun ν14 => ((!(t11.2 == t13.2)) == false)) [true, false, false] 49 (fun ν14 w hg hF => armillaryref03_Same.calls k0 t11.1 t13.1 ((ν10 2).o 0) ((ν10 2).n 0) ((ν12 2).o 0) ((ν12 2).n 0) t15 w (owns_row (ow_of hF.1)) (owns_row (ow_of hF.2.1)) (ifp ht15 hg))) <|
      .cons [50] (ok_valg (fun ν14 => .bool (!t15)) (fun ν14 => ((!(t11.2 == t13.2)) == false)) [false] 50) <|
      .cons [51] (ok_or 46 50 (fun ν14 => true) (fun ν14 => true) (fun ν14 => (!(t11.2 == t13.2))) (fun ν14 => (!t15)) 51) <|
      .cons [52] (ok_val (fun ν14 => .bool ((!(t11.2 == t13.2)) || (!t15))) 52) <|
      .cons [53] (ok_valg (fun ν14 => .slice ((ν6 7).o 0) t7.length ((ν6 7).n 0)) (fun ν14 => (((!(t11.2 == t13.2)) || (!t15)) == false)) [true] 53) <|
      .cons [54] (ok_valg (fun ν14 => .slice ((ν4 1).o 0) t5.1.length ((ν4 1).n 0)) (fun ν14 => (((!(t11.2 == t13.2)) || (!t15)) == false)) [true] 54) <|
      .cons [55] (ok_callLg [117, 115] (fun ν14 => [owK 40 2 ((ν6 7).o 0) t7.length ((ν6 7).n 0) (t7.flatMap en_TInterval), owK 40 2 ((ν4 1).o 0) t5.1.length ((ν4 1).n 0) (t5.1.flatMap en_TInterval)]) 23 (fun ν14 => #[.slice ((ν6 7).o 0) t7.length ((ν6 7).n 0), .slice ((ν4 1).o 0) t5.1.length ((ν4 1).n 0)]) (.bool t16) (fun ν14 => (((!(t11.2 == t13.2)) || (!t15)) == false)) [true, false, false] 55 (fun ν14 w hg hF => box_Subset.calls t7 t5.1 ((ν6 7).o 0) ((ν6 7).n 0) ((ν4 1).o 0) ((ν4 1).n 0) t16 w (owns_row (ow_of hF.1)) (owns_row (ow_of hF.2.1)) (ifp ht16 hg))) <|
      .cons [56] (ok_valg (fun ν14 => .bool t16) (fun ν14 => (((!(t11.2 == t13.2)) || (!t15)) == false)) [false] 56) <|
      .cons [57] (ok_valg (fun ν14 => .slice ((ν6 7).o 0) t7.length ((ν6 7).n 0)) (fun ν14 => ((((!(t11.2 == t13.2)) || (!t15)) == false) && (t16 == true))) [true] 57) <|
      .cons [58] (ok_valg (fun ν14 => .slice ((ν4 1).o 1) t5.2.length ((ν4 1).n 1)) (fun ν14 => ((((!(t11.2 == t13.2)) || (!t15)) == false) && (t16 == true))) [true] 58) <|
      .cons [59] (ok_callLg [117, 116] (fun ν14 => [owK 40 2 ((ν6 7).o 0) t7.length ((ν6 7).n 0) (t7.flatMap en_TInterval), owK 40 2 ((ν4 1).o 1) t5.2.length ((ν4 1).n 1) (t5.2.flatMap en_TInterval)]) 23 (fun ν14 => #[.slice ((ν6 7).o 0) t7.length ((ν6 7).n 0), .slice ((ν4 1).o 1) t5.2.length ((ν4 1).n 1)]) (.bool t17) (fun ν14 => ((((!(t11.2 == t13.2)) || (!t15)) == false) && (t16 == true))) [true, false, false] 59 (fun ν14 w hg hF => box_Subset.calls t7 t5.2 ((ν6 7).o 0) ((ν6 7).n 0) ((ν4 1).o 1) ((ν4 1).n 1) t17 w (owns_row (ow_of hF.1)) (owns_row (ow_of hF.2.1)) (ifp ht17 hg))) <|
      .cons [60] (ok_and 56 59 (fun ν14 => (((!(t11.2 == t13.2)) || (!t15)) == false)) (fun ν14 => (((!(t11.2 == t13.2)) || (!t15)) == false)) (fun ν14 => t16) (fun ν14 => t17) 60) <|
      .cons [61] (ok_valg (fun ν14 => .bool (t16 && t17)) (fun ν14 => (((!(t11.2 == t13.2)) || (!t15)) == false)) [false] 61) <|
      .cons [62] (ok_valg (fun ν14 => .bool t11.2) (fun ν14 => ((((!(t11.2 == t13.2)) || (!t15)) == false) && ((t16 && t17) == true))) [true] 62) <|
      .cons [63] (ok_valg (fun ν14 => .bool t11.2) (fun ν14 => ((((!(t11.2 == t13.2)) || (!t15)) == false) && ((t16 && t17) == true))) [false] 63) <|
      .cons [64] (ok_valg (fun ν14 => .slice ((ν6 7).o 0) t7.length ((ν6 7).n 0)) (fun ν14 => (((((!(t11.2 == t13.2)) || (!t15)) == false) && ((t16 && t17) == true)) && (t11.2 == true))) [true] 64) <|
      .cons [65] (ok_valg (fun ν14 => .slice ((ν10 2).o 0) t11.1.length ((ν10 2).n 0)) (fun ν14 => (((((!(t11.2 == t13.2)) || (!t15)) == false) && ((t16 && t17) == true)) && (t11.2 == true))) [true] 65) <|
      .cons [66] (ok_callLg [117, 119] (fun ν14 => [owK 40 2 ((ν6 7).o 0) t7.length ((ν6 7).n 0) (t7.flatMap en_TInterval), owK 40 2 ((ν10 2).o 0) t11.1.length ((ν10 2).n 0) (t11.1.flatMap en_TInterval)]) 23 (fun ν14 => #[.slice ((ν6 7).o 0) t7.length ((ν6 7).n 0), .slice ((ν10 2).o 0) t11.1.length ((ν10 2).n 0)]) (.bool t18) (fun ν14 => (((((!(t11.2 == t13.2)) || (!t15)) == false) && ((t16 && t17) == true)) && (t11.2 == true))) [true, false, false] 66 (fun ν14 w hg hF => box_Subset.calls t7 t11.1 ((ν6 7).o 0) ((ν6 7).n 0) ((ν10 2).o 0) ((ν10 2).n 0) t18 w (owns_row (ow_of hF.1)) (owns_row (ow_of hF.2.1)) (ifp ht18 hg))) <|
      .cons [67] (ok_and 63 66 (fun ν14 => ((((!(t11.2 == t13.2)) || (!t15)) == false) && ((t16 && t17) == true))) (fun ν14 => ((((!(t11.2 == t13.2)) || (!t15)) == false) && ((t16 && t17) == true))) (fun ν14 => t11.2) (fun ν14 => t18) 67) <|
      .cons [68] (ok_valg (fun ν14 => .bool (!(t11.2 && t18))) (fun ν14 => ((((!(t11.2 == t13.2)) || (!t15)) == false) && ((t16 && t17) == true))) [false] 68) <|
      .cons [69] (ok_and 61 68 (fun ν14 => (((!(t11.2 == t13.2)) || (!t15)) == false)) (fun ν14 => (((!(t11.2 == t13.2)) || (!t15)) == false)) (fun ν14 => (t16 && t17)) (fun ν14 => (!(t11.2 && t18))) 69) <|
      .cons [70] (ok_or 52 69 (fun ν14 => true) (fun ν14 => true) (fun ν14 => ((!(t11.2 == t13.2)) || (!t15))) (fun ν14 => ((t16 && t17) && (!(t11.2 && t18)))) 70) <| .nil) (by kernel_rfl) fun ν14 a w' H => ?_
  replace H := H.toL [(2, .slot true (.bool false)), (3, .slot true (.bool t3)), (4, .slot true (.slice ((ν4 1).o 0) t5.1.length ((ν4 1).n 0))), (5, .slot true (.slice ((ν4 1).o 1) t5.2.length ((ν4 1).n 1))), (7, .slot true (.slice ((ν8 4).o 0) t9.length ((ν8 4).n 0))), (8, .slot true (.slice ((ν10 2).o 0) t11.1.length ((ν10 2).n 0))), (9, .slot true (.bool t11.2)), (70, .slot true (.bool (((!(t11.2 == t13.2)) || (!t15)) || ((t16 && t17) && (!(t11.2 && t18)))))), (115, owK 40 2 ((ν4 1).o 0) t5.1.length ((ν4 1).n 0) (t5.1.flatMap en_TInterval)), (116, owK 40 2 ((ν4 1).o 1) t5.2.length ((ν4 1).n 1) (t5.2.flatMap en_TInterval)), (118, owK 2 1 ((ν8 4).o 0) t9.length ((ν8 4).n 0) (t9.flatMap en_i64)), (119, owK 40 2 ((ν10 2).o 0) t11.1.length ((ν10 2).n 0) (t11.1.flatMap en_TInterval))] (by kernel_rfl)
  refine k_cond H (by kernel_rfl) (t := (((!(t11.2 == t13.2)) || (!t15)) || ((t16 && t17) && (!(t11.2 && t18))))) (by kernel_rfl) (fun c30 => ?_) (fun c30 => ?_)
  · rw [if_pos c30] at G
    refine k_seq ?_
    refine k_reg mixed H (.cons [2] (ok_val (fun ν19 => .bool false) 2) <| .nil) (by kernel_rfl) fun ν19 a w' H => ?_
    replace H := H.toL [(2, .slot true (.bool false)), (3, .slot true (.bool t3)), (4, .slot true (.slice ((ν4 1).o 0) t5.1.length ((ν4 1).n 0))), (5, .slot true (.slice ((ν4 1).o 1) t5.2.length ((ν4 1).n 1))), (7, .slot true (.slice ((ν8 4).o 0) t9.length ((ν8 4).n 0))), (8, .slot true (.slice ((ν10 2).o 0) t11.1.length ((ν10 2).n 0))), (9, .slot true (.bool t11.2)), (115, owK 40 2 ((ν4 1).o 0) t5.1.length ((ν4 1).n 0) (t5.1.flatMap en_TInterval)), (116, owK 40 2 ((ν4 1).o 1) t5.2.length ((ν4 1).n 1) (t5.2.flatMap en_TInterval)), (118, owK 2 1 ((ν8 4).o 0) t9.length ((ν8 4).n 0) (t9.flatMap en_i64)), (119, owK 40 2 ((ν10 2).o 0) t11.1.length ((ν10 2).n 0) (t11.1.flatMap en_TInterval))] (by kernel_rfl)
    refine k_ret ?_
    obtain rfl := Option.some.inj G
    exact k_done0 H _ (by kernel_rfl) (by kernel_rfl)
  · rw [if_neg (nt c30)] at G
    refine k_skip ?_
    refine k_seq ?_
    refine k_seq ?_
    refine k_reg mixed H (.cons [71] (ok_val (fun ν20 => .bool t11.2) 71) <|
      .cons [72] (ok_val (fun ν20 => .bool (!t11.2)) 72) <| .nil) (by kernel_rfl) fun ν20 a w' H => ?_
    replace H := H.toL [(2, .slot true (.bool false)), (3, .slot true (.bool t3)), (4, .slot true (.slice ((ν4 1).o 0) t5.1.length ((ν4 1).n 0))), (5, .slot true (.slice ((ν4 1).o 1) t5.2.length ((ν4 1).n 1))), (7, .slot true (.slice ((ν8 4).o 0) t9.length ((ν8 4).n 0))), (8, .slot true (.slice ((ν10 2).o 0) t11.1.length ((ν10 2).n 0))), (72, .slot true (.bool (!t11.2))), (115, owK 40 2 ((ν4 1).o 0) t5.1.length ((ν4 1).n 0) (t5.1.flatMap en_TInterval)), (116, owK 40 2 ((ν4 1).o 1) t5.2.length ((ν4 1).n 1) (t5.2.flatMap en_TInterval)), (118, owK 2 1 ((ν8 4).o 0) t9.length ((ν8 4).n 0) (t9.flatMap en_i64)), (119, owK 40 2 ((ν10 2).o 0) t11.1.length ((ν10 2).n 0) (t11.1.flatMap en_TInterval))] (by kernel_rfl)
    refine k_cond H (by kernel_rfl) (t := (!t11.2)) (by kernel_rfl) (fun c29 => ?_) (fun c29 => ?_)
    · rw [if_pos c29] at G
      refine k_seq ?_
      replace G := bnd G; obtain ⟨t22, ht22, G⟩ := G
      refine k_reg mixed H (.cons [73] (ok_val (fun ν21 => .bool t3) 73) <|
      .cons [74] (ok_val (fun ν21 => .bool t3) 74) <|
      .cons [75] (ok_valg (fun ν21 => .slice ((ν4 1).o 1) t5.2.length ((ν4 1).n 1)) (fun ν21 => (t3 == true)) [true] 75) <|
      .cons [76] (ok_valg (fun ν21 => .slice ((ν8 4).o 0) t9.length ((ν8 4).n 0)) (fun ν21 => (t3 == true)) [true] 76) <|
      .cons [77] (ok_callLg [116, 118] (fun ν21 => [owK 40 2 ((ν4 1).o 1) t5.2.length ((ν4 1).n 1) (t5.2.flatMap en_TInterval), owK 2 1 ((ν8 4).o 0) t9.length ((ν8 4).n 0) (t9.flatMap en_i64)]) 21 (fun ν21 => #[.slice ((ν4 1).o 1) t5.2.length ((ν4 1).n 1), .slice ((ν8 4).o 0) t9.length ((ν8 4).n 0)]) (.bool t22) (fun ν21 => (t3 == true)) [true, false, false] 77 (fun ν21 w hg hF => box_Contains.calls k0 t5.2 t9 ((ν4 1).o 1) ((ν4 1).n 1) ((ν8 4).o 0) ((ν8 4).n 0) t22 w (owns_row (ow_of hF.1)) (owns_row (ow_of hF.2.1)) (ifp ht22 hg))) <|
      .cons [78] (ok_valg (fun ν21 => .bool (!t22)) (fun ν21 => (t3 == true)) [false] 78) <|
      .cons [79] (ok_and 74 78 (fun ν21 => true) (fun ν21 => true) (fun ν21 => t3) (fun ν21 => (!t22)) 79) <|
      .cons [80] (ok_val (fun ν21 => .bool (t3 && (!t22))) 80) <|
      .cons [81] (ok_valg (fun ν21 => .slice ((ν10 2).o 0) t11.1.length ((ν10 2).n 0)) (fun ν21 => ((t3 && (!t22)) == true)) [true] 81) <|
      .cons [82] (ok_valg (fun ν21 => .int .i64 (t11.1.length : Int)) (fun ν21 => ((t3 && (!t22)) == true)) [false] 82) <|
      .cons [83] (ok_valg (fun ν21 => .bool ((t11.1.length : Int) == 0)) (fun ν21 => ((t3 && (!t22)) == true)) [false, true] 83) <|
      .cons [84] (ok_and 80 83 (fun ν21 => true) (fun ν21 => true) (fun ν21 => (t3 && (!t22))) (fun ν21 => ((t11.1.length : Int) == 0)) 84) <|
      .cons [2] (ok_val (fun ν21 => .bool ((t3 && (!t22)) && ((t11.1.length : Int) == 0))) 2) <| .nil) (by kernel_rfl) fun ν21 a w' H => ?_
      replace H := H.toL [(2, .slot true (.bool ((t3 && (!t22)) && ((t11.1.length : Int) == 0)))), (3, .slot true (.bool t3)), (4, .slot true (.slice ((ν4 1).o 0) t5.1.length ((ν4 1).n 0))), (5, .slot true (.slice ((ν4 1).o 1) t5.2.length ((ν4 1).n 1))), (7, .slot true (.slice ((ν8 4).o 0) t9.length ((ν8 4).n 0))), (8, .slot true (.slice ((ν10 2).o 0) t11.1.length ((ν10 2).n 0))), (115, owK 40 2 ((ν4 1).o 0) t5.1.length ((ν4 1).n 0) (t5.1.flatMap en_TInterval)), (116, owK 40 2 ((ν4 1).o 1) t5.2.length ((ν4 1).n 1) (t5.2.flatMap en_TInterval)), (118, owK 2 1 ((ν8 4).o 0) t9.length ((ν8 4).n 0) (t9.flatMap en_i64)), (119, owK 40 2 ((ν10 2).o 0) t11.1.length ((ν10 2).n 0) (t11.1.flatMap en_TInterval))] (by kernel_rfl)
      refine k_ret ?_
      obtain rfl := Option.some.inj G
      exact k_done0 H _ (by kernel_rfl) (by kernel_rfl)
    · rw [if_neg (nt c29)] at G
      refine k_skip ?_
      refine k_seq ?_
      replace G := bnd G; obtain ⟨t24, ht24, G⟩ := G
      replace G := bnd G; obtain ⟨t25, ht25, G⟩ := G
      replace G := bnd G; obtain ⟨t26, ht26, G⟩ := G
      replace G := bnd G; obtain ⟨t27, ht27, G⟩ := G
      replace G := bnd G; obtain ⟨t28, ht28, G⟩ := G
      refine k_reg mixed H (.cons [85] (ok_val (fun ν23 => .bool t3) 85) <|
      .cons [86] (ok_val (fun ν23 => .bool t3) 86) <|
      .cons [87] (ok_valg (fun ν23 => .slice ((ν10 2).o 0) t11.1.length ((ν10 2).n 0)) (fun ν23 => (t3 == true)) [true] 87) <|
      .cons [88] (ok_callLg [119] (fun ν23 => [owK 40 2 ((ν10 2).o 0) t11.1.length ((ν10 2).n 0) (t11.1.flatMap en_TInterval)]) 18 (fun ν23 => #[.slice ((ν10 2).o 0) t11.1.length ((ν10 2).n 0)]) (.bool t24) (fun ν23 => (t3 == true)) [true, false] 88 (fun ν23 w hg hF => box_Valid.calls k0 t11.1 ((ν10 2).o 0) ((ν10 2).n 0) t24 w (owns_row (ow_of hF.1)) (ifp ht24 hg))) <|
      .cons [89] (ok_and 86 88 (fun ν23 => true) (fun ν23 => true) (fun ν23 => t3) (fun ν23 => t24) 89) <|
      .cons [90] (ok_val (fun ν23 => .bool (t3 && t24)) 90) <|
      .cons [91] (ok_valg (fun ν23 => .slice ((ν10 2).o 0) t11.1.length ((ν10 2).n 0)) (fun ν23 => ((t3 && t24) == true)) [true] 91) <|
      .cons [92] (ok_valg (fun ν23 => .slice ((ν4 1).o 0) t5.1.length ((ν4 1).n 0)) (fun ν23 => ((t3 && t24) == true)) [true] 92) <|
      .cons [93] (ok_callLg [119, 115] (fun ν23 => [owK 40 2 ((ν10 2).o 0) t11.1.length ((ν10 2).n 0) (t11.1.flatMap en_TInterval), owK 40 2 ((ν4 1).o 0) t5.1.length ((ν4 1).n 0) (t5.1.flatMap en_TInterval)]) 23 (fun ν23 => #[.slice ((ν10 2).o 0) t11.1.length ((ν10 2).n 0), .slice ((ν4 1).o 0) t5.1.length ((ν4 1).n 0)]) (.bool t25) (fun ν23 => ((t3 && t24) == true)) [true, false, false] 93 (fun ν23 w hg hF => box_Subset.calls t11.1 t5.1 ((ν10 2).o 0) ((ν10 2).n 0) ((ν4 1).o 0) ((ν4 1).n 0) t25 w (owns_row (ow_of hF.1)) (owns_row (ow_of hF.2.1)) (ifp ht25 hg))) <|
      .cons [94] (ok_and 90 93 (fun ν23 => true) (fun ν23 => true) (fun ν23 => (t3 && t24)) (fun ν23 => t25) 94) <|
      .cons [95] (ok_val (fun ν23 => .bool ((t3 && t24) && t25)) 95) <|
      .cons [96] (ok_valg (fun ν23 => .slice ((ν10 2).o 0) t11.1.length ((ν10 2).n 0)) (fun ν23 => (((t3 && t24) && t25) == true)) [true] 96) <|
      .cons [97] (ok_valg (fun ν23 => .slice ((ν4 1).o 1) t5.2.length ((ν4 1).n 1)) (fun ν23 => (((t3 && t24) && t25) == true)) [true] 97) <|
      .cons [98] (ok_callLg [119, 116] (fun ν23 => [owK 40 2 ((ν10 2).o 0) t11.1.length ((ν10 2).n 0) (t11.1.flatMap en_TInterval), owK 40 2 ((ν4 1).o 1) t5.2.length ((ν4 1).n 1) (t5.2.flatMap en_TInterval)]) 23 (fun ν23 => #[.slice ((ν10 2).o 0) t11.1.length ((ν10 2).n 0), .slice ((ν4 1).o 1) t5.2.length ((ν4 1).n 1)]) (.bool t26) (fun ν23 => (((t3 && t24) && t25) == true)) [true, false, false] 98 (fun ν23 w hg hF => box_Subset.calls t11.1 t5.2 ((ν10 2).o 0) ((ν10 2).n 0) ((ν4 1).o 1) ((ν4 1).n 1) t26 w (owns_row (ow_of hF.1)) (owns_row (ow_of hF.2.1)) (ifp ht26 hg))) <|
      .cons [99] (ok_and 95 98 (fun ν23 => true) (fun ν23 => true) (fun ν23 => ((t3 && t24) && t25)) (fun ν23 => t26) 99) <|
      .cons [100] (ok_val (fun ν23 => .bool (((t3 && t24) && t25) && t26)) 100) <|
      .cons [101] (ok_valg (fun ν23 => .slice ((ν10 2).o 0) t11.1.length ((ν10 2).n 0)) (fun ν23 => ((((t3 && t24) && t25) && t26) == true)) [true] 101) <|
      .cons [102] (ok_valg (fun ν23 => .slice ((ν8 4).o 0) t9.length ((ν8 4).n 0)) (fun ν23 => ((((t3 && t24) && t25) && t26) == true)) [true] 102) <|
      .cons [103] (ok_callLg [119, 118] (fun ν23 => [owK 40 2 ((ν10 2).o 0) t11.1.length ((ν10 2).n 0) (t11.1.flatMap en_TInterval), owK 2 1 ((ν8 4).o 0) t9.length ((ν8 4).n 0) (t9.flatMap en_i64)]) 21 (fun ν23 => #[.slice ((ν10 2).o 0) t11.1.length ((ν10 2).n 0), .slice ((ν8 4).o 0) t9.length ((ν8 4).n 0)]) (.bool t27) (fun ν23 => ((((t3 && t24) && t25) && t26) == true)) [true, false, false] 103 (fun ν23 w hg hF => box_Contains.calls k0 t11.1 t9 ((ν10 2).o 0) ((ν10 2).n 0) ((ν8 4).o 0) ((ν8 4).n 0) t27 w (owns_row (ow_of hF.1)) (owns_row (ow_of hF.2.1)) (ifp ht27 hg))) <|
      .cons [104] (ok_valg (fun ν23 => .slice ((ν4 1).o 1) t5.2.length ((ν4 1).n 1)) (fun ν23 => ((((t3 && t24) && t25) && t26) == true)) [true] 104) <|
      .cons [105] (ok_valg (fun ν23 => .slice ((ν8 4).o 0) t9.length ((ν8 4).n 0)) (fun ν23 => ((((t3 && t24) && t25) && t26) == true)) [true] 105) <|
      .cons [106] (ok_callLg [116, 118] (fun ν23 => [owK 40 2 ((ν4 1).o 1) t5.2.length ((ν4 1).n 1) (t5.2.flatMap en_TInterval), owK 2 1 ((ν8 4).o 0) t9.length ((ν8 4).n 0) (t9.flatMap en_i64)]) 21 (fun ν23 => #[.slice ((ν4 1).o 1) t5.2.length ((ν4 1).n 1), .slice ((ν8 4).o 0) t9.length ((ν8 4).n 0)]) (.bool t28) (fun ν23 => ((((t3 && t24) && t25) && t26) == true)) [true, false, false] 106 (fun ν23 w hg hF => box_Contains.calls k0 t5.2 t9 ((ν4 1).o 1) ((ν4 1).n 1) ((ν8 4).o 0) ((ν8 4).n 0) t28 w (owns_row (ow_of hF.1)) (owns_row (ow_of hF.2.1)) (ifp ht28 hg))) <|
      .cons [107] (ok_valg (fun ν23 => .bool (t27 == t28)) (fun ν23 => ((((t3 && t24) && t25) && t26) == true)) [false, false] 107) <|
      .cons [108] (ok_and 100 107 (fun ν23 => true) (fun ν23 => true) (fun ν23 => (((t3 && t24) && t25) && t26)) (fun ν23 => (t27 == t28)) 108) <|
      .cons [2] (ok_val (fun ν23 => .bool ((((t3 && t24) && t25) && t26) && (t27 == t28))) 2) <| .nil) (by kernel_rfl) fun ν23 a w' H => ?_
      replace H := H.toL [(2, .slot true (.bool ((((t3 && t24) && t25) && t26) && (t27 == t28))))] (by kernel_rfl)
      refine k_ret ?_
      obtain rfl := Option.some.inj G
      exact k_done0 H _ (by kernel_rfl) (by kernel_rfl)

end Go.Proofs.Ytgccinodonkgjaa
