/- The law BoxDistanceEncloses answers as the plain Lean function of its name. Printed by a program of this session. -/
import Derived.Test.YtgccinodonkgjaaFn2
set_option linter.unusedVariables false
set_option maxRecDepth 100000
namespace Go.Proofs.Ytgccinodonkgjaa
open Go Go.RowKit Go.Sx Go.Proofs
set_option maxHeartbeats 4000000 in
theorem armillarylaw03_BoxDistanceEncloses.calls (k0 : Nat) (a0 : TInput) (p_a0_A : Option Addr) (c_a0_A : Nat) (p_a0_B : Option Addr) (c_a0_B : Nat) (p_a0_C : Option Addr) (c_a0_C : Nat) (p_a0_P_e0 : Option Addr) (c_a0_P_e0 : Nat) (p_a0_P_e1 : Option Addr) (c_a0_P_e1 : Nat) (r : Bool) (w : World) (R_p_a0_A : RowAt w 2 p_a0_A a0.A.length (a0.A.flatMap en_TInterval)) (R_p_a0_B : RowAt w 2 p_a0_B a0.B.length (a0.B.flatMap en_TInterval)) (R_p_a0_C : RowAt w 2 p_a0_C a0.C.length (a0.C.flatMap en_TInterval)) (R_p_a0_P_e0 : RowAt w 1 p_a0_P_e0 a0.P.e0.length (a0.P.e0.flatMap en_u16)) (R_p_a0_P_e1 : RowAt w 1 p_a0_P_e1 a0.P.e1.length (a0.P.e1.flatMap en_u16)) (G : armillarylaw03_BoxDistanceEncloses k0 a0 = some r) :
    Calls Try.prog 9 #[.agg #[.slice p_a0_A a0.A.length c_a0_A, .slice p_a0_B a0.B.length c_a0_B, .slice p_a0_C a0.C.length c_a0_C, .int .u8 a0.N, .slice p_a0_P_e0 a0.P.e0.length c_a0_P_e0, .slice p_a0_P_e1 a0.P.e1.length c_a0_P_e1]] w fun e w' => e = .returned (.bool r) ∧ Below w.heap.size w w' := by
  refine k_enterF (args := [.agg #[.slice p_a0_A a0.A.length c_a0_A, .slice p_a0_B a0.B.length c_a0_B, .slice p_a0_C a0.C.length c_a0_C, .int .u8 a0.N, .slice p_a0_P_e0 a0.P.e0.length c_a0_P_e0, .slice p_a0_P_e1 a0.P.e1.length c_a0_P_e1]]) 98 [(98, rdK 2 p_a0_A a0.A.length (a0.A.flatMap en_TInterval)), (99, rdK 2 p_a0_B a0.B.length (a0.B.flatMap en_TInterval)), (100, rdK 2 p_a0_C a0.C.length (a0.C.flatMap en_TInterval)), (101, rdK 1 p_a0_P_e0 a0.P.e0.length (a0.P.e0.flatMap en_u16)), (102, rdK 1 p_a0_P_e1 a0.P.e1.length (a0.P.e1.flatMap en_u16))] (by
    intro x hx
    simp only [List.mem_cons, List.not_mem_nil, or_false] at hx
    rcases hx with rfl | rfl | rfl | rfl | rfl
    · exact rd_fact R_p_a0_A (by decide) _
    · exact rd_fact R_p_a0_B (by decide) _
    · exact rd_fact R_p_a0_C (by decide) _
    · exact rd_fact R_p_a0_P_e0 (by decide) _
    · exact rd_fact R_p_a0_P_e1 (by decide) _) Try.func9 rfl (by kernel_rfl) (by kernel_rfl) fun a H => ?_
  unfold armillarylaw03_BoxDistanceEncloses at G
  refine k_seq ?_
  refine k_reg mixed H (.cons [1, 103] (ok_new (fun b => .pointer (some ⟨b, 0, none⟩)) (fun ν1 => [.slice p_a0_A a0.A.length c_a0_A, .slice p_a0_B a0.B.length c_a0_B, .slice p_a0_C a0.C.length c_a0_C, .int .u8 a0.N, .slice p_a0_P_e0 a0.P.e0.length c_a0_P_e0, .slice p_a0_P_e1 a0.P.e1.length c_a0_P_e1]) 26 1 103) <|
      .cons [2] (ok_val (fun ν1 => .bool false) 2) <| .nil) (by kernel_rfl) fun ν1 a w' H => ?_
  replace H := H.toL [(1, .slot true (.pointer (some ⟨((ν1 0).n 0), 0, none⟩))), (2, .slot true (.bool false)), (103, .blk ((ν1 0).n 0) [.slice p_a0_A a0.A.length c_a0_A, .slice p_a0_B a0.B.length c_a0_B, .slice p_a0_C a0.C.length c_a0_C, .int .u8 a0.N, .slice p_a0_P_e0 a0.P.e0.length c_a0_P_e0, .slice p_a0_P_e1 a0.P.e1.length c_a0_P_e1] 26), (98, rdK 2 p_a0_A a0.A.length (a0.A.flatMap en_TInterval)), (99, rdK 2 p_a0_B a0.B.length (a0.B.flatMap en_TInterval)), (100, rdK 2 p_a0_C a0.C.length (a0.C.flatMap en_TInterval)), (101, rdK 1 p_a0_P_e0 a0.P.e0.length (a0.P.e0.flatMap en_u16)), (102, rdK 1 p_a0_P_e1 a0.P.e1.length (a0.P.e1.flatMap en_u16))] (by kernel_rfl)
  refine k_seq ?_
  replace G := bnd G; obtain ⟨t3, ht3, G⟩ := G
  refine k_reg mixed H (.cons [14] (ok_callv 12 (fun ν2 => #[]) (.bool t3) 14 [] (fun _ w _ => armillarylaw03_sanity.calls k0 t3 w ht3)) <|
      .cons [3] (ok_val (fun ν2 => .bool t3) 3) <| .nil) (by kernel_rfl) fun ν2 a w' H => ?_
  replace H := H.toL [(1, .slot true (.pointer (some ⟨((ν1 0).n 0), 0, none⟩))), (2, .slot true (.bool false)), (3, .slot true (.bool t3)), (103, .blk ((ν1 0).n 0) [.slice p_a0_A a0.A.length c_a0_A, .slice p_a0_B a0.B.length c_a0_B, .slice p_a0_C a0.C.length c_a0_C, .int .u8 a0.N, .slice p_a0_P_e0 a0.P.e0.length c_a0_P_e0, .slice p_a0_P_e1 a0.P.e1.length c_a0_P_e1] 26), (98, rdK 2 p_a0_A a0.A.length (a0.A.flatMap en_TInterval)), (99, rdK 2 p_a0_B a0.B.length (a0.B.flatMap en_TInterval)), (100, rdK 2 p_a0_C a0.C.length (a0.C.flatMap en_TInterval)), (101, rdK 1 p_a0_P_e0 a0.P.e0.length (a0.P.e0.flatMap en_u16)), (102, rdK 1 p_a0_P_e1 a0.P.e1.length (a0.P.e1.flatMap en_u16))] (by kernel_rfl)
  refine k_seq ?_
  replace G := bnd G; obtain ⟨t5, ht5, G⟩ := G
  refine k_reg mixed H (.cons [16] (ok_ld (fun ν4 => .agg #[.slice p_a0_A a0.A.length c_a0_A, .slice p_a0_B a0.B.length c_a0_B, .slice p_a0_C a0.C.length c_a0_C, .int .u8 a0.N, .slice p_a0_P_e0 a0.P.e0.length c_a0_P_e0, .slice p_a0_P_e1 a0.P.e1.length c_a0_P_e1]) 16 103 0 6 (fun ν4 => ((ν1 0).n 0)) (fun ν4 => [.slice p_a0_A a0.A.length c_a0_A, .slice p_a0_B a0.B.length c_a0_B, .slice p_a0_C a0.C.length c_a0_C, .int .u8 a0.N, .slice p_a0_P_e0 a0.P.e0.length c_a0_P_e0, .slice p_a0_P_e1 a0.P.e1.length c_a0_P_e1]) 26) <|
      .cons [17, 104, 105] (ok_callRL2 [98, 99, 100, 101, 102] (fun ν4 => [rdK 2 p_a0_A a0.A.length (a0.A.flatMap en_TInterval), rdK 2 p_a0_B a0.B.length (a0.B.flatMap en_TInterval), rdK 2 p_a0_C a0.C.length (a0.C.flatMap en_TInterval), rdK 1 p_a0_P_e0 a0.P.e0.length (a0.P.e0.flatMap en_u16), rdK 1 p_a0_P_e1 a0.P.e1.length (a0.P.e1.flatMap en_u16)]) 13 (fun ν4 => #[.agg #[.slice p_a0_A a0.A.length c_a0_A, .slice p_a0_B a0.B.length c_a0_B, .slice p_a0_C a0.C.length c_a0_C, .int .u8 a0.N, .slice p_a0_P_e0 a0.P.e0.length c_a0_P_e0, .slice p_a0_P_e1 a0.P.e1.length c_a0_P_e1]]) (fun p cap p2 cap2 => .tuple #[.slice p t5.1.length cap, .slice p2 t5.2.length cap2]) 40 2 t5.1.length (t5.1.flatMap en_TInterval) 40 2 t5.2.length (t5.2.flatMap en_TInterval) 17 104 105 (fun ν4 w hF => armillarylaw03_boxes.calls k0 (⟨a0.A, a0.B, a0.C, a0.N, (⟨a0.P.e0, a0.P.e1⟩ : TA2_List_Int)⟩ : TInput) p_a0_A c_a0_A p_a0_B c_a0_B p_a0_C c_a0_C p_a0_P_e0 c_a0_P_e0 p_a0_P_e1 c_a0_P_e1 t5 w (rd_of hF.1) (rd_of hF.2.1) (rd_of hF.2.2.1) (rd_of hF.2.2.2.1) (rd_of hF.2.2.2.2.1) ht5)) <|
      .cons [15] (ok_val (fun ν4 => .tuple #[.slice ((ν4 1).o 0) t5.1.length ((ν4 1).n 0), .slice ((ν4 1).o 1) t5.2.length ((ν4 1).n 1)]) 15) <|
      .cons [18] (ok_val (fun ν4 => .slice ((ν4 1).o 0) t5.1.length ((ν4 1).n 0)) 18) <|
      .cons [19] (ok_val (fun ν4 => .slice ((ν4 1).o 1) t5.2.length ((ν4 1).n 1)) 19) <|
      .cons [4] (ok_val (fun ν4 => .slice ((ν4 1).o 0) t5.1.length ((ν4 1).n 0)) 4) <|
      .cons [5] (ok_val (fun ν4 => .slice ((ν4 1).o 1) t5.2.length ((ν4 1).n 1)) 5) <| .nil) (by kernel_rfl) fun ν4 a w' H => ?_
  replace H := H.toL [(1, .slot true (.pointer (some ⟨((ν1 0).n 0), 0, none⟩))), (2, .slot true (.bool false)), (3, .slot true (.bool t3)), (4, .slot true (.slice ((ν4 1).o 0) t5.1.length ((ν4 1).n 0))), (5, .slot true (.slice ((ν4 1).o 1) t5.2.length ((ν4 1).n 1))), (103, .blk ((ν1 0).n 0) [.slice p_a0_A a0.A.length c_a0_A, .slice p_a0_B a0.B.length c_a0_B, .slice p_a0_C a0.C.length c_a0_C, .int .u8 a0.N, .slice p_a0_P_e0 a0.P.e0.length c_a0_P_e0, .slice p_a0_P_e1 a0.P.e1.length c_a0_P_e1] 26), (98, rdK 2 p_a0_A a0.A.length (a0.A.flatMap en_TInterval)), (99, rdK 2 p_a0_B a0.B.length (a0.B.flatMap en_TInterval)), (100, rdK 2 p_a0_C a0.C.length (a0.C.flatMap en_TInterval)), (101, rdK 1 p_a0_P_e0 a0.P.e0.length (a0.P.e0.flatMap en_u16)), (102, rdK 1 p_a0_P_e1 a0.P.e1.length (a0.P.e1.flatMap en_u16)), (104, owK 40 2 ((ν4 1).o 0) t5.1.length ((ν4 1).n 0) (t5.1.flatMap en_TInterval)), (105, owK 40 2 ((ν4 1).o 1) t5.2.length ((ν4 1).n 1) (t5.2.flatMap en_TInterval))] (by kernel_rfl)
  refine k_seq ?_
  replace G := bnd G; obtain ⟨t7, ht7, G⟩ := G
  refine k_reg mixed H (.cons [20] (ok_val (fun ν6 => .slice ((ν4 1).o 0) t5.1.length ((ν4 1).n 0)) 20) <|
      .cons [21] (ok_val (fun ν6 => .pointer (some ⟨((ν1 0).n 0), 4, none⟩)) 21) <|
      .cons [22] (ok_val (fun ν6 => .pointer (some ⟨((ν1 0).n 0), 4, none⟩)) 22) <|
      .cons [23] (ok_ld (fun ν6 => .slice p_a0_P_e0 a0.P.e0.length c_a0_P_e0) 23 103 4 1 (fun ν6 => ((ν1 0).n 0)) (fun ν6 => [.slice p_a0_A a0.A.length c_a0_A, .slice p_a0_B a0.B.length c_a0_B, .slice p_a0_C a0.C.length c_a0_C, .int .u8 a0.N, .slice p_a0_P_e0 a0.P.e0.length c_a0_P_e0, .slice p_a0_P_e1 a0.P.e1.length c_a0_P_e1]) 26) <|
      .cons [24, 106] (ok_callRL [104, 101] (fun ν6 => [owK 40 2 ((ν4 1).o 0) t5.1.length ((ν4 1).n 0) (t5.1.flatMap en_TInterval), rdK 1 p_a0_P_e0 a0.P.e0.length (a0.P.e0.flatMap en_u16)]) 16 (fun ν6 => #[.slice ((ν4 1).o 0) t5.1.length ((ν4 1).n 0), .slice p_a0_P_e0 a0.P.e0.length c_a0_P_e0]) (fun p cap => .slice p t7.length cap) 2 1 t7.length (t7.flatMap en_i64) 24 106 (fun ν6 w hF => armillaryref03_PointIn.calls k0 t5.1 a0.P.e0 ((ν4 1).o 0) ((ν4 1).n 0) p_a0_P_e0 c_a0_P_e0 t7 w (owns_row (ow_of hF.1)) (rd_of hF.2.1) ht7)) <|
      .cons [6] (ok_val (fun ν6 => .slice ((ν6 4).o 0) t7.length ((ν6 4).n 0)) 6) <| .nil) (by kernel_rfl) fun ν6 a w' H => ?_
  replace H := H.toL [(1, .slot true (.pointer (some ⟨((ν1 0).n 0), 0, none⟩))), (2, .slot true (.bool false)), (3, .slot true (.bool t3)), (4, .slot true (.slice ((ν4 1).o 0) t5.1.length ((ν4 1).n 0))), (5, .slot true (.slice ((ν4 1).o 1) t5.2.length ((ν4 1).n 1))), (6, .slot true (.slice ((ν6 4).o 0) t7.length ((ν6 4).n 0))), (103, .blk ((ν1 0).n 0) [.slice p_a0_A a0.A.length c_a0_A, .slice p_a0_B a0.B.length c_a0_B, .slice p_a0_C a0.C.length c_a0_C, .int .u8 a0.N, .slice p_a0_P_e0 a0.P.e0.length c_a0_P_e0, .slice p_a0_P_e1 a0.P.e1.length c_a0_P_e1] 26), (98, rdK 2 p_a0_A a0.A.length (a0.A.flatMap en_TInterval)), (99, rdK 2 p_a0_B a0.B.length (a0.B.flatMap en_TInterval)), (100, rdK 2 p_a0_C a0.C.length (a0.C.flatMap en_TInterval)), (101, rdK 1 p_a0_P_e0 a0.P.e0.length (a0.P.e0.flatMap en_u16)), (102, rdK 1 p_a0_P_e1 a0.P.e1.length (a0.P.e1.flatMap en_u16)), (104, owK 40 2 ((ν4 1).o 0) t5.1.length ((ν4 1).n 0) (t5.1.flatMap en_TInterval)), (105, owK 40 2 ((ν4 1).o 1) t5.2.length ((ν4 1).n 1) (t5.2.flatMap en_TInterval)), (106, owK 2 1 ((ν6 4).o 0) t7.length ((ν6 4).n 0) (t7.flatMap en_i64))] (by kernel_rfl)
  refine k_seq ?_
  replace G := bnd G; obtain ⟨t9, ht9, G⟩ := G
  refine k_reg mixed H (.cons [25] (ok_val (fun ν8 => .slice ((ν4 1).o 1) t5.2.length ((ν4 1).n 1)) 25) <|
      .cons [26] (ok_val (fun ν8 => .pointer (some ⟨((ν1 0).n 0), 4, none⟩)) 26) <|
      .cons [27] (ok_val (fun ν8 => .pointer (some ⟨((ν1 0).n 0), 5, none⟩)) 27) <|
      .cons [28] (ok_ld (fun ν8 => .slice p_a0_P_e1 a0.P.e1.length c_a0_P_e1) 28 103 5 1 (fun ν8 => ((ν1 0).n 0)) (fun ν8 => [.slice p_a0_A a0.A.length c_a0_A, .slice p_a0_B a0.B.length c_a0_B, .slice p_a0_C a0.C.length c_a0_C, .int .u8 a0.N, .slice p_a0_P_e0 a0.P.e0.length c_a0_P_e0, .slice p_a0_P_e1 a0.P.e1.length c_a0_P_e1]) 26) <|
      .cons [29, 107] (ok_callRL [105, 102] (fun ν8 => [owK 40 2 ((ν4 1).o 1) t5.2.length ((ν4 1).n 1) (t5.2.flatMap en_TInterval), rdK 1 p_a0_P_e1 a0.P.e1.length (a0.P.e1.flatMap en_u16)]) 16 (fun ν8 => #[.slice ((ν4 1).o 1) t5.2.length ((ν4 1).n 1), .slice p_a0_P_e1 a0.P.e1.length c_a0_P_e1]) (fun p cap => .slice p t9.length cap) 2 1 t9.length (t9.flatMap en_i64) 29 107 (fun ν8 w hF => armillaryref03_PointIn.calls k0 t5.2 a0.P.e1 ((ν4 1).o 1) ((ν4 1).n 1) p_a0_P_e1 c_a0_P_e1 t9 w (owns_row (ow_of hF.1)) (rd_of hF.2.1) ht9)) <|
      .cons [7] (ok_val (fun ν8 => .slice ((ν8 4).o 0) t9.length ((ν8 4).n 0)) 7) <| .nil) (by kernel_rfl) fun ν8 a w' H => ?_
  replace H := H.toL [(2, .slot true (.bool false)), (3, .slot true (.bool t3)), (4, .slot true (.slice ((ν4 1).o 0) t5.1.length ((ν4 1).n 0))), (5, .slot true (.slice ((ν4 1).o 1) t5.2.length ((ν4 1).n 1))), (6, .slot true (.slice ((ν6 4).o 0) t7.length ((ν6 4).n 0))), (7, .slot true (.slice ((ν8 4).o 0) t9.length ((ν8 4).n 0))), (104, owK 40 2 ((ν4 1).o 0) t5.1.length ((ν4 1).n 0) (t5.1.flatMap en_TInterval)), (105, owK 40 2 ((ν4 1).o 1) t5.2.length ((ν4 1).n 1) (t5.2.flatMap en_TInterval)), (106, owK 2 1 ((ν6 4).o 0) t7.length ((ν6 4).n 0) (t7.flatMap en_i64)), (107, owK 2 1 ((ν8 4).o 0) t9.length ((ν8 4).n 0) (t9.flatMap en_i64))] (by kernel_rfl)
  refine k_seq ?_
  replace G := bnd G; obtain ⟨t11, ht11, G⟩ := G
  refine k_reg mixed H (.cons [30] (ok_val (fun ν10 => .slice ((ν4 1).o 0) t5.1.length ((ν4 1).n 0)) 30) <|
      .cons [31] (ok_val (fun ν10 => .slice ((ν4 1).o 1) t5.2.length ((ν4 1).n 1)) 31) <|
      .cons [32] (ok_callL [104, 105] (fun ν10 => [owK 40 2 ((ν4 1).o 0) t5.1.length ((ν4 1).n 0) (t5.1.flatMap en_TInterval), owK 40 2 ((ν4 1).o 1) t5.2.length ((ν4 1).n 1) (t5.2.flatMap en_TInterval)]) 28 (fun ν10 => #[.slice ((ν4 1).o 0) t5.1.length ((ν4 1).n 0), .slice ((ν4 1).o 1) t5.2.length ((ν4 1).n 1)]) (.agg #[.int .i64 t11.Lo, .int .i64 t11.Hi]) 32 (fun ν10 w hF => box_SquaredDistance.calls t5.1 t5.2 ((ν4 1).o 0) ((ν4 1).n 0) ((ν4 1).o 1) ((ν4 1).n 1) t11 w (owns_row (ow_of hF.1)) (owns_row (ow_of hF.2.1)) ht11)) <|
      .cons [8, 108] (ok_new (fun b => .pointer (some ⟨b, 0, none⟩)) (fun ν10 => [.int .i64 0, .int .i64 0]) 40 8 108) <|
      .cons [108] (ok_as (u' := fun ν10 => [(108, .blk ((ν10 3).n 0) [.int .i64 t11.Lo, .int .i64 t11.Hi] 40)]) (ok_store 108 0 (fun ν10 => ((ν10 3).n 0)) (fun ν10 => [.int .i64 0, .int .i64 0]) (fun ν10 => [.int .i64 t11.Lo, .int .i64 t11.Hi]) 40) (fun _ => by kernel_rfl)) <| .nil) (by kernel_rfl) fun ν10 a w' H => ?_
  replace H := H.toL [(2, .slot true (.bool false)), (3, .slot true (.bool t3)), (4, .slot true (.slice ((ν4 1).o 0) t5.1.length ((ν4 1).n 0))), (5, .slot true (.slice ((ν4 1).o 1) t5.2.length ((ν4 1).n 1))), (6, .slot true (.slice ((ν6 4).o 0) t7.length ((ν6 4).n 0))), (7, .slot true (.slice ((ν8 4).o 0) t9.length ((ν8 4).n 0))), (8, .slot true (.pointer (some ⟨((ν10 3).n 0), 0, none⟩))), (108, .blk ((ν10 3).n 0) [.int .i64 t11.Lo, .int .i64 t11.Hi] 40), (104, owK 40 2 ((ν4 1).o 0) t5.1.length ((ν4 1).n 0) (t5.1.flatMap en_TInterval)), (105, owK 40 2 ((ν4 1).o 1) t5.2.length ((ν4 1).n 1) (t5.2.flatMap en_TInterval)), (106, owK 2 1 ((ν6 4).o 0) t7.length ((ν6 4).n 0) (t7.flatMap en_i64)), (107, owK 2 1 ((ν8 4).o 0) t9.length ((ν8 4).n 0) (t9.flatMap en_i64))] (by kernel_rfl)
  refine k_seq ?_
  refine k_seq ?_
  replace G := bnd G; obtain ⟨t13, ht13, G⟩ := G
  replace G := bnd G; obtain ⟨t14, ht14, G⟩ := G
  refine k_reg mixed H (.cons [33] (ok_ld (fun ν12 => .agg #[.int .i64 t11.Lo, .int .i64 t11.Hi]) 33 108 0 2 (fun ν12 => ((ν10 3).n 0)) (fun ν12 => [.int .i64 t11.Lo, .int .i64 t11.Hi]) 40) <|
      .cons [34] (ok_val (fun ν12 => .slice ((ν4 1).o 1) t5.2.length ((ν4 1).n 1)) 34) <|
      .cons [35] (ok_val (fun ν12 => .slice ((ν4 1).o 0) t5.1.length ((ν4 1).n 0)) 35) <|
      .cons [36] (ok_callL [105, 104] (fun ν12 => [owK 40 2 ((ν4 1).o 1) t5.2.length ((ν4 1).n 1) (t5.2.flatMap en_TInterval), owK 40 2 ((ν4 1).o 0) t5.1.length ((ν4 1).n 0) (t5.1.flatMap en_TInterval)]) 28 (fun ν12 => #[.slice ((ν4 1).o 1) t5.2.length ((ν4 1).n 1), .slice ((ν4 1).o 0) t5.1.length ((ν4 1).n 0)]) (.agg #[.int .i64 t13.Lo, .int .i64 t13.Hi]) 36 (fun ν12 w hF => box_SquaredDistance.calls t5.2 t5.1 ((ν4 1).o 1) ((ν4 1).n 1) ((ν4 1).o 0) ((ν4 1).n 0) t13 w (owns_row (ow_of hF.1)) (owns_row (ow_of hF.2.1)) ht13)) <|
      .cons [37] (ok_val (fun ν12 => .bool (!((t11.Lo == t13.Lo) && ((t11.Hi == t13.Hi) && true)))) 37 (hv := fun _ _ => run_of (by kernel_rfl) (run_neq_agg (t := 40) (x := (.tmp 33)) (y := (.tmp 36)) (xs := #[.int .i64 t11.Lo, .int .i64 t11.Hi]) (ys := #[.int .i64 t13.Lo, .int .i64 t13.Hi]) (b := ((t11.Lo == t13.Lo) && ((t11.Hi == t13.Hi) && true))) (by kernel_rfl) (by kernel_rfl)))) <|
      .cons [38] (ok_val (fun ν12 => .bool (!((t11.Lo == t13.Lo) && ((t11.Hi == t13.Hi) && true)))) 38) <|
      .cons [39] (ok_ldg (fun ν12 => .agg #[.int .i64 t11.Lo, .int .i64 t11.Hi]) (fun ν12 => ((!((t11.Lo == t13.Lo) && ((t11.Hi == t13.Hi) && true))) == false)) [true] 39 108 0 2 (fun ν12 => ((ν10 3).n 0)) (fun ν12 => [.int .i64 t11.Lo, .int .i64 t11.Hi]) 40) <|
      .cons [40] (ok_call 47 (fun ν12 => #[.agg #[.int .i64 t11.Lo, .int .i64 t11.Hi]]) (.bool t14) (fun ν12 => ((!((t11.Lo == t13.Lo) && ((t11.Hi == t13.Hi) && true))) == false)) [true, false] 40 [] (fun _ w hg _ => interval_Valid.calls t11 t14 w (ifp ht14 hg))) <|
      .cons [41] (ok_valg (fun ν12 => .bool (!t14)) (fun ν12 => ((!((t11.Lo == t13.Lo) && ((t11.Hi == t13.Hi) && true))) == false)) [false] 41) <|
      .cons [42] (ok_or 38 41 (fun ν12 => true) (fun ν12 => true) (fun ν12 => (!((t11.Lo == t13.Lo) && ((t11.Hi == t13.Hi) && true)))) (fun ν12 => (!t14)) 42) <| .nil) (by kernel_rfl) fun ν12 a w' H => ?_
  replace H := H.toL [(2, .slot true (.bool false)), (3, .slot true (.bool t3)), (6, .slot true (.slice ((ν6 4).o 0) t7.length ((ν6 4).n 0))), (7, .slot true (.slice ((ν8 4).o 0) t9.length ((ν8 4).n 0))), (8, .slot true (.pointer (some ⟨((ν10 3).n 0), 0, none⟩))), (42, .slot true (.bool ((!((t11.Lo == t13.Lo) && ((t11.Hi == t13.Hi) && true))) || (!t14)))), (108, .blk ((ν10 3).n 0) [.int .i64 t11.Lo, .int .i64 t11.Hi] 40), (106, owK 2 1 ((ν6 4).o 0) t7.length ((ν6 4).n 0) (t7.flatMap en_i64)), (107, owK 2 1 ((ν8 4).o 0) t9.length ((ν8 4).n 0) (t9.flatMap en_i64))] (by kernel_rfl)
  refine k_cond H (by kernel_rfl) (t := ((!((t11.Lo == t13.Lo) && ((t11.Hi == t13.Hi) && true))) || (!t14))) (by kernel_rfl) (fun c47 => ?_) (fun c47 => ?_)
  · rw [if_pos c47] at G
    refine k_seq ?_
    refine k_reg mixed H (.cons [2] (ok_val (fun ν15 => .bool false) 2) <| .nil) (by kernel_rfl) fun ν15 a w' H => ?_
    replace H := H.toL [(2, .slot true (.bool false)), (3, .slot true (.bool t3)), (6, .slot true (.slice ((ν6 4).o 0) t7.length ((ν6 4).n 0))), (7, .slot true (.slice ((ν8 4).o 0) t9.length ((ν8 4).n 0))), (8, .slot true (.pointer (some ⟨((ν10 3).n 0), 0, none⟩))), (108, .blk ((ν10 3).n 0) [.int .i64 t11.Lo, .int .i64 t11.Hi] 40), (106, owK 2 1 ((ν6 4).o 0) t7.length ((ν6 4).n 0) (t7.flatMap en_i64)), (107, owK 2 1 ((ν8 4).o 0) t9.length ((ν8 4).n 0) (t9.flatMap en_i64))] (by kernel_rfl)
    refine k_ret ?_
    obtain rfl := Option.some.inj G
    exact k_done0 H _ (by kernel_rfl) (by kernel_rfl)
  · rw [if_neg (nt c47)] at G
    refine k_skip ?_
    refine k_seq ?_
    refine k_seq ?_
    replace G := bnd G; obtain ⟨t17, ht17, G⟩ := G
    refine k_reg mixed H (.cons [43] (ok_ld (fun ν16 => .agg #[.int .i64 t11.Lo, .int .i64 t11.Hi]) 43 108 0 2 (fun ν16 => ((ν10 3).n 0)) (fun ν16 => [.int .i64 t11.Lo, .int .i64 t11.Hi]) 40) <|
      .cons [44] (ok_callv 48 (fun ν16 => #[.agg #[.int .i64 t11.Lo, .int .i64 t11.Hi]]) (.bool t17) 44 [] (fun _ w _ => interval_IsEntire.calls t11 t17 w ht17)) <| .nil) (by kernel_rfl) fun ν16 a w' H => ?_
    replace H := H.toL [(2, .slot true (.bool false)), (3, .slot true (.bool t3)), (6, .slot true (.slice ((ν6 4).o 0) t7.length ((ν6 4).n 0))), (7, .slot true (.slice ((ν8 4).o 0) t9.length ((ν8 4).n 0))), (8, .slot true (.pointer (some ⟨((ν10 3).n 0), 0, none⟩))), (44, .slot true (.bool t17)), (108, .blk ((ν10 3).n 0) [.int .i64 t11.Lo, .int .i64 t11.Hi] 40), (106, owK 2 1 ((ν6 4).o 0) t7.length ((ν6 4).n 0) (t7.flatMap en_i64)), (107, owK 2 1 ((ν8 4).o 0) t9.length ((ν8 4).n 0) (t9.flatMap en_i64))] (by kernel_rfl)
    refine k_cond H (by kernel_rfl) (t := t17) (by kernel_rfl) (fun c46 => ?_) (fun c46 => ?_)
    · rw [if_pos c46] at G
      refine k_seq ?_
      refine k_reg mixed H (.cons [45] (ok_val (fun ν18 => .bool t3) 45) <|
      .cons [2] (ok_val (fun ν18 => .bool t3) 2) <| .nil) (by kernel_rfl) fun ν18 a w' H => ?_
      replace H := H.toL [(2, .slot true (.bool t3)), (3, .slot true (.bool t3)), (6, .slot true (.slice ((ν6 4).o 0) t7.length ((ν6 4).n 0))), (7, .slot true (.slice ((ν8 4).o 0) t9.length ((ν8 4).n 0))), (8, .slot true (.pointer (some ⟨((ν10 3).n 0), 0, none⟩))), (108, .blk ((ν10 3).n 0) [.int .i64 t11.Lo, .int .i64 t11.Hi] 40), (106, owK 2 1 ((ν6 4).o 0) t7.length ((ν6 4).n 0) (t7.flatMap en_i64)), (107, owK 2 1 ((ν8 4).o 0) t9.length ((ν8 4).n 0) (t9.flatMap en_i64))] (by kernel_rfl)
      refine k_ret ?_
      obtain rfl := Option.some.inj G
      exact k_done0 H _ (by kernel_rfl) (by kernel_rfl)
    · rw [if_neg (nt c46)] at G
      refine k_skip ?_
      refine k_seq ?_
      refine k_reg mixed H (.cons [9] (ok_val (fun ν19 => .int .i64 0) 9) <| .nil) (by kernel_rfl) fun ν19 a w' H => ?_
      replace H := H.toL [(2, .slot true (.bool false)), (3, .slot true (.bool t3)), (6, .slot true (.slice ((ν6 4).o 0) t7.length ((ν6 4).n 0))), (7, .slot true (.slice ((ν8 4).o 0) t9.length ((ν8 4).n 0))), (8, .slot true (.pointer (some ⟨((ν10 3).n 0), 0, none⟩))), (9, .slot true (.int .i64 0)), (108, .blk ((ν10 3).n 0) [.int .i64 t11.Lo, .int .i64 t11.Hi] 40), (106, owK 2 1 ((ν6 4).o 0) t7.length ((ν6 4).n 0) (t7.flatMap en_i64)), (107, owK 2 1 ((ν8 4).o 0) t9.length ((ν8 4).n 0) (t9.flatMap en_i64))] (by kernel_rfl)
      refine k_seq ?_
      refine k_reg mixed H (.cons [10] (ok_val (fun ν20 => .int .i64 0) 10) <| .nil) (by kernel_rfl) fun ν20 a w' H => ?_
      replace H := H.toL [(2, .slot true (.bool false)), (3, .slot true (.bool t3)), (6, .slot true (.slice ((ν6 4).o 0) t7.length ((ν6 4).n 0))), (7, .slot true (.slice ((ν8 4).o 0) t9.length ((ν8 4).n 0))), (8, .slot true (.pointer (some ⟨((ν10 3).n 0), 0, none⟩))), (9, .slot true (.int .i64 0)), (10, .slot true (.int .i64 0)), (108, .blk ((ν10 3).n 0) [.int .i64 t11.Lo, .int .i64 t11.Hi] 40), (106, owK 2 1 ((ν6 4).o 0) t7.length ((ν6 4).n 0) (t7.flatMap en_i64)), (107, owK 2 1 ((ν8 4).o 0) t9.length ((ν8 4).n 0) (t9.flatMap en_i64))] (by kernel_rfl)
      refine k_seq ?_
      replace G := bnd G; obtain ⟨j23, hj23, G⟩ := G
      refine k_join (fun a w' => Rep w.heap.size w 98 (ofL [(2, .slot true (.bool false)), (3, .slot true (.bool t3)), (8, .slot true (.pointer (some ⟨((ν10 3).n 0), 0, none⟩))), (9, .slot true (.int .i64 j23.1)), (10, .slot true (.int .i64 j23.2)), (108, .blk ((ν10 3).n 0) [.int .i64 t11.Lo, .int .i64 t11.Hi] 40)]) a w') ?_ ?_
      · clear H; intro a w' H
        refine k_seq ?_
        replace G := bnd G; obtain ⟨z25, hz25, G⟩ := G
        replace hz25 := Option.some.inj hz25
        refine k_reg mixed H (.cons [80] (ok_val (fun ν24 => .bool t3) 80) <|
      .cons [81] (ok_val (fun ν24 => .bool t3) 81) <|
      .cons [82] (ok_valg (fun ν24 => .pointer (some ⟨((ν10 3).n 0), 0, none⟩)) (fun ν24 => (t3 == true)) [true] 82) <|
      .cons [83] (ok_ldg (fun ν24 => .int .i64 t11.Lo) (fun ν24 => (t3 == true)) [false] 83 108 0 1 (fun ν24 => ((ν10 3).n 0)) (fun ν24 => [.int .i64 t11.Lo, .int .i64 t11.Hi]) 40) <|
      .cons [84] (ok_valg (fun ν24 => .int .i64 j23.2) (fun ν24 => (t3 == true)) [true] 84) <|
      .cons [85] (ok_valg (fun ν24 => .bool (decide (t11.Lo ≤ j23.2))) (fun ν24 => (t3 == true)) [false, false] 85) <|
      .cons [86] (ok_and 81 85 (fun ν24 => true) (fun ν24 => true) (fun ν24 => t3) (fun ν24 => decide (t11.Lo ≤ j23.2)) 86) <|
      .cons [87] (ok_val (fun ν24 => .bool (t3 && (decide (t11.Lo ≤ j23.2)))) 87) <|
      .cons [88] (ok_valg (fun ν24 => .int .i64 j23.1) (fun ν24 => ((t3 && (decide (t11.Lo ≤ j23.2))) == true)) [true] 88) <|
      .cons [89] (ok_valg (fun ν24 => .pointer (some ⟨((ν10 3).n 0), 1, none⟩)) (fun ν24 => ((t3 && (decide (t11.Lo ≤ j23.2))) == true)) [true] 89) <|
      .cons [90] (ok_ldg (fun ν24 => .int .i64 t11.Hi) (fun ν24 => ((t3 && (decide (t11.Lo ≤ j23.2))) == true)) [false] 90 108 1 1 (fun ν24 => ((ν10 3).n 0)) (fun ν24 => [.int .i64 t11.Lo, .int .i64 t11.Hi]) 40) <|
      .cons [91] (ok_valg (fun ν24 => .bool (decide (j23.1 ≤ t11.Hi))) (fun ν24 => ((t3 && (decide (t11.Lo ≤ j23.2))) == true)) [false, false] 91) <|
      .cons [92] (ok_and 87 91 (fun ν24 => true) (fun ν24 => true) (fun ν24 => (t3 && (decide (t11.Lo ≤ j23.2)))) (fun ν24 => decide (j23.1 ≤ t11.Hi)) 92) <|
      .cons [93] (ok_val (fun ν24 => .bool ((t3 && (decide (t11.Lo ≤ j23.2))) && (decide (j23.1 ≤ t11.Hi)))) 93) <|
      .cons [94] (ok_valg (fun ν24 => .pointer (some ⟨((ν10 3).n 0), 0, none⟩)) (fun ν24 => (((t3 && (decide (t11.Lo ≤ j23.2))) && (decide (j23.1 ≤ t11.Hi))) == true)) [true] 94) <|
      .cons [95] (ok_ldg (fun ν24 => .int .i64 t11.Lo) (fun ν24 => (((t3 && (decide (t11.Lo ≤ j23.2))) && (decide (j23.1 ≤ t11.Hi))) == true)) [false] 95 108 0 1 (fun ν24 => ((ν10 3).n 0)) (fun ν24 => [.int .i64 t11.Lo, .int .i64 t11.Hi]) 40) <|
      .cons [96] (ok_valg (fun ν24 => .bool (decide (t11.Lo ≥ 0))) (fun ν24 => (((t3 && (decide (t11.Lo ≤ j23.2))) && (decide (j23.1 ≤ t11.Hi))) == true)) [false, true] 96) <|
      .cons [97] (ok_and 93 96 (fun ν24 => true) (fun ν24 => true) (fun ν24 => ((t3 && (decide (t11.Lo ≤ j23.2))) && (decide (j23.1 ≤ t11.Hi)))) (fun ν24 => decide (t11.Lo ≥ 0)) 97) <|
      .cons [2] (ok_as (u' := fun ν24 => [(2, .slot true (.bool z25))]) (ok_val (fun ν24 => .bool (((t3 && (decide (t11.Lo ≤ j23.2))) && (decide (j23.1 ≤ t11.Hi))) && (decide (t11.Lo ≥ 0)))) 2) (fun _ => by rw [← hz25])) <| .nil) (by kernel_rfl) fun ν24 a w' H => ?_
        replace H := H.toL [(2, .slot true (.bool z25))] (by kernel_rfl)
        refine k_ret ?_
        obtain rfl := Option.some.inj G
        exact k_done0 H _ (by kernel_rfl) (by kernel_rfl)
      · clear G; replace G := hj23; clear hj23
        refine k_seq ?_
        refine k_reg mixed H (.cons [11] (ok_val (fun ν26 => .int .i64 0) 11) <| .nil) (by kernel_rfl) fun ν26 a w' H => ?_
        replace H := H.toL [(2, .slot true (.bool false)), (3, .slot true (.bool t3)), (6, .slot true (.slice ((ν6 4).o 0) t7.length ((ν6 4).n 0))), (7, .slot true (.slice ((ν8 4).o 0) t9.length ((ν8 4).n 0))), (8, .slot true (.pointer (some ⟨((ν10 3).n 0), 0, none⟩))), (9, .slot true (.int .i64 0)), (10, .slot true (.int .i64 0)), (11, .slot true (.int .i64 0)), (108, .blk ((ν10 3).n 0) [.int .i64 t11.Lo, .int .i64 t11.Hi] 40), (106, owK 2 1 ((ν6 4).o 0) t7.length ((ν6 4).n 0) (t7.flatMap en_i64)), (107, owK 2 1 ((ν8 4).o 0) t9.length ((ν8 4).n 0) (t9.flatMap en_i64))] (by kernel_rfl)
        refine k_block ?_
        refine k_loopJ (fun m a w' => ∃ x27 : Int, ∃ x28 : Int, ∃ x29 : Int, armillarylaw03_BoxDistanceEncloses.l30 k0 a0 t3 t5 t7 t9 t11 t13 t14 t17 m x27 x28 x29 = some j23 ∧ Rep w.heap.size w 98 (ofL [(2, .slot true (.bool false)), (3, .slot true (.bool t3)), (6, .slot true (.slice ((ν6 4).o 0) t7.length ((ν6 4).n 0))), (7, .slot true (.slice ((ν8 4).o 0) t9.length ((ν8 4).n 0))), (8, .slot true (.pointer (some ⟨((ν10 3).n 0), 0, none⟩))), (9, .slot true (.int .i64 x27)), (10, .slot true (.int .i64 x28)), (11, .slot true (.int .i64 x29)), (108, .blk ((ν10 3).n 0) [.int .i64 t11.Lo, .int .i64 t11.Hi] 40), (106, owK 2 1 ((ν6 4).o 0) t7.length ((ν6 4).n 0) (t7.flatMap en_i64)), (107, owK 2 1 ((ν8 4).o 0) t9.length ((ν8 4).n 0) (t9.flatMap en_i64))]) a w') k0 ⟨_, _, _, G, H.toL _ (by kernel_rfl)⟩ ?_
        clear G H
        rintro (_ | k) a w' ⟨x27, x28, x29, G, H⟩
        · exact absurd G (by unfold armillarylaw03_BoxDistanceEncloses.l30; exact fun h => by cases h)
        · unfold armillarylaw03_BoxDistanceEncloses.l30 at G
          refine k_seq ?_
          refine k_seq ?_
          refine k_reg mixed H (.cons [46] (ok_val (fun ν31 => .int .i64 x29) 46) <|
      .cons [47] (ok_val (fun ν31 => .slice ((ν6 4).o 0) t7.length ((ν6 4).n 0)) 47) <|
      .cons [48] (ok_val (fun ν31 => .int .i64 (t7.length : Int)) 48) <|
      .cons [49] (ok_val (fun ν31 => .bool (decide (x29 < (t7.length : Int)))) 49) <| .nil) (by kernel_rfl) fun ν31 a w' H => ?_
          replace H := H.toL [(2, .slot true (.bool false)), (3, .slot true (.bool t3)), (6, .slot true (.slice ((ν6 4).o 0) t7.length ((ν6 4).n 0))), (7, .slot true (.slice ((ν8 4).o 0) t9.length ((ν8 4).n 0))), (8, .slot true (.pointer (some ⟨((ν10 3).n 0), 0, none⟩))), (9, .slot true (.int .i64 x27)), (10, .slot true (.int .i64 x28)), (11, .slot true (.int .i64 x29)), (46, .slot true (.int .i64 x29)), (47, .slot true (.slice ((ν6 4).o 0) t7.length ((ν6 4).n 0))), (48, .slot true (.int .i64 (t7.length : Int))), (49, .slot true (.bool (decide (x29 < (t7.length : Int))))), (108, .blk ((ν10 3).n 0) [.int .i64 t11.Lo, .int .i64 t11.Hi] 40), (106, owK 2 1 ((ν6 4).o 0) t7.length ((ν6 4).n 0) (t7.flatMap en_i64)), (107, owK 2 1 ((ν8 4).o 0) t9.length ((ν8 4).n 0) (t9.flatMap en_i64))] (by kernel_rfl)
          refine k_cond H (by kernel_rfl) (t := decide (x29 < (t7.length : Int))) (by kernel_rfl) (fun c45 => ?_) (fun c45 => ?_)
          · rw [if_pos c45] at G
            refine k_skip ?_
            refine k_seq ?_
            refine k_block ?_
            refine k_seq ?_
            replace G := gd G; obtain ⟨b33, G⟩ := G
            replace G := bnd G; obtain ⟨t34, ht34, G⟩ := G
            replace G := gd G; obtain ⟨b35, G⟩ := G
            replace G := bnd G; obtain ⟨t36, ht36, G⟩ := G
            replace G := gd G; obtain ⟨b37, G⟩ := G
            replace G := bnd G; obtain ⟨t38, ht38, G⟩ := G
            replace G := gd G; obtain ⟨b39, G⟩ := G
            replace G := bnd G; obtain ⟨t40, ht40, G⟩ := G
            replace G := bnd G; obtain ⟨t41, ht41, G⟩ := G
            refine k_reg mixed H (.cons [53] (ok_val (fun ν32 => .slice ((ν6 4).o 0) t7.length ((ν6 4).n 0)) 53) <|
      .cons [54] (ok_val (fun ν32 => .int .i64 x29) 54) <|
      .cons [55] (ok_valL [106] (fun ν32 => [owK 2 1 ((ν6 4).o 0) t7.length ((ν6 4).n 0) (t7.flatMap en_i64)]) (fun ν32 => .pointer (some ⟨hdB ((ν6 4).o 0), hdO ((ν6 4).o 0) + x29.toNat * 1, none⟩)) (fun ν32 => true) [true, true] 55 (fun ν32 w hg hF => run_of (by kernel_rfl) (run_ix (t := 27) (p := ((ν6 4).o 0)) (n := t7.length) (cap := ((ν6 4).n 0)) (k := .i64) (i := x29) (sz := 1) (by kernel_rfl) (by kernel_rfl) (owns_row (ow_of hF.1)) b33))) <|
      .cons [56] (ok_valL [106] (fun ν32 => [owK 2 1 ((ν6 4).o 0) t7.length ((ν6 4).n 0) (t7.flatMap en_i64)]) (fun ν32 => .int .i64 t34) (fun ν32 => true) [true] 56 (fun ν32 w hg hF => ld_of (vs := [.int .i64 t34]) (b := hdB ((ν6 4).o 0)) (off := hdO ((ν6 4).o 0) + x29.toNat * 1 + 0) (m := 1) (by kernel_rfl) (el_cells (owns_row (ow_of hF.1)) en_i64_len ht34 0 1 rfl))) <|
      .cons [57] (ok_val (fun ν32 => .slice ((ν8 4).o 0) t9.length ((ν8 4).n 0)) 57) <|
      .cons [58] (ok_val (fun ν32 => .int .i64 x29) 58) <|
      .cons [59] (ok_valL [107] (fun ν32 => [owK 2 1 ((ν8 4).o 0) t9.length ((ν8 4).n 0) (t9.flatMap en_i64)]) (fun ν32 => .pointer (some ⟨hdB ((ν8 4).o 0), hdO ((ν8 4).o 0) + x29.toNat * 1, none⟩)) (fun ν32 => true) [true, true] 59 (fun ν32 w hg hF => run_of (by kernel_rfl) (run_ix (t := 27) (p := ((ν8 4).o 0)) (n := t9.length) (cap := ((ν8 4).n 0)) (k := .i64) (i := x29) (sz := 1) (by kernel_rfl) (by kernel_rfl) (owns_row (ow_of hF.1)) b35))) <|
      .cons [60] (ok_valL [107] (fun ν32 => [owK 2 1 ((ν8 4).o 0) t9.length ((ν8 4).n 0) (t9.flatMap en_i64)]) (fun ν32 => .int .i64 t36) (fun ν32 => true) [true] 60 (fun ν32 w hg hF => ld_of (vs := [.int .i64 t36]) (b := hdB ((ν8 4).o 0)) (off := hdO ((ν8 4).o 0) + x29.toNat * 1 + 0) (m := 1) (by kernel_rfl) (el_cells (owns_row (ow_of hF.1)) en_i64_len ht36 0 1 rfl))) <|
      .cons [61] (ok_val (fun ν32 => .int .i64 (w_i64 (t34 - t36))) 61) <|
      .cons [62] (ok_val (fun ν32 => .slice ((ν6 4).o 0) t7.length ((ν6 4).n 0)) 62) <|
      .cons [63] (ok_val (fun ν32 => .int .i64 x29) 63) <|
      .cons [64] (ok_valL [106] (fun ν32 => [owK 2 1 ((ν6 4).o 0) t7.length ((ν6 4).n 0) (t7.flatMap en_i64)]) (fun ν32 => .pointer (some ⟨hdB ((ν6 4).o 0), hdO ((ν6 4).o 0) + x29.toNat * 1, none⟩)) (fun ν32 => true) [true, true] 64 (fun ν32 w hg hF => run_of (by kernel_rfl) (run_ix (t := 27) (p := ((ν6 4).o 0)) (n := t7.length) (cap := ((ν6 4).n 0)) (k := .i64) (i := x29) (sz := 1) (by kernel_rfl) (by kernel_rfl) (owns_row (ow_of hF.1)) b37))) <|
      .cons [65] (ok_valL [106] (fun ν32 => [owK 2 1 ((ν6 4).o 0) t7.length ((ν6 4).n 0) (t7.flatMap en_i64)]) (fun ν32 => .int .i64 t38) (fun ν32 => true) [true] 65 (fun ν32 w hg hF => ld_of (vs := [.int .i64 t38]) (b := hdB ((ν6 4).o 0)) (off := hdO ((ν6 4).o 0) + x29.toNat * 1 + 0) (m := 1) (by kernel_rfl) (el_cells (owns_row (ow_of hF.1)) en_i64_len ht38 0 1 rfl))) <|
      .cons [66] (ok_val (fun ν32 => .slice ((ν8 4).o 0) t9.length ((ν8 4).n 0)) 66) <|
      .cons [67] (ok_val (fun ν32 => .int .i64 x29) 67) <|
      .cons [68] (ok_valL [107] (fun ν32 => [owK 2 1 ((ν8 4).o 0) t9.length ((ν8 4).n 0) (t9.flatMap en_i64)]) (fun ν32 => .pointer (some ⟨hdB ((ν8 4).o 0), hdO ((ν8 4).o 0) + x29.toNat * 1, none⟩)) (fun ν32 => true) [true, true] 68 (fun ν32 w hg hF => run_of (by kernel_rfl) (run_ix (t := 27) (p := ((ν8 4).o 0)) (n := t9.length) (cap := ((ν8 4).n 0)) (k := .i64) (i := x29) (sz := 1) (by kernel_rfl) (by kernel_rfl) (owns_row (ow_of hF.1)) b39))) <|
      .cons [69] (ok_valL [107] (fun ν32 => [owK 2 1 ((ν8 4).o 0) t9.length ((ν8 4).n 0) (t9.flatMap en_i64)]) (fun ν32 => .int .i64 t40) (fun ν32 => true) [true] 69 (fun ν32 w hg hF => ld_of (vs := [.int .i64 t40]) (b := hdB ((ν8 4).o 0)) (off := hdO ((ν8 4).o 0) + x29.toNat * 1 + 0) (m := 1) (by kernel_rfl) (el_cells (owns_row (ow_of hF.1)) en_i64_len ht40 0 1 rfl))) <|
      .cons [70] (ok_val (fun ν32 => .int .i64 (w_i64 (t38 - t40))) 70) <|
      .cons [71] (ok_callv 49 (fun ν32 => #[.int .i64 (w_i64 (t34 - t36)), .int .i64 (w_i64 (t38 - t40))]) (.tuple #[.int .i64 t41.1, .int .i64 t41.2]) 71 [] (fun _ w _ => armillaryref01_Mul.calls (w_i64 (t34 - t36)) (w_i64 (t38 - t40)) t41 w ht41)) <|
      .cons [52] (ok_val (fun ν32 => .tuple #[.int .i64 t41.1, .int .i64 t41.2]) 52) <|
      .cons [72] (ok_val (fun ν32 => .int .i64 t41.1) 72) <|
      .cons [73] (ok_val (fun ν32 => .int .i64 t41.2) 73) <|
      .cons [12] (ok_val (fun ν32 => .int .i64 t41.1) 12) <|
      .cons [13] (ok_val (fun ν32 => .int .i64 t41.2) 13) <| .nil) (by kernel_rfl) fun ν32 a w' H => ?_
            replace H := H.toL [(2, .slot true (.bool false)), (3, .slot true (.bool t3)), (6, .slot true (.slice ((ν6 4).o 0) t7.length ((ν6 4).n 0))), (7, .slot true (.slice ((ν8 4).o 0) t9.length ((ν8 4).n 0))), (8, .slot true (.pointer (some ⟨((ν10 3).n 0), 0, none⟩))), (9, .slot true (.int .i64 x27)), (10, .slot true (.int .i64 x28)), (11, .slot true (.int .i64 x29)), (12, .slot true (.int .i64 t41.1)), (13, .slot true (.int .i64 t41.2)), (46, .slot true (.int .i64 x29)), (47, .slot true (.slice ((ν6 4).o 0) t7.length ((ν6 4).n 0))), (48, .slot true (.int .i64 (t7.length : Int))), (49, .slot true (.bool (decide (x29 < (t7.length : Int))))), (52, .slot true (.tuple #[.int .i64 t41.1, .int .i64 t41.2])), (53, .slot true (.slice ((ν6 4).o 0) t7.length ((ν6 4).n 0))), (54, .slot true (.int .i64 x29)), (55, .slot true (.pointer (some ⟨hdB ((ν6 4).o 0), hdO ((ν6 4).o 0) + x29.toNat * 1, none⟩))), (56, .slot true (.int .i64 t34)), (57, .slot true (.slice ((ν8 4).o 0) t9.length ((ν8 4).n 0))), (58, .slot true (.int .i64 x29)), (59, .slot true (.pointer (some ⟨hdB ((ν8 4).o 0), hdO ((ν8 4).o 0) + x29.toNat * 1, none⟩))), (60, .slot true (.int .i64 t36)), (61, .slot true (.int .i64 (w_i64 (t34 - t36)))), (62, .slot true (.slice ((ν6 4).o 0) t7.length ((ν6 4).n 0))), (63, .slot true (.int .i64 x29)), (64, .slot true (.pointer (some ⟨hdB ((ν6 4).o 0), hdO ((ν6 4).o 0) + x29.toNat * 1, none⟩))), (65, .slot true (.int .i64 t38)), (66, .slot true (.slice ((ν8 4).o 0) t9.length ((ν8 4).n 0))), (67, .slot true (.int .i64 x29)), (68, .slot true (.pointer (some ⟨hdB ((ν8 4).o 0), hdO ((ν8 4).o 0) + x29.toNat * 1, none⟩))), (69, .slot true (.int .i64 t40)), (70, .slot true (.int .i64 (w_i64 (t38 - t40)))), (71, .slot true (.tuple #[.int .i64 t41.1, .int .i64 t41.2])), (72, .slot true (.int .i64 t41.1)), (73, .slot true (.int .i64 t41.2)), (108, .blk ((ν10 3).n 0) [.int .i64 t11.Lo, .int .i64 t11.Hi] 40), (106, owK 2 1 ((ν6 4).o 0) t7.length ((ν6 4).n 0) (t7.flatMap en_i64)), (107, owK 2 1 ((ν8 4).o 0) t9.length ((ν8 4).n 0) (t9.flatMap en_i64))] (by kernel_rfl)
            refine k_seq ?_
            refine k_reg mixed H (.cons [74] (ok_val (fun ν42 => .int .i64 x27) 74) <|
      .cons [75] (ok_val (fun ν42 => .int .i64 t41.1) 75) <|
      .cons [76] (ok_val (fun ν42 => .int .i64 (w_i64 (x27 + t41.1))) 76) <|
      .cons [9] (ok_val (fun ν42 => .int .i64 (w_i64 (x27 + t41.1))) 9) <| .nil) (by kernel_rfl) fun ν42 a w' H => ?_
            replace H := H.toL [(2, .slot true (.bool false)), (3, .slot true (.bool t3)), (6, .slot true (.slice ((ν6 4).o 0) t7.length ((ν6 4).n 0))), (7, .slot true (.slice ((ν8 4).o 0) t9.length ((ν8 4).n 0))), (8, .slot true (.pointer (some ⟨((ν10 3).n 0), 0, none⟩))), (9, .slot true (.int .i64 (w_i64 (x27 + t41.1)))), (10, .slot true (.int .i64 x28)), (11, .slot true (.int .i64 x29)), (12, .slot true (.int .i64 t41.1)), (13, .slot true (.int .i64 t41.2)), (46, .slot true (.int .i64 x29)), (47, .slot true (.slice ((ν6 4).o 0) t7.length ((ν6 4).n 0))), (48, .slot true (.int .i64 (t7.length : Int))), (49, .slot true (.bool (decide (x29 < (t7.length : Int))))), (52, .slot true (.tuple #[.int .i64 t41.1, .int .i64 t41.2])), (53, .slot true (.slice ((ν6 4).o 0) t7.length ((ν6 4).n 0))), (54, .slot true (.int .i64 x29)), (55, .slot true (.pointer (some ⟨hdB ((ν6 4).o 0), hdO ((ν6 4).o 0) + x29.toNat * 1, none⟩))), (56, .slot true (.int .i64 t34)), (57, .slot true (.slice ((ν8 4).o 0) t9.length ((ν8 4).n 0))), (58, .slot true (.int .i64 x29)), (59, .slot true (.pointer (some ⟨hdB ((ν8 4).o 0), hdO ((ν8 4).o 0) + x29.toNat * 1, none⟩))), (60, .slot true (.int .i64 t36)), (61, .slot true (.int .i64 (w_i64 (t34 - t36)))), (62, .slot true (.slice ((ν6 4).o 0) t7.length ((ν6 4).n 0))), (63, .slot true (.int .i64 x29)), (64, .slot true (.pointer (some ⟨hdB ((ν6 4).o 0), hdO ((ν6 4).o 0) + x29.toNat * 1, none⟩))), (65, .slot true (.int .i64 t38)), (66, .slot true (.slice ((ν8 4).o 0) t9.length ((ν8 4).n 0))), (67, .slot true (.int .i64 x29)), (68, .slot true (.pointer (some ⟨hdB ((ν8 4).o 0), hdO ((ν8 4).o 0) + x29.toNat * 1, none⟩))), (69, .slot true (.int .i64 t40)), (70, .slot true (.int .i64 (w_i64 (t38 - t40)))), (71, .slot true (.tuple #[.int .i64 t41.1, .int .i64 t41.2])), (72, .slot true (.int .i64 t41.1)), (73, .slot true (.int .i64 t41.2)), (74, .slot true (.int .i64 x27)), (75, .slot true (.int .i64 t41.1)), (76, .slot true (.int .i64 (w_i64 (x27 + t41.1)))), (108, .blk ((ν10 3).n 0) [.int .i64 t11.Lo, .int .i64 t11.Hi] 40), (106, owK 2 1 ((ν6 4).o 0) t7.length ((ν6 4).n 0) (t7.flatMap en_i64)), (107, owK 2 1 ((ν8 4).o 0) t9.length ((ν8 4).n 0) (t9.flatMap en_i64))] (by kernel_rfl)
            refine k_reg mixed H (.cons [77] (ok_val (fun ν43 => .int .i64 x28) 77) <|
      .cons [78] (ok_val (fun ν43 => .int .i64 t41.2) 78) <|
      .cons [79] (ok_val (fun ν43 => .int .i64 (w_i64 (x28 + t41.2))) 79) <|
      .cons [10] (ok_val (fun ν43 => .int .i64 (w_i64 (x28 + t41.2))) 10) <| .nil) (by kernel_rfl) fun ν43 a w' H => ?_
            replace H := H.toL [(2, .slot true (.bool false)), (3, .slot true (.bool t3)), (6, .slot true (.slice ((ν6 4).o 0) t7.length ((ν6 4).n 0))), (7, .slot true (.slice ((ν8 4).o 0) t9.length ((ν8 4).n 0))), (8, .slot true (.pointer (some ⟨((ν10 3).n 0), 0, none⟩))), (9, .slot true (.int .i64 (w_i64 (x27 + t41.1)))), (10, .slot true (.int .i64 (w_i64 (x28 + t41.2)))), (11, .slot true (.int .i64 x29)), (12, .slot true (.int .i64 t41.1)), (13, .slot true (.int .i64 t41.2)), (46, .slot true (.int .i64 x29)), (47, .slot true (.slice ((ν6 4).o 0) t7.length ((ν6 4).n 0))), (48, .slot true (.int .i64 (t7.length : Int))), (49, .slot true (.bool (decide (x29 < (t7.length : Int))))), (52, .slot true (.tuple #[.int .i64 t41.1, .int .i64 t41.2])), (53, .slot true (.slice ((ν6 4).o 0) t7.length ((ν6 4).n 0))), (54, .slot true (.int .i64 x29)), (55, .slot true (.pointer (some ⟨hdB ((ν6 4).o 0), hdO ((ν6 4).o 0) + x29.toNat * 1, none⟩))), (56, .slot true (.int .i64 t34)), (57, .slot true (.slice ((ν8 4).o 0) t9.length ((ν8 4).n 0))), (58, .slot true (.int .i64 x29)), (59, .slot true (.pointer (some ⟨hdB ((ν8 4).o 0), hdO ((ν8 4).o 0) + x29.toNat * 1, none⟩))), (60, .slot true (.int .i64 t36)), (61, .slot true (.int .i64 (w_i64 (t34 - t36)))), (62, .slot true (.slice ((ν6 4).o 0) t7.length ((ν6 4).n 0))), (63, .slot true (.int .i64 x29)), (64, .slot true (.pointer (some ⟨hdB ((ν6 4).o 0), hdO ((ν6 4).o 0) + x29.toNat * 1, none⟩))), (65, .slot true (.int .i64 t38)), (66, .slot true (.slice ((ν8 4).o 0) t9.length ((ν8 4).n 0))), (67, .slot true (.int .i64 x29)), (68, .slot true (.pointer (some ⟨hdB ((ν8 4).o 0), hdO ((ν8 4).o 0) + x29.toNat * 1, none⟩))), (69, .slot true (.int .i64 t40)), (70, .slot true (.int .i64 (w_i64 (t38 - t40)))), (71, .slot true (.tuple #[.int .i64 t41.1, .int .i64 t41.2])), (72, .slot true (.int .i64 t41.1)), (73, .slot true (.int .i64 t41.2)), (74, .slot true (.int .i64 x27)), (75, .slot true (.int .i64 t41.1)), (76, .slot true (.int .i64 (w_i64 (x27 + t41.1)))), (77, .slot true (.int .i64 x28)), (78, .slot true (.int .i64 t41.2)), (79, .slot true (.int .i64 (w_i64 (x28 + t41.2)))), (108, .blk ((ν10 3).n 0) [.int .i64 t11.Lo, .int .i64 t11.Hi] 40), (106, owK 2 1 ((ν6 4).o 0) t7.length ((ν6 4).n 0) (t7.flatMap en_i64)), (107, owK 2 1 ((ν8 4).o 0) t9.length ((ν8 4).n 0) (t9.flatMap en_i64))] (by kernel_rfl)
            refine k_reg mixed H (.cons [50] (ok_val (fun ν44 => .int .i64 x29) 50) <|
      .cons [51] (ok_val (fun ν44 => .int .i64 (w_i64 (x29 + 1))) 51) <|
      .cons [11] (ok_val (fun ν44 => .int .i64 (w_i64 (x29 + 1))) 11) <| .nil) (by kernel_rfl) fun ν44 a w' H => ?_
            replace H := H.toL [(2, .slot true (.bool false)), (3, .slot true (.bool t3)), (6, .slot true (.slice ((ν6 4).o 0) t7.length ((ν6 4).n 0))), (7, .slot true (.slice ((ν8 4).o 0) t9.length ((ν8 4).n 0))), (8, .slot true (.pointer (some ⟨((ν10 3).n 0), 0, none⟩))), (9, .slot true (.int .i64 (w_i64 (x27 + t41.1)))), (10, .slot true (.int .i64 (w_i64 (x28 + t41.2)))), (11, .slot true (.int .i64 (w_i64 (x29 + 1)))), (12, .slot true (.int .i64 t41.1)), (13, .slot true (.int .i64 t41.2)), (46, .slot true (.int .i64 x29)), (47, .slot true (.slice ((ν6 4).o 0) t7.length ((ν6 4).n 0))), (48, .slot true (.int .i64 (t7.length : Int))), (49, .slot true (.bool (decide (x29 < (t7.length : Int))))), (50, .slot true (.int .i64 x29)), (51, .slot true (.int .i64 (w_i64 (x29 + 1)))), (52, .slot true (.tuple #[.int .i64 t41.1, .int .i64 t41.2])), (53, .slot true (.slice ((ν6 4).o 0) t7.length ((ν6 4).n 0))), (54, .slot true (.int .i64 x29)), (55, .slot true (.pointer (some ⟨hdB ((ν6 4).o 0), hdO ((ν6 4).o 0) + x29.toNat * 1, none⟩))), (56, .slot true (.int .i64 t34)), (57, .slot true (.slice ((ν8 4).o 0) t9.length ((ν8 4).n 0))), (58, .slot true (.int .i64 x29)), (59, .slot true (.pointer (some ⟨hdB ((ν8 4).o 0), hdO ((ν8 4).o 0) + x29.toNat * 1, none⟩))), (60, .slot true (.int .i64 t36)), (61, .slot true (.int .i64 (w_i64 (t34 - t36)))), (62, .slot true (.slice ((ν6 4).o 0) t7.length ((ν6 4).n 0))), (63, .slot true (.int .i64 x29)), (64, .slot true (.pointer (some ⟨hdB ((ν6 4).o 0), hdO ((ν6 4).o 0) + x29.toNat * 1, none⟩))), (65, .slot true (.int .i64 t38)), (66, .slot true (.slice ((ν8 4).o 0) t9.length ((ν8 4).n 0))), (67, .slot true (.int .i64 x29)), (68, .slot true (.pointer (some ⟨hdB ((ν8 4).o 0), hdO ((ν8 4).o 0) + x29.toNat * 1, none⟩))), (69, .slot true (.int .i64 t40)), (70, .slot true (.int .i64 (w_i64 (t38 - t40)))), (71, .slot true (.tuple #[.int .i64 t41.1, .int .i64 t41.2])), (72, .slot true (.int .i64 t41.1)), (73, .slot true (.int .i64 t41.2)), (74, .slot true (.int .i64 x27)), (75, .slot true (.int .i64 t41.1)), (76, .slot true (.int .i64 (w_i64 (x27 + t41.1)))), (77, .slot true (.int .i64 x28)), (78, .slot true (.int .i64 t41.2)), (79, .slot true (.int .i64 (w_i64 (x28 + t41.2)))), (108, .blk ((ν10 3).n 0) [.int .i64 t11.Lo, .int .i64 t11.Hi] 40), (106, owK 2 1 ((ν6 4).o 0) t7.length ((ν6 4).n 0) (t7.flatMap en_i64)), (107, owK 2 1 ((ν8 4).o 0) t9.length ((ν8 4).n 0) (t9.flatMap en_i64))] (by kernel_rfl)
            exact ⟨k, Nat.lt_succ_self k, _, _, _, G, H.toL _ (by kernel_rfl)⟩
          · rw [if_neg (nt c45)] at G
            refine k_exit rfl ?_
            obtain rfl := Option.some.inj G
            exact H.toL _ (by kernel_rfl)

end Go.Proofs.Ytgccinodonkgjaa
