/- The law BoxMatchesReference answers as the plain Lean function of its name. Printed by a program of this session. -/
import Derived.Test.YtgccinodonkgjaaFn2
set_option linter.unusedVariables false
set_option maxRecDepth 100000
namespace Go.Proofs.Ytgccinodonkgjaa
open Go Go.RowKit Go.Sx Go.Proofs
set_option maxHeartbeats 4000000 in
theorem armillarylaw03_BoxMatchesReference.calls (k0 : Nat) (a0 : TInput) (a1 : List Int) (a2 : Int) (p_a0_A : Option Addr) (c_a0_A : Nat) (p_a0_B : Option Addr) (c_a0_B : Nat) (p_a0_C : Option Addr) (c_a0_C : Nat) (p_a0_P_e0 : Option Addr) (c_a0_P_e0 : Nat) (p_a0_P_e1 : Option Addr) (c_a0_P_e1 : Nat) (p_a1 : Option Addr) (c_a1 : Nat) (r : Bool) (w : World) (R_p_a0_A : RowAt w 2 p_a0_A a0.A.length (a0.A.flatMap en_TInterval)) (R_p_a0_B : RowAt w 2 p_a0_B a0.B.length (a0.B.flatMap en_TInterval)) (R_p_a0_C : RowAt w 2 p_a0_C a0.C.length (a0.C.flatMap en_TInterval)) (R_p_a0_P_e0 : RowAt w 1 p_a0_P_e0 a0.P.e0.length (a0.P.e0.flatMap en_u16)) (R_p_a0_P_e1 : RowAt w 1 p_a0_P_e1 a0.P.e1.length (a0.P.e1.flatMap en_u16)) (R_p_a1 : RowAt w 1 p_a1 a1.length (a1.flatMap en_i64)) (G : armillarylaw03_BoxMatchesReference k0 a0 a1 a2 = some r) :
    Calls Try.prog 3 #[.agg #[.slice p_a0_A a0.A.length c_a0_A, .slice p_a0_B a0.B.length c_a0_B, .slice p_a0_C a0.C.length c_a0_C, .int .u8 a0.N, .slice p_a0_P_e0 a0.P.e0.length c_a0_P_e0, .slice p_a0_P_e1 a0.P.e1.length c_a0_P_e1], .slice p_a1 a1.length c_a1, .int .i64 a2] w fun e w' => e = .returned (.bool r) ∧ Below w.heap.size w w' := by
  refine k_enterF (args := [.agg #[.slice p_a0_A a0.A.length c_a0_A, .slice p_a0_B a0.B.length c_a0_B, .slice p_a0_C a0.C.length c_a0_C, .int .u8 a0.N, .slice p_a0_P_e0 a0.P.e0.length c_a0_P_e0, .slice p_a0_P_e1 a0.P.e1.length c_a0_P_e1], .slice p_a1 a1.length c_a1, .int .i64 a2]) 155 [(155, rdK 2 p_a0_A a0.A.length (a0.A.flatMap en_TInterval)), (156, rdK 2 p_a0_B a0.B.length (a0.B.flatMap en_TInterval)), (157, rdK 2 p_a0_C a0.C.length (a0.C.flatMap en_TInterval)), (158, rdK 1 p_a0_P_e0 a0.P.e0.length (a0.P.e0.flatMap en_u16)), (159, rdK 1 p_a0_P_e1 a0.P.e1.length (a0.P.e1.flatMap en_u16)), (160, rdK 1 p_a1 a1.length (a1.flatMap en_i64))] (by
    intro x hx
    simp only [List.mem_cons, List.not_mem_nil, or_false] at hx
    rcases hx with rfl | rfl | rfl | rfl | rfl | rfl
    · exact rd_fact R_p_a0_A (by decide) _
    · exact rd_fact R_p_a0_B (by decide) _
    · exact rd_fact R_p_a0_C (by decide) _
    · exact rd_fact R_p_a0_P_e0 (by decide) _
    · exact rd_fact R_p_a0_P_e1 (by decide) _
    · exact rd_fact R_p_a1 (by decide) _) Try.func3 rfl (by kernel_rfl) (by kernel_rfl) fun a H => ?_
  unfold armillarylaw03_BoxMatchesReference at G
  refine k_seq ?_
  refine k_reg mixed H (.cons [3, 161] (ok_new (fun b => .pointer (some ⟨b, 0, none⟩)) (fun ν1 => [.slice p_a0_A a0.A.length c_a0_A, .slice p_a0_B a0.B.length c_a0_B, .slice p_a0_C a0.C.length c_a0_C, .int .u8 a0.N, .slice p_a0_P_e0 a0.P.e0.length c_a0_P_e0, .slice p_a0_P_e1 a0.P.e1.length c_a0_P_e1]) 26 3 161) <|
      .cons [6] (ok_val (fun ν1 => .bool false) 6) <| .nil) (by kernel_rfl) fun ν1 a w' H => ?_
  replace H := H.toL [(1, .slot true (.slice p_a1 a1.length c_a1)), (2, .slot true (.int .i64 a2)), (3, .slot true (.pointer (some ⟨((ν1 0).n 0), 0, none⟩))), (6, .slot true (.bool false)), (161, .blk ((ν1 0).n 0) [.slice p_a0_A a0.A.length c_a0_A, .slice p_a0_B a0.B.length c_a0_B, .slice p_a0_C a0.C.length c_a0_C, .int .u8 a0.N, .slice p_a0_P_e0 a0.P.e0.length c_a0_P_e0, .slice p_a0_P_e1 a0.P.e1.length c_a0_P_e1] 26), (155, rdK 2 p_a0_A a0.A.length (a0.A.flatMap en_TInterval)), (156, rdK 2 p_a0_B a0.B.length (a0.B.flatMap en_TInterval)), (157, rdK 2 p_a0_C a0.C.length (a0.C.flatMap en_TInterval)), (158, rdK 1 p_a0_P_e0 a0.P.e0.length (a0.P.e0.flatMap en_u16)), (159, rdK 1 p_a0_P_e1 a0.P.e1.length (a0.P.e1.flatMap en_u16)), (160, rdK 1 p_a1 a1.length (a1.flatMap en_i64))] (by kernel_rfl)
  refine k_seq ?_
  replace G := bnd G; obtain ⟨t3, ht3, G⟩ := G
  refine k_reg mixed H (.cons [18] (ok_callv 12 (fun ν2 => #[]) (.bool t3) 18 [] (fun _ w _ => armillarylaw03_sanity.calls k0 t3 w ht3)) <|
      .cons [7] (ok_val (fun ν2 => .bool t3) 7) <| .nil) (by kernel_rfl) fun ν2 a w' H => ?_
  replace H := H.toL [(1, .slot true (.slice p_a1 a1.length c_a1)), (2, .slot true (.int .i64 a2)), (3, .slot true (.pointer (some ⟨((ν1 0).n 0), 0, none⟩))), (6, .slot true (.bool false)), (7, .slot true (.bool t3)), (161, .blk ((ν1 0).n 0) [.slice p_a0_A a0.A.length c_a0_A, .slice p_a0_B a0.B.length c_a0_B, .slice p_a0_C a0.C.length c_a0_C, .int .u8 a0.N, .slice p_a0_P_e0 a0.P.e0.length c_a0_P_e0, .slice p_a0_P_e1 a0.P.e1.length c_a0_P_e1] 26), (155, rdK 2 p_a0_A a0.A.length (a0.A.flatMap en_TInterval)), (156, rdK 2 p_a0_B a0.B.length (a0.B.flatMap en_TInterval)), (157, rdK 2 p_a0_C a0.C.length (a0.C.flatMap en_TInterval)), (158, rdK 1 p_a0_P_e0 a0.P.e0.length (a0.P.e0.flatMap en_u16)), (159, rdK 1 p_a0_P_e1 a0.P.e1.length (a0.P.e1.flatMap en_u16)), (160, rdK 1 p_a1 a1.length (a1.flatMap en_i64))] (by kernel_rfl)
  refine k_seq ?_
  replace G := bnd G; obtain ⟨t5, ht5, G⟩ := G
  refine k_reg mixed H (.cons [20] (ok_ld (fun ν4 => .agg #[.slice p_a0_A a0.A.length c_a0_A, .slice p_a0_B a0.B.length c_a0_B, .slice p_a0_C a0.C.length c_a0_C, .int .u8 a0.N, .slice p_a0_P_e0 a0.P.e0.length c_a0_P_e0, .slice p_a0_P_e1 a0.P.e1.length c_a0_P_e1]) 20 161 0 6 (fun ν4 => ((ν1 0).n 0)) (fun ν4 => [.slice p_a0_A a0.A.length c_a0_A, .slice p_a0_B a0.B.length c_a0_B, .slice p_a0_C a0.C.length c_a0_C, .int .u8 a0.N, .slice p_a0_P_e0 a0.P.e0.length c_a0_P_e0, .slice p_a0_P_e1 a0.P.e1.length c_a0_P_e1]) 26) <|
      .cons [21, 162, 163] (ok_callRL2 [155, 156, 157, 158, 159] (fun ν4 => [rdK 2 p_a0_A a0.A.length (a0.A.flatMap en_TInterval), rdK 2 p_a0_B a0.B.length (a0.B.flatMap en_TInterval), rdK 2 p_a0_C a0.C.length (a0.C.flatMap en_TInterval), rdK 1 p_a0_P_e0 a0.P.e0.length (a0.P.e0.flatMap en_u16), rdK 1 p_a0_P_e1 a0.P.e1.length (a0.P.e1.flatMap en_u16)]) 13 (fun ν4 => #[.agg #[.slice p_a0_A a0.A.length c_a0_A, .slice p_a0_B a0.B.length c_a0_B, .slice p_a0_C a0.C.length c_a0_C, .int .u8 a0.N, .slice p_a0_P_e0 a0.P.e0.length c_a0_P_e0, .slice p_a0_P_e1 a0.P.e1.length c_a0_P_e1]]) (fun p cap p2 cap2 => .tuple #[.slice p t5.1.length cap, .slice p2 t5.2.length cap2]) 40 2 t5.1.length (t5.1.flatMap en_TInterval) 40 2 t5.2.length (t5.2.flatMap en_TInterval) 21 162 163 (fun ν4 w hF => armillarylaw03_boxes.calls k0 (⟨a0.A, a0.B, a0.C, a0.N, (⟨a0.P.e0, a0.P.e1⟩ : TA2_List_Int)⟩ : TInput) p_a0_A c_a0_A p_a0_B c_a0_B p_a0_C c_a0_C p_a0_P_e0 c_a0_P_e0 p_a0_P_e1 c_a0_P_e1 t5 w (rd_of hF.1) (rd_of hF.2.1) (rd_of hF.2.2.1) (rd_of hF.2.2.2.1) (rd_of hF.2.2.2.2.1) ht5)) <|
      .cons [19] (ok_val (fun ν4 => .tuple #[.slice ((ν4 1).o 0) t5.1.length ((ν4 1).n 0), .slice ((ν4 1).o 1) t5.2.length ((ν4 1).n 1)]) 19) <|
      .cons [22] (ok_val (fun ν4 => .slice ((ν4 1).o 0) t5.1.length ((ν4 1).n 0)) 22) <|
      .cons [23] (ok_val (fun ν4 => .slice ((ν4 1).o 1) t5.2.length ((ν4 1).n 1)) 23) <|
      .cons [8] (ok_val (fun ν4 => .slice ((ν4 1).o 0) t5.1.length ((ν4 1).n 0)) 8) <|
      .cons [9] (ok_val (fun ν4 => .slice ((ν4 1).o 1) t5.2.length ((ν4 1).n 1)) 9) <| .nil) (by kernel_rfl) fun ν4 a w' H => ?_
  replace H := H.toL [(1, .slot true (.slice p_a1 a1.length c_a1)), (2, .slot true (.int .i64 a2)), (3, .slot true (.pointer (some ⟨((ν1 0).n 0), 0, none⟩))), (6, .slot true (.bool false)), (7, .slot true (.bool t3)), (8, .slot true (.slice ((ν4 1).o 0) t5.1.length ((ν4 1).n 0))), (9, .slot true (.slice ((ν4 1).o 1) t5.2.length ((ν4 1).n 1))), (161, .blk ((ν1 0).n 0) [.slice p_a0_A a0.A.length c_a0_A, .slice p_a0_B a0.B.length c_a0_B, .slice p_a0_C a0.C.length c_a0_C, .int .u8 a0.N, .slice p_a0_P_e0 a0.P.e0.length c_a0_P_e0, .slice p_a0_P_e1 a0.P.e1.length c_a0_P_e1] 26), (155, rdK 2 p_a0_A a0.A.length (a0.A.flatMap en_TInterval)), (156, rdK 2 p_a0_B a0.B.length (a0.B.flatMap en_TInterval)), (157, rdK 2 p_a0_C a0.C.length (a0.C.flatMap en_TInterval)), (158, rdK 1 p_a0_P_e0 a0.P.e0.length (a0.P.e0.flatMap en_u16)), (159, rdK 1 p_a0_P_e1 a0.P.e1.length (a0.P.e1.flatMap en_u16)), (160, rdK 1 p_a1 a1.length (a1.flatMap en_i64)), (162, owK 40 2 ((ν4 1).o 0) t5.1.length ((ν4 1).n 0) (t5.1.flatMap en_TInterval)), (163, owK 40 2 ((ν4 1).o 1) t5.2.length ((ν4 1).n 1) (t5.2.flatMap en_TInterval))] (by kernel_rfl)
  refine k_seq ?_
  refine k_seq ?_
  refine k_reg mixed H (.cons [24] (ok_val (fun ν6 => .pointer (some ⟨((ν1 0).n 0), 0, none⟩)) 24) <|
      .cons [25] (ok_ld (fun ν6 => .slice p_a0_A a0.A.length c_a0_A) 25 161 0 1 (fun ν6 => ((ν1 0).n 0)) (fun ν6 => [.slice p_a0_A a0.A.length c_a0_A, .slice p_a0_B a0.B.length c_a0_B, .slice p_a0_C a0.C.length c_a0_C, .int .u8 a0.N, .slice p_a0_P_e0 a0.P.e0.length c_a0_P_e0, .slice p_a0_P_e1 a0.P.e1.length c_a0_P_e1]) 26) <|
      .cons [26] (ok_val (fun ν6 => .int .i64 (a0.A.length : Int)) 26) <|
      .cons [27] (ok_val (fun ν6 => .bool (decide ((a0.A.length : Int) > 20))) 27) <|
      .cons [28] (ok_val (fun ν6 => .bool (decide ((a0.A.length : Int) > 20))) 28) <|
      .cons [29] (ok_valg (fun ν6 => .slice p_a1 a1.length c_a1) (fun ν6 => ((decide ((a0.A.length : Int) > 20)) == false)) [true] 29) <|
      .cons [30] (ok_valg (fun ν6 => .int .i64 (a1.length : Int)) (fun ν6 => ((decide ((a0.A.length : Int) > 20)) == false)) [false] 30) <|
      .cons [31] (ok_valg (fun ν6 => .bool (decide ((a1.length : Int) > 6))) (fun ν6 => ((decide ((a0.A.length : Int) > 20)) == false)) [false, true] 31) <|
      .cons [32] (ok_or 28 31 (fun ν6 => true) (fun ν6 => true) (fun ν6 => decide ((a0.A.length : Int) > 20)) (fun ν6 => decide ((a1.length : Int) > 6)) 32) <| .nil) (by kernel_rfl) fun ν6 a w' H => ?_
  replace H := H.toL [(1, .slot true (.slice p_a1 a1.length c_a1)), (2, .slot true (.int .i64 a2)), (3, .slot true (.pointer (some ⟨((ν1 0).n 0), 0, none⟩))), (6, .slot true (.bool false)), (7, .slot true (.bool t3)), (8, .slot true (.slice ((ν4 1).o 0) t5.1.length ((ν4 1).n 0))), (9, .slot true (.slice ((ν4 1).o 1) t5.2.length ((ν4 1).n 1))), (32, .slot true (.bool ((decide ((a0.A.length : Int) > 20)) || (decide ((a1.length : Int) > 6))))), (161, .blk ((ν1 0).n 0) [.slice p_a0_A a0.A.length c_a0_A, .slice p_a0_B a0.B.length c_a0_B, .slice p_a0_C a0.C.length c_a0_C, .int .u8 a0.N, .slice p_a0_P_e0 a0.P.e0.length c_a0_P_e0, .slice p_a0_P_e1 a0.P.e1.length c_a0_P_e1] 26), (155, rdK 2 p_a0_A a0.A.length (a0.A.flatMap en_TInterval)), (156, rdK 2 p_a0_B a0.B.length (a0.B.flatMap en_TInterval)), (157, rdK 2 p_a0_C a0.C.length (a0.C.flatMap en_TInterval)), (158, rdK 1 p_a0_P_e0 a0.P.e0.length (a0.P.e0.flatMap en_u16)), (159, rdK 1 p_a0_P_e1 a0.P.e1.length (a0.P.e1.flatMap en_u16)), (160, rdK 1 p_a1 a1.length (a1.flatMap en_i64)), (162, owK 40 2 ((ν4 1).o 0) t5.1.length ((ν4 1).n 0) (t5.1.flatMap en_TInterval)), (163, owK 40 2 ((ν4 1).o 1) t5.2.length ((ν4 1).n 1) (t5.2.flatMap en_TInterval))] (by kernel_rfl)
  refine k_cond H (by kernel_rfl) (t := ((decide ((a0.A.length : Int) > 20)) || (decide ((a1.length : Int) > 6)))) (by kernel_rfl) (fun c45 => ?_) (fun c45 => ?_)
  · rw [if_pos c45] at G
    refine k_seq ?_
    refine k_reg mixed H (.cons [33] (ok_val (fun ν7 => .bool t3) 33) <|
      .cons [6] (ok_val (fun ν7 => .bool t3) 6) <| .nil) (by kernel_rfl) fun ν7 a w' H => ?_
    replace H := H.toL [(1, .slot true (.slice p_a1 a1.length c_a1)), (2, .slot true (.int .i64 a2)), (3, .slot true (.pointer (some ⟨((ν1 0).n 0), 0, none⟩))), (6, .slot true (.bool t3)), (7, .slot true (.bool t3)), (8, .slot true (.slice ((ν4 1).o 0) t5.1.length ((ν4 1).n 0))), (9, .slot true (.slice ((ν4 1).o 1) t5.2.length ((ν4 1).n 1))), (161, .blk ((ν1 0).n 0) [.slice p_a0_A a0.A.length c_a0_A, .slice p_a0_B a0.B.length c_a0_B, .slice p_a0_C a0.C.length c_a0_C, .int .u8 a0.N, .slice p_a0_P_e0 a0.P.e0.length c_a0_P_e0, .slice p_a0_P_e1 a0.P.e1.length c_a0_P_e1] 26), (155, rdK 2 p_a0_A a0.A.length (a0.A.flatMap en_TInterval)), (156, rdK 2 p_a0_B a0.B.length (a0.B.flatMap en_TInterval)), (157, rdK 2 p_a0_C a0.C.length (a0.C.flatMap en_TInterval)), (158, rdK 1 p_a0_P_e0 a0.P.e0.length (a0.P.e0.flatMap en_u16)), (159, rdK 1 p_a0_P_e1 a0.P.e1.length (a0.P.e1.flatMap en_u16)), (160, rdK 1 p_a1 a1.length (a1.flatMap en_i64)), (162, owK 40 2 ((ν4 1).o 0) t5.1.length ((ν4 1).n 0) (t5.1.flatMap en_TInterval)), (163, owK 40 2 ((ν4 1).o 1) t5.2.length ((ν4 1).n 1) (t5.2.flatMap en_TInterval))] (by kernel_rfl)
    refine k_ret ?_
    obtain rfl := Option.some.inj G
    exact k_done0 H _ (by kernel_rfl) (by kernel_rfl)
  · rw [if_neg (nt c45)] at G
    refine k_skip ?_
    refine k_seq ?_
    replace G := bnd G; obtain ⟨t9, ht9, G⟩ := G
    refine k_reg mixed H (.cons [35] (ok_val (fun ν8 => .slice ((ν4 1).o 0) t5.1.length ((ν4 1).n 0)) 35) <|
      .cons [36] (ok_val (fun ν8 => .slice ((ν4 1).o 1) t5.2.length ((ν4 1).n 1)) 36) <|
      .cons [37, 164] (ok_callRL [162, 163] (fun ν8 => [owK 40 2 ((ν4 1).o 0) t5.1.length ((ν4 1).n 0) (t5.1.flatMap en_TInterval), owK 40 2 ((ν4 1).o 1) t5.2.length ((ν4 1).n 1) (t5.2.flatMap en_TInterval)]) 14 (fun ν8 => #[.slice ((ν4 1).o 0) t5.1.length ((ν4 1).n 0), .slice ((ν4 1).o 1) t5.2.length ((ν4 1).n 1)]) (fun p cap => .tuple #[.slice p t9.1.length cap, .bool t9.2]) 40 2 t9.1.length (t9.1.flatMap en_TInterval) 37 164 (fun ν8 w hF => box_Intersect.calls t5.1 t5.2 ((ν4 1).o 0) ((ν4 1).n 0) ((ν4 1).o 1) ((ν4 1).n 1) t9 w (owns_row (ow_of hF.1)) (owns_row (ow_of hF.2.1)) ht9)) <|
      .cons [34] (ok_val (fun ν8 => .tuple #[.slice ((ν8 2).o 0) t9.1.length ((ν8 2).n 0), .bool t9.2]) 34) <|
      .cons [38] (ok_val (fun ν8 => .slice ((ν8 2).o 0) t9.1.length ((ν8 2).n 0)) 38) <|
      .cons [39] (ok_val (fun ν8 => .bool t9.2) 39) <|
      .cons [10] (ok_val (fun ν8 => .slice ((ν8 2).o 0) t9.1.length ((ν8 2).n 0)) 10) <|
      .cons [11] (ok_val (fun ν8 => .bool t9.2) 11) <| .nil) (by kernel_rfl) fun ν8 a w' H => ?_
    replace H := H.toL [(1, .slot true (.slice p_a1 a1.length c_a1)), (2, .slot true (.int .i64 a2)), (3, .slot true (.pointer (some ⟨((ν1 0).n 0), 0, none⟩))), (6, .slot true (.bool false)), (7, .slot true (.bool t3)), (8, .slot true (.slice ((ν4 1).o 0) t5.1.length ((ν4 1).n 0))), (9, .slot true (.slice ((ν4 1).o 1) t5.2.length ((ν4 1).n 1))), (10, .slot true (.slice ((ν8 2).o 0) t9.1.length ((ν8 2).n 0))), (11, .slot true (.bool t9.2)), (161, .blk ((ν1 0).n 0) [.slice p_a0_A a0.A.length c_a0_A, .slice p_a0_B a0.B.length c_a0_B, .slice p_a0_C a0.C.length c_a0_C, .int .u8 a0.N, .slice p_a0_P_e0 a0.P.e0.length c_a0_P_e0, .slice p_a0_P_e1 a0.P.e1.length c_a0_P_e1] 26), (155, rdK 2 p_a0_A a0.A.length (a0.A.flatMap en_TInterval)), (156, rdK 2 p_a0_B a0.B.length (a0.B.flatMap en_TInterval)), (157, rdK 2 p_a0_C a0.C.length (a0.C.flatMap en_TInterval)), (158, rdK 1 p_a0_P_e0 a0.P.e0.length (a0.P.e0.flatMap en_u16)), (159, rdK 1 p_a0_P_e1 a0.P.e1.length (a0.P.e1.flatMap en_u16)), (160, rdK 1 p_a1 a1.length (a1.flatMap en_i64)), (162, owK 40 2 ((ν4 1).o 0) t5.1.length ((ν4 1).n 0) (t5.1.flatMap en_TInterval)), (163, owK 40 2 ((ν4 1).o 1) t5.2.length ((ν4 1).n 1) (t5.2.flatMap en_TInterval)), (164, owK 40 2 ((ν8 2).o 0) t9.1.length ((ν8 2).n 0) (t9.1.flatMap en_TInterval))] (by kernel_rfl)
    refine k_seq ?_
    replace G := bnd G; obtain ⟨t11, ht11, G⟩ := G
    refine k_reg mixed H (.cons [41] (ok_val (fun ν10 => .slice ((ν4 1).o 0) t5.1.length ((ν4 1).n 0)) 41) <|
      .cons [42] (ok_val (fun ν10 => .slice ((ν4 1).o 1) t5.2.length ((ν4 1).n 1)) 42) <|
      .cons [43, 165] (ok_callRL [162, 163] (fun ν10 => [owK 40 2 ((ν4 1).o 0) t5.1.length ((ν4 1).n 0) (t5.1.flatMap en_TInterval), owK 40 2 ((ν4 1).o 1) t5.2.length ((ν4 1).n 1) (t5.2.flatMap en_TInterval)]) 15 (fun ν10 => #[.slice ((ν4 1).o 0) t5.1.length ((ν4 1).n 0), .slice ((ν4 1).o 1) t5.2.length ((ν4 1).n 1)]) (fun p cap => .tuple #[.slice p t11.1.length cap, .bool t11.2]) 40 2 t11.1.length (t11.1.flatMap en_TInterval) 43 165 (fun ν10 w hF => armillaryref03_Intersect.calls k0 t5.1 t5.2 ((ν4 1).o 0) ((ν4 1).n 0) ((ν4 1).o 1) ((ν4 1).n 1) t11 w (owns_row (ow_of hF.1)) (owns_row (ow_of hF.2.1)) ht11)) <|
      .cons [40] (ok_val (fun ν10 => .tuple #[.slice ((ν10 2).o 0) t11.1.length ((ν10 2).n 0), .bool t11.2]) 40) <|
      .cons [44] (ok_val (fun ν10 => .slice ((ν10 2).o 0) t11.1.length ((ν10 2).n 0)) 44) <|
      .cons [45] (ok_val (fun ν10 => .bool t11.2) 45) <|
      .cons [12] (ok_val (fun ν10 => .slice ((ν10 2).o 0) t11.1.length ((ν10 2).n 0)) 12) <|
      .cons [13] (ok_val (fun ν10 => .bool t11.2) 13) <| .nil) (by kernel_rfl) fun ν10 a w' H => ?_
    replace H := H.toL [(1, .slot true (.slice p_a1 a1.length c_a1)), (2, .slot true (.int .i64 a2)), (3, .slot true (.pointer (some ⟨((ν1 0).n 0), 0, none⟩))), (6, .slot true (.bool false)), (7, .slot true (.bool t3)), (8, .slot true (.slice ((ν4 1).o 0) t5.1.length ((ν4 1).n 0))), (9, .slot true (.slice ((ν4 1).o 1) t5.2.length ((ν4 1).n 1))), (10, .slot true (.slice ((ν8 2).o 0) t9.1.length ((ν8 2).n 0))), (11, .slot true (.bool t9.2)), (12, .slot true (.slice ((ν10 2).o 0) t11.1.length ((ν10 2).n 0))), (13, .slot true (.bool t11.2)), (161, .blk ((ν1 0).n 0) [.slice p_a0_A a0.A.length c_a0_A, .slice p_a0_B a0.B.length c_a0_B, .slice p_a0_C a0.C.length c_a0_C, .int .u8 a0.N, .slice p_a0_P_e0 a0.P.e0.length c_a0_P_e0, .slice p_a0_P_e1 a0.P.e1.length c_a0_P_e1] 26), (155, rdK 2 p_a0_A a0.A.length (a0.A.flatMap en_TInterval)), (156, rdK 2 p_a0_B a0.B.length (a0.B.flatMap en_TInterval)), (157, rdK 2 p_a0_C a0.C.length (a0.C.flatMap en_TInterval)), (158, rdK 1 p_a0_P_e0 a0.P.e0.length (a0.P.e0.flatMap en_u16)), (159, rdK 1 p_a0_P_e1 a0.P.e1.length (a0.P.e1.flatMap en_u16)), (160, rdK 1 p_a1 a1.length (a1.flatMap en_i64)), (162, owK 40 2 ((ν4 1).o 0) t5.1.length ((ν4 1).n 0) (t5.1.flatMap en_TInterval)), (163, owK 40 2 ((ν4 1).o 1) t5.2.length ((ν4 1).n 1) (t5.2.flatMap en_TInterval)), (164, owK 40 2 ((ν8 2).o 0) t9.1.length ((ν8 2).n 0) (t9.1.flatMap en_TInterval)), (165, owK 40 2 ((ν10 2).o 0) t11.1.length ((ν10 2).n 0) (t11.1.flatMap en_TInterval))] (by kernel_rfl)
    refine k_seq ?_
    replace G := bnd G; obtain ⟨t13, ht13, G⟩ := G
    refine k_reg mixed H (.cons [46] (ok_val (fun ν12 => .slice ((ν4 1).o 0) t5.1.length ((ν4 1).n 0)) 46) <|
      .cons [47] (ok_val (fun ν12 => .pointer (some ⟨((ν1 0).n 0), 4, none⟩)) 47) <|
      .cons [48] (ok_val (fun ν12 => .pointer (some ⟨((ν1 0).n 0), 4, none⟩)) 48) <|
      .cons [49] (ok_ld (fun ν12 => .slice p_a0_P_e0 a0.P.e0.length c_a0_P_e0) 49 161 4 1 (fun ν12 => ((ν1 0).n 0)) (fun ν12 => [.slice p_a0_A a0.A.length c_a0_A, .slice p_a0_B a0.B.length c_a0_B, .slice p_a0_C a0.C.length c_a0_C, .int .u8 a0.N, .slice p_a0_P_e0 a0.P.e0.length c_a0_P_e0, .slice p_a0_P_e1 a0.P.e1.length c_a0_P_e1]) 26) <|
      .cons [50, 166] (ok_callRL [162, 158] (fun ν12 => [owK 40 2 ((ν4 1).o 0) t5.1.length ((ν4 1).n 0) (t5.1.flatMap en_TInterval), rdK 1 p_a0_P_e0 a0.P.e0.length (a0.P.e0.flatMap en_u16)]) 16 (fun ν12 => #[.slice ((ν4 1).o 0) t5.1.length ((ν4 1).n 0), .slice p_a0_P_e0 a0.P.e0.length c_a0_P_e0]) (fun p cap => .slice p t13.length cap) 2 1 t13.length (t13.flatMap en_i64) 50 166 (fun ν12 w hF => armillaryref03_PointIn.calls k0 t5.1 a0.P.e0 ((ν4 1).o 0) ((ν4 1).n 0) p_a0_P_e0 c_a0_P_e0 t13 w (owns_row (ow_of hF.1)) (rd_of hF.2.1) ht13)) <|
      .cons [14] (ok_val (fun ν12 => .slice ((ν12 4).o 0) t13.length ((ν12 4).n 0)) 14) <| .nil) (by kernel_rfl) fun ν12 a w' H => ?_
    replace H := H.toL [(1, .slot true (.slice p_a1 a1.length c_a1)), (2, .slot true (.int .i64 a2)), (3, .slot true (.pointer (some ⟨((ν1 0).n 0), 0, none⟩))), (6, .slot true (.bool false)), (7, .slot true (.bool t3)), (8, .slot true (.slice ((ν4 1).o 0) t5.1.length ((ν4 1).n 0))), (9, .slot true (.slice ((ν4 1).o 1) t5.2.length ((ν4 1).n 1))), (10, .slot true (.slice ((ν8 2).o 0) t9.1.length ((ν8 2).n 0))), (11, .slot true (.bool t9.2)), (12, .slot true (.slice ((ν10 2).o 0) t11.1.length ((ν10 2).n 0))), (13, .slot true (.bool t11.2)), (14, .slot true (.slice ((ν12 4).o 0) t13.length ((ν12 4).n 0))), (161, .blk ((ν1 0).n 0) [.slice p_a0_A a0.A.length c_a0_A, .slice p_a0_B a0.B.length c_a0_B, .slice p_a0_C a0.C.length c_a0_C, .int .u8 a0.N, .slice p_a0_P_e0 a0.P.e0.length c_a0_P_e0, .slice p_a0_P_e1 a0.P.e1.length c_a0_P_e1] 26), (155, rdK 2 p_a0_A a0.A.length (a0.A.flatMap en_TInterval)), (156, rdK 2 p_a0_B a0.B.length (a0.B.flatMap en_TInterval)), (157, rdK 2 p_a0_C a0.C.length (a0.C.flatMap en_TInterval)), (158, rdK 1 p_a0_P_e0 a0.P.e0.length (a0.P.e0.flatMap en_u16)), (159, rdK 1 p_a0_P_e1 a0.P.e1.length (a0.P.e1.flatMap en_u16)), (160, rdK 1 p_a1 a1.length (a1.flatMap en_i64)), (162, owK 40 2 ((ν4 1).o 0) t5.1.length ((ν4 1).n 0) (t5.1.flatMap en_TInterval)), (163, owK 40 2 ((ν4 1).o 1) t5.2.length ((ν4 1).n 1) (t5.2.flatMap en_TInterval)), (164, owK 40 2 ((ν8 2).o 0) t9.1.length ((ν8 2).n 0) (t9.1.flatMap en_TInterval)), (165, owK 40 2 ((ν10 2).o 0) t11.1.length ((ν10 2).n 0) (t11.1.flatMap en_TInterval)), (166, owK 2 1 ((ν12 4).o 0) t13.length ((ν12 4).n 0) (t13.flatMap en_i64))] (by kernel_rfl)
    refine k_seq ?_
    replace G := bnd G; obtain ⟨t15, ht15, G⟩ := G
    refine k_reg mixed H (.cons [51] (ok_val (fun ν14 => .int .i64 a2) 51) <|
      .cons [52] (ok_callv 17 (fun ν14 => #[.int .i64 a2]) (.int .i64 t15) 52 [] (fun _ w _ => armillarylaw03_magnitude.calls a2 t15 w ht15)) <|
      .cons [15] (ok_val (fun ν14 => .int .i64 t15) 15) <| .nil) (by kernel_rfl) fun ν14 a w' H => ?_
    replace H := H.toL [(1, .slot true (.slice p_a1 a1.length c_a1)), (3, .slot true (.pointer (some ⟨((ν1 0).n 0), 0, none⟩))), (6, .slot true (.bool false)), (7, .slot true (.bool t3)), (8, .slot true (.slice ((ν4 1).o 0) t5.1.length ((ν4 1).n 0))), (9, .slot true (.slice ((ν4 1).o 1) t5.2.length ((ν4 1).n 1))), (10, .slot true (.slice ((ν8 2).o 0) t9.1.length ((ν8 2).n 0))), (11, .slot true (.bool t9.2)), (12, .slot true (.slice ((ν10 2).o 0) t11.1.length ((ν10 2).n 0))), (13, .slot true (.bool t11.2)), (14, .slot true (.slice ((ν12 4).o 0) t13.length ((ν12 4).n 0))), (15, .slot true (.int .i64 t15)), (161, .blk ((ν1 0).n 0) [.slice p_a0_A a0.A.length c_a0_A, .slice p_a0_B a0.B.length c_a0_B, .slice p_a0_C a0.C.length c_a0_C, .int .u8 a0.N, .slice p_a0_P_e0 a0.P.e0.length c_a0_P_e0, .slice p_a0_P_e1 a0.P.e1.length c_a0_P_e1] 26), (155, rdK 2 p_a0_A a0.A.length (a0.A.flatMap en_TInterval)), (156, rdK 2 p_a0_B a0.B.length (a0.B.flatMap en_TInterval)), (157, rdK 2 p_a0_C a0.C.length (a0.C.flatMap en_TInterval)), (158, rdK 1 p_a0_P_e0 a0.P.e0.length (a0.P.e0.flatMap en_u16)), (159, rdK 1 p_a0_P_e1 a0.P.e1.length (a0.P.e1.flatMap en_u16)), (160, rdK 1 p_a1 a1.length (a1.flatMap en_i64)), (162, owK 40 2 ((ν4 1).o 0) t5.1.length ((ν4 1).n 0) (t5.1.flatMap en_TInterval)), (163, owK 40 2 ((ν4 1).o 1) t5.2.length ((ν4 1).n 1) (t5.2.flatMap en_TInterval)), (164, owK 40 2 ((ν8 2).o 0) t9.1.length ((ν8 2).n 0) (t9.1.flatMap en_TInterval)), (165, owK 40 2 ((ν10 2).o 0) t11.1.length ((ν10 2).n 0) (t11.1.flatMap en_TInterval)), (166, owK 2 1 ((ν12 4).o 0) t13.length ((ν12 4).n 0) (t13.flatMap en_i64))] (by kernel_rfl)
    refine k_seq ?_
    refine k_seq ?_
    replace G := bnd G; obtain ⟨t17, ht17, G⟩ := G
    replace G := bnd G; obtain ⟨t18, ht18, G⟩ := G
    replace G := bnd G; obtain ⟨t19, ht19, G⟩ := G
    replace G := bnd G; obtain ⟨t20, ht20, G⟩ := G
    replace G := bnd G; obtain ⟨t21, ht21, G⟩ := G
    replace G := bnd G; obtain ⟨t22, ht22, G⟩ := G
    replace G := bnd G; obtain ⟨t23, ht23, G⟩ := G
    refine k_reg mixed H (.cons [53] (ok_val (fun ν16 => .pointer (some ⟨((ν1 0).n 0), 0, none⟩)) 53) <|
      .cons [54] (ok_ld (fun ν16 => .slice p_a0_A a0.A.length c_a0_A) 54 161 0 1 (fun ν16 => ((ν1 0).n 0)) (fun ν16 => [.slice p_a0_A a0.A.length c_a0_A, .slice p_a0_B a0.B.length c_a0_B, .slice p_a0_C a0.C.length c_a0_C, .int .u8 a0.N, .slice p_a0_P_e0 a0.P.e0.length c_a0_P_e0, .slice p_a0_P_e1 a0.P.e1.length c_a0_P_e1]) 26) <|
      .cons [55] (ok_callL [155] (fun ν16 => [rdK 2 p_a0_A a0.A.length (a0.A.flatMap en_TInterval)]) 18 (fun ν16 => #[.slice p_a0_A a0.A.length c_a0_A]) (.bool t17) 55 (fun ν16 w hF => box_Valid.calls k0 a0.A p_a0_A c_a0_A t17 w (rd_of hF.1) ht17)) <|
      .cons [56] (ok_val (fun ν16 => .pointer (some ⟨((ν1 0).n 0), 0, none⟩)) 56) <|
      .cons [57] (ok_ld (fun ν16 => .slice p_a0_A a0.A.length c_a0_A) 57 161 0 1 (fun ν16 => ((ν1 0).n 0)) (fun ν16 => [.slice p_a0_A a0.A.length c_a0_A, .slice p_a0_B a0.B.length c_a0_B, .slice p_a0_C a0.C.length c_a0_C, .int .u8 a0.N, .slice p_a0_P_e0 a0.P.e0.length c_a0_P_e0, .slice p_a0_P_e1 a0.P.e1.length c_a0_P_e1]) 26) <|
      .cons [58] (ok_callL [155] (fun ν16 => [rdK 2 p_a0_A a0.A.length (a0.A.flatMap en_TInterval)]) 19 (fun ν16 => #[.slice p_a0_A a0.A.length c_a0_A]) (.bool t18) 58 (fun ν16 w hF => armillaryref03_Valid.calls k0 a0.A p_a0_A c_a0_A t18 w (rd_of hF.1) ht18)) <|
      .cons [59] (ok_val (fun ν16 => .bool (!(t17 == t18))) 59) <|
      .cons [60] (ok_val (fun ν16 => .bool (!(t17 == t18))) 60) <|
      .cons [61] (ok_valg (fun ν16 => .slice ((ν8 2).o 0) t9.1.length ((ν8 2).n 0)) (fun ν16 => ((!(t17 == t18)) == false)) [true] 61) <|
      .cons [62] (ok_valg (fun ν16 => .slice ((ν10 2).o 0) t11.1.length ((ν10 2).n 0)) (fun ν16 => ((!(t17 == t18)) == false)) [true] 62) <|
      .cons [63] (ok_callLg [164, 165] (fun ν16 => [owK 40 2 ((ν8 2).o 0) t9.1.length ((ν8 2).n 0) (t9.1.flatMap en_TInterval), owK 40 2 ((ν10 2).o 0) t11.1.length ((ν10 2).n 0) (t11.1.flatMap en_TInterval)]) 20 (fun ν16 => #[.slice ((ν8 2).o 0) t9.1.length ((ν8 2).n 0), .slice ((ν10 2).o 0) t11.1.length ((ν10 2).n 0)]) (.bool t19) (fun ν16 => ((!(t17 == t18)) == false)) [true, false, false] 63 (fun ν16 w hg hF => armillaryref03_Same.calls k0 t9.1 t11.1 ((ν8 2).o 0) ((ν8 2).n 0) ((ν10 2).o 0) ((ν10 2).n 0) t19 w (owns_row (ow_of hF.1)) (owns_row (ow_of hF.2.1)) (ifp ht19 hg))) <|
      .cons [64] (ok_valg (fun ν16 => .bool (!t19)) (fun ν16 => ((!(t17 == t18)) == false)) [false] 64) <|
      .cons [65] (ok_or 60 64 (fun ν16 => true) (fun ν16 => true) (fun ν16 => (!(t17 == t18))) (fun ν16 => (!t19)) 65) <|
      .cons [66] (ok_val (fun ν16 => .bool ((!(t17 == t18)) || (!t19))) 66) <|
      .cons [67] (ok_valg (fun ν16 => .bool t9.2) (fun ν16 => (((!(t17 == t18)) || (!t19)) == false)) [true] 67) <|
      .cons [68] (ok_valg (fun ν16 => .bool t11.2) (fun ν16 => (((!(t17 == t18)) || (!t19)) == false)) [true] 68) <|
      .cons [69] (ok_valg (fun ν16 => .bool (!(t9.2 == t11.2))) (fun ν16 => (((!(t17 == t18)) || (!t19)) == false)) [false, false] 69) <|
      .cons [70] (ok_or 66 69 (fun ν16 => true) (fun ν16 => true) (fun ν16 => ((!(t17 == t18)) || (!t19))) (fun ν16 => (!(t9.2 == t11.2))) 70) <|
      .cons [71] (ok_val (fun ν16 => .bool (((!(t17 == t18)) || (!t19)) || (!(t9.2 == t11.2)))) 71) <|
      .cons [72] (ok_valg (fun ν16 => .slice ((ν4 1).o 1) t5.2.length ((ν4 1).n 1)) (fun ν16 => ((((!(t17 == t18)) || (!t19)) || (!(t9.2 == t11.2))) == false)) [true] 72) <|
      .cons [73] (ok_valg (fun ν16 => .slice ((ν12 4).o 0) t13.length ((ν12 4).n 0)) (fun ν16 => ((((!(t17 == t18)) || (!t19)) || (!(t9.2 == t11.2))) == false)) [true] 73) <|
      .cons [74] (ok_callLg [163, 166] (fun ν16 => [owK 40 2 ((ν4 1).o 1) t5.2.length ((ν4 1).n 1) (t5.2.flatMap en_TInterval), owK 2 1 ((ν12 4).o 0) t13.length ((ν12 4).n 0) (t13.flatMap en_i64)]) 21 (fun ν16 => #[.slice ((ν4 1).o 1) t5.2.length ((ν4 1).n 1), .slice ((ν12 4).o 0) t13.length ((ν12 4).n 0)]) (.bool t20) (fun ν16 => ((((!(t17 == t18)) || (!t19)) || (!(t9.2 == t11.2))) == false)) [true, false, false] 74 (fun ν16 w hg hF => box_Contains.calls k0 t5.2 t13 ((ν4 1).o 1) ((ν4 1).n 1) ((ν12 4).o 0) ((ν12 4).n 0) t20 w (owns_row (ow_of hF.1)) (owns_row (ow_of hF.2.1)) (ifp ht20 hg))) <|
      .cons [75] (ok_valg (fun ν16 => .slice ((ν4 1).o 1) t5.2.length ((ν4 1).n 1)) (fun ν16 => ((((!(t17 == t18)) || (!t19)) || (!(t9.2 == t11.2))) == false)) [true] 75) <|
      .cons [76] (ok_valg (fun ν16 => .slice ((ν12 4).o 0) t13.length ((ν12 4).n 0)) (fun ν16 => ((((!(t17 == t18)) || (!t19)) || (!(t9.2 == t11.2))) == false)) [true] 76) <|
      .cons [77] (ok_callLg [163, 166] (fun ν16 => [owK 40 2 ((ν4 1).o 1) t5.2.length ((ν4 1).n 1) (t5.2.flatMap en_TInterval), owK 2 1 ((ν12 4).o 0) t13.length ((ν12 4).n 0) (t13.flatMap en_i64)]) 22 (fun ν16 => #[.slice ((ν4 1).o 1) t5.2.length ((ν4 1).n 1), .slice ((ν12 4).o 0) t13.length ((ν12 4).n 0)]) (.bool t21) (fun ν16 => ((((!(t17 == t18)) || (!t19)) || (!(t9.2 == t11.2))) == false)) [true, false, false] 77 (fun ν16 w hg hF => armillaryref03_Contains.calls k0 t5.2 t13 ((ν4 1).o 1) ((ν4 1).n 1) ((ν12 4).o 0) ((ν12 4).n 0) t21 w (owns_row (ow_of hF.1)) (owns_row (ow_of hF.2.1)) (ifp ht21 hg))) <|
      .cons [78] (ok_valg (fun ν16 => .bool (!(t20 == t21))) (fun ν16 => ((((!(t17 == t18)) || (!t19)) || (!(t9.2 == t11.2))) == false)) [false, false] 78) <|
      .cons [79] (ok_or 71 78 (fun ν16 => true) (fun ν16 => true) (fun ν16 => (((!(t17 == t18)) || (!t19)) || (!(t9.2 == t11.2)))) (fun ν16 => (!(t20 == t21))) 79) <|
      .cons [80] (ok_val (fun ν16 => .bool ((((!(t17 == t18)) || (!t19)) || (!(t9.2 == t11.2))) || (!(t20 == t21)))) 80) <|
      .cons [81] (ok_valg (fun ν16 => .slice ((ν4 1).o 0) t5.1.length ((ν4 1).n 0)) (fun ν16 => (((((!(t17 == t18)) || (!t19)) || (!(t9.2 == t11.2))) || (!(t20 == t21))) == false)) [true] 81) <|
      .cons [82] (ok_valg (fun ν16 => .slice ((ν4 1).o 1) t5.2.length ((ν4 1).n 1)) (fun ν16 => (((((!(t17 == t18)) || (!t19)) || (!(t9.2 == t11.2))) || (!(t20 == t21))) == false)) [true] 82) <|
      .cons [83] (ok_callLg [162, 163] (fun ν16 => [owK 40 2 ((ν4 1).o 0) t5.1.length ((ν4 1).n 0) (t5.1.flatMap en_TInterval), owK 40 2 ((ν4 1).o 1) t5.2.length ((ν4 1).n 1) (t5.2.flatMap en_TInterval)]) 23 (fun ν16 => #[.slice ((ν4 1).o 0) t5.1.length ((ν4 1).n 0), .slice ((ν4 1).o 1) t5.2.length ((ν4 1).n 1)]) (.bool t22) (fun ν16 => (((((!(t17 == t18)) || (!t19)) || (!(t9.2 == t11.2))) || (!(t20 == t21))) == false)) [true, false, false] 83 (fun ν16 w hg hF => box_Subset.calls t5.1 t5.2 ((ν4 1).o 0) ((ν4 1).n 0) ((ν4 1).o 1) ((ν4 1).n 1) t22 w (owns_row (ow_of hF.1)) (owns_row (ow_of hF.2.1)) (ifp ht22 hg))) <|
      .cons [84] (ok_valg (fun ν16 => .slice ((ν4 1).o 0) t5.1.length ((ν4 1).n 0)) (fun ν16 => (((((!(t17 == t18)) || (!t19)) || (!(t9.2 == t11.2))) || (!(t20 == t21))) == false)) [true] 84) <|
      .cons [85] (ok_valg (fun ν16 => .slice ((ν4 1).o 1) t5.2.length ((ν4 1).n 1)) (fun ν16 => (((((!(t17 == t18)) || (!t19)) || (!(t9.2 == t11.2))) || (!(t20 == t21))) == false)) [true] 85) <|
      .cons [86] (ok_callLg [162, 163] (fun ν16 => [owK 40 2 ((ν4 1).o 0) t5.1.length ((ν4 1).n 0) (t5.1.flatMap en_TInterval), owK 40 2 ((ν4 1).o 1) t5.2.length ((ν4 1).n 1) (t5.2.flatMap en_TInterval)]) 24 (fun ν16 => #[.slice ((ν4 1).o 0) t5.1.length ((ν4 1).n 0), .slice ((ν4 1).o 1) t5.2.length ((ν4 1).n 1)]) (.bool t23) (fun ν16 => (((((!(t17 == t18)) || (!t19)) || (!(t9.2 == t11.2))) || (!(t20 == t21))) == false)) [true, false, false] 86 (fun ν16 w hg hF => armillaryref03_Subset.calls k0 t5.1 t5.2 ((ν4 1).o 0) ((ν4 1).n 0) ((ν4 1).o 1) ((ν4 1).n 1) t23 w (owns_row (ow_of hF.1)) (owns_row (ow_of hF.2.1)) (ifp ht23 hg))) <|
      .cons [87] (ok_valg (fun ν16 => .bool (!(t22 == t23))) (fun ν16 => (((((!(t17 == t18)) || (!t19)) || (!(t9.2 == t11.2))) || (!(t20 == t21))) == false)) [false, false] 87) <|
      .cons [88] (ok_or 80 87 (fun ν16 => true) (fun ν16 => true) (fun ν16 => ((((!(t17 == t18)) || (!t19)) || (!(t9.2 == t11.2))) || (!(t20 == t21)))) (fun ν16 => (!(t22 == t23))) 88) <| .nil) (by kernel_rfl) fun ν16 a w' H => ?_
    replace H := H.toL [(1, .slot true (.slice p_a1 a1.length c_a1)), (6, .slot true (.bool false)), (7, .slot true (.bool t3)), (8, .slot true (.slice ((ν4 1).o 0) t5.1.length ((ν4 1).n 0))), (9, .slot true (.slice ((ν4 1).o 1) t5.2.length ((ν4 1).n 1))), (15, .slot true (.int .i64 t15)), (88, .slot true (.bool (((((!(t17 == t18)) || (!t19)) || (!(t9.2 == t11.2))) || (!(t20 == t21))) || (!(t22 == t23))))), (160, rdK 1 p_a1 a1.length (a1.flatMap en_i64)), (162, owK 40 2 ((ν4 1).o 0) t5.1.length ((ν4 1).n 0) (t5.1.flatMap en_TInterval)), (163, owK 40 2 ((ν4 1).o 1) t5.2.length ((ν4 1).n 1) (t5.2.flatMap en_TInterval))] (by kernel_rfl)
    refine k_cond H (by kernel_rfl) (t := (((((!(t17 == t18)) || (!t19)) || (!(t9.2 == t11.2))) || (!(t20 == t21))) || (!(t22 == t23)))) (by kernel_rfl) (fun c44 => ?_) (fun c44 => ?_)
    · rw [if_pos c44] at G
      refine k_seq ?_
      refine k_reg mixed H (.cons [6] (ok_val (fun ν24 => .bool false) 6) <| .nil) (by kernel_rfl) fun ν24 a w' H => ?_
      replace H := H.toL [(1, .slot true (.slice p_a1 a1.length c_a1)), (6, .slot true (.bool false)), (7, .slot true (.bool t3)), (8, .slot true (.slice ((ν4 1).o 0) t5.1.length ((ν4 1).n 0))), (9, .slot true (.slice ((ν4 1).o 1) t5.2.length ((ν4 1).n 1))), (15, .slot true (.int .i64 t15)), (160, rdK 1 p_a1 a1.length (a1.flatMap en_i64)), (162, owK 40 2 ((ν4 1).o 0) t5.1.length ((ν4 1).n 0) (t5.1.flatMap en_TInterval)), (163, owK 40 2 ((ν4 1).o 1) t5.2.length ((ν4 1).n 1) (t5.2.flatMap en_TInterval))] (by kernel_rfl)
      refine k_ret ?_
      obtain rfl := Option.some.inj G
      exact k_done0 H _ (by kernel_rfl) (by kernel_rfl)
    · rw [if_neg (nt c44)] at G
      refine k_skip ?_
      refine k_seq ?_
      refine k_reg mixed H (.cons [89, 167] (ok_new (fun b => .slice (some ⟨b, 0, none⟩) 0 0) (fun ν25 => []) 2 89 167) <|
      .cons [16] (ok_val (fun ν25 => .slice (some ⟨((ν25 0).n 0), 0, none⟩) 0 0) 16) <| .nil) (by kernel_rfl) fun ν25 a w' H => ?_
      replace H := H.toL [(1, .slot true (.slice p_a1 a1.length c_a1)), (6, .slot true (.bool false)), (7, .slot true (.bool t3)), (8, .slot true (.slice ((ν4 1).o 0) t5.1.length ((ν4 1).n 0))), (9, .slot true (.slice ((ν4 1).o 1) t5.2.length ((ν4 1).n 1))), (15, .slot true (.int .i64 t15)), (16, .slot true (.slice (some ⟨((ν25 0).n 0), 0, none⟩) 0 0)), (167, .blk ((ν25 0).n 0) [] 2), (160, rdK 1 p_a1 a1.length (a1.flatMap en_i64)), (162, owK 40 2 ((ν4 1).o 0) t5.1.length ((ν4 1).n 0) (t5.1.flatMap en_TInterval)), (163, owK 40 2 ((ν4 1).o 1) t5.2.length ((ν4 1).n 1) (t5.2.flatMap en_TInterval))] (by kernel_rfl)
      refine k_seq ?_
      replace G := bnd G; obtain ⟨j27, hj27, G⟩ := G
      refine k_join (fun a w' => ∃ (p_j26 : Option Addr) (c_j26 np_j26 : Nat), np_j26 = j27.length ∧ Rep w.heap.size w 155 (ofL [(6, .slot true (.bool false)), (7, .slot true (.bool t3)), (8, .slot true (.slice ((ν4 1).o 0) t5.1.length ((ν4 1).n 0))), (9, .slot true (.slice ((ν4 1).o 1) t5.2.length ((ν4 1).n 1))), (15, .slot true (.int .i64 t15)), (16, .slot true (.slice p_j26 np_j26 c_j26)), (162, owK 40 2 ((ν4 1).o 0) t5.1.length ((ν4 1).n 0) (t5.1.flatMap en_TInterval)), (163, owK 40 2 ((ν4 1).o 1) t5.2.length ((ν4 1).n 1) (t5.2.flatMap en_TInterval)), (167, owK 2 1 p_j26 np_j26 c_j26 (j27.flatMap en_i64))]) a w') ?_ ?_
      · clear H; rintro a w' ⟨p_j26, c_j26, _, rfl, H⟩
        refine k_seq ?_
        replace G := bnd G; obtain ⟨z29, hz29, G⟩ := G
        replace hz29 := Option.some.inj hz29
        by_cases c30 : z29 = true
        · rw [if_pos c30] at G; subst c30
          replace G := bnd G; obtain ⟨t30, ht30, G⟩ := G
          replace G := bnd G; obtain ⟨t31, ht31, G⟩ := G
          replace G := bnd G; obtain ⟨t32, ht32, G⟩ := G
          replace G := bnd G; obtain ⟨t33, ht33, G⟩ := G
          replace G := bnd G; obtain ⟨t34, ht34, G⟩ := G
          replace G := bnd G; obtain ⟨t35, ht35, G⟩ := G
          replace G := bnd G; obtain ⟨t36, ht36, G⟩ := G
          replace G := bnd G; obtain ⟨z37, hz37, G⟩ := G
          replace hz37 := Option.some.inj hz37
          by_cases c38 : z37 = true
          · rw [if_pos c38] at G; subst c38
            replace G := bnd G; obtain ⟨t38, ht38, G⟩ := G
            replace G := bnd G; obtain ⟨t39, ht39, G⟩ := G
            replace G := bnd G; obtain ⟨t40, ht40, G⟩ := G
            replace G := bnd G; obtain ⟨z41, hz41, G⟩ := G
            replace hz41 := Option.some.inj hz41
            by_cases c42 : z41 = true
            · rw [if_pos c42] at G; subst c42
              replace G := bnd G; obtain ⟨z42, hz42, G⟩ := G
              replace hz42 := Option.some.inj hz42
              by_cases c46 : z42 = true
              · rw [if_pos c46] at G; subst c46
                refine k_reg mixed H (.cons [104] (ok_val (fun ν28 => .bool t3) 104) <|
      .cons [105] (ok_as (u' := fun ν28 => [(105, .slot true (.bool true))]) (ok_val (fun ν28 => .bool t3) 105) (fun _ => by rw [hz29])) <|
      .cons [106] (ok_gd (ok_val (fun ν28 => .slice ((ν4 1).o 0) t5.1.length ((ν4 1).n 0)) 106) (by intro _; kernel_rfl)) <|
      .cons [107] (ok_gd (ok_val (fun ν28 => .slice ((ν4 1).o 1) t5.2.length ((ν4 1).n 1)) 107) (by intro _; kernel_rfl)) <|
      .cons [108, 168] (ok_gd (ok_callRL [162, 163] (fun ν28 => [owK 40 2 ((ν4 1).o 0) t5.1.length ((ν4 1).n 0) (t5.1.flatMap en_TInterval), owK 40 2 ((ν4 1).o 1) t5.2.length ((ν4 1).n 1) (t5.2.flatMap en_TInterval)]) 26 (fun ν28 => #[.slice ((ν4 1).o 0) t5.1.length ((ν4 1).n 0), .slice ((ν4 1).o 1) t5.2.length ((ν4 1).n 1)]) (fun p cap => .slice p t30.length cap) 40 2 t30.length (t30.flatMap en_TInterval) 108 168 (fun ν28 w hF => box_Hull.calls t5.1 t5.2 ((ν4 1).o 0) ((ν4 1).n 0) ((ν4 1).o 1) ((ν4 1).n 1) t30 w (owns_row (ow_of hF.1)) (owns_row (ow_of hF.2.1)) ht30)) (by intro _; kernel_rfl)) <|
      .cons [109] (ok_gd (ok_val (fun ν28 => .slice ((ν4 1).o 0) t5.1.length ((ν4 1).n 0)) 109) (by intro _; kernel_rfl)) <|
      .cons [110] (ok_gd (ok_val (fun ν28 => .slice ((ν4 1).o 1) t5.2.length ((ν4 1).n 1)) 110) (by intro _; kernel_rfl)) <|
      .cons [111, 169] (ok_gd (ok_callRL [162, 163] (fun ν28 => [owK 40 2 ((ν4 1).o 0) t5.1.length ((ν4 1).n 0) (t5.1.flatMap en_TInterval), owK 40 2 ((ν4 1).o 1) t5.2.length ((ν4 1).n 1) (t5.2.flatMap en_TInterval)]) 27 (fun ν28 => #[.slice ((ν4 1).o 0) t5.1.length ((ν4 1).n 0), .slice ((ν4 1).o 1) t5.2.length ((ν4 1).n 1)]) (fun p cap => .slice p t31.length cap) 40 2 t31.length (t31.flatMap en_TInterval) 111 169 (fun ν28 w hF => armillaryref03_Hull.calls k0 t5.1 t5.2 ((ν4 1).o 0) ((ν4 1).n 0) ((ν4 1).o 1) ((ν4 1).n 1) t31 w (owns_row (ow_of hF.1)) (owns_row (ow_of hF.2.1)) ht31)) (by intro _; kernel_rfl)) <|
      .cons [112] (ok_gd (ok_callL [168, 169] (fun ν28 => [owK 40 2 ((ν28 4).o 0) t30.length ((ν28 4).n 0) (t30.flatMap en_TInterval), owK 40 2 ((ν28 7).o 0) t31.length ((ν28 7).n 0) (t31.flatMap en_TInterval)]) 20 (fun ν28 => #[.slice ((ν28 4).o 0) t30.length ((ν28 4).n 0), .slice ((ν28 7).o 0) t31.length ((ν28 7).n 0)]) (.bool t32) 112 (fun ν28 w hF => armillaryref03_Same.calls k0 t30 t31 ((ν28 4).o 0) ((ν28 4).n 0) ((ν28 7).o 0) ((ν28 7).n 0) t32 w (owns_row (ow_of hF.1)) (owns_row (ow_of hF.2.1)) ht32)) (by intro _; kernel_rfl)) <|
      .cons [113] (ok_pickK (fun ν28 => .bool t32) 113) <|
      .cons [114] (ok_val (fun ν28 => .bool t32) 114) <|
      .cons [115] (ok_valg (fun ν28 => .slice ((ν4 1).o 0) t5.1.length ((ν4 1).n 0)) (fun ν28 => (t32 == true)) [true] 115) <|
      .cons [116] (ok_valg (fun ν28 => .slice ((ν4 1).o 1) t5.2.length ((ν4 1).n 1)) (fun ν28 => (t32 == true)) [true] 116) <|
      .cons [117] (ok_callLg [162, 163] (fun ν28 => [owK 40 2 ((ν4 1).o 0) t5.1.length ((ν4 1).n 0) (t5.1.flatMap en_TInterval), owK 40 2 ((ν4 1).o 1) t5.2.length ((ν4 1).n 1) (t5.2.flatMap en_TInterval)]) 28 (fun ν28 => #[.slice ((ν4 1).o 0) t5.1.length ((ν4 1).n 0), .slice ((ν4 1).o 1) t5.2.length ((ν4 1).n 1)]) (.agg #[.int .i64 t33.Lo, .int .i64 t33.Hi]) (fun ν28 => (t32 == true)) [true, false, false] 117 (fun ν28 w hg hF => box_SquaredDistance.calls t5.1 t5.2 ((ν4 1).o 0) ((ν4 1).n 0) ((ν4 1).o 1) ((ν4 1).n 1) t33 w (owns_row (ow_of hF.1)) (owns_row (ow_of hF.2.1)) (ifp ht33 hg))) <|
      .cons [118] (ok_valg (fun ν28 => .slice ((ν4 1).o 0) t5.1.length ((ν4 1).n 0)) (fun ν28 => (t32 == true)) [true] 118) <|
      .cons [119] (ok_valg (fun ν28 => .slice ((ν4 1).o 1) t5.2.length ((ν4 1).n 1)) (fun ν28 => (t32 == true)) [true] 119) <|
      .cons [120] (ok_callLg [162, 163] (fun ν28 => [owK 40 2 ((ν4 1).o 0) t5.1.length ((ν4 1).n 0) (t5.1.flatMap en_TInterval), owK 40 2 ((ν4 1).o 1) t5.2.length ((ν4 1).n 1) (t5.2.flatMap en_TInterval)]) 29 (fun ν28 => #[.slice ((ν4 1).o 0) t5.1.length ((ν4 1).n 0), .slice ((ν4 1).o 1) t5.2.length ((ν4 1).n 1)]) (.agg #[.int .i64 t34.Lo, .int .i64 t34.Hi]) (fun ν28 => (t32 == true)) [true, false, false] 120 (fun ν28 w hg hF => armillaryref03_SquaredDistance.calls k0 t5.1 t5.2 ((ν4 1).o 0) ((ν4 1).n 0) ((ν4 1).o 1) ((ν4 1).n 1) t34 w (owns_row (ow_of hF.1)) (owns_row (ow_of hF.2.1)) (ifp ht34 hg))) <|
      .cons [121] (ok_valg (fun ν28 => .bool ((t33.Lo == t34.Lo) && ((t33.Hi == t34.Hi) && true))) (fun ν28 => (t32 == true)) [false, false] 121 (hv := fun _ _ => run_of (by kernel_rfl) (run_eql_agg (t := 40) (x := (.tmp 117)) (y := (.tmp 120)) (xs := #[.int .i64 t33.Lo, .int .i64 t33.Hi]) (ys := #[.int .i64 t34.Lo, .int .i64 t34.Hi]) (b := ((t33.Lo == t34.Lo) && ((t33.Hi == t34.Hi) && true))) (by kernel_rfl) (by kernel_rfl)))) <|
      .cons [122] (ok_and 114 121 (fun ν28 => true) (fun ν28 => true) (fun ν28 => t32) (fun ν28 => ((t33.Lo == t34.Lo) && ((t33.Hi == t34.Hi) && true))) 122) <|
      .cons [123] (ok_val (fun ν28 => .bool (t32 && ((t33.Lo == t34.Lo) && ((t33.Hi == t34.Hi) && true)))) 123) <|
      .cons [124] (ok_valg (fun ν28 => .slice ((ν4 1).o 0) t5.1.length ((ν4 1).n 0)) (fun ν28 => ((t32 && ((t33.Lo == t34.Lo) && ((t33.Hi == t34.Hi) && true))) == true)) [true] 124) <|
      .cons [125] (ok_valg (fun ν28 => .slice ((ν4 1).o 1) t5.2.length ((ν4 1).n 1)) (fun ν28 => ((t32 && ((t33.Lo == t34.Lo) && ((t33.Hi == t34.Hi) && true))) == true)) [true] 125) <|
      .cons [126] (ok_valg (fun ν28 => .int .i64 t15) (fun ν28 => ((t32 && ((t33.Lo == t34.Lo) && ((t33.Hi == t34.Hi) && true))) == true)) [true] 126) <|
      .cons [127] (ok_callLg [162, 163] (fun ν28 => [owK 40 2 ((ν4 1).o 0) t5.1.length ((ν4 1).n 0) (t5.1.flatMap en_TInterval), owK 40 2 ((ν4 1).o 1) t5.2.length ((ν4 1).n 1) (t5.2.flatMap en_TInterval)]) 30 (fun ν28 => #[.slice ((ν4 1).o 0) t5.1.length ((ν4 1).n 0), .slice ((ν4 1).o 1) t5.2.length ((ν4 1).n 1), .int .i64 t15]) (.bool t35) (fun ν28 => ((t32 && ((t33.Lo == t34.Lo) && ((t33.Hi == t34.Hi) && true))) == true)) [true, false, false, false] 127 (fun ν28 w hg hF => box_Separated.calls t5.1 t5.2 t15 ((ν4 1).o 0) ((ν4 1).n 0) ((ν4 1).o 1) ((ν4 1).n 1) t35 w (owns_row (ow_of hF.1)) (owns_row (ow_of hF.2.1)) (ifp ht35 hg))) <|
      .cons [128] (ok_valg (fun ν28 => .slice ((ν4 1).o 0) t5.1.length ((ν4 1).n 0)) (fun ν28 => ((t32 && ((t33.Lo == t34.Lo) && ((t33.Hi == t34.Hi) && true))) == true)) [true] 128) <|
      .cons [129] (ok_valg (fun ν28 => .slice ((ν4 1).o 1) t5.2.length ((ν4 1).n 1)) (fun ν28 => ((t32 && ((t33.Lo == t34.Lo) && ((t33.Hi == t34.Hi) && true))) == true)) [true] 129) <|
      .cons [130] (ok_valg (fun ν28 => .int .i64 t15) (fun ν28 => ((t32 && ((t33.Lo == t34.Lo) && ((t33.Hi == t34.Hi) && true))) == true)) [true] 130) <|
      .cons [131] (ok_callLg [162, 163] (fun ν28 => [owK 40 2 ((ν4 1).o 0) t5.1.length ((ν4 1).n 0) (t5.1.flatMap en_TInterval), owK 40 2 ((ν4 1).o 1) t5.2.length ((ν4 1).n 1) (t5.2.flatMap en_TInterval)]) 31 (fun ν28 => #[.slice ((ν4 1).o 0) t5.1.length ((ν4 1).n 0), .slice ((ν4 1).o 1) t5.2.length ((ν4 1).n 1), .int .i64 t15]) (.bool t36) (fun ν28 => ((t32 && ((t33.Lo == t34.Lo) && ((t33.Hi == t34.Hi) && true))) == true)) [true, false, false, false] 131 (fun ν28 w hg hF => armillaryref03_Separated.calls k0 t5.1 t5.2 t15 ((ν4 1).o 0) ((ν4 1).n 0) ((ν4 1).o 1) ((ν4 1).n 1) t36 w (owns_row (ow_of hF.1)) (owns_row (ow_of hF.2.1)) (ifp ht36 hg))) <|
      .cons [132] (ok_valg (fun ν28 => .bool (t35 == t36)) (fun ν28 => ((t32 && ((t33.Lo == t34.Lo) && ((t33.Hi == t34.Hi) && true))) == true)) [false, false] 132) <|
      .cons [133] (ok_and 123 132 (fun ν28 => true) (fun ν28 => true) (fun ν28 => (t32 && ((t33.Lo == t34.Lo) && ((t33.Hi == t34.Hi) && true)))) (fun ν28 => (t35 == t36)) 133) <|
      .cons [134] (ok_as (u' := fun ν28 => [(134, .slot true (.bool true))]) (ok_val (fun ν28 => .bool ((t32 && ((t33.Lo == t34.Lo) && ((t33.Hi == t34.Hi) && true))) && (t35 == t36))) 134) (fun _ => by rw [hz37])) <|
      .cons [135] (ok_gd (ok_val (fun ν28 => .slice ((ν4 1).o 0) t5.1.length ((ν4 1).n 0)) 135) (by intro _; kernel_rfl)) <|
      .cons [136] (ok_gd (ok_val (fun ν28 => .int .i64 t15) 136) (by intro _; kernel_rfl)) <|
      .cons [137, 170] (ok_gd (ok_callRL [162] (fun ν28 => [owK 40 2 ((ν4 1).o 0) t5.1.length ((ν4 1).n 0) (t5.1.flatMap en_TInterval)]) 32 (fun ν28 => #[.slice ((ν4 1).o 0) t5.1.length ((ν4 1).n 0), .int .i64 t15]) (fun p cap => .slice p t38.length cap) 40 2 t38.length (t38.flatMap en_TInterval) 137 170 (fun ν28 w hF => box_Inflate.calls k0 t5.1 t15 ((ν4 1).o 0) ((ν4 1).n 0) t38 w (owns_row (ow_of hF.1)) ht38)) (by intro _; kernel_rfl)) <|
      .cons [138] (ok_gd (ok_val (fun ν28 => .slice ((ν4 1).o 0) t5.1.length ((ν4 1).n 0)) 138) (by intro _; kernel_rfl)) <|
      .cons [139] (ok_gd (ok_val (fun ν28 => .int .i64 t15) 139) (by intro _; kernel_rfl)) <|
      .cons [140, 171] (ok_gd (ok_callRL [162] (fun ν28 => [owK 40 2 ((ν4 1).o 0) t5.1.length ((ν4 1).n 0) (t5.1.flatMap en_TInterval)]) 33 (fun ν28 => #[.slice ((ν4 1).o 0) t5.1.length ((ν4 1).n 0), .int .i64 t15]) (fun p cap => .slice p t39.length cap) 40 2 t39.length (t39.flatMap en_TInterval) 140 171 (fun ν28 w hF => armillaryref03_Inflate.calls k0 t5.1 t15 ((ν4 1).o 0) ((ν4 1).n 0) t39 w (owns_row (ow_of hF.1)) ht39)) (by intro _; kernel_rfl)) <|
      .cons [141] (ok_gd (ok_callL [170, 171] (fun ν28 => [owK 40 2 ((ν28 33).o 0) t38.length ((ν28 33).n 0) (t38.flatMap en_TInterval), owK 40 2 ((ν28 36).o 0) t39.length ((ν28 36).n 0) (t39.flatMap en_TInterval)]) 20 (fun ν28 => #[.slice ((ν28 33).o 0) t38.length ((ν28 33).n 0), .slice ((ν28 36).o 0) t39.length ((ν28 36).n 0)]) (.bool t40) 141 (fun ν28 w hF => armillaryref03_Same.calls k0 t38 t39 ((ν28 33).o 0) ((ν28 33).n 0) ((ν28 36).o 0) ((ν28 36).n 0) t40 w (owns_row (ow_of hF.1)) (owns_row (ow_of hF.2.1)) ht40)) (by intro _; kernel_rfl)) <|
      .cons [142] (ok_pickK (fun ν28 => .bool t40) 142) <|
      .cons [143] (ok_as (u' := fun ν28 => [(143, .slot true (.bool true))]) (ok_val (fun ν28 => .bool t40) 143) (fun _ => by rw [hz41])) <|
      .cons [144] (ok_gd (ok_val (fun ν28 => .slice p_j26 j27.length c_j26) 144) (by intro _; kernel_rfl)) <|
      .cons [145] (ok_gd (ok_val (fun ν28 => .int .i64 (j27.length : Int)) 145) (by intro _; kernel_rfl)) <|
      .cons [146] (ok_gd (ok_val (fun ν28 => .bool ((j27.length : Int) == 0)) 146) (by intro _; kernel_rfl)) <|
      .cons [147] (ok_as (u' := fun ν28 => [(147, .slot true (.bool true))]) (ok_gd (ok_val (fun ν28 => .bool ((j27.length : Int) == 0)) 147) (by intro _; kernel_rfl)) (fun _ => by rw [hz42])) <|
      .cons [148] (ok_offB 148) <|
      .cons [149] (ok_offB 149) <|
      .cons [150] (ok_offB 150) <|
      .cons [151] (ok_offB 151) <|
      .cons [152] (ok_offB 152) <|
      .cons [153] (ok_gd (ok_pickK (fun ν28 => .bool true) 153) (by intro _; kernel_rfl)) <|
      .cons [154] (ok_pickK (fun ν28 => .bool true) 154) <|
      .cons [6] (ok_val (fun ν28 => .bool true) 6) <| .nil) (by kernel_rfl) fun ν28 a w' H => ?_
                replace H := H.toL [(6, .slot true (.bool true))] (by kernel_rfl)
                refine k_ret ?_
                obtain rfl := Option.some.inj G
                exact k_done0 H _ (by kernel_rfl) (by kernel_rfl)
              rw [if_neg c46] at G
              by_cases c47 : z42 = false
              · rw [if_pos c47] at G; subst c47
                replace G := bnd G; obtain ⟨t43, ht43, G⟩ := G
                replace G := bnd G; obtain ⟨t44, ht44, G⟩ := G
                replace G := bnd G; obtain ⟨t45, ht45, G⟩ := G
                refine k_reg mixed H (.cons [104] (ok_val (fun ν28 => .bool t3) 104) <|
      .cons [105] (ok_as (u' := fun ν28 => [(105, .slot true (.bool true))]) (ok_val (fun ν28 => .bool t3) 105) (fun _ => by rw [hz29])) <|
      .cons [106] (ok_gd (ok_val (fun ν28 => .slice ((ν4 1).o 0) t5.1.length ((ν4 1).n 0)) 106) (by intro _; kernel_rfl)) <|
      .cons [107] (ok_gd (ok_val (fun ν28 => .slice ((ν4 1).o 1) t5.2.length ((ν4 1).n 1)) 107) (by intro _; kernel_rfl)) <|
      .cons [108, 168] (ok_gd (ok_callRL [162, 163] (fun ν28 => [owK 40 2 ((ν4 1).o 0) t5.1.length ((ν4 1).n 0) (t5.1.flatMap en_TInterval), owK 40 2 ((ν4 1).o 1) t5.2.length ((ν4 1).n 1) (t5.2.flatMap en_TInterval)]) 26 (fun ν28 => #[.slice ((ν4 1).o 0) t5.1.length ((ν4 1).n 0), .slice ((ν4 1).o 1) t5.2.length ((ν4 1).n 1)]) (fun p cap => .slice p t30.length cap) 40 2 t30.length (t30.flatMap en_TInterval) 108 168 (fun ν28 w hF => box_Hull.calls t5.1 t5.2 ((ν4 1).o 0) ((ν4 1).n 0) ((ν4 1).o 1) ((ν4 1).n 1) t30 w (owns_row (ow_of hF.1)) (owns_row (ow_of hF.2.1)) ht30)) (by intro _; kernel_rfl)) <|
      .cons [109] (ok_gd (ok_val (fun ν28 => .slice ((ν4 1).o 0) t5.1.length ((ν4 1).n 0)) 109) (by intro _; kernel_rfl)) <|
      .cons [110] (ok_gd (ok_val (fun ν28 => .slice ((ν4 1).o 1) t5.2.length ((ν4 1).n 1)) 110) (by intro _; kernel_rfl)) <|
      .cons [111, 169] (ok_gd (ok_callRL [162, 163] (fun ν28 => [owK 40 2 ((ν4 1).o 0) t5.1.length ((ν4 1).n 0) (t5.1.flatMap en_TInterval), owK 40 2 ((ν4 1).o 1) t5.2.length ((ν4 1).n 1) (t5.2.flatMap en_TInterval)]) 27 (fun ν28 => #[.slice ((ν4 1).o 0) t5.1.length ((ν4 1).n 0), .slice ((ν4 1).o 1) t5.2.length ((ν4 1).n 1)]) (fun p cap => .slice p t31.length cap) 40 2 t31.length (t31.flatMap en_TInterval) 111 169 (fun ν28 w hF => armillaryref03_Hull.calls k0 t5.1 t5.2 ((ν4 1).o 0) ((ν4 1).n 0) ((ν4 1).o 1) ((ν4 1).n 1) t31 w (owns_row (ow_of hF.1)) (owns_row (ow_of hF.2.1)) ht31)) (by intro _; kernel_rfl)) <|
      .cons [112] (ok_gd (ok_callL [168, 169] (fun ν28 => [owK 40 2 ((ν28 4).o 0) t30.length ((ν28 4).n 0) (t30.flatMap en_TInterval), owK 40 2 ((ν28 7).o 0) t31.length ((ν28 7).n 0) (t31.flatMap en_TInterval)]) 20 (fun ν28 => #[.slice ((ν28 4).o 0) t30.length ((ν28 4).n 0), .slice ((ν28 7).o 0) t31.length ((ν28 7).n 0)]) (.bool t32) 112 (fun ν28 w hF => armillaryref03_Same.calls k0 t30 t31 ((ν28 4).o 0) ((ν28 4).n 0) ((ν28 7).o 0) ((ν28 7).n 0) t32 w (owns_row (ow_of hF.1)) (owns_row (ow_of hF.2.1)) ht32)) (by intro _; kernel_rfl)) <|
      .cons [113] (ok_pickK (fun ν28 => .bool t32) 113) <|
      .cons [114] (ok_val (fun ν28 => .bool t32) 114) <|
      .cons [115] (ok_valg (fun ν28 => .slice ((ν4 1).o 0) t5.1.length ((ν4 1).n 0)) (fun ν28 => (t32 == true)) [true] 115) <|
      .cons [116] (ok_valg (fun ν28 => .slice ((ν4 1).o 1) t5.2.length ((ν4 1).n 1)) (fun ν28 => (t32 == true)) [true] 116) <|
      .cons [117] (ok_callLg [162, 163] (fun ν28 => [owK 40 2 ((ν4 1).o 0) t5.1.length ((ν4 1).n 0) (t5.1.flatMap en_TInterval), owK 40 2 ((ν4 1).o 1) t5.2.length ((ν4 1).n 1) (t5.2.flatMap en_TInterval)]) 28 (fun ν28 => #[.slice ((ν4 1).o 0) t5.1.length ((ν4 1).n 0), .slice ((ν4 1).o 1) t5.2.length ((ν4 1).n 1)]) (.agg #[.int .i64 t33.Lo, .int .i64 t33.Hi]) (fun ν28 => (t32 == true)) [true, false, false] 117 (fun ν28 w hg hF => box_SquaredDistance.calls t5.1 t5.2 ((ν4 1).o 0) ((ν4 1).n 0) ((ν4 1).o 1) ((ν4 1).n 1) t33 w (owns_row (ow_of hF.1)) (owns_row (ow_of hF.2.1)) (ifp ht33 hg))) <|
      .cons [118] (ok_valg (fun ν28 => .slice ((ν4 1).o 0) t5.1.length ((ν4 1).n 0)) (fun ν28 => (t32 == true)) [true] 118) <|
      .cons [119] (ok_valg (fun ν28 => .slice ((ν4 1).o 1) t5.2.length ((ν4 1).n 1)) (fun ν28 => (t32 == true)) [true] 119) <|
      .cons [120] (ok_callLg [162, 163] (fun ν28 => [owK 40 2 ((ν4 1).o 0) t5.1.length ((ν4 1).n 0) (t5.1.flatMap en_TInterval), owK 40 2 ((ν4 1).o 1) t5.2.length ((ν4 1).n 1) (t5.2.flatMap en_TInterval)]) 29 (fun ν28 => #[.slice ((ν4 1).o 0) t5.1.length ((ν4 1).n 0), .slice ((ν4 1).o 1) t5.2.length ((ν4 1).n 1)]) (.agg #[.int .i64 t34.Lo, .int .i64 t34.Hi]) (fun ν28 => (t32 == true)) [true, false, false] 120 (fun ν28 w hg hF => armillaryref03_SquaredDistance.calls k0 t5.1 t5.2 ((ν4 1).o 0) ((ν4 1).n 0) ((ν4 1).o 1) ((ν4 1).n 1) t34 w (owns_row (ow_of hF.1)) (owns_row (ow_of hF.2.1)) (ifp ht34 hg))) <|
      .cons [121] (ok_valg (fun ν28 => .bool ((t33.Lo == t34.Lo) && ((t33.Hi == t34.Hi) && true))) (fun ν28 => (t32 == true)) [false, false] 121 (hv := fun _ _ => run_of (by kernel_rfl) (run_eql_agg (t := 40) (x := (.tmp 117)) (y := (.tmp 120)) (xs := #[.int .i64 t33.Lo, .int .i64 t33.Hi]) (ys := #[.int .i64 t34.Lo, .int .i64 t34.Hi]) (b := ((t33.Lo == t34.Lo) && ((t33.Hi == t34.Hi) && true))) (by kernel_rfl) (by kernel_rfl)))) <|
      .cons [122] (ok_and 114 121 (fun ν28 => true) (fun ν28 => true) (fun ν28 => t32) (fun ν28 => ((t33.Lo == t34.Lo) && ((t33.Hi == t34.Hi) && true))) 122) <|
      .cons [123] (ok_val (fun ν28 => .bool (t32 && ((t33.Lo == t34.Lo) && ((t33.Hi == t34.Hi) && true)))) 123) <|
      .cons [124] (ok_valg (fun ν28 => .slice ((ν4 1).o 0) t5.1.length ((ν4 1).n 0)) (fun ν28 => ((t32 && ((t33.Lo == t34.Lo) && ((t33.Hi == t34.Hi) && true))) == true)) [true] 124) <|
      .cons [125] (ok_valg (fun ν28 => .slice ((ν4 1).o 1) t5.2.length ((ν4 1).n 1)) (fun ν28 => ((t32 && ((t33.Lo == t34.Lo) && ((t33.Hi == t34.Hi) && true))) == true)) [true] 125) <|
      .cons [126] (ok_valg (fun ν28 => .int .i64 t15) (fun ν28 => ((t32 && ((t33.Lo == t34.Lo) && ((t33.Hi == t34.Hi) && true))) == true)) [true] 126) <|
      .cons [127] (ok_callLg [162, 163] (fun ν28 => [owK 40 2 ((ν4 1).o 0) t5.1.length ((ν4 1).n 0) (t5.1.flatMap en_TInterval), owK 40 2 ((ν4 1).o 1) t5.2.length ((ν4 1).n 1) (t5.2.flatMap en_TInterval)]) 30 (fun ν28 => #[.slice ((ν4 1).o 0) t5.1.length ((ν4 1).n 0), .slice ((ν4 1).o 1) t5.2.length ((ν4 1).n 1), .int .i64 t15]) (.bool t35) (fun ν28 => ((t32 && ((t33.Lo == t34.Lo) && ((t33.Hi == t34.Hi) && true))) == true)) [true, false, false, false] 127 (fun ν28 w hg hF => box_Separated.calls t5.1 t5.2 t15 ((ν4 1).o 0) ((ν4 1).n 0) ((ν4 1).o 1) ((ν4 1).n 1) t35 w (owns_row (ow_of hF.1)) (owns_row (ow_of hF.2.1)) (ifp ht35 hg))) <|
      .cons [128] (ok_valg (fun ν28 => .slice ((ν4 1).o 0) t5.1.length ((ν4 1).n 0)) (fun ν28 => ((t32 && ((t33.Lo == t34.Lo) && ((t33.Hi == t34.Hi) && true))) == true)) [true] 128) <|
      .cons [129] (ok_valg (fun ν28 => .slice ((ν4 1).o 1) t5.2.length ((ν4 1).n 1)) (fun ν28 => ((t32 && ((t33.Lo == t34.Lo) && ((t33.Hi == t34.Hi) && true))) == true)) [true] 129) <|
      .cons [130] (ok_valg (fun ν28 => .int .i64 t15) (fun ν28 => ((t32 && ((t33.Lo == t34.Lo) && ((t33.Hi == t34.Hi) && true))) == true)) [true] 130) <|
      .cons [131] (ok_callLg [162, 163] (fun ν28 => [owK 40 2 ((ν4 1).o 0) t5.1.length ((ν4 1).n 0) (t5.1.flatMap en_TInterval), owK 40 2 ((ν4 1).o 1) t5.2.length ((ν4 1).n 1) (t5.2.flatMap en_TInterval)]) 31 (fun ν28 => #[.slice ((ν4 1).o 0) t5.1.length ((ν4 1).n 0), .slice ((ν4 1).o 1) t5.2.length ((ν4 1).n 1), .int .i64 t15]) (.bool t36) (fun ν28 => ((t32 && ((t33.Lo == t34.Lo) && ((t33.Hi == t34.Hi) && true))) == true)) [true, false, false, false] 131 (fun ν28 w hg hF => armillaryref03_Separated.calls k0 t5.1 t5.2 t15 ((ν4 1).o 0) ((ν4 1).n 0) ((ν4 1).o 1) ((ν4 1).n 1) t36 w (owns_row (ow_of hF.1)) (owns_row (ow_of hF.2.1)) (ifp ht36 hg))) <|
      .cons [132] (ok_valg (fun ν28 => .bool (t35 == t36)) (fun ν28 => ((t32 && ((t33.Lo == t34.Lo) && ((t33.Hi == t34.Hi) && true))) == true)) [false, false] 132) <|
      .cons [133] (ok_and 123 132 (fun ν28 => true) (fun ν28 => true) (fun ν28 => (t32 && ((t33.Lo == t34.Lo) && ((t33.Hi == t34.Hi) && true)))) (fun ν28 => (t35 == t36)) 133) <|
      .cons [134] (ok_as (u' := fun ν28 => [(134, .slot true (.bool true))]) (ok_val (fun ν28 => .bool ((t32 && ((t33.Lo == t34.Lo) && ((t33.Hi == t34.Hi) && true))) && (t35 == t36))) 134) (fun _ => by rw [hz37])) <|
      .cons [135] (ok_gd (ok_val (fun ν28 => .slice ((ν4 1).o 0) t5.1.length ((ν4 1).n 0)) 135) (by intro _; kernel_rfl)) <|
      .cons [136] (ok_gd (ok_val (fun ν28 => .int .i64 t15) 136) (by intro _; kernel_rfl)) <|
      .cons [137, 170] (ok_gd (ok_callRL [162] (fun ν28 => [owK 40 2 ((ν4 1).o 0) t5.1.length ((ν4 1).n 0) (t5.1.flatMap en_TInterval)]) 32 (fun ν28 => #[.slice ((ν4 1).o 0) t5.1.length ((ν4 1).n 0), .int .i64 t15]) (fun p cap => .slice p t38.length cap) 40 2 t38.length (t38.flatMap en_TInterval) 137 170 (fun ν28 w hF => box_Inflate.calls k0 t5.1 t15 ((ν4 1).o 0) ((ν4 1).n 0) t38 w (owns_row (ow_of hF.1)) ht38)) (by intro _; kernel_rfl)) <|
      .cons [138] (ok_gd (ok_val (fun ν28 => .slice ((ν4 1).o 0) t5.1.length ((ν4 1).n 0)) 138) (by intro _; kernel_rfl)) <|
      .cons [139] (ok_gd (ok_val (fun ν28 => .int .i64 t15) 139) (by intro _; kernel_rfl)) <|
      .cons [140, 171] (ok_gd (ok_callRL [162] (fun ν28 => [owK 40 2 ((ν4 1).o 0) t5.1.length ((ν4 1).n 0) (t5.1.flatMap en_TInterval)]) 33 (fun ν28 => #[.slice ((ν4 1).o 0) t5.1.length ((ν4 1).n 0), .int .i64 t15]) (fun p cap => .slice p t39.length cap) 40 2 t39.length (t39.flatMap en_TInterval) 140 171 (fun ν28 w hF => armillaryref03_Inflate.calls k0 t5.1 t15 ((ν4 1).o 0) ((ν4 1).n 0) t39 w (owns_row (ow_of hF.1)) ht39)) (by intro _; kernel_rfl)) <|
      .cons [141] (ok_gd (ok_callL [170, 171] (fun ν28 => [owK 40 2 ((ν28 33).o 0) t38.length ((ν28 33).n 0) (t38.flatMap en_TInterval), owK 40 2 ((ν28 36).o 0) t39.length ((ν28 36).n 0) (t39.flatMap en_TInterval)]) 20 (fun ν28 => #[.slice ((ν28 33).o 0) t38.length ((ν28 33).n 0), .slice ((ν28 36).o 0) t39.length ((ν28 36).n 0)]) (.bool t40) 141 (fun ν28 w hF => armillaryref03_Same.calls k0 t38 t39 ((ν28 33).o 0) ((ν28 33).n 0) ((ν28 36).o 0) ((ν28 36).n 0) t40 w (owns_row (ow_of hF.1)) (owns_row (ow_of hF.2.1)) ht40)) (by intro _; kernel_rfl)) <|
      .cons [142] (ok_pickK (fun ν28 => .bool t40) 142) <|
      .cons [143] (ok_as (u' := fun ν28 => [(143, .slot true (.bool true))]) (ok_val (fun ν28 => .bool t40) 143) (fun _ => by rw [hz41])) <|
      .cons [144] (ok_gd (ok_val (fun ν28 => .slice p_j26 j27.length c_j26) 144) (by intro _; kernel_rfl)) <|
      .cons [145] (ok_gd (ok_val (fun ν28 => .int .i64 (j27.length : Int)) 145) (by intro _; kernel_rfl)) <|
      .cons [146] (ok_gd (ok_val (fun ν28 => .bool ((j27.length : Int) == 0)) 146) (by intro _; kernel_rfl)) <|
      .cons [147] (ok_as (u' := fun ν28 => [(147, .slot true (.bool false))]) (ok_gd (ok_val (fun ν28 => .bool ((j27.length : Int) == 0)) 147) (by intro _; kernel_rfl)) (fun _ => by rw [hz42])) <|
      .cons [148] (ok_gd (ok_val (fun ν28 => .slice p_j26 j27.length c_j26) 148) (by intro _; kernel_rfl)) <|
      .cons [149, 172] (ok_gd (ok_callRL [167] (fun ν28 => [owK 2 1 p_j26 j27.length c_j26 (j27.flatMap en_i64)]) 34 (fun ν28 => #[.slice p_j26 j27.length c_j26]) (fun p cap => .slice p t43.length cap) 40 2 t43.length (t43.flatMap en_TInterval) 149 172 (fun ν28 w hF => box_Point.calls k0 j27 p_j26 c_j26 t43 w (owns_row (ow_of hF.1)) ht43)) (by intro _; kernel_rfl)) <|
      .cons [150] (ok_gd (ok_val (fun ν28 => .slice p_j26 j27.length c_j26) 150) (by intro _; kernel_rfl)) <|
      .cons [151, 173] (ok_gd (ok_callRL [167] (fun ν28 => [owK 2 1 p_j26 j27.length c_j26 (j27.flatMap en_i64)]) 35 (fun ν28 => #[.slice p_j26 j27.length c_j26]) (fun p cap => .slice p t44.length cap) 40 2 t44.length (t44.flatMap en_TInterval) 151 173 (fun ν28 w hF => armillaryref03_Point.calls k0 j27 p_j26 c_j26 t44 w (owns_row (ow_of hF.1)) ht44)) (by intro _; kernel_rfl)) <|
      .cons [152] (ok_gd (ok_callL [172, 173] (fun ν28 => [owK 40 2 ((ν28 45).o 0) t43.length ((ν28 45).n 0) (t43.flatMap en_TInterval), owK 40 2 ((ν28 47).o 0) t44.length ((ν28 47).n 0) (t44.flatMap en_TInterval)]) 20 (fun ν28 => #[.slice ((ν28 45).o 0) t43.length ((ν28 45).n 0), .slice ((ν28 47).o 0) t44.length ((ν28 47).n 0)]) (.bool t45) 152 (fun ν28 w hF => armillaryref03_Same.calls k0 t43 t44 ((ν28 45).o 0) ((ν28 45).n 0) ((ν28 47).o 0) ((ν28 47).n 0) t45 w (owns_row (ow_of hF.1)) (owns_row (ow_of hF.2.1)) ht45)) (by intro _; kernel_rfl)) <|
      .cons [153] (ok_gd (ok_pickK (fun ν28 => .bool t45) 153) (by intro _; kernel_rfl)) <|
      .cons [154] (ok_pickK (fun ν28 => .bool t45) 154) <|
      .cons [6] (ok_val (fun ν28 => .bool t45) 6) <| .nil) (by kernel_rfl) fun ν28 a w' H => ?_
                replace H := H.toL [(6, .slot true (.bool t45))] (by kernel_rfl)
                refine k_ret ?_
                obtain rfl := Option.some.inj G
                exact k_done0 H _ (by kernel_rfl) (by kernel_rfl)
              rw [if_neg c47] at G
              cases G
            rw [if_neg c42] at G
            by_cases c43 : z41 = false
            · rw [if_pos c43] at G; subst c43
              refine k_reg mixed H (.cons [104] (ok_val (fun ν28 => .bool t3) 104) <|
      .cons [105] (ok_as (u' := fun ν28 => [(105, .slot true (.bool true))]) (ok_val (fun ν28 => .bool t3) 105) (fun _ => by rw [hz29])) <|
      .cons [106] (ok_gd (ok_val (fun ν28 => .slice ((ν4 1).o 0) t5.1.length ((ν4 1).n 0)) 106) (by intro _; kernel_rfl)) <|
      .cons [107] (ok_gd (ok_val (fun ν28 => .slice ((ν4 1).o 1) t5.2.length ((ν4 1).n 1)) 107) (by intro _; kernel_rfl)) <|
      .cons [108, 168] (ok_gd (ok_callRL [162, 163] (fun ν28 => [owK 40 2 ((ν4 1).o 0) t5.1.length ((ν4 1).n 0) (t5.1.flatMap en_TInterval), owK 40 2 ((ν4 1).o 1) t5.2.length ((ν4 1).n 1) (t5.2.flatMap en_TInterval)]) 26 (fun ν28 => #[.slice ((ν4 1).o 0) t5.1.length ((ν4 1).n 0), .slice ((ν4 1).o 1) t5.2.length ((ν4 1).n 1)]) (fun p cap => .slice p t30.length cap) 40 2 t30.length (t30.flatMap en_TInterval) 108 168 (fun ν28 w hF => box_Hull.calls t5.1 t5.2 ((ν4 1).o 0) ((ν4 1).n 0) ((ν4 1).o 1) ((ν4 1).n 1) t30 w (owns_row (ow_of hF.1)) (owns_row (ow_of hF.2.1)) ht30)) (by intro _; kernel_rfl)) <|
      .cons [109] (ok_gd (ok_val (fun ν28 => .slice ((ν4 1).o 0) t5.1.length ((ν4 1).n 0)) 109) (by intro _; kernel_rfl)) <|
      .cons [110] (ok_gd (ok_val (fun ν28 => .slice ((ν4 1).o 1) t5.2.length ((ν4 1).n 1)) 110) (by intro _; kernel_rfl)) <|
      .cons [111, 169] (ok_gd (ok_callRL [162, 163] (fun ν28 => [owK 40 2 ((ν4 1).o 0) t5.1.length ((ν4 1).n 0) (t5.1.flatMap en_TInterval), owK 40 2 ((ν4 1).o 1) t5.2.length ((ν4 1).n 1) (t5.2.flatMap en_TInterval)]) 27 (fun ν28 => #[.slice ((ν4 1).o 0) t5.1.length ((ν4 1).n 0), .slice ((ν4 1).o 1) t5.2.length ((ν4 1).n 1)]) (fun p cap => .slice p t31.length cap) 40 2 t31.length (t31.flatMap en_TInterval) 111 169 (fun ν28 w hF => armillaryref03_Hull.calls k0 t5.1 t5.2 ((ν4 1).o 0) ((ν4 1).n 0) ((ν4 1).o 1) ((ν4 1).n 1) t31 w (owns_row (ow_of hF.1)) (owns_row (ow_of hF.2.1)) ht31)) (by intro _; kernel_rfl)) <|
      .cons [112] (ok_gd (ok_callL [168, 169] (fun ν28 => [owK 40 2 ((ν28 4).o 0) t30.length ((ν28 4).n 0) (t30.flatMap en_TInterval), owK 40 2 ((ν28 7).o 0) t31.length ((ν28 7).n 0) (t31.flatMap en_TInterval)]) 20 (fun ν28 => #[.slice ((ν28 4).o 0) t30.length ((ν28 4).n 0), .slice ((ν28 7).o 0) t31.length ((ν28 7).n 0)]) (.bool t32) 112 (fun ν28 w hF => armillaryref03_Same.calls k0 t30 t31 ((ν28 4).o 0) ((ν28 4).n 0) ((ν28 7).o 0) ((ν28 7).n 0) t32 w (owns_row (ow_of hF.1)) (owns_row (ow_of hF.2.1)) ht32)) (by intro _; kernel_rfl)) <|
      .cons [113] (ok_pickK (fun ν28 => .bool t32) 113) <|
      .cons [114] (ok_val (fun ν28 => .bool t32) 114) <|
      .cons [115] (ok_valg (fun ν28 => .slice ((ν4 1).o 0) t5.1.length ((ν4 1).n 0)) (fun ν28 => (t32 == true)) [true] 115) <|
      .cons [116] (ok_valg (fun ν28 => .slice ((ν4 1).o 1) t5.2.length ((ν4 1).n 1)) (fun ν28 => (t32 == true)) [true] 116) <|
      .cons [117] (ok_callLg [162, 163] (fun ν28 => [owK 40 2 ((ν4 1).o 0) t5.1.length ((ν4 1).n 0) (t5.1.flatMap en_TInterval), owK 40 2 ((ν4 1).o 1) t5.2.length ((ν4 1).n 1) (t5.2.flatMap en_TInterval)]) 28 (fun ν28 => #[.slice ((ν4 1).o 0) t5.1.length ((ν4 1).n 0), .slice ((ν4 1).o 1) t5.2.length ((ν4 1).n 1)]) (.agg #[.int .i64 t33.Lo, .int .i64 t33.Hi]) (fun ν28 => (t32 == true)) [true, false, false] 117 (fun ν28 w hg hF => box_SquaredDistance.calls t5.1 t5.2 ((ν4 1).o 0) ((ν4 1).n 0) ((ν4 1).o 1) ((ν4 1).n 1) t33 w (owns_row (ow_of hF.1)) (owns_row (ow_of hF.2.1)) (ifp ht33 hg))) <|
      .cons [118] (ok_valg (fun ν28 => .slice ((ν4 1).o 0) t5.1.length ((ν4 1).n 0)) (fun ν28 => (t32 == true)) [true] 118) <|
      .cons [119] (ok_valg (fun ν28 => .slice ((ν4 1).o 1) t5.2.length ((ν4 1).n 1)) (fun ν28 => (t32 == true)) [true] 119) <|
      .cons [120] (ok_callLg [162, 163] (fun ν28 => [owK 40 2 ((ν4 1).o 0) t5.1.length ((ν4 1).n 0) (t5.1.flatMap en_TInterval), owK 40 2 ((ν4 1).o 1) t5.2.length ((ν4 1).n 1) (t5.2.flatMap en_TInterval)]) 29 (fun ν28 => #[.slice ((ν4 1).o 0) t5.1.length ((ν4 1).n 0), .slice ((ν4 1).o 1) t5.2.length ((ν4 1).n 1)]) (.agg #[.int .i64 t34.Lo, .int .i64 t34.Hi]) (fun ν28 => (t32 == true)) [true, false, false] 120 (fun ν28 w hg hF => armillaryref03_SquaredDistance.calls k0 t5.1 t5.2 ((ν4 1).o 0) ((ν4 1).n 0) ((ν4 1).o 1) ((ν4 1).n 1) t34 w (owns_row (ow_of hF.1)) (owns_row (ow_of hF.2.1)) (ifp ht34 hg))) <|
      .cons [121] (ok_valg (fun ν28 => .bool ((t33.Lo == t34.Lo) && ((t33.Hi == t34.Hi) && true))) (fun ν28 => (t32 == true)) [false, false] 121 (hv := fun _ _ => run_of (by kernel_rfl) (run_eql_agg (t := 40) (x := (.tmp 117)) (y := (.tmp 120)) (xs := #[.int .i64 t33.Lo, .int .i64 t33.Hi]) (ys := #[.int .i64 t34.Lo, .int .i64 t34.Hi]) (b := ((t33.Lo == t34.Lo) && ((t33.Hi == t34.Hi) && true))) (by kernel_rfl) (by kernel_rfl)))) <|
      .cons [122] (ok_and 114 121 (fun ν28 => true) (fun ν28 => true) (fun ν28 => t32) (fun ν28 => ((t33.Lo == t34.Lo) && ((t33.Hi == t34.Hi) && true))) 122) <|
      .cons [123] (ok_val (fun ν28 => .bool (t32 && ((t33.Lo == t34.Lo) && ((t33.Hi == t34.Hi) && true)))) 123) <|
      .cons [124] (ok_valg (fun ν28 => .slice ((ν4 1).o 0) t5.1.length ((ν4 1).n 0)) (fun ν28 => ((t32 && ((t33.Lo == t34.Lo) && ((t33.Hi == t34.Hi) && true))) == true)) [true] 124) <|
      .cons [125] (ok_valg (fun ν28 => .slice ((ν4 1).o 1) t5.2.length ((ν4 1).n 1)) (fun ν28 => ((t32 && ((t33.Lo == t34.Lo) && ((t33.Hi == t34.Hi) && true))) == true)) [true] 125) <|
      .cons [126] (ok_valg (fun ν28 => .int .i64 t15) (fun ν28 => ((t32 && ((t33.Lo == t34.Lo) && ((t33.Hi == t34.Hi) && true))) == true)) [true] 126) <|
      .cons [127] (ok_callLg [162, 163] (fun ν28 => [owK 40 2 ((ν4 1).o 0) t5.1.length ((ν4 1).n 0) (t5.1.flatMap en_TInterval), owK 40 2 ((ν4 1).o 1) t5.2.length ((ν4 1).n 1) (t5.2.flatMap en_TInterval)]) 30 (fun ν28 => #[.slice ((ν4 1).o 0) t5.1.length ((ν4 1).n 0), .slice ((ν4 1).o 1) t5.2.length ((ν4 1).n 1), .int .i64 t15]) (.bool t35) (fun ν28 => ((t32 && ((t33.Lo == t34.Lo) && ((t33.Hi == t34.Hi) && true))) == true)) [true, false, false, false] 127 (fun ν28 w hg hF => box_Separated.calls t5.1 t5.2 t15 ((ν4 1).o 0) ((ν4 1).n 0) ((ν4 1).o 1) ((ν4 1).n 1) t35 w (owns_row (ow_of hF.1)) (owns_row (ow_of hF.2.1)) (ifp ht35 hg))) <|
      .cons [128] (ok_valg (fun ν28 => .slice ((ν4 1).o 0) t5.1.length ((ν4 1).n 0)) (fun ν28 => ((t32 && ((t33.Lo == t34.Lo) && ((t33.Hi == t34.Hi) && true))) == true)) [true] 128) <|
      .cons [129] (ok_valg (fun ν28 => .slice ((ν4 1).o 1) t5.2.length ((ν4 1).n 1)) (fun ν28 => ((t32 && ((t33.Lo == t34.Lo) && ((t33.Hi == t34.Hi) && true))) == true)) [true] 129) <|
      .cons [130] (ok_valg (fun ν28 => .int .i64 t15) (fun ν28 => ((t32 && ((t33.Lo == t34.Lo) && ((t33.Hi == t34.Hi) && true))) == true)) [true] 130) <|
      .cons [131] (ok_callLg [162, 163] (fun ν28 => [owK 40 2 ((ν4 1).o 0) t5.1.length ((ν4 1).n 0) (t5.1.flatMap en_TInterval), owK 40 2 ((ν4 1).o 1) t5.2.length ((ν4 1).n 1) (t5.2.flatMap en_TInterval)]) 31 (fun ν28 => #[.slice ((ν4 1).o 0) t5.1.length ((ν4 1).n 0), .slice ((ν4 1).o 1) t5.2.length ((ν4 1).n 1), .int .i64 t15]) (.bool t36) (fun ν28 => ((t32 && ((t33.Lo == t34.Lo) && ((t33.Hi == t34.Hi) && true))) == true)) [true, false, false, false] 131 (fun ν28 w hg hF => armillaryref03_Separated.calls k0 t5.1 t5.2 t15 ((ν4 1).o 0) ((ν4 1).n 0) ((ν4 1).o 1) ((ν4 1).n 1) t36 w (owns_row (ow_of hF.1)) (owns_row (ow_of hF.2.1)) (ifp ht36 hg))) <|
      .cons [132] (ok_valg (fun ν28 => .bool (t35 == t36)) (fun ν28 => ((t32 && ((t33.Lo == t34.Lo) && ((t33.Hi == t34.Hi) && true))) == true)) [false, false] 132) <|
      .cons [133] (ok_and 123 132 (fun ν28 => true) (fun ν28 => true) (fun ν28 => (t32 && ((t33.Lo == t34.Lo) && ((t33.Hi == t34.Hi) && true)))) (fun ν28 => (t35 == t36)) 133) <|
      .cons [134] (ok_as (u' := fun ν28 => [(134, .slot true (.bool true))]) (ok_val (fun ν28 => .bool ((t32 && ((t33.Lo == t34.Lo) && ((t33.Hi == t34.Hi) && true))) && (t35 == t36))) 134) (fun _ => by rw [hz37])) <|
      .cons [135] (ok_gd (ok_val (fun ν28 => .slice ((ν4 1).o 0) t5.1.length ((ν4 1).n 0)) 135) (by intro _; kernel_rfl)) <|
      .cons [136] (ok_gd (ok_val (fun ν28 => .int .i64 t15) 136) (by intro _; kernel_rfl)) <|
      .cons [137, 170] (ok_gd (ok_callRL [162] (fun ν28 => [owK 40 2 ((ν4 1).o 0) t5.1.length ((ν4 1).n 0) (t5.1.flatMap en_TInterval)]) 32 (fun ν28 => #[.slice ((ν4 1).o 0) t5.1.length ((ν4 1).n 0), .int .i64 t15]) (fun p cap => .slice p t38.length cap) 40 2 t38.length (t38.flatMap en_TInterval) 137 170 (fun ν28 w hF => box_Inflate.calls k0 t5.1 t15 ((ν4 1).o 0) ((ν4 1).n 0) t38 w (owns_row (ow_of hF.1)) ht38)) (by intro _; kernel_rfl)) <|
      .cons [138] (ok_gd (ok_val (fun ν28 => .slice ((ν4 1).o 0) t5.1.length ((ν4 1).n 0)) 138) (by intro _; kernel_rfl)) <|
      .cons [139] (ok_gd (ok_val (fun ν28 => .int .i64 t15) 139) (by intro _; kernel_rfl)) <|
      .cons [140, 171] (ok_gd (ok_callRL [162] (fun ν28 => [owK 40 2 ((ν4 1).o 0) t5.1.length ((ν4 1).n 0) (t5.1.flatMap en_TInterval)]) 33 (fun ν28 => #[.slice ((ν4 1).o 0) t5.1.length ((ν4 1).n 0), .int .i64 t15]) (fun p cap => .slice p t39.length cap) 40 2 t39.length (t39.flatMap en_TInterval) 140 171 (fun ν28 w hF => armillaryref03_Inflate.calls k0 t5.1 t15 ((ν4 1).o 0) ((ν4 1).n 0) t39 w (owns_row (ow_of hF.1)) ht39)) (by intro _; kernel_rfl)) <|
      .cons [141] (ok_gd (ok_callL [170, 171] (fun ν28 => [owK 40 2 ((ν28 33).o 0) t38.length ((ν28 33).n 0) (t38.flatMap en_TInterval), owK 40 2 ((ν28 36).o 0) t39.length ((ν28 36).n 0) (t39.flatMap en_TInterval)]) 20 (fun ν28 => #[.slice ((ν28 33).o 0) t38.length ((ν28 33).n 0), .slice ((ν28 36).o 0) t39.length ((ν28 36).n 0)]) (.bool t40) 141 (fun ν28 w hF => armillaryref03_Same.calls k0 t38 t39 ((ν28 33).o 0) ((ν28 33).n 0) ((ν28 36).o 0) ((ν28 36).n 0) t40 w (owns_row (ow_of hF.1)) (owns_row (ow_of hF.2.1)) ht40)) (by intro _; kernel_rfl)) <|
      .cons [142] (ok_pickK (fun ν28 => .bool t40) 142) <|
      .cons [143] (ok_as (u' := fun ν28 => [(143, .slot true (.bool false))]) (ok_val (fun ν28 => .bool t40) 143) (fun _ => by rw [hz41])) <|
      .cons [144] (ok_offB 144) <|
      .cons [145] (ok_offB 145) <|
      .cons [146] (ok_offB 146) <|
      .cons [147] (ok_offB 147) <|
      .cons [148] (ok_offB 148) <|
      .cons [149] (ok_offB 149) <|
      .cons [150] (ok_offB 150) <|
      .cons [151] (ok_offB 151) <|
      .cons [152] (ok_offB 152) <|
      .cons [153] (ok_offB 153) <|
      .cons [154] (ok_pickK (fun ν28 => .bool false) 154) <|
      .cons [6] (ok_val (fun ν28 => .bool false) 6) <| .nil) (by kernel_rfl) fun ν28 a w' H => ?_
              replace H := H.toL [(6, .slot true (.bool false))] (by kernel_rfl)
              refine k_ret ?_
              obtain rfl := Option.some.inj G
              exact k_done0 H _ (by kernel_rfl) (by kernel_rfl)
            rw [if_neg c43] at G
            cases G
          rw [if_neg c38] at G
          by_cases c39 : z37 = false
          · rw [if_pos c39] at G; subst c39
            refine k_reg mixed H (.cons [104] (ok_val (fun ν28 => .bool t3) 104) <|
      .cons [105] (ok_as (u' := fun ν28 => [(105, .slot true (.bool true))]) (ok_val (fun ν28 => .bool t3) 105) (fun _ => by rw [hz29])) <|
      .cons [106] (ok_gd (ok_val (fun ν28 => .slice ((ν4 1).o 0) t5.1.length ((ν4 1).n 0)) 106) (by intro _; kernel_rfl)) <|
      .cons [107] (ok_gd (ok_val (fun ν28 => .slice ((ν4 1).o 1) t5.2.length ((ν4 1).n 1)) 107) (by intro _; kernel_rfl)) <|
      .cons [108, 168] (ok_gd (ok_callRL [162, 163] (fun ν28 => [owK 40 2 ((ν4 1).o 0) t5.1.length ((ν4 1).n 0) (t5.1.flatMap en_TInterval), owK 40 2 ((ν4 1).o 1) t5.2.length ((ν4 1).n 1) (t5.2.flatMap en_TInterval)]) 26 (fun ν28 => #[.slice ((ν4 1).o 0) t5.1.length ((ν4 1).n 0), .slice ((ν4 1).o 1) t5.2.length ((ν4 1).n 1)]) (fun p cap => .slice p t30.length cap) 40 2 t30.length (t30.flatMap en_TInterval) 108 168 (fun ν28 w hF => box_Hull.calls t5.1 t5.2 ((ν4 1).o 0) ((ν4 1).n 0) ((ν4 1).o 1) ((ν4 1).n 1) t30 w (owns_row (ow_of hF.1)) (owns_row (ow_of hF.2.1)) ht30)) (by intro _; kernel_rfl)) <|
      .cons [109] (ok_gd (ok_val (fun ν28 => .slice ((ν4 1).o 0) t5.1.length ((ν4 1).n 0)) 109) (by intro _; kernel_rfl)) <|
      .cons [110] (ok_gd (ok_val (fun ν28 => .slice ((ν4 1).o 1) t5.2.length ((ν4 1).n 1)) 110) (by intro _; kernel_rfl)) <|
      .cons [111, 169] (ok_gd (ok_callRL [162, 163] (fun ν28 => [owK 40 2 ((ν4 1).o 0) t5.1.length ((ν4 1).n 0) (t5.1.flatMap en_TInterval), owK 40 2 ((ν4 1).o 1) t5.2.length ((ν4 1).n 1) (t5.2.flatMap en_TInterval)]) 27 (fun ν28 => #[.slice ((ν4 1).o 0) t5.1.length ((ν4 1).n 0), .slice ((ν4 1).o 1) t5.2.length ((ν4 1).n 1)]) (fun p cap => .slice p t31.length cap) 40 2 t31.length (t31.flatMap en_TInterval) 111 169 (fun ν28 w hF => armillaryref03_Hull.calls k0 t5.1 t5.2 ((ν4 1).o 0) ((ν4 1).n 0) ((ν4 1).o 1) ((ν4 1).n 1) t31 w (owns_row (ow_of hF.1)) (owns_row (ow_of hF.2.1)) ht31)) (by intro _; kernel_rfl)) <|
      .cons [112] (ok_gd (ok_callL [168, 169] (fun ν28 => [owK 40 2 ((ν28 4).o 0) t30.length ((ν28 4).n 0) (t30.flatMap en_TInterval), owK 40 2 ((ν28 7).o 0) t31.length ((ν28 7).n 0) (t31.flatMap en_TInterval)]) 20 (fun ν28 => #[.slice ((ν28 4).o 0) t30.length ((ν28 4).n 0), .slice ((ν28 7).o 0) t31.length ((ν28 7).n 0)]) (.bool t32) 112 (fun ν28 w hF => armillaryref03_Same.calls k0 t30 t31 ((ν28 4).o 0) ((ν28 4).n 0) ((ν28 7).o 0) ((ν28 7).n 0) t32 w (owns_row (ow_of hF.1)) (owns_row (ow_of hF.2.1)) ht32)) (by intro _; kernel_rfl)) <|
      .cons [113] (ok_pickK (fun ν28 => .bool t32) 113) <|
      .cons [114] (ok_val (fun ν28 => .bool t32) 114) <|
      .cons [115] (ok_valg (fun ν28 => .slice ((ν4 1).o 0) t5.1.length ((ν4 1).n 0)) (fun ν28 => (t32 == true)) [true] 115) <|
      .cons [116] (ok_valg (fun ν28 => .slice ((ν4 1).o 1) t5.2.length ((ν4 1).n 1)) (fun ν28 => (t32 == true)) [true] 116) <|
      .cons [117] (ok_callLg [162, 163] (fun ν28 => [owK 40 2 ((ν4 1).o 0) t5.1.length ((ν4 1).n 0) (t5.1.flatMap en_TInterval), owK 40 2 ((ν4 1).o 1) t5.2.length ((ν4 1).n 1) (t5.2.flatMap en_TInterval)]) 28 (fun ν28 => #[.slice ((ν4 1).o 0) t5.1.length ((ν4 1).n 0), .slice ((ν4 1).o 1) t5.2.length ((ν4 1).n 1)]) (.agg #[.int .i64 t33.Lo, .int .i64 t33.Hi]) (fun ν28 => (t32 == true)) [true, false, false] 117 (fun ν28 w hg hF => box_SquaredDistance.calls t5.1 t5.2 ((ν4 1).o 0) ((ν4 1).n 0) ((ν4 1).o 1) ((ν4 1).n 1) t33 w (owns_row (ow_of hF.1)) (owns_row (ow_of hF.2.1)) (ifp ht33 hg))) <|
      .cons [118] (ok_valg (fun ν28 => .slice ((ν4 1).o 0) t5.1.length ((ν4 1).n 0)) (fun ν28 => (t32 == true)) [true] 118) <|
      .cons [119] (ok_valg (fun ν28 => .slice ((ν4 1).o 1) t5.2.length ((ν4 1).n 1)) (fun ν28 => (t32 == true)) [true] 119) <|
      .cons [120] (ok_callLg [162, 163] (fun ν28 => [owK 40 2 ((ν4 1).o 0) t5.1.length ((ν4 1).n 0) (t5.1.flatMap en_TInterval), owK 40 2 ((ν4 1).o 1) t5.2.length ((ν4 1).n 1) (t5.2.flatMap en_TInterval)]) 29 (fun ν28 => #[.slice ((ν4 1).o 0) t5.1.length ((ν4 1).n 0), .slice ((ν4 1).o 1) t5.2.length ((ν4 1).n 1)]) (.agg #[.int .i64 t34.Lo, .int .i64 t34.Hi]) (fun ν28 => (t32 == true)) [true, false, false] 120 (fun ν28 w hg hF => armillaryref03_SquaredDistance.calls k0 t5.1 t5.2 ((ν4 1).o 0) ((ν4 1).n 0) ((ν4 1).o 1) ((ν4 1).n 1) t34 w (owns_row (ow_of hF.1)) (owns_row (ow_of hF.2.1)) (ifp ht34 hg))) <|
      .cons [121] (ok_valg (fun ν28 => .bool ((t33.Lo == t34.Lo) && ((t33.Hi == t34.Hi) && true))) (fun ν28 => (t32 == true)) [false, false] 121 (hv := fun _ _ => run_of (by kernel_rfl) (run_eql_agg (t := 40) (x := (.tmp 117)) (y := (.tmp 120)) (xs := #[.int .i64 t33.Lo, .int .i64 t33.Hi]) (ys := #[.int .i64 t34.Lo, .int .i64 t34.Hi]) (b := ((t33.Lo == t34.Lo) && ((t33.Hi == t34.Hi) && true))) (by kernel_rfl) (by kernel_rfl)))) <|
      .cons [122] (ok_and 114 121 (fun ν28 => true) (fun ν28 => true) (fun ν28 => t32) (fun ν28 => ((t33.Lo == t34.Lo) && ((t33.Hi == t34.Hi) && true))) 122) <|
      .cons [123] (ok_val (fun ν28 => .bool (t32 && ((t33.Lo == t34.Lo) && ((t33.Hi == t34.Hi) && true)))) 123) <|
      .cons [124] (ok_valg (fun ν28 => .slice ((ν4 1).o 0) t5.1.length ((ν4 1).n 0)) (fun ν28 => ((t32 && ((t33.Lo == t34.Lo) && ((t33.Hi == t34.Hi) && true))) == true)) [true] 124) <|
      .cons [125] (ok_valg (fun ν28 => .slice ((ν4 1).o 1) t5.2.length ((ν4 1).n 1)) (fun ν28 => ((t32 && ((t33.Lo == t34.Lo) && ((t33.Hi == t34.Hi) && true))) == true)) [true] 125) <|
      .cons [126] (ok_valg (fun ν28 => .int .i64 t15) (fun ν28 => ((t32 && ((t33.Lo == t34.Lo) && ((t33.Hi == t34.Hi) && true))) == true)) [true] 126) <|
      .cons [127] (ok_callLg [162, 163] (fun ν28 => [owK 40 2 ((ν4 1).o 0) t5.1.length ((ν4 1).n 0) (t5.1.flatMap en_TInterval), owK 40 2 ((ν4 1).o 1) t5.2.length ((ν4 1).n 1) (t5.2.flatMap en_TInterval)]) 30 (fun ν28 => #[.slice ((ν4 1).o 0) t5.1.length ((ν4 1).n 0), .slice ((ν4 1).o 1) t5.2.length ((ν4 1).n 1), .int .i64 t15]) (.bool t35) (fun ν28 => ((t32 && ((t33.Lo == t34.Lo) && ((t33.Hi == t34.Hi) && true))) == true)) [true, false, false, false] 127 (fun ν28 w hg hF => box_Separated.calls t5.1 t5.2 t15 ((ν4 1).o 0) ((ν4 1).n 0) ((ν4 1).o 1) ((ν4 1).n 1) t35 w (owns_row (ow_of hF.1)) (owns_row (ow_of hF.2.1)) (ifp ht35 hg))) <|
      .cons [128] (ok_valg (fun ν28 => .slice ((ν4 1).o 0) t5.1.length ((ν4 1).n 0)) (fun ν28 => ((t32 && ((t33.Lo == t34.Lo) && ((t33.Hi == t34.Hi) && true))) == true)) [true] 128) <|
      .cons [129] (ok_valg (fun ν28 => .slice ((ν4 1).o 1) t5.2.length ((ν4 1).n 1)) (fun ν28 => ((t32 && ((t33.Lo == t34.Lo) && ((t33.Hi == t34.Hi) && true))) == true)) [true] 129) <|
      .cons [130] (ok_valg (fun ν28 => .int .i64 t15) (fun ν28 => ((t32 && ((t33.Lo == t34.Lo) && ((t33.Hi == t34.Hi) && true))) == true)) [true] 130) <|
      .cons [131] (ok_callLg [162, 163] (fun ν28 => [owK 40 2 ((ν4 1).o 0) t5.1.length ((ν4 1).n 0) (t5.1.flatMap en_TInterval), owK 40 2 ((ν4 1).o 1) t5.2.length ((ν4 1).n 1) (t5.2.flatMap en_TInterval)]) 31 (fun ν28 => #[.slice ((ν4 1).o 0) t5.1.length ((ν4 1).n 0), .slice ((ν4 1).o 1) t5.2.length ((ν4 1).n 1), .int .i64 t15]) (.bool t36) (fun ν28 => ((t32 && ((t33.Lo == t34.Lo) && ((t33.Hi == t34.Hi) && true))) == true)) [true, false, false, false] 131 (fun ν28 w hg hF => armillaryref03_Separated.calls k0 t5.1 t5.2 t15 ((ν4 1).o 0) ((ν4 1).n 0) ((ν4 1).o 1) ((ν4 1).n 1) t36 w (owns_row (ow_of hF.1)) (owns_row (ow_of hF.2.1)) (ifp ht36 hg))) <|
      .cons [132] (ok_valg (fun ν28 => .bool (t35 == t36)) (fun ν28 => ((t32 && ((t33.Lo == t34.Lo) && ((t33.Hi == t34.Hi) && true))) == true)) [false, false] 132) <|
      .cons [133] (ok_and 123 132 (fun ν28 => true) (fun ν28 => true) (fun ν28 => (t32 && ((t33.Lo == t34.Lo) && ((t33.Hi == t34.Hi) && true)))) (fun ν28 => (t35 == t36)) 133) <|
      .cons [134] (ok_as (u' := fun ν28 => [(134, .slot true (.bool false))]) (ok_val (fun ν28 => .bool ((t32 && ((t33.Lo == t34.Lo) && ((t33.Hi == t34.Hi) && true))) && (t35 == t36))) 134) (fun _ => by rw [hz37])) <|
      .cons [135] (ok_offB 135) <|
      .cons [136] (ok_offB 136) <|
      .cons [137] (ok_offB 137) <|
      .cons [138] (ok_offB 138) <|
      .cons [139] (ok_offB 139) <|
      .cons [140] (ok_offB 140) <|
      .cons [141] (ok_offB 141) <|
      .cons [142] (ok_pickK (fun ν28 => .bool false) 142) <|
      .cons [143] (ok_val (fun ν28 => .bool false) 143) <|
      .cons [144] (ok_offB 144) <|
      .cons [145] (ok_offB 145) <|
      .cons [146] (ok_offB 146) <|
      .cons [147] (ok_offB 147) <|
      .cons [148] (ok_offB 148) <|
      .cons [149] (ok_offB 149) <|
      .cons [150] (ok_offB 150) <|
      .cons [151] (ok_offB 151) <|
      .cons [152] (ok_offB 152) <|
      .cons [153] (ok_offB 153) <|
      .cons [154] (ok_pickK (fun ν28 => .bool false) 154) <|
      .cons [6] (ok_val (fun ν28 => .bool false) 6) <| .nil) (by kernel_rfl) fun ν28 a w' H => ?_
            replace H := H.toL [(6, .slot true (.bool false))] (by kernel_rfl)
            refine k_ret ?_
            obtain rfl := Option.some.inj G
            exact k_done0 H _ (by kernel_rfl) (by kernel_rfl)
          rw [if_neg c39] at G
          cases G
        rw [if_neg c30] at G
        by_cases c31 : z29 = false
        · rw [if_pos c31] at G; subst c31
          refine k_reg mixed H (.cons [104] (ok_val (fun ν28 => .bool t3) 104) <|
      .cons [105] (ok_as (u' := fun ν28 => [(105, .slot true (.bool false))]) (ok_val (fun ν28 => .bool t3) 105) (fun _ => by rw [hz29])) <|
      .cons [106] (ok_offB 106) <|
      .cons [107] (ok_offB 107) <|
      .cons [108] (ok_offB 108) <|
      .cons [109] (ok_offB 109) <|
      .cons [110] (ok_offB 110) <|
      .cons [111] (ok_offB 111) <|
      .cons [112] (ok_offB 112) <|
      .cons [113] (ok_pickK (fun ν28 => .bool false) 113) <|
      .cons [114] (ok_val (fun ν28 => .bool false) 114) <|
      .cons [115] (ok_offB 115) <|
      .cons [116] (ok_offB 116) <|
      .cons [117] (ok_offB 117) <|
      .cons [118] (ok_offB 118) <|
      .cons [119] (ok_offB 119) <|
      .cons [120] (ok_offB 120) <|
      .cons [121] (ok_offB 121) <|
      .cons [122] (ok_pickK (fun ν28 => .bool false) 122) <|
      .cons [123] (ok_val (fun ν28 => .bool false) 123) <|
      .cons [124] (ok_offB 124) <|
      .cons [125] (ok_offB 125) <|
      .cons [126] (ok_offB 126) <|
      .cons [127] (ok_offB 127) <|
      .cons [128] (ok_offB 128) <|
      .cons [129] (ok_offB 129) <|
      .cons [130] (ok_offB 130) <|
      .cons [131] (ok_offB 131) <|
      .cons [132] (ok_offB 132) <|
      .cons [133] (ok_pickK (fun ν28 => .bool false) 133) <|
      .cons [134] (ok_val (fun ν28 => .bool false) 134) <|
      .cons [135] (ok_offB 135) <|
      .cons [136] (ok_offB 136) <|
      .cons [137] (ok_offB 137) <|
      .cons [138] (ok_offB 138) <|
      .cons [139] (ok_offB 139) <|
      .cons [140] (ok_offB 140) <|
      .cons [141] (ok_offB 141) <|
      .cons [142] (ok_pickK (fun ν28 => .bool false) 142) <|
      .cons [143] (ok_val (fun ν28 => .bool false) 143) <|
      .cons [144] (ok_offB 144) <|
      .cons [145] (ok_offB 145) <|
      .cons [146] (ok_offB 146) <|
      .cons [147] (ok_offB 147) <|
      .cons [148] (ok_offB 148) <|
      .cons [149] (ok_offB 149) <|
      .cons [150] (ok_offB 150) <|
      .cons [151] (ok_offB 151) <|
      .cons [152] (ok_offB 152) <|
      .cons [153] (ok_offB 153) <|
      .cons [154] (ok_pickK (fun ν28 => .bool false) 154) <|
      .cons [6] (ok_val (fun ν28 => .bool false) 6) <| .nil) (by kernel_rfl) fun ν28 a w' H => ?_
          replace H := H.toL [(6, .slot true (.bool false))] (by kernel_rfl)
          refine k_ret ?_
          obtain rfl := Option.some.inj G
          exact k_done0 H _ (by kernel_rfl) (by kernel_rfl)
        rw [if_neg c31] at G
        cases G
      · clear G; replace G := hj27; clear hj27
        refine k_seq ?_
        refine k_reg mixed H (.cons [17] (ok_val (fun ν32 => .int .i64 0) 17) <| .nil) (by kernel_rfl) fun ν32 a w' H => ?_
        replace H := H.toL [(1, .slot true (.slice p_a1 a1.length c_a1)), (6, .slot true (.bool false)), (7, .slot true (.bool t3)), (8, .slot true (.slice ((ν4 1).o 0) t5.1.length ((ν4 1).n 0))), (9, .slot true (.slice ((ν4 1).o 1) t5.2.length ((ν4 1).n 1))), (15, .slot true (.int .i64 t15)), (16, .slot true (.slice (some ⟨((ν25 0).n 0), 0, none⟩) 0 0)), (17, .slot true (.int .i64 0)), (167, .blk ((ν25 0).n 0) [] 2), (160, rdK 1 p_a1 a1.length (a1.flatMap en_i64)), (162, owK 40 2 ((ν4 1).o 0) t5.1.length ((ν4 1).n 0) (t5.1.flatMap en_TInterval)), (163, owK 40 2 ((ν4 1).o 1) t5.2.length ((ν4 1).n 1) (t5.2.flatMap en_TInterval))] (by kernel_rfl)
        refine k_block ?_
        replace H := H.blk_row 167 ((ν25 0).n 0) [] 2 1 0 (by kernel_rfl) (by kernel_rfl) (by decide)
        refine k_loopJ (fun m a w' => ∃ x33 : List Int, ∃ x34 : Int, armillarylaw03_BoxMatchesReference.l35 k0 a0 a1 a2 t3 t5 t9 t11 t13 t15 t17 t18 t19 t20 t21 t22 t23 m x33 x34 = some j27 ∧ ∃ (p_x33 : Option Addr) (c_x33 np_x33 : Nat), np_x33 = x33.length ∧ Rep w.heap.size w 155 (ofL [(1, .slot true (.slice p_a1 a1.length c_a1)), (6, .slot true (.bool false)), (7, .slot true (.bool t3)), (8, .slot true (.slice ((ν4 1).o 0) t5.1.length ((ν4 1).n 0))), (9, .slot true (.slice ((ν4 1).o 1) t5.2.length ((ν4 1).n 1))), (15, .slot true (.int .i64 t15)), (16, .slot true (.slice p_x33 np_x33 c_x33)), (17, .slot true (.int .i64 x34)), (160, rdK 1 p_a1 a1.length (a1.flatMap en_i64)), (162, owK 40 2 ((ν4 1).o 0) t5.1.length ((ν4 1).n 0) (t5.1.flatMap en_TInterval)), (163, owK 40 2 ((ν4 1).o 1) t5.2.length ((ν4 1).n 1) (t5.2.flatMap en_TInterval)), (167, owK 2 1 p_x33 np_x33 c_x33 (x33.flatMap en_i64))]) a w') k0 ⟨_, _, G, (some ⟨((ν25 0).n 0), 0, none⟩), 0, _, rfl, H.toL _ (by kernel_rfl)⟩ ?_
        clear G H
        rintro (_ | k) a w' ⟨x33, x34, G, p_x33, c_x33, _, rfl, H⟩
        · exact absurd G (by unfold armillarylaw03_BoxMatchesReference.l35; exact fun h => by cases h)
        · unfold armillarylaw03_BoxMatchesReference.l35 at G
          refine k_seq ?_
          refine k_seq ?_
          refine k_reg mixed H (.cons [90] (ok_val (fun ν36 => .int .i64 x34) 90) <|
      .cons [91] (ok_val (fun ν36 => .slice p_a1 a1.length c_a1) 91) <|
      .cons [92] (ok_val (fun ν36 => .int .i64 (a1.length : Int)) 92) <|
      .cons [93] (ok_val (fun ν36 => .bool (decide (x34 < (a1.length : Int)))) 93) <| .nil) (by kernel_rfl) fun ν36 a w' H => ?_
          replace H := H.toL [(1, .slot true (.slice p_a1 a1.length c_a1)), (6, .slot true (.bool false)), (7, .slot true (.bool t3)), (8, .slot true (.slice ((ν4 1).o 0) t5.1.length ((ν4 1).n 0))), (9, .slot true (.slice ((ν4 1).o 1) t5.2.length ((ν4 1).n 1))), (15, .slot true (.int .i64 t15)), (16, .slot true (.slice p_x33 x33.length c_x33)), (17, .slot true (.int .i64 x34)), (90, .slot true (.int .i64 x34)), (91, .slot true (.slice p_a1 a1.length c_a1)), (92, .slot true (.int .i64 (a1.length : Int))), (93, .slot true (.bool (decide (x34 < (a1.length : Int))))), (160, rdK 1 p_a1 a1.length (a1.flatMap en_i64)), (162, owK 40 2 ((ν4 1).o 0) t5.1.length ((ν4 1).n 0) (t5.1.flatMap en_TInterval)), (163, owK 40 2 ((ν4 1).o 1) t5.2.length ((ν4 1).n 1) (t5.2.flatMap en_TInterval)), (167, owK 2 1 p_x33 x33.length c_x33 (x33.flatMap en_i64))] (by kernel_rfl)
          refine k_cond H (by kernel_rfl) (t := decide (x34 < (a1.length : Int))) (by kernel_rfl) (fun c43 => ?_) (fun c43 => ?_)
          · rw [if_pos c43] at G
            refine k_skip ?_
            refine k_seq ?_
            refine k_block ?_
            replace G := gd G; obtain ⟨b38, G⟩ := G
            replace G := bnd G; obtain ⟨t39, ht39, G⟩ := G
            replace G := bnd G; obtain ⟨t40, ht40, G⟩ := G
            replace G := gd G; obtain ⟨b41, G⟩ := G
            refine k_reg mixed H (.cons [96] (ok_val (fun ν37 => .slice p_x33 x33.length c_x33) 96) <|
      .cons [97] (ok_val (fun ν37 => .slice p_a1 a1.length c_a1) 97) <|
      .cons [98] (ok_val (fun ν37 => .int .i64 x34) 98) <|
      .cons [99] (ok_valL [160] (fun ν37 => [rdK 1 p_a1 a1.length (a1.flatMap en_i64)]) (fun ν37 => .pointer (some ⟨hdB p_a1, hdO p_a1 + x34.toNat * 1, none⟩)) (fun ν37 => true) [true, true] 99 (fun ν37 w hg hF => run_of (by kernel_rfl) (run_ix (t := 27) (p := p_a1) (n := a1.length) (cap := c_a1) (k := .i64) (i := x34) (sz := 1) (by kernel_rfl) (by kernel_rfl) (rd_of hF.1) b38))) <|
      .cons [100] (ok_valL [160] (fun ν37 => [rdK 1 p_a1 a1.length (a1.flatMap en_i64)]) (fun ν37 => .int .i64 t39) (fun ν37 => true) [true] 100 (fun ν37 w hg hF => ld_of (vs := [.int .i64 t39]) (b := hdB p_a1) (off := hdO p_a1 + x34.toNat * 1 + 0) (m := 1) (by kernel_rfl) (el_cells (rd_of hF.1) en_i64_len ht39 0 1 rfl))) <|
      .cons [101] (ok_callv 25 (fun ν37 => #[.int .i64 t39]) (.int .i64 t40) 101 [] (fun _ w _ => armillaryref01_Made.calls t39 t40 w ht40)) <|
      .cons [102, 168] (ok_new (fun b => .slice (some ⟨b, 0, none⟩) 1 1) (fun ν37 => [.int .i64 t40]) 2 102 168) <|
      .cons [103, 167] (ok_rowL [167, 168] (fun ν37 => [owK 2 1 p_x33 x33.length c_x33 (x33.flatMap en_i64), .blk ((ν37 6).n 0) [.int .i64 t40] 2]) 2 1 (x33 ++ [t40]).length ((x33 ++ [t40]).flatMap en_i64) 103 167 (fun ν37 => owK 2 1 p_x33 x33.length c_x33 (x33.flatMap en_i64)) (fun ν37 w hF => run_app_row (t := 27) (ty := 27) (en := en_i64) en_i64_len inf2 (ow_of hF.1) hF.2.1 (news := [t40]) rfl (by simp) (by kernel_rfl) b41) (fun _ => .inr trivial)) <|
      .cons [16] (ok_val (fun ν37 => .slice ((ν37 7).o 0) (x33 ++ [t40]).length ((ν37 7).n 0)) 16) <| .nil) (by kernel_rfl) fun ν37 a w' H => ?_
            replace H := H.toL [(1, .slot true (.slice p_a1 a1.length c_a1)), (6, .slot true (.bool false)), (7, .slot true (.bool t3)), (8, .slot true (.slice ((ν4 1).o 0) t5.1.length ((ν4 1).n 0))), (9, .slot true (.slice ((ν4 1).o 1) t5.2.length ((ν4 1).n 1))), (15, .slot true (.int .i64 t15)), (16, .slot true (.slice ((ν37 7).o 0) (x33 ++ [t40]).length ((ν37 7).n 0))), (17, .slot true (.int .i64 x34)), (90, .slot true (.int .i64 x34)), (91, .slot true (.slice p_a1 a1.length c_a1)), (92, .slot true (.int .i64 (a1.length : Int))), (93, .slot true (.bool (decide (x34 < (a1.length : Int))))), (97, .slot true (.slice p_a1 a1.length c_a1)), (98, .slot true (.int .i64 x34)), (99, .slot true (.pointer (some ⟨hdB p_a1, hdO p_a1 + x34.toNat * 1, none⟩))), (100, .slot true (.int .i64 t39)), (101, .slot true (.int .i64 t40)), (102, .slot true (.slice (some ⟨((ν37 6).n 0), 0, none⟩) 1 1)), (103, .slot true (.slice ((ν37 7).o 0) (x33 ++ [t40]).length ((ν37 7).n 0))), (168, .blk ((ν37 6).n 0) [.int .i64 t40] 2), (160, rdK 1 p_a1 a1.length (a1.flatMap en_i64)), (162, owK 40 2 ((ν4 1).o 0) t5.1.length ((ν4 1).n 0) (t5.1.flatMap en_TInterval)), (163, owK 40 2 ((ν4 1).o 1) t5.2.length ((ν4 1).n 1) (t5.2.flatMap en_TInterval)), (167, owK 2 1 ((ν37 7).o 0) (x33 ++ [t40]).length ((ν37 7).n 0) ((x33 ++ [t40]).flatMap en_i64))] (by kernel_rfl)
            refine k_reg mixed H (.cons [94] (ok_val (fun ν42 => .int .i64 x34) 94) <|
      .cons [95] (ok_val (fun ν42 => .int .i64 (w_i64 (x34 + 1))) 95) <|
      .cons [17] (ok_val (fun ν42 => .int .i64 (w_i64 (x34 + 1))) 17) <| .nil) (by kernel_rfl) fun ν42 a w' H => ?_
            replace H := H.toL [(1, .slot true (.slice p_a1 a1.length c_a1)), (6, .slot true (.bool false)), (7, .slot true (.bool t3)), (8, .slot true (.slice ((ν4 1).o 0) t5.1.length ((ν4 1).n 0))), (9, .slot true (.slice ((ν4 1).o 1) t5.2.length ((ν4 1).n 1))), (15, .slot true (.int .i64 t15)), (16, .slot true (.slice ((ν37 7).o 0) (x33 ++ [t40]).length ((ν37 7).n 0))), (17, .slot true (.int .i64 (w_i64 (x34 + 1)))), (90, .slot true (.int .i64 x34)), (91, .slot true (.slice p_a1 a1.length c_a1)), (92, .slot true (.int .i64 (a1.length : Int))), (93, .slot true (.bool (decide (x34 < (a1.length : Int))))), (94, .slot true (.int .i64 x34)), (95, .slot true (.int .i64 (w_i64 (x34 + 1)))), (97, .slot true (.slice p_a1 a1.length c_a1)), (98, .slot true (.int .i64 x34)), (99, .slot true (.pointer (some ⟨hdB p_a1, hdO p_a1 + x34.toNat * 1, none⟩))), (100, .slot true (.int .i64 t39)), (101, .slot true (.int .i64 t40)), (102, .slot true (.slice (some ⟨((ν37 6).n 0), 0, none⟩) 1 1)), (103, .slot true (.slice ((ν37 7).o 0) (x33 ++ [t40]).length ((ν37 7).n 0))), (168, .blk ((ν37 6).n 0) [.int .i64 t40] 2), (160, rdK 1 p_a1 a1.length (a1.flatMap en_i64)), (162, owK 40 2 ((ν4 1).o 0) t5.1.length ((ν4 1).n 0) (t5.1.flatMap en_TInterval)), (163, owK 40 2 ((ν4 1).o 1) t5.2.length ((ν4 1).n 1) (t5.2.flatMap en_TInterval)), (167, owK 2 1 ((ν37 7).o 0) (x33 ++ [t40]).length ((ν37 7).n 0) ((x33 ++ [t40]).flatMap en_i64))] (by kernel_rfl)
            exact ⟨k, Nat.lt_succ_self k, _, _, G, ((ν37 7).o 0), ((ν37 7).n 0), _, rfl, H.toL _ (by kernel_rfl)⟩
          · rw [if_neg (nt c43)] at G
            refine k_exit rfl ?_
            obtain rfl := Option.some.inj G
            exact ⟨p_x33, c_x33, _, rfl, H.toL _ (by kernel_rfl)⟩

end Go.Proofs.Ytgccinodonkgjaa
