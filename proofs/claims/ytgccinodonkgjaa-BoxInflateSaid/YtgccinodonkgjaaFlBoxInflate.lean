/- The law BoxInflate answers as the plain Lean function of its name. Printed by a program of this session. -/
import Derived.Test.YtgccinodonkgjaaFn2
set_option linter.unusedVariables false
set_option maxRecDepth 100000
namespace Go.Proofs.Ytgccinodonkgjaa
open Go Go.RowKit Go.Sx Go.Proofs
set_option maxHeartbeats 4000000 in
theorem armillarylaw03_BoxInflate.calls (k0 : Nat) (a0 : TInput) (a1 : Int) (a2 : Int) (p_a0_A : Option Addr) (c_a0_A : Nat) (p_a0_B : Option Addr) (c_a0_B : Nat) (p_a0_C : Option Addr) (c_a0_C : Nat) (p_a0_P_e0 : Option Addr) (c_a0_P_e0 : Nat) (p_a0_P_e1 : Option Addr) (c_a0_P_e1 : Nat) (r : Bool) (w : World) (R_p_a0_A : RowAt w 2 p_a0_A a0.A.length (a0.A.flatMap en_TInterval)) (R_p_a0_B : RowAt w 2 p_a0_B a0.B.length (a0.B.flatMap en_TInterval)) (R_p_a0_C : RowAt w 2 p_a0_C a0.C.length (a0.C.flatMap en_TInterval)) (R_p_a0_P_e0 : RowAt w 1 p_a0_P_e0 a0.P.e0.length (a0.P.e0.flatMap en_u16)) (R_p_a0_P_e1 : RowAt w 1 p_a0_P_e1 a0.P.e1.length (a0.P.e1.flatMap en_u16)) (G : armillarylaw03_BoxInflate k0 a0 a1 a2 = some r) :
    Calls Try.prog 11 #[.agg #[.slice p_a0_A a0.A.length c_a0_A, .slice p_a0_B a0.B.length c_a0_B, .slice p_a0_C a0.C.length c_a0_C, .int .u8 a0.N, .slice p_a0_P_e0 a0.P.e0.length c_a0_P_e0, .slice p_a0_P_e1 a0.P.e1.length c_a0_P_e1], .int .i64 a1, .int .i64 a2] w fun e w' => e = .returned (.bool r) ∧ Below w.heap.size w w' := by
  refine k_enterF (args := [.agg #[.slice p_a0_A a0.A.length c_a0_A, .slice p_a0_B a0.B.length c_a0_B, .slice p_a0_C a0.C.length c_a0_C, .int .u8 a0.N, .slice p_a0_P_e0 a0.P.e0.length c_a0_P_e0, .slice p_a0_P_e1 a0.P.e1.length c_a0_P_e1], .int .i64 a1, .int .i64 a2]) 101 [(101, rdK 2 p_a0_A a0.A.length (a0.A.flatMap en_TInterval)), (102, rdK 2 p_a0_B a0.B.length (a0.B.flatMap en_TInterval)), (103, rdK 2 p_a0_C a0.C.length (a0.C.flatMap en_TInterval)), (104, rdK 1 p_a0_P_e0 a0.P.e0.length (a0.P.e0.flatMap en_u16)), (105, rdK 1 p_a0_P_e1 a0.P.e1.length (a0.P.e1.flatMap en_u16))] (by
    intro x hx
    simp only [List.mem_cons, List.not_mem_nil, or_false] at hx
    rcases hx with rfl | rfl | rfl | rfl | rfl
    · exact rd_fact R_p_a0_A (by decide) _
    · exact rd_fact R_p_a0_B (by decide) _
    · exact rd_fact R_p_a0_C (by decide) _
    · exact rd_fact R_p_a0_P_e0 (by decide) _
    · exact rd_fact R_p_a0_P_e1 (by decide) _) Try.func11 rfl (by kernel_rfl) (by kernel_rfl) fun a H => ?_
  unfold armillarylaw03_BoxInflate at G
  refine k_seq ?_
  refine k_reg mixed H (.cons [3, 106] (ok_new (fun b => .pointer (some ⟨b, 0, none⟩)) (fun ν1 => [.slice p_a0_A a0.A.length c_a0_A, .slice p_a0_B a0.B.length c_a0_B, .slice p_a0_C a0.C.length c_a0_C, .int .u8 a0.N, .slice p_a0_P_e0 a0.P.e0.length c_a0_P_e0, .slice p_a0_P_e1 a0.P.e1.length c_a0_P_e1]) 26 3 106) <|
      .cons [6] (ok_val (fun ν1 => .bool false) 6) <| .nil) (by kernel_rfl) fun ν1 a w' H => ?_
  replace H := H.toL [(1, .slot true (.int .i64 a1)), (2, .slot true (.int .i64 a2)), (3, .slot true (.pointer (some ⟨((ν1 0).n 0), 0, none⟩))), (6, .slot true (.bool false)), (106, .blk ((ν1 0).n 0) [.slice p_a0_A a0.A.length c_a0_A, .slice p_a0_B a0.B.length c_a0_B, .slice p_a0_C a0.C.length c_a0_C, .int .u8 a0.N, .slice p_a0_P_e0 a0.P.e0.length c_a0_P_e0, .slice p_a0_P_e1 a0.P.e1.length c_a0_P_e1] 26), (101, rdK 2 p_a0_A a0.A.length (a0.A.flatMap en_TInterval)), (102, rdK 2 p_a0_B a0.B.length (a0.B.flatMap en_TInterval)), (103, rdK 2 p_a0_C a0.C.length (a0.C.flatMap en_TInterval)), (104, rdK 1 p_a0_P_e0 a0.P.e0.length (a0.P.e0.flatMap en_u16)), (105, rdK 1 p_a0_P_e1 a0.P.e1.length (a0.P.e1.flatMap en_u16))] (by kernel_rfl)
  refine k_seq ?_
  replace G := bnd G; obtain ⟨t3, ht3, G⟩ := G
  refine k_reg mixed H (.cons [17] (ok_callv 12 (fun ν2 => #[]) (.bool t3) 17 [] (fun _ w _ => armillarylaw03_sanity.calls k0 t3 w ht3)) <|
      .cons [7] (ok_val (fun ν2 => .bool t3) 7) <| .nil) (by kernel_rfl) fun ν2 a w' H => ?_
  replace H := H.toL [(1, .slot true (.int .i64 a1)), (2, .slot true (.int .i64 a2)), (3, .slot true (.pointer (some ⟨((ν1 0).n 0), 0, none⟩))), (6, .slot true (.bool false)), (7, .slot true (.bool t3)), (106, .blk ((ν1 0).n 0) [.slice p_a0_A a0.A.length c_a0_A, .slice p_a0_B a0.B.length c_a0_B, .slice p_a0_C a0.C.length c_a0_C, .int .u8 a0.N, .slice p_a0_P_e0 a0.P.e0.length c_a0_P_e0, .slice p_a0_P_e1 a0.P.e1.length c_a0_P_e1] 26), (101, rdK 2 p_a0_A a0.A.length (a0.A.flatMap en_TInterval)), (102, rdK 2 p_a0_B a0.B.length (a0.B.flatMap en_TInterval)), (103, rdK 2 p_a0_C a0.C.length (a0.C.flatMap en_TInterval)), (104, rdK 1 p_a0_P_e0 a0.P.e0.length (a0.P.e0.flatMap en_u16)), (105, rdK 1 p_a0_P_e1 a0.P.e1.length (a0.P.e1.flatMap en_u16))] (by kernel_rfl)
  refine k_seq ?_
  replace G := bnd G; obtain ⟨t5, ht5, G⟩ := G
  refine k_reg mixed H (.cons [19] (ok_ld (fun ν4 => .agg #[.slice p_a0_A a0.A.length c_a0_A, .slice p_a0_B a0.B.length c_a0_B, .slice p_a0_C a0.C.length c_a0_C, .int .u8 a0.N, .slice p_a0_P_e0 a0.P.e0.length c_a0_P_e0, .slice p_a0_P_e1 a0.P.e1.length c_a0_P_e1]) 19 106 0 6 (fun ν4 => ((ν1 0).n 0)) (fun ν4 => [.slice p_a0_A a0.A.length c_a0_A, .slice p_a0_B a0.B.length c_a0_B, .slice p_a0_C a0.C.length c_a0_C, .int .u8 a0.N, .slice p_a0_P_e0 a0.P.e0.length c_a0_P_e0, .slice p_a0_P_e1 a0.P.e1.length c_a0_P_e1]) 26) <|
      .cons [20, 107, 108] (ok_callRL2 [101, 102, 103, 104, 105] (fun ν4 => [rdK 2 p_a0_A a0.A.length (a0.A.flatMap en_TInterval), rdK 2 p_a0_B a0.B.length (a0.B.flatMap en_TInterval), rdK 2 p_a0_C a0.C.length (a0.C.flatMap en_TInterval), rdK 1 p_a0_P_e0 a0.P.e0.length (a0.P.e0.flatMap en_u16), rdK 1 p_a0_P_e1 a0.P.e1.length (a0.P.e1.flatMap en_u16)]) 13 (fun ν4 => #[.agg #[.slice p_a0_A a0.A.length c_a0_A, .slice p_a0_B a0.B.length c_a0_B, .slice p_a0_C a0.C.length c_a0_C, .int .u8 a0.N, .slice p_a0_P_e0 a0.P.e0.length c_a0_P_e0, .slice p_a0_P_e1 a0.P.e1.length c_a0_P_e1]]) (fun p cap p2 cap2 => .tuple #[.slice p t5.1.length cap, .slice p2 t5.2.length cap2]) 40 2 t5.1.length (t5.1.flatMap en_TInterval) 40 2 t5.2.length (t5.2.flatMap en_TInterval) 20 107 108 (fun ν4 w hF => armillarylaw03_boxes.calls k0 (⟨a0.A, a0.B, a0.C, a0.N, (⟨a0.P.e0, a0.P.e1⟩ : TA2_List_Int)⟩ : TInput) p_a0_A c_a0_A p_a0_B c_a0_B p_a0_C c_a0_C p_a0_P_e0 c_a0_P_e0 p_a0_P_e1 c_a0_P_e1 t5 w (rd_of hF.1) (rd_of hF.2.1) (rd_of hF.2.2.1) (rd_of hF.2.2.2.1) (rd_of hF.2.2.2.2.1) ht5)) <|
      .cons [18] (ok_val (fun ν4 => .tuple #[.slice ((ν4 1).o 0) t5.1.length ((ν4 1).n 0), .slice ((ν4 1).o 1) t5.2.length ((ν4 1).n 1)]) 18) <|
      .cons [21] (ok_val (fun ν4 => .slice ((ν4 1).o 0) t5.1.length ((ν4 1).n 0)) 21) <|
      .cons [22] (ok_val (fun ν4 => .slice ((ν4 1).o 1) t5.2.length ((ν4 1).n 1)) 22) <|
      .cons [8] (ok_val (fun ν4 => .slice ((ν4 1).o 0) t5.1.length ((ν4 1).n 0)) 8) <|
      .cons [9] (ok_val (fun ν4 => .slice ((ν4 1).o 1) t5.2.length ((ν4 1).n 1)) 9) <| .nil) (by kernel_rfl) fun ν4 a w' H => ?_
  replace H := H.toL [(1, .slot true (.int .i64 a1)), (2, .slot true (.int .i64 a2)), (6, .slot true (.bool false)), (7, .slot true (.bool t3)), (8, .slot true (.slice ((ν4 1).o 0) t5.1.length ((ν4 1).n 0))), (9, .slot true (.slice ((ν4 1).o 1) t5.2.length ((ν4 1).n 1))), (107, owK 40 2 ((ν4 1).o 0) t5.1.length ((ν4 1).n 0) (t5.1.flatMap en_TInterval)), (108, owK 40 2 ((ν4 1).o 1) t5.2.length ((ν4 1).n 1) (t5.2.flatMap en_TInterval))] (by kernel_rfl)
  refine k_seq ?_
  replace G := bnd G; obtain ⟨t7, ht7, G⟩ := G
  refine k_reg mixed H (.cons [23] (ok_val (fun ν6 => .int .i64 a1) 23) <|
      .cons [24] (ok_callv 17 (fun ν6 => #[.int .i64 a1]) (.int .i64 t7) 24 [] (fun _ w _ => armillarylaw03_magnitude.calls a1 t7 w ht7)) <|
      .cons [10] (ok_val (fun ν6 => .int .i64 t7) 10) <| .nil) (by kernel_rfl) fun ν6 a w' H => ?_
  replace H := H.toL [(2, .slot true (.int .i64 a2)), (6, .slot true (.bool false)), (7, .slot true (.bool t3)), (8, .slot true (.slice ((ν4 1).o 0) t5.1.length ((ν4 1).n 0))), (9, .slot true (.slice ((ν4 1).o 1) t5.2.length ((ν4 1).n 1))), (10, .slot true (.int .i64 t7)), (107, owK 40 2 ((ν4 1).o 0) t5.1.length ((ν4 1).n 0) (t5.1.flatMap en_TInterval)), (108, owK 40 2 ((ν4 1).o 1) t5.2.length ((ν4 1).n 1) (t5.2.flatMap en_TInterval))] (by kernel_rfl)
  refine k_seq ?_
  replace G := bnd G; obtain ⟨t9, ht9, G⟩ := G
  refine k_reg mixed H (.cons [25] (ok_val (fun ν8 => .int .i64 a2) 25) <|
      .cons [26] (ok_callv 17 (fun ν8 => #[.int .i64 a2]) (.int .i64 t9) 26 [] (fun _ w _ => armillarylaw03_magnitude.calls a2 t9 w ht9)) <|
      .cons [11] (ok_val (fun ν8 => .int .i64 t9) 11) <| .nil) (by kernel_rfl) fun ν8 a w' H => ?_
  replace H := H.toL [(6, .slot true (.bool false)), (7, .slot true (.bool t3)), (8, .slot true (.slice ((ν4 1).o 0) t5.1.length ((ν4 1).n 0))), (9, .slot true (.slice ((ν4 1).o 1) t5.2.length ((ν4 1).n 1))), (10, .slot true (.int .i64 t7)), (11, .slot true (.int .i64 t9)), (107, owK 40 2 ((ν4 1).o 0) t5.1.length ((ν4 1).n 0) (t5.1.flatMap en_TInterval)), (108, owK 40 2 ((ν4 1).o 1) t5.2.length ((ν4 1).n 1) (t5.2.flatMap en_TInterval))] (by kernel_rfl)
  refine k_seq ?_
  replace G := bnd G; obtain ⟨t11, ht11, G⟩ := G
  refine k_reg mixed H (.cons [27] (ok_val (fun ν10 => .slice ((ν4 1).o 0) t5.1.length ((ν4 1).n 0)) 27) <|
      .cons [28] (ok_val (fun ν10 => .int .i64 t7) 28) <|
      .cons [29, 109] (ok_callRL [107] (fun ν10 => [owK 40 2 ((ν4 1).o 0) t5.1.length ((ν4 1).n 0) (t5.1.flatMap en_TInterval)]) 32 (fun ν10 => #[.slice ((ν4 1).o 0) t5.1.length ((ν4 1).n 0), .int .i64 t7]) (fun p cap => .slice p t11.length cap) 40 2 t11.length (t11.flatMap en_TInterval) 29 109 (fun ν10 w hF => box_Inflate.calls k0 t5.1 t7 ((ν4 1).o 0) ((ν4 1).n 0) t11 w (owns_row (ow_of hF.1)) ht11)) <|
      .cons [12] (ok_val (fun ν10 => .slice ((ν10 2).o 0) t11.length ((ν10 2).n 0)) 12) <| .nil) (by kernel_rfl) fun ν10 a w' H => ?_
  replace H := H.toL [(6, .slot true (.bool false)), (7, .slot true (.bool t3)), (8, .slot true (.slice ((ν4 1).o 0) t5.1.length ((ν4 1).n 0))), (9, .slot true (.slice ((ν4 1).o 1) t5.2.length ((ν4 1).n 1))), (10, .slot true (.int .i64 t7)), (11, .slot true (.int .i64 t9)), (12, .slot true (.slice ((ν10 2).o 0) t11.length ((ν10 2).n 0))), (107, owK 40 2 ((ν4 1).o 0) t5.1.length ((ν4 1).n 0) (t5.1.flatMap en_TInterval)), (108, owK 40 2 ((ν4 1).o 1) t5.2.length ((ν4 1).n 1) (t5.2.flatMap en_TInterval)), (109, owK 40 2 ((ν10 2).o 0) t11.length ((ν10 2).n 0) (t11.flatMap en_TInterval))] (by kernel_rfl)
  refine k_seq ?_
  refine k_seq ?_
  replace G := bnd G; obtain ⟨t13, ht13, G⟩ := G
  replace G := bnd G; obtain ⟨t14, ht14, G⟩ := G
  replace G := bnd G; obtain ⟨z15, hz15, G⟩ := G
  replace hz15 := Option.some.inj hz15
  by_cases c35 : z15 = true
  · rw [if_pos c35] at G; subst c35
    refine k_reg mixed H (.cons [30] (ok_val (fun ν12 => .slice ((ν10 2).o 0) t11.length ((ν10 2).n 0)) 30) <|
      .cons [31] (ok_callL [109] (fun ν12 => [owK 40 2 ((ν10 2).o 0) t11.length ((ν10 2).n 0) (t11.flatMap en_TInterval)]) 18 (fun ν12 => #[.slice ((ν10 2).o 0) t11.length ((ν10 2).n 0)]) (.bool t13) 31 (fun ν12 w hF => box_Valid.calls k0 t11 ((ν10 2).o 0) ((ν10 2).n 0) t13 w (owns_row (ow_of hF.1)) ht13)) <|
      .cons [32] (ok_val (fun ν12 => .bool (!t13)) 32) <|
      .cons [33] (ok_val (fun ν12 => .bool (!t13)) 33) <|
      .cons [34] (ok_valg (fun ν12 => .slice ((ν4 1).o 0) t5.1.length ((ν4 1).n 0)) (fun ν12 => ((!t13) == false)) [true] 34) <|
      .cons [35] (ok_valg (fun ν12 => .slice ((ν10 2).o 0) t11.length ((ν10 2).n 0)) (fun ν12 => ((!t13) == false)) [true] 35) <|
      .cons [36] (ok_callLg [107, 109] (fun ν12 => [owK 40 2 ((ν4 1).o 0) t5.1.length ((ν4 1).n 0) (t5.1.flatMap en_TInterval), owK 40 2 ((ν10 2).o 0) t11.length ((ν10 2).n 0) (t11.flatMap en_TInterval)]) 23 (fun ν12 => #[.slice ((ν4 1).o 0) t5.1.length ((ν4 1).n 0), .slice ((ν10 2).o 0) t11.length ((ν10 2).n 0)]) (.bool t14) (fun ν12 => ((!t13) == false)) [true, false, false] 36 (fun ν12 w hg hF => box_Subset.calls t5.1 t11 ((ν4 1).o 0) ((ν4 1).n 0) ((ν10 2).o 0) ((ν10 2).n 0) t14 w (owns_row (ow_of hF.1)) (owns_row (ow_of hF.2.1)) (ifp ht14 hg))) <|
      .cons [37] (ok_valg (fun ν12 => .bool (!t14)) (fun ν12 => ((!t13) == false)) [false] 37) <|
      .cons [38] (ok_or 33 37 (fun ν12 => true) (fun ν12 => true) (fun ν12 => (!t13)) (fun ν12 => (!t14)) 38) <|
      .cons [39] (ok_as (u' := fun ν12 => [(39, .slot true (.bool true))]) (ok_val (fun ν12 => .bool ((!t13) || (!t14))) 39) (fun _ => by rw [hz15])) <|
      .cons [40] (ok_offB 40) <|
      .cons [41] (ok_offB 41) <|
      .cons [42] (ok_offB 42) <|
      .cons [43] (ok_offB 43) <|
      .cons [44] (ok_offB 44) <|
      .cons [45] (ok_pickK (fun ν12 => .bool true) 45) <|
      .cons [46] (ok_val (fun ν12 => .bool true) 46) <|
      .cons [47] (ok_offB 47) <|
      .cons [48] (ok_offB 48) <|
      .cons [49] (ok_offB 49) <|
      .cons [50] (ok_offB 50) <|
      .cons [51] (ok_offB 51) <|
      .cons [52] (ok_offB 52) <|
      .cons [53] (ok_offB 53) <|
      .cons [54] (ok_offB 54) <|
      .cons [55] (ok_offB 55) <|
      .cons [56] (ok_offB 56) <|
      .cons [57] (ok_pickK (fun ν12 => .bool true) 57) <| .nil) (by kernel_rfl) fun ν12 a w' H => ?_
    replace H := H.toL [(6, .slot true (.bool false)), (7, .slot true (.bool t3)), (8, .slot true (.slice ((ν4 1).o 0) t5.1.length ((ν4 1).n 0))), (9, .slot true (.slice ((ν4 1).o 1) t5.2.length ((ν4 1).n 1))), (10, .slot true (.int .i64 t7)), (12, .slot true (.slice ((ν10 2).o 0) t11.length ((ν10 2).n 0))), (57, .slot true (.bool true)), (107, owK 40 2 ((ν4 1).o 0) t5.1.length ((ν4 1).n 0) (t5.1.flatMap en_TInterval)), (108, owK 40 2 ((ν4 1).o 1) t5.2.length ((ν4 1).n 1) (t5.2.flatMap en_TInterval)), (109, owK 40 2 ((ν10 2).o 0) t11.length ((ν10 2).n 0) (t11.flatMap en_TInterval))] (by kernel_rfl)
    refine k_cond_true H (by kernel_rfl) (by kernel_rfl) ?_
    refine k_seq ?_
    refine k_reg mixed H (.cons [6] (ok_val (fun ν16 => .bool false) 6) <| .nil) (by kernel_rfl) fun ν16 a w' H => ?_
    replace H := H.toL [(6, .slot true (.bool false)), (7, .slot true (.bool t3)), (8, .slot true (.slice ((ν4 1).o 0) t5.1.length ((ν4 1).n 0))), (9, .slot true (.slice ((ν4 1).o 1) t5.2.length ((ν4 1).n 1))), (10, .slot true (.int .i64 t7)), (12, .slot true (.slice ((ν10 2).o 0) t11.length ((ν10 2).n 0))), (107, owK 40 2 ((ν4 1).o 0) t5.1.length ((ν4 1).n 0) (t5.1.flatMap en_TInterval)), (108, owK 40 2 ((ν4 1).o 1) t5.2.length ((ν4 1).n 1) (t5.2.flatMap en_TInterval)), (109, owK 40 2 ((ν10 2).o 0) t11.length ((ν10 2).n 0) (t11.flatMap en_TInterval))] (by kernel_rfl)
    refine k_ret ?_
    obtain rfl := Option.some.inj G
    exact k_done0 H _ (by kernel_rfl) (by kernel_rfl)
  rw [if_neg c35] at G
  by_cases c36 : z15 = false
  · rw [if_pos c36] at G; subst c36
    replace G := bnd G; obtain ⟨t16, ht16, G⟩ := G
    replace G := bnd G; obtain ⟨t17, ht17, G⟩ := G
    replace G := bnd G; obtain ⟨z18, hz18, G⟩ := G
    replace hz18 := Option.some.inj hz18
    by_cases c33 : z18 = true
    · rw [if_pos c33] at G; subst c33
      refine k_reg mixed H (.cons [30] (ok_val (fun ν12 => .slice ((ν10 2).o 0) t11.length ((ν10 2).n 0)) 30) <|
      .cons [31] (ok_callL [109] (fun ν12 => [owK 40 2 ((ν10 2).o 0) t11.length ((ν10 2).n 0) (t11.flatMap en_TInterval)]) 18 (fun ν12 => #[.slice ((ν10 2).o 0) t11.length ((ν10 2).n 0)]) (.bool t13) 31 (fun ν12 w hF => box_Valid.calls k0 t11 ((ν10 2).o 0) ((ν10 2).n 0) t13 w (owns_row (ow_of hF.1)) ht13)) <|
      .cons [32] (ok_val (fun ν12 => .bool (!t13)) 32) <|
      .cons [33] (ok_val (fun ν12 => .bool (!t13)) 33) <|
      .cons [34] (ok_valg (fun ν12 => .slice ((ν4 1).o 0) t5.1.length ((ν4 1).n 0)) (fun ν12 => ((!t13) == false)) [true] 34) <|
      .cons [35] (ok_valg (fun ν12 => .slice ((ν10 2).o 0) t11.length ((ν10 2).n 0)) (fun ν12 => ((!t13) == false)) [true] 35) <|
      .cons [36] (ok_callLg [107, 109] (fun ν12 => [owK 40 2 ((ν4 1).o 0) t5.1.length ((ν4 1).n 0) (t5.1.flatMap en_TInterval), owK 40 2 ((ν10 2).o 0) t11.length ((ν10 2).n 0) (t11.flatMap en_TInterval)]) 23 (fun ν12 => #[.slice ((ν4 1).o 0) t5.1.length ((ν4 1).n 0), .slice ((ν10 2).o 0) t11.length ((ν10 2).n 0)]) (.bool t14) (fun ν12 => ((!t13) == false)) [true, false, false] 36 (fun ν12 w hg hF => box_Subset.calls t5.1 t11 ((ν4 1).o 0) ((ν4 1).n 0) ((ν10 2).o 0) ((ν10 2).n 0) t14 w (owns_row (ow_of hF.1)) (owns_row (ow_of hF.2.1)) (ifp ht14 hg))) <|
      .cons [37] (ok_valg (fun ν12 => .bool (!t14)) (fun ν12 => ((!t13) == false)) [false] 37) <|
      .cons [38] (ok_or 33 37 (fun ν12 => true) (fun ν12 => true) (fun ν12 => (!t13)) (fun ν12 => (!t14)) 38) <|
      .cons [39] (ok_as (u' := fun ν12 => [(39, .slot true (.bool false))]) (ok_val (fun ν12 => .bool ((!t13) || (!t14))) 39) (fun _ => by rw [hz15])) <|
      .cons [40] (ok_gd (ok_val (fun ν12 => .slice ((ν4 1).o 0) t5.1.length ((ν4 1).n 0)) 40) (by intro _; kernel_rfl)) <|
      .cons [41, 110] (ok_gd (ok_callRL [107] (fun ν12 => [owK 40 2 ((ν4 1).o 0) t5.1.length ((ν4 1).n 0) (t5.1.flatMap en_TInterval)]) 32 (fun ν12 => #[.slice ((ν4 1).o 0) t5.1.length ((ν4 1).n 0), .int .i64 0]) (fun p cap => .slice p t16.length cap) 40 2 t16.length (t16.flatMap en_TInterval) 41 110 (fun ν12 w hF => box_Inflate.calls k0 t5.1 0 ((ν4 1).o 0) ((ν4 1).n 0) t16 w (owns_row (ow_of hF.1)) ht16)) (by intro _; kernel_rfl)) <|
      .cons [42] (ok_gd (ok_val (fun ν12 => .slice ((ν4 1).o 0) t5.1.length ((ν4 1).n 0)) 42) (by intro _; kernel_rfl)) <|
      .cons [43] (ok_gd (ok_callL [110, 107] (fun ν12 => [owK 40 2 ((ν12 11).o 0) t16.length ((ν12 11).n 0) (t16.flatMap en_TInterval), owK 40 2 ((ν4 1).o 0) t5.1.length ((ν4 1).n 0) (t5.1.flatMap en_TInterval)]) 20 (fun ν12 => #[.slice ((ν12 11).o 0) t16.length ((ν12 11).n 0), .slice ((ν4 1).o 0) t5.1.length ((ν4 1).n 0)]) (.bool t17) 43 (fun ν12 w hF => armillaryref03_Same.calls k0 t16 t5.1 ((ν12 11).o 0) ((ν12 11).n 0) ((ν4 1).o 0) ((ν4 1).n 0) t17 w (owns_row (ow_of hF.1)) (owns_row (ow_of hF.2.1)) ht17)) (by intro _; kernel_rfl)) <|
      .cons [44] (ok_gd (ok_val (fun ν12 => .bool (!t17)) 44) (by intro _; kernel_rfl)) <|
      .cons [45] (ok_pickK (fun ν12 => .bool (!t17)) 45) <|
      .cons [46] (ok_as (u' := fun ν12 => [(46, .slot true (.bool true))]) (ok_val (fun ν12 => .bool (!t17)) 46) (fun _ => by rw [hz18])) <|
      .cons [47] (ok_offB 47) <|
      .cons [48] (ok_offB 48) <|
      .cons [49] (ok_offB 49) <|
      .cons [50] (ok_offB 50) <|
      .cons [51] (ok_offB 51) <|
      .cons [52] (ok_offB 52) <|
      .cons [53] (ok_offB 53) <|
      .cons [54] (ok_offB 54) <|
      .cons [55] (ok_offB 55) <|
      .cons [56] (ok_offB 56) <|
      .cons [57] (ok_pickK (fun ν12 => .bool true) 57) <| .nil) (by kernel_rfl) fun ν12 a w' H => ?_
      replace H := H.toL [(6, .slot true (.bool false)), (7, .slot true (.bool t3)), (8, .slot true (.slice ((ν4 1).o 0) t5.1.length ((ν4 1).n 0))), (9, .slot true (.slice ((ν4 1).o 1) t5.2.length ((ν4 1).n 1))), (10, .slot true (.int .i64 t7)), (12, .slot true (.slice ((ν10 2).o 0) t11.length ((ν10 2).n 0))), (57, .slot true (.bool true)), (107, owK 40 2 ((ν4 1).o 0) t5.1.length ((ν4 1).n 0) (t5.1.flatMap en_TInterval)), (108, owK 40 2 ((ν4 1).o 1) t5.2.length ((ν4 1).n 1) (t5.2.flatMap en_TInterval)), (109, owK 40 2 ((ν10 2).o 0) t11.length ((ν10 2).n 0) (t11.flatMap en_TInterval))] (by kernel_rfl)
      refine k_cond_true H (by kernel_rfl) (by kernel_rfl) ?_
      refine k_seq ?_
      refine k_reg mixed H (.cons [6] (ok_val (fun ν19 => .bool false) 6) <| .nil) (by kernel_rfl) fun ν19 a w' H => ?_
      replace H := H.toL [(6, .slot true (.bool false)), (7, .slot true (.bool t3)), (8, .slot true (.slice ((ν4 1).o 0) t5.1.length ((ν4 1).n 0))), (9, .slot true (.slice ((ν4 1).o 1) t5.2.length ((ν4 1).n 1))), (10, .slot true (.int .i64 t7)), (12, .slot true (.slice ((ν10 2).o 0) t11.length ((ν10 2).n 0))), (107, owK 40 2 ((ν4 1).o 0) t5.1.length ((ν4 1).n 0) (t5.1.flatMap en_TInterval)), (108, owK 40 2 ((ν4 1).o 1) t5.2.length ((ν4 1).n 1) (t5.2.flatMap en_TInterval)), (109, owK 40 2 ((ν10 2).o 0) t11.length ((ν10 2).n 0) (t11.flatMap en_TInterval))] (by kernel_rfl)
      refine k_ret ?_
      obtain rfl := Option.some.inj G
      exact k_done0 H _ (by kernel_rfl) (by kernel_rfl)
    rw [if_neg c33] at G
    by_cases c34 : z18 = false
    · rw [if_pos c34] at G; subst c34
      replace G := bnd G; obtain ⟨t19, ht19, G⟩ := G
      replace G := bnd G; obtain ⟨t20, ht20, G⟩ := G
      replace G := bnd G; obtain ⟨t21, ht21, G⟩ := G
      refine k_reg mixed H (.cons [30] (ok_val (fun ν12 => .slice ((ν10 2).o 0) t11.length ((ν10 2).n 0)) 30) <|
      .cons [31] (ok_callL [109] (fun ν12 => [owK 40 2 ((ν10 2).o 0) t11.length ((ν10 2).n 0) (t11.flatMap en_TInterval)]) 18 (fun ν12 => #[.slice ((ν10 2).o 0) t11.length ((ν10 2).n 0)]) (.bool t13) 31 (fun ν12 w hF => box_Valid.calls k0 t11 ((ν10 2).o 0) ((ν10 2).n 0) t13 w (owns_row (ow_of hF.1)) ht13)) <|
      .cons [32] (ok_val (fun ν12 => .bool (!t13)) 32) <|
      .cons [33] (ok_val (fun ν12 => .bool (!t13)) 33) <|
      .cons [34] (ok_valg (fun ν12 => .slice ((ν4 1).o 0) t5.1.length ((ν4 1).n 0)) (fun ν12 => ((!t13) == false)) [true] 34) <|
      .cons [35] (ok_valg (fun ν12 => .slice ((ν10 2).o 0) t11.length ((ν10 2).n 0)) (fun ν12 => ((!t13) == false)) [true] 35) <|
      .cons [36] (ok_callLg [107, 109] (fun ν12 => [owK 40 2 ((ν4 1).o 0) t5.1.length ((ν4 1).n 0) (t5.1.flatMap en_TInterval), owK 40 2 ((ν10 2).o 0) t11.length ((ν10 2).n 0) (t11.flatMap en_TInterval)]) 23 (fun ν12 => #[.slice ((ν4 1).o 0) t5.1.length ((ν4 1).n 0), .slice ((ν10 2).o 0) t11.length ((ν10 2).n 0)]) (.bool t14) (fun ν12 => ((!t13) == false)) [true, false, false] 36 (fun ν12 w hg hF => box_Subset.calls t5.1 t11 ((ν4 1).o 0) ((ν4 1).n 0) ((ν10 2).o 0) ((ν10 2).n 0) t14 w (owns_row (ow_of hF.1)) (owns_row (ow_of hF.2.1)) (ifp ht14 hg))) <|
      .cons [37] (ok_valg (fun ν12 => .bool (!t14)) (fun ν12 => ((!t13) == false)) [false] 37) <|
      .cons [38] (ok_or 33 37 (fun ν12 => true) (fun ν12 => true) (fun ν12 => (!t13)) (fun ν12 => (!t14)) 38) <|
      .cons [39] (ok_as (u' := fun ν12 => [(39, .slot true (.bool false))]) (ok_val (fun ν12 => .bool ((!t13) || (!t14))) 39) (fun _ => by rw [hz15])) <|
      .cons [40] (ok_gd (ok_val (fun ν12 => .slice ((ν4 1).o 0) t5.1.length ((ν4 1).n 0)) 40) (by intro _; kernel_rfl)) <|
      .cons [41, 110] (ok_gd (ok_callRL [107] (fun ν12 => [owK 40 2 ((ν4 1).o 0) t5.1.length ((ν4 1).n 0) (t5.1.flatMap en_TInterval)]) 32 (fun ν12 => #[.slice ((ν4 1).o 0) t5.1.length ((ν4 1).n 0), .int .i64 0]) (fun p cap => .slice p t16.length cap) 40 2 t16.length (t16.flatMap en_TInterval) 41 110 (fun ν12 w hF => box_Inflate.calls k0 t5.1 0 ((ν4 1).o 0) ((ν4 1).n 0) t16 w (owns_row (ow_of hF.1)) ht16)) (by intro _; kernel_rfl)) <|
      .cons [42] (ok_gd (ok_val (fun ν12 => .slice ((ν4 1).o 0) t5.1.length ((ν4 1).n 0)) 42) (by intro _; kernel_rfl)) <|
      .cons [43] (ok_gd (ok_callL [110, 107] (fun ν12 => [owK 40 2 ((ν12 11).o 0) t16.length ((ν12 11).n 0) (t16.flatMap en_TInterval), owK 40 2 ((ν4 1).o 0) t5.1.length ((ν4 1).n 0) (t5.1.flatMap en_TInterval)]) 20 (fun ν12 => #[.slice ((ν12 11).o 0) t16.length ((ν12 11).n 0), .slice ((ν4 1).o 0) t5.1.length ((ν4 1).n 0)]) (.bool t17) 43 (fun ν12 w hF => armillaryref03_Same.calls k0 t16 t5.1 ((ν12 11).o 0) ((ν12 11).n 0) ((ν4 1).o 0) ((ν4 1).n 0) t17 w (owns_row (ow_of hF.1)) (owns_row (ow_of hF.2.1)) ht17)) (by intro _; kernel_rfl)) <|
      .cons [44] (ok_gd (ok_val (fun ν12 => .bool (!t17)) 44) (by intro _; kernel_rfl)) <|
      .cons [45] (ok_pickK (fun ν12 => .bool (!t17)) 45) <|
      .cons [46] (ok_as (u' := fun ν12 => [(46, .slot true (.bool false))]) (ok_val (fun ν12 => .bool (!t17)) 46) (fun _ => by rw [hz18])) <|
      .cons [47] (ok_gd (ok_val (fun ν12 => .slice ((ν10 2).o 0) t11.length ((ν10 2).n 0)) 47) (by intro _; kernel_rfl)) <|
      .cons [48] (ok_gd (ok_val (fun ν12 => .int .i64 t9) 48) (by intro _; kernel_rfl)) <|
      .cons [49, 111] (ok_gd (ok_callRL [109] (fun ν12 => [owK 40 2 ((ν10 2).o 0) t11.length ((ν10 2).n 0) (t11.flatMap en_TInterval)]) 32 (fun ν12 => #[.slice ((ν10 2).o 0) t11.length ((ν10 2).n 0), .int .i64 t9]) (fun p cap => .slice p t19.length cap) 40 2 t19.length (t19.flatMap en_TInterval) 49 111 (fun ν12 w hF => box_Inflate.calls k0 t11 t9 ((ν10 2).o 0) ((ν10 2).n 0) t19 w (owns_row (ow_of hF.1)) ht19)) (by intro _; kernel_rfl)) <|
      .cons [50] (ok_gd (ok_val (fun ν12 => .slice ((ν4 1).o 0) t5.1.length ((ν4 1).n 0)) 50) (by intro _; kernel_rfl)) <|
      .cons [51] (ok_gd (ok_val (fun ν12 => .int .i64 t7) 51) (by intro _; kernel_rfl)) <|
      .cons [52] (ok_gd (ok_val (fun ν12 => .int .i64 t9) 52) (by intro _; kernel_rfl)) <|
      .cons [53] (ok_gd (ok_val (fun ν12 => .int .i64 (w_i64 (t7 + t9))) 53) (by intro _; kernel_rfl)) <|
      .cons [54, 112] (ok_gd (ok_callRL [107] (fun ν12 => [owK 40 2 ((ν4 1).o 0) t5.1.length ((ν4 1).n 0) (t5.1.flatMap en_TInterval)]) 32 (fun ν12 => #[.slice ((ν4 1).o 0) t5.1.length ((ν4 1).n 0), .int .i64 (w_i64 (t7 + t9))]) (fun p cap => .slice p t20.length cap) 40 2 t20.length (t20.flatMap en_TInterval) 54 112 (fun ν12 w hF => box_Inflate.calls k0 t5.1 (w_i64 (t7 + t9)) ((ν4 1).o 0) ((ν4 1).n 0) t20 w (owns_row (ow_of hF.1)) ht20)) (by intro _; kernel_rfl)) <|
      .cons [55] (ok_gd (ok_callL [111, 112] (fun ν12 => [owK 40 2 ((ν12 19).o 0) t19.length ((ν12 19).n 0) (t19.flatMap en_TInterval), owK 40 2 ((ν12 24).o 0) t20.length ((ν12 24).n 0) (t20.flatMap en_TInterval)]) 20 (fun ν12 => #[.slice ((ν12 19).o 0) t19.length ((ν12 19).n 0), .slice ((ν12 24).o 0) t20.length ((ν12 24).n 0)]) (.bool t21) 55 (fun ν12 w hF => armillaryref03_Same.calls k0 t19 t20 ((ν12 19).o 0) ((ν12 19).n 0) ((ν12 24).o 0) ((ν12 24).n 0) t21 w (owns_row (ow_of hF.1)) (owns_row (ow_of hF.2.1)) ht21)) (by intro _; kernel_rfl)) <|
      .cons [56] (ok_gd (ok_val (fun ν12 => .bool (!t21)) 56) (by intro _; kernel_rfl)) <|
      .cons [57] (ok_pickK (fun ν12 => .bool (!t21)) 57) <| .nil) (by kernel_rfl) fun ν12 a w' H => ?_
      replace H := H.toL [(6, .slot true (.bool false)), (7, .slot true (.bool t3)), (8, .slot true (.slice ((ν4 1).o 0) t5.1.length ((ν4 1).n 0))), (9, .slot true (.slice ((ν4 1).o 1) t5.2.length ((ν4 1).n 1))), (10, .slot true (.int .i64 t7)), (12, .slot true (.slice ((ν10 2).o 0) t11.length ((ν10 2).n 0))), (57, .slot true (.bool (!t21))), (107, owK 40 2 ((ν4 1).o 0) t5.1.length ((ν4 1).n 0) (t5.1.flatMap en_TInterval)), (108, owK 40 2 ((ν4 1).o 1) t5.2.length ((ν4 1).n 1) (t5.2.flatMap en_TInterval)), (109, owK 40 2 ((ν10 2).o 0) t11.length ((ν10 2).n 0) (t11.flatMap en_TInterval))] (by kernel_rfl)
      refine k_cond H (by kernel_rfl) (t := (!t21)) (by kernel_rfl) (fun c32 => ?_) (fun c32 => ?_)
      · rw [if_pos c32] at G
        refine k_seq ?_
        refine k_reg mixed H (.cons [6] (ok_val (fun ν22 => .bool false) 6) <| .nil) (by kernel_rfl) fun ν22 a w' H => ?_
        replace H := H.toL [(6, .slot true (.bool false)), (7, .slot true (.bool t3)), (8, .slot true (.slice ((ν4 1).o 0) t5.1.length ((ν4 1).n 0))), (9, .slot true (.slice ((ν4 1).o 1) t5.2.length ((ν4 1).n 1))), (10, .slot true (.int .i64 t7)), (12, .slot true (.slice ((ν10 2).o 0) t11.length ((ν10 2).n 0))), (107, owK 40 2 ((ν4 1).o 0) t5.1.length ((ν4 1).n 0) (t5.1.flatMap en_TInterval)), (108, owK 40 2 ((ν4 1).o 1) t5.2.length ((ν4 1).n 1) (t5.2.flatMap en_TInterval)), (109, owK 40 2 ((ν10 2).o 0) t11.length ((ν10 2).n 0) (t11.flatMap en_TInterval))] (by kernel_rfl)
        refine k_ret ?_
        obtain rfl := Option.some.inj G
        exact k_done0 H _ (by kernel_rfl) (by kernel_rfl)
      · rw [if_neg (nt c32)] at G
        refine k_skip ?_
        refine k_seq ?_
        replace G := bnd G; obtain ⟨t24, ht24, G⟩ := G
        refine k_reg mixed H (.cons [59] (ok_val (fun ν23 => .slice ((ν10 2).o 0) t11.length ((ν10 2).n 0)) 59) <|
      .cons [60] (ok_val (fun ν23 => .slice ((ν4 1).o 1) t5.2.length ((ν4 1).n 1)) 60) <|
      .cons [61, 113] (ok_callRL [109, 108] (fun ν23 => [owK 40 2 ((ν10 2).o 0) t11.length ((ν10 2).n 0) (t11.flatMap en_TInterval), owK 40 2 ((ν4 1).o 1) t5.2.length ((ν4 1).n 1) (t5.2.flatMap en_TInterval)]) 14 (fun ν23 => #[.slice ((ν10 2).o 0) t11.length ((ν10 2).n 0), .slice ((ν4 1).o 1) t5.2.length ((ν4 1).n 1)]) (fun p cap => .tuple #[.slice p t24.1.length cap, .bool t24.2]) 40 2 t24.1.length (t24.1.flatMap en_TInterval) 61 113 (fun ν23 w hF => box_Intersect.calls t11 t5.2 ((ν10 2).o 0) ((ν10 2).n 0) ((ν4 1).o 1) ((ν4 1).n 1) t24 w (owns_row (ow_of hF.1)) (owns_row (ow_of hF.2.1)) ht24)) <|
      .cons [58] (ok_val (fun ν23 => .tuple #[.slice ((ν23 2).o 0) t24.1.length ((ν23 2).n 0), .bool t24.2]) 58) <|
      .cons [62] (ok_val (fun ν23 => .slice ((ν23 2).o 0) t24.1.length ((ν23 2).n 0)) 62) <|
      .cons [63] (ok_val (fun ν23 => .bool t24.2) 63) <|
      .cons [13] (ok_val (fun ν23 => .slice ((ν23 2).o 0) t24.1.length ((ν23 2).n 0)) 13) <|
      .cons [14] (ok_val (fun ν23 => .bool t24.2) 14) <| .nil) (by kernel_rfl) fun ν23 a w' H => ?_
        replace H := H.toL [(6, .slot true (.bool false)), (7, .slot true (.bool t3)), (8, .slot true (.slice ((ν4 1).o 0) t5.1.length ((ν4 1).n 0))), (9, .slot true (.slice ((ν4 1).o 1) t5.2.length ((ν4 1).n 1))), (10, .slot true (.int .i64 t7)), (12, .slot true (.slice ((ν10 2).o 0) t11.length ((ν10 2).n 0))), (14, .slot true (.bool t24.2)), (107, owK 40 2 ((ν4 1).o 0) t5.1.length ((ν4 1).n 0) (t5.1.flatMap en_TInterval)), (108, owK 40 2 ((ν4 1).o 1) t5.2.length ((ν4 1).n 1) (t5.2.flatMap en_TInterval)), (109, owK 40 2 ((ν10 2).o 0) t11.length ((ν10 2).n 0) (t11.flatMap en_TInterval))] (by kernel_rfl)
        refine k_seq ?_
        replace G := bnd G; obtain ⟨t26, ht26, G⟩ := G
        replace G := bnd G; obtain ⟨t27, ht27, G⟩ := G
        refine k_reg mixed H (.cons [65] (ok_val (fun ν25 => .slice ((ν4 1).o 0) t5.1.length ((ν4 1).n 0)) 65) <|
      .cons [66] (ok_val (fun ν25 => .slice ((ν4 1).o 1) t5.2.length ((ν4 1).n 1)) 66) <|
      .cons [67] (ok_val (fun ν25 => .int .i64 t7) 67) <|
      .cons [68, 114] (ok_callRL [108] (fun ν25 => [owK 40 2 ((ν4 1).o 1) t5.2.length ((ν4 1).n 1) (t5.2.flatMap en_TInterval)]) 32 (fun ν25 => #[.slice ((ν4 1).o 1) t5.2.length ((ν4 1).n 1), .int .i64 t7]) (fun p cap => .slice p t26.length cap) 40 2 t26.length (t26.flatMap en_TInterval) 68 114 (fun ν25 w hF => box_Inflate.calls k0 t5.2 t7 ((ν4 1).o 1) ((ν4 1).n 1) t26 w (owns_row (ow_of hF.1)) ht26)) <|
      .cons [69, 115] (ok_callRL [107, 114] (fun ν25 => [owK 40 2 ((ν4 1).o 0) t5.1.length ((ν4 1).n 0) (t5.1.flatMap en_TInterval), owK 40 2 ((ν25 3).o 0) t26.length ((ν25 3).n 0) (t26.flatMap en_TInterval)]) 14 (fun ν25 => #[.slice ((ν4 1).o 0) t5.1.length ((ν4 1).n 0), .slice ((ν25 3).o 0) t26.length ((ν25 3).n 0)]) (fun p cap => .tuple #[.slice p t27.1.length cap, .bool t27.2]) 40 2 t27.1.length (t27.1.flatMap en_TInterval) 69 115 (fun ν25 w hF => box_Intersect.calls t5.1 t26 ((ν4 1).o 0) ((ν4 1).n 0) ((ν25 3).o 0) ((ν25 3).n 0) t27 w (owns_row (ow_of hF.1)) (owns_row (ow_of hF.2.1)) ht27)) <|
      .cons [64] (ok_val (fun ν25 => .tuple #[.slice ((ν25 4).o 0) t27.1.length ((ν25 4).n 0), .bool t27.2]) 64) <|
      .cons [70] (ok_val (fun ν25 => .slice ((ν25 4).o 0) t27.1.length ((ν25 4).n 0)) 70) <|
      .cons [71] (ok_val (fun ν25 => .bool t27.2) 71) <|
      .cons [15] (ok_val (fun ν25 => .slice ((ν25 4).o 0) t27.1.length ((ν25 4).n 0)) 15) <|
      .cons [16] (ok_val (fun ν25 => .bool t27.2) 16) <| .nil) (by kernel_rfl) fun ν25 a w' H => ?_
        replace H := H.toL [(6, .slot true (.bool false)), (7, .slot true (.bool t3)), (8, .slot true (.slice ((ν4 1).o 0) t5.1.length ((ν4 1).n 0))), (9, .slot true (.slice ((ν4 1).o 1) t5.2.length ((ν4 1).n 1))), (10, .slot true (.int .i64 t7)), (12, .slot true (.slice ((ν10 2).o 0) t11.length ((ν10 2).n 0))), (14, .slot true (.bool t24.2)), (16, .slot true (.bool t27.2)), (107, owK 40 2 ((ν4 1).o 0) t5.1.length ((ν4 1).n 0) (t5.1.flatMap en_TInterval)), (108, owK 40 2 ((ν4 1).o 1) t5.2.length ((ν4 1).n 1) (t5.2.flatMap en_TInterval)), (109, owK 40 2 ((ν10 2).o 0) t11.length ((ν10 2).n 0) (t11.flatMap en_TInterval))] (by kernel_rfl)
        refine k_seq ?_
        replace G := bnd G; obtain ⟨z29, hz29, G⟩ := G
        replace hz29 := Option.some.inj hz29
        by_cases c30 : z29 = true
        · rw [if_pos c30] at G; subst c30
          replace G := bnd G; obtain ⟨t30, ht30, G⟩ := G
          replace G := bnd G; obtain ⟨z31, hz31, G⟩ := G
          replace hz31 := Option.some.inj hz31
          by_cases c37 : z31 = true
          · rw [if_pos c37] at G; subst c37
            replace G := bnd G; obtain ⟨t32, ht32, G⟩ := G
            replace G := bnd G; obtain ⟨z33, hz33, G⟩ := G
            replace hz33 := Option.some.inj hz33
            by_cases c36 : z33 = true
            · rw [if_pos c36] at G; subst c36
              refine k_reg mixed H (.cons [72] (ok_val (fun ν28 => .bool t3) 72) <|
      .cons [73] (ok_as (u' := fun ν28 => [(73, .slot true (.bool true))]) (ok_val (fun ν28 => .bool t3) 73) (fun _ => by rw [hz29])) <|
      .cons [74] (ok_gd (ok_val (fun ν28 => .bool t24.2) 74) (by intro _; kernel_rfl)) <|
      .cons [75] (ok_gd (ok_val (fun ν28 => .bool t27.2) 75) (by intro _; kernel_rfl)) <|
      .cons [76] (ok_gd (ok_val (fun ν28 => .bool (t24.2 == t27.2)) 76) (by intro _; kernel_rfl)) <|
      .cons [77] (ok_gd (ok_val (fun ν28 => .bool (t24.2 == t27.2)) 77) (by intro _; kernel_rfl)) <|
      .cons [78] (ok_valg (fun ν28 => .slice ((ν10 2).o 0) t11.length ((ν10 2).n 0)) (fun ν28 => ((t24.2 == t27.2) == false)) [true] 78) <|
      .cons [79] (ok_callLg [109] (fun ν28 => [owK 40 2 ((ν10 2).o 0) t11.length ((ν10 2).n 0) (t11.flatMap en_TInterval)]) 50 (fun ν28 => #[.slice ((ν10 2).o 0) t11.length ((ν10 2).n 0)]) (.bool t30) (fun ν28 => ((t24.2 == t27.2) == false)) [true, false] 79 (fun ν28 w hg hF => armillarylaw03_unbounded.calls k0 t11 ((ν10 2).o 0) ((ν10 2).n 0) t30 w (owns_row (ow_of hF.1)) (ifp ht30 hg))) <|
      .cons [80] (ok_gd (ok_or 77 79 (fun ν28 => true) (fun ν28 => true) (fun ν28 => (t24.2 == t27.2)) (fun ν28 => t30) 80) (by intro _; kernel_rfl)) <|
      .cons [81] (ok_as (u' := fun ν28 => [(81, .slot true (.bool true))]) (ok_gd (ok_val (fun ν28 => .bool ((t24.2 == t27.2) || t30)) 81) (by intro _; kernel_rfl)) (fun _ => by rw [hz31])) <|
      .cons [82] (ok_offB 82) <|
      .cons [83] (ok_offB 83) <|
      .cons [84] (ok_offB 84) <|
      .cons [85] (ok_offB 85) <|
      .cons [86] (ok_gd (ok_pickK (fun ν28 => .bool true) 86) (by intro _; kernel_rfl)) <|
      .cons [87] (ok_pickK (fun ν28 => .bool true) 87) <|
      .cons [88] (ok_val (fun ν28 => .bool true) 88) <|
      .cons [89] (ok_gd (ok_val (fun ν28 => .slice ((ν4 1).o 0) t5.1.length ((ν4 1).n 0)) 89) (by intro _; kernel_rfl)) <|
      .cons [90] (ok_gd (ok_val (fun ν28 => .slice ((ν4 1).o 1) t5.2.length ((ν4 1).n 1)) 90) (by intro _; kernel_rfl)) <|
      .cons [91] (ok_gd (ok_callL [107, 108] (fun ν28 => [owK 40 2 ((ν4 1).o 0) t5.1.length ((ν4 1).n 0) (t5.1.flatMap en_TInterval), owK 40 2 ((ν4 1).o 1) t5.2.length ((ν4 1).n 1) (t5.2.flatMap en_TInterval)]) 23 (fun ν28 => #[.slice ((ν4 1).o 0) t5.1.length ((ν4 1).n 0), .slice ((ν4 1).o 1) t5.2.length ((ν4 1).n 1)]) (.bool t32) 91 (fun ν28 w hF => box_Subset.calls t5.1 t5.2 ((ν4 1).o 0) ((ν4 1).n 0) ((ν4 1).o 1) ((ν4 1).n 1) t32 w (owns_row (ow_of hF.1)) (owns_row (ow_of hF.2.1)) ht32)) (by intro _; kernel_rfl)) <|
      .cons [92] (ok_gd (ok_val (fun ν28 => .bool (!t32)) 92) (by intro _; kernel_rfl)) <|
      .cons [93] (ok_as (u' := fun ν28 => [(93, .slot true (.bool true))]) (ok_gd (ok_val (fun ν28 => .bool (!t32)) 93) (by intro _; kernel_rfl)) (fun _ => by rw [hz33])) <|
      .cons [94] (ok_offB 94) <|
      .cons [95] (ok_offB 95) <|
      .cons [96] (ok_offB 96) <|
      .cons [97] (ok_offB 97) <|
      .cons [98] (ok_offB 98) <|
      .cons [99] (ok_gd (ok_pickK (fun ν28 => .bool true) 99) (by intro _; kernel_rfl)) <|
      .cons [100] (ok_pickK (fun ν28 => .bool true) 100) <|
      .cons [6] (ok_val (fun ν28 => .bool true) 6) <| .nil) (by kernel_rfl) fun ν28 a w' H => ?_
              replace H := H.toL [(6, .slot true (.bool true))] (by kernel_rfl)
              refine k_ret ?_
              obtain rfl := Option.some.inj G
              exact k_done0 H _ (by kernel_rfl) (by kernel_rfl)
            rw [if_neg c36] at G
            by_cases c37 : z33 = false
            · rw [if_pos c37] at G; subst c37
              replace G := bnd G; obtain ⟨t34, ht34, G⟩ := G
              replace G := bnd G; obtain ⟨t35, ht35, G⟩ := G
              refine k_reg mixed H (.cons [72] (ok_val (fun ν28 => .bool t3) 72) <|
      .cons [73] (ok_as (u' := fun ν28 => [(73, .slot true (.bool true))]) (ok_val (fun ν28 => .bool t3) 73) (fun _ => by rw [hz29])) <|
      .cons [74] (ok_gd (ok_val (fun ν28 => .bool t24.2) 74) (by intro _; kernel_rfl)) <|
      .cons [75] (ok_gd (ok_val (fun ν28 => .bool t27.2) 75) (by intro _; kernel_rfl)) <|
      .cons [76] (ok_gd (ok_val (fun ν28 => .bool (t24.2 == t27.2)) 76) (by intro _; kernel_rfl)) <|
      .cons [77] (ok_gd (ok_val (fun ν28 => .bool (t24.2 == t27.2)) 77) (by intro _; kernel_rfl)) <|
      .cons [78] (ok_valg (fun ν28 => .slice ((ν10 2).o 0) t11.length ((ν10 2).n 0)) (fun ν28 => ((t24.2 == t27.2) == false)) [true] 78) <|
      .cons [79] (ok_callLg [109] (fun ν28 => [owK 40 2 ((ν10 2).o 0) t11.length ((ν10 2).n 0) (t11.flatMap en_TInterval)]) 50 (fun ν28 => #[.slice ((ν10 2).o 0) t11.length ((ν10 2).n 0)]) (.bool t30) (fun ν28 => ((t24.2 == t27.2) == false)) [true, false] 79 (fun ν28 w hg hF => armillarylaw03_unbounded.calls k0 t11 ((ν10 2).o 0) ((ν10 2).n 0) t30 w (owns_row (ow_of hF.1)) (ifp ht30 hg))) <|
      .cons [80] (ok_gd (ok_or 77 79 (fun ν28 => true) (fun ν28 => true) (fun ν28 => (t24.2 == t27.2)) (fun ν28 => t30) 80) (by intro _; kernel_rfl)) <|
      .cons [81] (ok_as (u' := fun ν28 => [(81, .slot true (.bool true))]) (ok_gd (ok_val (fun ν28 => .bool ((t24.2 == t27.2) || t30)) 81) (by intro _; kernel_rfl)) (fun _ => by rw [hz31])) <|
      .cons [82] (ok_offB 82) <|
      .cons [83] (ok_offB 83) <|
      .cons [84] (ok_offB 84) <|
      .cons [85] (ok_offB 85) <|
      .cons [86] (ok_gd (ok_pickK (fun ν28 => .bool true) 86) (by intro _; kernel_rfl)) <|
      .cons [87] (ok_pickK (fun ν28 => .bool true) 87) <|
      .cons [88] (ok_val (fun ν28 => .bool true) 88) <|
      .cons [89] (ok_gd (ok_val (fun ν28 => .slice ((ν4 1).o 0) t5.1.length ((ν4 1).n 0)) 89) (by intro _; kernel_rfl)) <|
      .cons [90] (ok_gd (ok_val (fun ν28 => .slice ((ν4 1).o 1) t5.2.length ((ν4 1).n 1)) 90) (by intro _; kernel_rfl)) <|
      .cons [91] (ok_gd (ok_callL [107, 108] (fun ν28 => [owK 40 2 ((ν4 1).o 0) t5.1.length ((ν4 1).n 0) (t5.1.flatMap en_TInterval), owK 40 2 ((ν4 1).o 1) t5.2.length ((ν4 1).n 1) (t5.2.flatMap en_TInterval)]) 23 (fun ν28 => #[.slice ((ν4 1).o 0) t5.1.length ((ν4 1).n 0), .slice ((ν4 1).o 1) t5.2.length ((ν4 1).n 1)]) (.bool t32) 91 (fun ν28 w hF => box_Subset.calls t5.1 t5.2 ((ν4 1).o 0) ((ν4 1).n 0) ((ν4 1).o 1) ((ν4 1).n 1) t32 w (owns_row (ow_of hF.1)) (owns_row (ow_of hF.2.1)) ht32)) (by intro _; kernel_rfl)) <|
      .cons [92] (ok_gd (ok_val (fun ν28 => .bool (!t32)) 92) (by intro _; kernel_rfl)) <|
      .cons [93] (ok_as (u' := fun ν28 => [(93, .slot true (.bool false))]) (ok_gd (ok_val (fun ν28 => .bool (!t32)) 93) (by intro _; kernel_rfl)) (fun _ => by rw [hz33])) <|
      .cons [94] (ok_gd (ok_val (fun ν28 => .slice ((ν10 2).o 0) t11.length ((ν10 2).n 0)) 94) (by intro _; kernel_rfl)) <|
      .cons [95] (ok_gd (ok_val (fun ν28 => .slice ((ν4 1).o 1) t5.2.length ((ν4 1).n 1)) 95) (by intro _; kernel_rfl)) <|
      .cons [96] (ok_gd (ok_val (fun ν28 => .int .i64 t7) 96) (by intro _; kernel_rfl)) <|
      .cons [97, 116] (ok_gd (ok_callRL [108] (fun ν28 => [owK 40 2 ((ν4 1).o 1) t5.2.length ((ν4 1).n 1) (t5.2.flatMap en_TInterval)]) 32 (fun ν28 => #[.slice ((ν4 1).o 1) t5.2.length ((ν4 1).n 1), .int .i64 t7]) (fun p cap => .slice p t34.length cap) 40 2 t34.length (t34.flatMap en_TInterval) 97 116 (fun ν28 w hF => box_Inflate.calls k0 t5.2 t7 ((ν4 1).o 1) ((ν4 1).n 1) t34 w (owns_row (ow_of hF.1)) ht34)) (by intro _; kernel_rfl)) <|
      .cons [98] (ok_gd (ok_callL [109, 116] (fun ν28 => [owK 40 2 ((ν10 2).o 0) t11.length ((ν10 2).n 0) (t11.flatMap en_TInterval), owK 40 2 ((ν28 25).o 0) t34.length ((ν28 25).n 0) (t34.flatMap en_TInterval)]) 23 (fun ν28 => #[.slice ((ν10 2).o 0) t11.length ((ν10 2).n 0), .slice ((ν28 25).o 0) t34.length ((ν28 25).n 0)]) (.bool t35) 98 (fun ν28 w hF => box_Subset.calls t11 t34 ((ν10 2).o 0) ((ν10 2).n 0) ((ν28 25).o 0) ((ν28 25).n 0) t35 w (owns_row (ow_of hF.1)) (owns_row (ow_of hF.2.1)) ht35)) (by intro _; kernel_rfl)) <|
      .cons [99] (ok_gd (ok_pickK (fun ν28 => .bool t35) 99) (by intro _; kernel_rfl)) <|
      .cons [100] (ok_pickK (fun ν28 => .bool t35) 100) <|
      .cons [6] (ok_val (fun ν28 => .bool t35) 6) <| .nil) (by kernel_rfl) fun ν28 a w' H => ?_
              replace H := H.toL [(6, .slot true (.bool t35))] (by kernel_rfl)
              refine k_ret ?_
              obtain rfl := Option.some.inj G
              exact k_done0 H _ (by kernel_rfl) (by kernel_rfl)
            rw [if_neg c37] at G
            cases G
          rw [if_neg c37] at G
          by_cases c38 : z31 = false
          · rw [if_pos c38] at G; subst c38
            replace G := bnd G; obtain ⟨t32, ht32, G⟩ := G
            replace G := bnd G; obtain ⟨t33, ht33, G⟩ := G
            replace G := bnd G; obtain ⟨z34, hz34, G⟩ := G
            replace hz34 := Option.some.inj hz34
            by_cases c35 : z34 = true
            · rw [if_pos c35] at G; subst c35
              replace G := bnd G; obtain ⟨t35, ht35, G⟩ := G
              replace G := bnd G; obtain ⟨z36, hz36, G⟩ := G
              replace hz36 := Option.some.inj hz36
              by_cases c39 : z36 = true
              · rw [if_pos c39] at G; subst c39
                refine k_reg mixed H (.cons [72] (ok_val (fun ν28 => .bool t3) 72) <|
      .cons [73] (ok_as (u' := fun ν28 => [(73, .slot true (.bool true))]) (ok_val (fun ν28 => .bool t3) 73) (fun _ => by rw [hz29])) <|
      .cons [74] (ok_gd (ok_val (fun ν28 => .bool t24.2) 74) (by intro _; kernel_rfl)) <|
      .cons [75] (ok_gd (ok_val (fun ν28 => .bool t27.2) 75) (by intro _; kernel_rfl)) <|
      .cons [76] (ok_gd (ok_val (fun ν28 => .bool (t24.2 == t27.2)) 76) (by intro _; kernel_rfl)) <|
      .cons [77] (ok_gd (ok_val (fun ν28 => .bool (t24.2 == t27.2)) 77) (by intro _; kernel_rfl)) <|
      .cons [78] (ok_valg (fun ν28 => .slice ((ν10 2).o 0) t11.length ((ν10 2).n 0)) (fun ν28 => ((t24.2 == t27.2) == false)) [true] 78) <|
      .cons [79] (ok_callLg [109] (fun ν28 => [owK 40 2 ((ν10 2).o 0) t11.length ((ν10 2).n 0) (t11.flatMap en_TInterval)]) 50 (fun ν28 => #[.slice ((ν10 2).o 0) t11.length ((ν10 2).n 0)]) (.bool t30) (fun ν28 => ((t24.2 == t27.2) == false)) [true, false] 79 (fun ν28 w hg hF => armillarylaw03_unbounded.calls k0 t11 ((ν10 2).o 0) ((ν10 2).n 0) t30 w (owns_row (ow_of hF.1)) (ifp ht30 hg))) <|
      .cons [80] (ok_gd (ok_or 77 79 (fun ν28 => true) (fun ν28 => true) (fun ν28 => (t24.2 == t27.2)) (fun ν28 => t30) 80) (by intro _; kernel_rfl)) <|
      .cons [81] (ok_as (u' := fun ν28 => [(81, .slot true (.bool false))]) (ok_gd (ok_val (fun ν28 => .bool ((t24.2 == t27.2) || t30)) 81) (by intro _; kernel_rfl)) (fun _ => by rw [hz31])) <|
      .cons [82] (ok_gd (ok_val (fun ν28 => .slice ((ν4 1).o 1) t5.2.length ((ν4 1).n 1)) 82) (by intro _; kernel_rfl)) <|
      .cons [83] (ok_gd (ok_val (fun ν28 => .int .i64 t7) 83) (by intro _; kernel_rfl)) <|
      .cons [84, 116] (ok_gd (ok_callRL [108] (fun ν28 => [owK 40 2 ((ν4 1).o 1) t5.2.length ((ν4 1).n 1) (t5.2.flatMap en_TInterval)]) 32 (fun ν28 => #[.slice ((ν4 1).o 1) t5.2.length ((ν4 1).n 1), .int .i64 t7]) (fun p cap => .slice p t32.length cap) 40 2 t32.length (t32.flatMap en_TInterval) 84 116 (fun ν28 w hF => box_Inflate.calls k0 t5.2 t7 ((ν4 1).o 1) ((ν4 1).n 1) t32 w (owns_row (ow_of hF.1)) ht32)) (by intro _; kernel_rfl)) <|
      .cons [85] (ok_gd (ok_callL [116] (fun ν28 => [owK 40 2 ((ν28 12).o 0) t32.length ((ν28 12).n 0) (t32.flatMap en_TInterval)]) 50 (fun ν28 => #[.slice ((ν28 12).o 0) t32.length ((ν28 12).n 0)]) (.bool t33) 85 (fun ν28 w hF => armillarylaw03_unbounded.calls k0 t32 ((ν28 12).o 0) ((ν28 12).n 0) t33 w (owns_row (ow_of hF.1)) ht33)) (by intro _; kernel_rfl)) <|
      .cons [86] (ok_gd (ok_pickK (fun ν28 => .bool t33) 86) (by intro _; kernel_rfl)) <|
      .cons [87] (ok_pickK (fun ν28 => .bool t33) 87) <|
      .cons [88] (ok_as (u' := fun ν28 => [(88, .slot true (.bool true))]) (ok_val (fun ν28 => .bool t33) 88) (fun _ => by rw [hz34])) <|
      .cons [89] (ok_gd (ok_val (fun ν28 => .slice ((ν4 1).o 0) t5.1.length ((ν4 1).n 0)) 89) (by intro _; kernel_rfl)) <|
      .cons [90] (ok_gd (ok_val (fun ν28 => .slice ((ν4 1).o 1) t5.2.length ((ν4 1).n 1)) 90) (by intro _; kernel_rfl)) <|
      .cons [91] (ok_gd (ok_callL [107, 108] (fun ν28 => [owK 40 2 ((ν4 1).o 0) t5.1.length ((ν4 1).n 0) (t5.1.flatMap en_TInterval), owK 40 2 ((ν4 1).o 1) t5.2.length ((ν4 1).n 1) (t5.2.flatMap en_TInterval)]) 23 (fun ν28 => #[.slice ((ν4 1).o 0) t5.1.length ((ν4 1).n 0), .slice ((ν4 1).o 1) t5.2.length ((ν4 1).n 1)]) (.bool t35) 91 (fun ν28 w hF => box_Subset.calls t5.1 t5.2 ((ν4 1).o 0) ((ν4 1).n 0) ((ν4 1).o 1) ((ν4 1).n 1) t35 w (owns_row (ow_of hF.1)) (owns_row (ow_of hF.2.1)) ht35)) (by intro _; kernel_rfl)) <|
      .cons [92] (ok_gd (ok_val (fun ν28 => .bool (!t35)) 92) (by intro _; kernel_rfl)) <|
      .cons [93] (ok_as (u' := fun ν28 => [(93, .slot true (.bool true))]) (ok_gd (ok_val (fun ν28 => .bool (!t35)) 93) (by intro _; kernel_rfl)) (fun _ => by rw [hz36])) <|
      .cons [94] (ok_offB 94) <|
      .cons [95] (ok_offB 95) <|
      .cons [96] (ok_offB 96) <|
      .cons [97] (ok_offB 97) <|
      .cons [98] (ok_offB 98) <|
      .cons [99] (ok_gd (ok_pickK (fun ν28 => .bool true) 99) (by intro _; kernel_rfl)) <|
      .cons [100] (ok_pickK (fun ν28 => .bool true) 100) <|
      .cons [6] (ok_val (fun ν28 => .bool true) 6) <| .nil) (by kernel_rfl) fun ν28 a w' H => ?_
                replace H := H.toL [(6, .slot true (.bool true))] (by kernel_rfl)
                refine k_ret ?_
                obtain rfl := Option.some.inj G
                exact k_done0 H _ (by kernel_rfl) (by kernel_rfl)
              rw [if_neg c39] at G
              by_cases c40 : z36 = false
              · rw [if_pos c40] at G; subst c40
                replace G := bnd G; obtain ⟨t37, ht37, G⟩ := G
                replace G := bnd G; obtain ⟨t38, ht38, G⟩ := G
                refine k_reg mixed H (.cons [72] (ok_val (fun ν28 => .bool t3) 72) <|
      .cons [73] (ok_as (u' := fun ν28 => [(73, .slot true (.bool true))]) (ok_val (fun ν28 => .bool t3) 73) (fun _ => by rw [hz29])) <|
      .cons [74] (ok_gd (ok_val (fun ν28 => .bool t24.2) 74) (by intro _; kernel_rfl)) <|
      .cons [75] (ok_gd (ok_val (fun ν28 => .bool t27.2) 75) (by intro _; kernel_rfl)) <|
      .cons [76] (ok_gd (ok_val (fun ν28 => .bool (t24.2 == t27.2)) 76) (by intro _; kernel_rfl)) <|
      .cons [77] (ok_gd (ok_val (fun ν28 => .bool (t24.2 == t27.2)) 77) (by intro _; kernel_rfl)) <|
      .cons [78] (ok_valg (fun ν28 => .slice ((ν10 2).o 0) t11.length ((ν10 2).n 0)) (fun ν28 => ((t24.2 == t27.2) == false)) [true] 78) <|
      .cons [79] (ok_callLg [109] (fun ν28 => [owK 40 2 ((ν10 2).o 0) t11.length ((ν10 2).n 0) (t11.flatMap en_TInterval)]) 50 (fun ν28 => #[.slice ((ν10 2).o 0) t11.length ((ν10 2).n 0)]) (.bool t30) (fun ν28 => ((t24.2 == t27.2) == false)) [true, false] 79 (fun ν28 w hg hF => armillarylaw03_unbounded.calls k0 t11 ((ν10 2).o 0) ((ν10 2).n 0) t30 w (owns_row (ow_of hF.1)) (ifp ht30 hg))) <|
      .cons [80] (ok_gd (ok_or 77 79 (fun ν28 => true) (fun ν28 => true) (fun ν28 => (t24.2 == t27.2)) (fun ν28 => t30) 80) (by intro _; kernel_rfl)) <|
      .cons [81] (ok_as (u' := fun ν28 => [(81, .slot true (.bool false))]) (ok_gd (ok_val (fun ν28 => .bool ((t24.2 == t27.2) || t30)) 81) (by intro _; kernel_rfl)) (fun _ => by rw [hz31])) <|
      .cons [82] (ok_gd (ok_val (fun ν28 => .slice ((ν4 1).o 1) t5.2.length ((ν4 1).n 1)) 82) (by intro _; kernel_rfl)) <|
      .cons [83] (ok_gd (ok_val (fun ν28 => .int .i64 t7) 83) (by intro _; kernel_rfl)) <|
      .cons [84, 116] (ok_gd (ok_callRL [108] (fun ν28 => [owK 40 2 ((ν4 1).o 1) t5.2.length ((ν4 1).n 1) (t5.2.flatMap en_TInterval)]) 32 (fun ν28 => #[.slice ((ν4 1).o 1) t5.2.length ((ν4 1).n 1), .int .i64 t7]) (fun p cap => .slice p t32.length cap) 40 2 t32.length (t32.flatMap en_TInterval) 84 116 (fun ν28 w hF => box_Inflate.calls k0 t5.2 t7 ((ν4 1).o 1) ((ν4 1).n 1) t32 w (owns_row (ow_of hF.1)) ht32)) (by intro _; kernel_rfl)) <|
      .cons [85] (ok_gd (ok_callL [116] (fun ν28 => [owK 40 2 ((ν28 12).o 0) t32.length ((ν28 12).n 0) (t32.flatMap en_TInterval)]) 50 (fun ν28 => #[.slice ((ν28 12).o 0) t32.length ((ν28 12).n 0)]) (.bool t33) 85 (fun ν28 w hF => armillarylaw03_unbounded.calls k0 t32 ((ν28 12).o 0) ((ν28 12).n 0) t33 w (owns_row (ow_of hF.1)) ht33)) (by intro _; kernel_rfl)) <|
      .cons [86] (ok_gd (ok_pickK (fun ν28 => .bool t33) 86) (by intro _; kernel_rfl)) <|
      .cons [87] (ok_pickK (fun ν28 => .bool t33) 87) <|
      .cons [88] (ok_as (u' := fun ν28 => [(88, .slot true (.bool true))]) (ok_val (fun ν28 => .bool t33) 88) (fun _ => by rw [hz34])) <|
      .cons [89] (ok_gd (ok_val (fun ν28 => .slice ((ν4 1).o 0) t5.1.length ((ν4 1).n 0)) 89) (by intro _; kernel_rfl)) <|
      .cons [90] (ok_gd (ok_val (fun ν28 => .slice ((ν4 1).o 1) t5.2.length ((ν4 1).n 1)) 90) (by intro _; kernel_rfl)) <|
      .cons [91] (ok_gd (ok_callL [107, 108] (fun ν28 => [owK 40 2 ((ν4 1).o 0) t5.1.length ((ν4 1).n 0) (t5.1.flatMap en_TInterval), owK 40 2 ((ν4 1).o 1) t5.2.length ((ν4 1).n 1) (t5.2.flatMap en_TInterval)]) 23 (fun ν28 => #[.slice ((ν4 1).o 0) t5.1.length ((ν4 1).n 0), .slice ((ν4 1).o 1) t5.2.length ((ν4 1).n 1)]) (.bool t35) 91 (fun ν28 w hF => box_Subset.calls t5.1 t5.2 ((ν4 1).o 0) ((ν4 1).n 0) ((ν4 1).o 1) ((ν4 1).n 1) t35 w (owns_row (ow_of hF.1)) (owns_row (ow_of hF.2.1)) ht35)) (by intro _; kernel_rfl)) <|
      .cons [92] (ok_gd (ok_val (fun ν28 => .bool (!t35)) 92) (by intro _; kernel_rfl)) <|
      .cons [93] (ok_as (u' := fun ν28 => [(93, .slot true (.bool false))]) (ok_gd (ok_val (fun ν28 => .bool (!t35)) 93) (by intro _; kernel_rfl)) (fun _ => by rw [hz36])) <|
      .cons [94] (ok_gd (ok_val (fun ν28 => .slice ((ν10 2).o 0) t11.length ((ν10 2).n 0)) 94) (by intro _; kernel_rfl)) <|
      .cons [95] (ok_gd (ok_val (fun ν28 => .slice ((ν4 1).o 1) t5.2.length ((ν4 1).n 1)) 95) (by intro _; kernel_rfl)) <|
      .cons [96] (ok_gd (ok_val (fun ν28 => .int .i64 t7) 96) (by intro _; kernel_rfl)) <|
      .cons [97, 117] (ok_gd (ok_callRL [108] (fun ν28 => [owK 40 2 ((ν4 1).o 1) t5.2.length ((ν4 1).n 1) (t5.2.flatMap en_TInterval)]) 32 (fun ν28 => #[.slice ((ν4 1).o 1) t5.2.length ((ν4 1).n 1), .int .i64 t7]) (fun p cap => .slice p t37.length cap) 40 2 t37.length (t37.flatMap en_TInterval) 97 117 (fun ν28 w hF => box_Inflate.calls k0 t5.2 t7 ((ν4 1).o 1) ((ν4 1).n 1) t37 w (owns_row (ow_of hF.1)) ht37)) (by intro _; kernel_rfl)) <|
      .cons [98] (ok_gd (ok_callL [109, 117] (fun ν28 => [owK 40 2 ((ν10 2).o 0) t11.length ((ν10 2).n 0) (t11.flatMap en_TInterval), owK 40 2 ((ν28 25).o 0) t37.length ((ν28 25).n 0) (t37.flatMap en_TInterval)]) 23 (fun ν28 => #[.slice ((ν10 2).o 0) t11.length ((ν10 2).n 0), .slice ((ν28 25).o 0) t37.length ((ν28 25).n 0)]) (.bool t38) 98 (fun ν28 w hF => box_Subset.calls t11 t37 ((ν10 2).o 0) ((ν10 2).n 0) ((ν28 25).o 0) ((ν28 25).n 0) t38 w (owns_row (ow_of hF.1)) (owns_row (ow_of hF.2.1)) ht38)) (by intro _; kernel_rfl)) <|
      .cons [99] (ok_gd (ok_pickK (fun ν28 => .bool t38) 99) (by intro _; kernel_rfl)) <|
      .cons [100] (ok_pickK (fun ν28 => .bool t38) 100) <|
      .cons [6] (ok_val (fun ν28 => .bool t38) 6) <| .nil) (by kernel_rfl) fun ν28 a w' H => ?_
                replace H := H.toL [(6, .slot true (.bool t38))] (by kernel_rfl)
                refine k_ret ?_
                obtain rfl := Option.some.inj G
                exact k_done0 H _ (by kernel_rfl) (by kernel_rfl)
              rw [if_neg c40] at G
              cases G
            rw [if_neg c35] at G
            by_cases c36 : z34 = false
            · rw [if_pos c36] at G; subst c36
              refine k_reg mixed H (.cons [72] (ok_val (fun ν28 => .bool t3) 72) <|
      .cons [73] (ok_as (u' := fun ν28 => [(73, .slot true (.bool true))]) (ok_val (fun ν28 => .bool t3) 73) (fun _ => by rw [hz29])) <|
      .cons [74] (ok_gd (ok_val (fun ν28 => .bool t24.2) 74) (by intro _; kernel_rfl)) <|
      .cons [75] (ok_gd (ok_val (fun ν28 => .bool t27.2) 75) (by intro _; kernel_rfl)) <|
      .cons [76] (ok_gd (ok_val (fun ν28 => .bool (t24.2 == t27.2)) 76) (by intro _; kernel_rfl)) <|
      .cons [77] (ok_gd (ok_val (fun ν28 => .bool (t24.2 == t27.2)) 77) (by intro _; kernel_rfl)) <|
      .cons [78] (ok_valg (fun ν28 => .slice ((ν10 2).o 0) t11.length ((ν10 2).n 0)) (fun ν28 => ((t24.2 == t27.2) == false)) [true] 78) <|
      .cons [79] (ok_callLg [109] (fun ν28 => [owK 40 2 ((ν10 2).o 0) t11.length ((ν10 2).n 0) (t11.flatMap en_TInterval)]) 50 (fun ν28 => #[.slice ((ν10 2).o 0) t11.length ((ν10 2).n 0)]) (.bool t30) (fun ν28 => ((t24.2 == t27.2) == false)) [true, false] 79 (fun ν28 w hg hF => armillarylaw03_unbounded.calls k0 t11 ((ν10 2).o 0) ((ν10 2).n 0) t30 w (owns_row (ow_of hF.1)) (ifp ht30 hg))) <|
      .cons [80] (ok_gd (ok_or 77 79 (fun ν28 => true) (fun ν28 => true) (fun ν28 => (t24.2 == t27.2)) (fun ν28 => t30) 80) (by intro _; kernel_rfl)) <|
      .cons [81] (ok_as (u' := fun ν28 => [(81, .slot true (.bool false))]) (ok_gd (ok_val (fun ν28 => .bool ((t24.2 == t27.2) || t30)) 81) (by intro _; kernel_rfl)) (fun _ => by rw [hz31])) <|
      .cons [82] (ok_gd (ok_val (fun ν28 => .slice ((ν4 1).o 1) t5.2.length ((ν4 1).n 1)) 82) (by intro _; kernel_rfl)) <|
      .cons [83] (ok_gd (ok_val (fun ν28 => .int .i64 t7) 83) (by intro _; kernel_rfl)) <|
      .cons [84, 116] (ok_gd (ok_callRL [108] (fun ν28 => [owK 40 2 ((ν4 1).o 1) t5.2.length ((ν4 1).n 1) (t5.2.flatMap en_TInterval)]) 32 (fun ν28 => #[.slice ((ν4 1).o 1) t5.2.length ((ν4 1).n 1), .int .i64 t7]) (fun p cap => .slice p t32.length cap) 40 2 t32.length (t32.flatMap en_TInterval) 84 116 (fun ν28 w hF => box_Inflate.calls k0 t5.2 t7 ((ν4 1).o 1) ((ν4 1).n 1) t32 w (owns_row (ow_of hF.1)) ht32)) (by intro _; kernel_rfl)) <|
      .cons [85] (ok_gd (ok_callL [116] (fun ν28 => [owK 40 2 ((ν28 12).o 0) t32.length ((ν28 12).n 0) (t32.flatMap en_TInterval)]) 50 (fun ν28 => #[.slice ((ν28 12).o 0) t32.length ((ν28 12).n 0)]) (.bool t33) 85 (fun ν28 w hF => armillarylaw03_unbounded.calls k0 t32 ((ν28 12).o 0) ((ν28 12).n 0) t33 w (owns_row (ow_of hF.1)) ht33)) (by intro _; kernel_rfl)) <|
      .cons [86] (ok_gd (ok_pickK (fun ν28 => .bool t33) 86) (by intro _; kernel_rfl)) <|
      .cons [87] (ok_pickK (fun ν28 => .bool t33) 87) <|
      .cons [88] (ok_as (u' := fun ν28 => [(88, .slot true (.bool false))]) (ok_val (fun ν28 => .bool t33) 88) (fun _ => by rw [hz34])) <|
      .cons [89] (ok_offB 89) <|
      .cons [90] (ok_offB 90) <|
      .cons [91] (ok_offB 91) <|
      .cons [92] (ok_offB 92) <|
      .cons [93] (ok_offB 93) <|
      .cons [94] (ok_offB 94) <|
      .cons [95] (ok_offB 95) <|
      .cons [96] (ok_offB 96) <|
      .cons [97] (ok_offB 97) <|
      .cons [98] (ok_offB 98) <|
      .cons [99] (ok_offB 99) <|
      .cons [100] (ok_pickK (fun ν28 => .bool false) 100) <|
      .cons [6] (ok_val (fun ν28 => .bool false) 6) <| .nil) (by kernel_rfl) fun ν28 a w' H => ?_
              replace H := H.toL [(6, .slot true (.bool false))] (by kernel_rfl)
              refine k_ret ?_
              obtain rfl := Option.some.inj G
              exact k_done0 H _ (by kernel_rfl) (by kernel_rfl)
            rw [if_neg c36] at G
            cases G
          rw [if_neg c38] at G
          cases G
        rw [if_neg c30] at G
        by_cases c31 : z29 = false
        · rw [if_pos c31] at G; subst c31
          refine k_reg mixed H (.cons [72] (ok_val (fun ν28 => .bool t3) 72) <|
      .cons [73] (ok_as (u' := fun ν28 => [(73, .slot true (.bool false))]) (ok_val (fun ν28 => .bool t3) 73) (fun _ => by rw [hz29])) <|
      .cons [74] (ok_offB 74) <|
      .cons [75] (ok_offB 75) <|
      .cons [76] (ok_offB 76) <|
      .cons [77] (ok_offB 77) <|
      .cons [78] (ok_offB 78) <|
      .cons [79] (ok_offB 79) <|
      .cons [80] (ok_offB 80) <|
      .cons [81] (ok_offB 81) <|
      .cons [82] (ok_offB 82) <|
      .cons [83] (ok_offB 83) <|
      .cons [84] (ok_offB 84) <|
      .cons [85] (ok_offB 85) <|
      .cons [86] (ok_offB 86) <|
      .cons [87] (ok_pickK (fun ν28 => .bool false) 87) <|
      .cons [88] (ok_val (fun ν28 => .bool false) 88) <|
      .cons [89] (ok_offB 89) <|
      .cons [90] (ok_offB 90) <|
      .cons [91] (ok_offB 91) <|
      .cons [92] (ok_offB 92) <|
      .cons [93] (ok_offB 93) <|
      .cons [94] (ok_offB 94) <|
      .cons [95] (ok_offB 95) <|
      .cons [96] (ok_offB 96) <|
      .cons [97] (ok_offB 97) <|
      .cons [98] (ok_offB 98) <|
      .cons [99] (ok_offB 99) <|
      .cons [100] (ok_pickK (fun ν28 => .bool false) 100) <|
      .cons [6] (ok_val (fun ν28 => .bool false) 6) <| .nil) (by kernel_rfl) fun ν28 a w' H => ?_
          replace H := H.toL [(6, .slot true (.bool false))] (by kernel_rfl)
          refine k_ret ?_
          obtain rfl := Option.some.inj G
          exact k_done0 H _ (by kernel_rfl) (by kernel_rfl)
        rw [if_neg c31] at G
        cases G
    rw [if_neg c34] at G
    cases G
  rw [if_neg c36] at G
  cases G

end Go.Proofs.Ytgccinodonkgjaa
