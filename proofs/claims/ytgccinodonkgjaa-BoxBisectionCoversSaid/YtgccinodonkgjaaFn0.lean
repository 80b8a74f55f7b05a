/- Each function of the program answers as the plain Lean function of its name (part 0). Printed by a program of this session. -/
import Derived.Test.YtgccinodonkgjaaPairs
set_option linter.unusedVariables false
set_option maxRecDepth 100000
namespace Go.Proofs.Ytgccinodonkgjaa
open Go Go.RowKit Go.Sx Go.Proofs
set_option maxHeartbeats 4000000 in
theorem api_Interval_92.calls (a0 : Bool) (a1 : TInterval) (a2 : TInterval) (r : TInterval) (w : World) (G : api_Interval_92 a0 a1 a2 = some r) :
    Calls Try.prog 92 #[.bool a0, .agg #[.int .i64 a1.Lo, .int .i64 a1.Hi], .agg #[.int .i64 a2.Lo, .int .i64 a2.Hi]] w fun e w' => e = .returned (.agg #[.int .i64 r.Lo, .int .i64 r.Hi]) ∧ Below w.heap.size w w' := by
  refine k_enter (args := [.bool a0, .agg #[.int .i64 a1.Lo, .int .i64 a1.Hi], .agg #[.int .i64 a2.Lo, .int .i64 a2.Hi]]) 10 Try.func92 rfl (by kernel_rfl) (by kernel_rfl) fun a H => ?_
  unfold api_Interval_92 at G
  refine k_seq ?_
  refine k_reg mixed H (.cons [4, 10] (ok_new (fun b => .pointer (some ⟨b, 0, none⟩)) (fun ν1 => [.int .i64 a1.Lo, .int .i64 a1.Hi]) 40 4 10) <|
      .cons [5, 11] (ok_new (fun b => .pointer (some ⟨b, 0, none⟩)) (fun ν1 => [.int .i64 a2.Lo, .int .i64 a2.Hi]) 40 5 11) <|
      .cons [6, 12] (ok_new (fun b => .pointer (some ⟨b, 0, none⟩)) (fun ν1 => [.int .i64 0, .int .i64 0]) 40 6 12) <| .nil) (by kernel_rfl) fun ν1 a w' H => ?_
  replace H := H.toL [(0, .slot true (.bool a0)), (4, .slot true (.pointer (some ⟨((ν1 0).n 0), 0, none⟩))), (5, .slot true (.pointer (some ⟨((ν1 1).n 0), 0, none⟩))), (6, .slot true (.pointer (some ⟨((ν1 2).n 0), 0, none⟩))), (10, .blk ((ν1 0).n 0) [.int .i64 a1.Lo, .int .i64 a1.Hi] 40), (11, .blk ((ν1 1).n 0) [.int .i64 a2.Lo, .int .i64 a2.Hi] 40), (12, .blk ((ν1 2).n 0) [.int .i64 0, .int .i64 0] 40)] (by kernel_rfl)
  refine k_seq ?_
  refine k_seq ?_
  refine k_reg mixed H (.cons [7] (ok_val (fun ν2 => .bool a0) 7) <| .nil) (by kernel_rfl) fun ν2 a w' H => ?_
  replace H := H.toL [(4, .slot true (.pointer (some ⟨((ν1 0).n 0), 0, none⟩))), (5, .slot true (.pointer (some ⟨((ν1 1).n 0), 0, none⟩))), (6, .slot true (.pointer (some ⟨((ν1 2).n 0), 0, none⟩))), (7, .slot true (.bool a0)), (10, .blk ((ν1 0).n 0) [.int .i64 a1.Lo, .int .i64 a1.Hi] 40), (11, .blk ((ν1 1).n 0) [.int .i64 a2.Lo, .int .i64 a2.Hi] 40), (12, .blk ((ν1 2).n 0) [.int .i64 0, .int .i64 0] 40)] (by kernel_rfl)
  refine k_cond H (by kernel_rfl) (t := a0) (by kernel_rfl) (fun c5 => ?_) (fun c5 => ?_)
  · rw [if_pos c5] at G
    refine k_seq ?_
    refine k_reg mixed H (.cons [8] (ok_ld (fun ν3 => .agg #[.int .i64 a1.Lo, .int .i64 a1.Hi]) 8 10 0 2 (fun ν3 => ((ν1 0).n 0)) (fun ν3 => [.int .i64 a1.Lo, .int .i64 a1.Hi]) 40) <|
      .cons [12] (ok_as (u' := fun ν3 => [(12, .blk ((ν1 2).n 0) [.int .i64 a1.Lo, .int .i64 a1.Hi] 40)]) (ok_store 12 0 (fun ν3 => ((ν1 2).n 0)) (fun ν3 => [.int .i64 0, .int .i64 0]) (fun ν3 => [.int .i64 a1.Lo, .int .i64 a1.Hi]) 40) (fun _ => by kernel_rfl)) <| .nil) (by kernel_rfl) fun ν3 a w' H => ?_
    replace H := H.toL [(5, .slot true (.pointer (some ⟨((ν1 1).n 0), 0, none⟩))), (6, .slot true (.pointer (some ⟨((ν1 2).n 0), 0, none⟩))), (11, .blk ((ν1 1).n 0) [.int .i64 a2.Lo, .int .i64 a2.Hi] 40), (12, .blk ((ν1 2).n 0) [.int .i64 a1.Lo, .int .i64 a1.Hi] 40)] (by kernel_rfl)
    refine k_ret ?_
    obtain rfl := Option.some.inj G
    exact k_done1 H _ 12 ((ν1 2).n 0) [.int .i64 a1.Lo, .int .i64 a1.Hi] 40 0 2 (by kernel_rfl) (by kernel_rfl) (by kernel_rfl) (by kernel_rfl)
  · rw [if_neg (nt c5)] at G
    refine k_skip ?_
    refine k_seq ?_
    refine k_reg mixed H (.cons [9] (ok_ld (fun ν4 => .agg #[.int .i64 a2.Lo, .int .i64 a2.Hi]) 9 11 0 2 (fun ν4 => ((ν1 1).n 0)) (fun ν4 => [.int .i64 a2.Lo, .int .i64 a2.Hi]) 40) <|
      .cons [12] (ok_as (u' := fun ν4 => [(12, .blk ((ν1 2).n 0) [.int .i64 a2.Lo, .int .i64 a2.Hi] 40)]) (ok_store 12 0 (fun ν4 => ((ν1 2).n 0)) (fun ν4 => [.int .i64 0, .int .i64 0]) (fun ν4 => [.int .i64 a2.Lo, .int .i64 a2.Hi]) 40) (fun _ => by kernel_rfl)) <| .nil) (by kernel_rfl) fun ν4 a w' H => ?_
    replace H := H.toL [(6, .slot true (.pointer (some ⟨((ν1 2).n 0), 0, none⟩))), (12, .blk ((ν1 2).n 0) [.int .i64 a2.Lo, .int .i64 a2.Hi] 40)] (by kernel_rfl)
    refine k_ret ?_
    obtain rfl := Option.some.inj G
    exact k_done1 H _ 12 ((ν1 2).n 0) [.int .i64 a2.Lo, .int .i64 a2.Hi] 40 0 2 (by kernel_rfl) (by kernel_rfl) (by kernel_rfl) (by kernel_rfl)

set_option maxHeartbeats 4000000 in
theorem interval_Intersect.calls (a0 : TInterval) (a1 : TInterval) (r : TInterval × Bool) (w : World) (G : interval_Intersect a0 a1 = some r) :
    Calls Try.prog 54 #[.agg #[.int .i64 a0.Lo, .int .i64 a0.Hi], .agg #[.int .i64 a1.Lo, .int .i64 a1.Hi]] w fun e w' => e = .returned (.tuple #[.agg #[.int .i64 r.1.Lo, .int .i64 r.1.Hi], .bool r.2]) ∧ Below w.heap.size w w' := by
  refine k_enter (args := [.agg #[.int .i64 a0.Lo, .int .i64 a0.Hi], .agg #[.int .i64 a1.Lo, .int .i64 a1.Hi]]) 29 Try.func54 rfl (by kernel_rfl) (by kernel_rfl) fun a H => ?_
  unfold interval_Intersect at G
  refine k_seq ?_
  refine k_reg mixed H (.cons [2, 29] (ok_new (fun b => .pointer (some ⟨b, 0, none⟩)) (fun ν1 => [.int .i64 a0.Lo, .int .i64 a0.Hi]) 40 2 29) <|
      .cons [3, 30] (ok_new (fun b => .pointer (some ⟨b, 0, none⟩)) (fun ν1 => [.int .i64 a1.Lo, .int .i64 a1.Hi]) 40 3 30) <|
      .cons [4, 31] (ok_new (fun b => .pointer (some ⟨b, 0, none⟩)) (fun ν1 => [.int .i64 0, .int .i64 0]) 40 4 31) <|
      .cons [5] (ok_val (fun ν1 => .bool false) 5) <| .nil) (by kernel_rfl) fun ν1 a w' H => ?_
  replace H := H.toL [(2, .slot true (.pointer (some ⟨((ν1 0).n 0), 0, none⟩))), (3, .slot true (.pointer (some ⟨((ν1 1).n 0), 0, none⟩))), (4, .slot true (.pointer (some ⟨((ν1 2).n 0), 0, none⟩))), (5, .slot true (.bool false)), (29, .blk ((ν1 0).n 0) [.int .i64 a0.Lo, .int .i64 a0.Hi] 40), (30, .blk ((ν1 1).n 0) [.int .i64 a1.Lo, .int .i64 a1.Hi] 40), (31, .blk ((ν1 2).n 0) [.int .i64 0, .int .i64 0] 40)] (by kernel_rfl)
  refine k_seq ?_
  refine k_reg mixed H (.cons [8] (ok_val (fun ν2 => .pointer (some ⟨((ν1 0).n 0), 0, none⟩)) 8) <|
      .cons [9] (ok_ld (fun ν2 => .int .i64 a0.Lo) 9 29 0 1 (fun ν2 => ((ν1 0).n 0)) (fun ν2 => [.int .i64 a0.Lo, .int .i64 a0.Hi]) 40) <|
      .cons [10] (ok_val (fun ν2 => .pointer (some ⟨((ν1 1).n 0), 0, none⟩)) 10) <|
      .cons [11] (ok_ld (fun ν2 => .int .i64 a1.Lo) 11 30 0 1 (fun ν2 => ((ν1 1).n 0)) (fun ν2 => [.int .i64 a1.Lo, .int .i64 a1.Hi]) 40) <|
      .cons [12] (ok_val (fun ν2 => .int .i64 (mx a0.Lo a1.Lo)) 12) <|
      .cons [13] (ok_val (fun ν2 => .pointer (some ⟨((ν1 0).n 0), 1, none⟩)) 13) <|
      .cons [14] (ok_ld (fun ν2 => .int .i64 a0.Hi) 14 29 1 1 (fun ν2 => ((ν1 0).n 0)) (fun ν2 => [.int .i64 a0.Lo, .int .i64 a0.Hi]) 40) <|
      .cons [15] (ok_val (fun ν2 => .pointer (some ⟨((ν1 1).n 0), 1, none⟩)) 15) <|
      .cons [16] (ok_ld (fun ν2 => .int .i64 a1.Hi) 16 30 1 1 (fun ν2 => ((ν1 1).n 0)) (fun ν2 => [.int .i64 a1.Lo, .int .i64 a1.Hi]) 40) <|
      .cons [17] (ok_val (fun ν2 => .int .i64 (mn a0.Hi a1.Hi)) 17) <|
      .cons [18] (ok_val (fun ν2 => .agg #[.int .i64 (mx a0.Lo a1.Lo), .int .i64 (mn a0.Hi a1.Hi)]) 18) <|
      .cons [6, 32] (ok_new (fun b => .pointer (some ⟨b, 0, none⟩)) (fun ν2 => [.int .i64 0, .int .i64 0]) 40 6 32) <|
      .cons [32] (ok_as (u' := fun ν2 => [(32, .blk ((ν2 11).n 0) [.int .i64 (mx a0.Lo a1.Lo), .int .i64 (mn a0.Hi a1.Hi)] 40)]) (ok_store 32 0 (fun ν2 => ((ν2 11).n 0)) (fun ν2 => [.int .i64 0, .int .i64 0]) (fun ν2 => [.int .i64 (mx a0.Lo a1.Lo), .int .i64 (mn a0.Hi a1.Hi)]) 40) (fun _ => by kernel_rfl)) <| .nil) (by kernel_rfl) fun ν2 a w' H => ?_
  replace H := H.toL [(4, .slot true (.pointer (some ⟨((ν1 2).n 0), 0, none⟩))), (5, .slot true (.bool false)), (6, .slot true (.pointer (some ⟨((ν2 11).n 0), 0, none⟩))), (31, .blk ((ν1 2).n 0) [.int .i64 0, .int .i64 0] 40), (32, .blk ((ν2 11).n 0) [.int .i64 (mx a0.Lo a1.Lo), .int .i64 (mn a0.Hi a1.Hi)] 40)] (by kernel_rfl)
  refine k_seq ?_
  refine k_reg mixed H (.cons [19] (ok_val (fun ν3 => .pointer (some ⟨((ν2 11).n 0), 0, none⟩)) 19) <|
      .cons [20] (ok_ld (fun ν3 => .int .i64 (mx a0.Lo a1.Lo)) 20 32 0 1 (fun ν3 => ((ν2 11).n 0)) (fun ν3 => [.int .i64 (mx a0.Lo a1.Lo), .int .i64 (mn a0.Hi a1.Hi)]) 40) <|
      .cons [21] (ok_val (fun ν3 => .pointer (some ⟨((ν2 11).n 0), 1, none⟩)) 21) <|
      .cons [22] (ok_ld (fun ν3 => .int .i64 (mn a0.Hi a1.Hi)) 22 32 1 1 (fun ν3 => ((ν2 11).n 0)) (fun ν3 => [.int .i64 (mx a0.Lo a1.Lo), .int .i64 (mn a0.Hi a1.Hi)]) 40) <|
      .cons [23] (ok_val (fun ν3 => .bool (decide ((mx a0.Lo a1.Lo) ≤ (mn a0.Hi a1.Hi)))) 23) <|
      .cons [7] (ok_val (fun ν3 => .bool (decide ((mx a0.Lo a1.Lo) ≤ (mn a0.Hi a1.Hi)))) 7) <| .nil) (by kernel_rfl) fun ν3 a w' H => ?_
  replace H := H.toL [(4, .slot true (.pointer (some ⟨((ν1 2).n 0), 0, none⟩))), (5, .slot true (.bool false)), (6, .slot true (.pointer (some ⟨((ν2 11).n 0), 0, none⟩))), (7, .slot true (.bool (decide ((mx a0.Lo a1.Lo) ≤ (mn a0.Hi a1.Hi))))), (31, .blk ((ν1 2).n 0) [.int .i64 0, .int .i64 0] 40), (32, .blk ((ν2 11).n 0) [.int .i64 (mx a0.Lo a1.Lo), .int .i64 (mn a0.Hi a1.Hi)] 40)] (by kernel_rfl)
  refine k_seq ?_
  replace G := bnd G; obtain ⟨t5, ht5, G⟩ := G
  refine k_reg mixed H (.cons [24] (ok_val (fun ν4 => .bool (decide ((mx a0.Lo a1.Lo) ≤ (mn a0.Hi a1.Hi)))) 24) <|
      .cons [25] (ok_ld (fun ν4 => .agg #[.int .i64 (mx a0.Lo a1.Lo), .int .i64 (mn a0.Hi a1.Hi)]) 25 32 0 2 (fun ν4 => ((ν2 11).n 0)) (fun ν4 => [.int .i64 (mx a0.Lo a1.Lo), .int .i64 (mn a0.Hi a1.Hi)]) 40) <|
      .cons [26] (ok_val (fun ν4 => .agg #[.int .i64 0, .int .i64 0]) 26) <|
      .cons [27] (ok_callv 92 (fun ν4 => #[.bool (decide ((mx a0.Lo a1.Lo) ≤ (mn a0.Hi a1.Hi))), .agg #[.int .i64 (mx a0.Lo a1.Lo), .int .i64 (mn a0.Hi a1.Hi)], .agg #[.int .i64 0, .int .i64 0]]) (.agg #[.int .i64 t5.Lo, .int .i64 t5.Hi]) 27 [] (fun _ w _ => api_Interval_92.calls (decide ((mx a0.Lo a1.Lo) ≤ (mn a0.Hi a1.Hi))) (⟨mx a0.Lo a1.Lo, mn a0.Hi a1.Hi⟩ : TInterval) (⟨0, 0⟩ : TInterval) t5 w ht5)) <|
      .cons [28] (ok_val (fun ν4 => .bool (decide ((mx a0.Lo a1.Lo) ≤ (mn a0.Hi a1.Hi)))) 28) <|
      .cons [31] (ok_as (u' := fun ν4 => [(31, .blk ((ν1 2).n 0) [.int .i64 t5.Lo, .int .i64 t5.Hi] 40)]) (ok_store 31 0 (fun ν4 => ((ν1 2).n 0)) (fun ν4 => [.int .i64 0, .int .i64 0]) (fun ν4 => [.int .i64 t5.Lo, .int .i64 t5.Hi]) 40) (fun _ => by kernel_rfl)) <|
      .cons [5] (ok_val (fun ν4 => .bool (decide ((mx a0.Lo a1.Lo) ≤ (mn a0.Hi a1.Hi)))) 5) <| .nil) (by kernel_rfl) fun ν4 a w' H => ?_
  replace H := H.toL [(4, .slot true (.pointer (some ⟨((ν1 2).n 0), 0, none⟩))), (5, .slot true (.bool (decide ((mx a0.Lo a1.Lo) ≤ (mn a0.Hi a1.Hi))))), (31, .blk ((ν1 2).n 0) [.int .i64 t5.Lo, .int .i64 t5.Hi] 40)] (by kernel_rfl)
  refine k_ret ?_
  obtain rfl := Option.some.inj G
  exact k_done1 H _ 31 ((ν1 2).n 0) [.int .i64 t5.Lo, .int .i64 t5.Hi] 40 0 2 (by kernel_rfl) (by kernel_rfl) (by kernel_rfl) (by kernel_rfl)

set_option maxHeartbeats 4000000 in
theorem box_Intersect.calls (a0 : List TInterval) (a1 : List TInterval) (p_a0 : Option Addr) (c_a0 : Nat) (p_a1 : Option Addr) (c_a1 : Nat) (r : List TInterval × Bool) (w : World) (R_p_a0 : RowAt w 2 p_a0 a0.length (a0.flatMap en_TInterval)) (R_p_a1 : RowAt w 2 p_a1 a1.length (a1.flatMap en_TInterval)) (G : box_Intersect a0 a1 = some r) :
    Calls Try.prog 14 #[.slice p_a0 a0.length c_a0, .slice p_a1 a1.length c_a1] w fun e w' => ∃ p cap, e = .returned (.tuple #[.slice p r.1.length cap, .bool r.2]) ∧ Below w.heap.size w w' ∧ w'.ownsRow w.heap.size 40 2 (.slice p r.1.length cap) r.1.length (r.1.flatMap en_TInterval) := by
  refine k_enterM (args := [.slice p_a0 a0.length c_a0, .slice p_a1 a1.length c_a1]) 29 [(29, rdK 2 p_a0 a0.length (a0.flatMap en_TInterval)), (30, rdK 2 p_a1 a1.length (a1.flatMap en_TInterval))] (by
    intro x hx
    simp only [List.mem_cons, List.not_mem_nil, or_false] at hx
    rcases hx with rfl | rfl
    · exact rd_fact R_p_a0 (by decide) _
    · exact rd_fact R_p_a1 (by decide) _) Try.func14 rfl (by kernel_rfl) (by kernel_rfl) fun a H => ?_
  unfold box_Intersect at G
  refine k_seq ?_
  refine k_reg mixed H (.cons [4, 31] (ok_new (fun b => .pointer (some ⟨b, 0, none⟩)) (fun ν1 => [.slice none 0 0]) 22 4 31) <|
      .cons [5, 32] (ok_new (fun b => .pointer (some ⟨b, 0, none⟩)) (fun ν1 => [.bool false]) 4 5 32) <| .nil) (by kernel_rfl) fun ν1 a w' H => ?_
  replace H := H.toL [(0, .slot true (.slice p_a0 a0.length c_a0)), (1, .slot true (.slice p_a1 a1.length c_a1)), (4, .slot true (.pointer (some ⟨((ν1 0).n 0), 0, none⟩))), (5, .slot true (.pointer (some ⟨((ν1 1).n 0), 0, none⟩))), (31, .blk ((ν1 0).n 0) [.slice none 0 0] 22), (32, .blk ((ν1 1).n 0) [.bool false] 4), (29, rdK 2 p_a0 a0.length (a0.flatMap en_TInterval)), (30, rdK 2 p_a1 a1.length (a1.flatMap en_TInterval))] (by kernel_rfl)
  refine k_seq ?_
  refine k_reg mixed H (.cons [6, 33] (ok_new (fun b => .pointer (some ⟨b, 0, none⟩)) (fun ν2 => [.slice none 0 0]) 22 6 33) <| .nil) (by kernel_rfl) fun ν2 a w' H => ?_
  replace H := H.toL [(0, .slot true (.slice p_a0 a0.length c_a0)), (1, .slot true (.slice p_a1 a1.length c_a1)), (4, .slot true (.pointer (some ⟨((ν1 0).n 0), 0, none⟩))), (5, .slot true (.pointer (some ⟨((ν1 1).n 0), 0, none⟩))), (6, .slot true (.pointer (some ⟨((ν2 0).n 0), 0, none⟩))), (31, .blk ((ν1 0).n 0) [.slice none 0 0] 22), (32, .blk ((ν1 1).n 0) [.bool false] 4), (33, .blk ((ν2 0).n 0) [.slice none 0 0] 22), (29, rdK 2 p_a0 a0.length (a0.flatMap en_TInterval)), (30, rdK 2 p_a1 a1.length (a1.flatMap en_TInterval))] (by kernel_rfl)
  refine k_seq ?_
  refine k_seq ?_
  refine k_reg mixed H (.cons [11] (ok_val (fun ν3 => .slice p_a0 a0.length c_a0) 11) <|
      .cons [12] (ok_val (fun ν3 => .slice p_a1 a1.length c_a1) 12) <|
      .cons [13, 34, 35] (ok_callB2 53 (fun ν3 => #[.slice p_a0 a0.length c_a0, .slice p_a1 a1.length c_a1]) (fun b1 b2 => .func (.func 91) #[] #[.pointer (some ⟨b1, 0, none⟩), .pointer (some ⟨b2, 0, none⟩)]) [.slice p_a0 a0.length c_a0] [.slice p_a1 a1.length c_a1] 22 22 13 34 35 (fun _ w => box_pairs.calls p_a0 p_a1 a0.length c_a0 a1.length c_a1 w)) <| .nil) (by kernel_rfl) fun ν3 a w' H => ?_
  replace H := H.toL [(4, .slot true (.pointer (some ⟨((ν1 0).n 0), 0, none⟩))), (5, .slot true (.pointer (some ⟨((ν1 1).n 0), 0, none⟩))), (6, .slot true (.pointer (some ⟨((ν2 0).n 0), 0, none⟩))), (13, .slot true (.func (.func 91) #[] #[.pointer (some ⟨((ν3 2).n 0), 0, none⟩), .pointer (some ⟨((ν3 2).n 1), 0, none⟩)])), (31, .blk ((ν1 0).n 0) [.slice none 0 0] 22), (32, .blk ((ν1 1).n 0) [.bool false] 4), (33, .blk ((ν2 0).n 0) [.slice none 0 0] 22), (34, .blk ((ν3 2).n 0) [.slice p_a0 a0.length c_a0] 22), (35, .blk ((ν3 2).n 1) [.slice p_a1 a1.length c_a1] 22), (29, rdK 2 p_a0 a0.length (a0.flatMap en_TInterval)), (30, rdK 2 p_a1 a1.length (a1.flatMap en_TInterval))] (by kernel_rfl)
  refine k_block ?_
  replace H := H.nil_row 36 40 2
  replace G := gd G; obtain ⟨b19, G⟩ := G
  refine k_range2 (α := TInterval × TInterval) (fun x => enI x.1) (fun x => enI x.2) (a0.zip a1) (pairsFx ((ν3 2).n 0) ((ν3 2).n 1) p_a0 p_a1 c_a0 c_a1 a0 a1) 37 38 (fun rs6 L => ∃ x7 : List TInterval, ∃ (p_x7 : Option Addr) (c_x7 : Nat), box_Intersect.l8 a0 a1 rs6 x7 = some r ∧ L = [(31, .blk ((ν1 0).n 0) [.slice none 0 0] 22), (32, .blk ((ν1 1).n 0) [.bool false] 4), (33, .blk ((ν2 0).n 0) [.slice p_x7 x7.length c_x7] 22), (34, .blk ((ν3 2).n 0) [.slice p_a0 a0.length c_a0] 22), (35, .blk ((ν3 2).n 1) [.slice p_a1 a1.length c_a1] 22), (29, rdK 2 p_a0 a0.length (a0.flatMap en_TInterval)), (30, rdK 2 p_a1 a1.length (a1.flatMap en_TInterval)), (36, owK 40 2 p_x7 x7.length c_x7 (x7.flatMap en_TInterval))]) (fun L => ∃ (p_r0 : Option Addr) (c_r0 : Nat), L = [(31, .blk ((ν1 0).n 0) [.slice p_r0 r.1.length c_r0] 22), (32, .blk ((ν1 1).n 0) [.bool r.2] 4), (39, owK 40 2 p_r0 r.1.length c_r0 (r.1.flatMap en_TInterval))]) [(31, .blk ((ν1 0).n 0) [.slice none 0 0] 22), (32, .blk ((ν1 1).n 0) [.bool false] 4), (33, .blk ((ν2 0).n 0) [.slice none ([] : List TInterval).length 0] 22), (34, .blk ((ν3 2).n 0) [.slice p_a0 a0.length c_a0] 22), (35, .blk ((ν3 2).n 1) [.slice p_a1 a1.length c_a1] 22), (29, rdK 2 p_a0 a0.length (a0.flatMap en_TInterval)), (30, rdK 2 p_a1 a1.length (a1.flatMap en_TInterval)), (36, owK 40 2 none ([] : List TInterval).length 0 (([] : List TInterval).flatMap en_TInterval))] H (by kernel_rfl) (by kernel_rfl) (enters_fn Try.func91 (by kernel_rfl) rfl) (box_pairs_1.ok a0 a1 b19.1 b19.2 ((ν3 2).n 0) ((ν3 2).n 1) p_a0 p_a1 c_a0 c_a1) (by kernel_rfl) (by kernel_rfl) ⟨_, none, 0, G, rfl⟩ (by kernel_rfl) (by kernel_rfl) (by kernel_rfl) (by kernel_rfl) (by kernel_rfl) ?_ ?_ ?_ ?_
  · clear H G; rintro rs L a W ⟨x7, p_x7, c_x7, _, rfl⟩ H
    exact ⟨H.holds 34, H.holds 35, (rd_of (H.holds 29)), (rd_of (H.holds 30))⟩
  · clear H G; rintro l D oR oD ⟨x4, y5⟩ rs6 L a w' ⟨x7, p_x7, c_x7, G, rfl⟩ H
    unfold box_Intersect.l8 at G
    replace H := H.toL [(4, .slot true (.pointer (some ⟨((ν1 0).n 0), 0, none⟩))), (5, .slot true (.pointer (some ⟨((ν1 1).n 0), 0, none⟩))), (6, .slot true (.pointer (some ⟨((ν2 0).n 0), 0, none⟩))), (13, .slot true (.func (.func 91) #[] #[.pointer (some ⟨((ν3 2).n 0), 0, none⟩), .pointer (some ⟨((ν3 2).n 1), 0, none⟩)])), (14, .slot true (.agg #[.int .i64 x4.Lo, .int .i64 x4.Hi])), (15, .slot true (.agg #[.int .i64 y5.Lo, .int .i64 y5.Hi])), (31, .blk ((ν1 0).n 0) [.slice none 0 0] 22), (32, .blk ((ν1 1).n 0) [.bool false] 4), (33, .blk ((ν2 0).n 0) [.slice p_x7 x7.length c_x7] 22), (34, .blk ((ν3 2).n 0) [.slice p_a0 a0.length c_a0] 22), (35, .blk ((ν3 2).n 1) [.slice p_a1 a1.length c_a1] 22), (29, rdK 2 p_a0 a0.length (a0.flatMap en_TInterval)), (30, rdK 2 p_a1 a1.length (a1.flatMap en_TInterval)), (36, owK 40 2 p_x7 x7.length c_x7 (x7.flatMap en_TInterval)), (37, obK l oR), (38, obK D oD)] (by kernel_rfl)
    refine r_seq ?_
    refine r_reg mixed H (.cons [7, 40] (ok_new (fun b => .pointer (some ⟨b, 0, none⟩)) (fun ν9 => [.int .i64 0, .int .i64 0]) 40 7 40) <|
      .cons [40] (ok_as (u' := fun ν9 => [(40, .blk ((ν9 0).n 0) [.int .i64 x4.Lo, .int .i64 x4.Hi] 40)]) (ok_store 40 0 (fun ν9 => ((ν9 0).n 0)) (fun ν9 => [.int .i64 0, .int .i64 0]) (fun ν9 => [.int .i64 x4.Lo, .int .i64 x4.Hi]) 40) (fun _ => by kernel_rfl)) <| .nil) (by kernel_rfl) (by kernel_rfl) fun ν9 a w' H => ?_
    replace H := H.toL [(4, .slot true (.pointer (some ⟨((ν1 0).n 0), 0, none⟩))), (5, .slot true (.pointer (some ⟨((ν1 1).n 0), 0, none⟩))), (6, .slot true (.pointer (some ⟨((ν2 0).n 0), 0, none⟩))), (7, .slot true (.pointer (some ⟨((ν9 0).n 0), 0, none⟩))), (13, .slot true (.func (.func 91) #[] #[.pointer (some ⟨((ν3 2).n 0), 0, none⟩), .pointer (some ⟨((ν3 2).n 1), 0, none⟩)])), (15, .slot true (.agg #[.int .i64 y5.Lo, .int .i64 y5.Hi])), (31, .blk ((ν1 0).n 0) [.slice none 0 0] 22), (32, .blk ((ν1 1).n 0) [.bool false] 4), (33, .blk ((ν2 0).n 0) [.slice p_x7 x7.length c_x7] 22), (34, .blk ((ν3 2).n 0) [.slice p_a0 a0.length c_a0] 22), (35, .blk ((ν3 2).n 1) [.slice p_a1 a1.length c_a1] 22), (40, .blk ((ν9 0).n 0) [.int .i64 x4.Lo, .int .i64 x4.Hi] 40), (29, rdK 2 p_a0 a0.length (a0.flatMap en_TInterval)), (30, rdK 2 p_a1 a1.length (a1.flatMap en_TInterval)), (36, owK 40 2 p_x7 x7.length c_x7 (x7.flatMap en_TInterval)), (37, obK l oR), (38, obK D oD)] (by kernel_rfl)
    refine r_reg mixed H (.cons [8, 41] (ok_new (fun b => .pointer (some ⟨b, 0, none⟩)) (fun ν10 => [.int .i64 0, .int .i64 0]) 40 8 41) <|
      .cons [41] (ok_as (u' := fun ν10 => [(41, .blk ((ν10 0).n 0) [.int .i64 y5.Lo, .int .i64 y5.Hi] 40)]) (ok_store 41 0 (fun ν10 => ((ν10 0).n 0)) (fun ν10 => [.int .i64 0, .int .i64 0]) (fun ν10 => [.int .i64 y5.Lo, .int .i64 y5.Hi]) 40) (fun _ => by kernel_rfl)) <| .nil) (by kernel_rfl) (by kernel_rfl) fun ν10 a w' H => ?_
    replace H := H.toL [(4, .slot true (.pointer (some ⟨((ν1 0).n 0), 0, none⟩))), (5, .slot true (.pointer (some ⟨((ν1 1).n 0), 0, none⟩))), (6, .slot true (.pointer (some ⟨((ν2 0).n 0), 0, none⟩))), (7, .slot true (.pointer (some ⟨((ν9 0).n 0), 0, none⟩))), (8, .slot true (.pointer (some ⟨((ν10 0).n 0), 0, none⟩))), (13, .slot true (.func (.func 91) #[] #[.pointer (some ⟨((ν3 2).n 0), 0, none⟩), .pointer (some ⟨((ν3 2).n 1), 0, none⟩)])), (31, .blk ((ν1 0).n 0) [.slice none 0 0] 22), (32, .blk ((ν1 1).n 0) [.bool false] 4), (33, .blk ((ν2 0).n 0) [.slice p_x7 x7.length c_x7] 22), (34, .blk ((ν3 2).n 0) [.slice p_a0 a0.length c_a0] 22), (35, .blk ((ν3 2).n 1) [.slice p_a1 a1.length c_a1] 22), (40, .blk ((ν9 0).n 0) [.int .i64 x4.Lo, .int .i64 x4.Hi] 40), (41, .blk ((ν10 0).n 0) [.int .i64 y5.Lo, .int .i64 y5.Hi] 40), (29, rdK 2 p_a0 a0.length (a0.flatMap en_TInterval)), (30, rdK 2 p_a1 a1.length (a1.flatMap en_TInterval)), (36, owK 40 2 p_x7 x7.length c_x7 (x7.flatMap en_TInterval)), (37, obK l oR), (38, obK D oD)] (by kernel_rfl)
    refine ⟨_, H, by kernel_rfl, fun oB w' H => ?_⟩
    replace H := H.toL [(4, .slot true (.pointer (some ⟨((ν1 0).n 0), 0, none⟩))), (5, .slot true (.pointer (some ⟨((ν1 1).n 0), 0, none⟩))), (6, .slot true (.pointer (some ⟨((ν2 0).n 0), 0, none⟩))), (7, .slot true (.pointer (some ⟨((ν9 0).n 0), 0, none⟩))), (8, .slot true (.pointer (some ⟨((ν10 0).n 0), 0, none⟩))), (13, .slot true (.func (.func 91) #[] #[.pointer (some ⟨((ν3 2).n 0), 0, none⟩), .pointer (some ⟨((ν3 2).n 1), 0, none⟩)])), (31, .blk ((ν1 0).n 0) [.slice none 0 0] 22), (32, .blk ((ν1 1).n 0) [.bool false] 4), (33, .blk ((ν2 0).n 0) [.slice p_x7 x7.length c_x7] 22), (34, .blk ((ν3 2).n 0) [.slice p_a0 a0.length c_a0] 22), (35, .blk ((ν3 2).n 1) [.slice p_a1 a1.length c_a1] 22), (40, .blk ((ν9 0).n 0) [.int .i64 x4.Lo, .int .i64 x4.Hi] 40), (41, .blk ((ν10 0).n 0) [.int .i64 y5.Lo, .int .i64 y5.Hi] 40), (29, rdK 2 p_a0 a0.length (a0.flatMap en_TInterval)), (30, rdK 2 p_a1 a1.length (a1.flatMap en_TInterval)), (36, owK 40 2 p_x7 x7.length c_x7 (x7.flatMap en_TInterval)), (37, obK l oB), (38, obK D oD)] (by kernel_rfl)
    refine r_block ?_
    refine r_seq ?_
    replace G := bnd G; obtain ⟨t12, ht12, G⟩ := G
    refine r_reg mixed H (.cons [17] (ok_ld (fun ν11 => .agg #[.int .i64 x4.Lo, .int .i64 x4.Hi]) 17 40 0 2 (fun ν11 => ((ν9 0).n 0)) (fun ν11 => [.int .i64 x4.Lo, .int .i64 x4.Hi]) 40) <|
      .cons [18] (ok_ld (fun ν11 => .agg #[.int .i64 y5.Lo, .int .i64 y5.Hi]) 18 41 0 2 (fun ν11 => ((ν10 0).n 0)) (fun ν11 => [.int .i64 y5.Lo, .int .i64 y5.Hi]) 40) <|
      .cons [19] (ok_callv 54 (fun ν11 => #[.agg #[.int .i64 x4.Lo, .int .i64 x4.Hi], .agg #[.int .i64 y5.Lo, .int .i64 y5.Hi]]) (.tuple #[.agg #[.int .i64 t12.1.Lo, .int .i64 t12.1.Hi], .bool t12.2]) 19 [] (fun _ w _ => interval_Intersect.calls x4 y5 t12 w ht12)) <|
      .cons [16] (ok_val (fun ν11 => .tuple #[.agg #[.int .i64 t12.1.Lo, .int .i64 t12.1.Hi], .bool t12.2]) 16) <|
      .cons [20] (ok_val (fun ν11 => .agg #[.int .i64 t12.1.Lo, .int .i64 t12.1.Hi]) 20) <|
      .cons [21] (ok_val (fun ν11 => .bool t12.2) 21) <|
      .cons [9, 42] (ok_new (fun b => .pointer (some ⟨b, 0, none⟩)) (fun ν11 => [.int .i64 0, .int .i64 0]) 40 9 42) <|
      .cons [42] (ok_as (u' := fun ν11 => [(42, .blk ((ν11 6).n 0) [.int .i64 t12.1.Lo, .int .i64 t12.1.Hi] 40)]) (ok_store 42 0 (fun ν11 => ((ν11 6).n 0)) (fun ν11 => [.int .i64 0, .int .i64 0]) (fun ν11 => [.int .i64 t12.1.Lo, .int .i64 t12.1.Hi]) 40) (fun _ => by kernel_rfl)) <|
      .cons [10] (ok_val (fun ν11 => .bool t12.2) 10) <| .nil) (by kernel_rfl) (by kernel_rfl) fun ν11 a w' H => ?_
    replace H := H.toL [(4, .slot true (.pointer (some ⟨((ν1 0).n 0), 0, none⟩))), (5, .slot true (.pointer (some ⟨((ν1 1).n 0), 0, none⟩))), (6, .slot true (.pointer (some ⟨((ν2 0).n 0), 0, none⟩))), (9, .slot true (.pointer (some ⟨((ν11 6).n 0), 0, none⟩))), (10, .slot true (.bool t12.2)), (13, .slot true (.func (.func 91) #[] #[.pointer (some ⟨((ν3 2).n 0), 0, none⟩), .pointer (some ⟨((ν3 2).n 1), 0, none⟩)])), (31, .blk ((ν1 0).n 0) [.slice none 0 0] 22), (32, .blk ((ν1 1).n 0) [.bool false] 4), (33, .blk ((ν2 0).n 0) [.slice p_x7 x7.length c_x7] 22), (34, .blk ((ν3 2).n 0) [.slice p_a0 a0.length c_a0] 22), (35, .blk ((ν3 2).n 1) [.slice p_a1 a1.length c_a1] 22), (42, .blk ((ν11 6).n 0) [.int .i64 t12.1.Lo, .int .i64 t12.1.Hi] 40), (29, rdK 2 p_a0 a0.length (a0.flatMap en_TInterval)), (30, rdK 2 p_a1 a1.length (a1.flatMap en_TInterval)), (36, owK 40 2 p_x7 x7.length c_x7 (x7.flatMap en_TInterval)), (37, obK l oB), (38, obK D oD)] (by kernel_rfl)
    refine r_seq ?_
    refine r_seq ?_
    refine r_reg mixed H (.cons [22] (ok_val (fun ν13 => .bool t12.2) 22) <|
      .cons [23] (ok_val (fun ν13 => .bool (!t12.2)) 23) <| .nil) (by kernel_rfl) (by kernel_rfl) fun ν13 a w' H => ?_
    replace H := H.toL [(4, .slot true (.pointer (some ⟨((ν1 0).n 0), 0, none⟩))), (5, .slot true (.pointer (some ⟨((ν1 1).n 0), 0, none⟩))), (6, .slot true (.pointer (some ⟨((ν2 0).n 0), 0, none⟩))), (9, .slot true (.pointer (some ⟨((ν11 6).n 0), 0, none⟩))), (13, .slot true (.func (.func 91) #[] #[.pointer (some ⟨((ν3 2).n 0), 0, none⟩), .pointer (some ⟨((ν3 2).n 1), 0, none⟩)])), (23, .slot true (.bool (!t12.2))), (31, .blk ((ν1 0).n 0) [.slice none 0 0] 22), (32, .blk ((ν1 1).n 0) [.bool false] 4), (33, .blk ((ν2 0).n 0) [.slice p_x7 x7.length c_x7] 22), (34, .blk ((ν3 2).n 0) [.slice p_a0 a0.length c_a0] 22), (35, .blk ((ν3 2).n 1) [.slice p_a1 a1.length c_a1] 22), (42, .blk ((ν11 6).n 0) [.int .i64 t12.1.Lo, .int .i64 t12.1.Hi] 40), (29, rdK 2 p_a0 a0.length (a0.flatMap en_TInterval)), (30, rdK 2 p_a1 a1.length (a1.flatMap en_TInterval)), (36, owK 40 2 p_x7 x7.length c_x7 (x7.flatMap en_TInterval)), (37, obK l oB), (38, obK D oD)] (by kernel_rfl)
    refine r_cond H (by kernel_rfl) (t := (!t12.2)) (by kernel_rfl) (fun c17 => ?_) (fun c17 => ?_)
    · rw [if_pos c17] at G
      refine r_seq ?_
      refine r_reg mixed H (.cons [31] (ok_as (u' := fun ν14 => [(31, .blk ((ν1 0).n 0) [.slice none 0 0] 22)]) (ok_store 31 0 (fun ν14 => ((ν1 0).n 0)) (fun ν14 => [.slice none 0 0]) (fun ν14 => [.slice none 0 0]) 22) (fun _ => by kernel_rfl)) <|
      .cons [32] (ok_as (u' := fun ν14 => [(32, .blk ((ν1 1).n 0) [.bool false] 4)]) (ok_store 32 0 (fun ν14 => ((ν1 1).n 0)) (fun ν14 => [.bool false]) (fun ν14 => [.bool false]) 4) (fun _ => by kernel_rfl)) <| .nil) (by kernel_rfl) (by kernel_rfl) fun ν14 a w' H => ?_
      replace H := H.toL [(4, .slot true (.pointer (some ⟨((ν1 0).n 0), 0, none⟩))), (5, .slot true (.pointer (some ⟨((ν1 1).n 0), 0, none⟩))), (6, .slot true (.pointer (some ⟨((ν2 0).n 0), 0, none⟩))), (9, .slot true (.pointer (some ⟨((ν11 6).n 0), 0, none⟩))), (13, .slot true (.func (.func 91) #[] #[.pointer (some ⟨((ν3 2).n 0), 0, none⟩), .pointer (some ⟨((ν3 2).n 1), 0, none⟩)])), (31, .blk ((ν1 0).n 0) [.slice none 0 0] 22), (32, .blk ((ν1 1).n 0) [.bool false] 4), (33, .blk ((ν2 0).n 0) [.slice p_x7 x7.length c_x7] 22), (34, .blk ((ν3 2).n 0) [.slice p_a0 a0.length c_a0] 22), (35, .blk ((ν3 2).n 1) [.slice p_a1 a1.length c_a1] 22), (42, .blk ((ν11 6).n 0) [.int .i64 t12.1.Lo, .int .i64 t12.1.Hi] 40), (29, rdK 2 p_a0 a0.length (a0.flatMap en_TInterval)), (30, rdK 2 p_a1 a1.length (a1.flatMap en_TInterval)), (36, owK 40 2 p_x7 x7.length c_x7 (x7.flatMap en_TInterval)), (37, obK l oB), (38, obK D oD)] (by kernel_rfl)
      refine r_ret ?_
      obtain rfl := Option.some.inj G
      replace H := H.nil_row 39 40 2
      exact ⟨[(31, .blk ((ν1 0).n 0) [.slice none ([] : List TInterval).length 0] 22), (32, .blk ((ν1 1).n 0) [.bool false] 4), (39, owK 40 2 none ([] : List TInterval).length 0 (([] : List TInterval).flatMap en_TInterval))], ⟨none, 0, rfl⟩, by kernel_rfl, H.toL _ (by kernel_rfl)⟩
    · rw [if_neg (nt c17)] at G
      refine r_skip ?_
      replace G := gd G; obtain ⟨b16, G⟩ := G
      refine r_reg mixed H (.cons [24] (ok_ld (fun ν15 => .slice p_x7 x7.length c_x7) 24 33 0 1 (fun ν15 => ((ν2 0).n 0)) (fun ν15 => [.slice p_x7 x7.length c_x7]) 22) <|
      .cons [25] (ok_ld (fun ν15 => .agg #[.int .i64 t12.1.Lo, .int .i64 t12.1.Hi]) 25 42 0 2 (fun ν15 => ((ν11 6).n 0)) (fun ν15 => [.int .i64 t12.1.Lo, .int .i64 t12.1.Hi]) 40) <|
      .cons [26, 43] (ok_new (fun b => .slice (some ⟨b, 0, none⟩) 1 1) (fun ν15 => [.int .i64 t12.1.Lo, .int .i64 t12.1.Hi]) 40 26 43) <|
      .cons [27, 36] (ok_rowL [36, 43] (fun ν15 => [owK 40 2 p_x7 x7.length c_x7 (x7.flatMap en_TInterval), .blk ((ν15 2).n 0) [.int .i64 t12.1.Lo, .int .i64 t12.1.Hi] 40]) 40 2 (x7 ++ [(⟨t12.1.Lo, t12.1.Hi⟩ : TInterval)]).length ((x7 ++ [(⟨t12.1.Lo, t12.1.Hi⟩ : TInterval)]).flatMap en_TInterval) 27 36 (fun ν15 => owK 40 2 p_x7 x7.length c_x7 (x7.flatMap en_TInterval)) (fun ν15 w hF => run_app_row (t := 22) (ty := 22) (en := en_TInterval) en_TInterval_len inf40 (ow_of hF.1) hF.2.1 (news := [(⟨t12.1.Lo, t12.1.Hi⟩ : TInterval)]) rfl (by simp) (by kernel_rfl) b16) (fun _ => .inr trivial)) <|
      .cons [33] (ok_as (u' := fun ν15 => [(33, .blk ((ν2 0).n 0) [.slice ((ν15 3).o 0) (x7 ++ [(⟨t12.1.Lo, t12.1.Hi⟩ : TInterval)]).length ((ν15 3).n 0)] 22)]) (ok_store 33 0 (fun ν15 => ((ν2 0).n 0)) (fun ν15 => [.slice p_x7 x7.length c_x7]) (fun ν15 => [.slice ((ν15 3).o 0) (x7 ++ [(⟨t12.1.Lo, t12.1.Hi⟩ : TInterval)]).length ((ν15 3).n 0)]) 22) (fun _ => by kernel_rfl)) <| .nil) (by kernel_rfl) (by kernel_rfl) fun ν15 a w' H => ?_
      replace H := H.toL [(4, .slot true (.pointer (some ⟨((ν1 0).n 0), 0, none⟩))), (5, .slot true (.pointer (some ⟨((ν1 1).n 0), 0, none⟩))), (6, .slot true (.pointer (some ⟨((ν2 0).n 0), 0, none⟩))), (13, .slot true (.func (.func 91) #[] #[.pointer (some ⟨((ν3 2).n 0), 0, none⟩), .pointer (some ⟨((ν3 2).n 1), 0, none⟩)])), (31, .blk ((ν1 0).n 0) [.slice none 0 0] 22), (32, .blk ((ν1 1).n 0) [.bool false] 4), (33, .blk ((ν2 0).n 0) [.slice ((ν15 3).o 0) (x7 ++ [(⟨t12.1.Lo, t12.1.Hi⟩ : TInterval)]).length ((ν15 3).n 0)] 22), (34, .blk ((ν3 2).n 0) [.slice p_a0 a0.length c_a0] 22), (35, .blk ((ν3 2).n 1) [.slice p_a1 a1.length c_a1] 22), (29, rdK 2 p_a0 a0.length (a0.flatMap en_TInterval)), (30, rdK 2 p_a1 a1.length (a1.flatMap en_TInterval)), (36, owK 40 2 ((ν15 3).o 0) (x7 ++ [(⟨t12.1.Lo, t12.1.Hi⟩ : TInterval)]).length ((ν15 3).n 0) ((x7 ++ [(⟨t12.1.Lo, t12.1.Hi⟩ : TInterval)]).flatMap en_TInterval)), (37, obK l oB), (38, obK D oD)] (by kernel_rfl)
      exact ⟨[(31, .blk ((ν1 0).n 0) [.slice none 0 0] 22), (32, .blk ((ν1 1).n 0) [.bool false] 4), (33, .blk ((ν2 0).n 0) [.slice ((ν15 3).o 0) (x7 ++ [(⟨t12.1.Lo, t12.1.Hi⟩ : TInterval)]).length ((ν15 3).n 0)] 22), (34, .blk ((ν3 2).n 0) [.slice p_a0 a0.length c_a0] 22), (35, .blk ((ν3 2).n 1) [.slice p_a1 a1.length c_a1] 22), (29, rdK 2 p_a0 a0.length (a0.flatMap en_TInterval)), (30, rdK 2 p_a1 a1.length (a1.flatMap en_TInterval)), (36, owK 40 2 ((ν15 3).o 0) (x7 ++ [(⟨t12.1.Lo, t12.1.Hi⟩ : TInterval)]).length ((ν15 3).n 0) ((x7 ++ [(⟨t12.1.Lo, t12.1.Hi⟩ : TInterval)]).flatMap en_TInterval))], ⟨_, ((ν15 3).o 0), ((ν15 3).n 0), G, rfl⟩, by kernel_rfl, H.toL _ (by kernel_rfl)⟩
  · clear H G; rintro D L W ⟨x7, p_x7, c_x7, G, rfl⟩ H
    unfold box_Intersect.l8 at G
    replace H := H.toL [(4, .slot true (.pointer (some ⟨((ν1 0).n 0), 0, none⟩))), (5, .slot true (.pointer (some ⟨((ν1 1).n 0), 0, none⟩))), (6, .slot true (.pointer (some ⟨((ν2 0).n 0), 0, none⟩))), (13, .slot true (.func (.func 91) #[] #[.pointer (some ⟨((ν3 2).n 0), 0, none⟩), .pointer (some ⟨((ν3 2).n 1), 0, none⟩)])), (31, .blk ((ν1 0).n 0) [.slice none 0 0] 22), (32, .blk ((ν1 1).n 0) [.bool false] 4), (33, .blk ((ν2 0).n 0) [.slice p_x7 x7.length c_x7] 22), (34, .blk ((ν3 2).n 0) [.slice p_a0 a0.length c_a0] 22), (35, .blk ((ν3 2).n 1) [.slice p_a1 a1.length c_a1] 22), (29, rdK 2 p_a0 a0.length (a0.flatMap en_TInterval)), (30, rdK 2 p_a1 a1.length (a1.flatMap en_TInterval)), (36, owK 40 2 p_x7 x7.length c_x7 (x7.flatMap en_TInterval)), (38, obK D (.deferred (some [])))] (by kernel_rfl)
    refine k_after ?_
    refine r_seq ?_
    refine r_reg mixed H (.cons [28] (ok_ld (fun ν18 => .slice p_x7 x7.length c_x7) 28 33 0 1 (fun ν18 => ((ν2 0).n 0)) (fun ν18 => [.slice p_x7 x7.length c_x7]) 22) <|
      .cons [31] (ok_as (u' := fun ν18 => [(31, .blk ((ν1 0).n 0) [.slice p_x7 x7.length c_x7] 22)]) (ok_store 31 0 (fun ν18 => ((ν1 0).n 0)) (fun ν18 => [.slice none 0 0]) (fun ν18 => [.slice p_x7 x7.length c_x7]) 22) (fun _ => by kernel_rfl)) <|
      .cons [32] (ok_as (u' := fun ν18 => [(32, .blk ((ν1 1).n 0) [.bool true] 4)]) (ok_store 32 0 (fun ν18 => ((ν1 1).n 0)) (fun ν18 => [.bool false]) (fun ν18 => [.bool true]) 4) (fun _ => by kernel_rfl)) <| .nil) (by kernel_rfl) (by kernel_rfl) fun ν18 a w' H => ?_
    replace H := H.toL [(4, .slot true (.pointer (some ⟨((ν1 0).n 0), 0, none⟩))), (5, .slot true (.pointer (some ⟨((ν1 1).n 0), 0, none⟩))), (31, .blk ((ν1 0).n 0) [.slice p_x7 x7.length c_x7] 22), (32, .blk ((ν1 1).n 0) [.bool true] 4), (36, owK 40 2 p_x7 x7.length c_x7 (x7.flatMap en_TInterval)), (38, obK D (.deferred (some [])))] (by kernel_rfl)
    refine r_ret ?_
    obtain rfl := Option.some.inj G
    refine k_mark 38 H (by kernel_rfl) fun w' H => ?_
    exact k_doneR H (fun p cap => .tuple #[.slice p x7.length cap, .bool true]) p_x7 c_x7 [(31, ⟨((ν1 0).n 0), [.slice p_x7 x7.length c_x7], 0, 1⟩), (32, ⟨((ν1 1).n 0), [.bool true], 0, 1⟩)] 36 40 2 x7.length (x7.flatMap en_TInterval) (by kernel_rfl) (by kernel_rfl) (by intro p hp; simp only [List.mem_cons, List.not_mem_nil, or_false] at hp; rcases hp with rfl | rfl; exact ⟨⟨22, by kernel_rfl⟩, by kernel_rfl⟩; exact ⟨⟨4, by kernel_rfl⟩, by kernel_rfl⟩) (by kernel_rfl)
  · clear H G; rintro D L W ⟨p_r0, c_r0, rfl⟩ H
    replace H := H.toL [(4, .slot true (.pointer (some ⟨((ν1 0).n 0), 0, none⟩))), (5, .slot true (.pointer (some ⟨((ν1 1).n 0), 0, none⟩))), (31, .blk ((ν1 0).n 0) [.slice p_r0 r.1.length c_r0] 22), (32, .blk ((ν1 1).n 0) [.bool r.2] 4), (39, owK 40 2 p_r0 r.1.length c_r0 (r.1.flatMap en_TInterval)), (38, obK D (.deferred (some [])))] (by kernel_rfl)
    refine k_mark 38 H (by kernel_rfl) fun w' H => ?_
    exact k_doneR H (fun p cap => .tuple #[.slice p r.1.length cap, .bool r.2]) p_r0 c_r0 [(31, ⟨((ν1 0).n 0), [.slice p_r0 r.1.length c_r0], 0, 1⟩), (32, ⟨((ν1 1).n 0), [.bool r.2], 0, 1⟩)] 39 40 2 r.1.length (r.1.flatMap en_TInterval) (by kernel_rfl) (by kernel_rfl) (by intro p hp; simp only [List.mem_cons, List.not_mem_nil, or_false] at hp; rcases hp with rfl | rfl; exact ⟨⟨22, by kernel_rfl⟩, by kernel_rfl⟩; exact ⟨⟨4, by kernel_rfl⟩, by kernel_rfl⟩) (by kernel_rfl)

set_option maxHeartbeats 4000000 in
theorem interval_Entire.calls (r : TInterval) (w : World) (G : interval_Entire = some r) :
    Calls Try.prog 88 #[] w fun e w' => e = .returned (.agg #[.int .i64 r.Lo, .int .i64 r.Hi]) ∧ Below w.heap.size w w' := by
  refine k_enter (args := []) 2 Try.func88 rfl (by kernel_rfl) (by kernel_rfl) fun a H => ?_
  unfold interval_Entire at G
  refine k_seq ?_
  refine k_reg mixed H (.cons [0, 2] (ok_new (fun b => .pointer (some ⟨b, 0, none⟩)) (fun ν1 => [.int .i64 0, .int .i64 0]) 40 0 2) <| .nil) (by kernel_rfl) fun ν1 a w' H => ?_
  replace H := H.toL [(0, .slot true (.pointer (some ⟨((ν1 0).n 0), 0, none⟩))), (2, .blk ((ν1 0).n 0) [.int .i64 0, .int .i64 0] 40)] (by kernel_rfl)
  refine k_seq ?_
  refine k_reg mixed H (.cons [1] (ok_val (fun ν2 => .agg #[.int .i64 (-2147483648), .int .i64 2147483648]) 1) <|
      .cons [2] (ok_as (u' := fun ν2 => [(2, .blk ((ν1 0).n 0) [.int .i64 (-2147483648), .int .i64 2147483648] 40)]) (ok_store 2 0 (fun ν2 => ((ν1 0).n 0)) (fun ν2 => [.int .i64 0, .int .i64 0]) (fun ν2 => [.int .i64 (-2147483648), .int .i64 2147483648]) 40) (fun _ => by kernel_rfl)) <| .nil) (by kernel_rfl) fun ν2 a w' H => ?_
  replace H := H.toL [(0, .slot true (.pointer (some ⟨((ν1 0).n 0), 0, none⟩))), (2, .blk ((ν1 0).n 0) [.int .i64 (-2147483648), .int .i64 2147483648] 40)] (by kernel_rfl)
  refine k_ret ?_
  obtain rfl := Option.some.inj G
  exact k_done1 H _ 2 ((ν1 0).n 0) [.int .i64 (-2147483648), .int .i64 2147483648] 40 0 2 (by kernel_rfl) (by kernel_rfl) (by kernel_rfl) (by kernel_rfl)

set_option maxHeartbeats 4000000 in
theorem interval_IsEntire.calls (a0 : TInterval) (r : Bool) (w : World) (G : interval_IsEntire a0 = some r) :
    Calls Try.prog 48 #[.agg #[.int .i64 a0.Lo, .int .i64 a0.Hi]] w fun e w' => e = .returned (.bool r) ∧ Below w.heap.size w w' := by
  refine k_enter (args := [.agg #[.int .i64 a0.Lo, .int .i64 a0.Hi]]) 6 Try.func48 rfl (by kernel_rfl) (by kernel_rfl) fun a H => ?_
  unfold interval_IsEntire at G
  refine k_seq ?_
  refine k_reg mixed H (.cons [1, 6] (ok_new (fun b => .pointer (some ⟨b, 0, none⟩)) (fun ν1 => [.int .i64 a0.Lo, .int .i64 a0.Hi]) 40 1 6) <|
      .cons [2] (ok_val (fun ν1 => .bool false) 2) <| .nil) (by kernel_rfl) fun ν1 a w' H => ?_
  replace H := H.toL [(1, .slot true (.pointer (some ⟨((ν1 0).n 0), 0, none⟩))), (2, .slot true (.bool false)), (6, .blk ((ν1 0).n 0) [.int .i64 a0.Lo, .int .i64 a0.Hi] 40)] (by kernel_rfl)
  refine k_seq ?_
  replace G := bnd G; obtain ⟨t3, ht3, G⟩ := G
  refine k_reg mixed H (.cons [3] (ok_ld (fun ν2 => .agg #[.int .i64 a0.Lo, .int .i64 a0.Hi]) 3 6 0 2 (fun ν2 => ((ν1 0).n 0)) (fun ν2 => [.int .i64 a0.Lo, .int .i64 a0.Hi]) 40) <|
      .cons [4] (ok_callv 88 (fun ν2 => #[]) (.agg #[.int .i64 t3.Lo, .int .i64 t3.Hi]) 4 [] (fun _ w _ => interval_Entire.calls  t3 w ht3)) <|
      .cons [5] (ok_val (fun ν2 => .bool ((a0.Lo == t3.Lo) && ((a0.Hi == t3.Hi) && true))) 5 (hv := fun _ _ => run_of (by kernel_rfl) (run_eql_agg (t := 40) (x := (.tmp 3)) (y := (.tmp 4)) (xs := #[.int .i64 a0.Lo, .int .i64 a0.Hi]) (ys := #[.int .i64 t3.Lo, .int .i64 t3.Hi]) (b := ((a0.Lo == t3.Lo) && ((a0.Hi == t3.Hi) && true))) (by kernel_rfl) (by kernel_rfl)))) <|
      .cons [2] (ok_val (fun ν2 => .bool ((a0.Lo == t3.Lo) && ((a0.Hi == t3.Hi) && true))) 2) <| .nil) (by kernel_rfl) fun ν2 a w' H => ?_
  replace H := H.toL [(2, .slot true (.bool ((a0.Lo == t3.Lo) && ((a0.Hi == t3.Hi) && true))))] (by kernel_rfl)
  refine k_ret ?_
  obtain rfl := Option.some.inj G
  exact k_done0 H _ (by kernel_rfl) (by kernel_rfl)

set_option maxHeartbeats 4000000 in
theorem fixed_Valid.calls (a0 : Int) (r : Bool) (w : World) (G : fixed_Valid a0 = some r) :
    Calls Try.prog 87 #[.int .i64 a0] w fun e w' => e = .returned (.bool r) ∧ Below w.heap.size w w' := by
  refine k_enter (args := [.int .i64 a0]) 9 Try.func87 rfl (by kernel_rfl) (by kernel_rfl) fun a H => ?_
  unfold fixed_Valid at G
  refine k_seq ?_
  refine k_reg mixed H (.cons [2] (ok_val (fun ν1 => .bool false) 2) <| .nil) (by kernel_rfl) fun ν1 a w' H => ?_
  replace H := H.toL [(0, .slot true (.int .i64 a0)), (2, .slot true (.bool false))] (by kernel_rfl)
  refine k_seq ?_
  refine k_reg mixed H (.cons [3] (ok_val (fun ν2 => .int .i64 a0) 3) <|
      .cons [4] (ok_val (fun ν2 => .bool (decide ((-2147483648) < a0))) 4) <|
      .cons [5] (ok_val (fun ν2 => .bool (decide ((-2147483648) < a0))) 5) <|
      .cons [6] (ok_valg (fun ν2 => .int .i64 a0) (fun ν2 => ((decide ((-2147483648) < a0)) == true)) [true] 6) <|
      .cons [7] (ok_valg (fun ν2 => .bool (decide (a0 < 2147483648))) (fun ν2 => ((decide ((-2147483648) < a0)) == true)) [false, true] 7) <|
      .cons [8] (ok_and 5 7 (fun ν2 => true) (fun ν2 => true) (fun ν2 => decide ((-2147483648) < a0)) (fun ν2 => decide (a0 < 2147483648)) 8) <|
      .cons [2] (ok_val (fun ν2 => .bool ((decide ((-2147483648) < a0)) && (decide (a0 < 2147483648)))) 2) <| .nil) (by kernel_rfl) fun ν2 a w' H => ?_
  replace H := H.toL [(2, .slot true (.bool ((decide ((-2147483648) < a0)) && (decide (a0 < 2147483648)))))] (by kernel_rfl)
  refine k_ret ?_
  obtain rfl := Option.some.inj G
  exact k_done0 H _ (by kernel_rfl) (by kernel_rfl)

set_option maxHeartbeats 4000000 in
theorem interval_Valid.calls (a0 : TInterval) (r : Bool) (w : World) (G : interval_Valid a0 = some r) :
    Calls Try.prog 47 #[.agg #[.int .i64 a0.Lo, .int .i64 a0.Hi]] w fun e w' => e = .returned (.bool r) ∧ Below w.heap.size w w' := by
  refine k_enter (args := [.agg #[.int .i64 a0.Lo, .int .i64 a0.Hi]]) 22 Try.func47 rfl (by kernel_rfl) (by kernel_rfl) fun a H => ?_
  unfold interval_Valid at G
  refine k_seq ?_
  refine k_reg mixed H (.cons [1, 22] (ok_new (fun b => .pointer (some ⟨b, 0, none⟩)) (fun ν1 => [.int .i64 a0.Lo, .int .i64 a0.Hi]) 40 1 22) <|
      .cons [2] (ok_val (fun ν1 => .bool false) 2) <| .nil) (by kernel_rfl) fun ν1 a w' H => ?_
  replace H := H.toL [(1, .slot true (.pointer (some ⟨((ν1 0).n 0), 0, none⟩))), (2, .slot true (.bool false)), (22, .blk ((ν1 0).n 0) [.int .i64 a0.Lo, .int .i64 a0.Hi] 40)] (by kernel_rfl)
  refine k_seq ?_
  replace G := bnd G; obtain ⟨t3, ht3, G⟩ := G
  replace G := bnd G; obtain ⟨t4, ht4, G⟩ := G
  replace G := bnd G; obtain ⟨t5, ht5, G⟩ := G
  refine k_reg mixed H (.cons [3] (ok_ld (fun ν2 => .agg #[.int .i64 a0.Lo, .int .i64 a0.Hi]) 3 22 0 2 (fun ν2 => ((ν1 0).n 0)) (fun ν2 => [.int .i64 a0.Lo, .int .i64 a0.Hi]) 40) <|
      .cons [4] (ok_callv 48 (fun ν2 => #[.agg #[.int .i64 a0.Lo, .int .i64 a0.Hi]]) (.bool t3) 4 [] (fun _ w _ => interval_IsEntire.calls a0 t3 w ht3)) <|
      .cons [5] (ok_val (fun ν2 => .bool t3) 5) <|
      .cons [6] (ok_valg (fun ν2 => .pointer (some ⟨((ν1 0).n 0), 0, none⟩)) (fun ν2 => (t3 == false)) [true] 6) <|
      .cons [7] (ok_ldg (fun ν2 => .int .i64 a0.Lo) (fun ν2 => (t3 == false)) [false] 7 22 0 1 (fun ν2 => ((ν1 0).n 0)) (fun ν2 => [.int .i64 a0.Lo, .int .i64 a0.Hi]) 40) <|
      .cons [8] (ok_call 87 (fun ν2 => #[.int .i64 a0.Lo]) (.bool t4) (fun ν2 => (t3 == false)) [true, false] 8 [] (fun _ w hg _ => fixed_Valid.calls a0.Lo t4 w (ifp ht4 hg))) <|
      .cons [9] (ok_valg (fun ν2 => .bool t4) (fun ν2 => (t3 == false)) [false] 9) <|
      .cons [10] (ok_valg (fun ν2 => .pointer (some ⟨((ν1 0).n 0), 1, none⟩)) (fun ν2 => ((t3 == false) && (t4 == true))) [true] 10) <|
      .cons [11] (ok_ldg (fun ν2 => .int .i64 a0.Hi) (fun ν2 => ((t3 == false) && (t4 == true))) [false] 11 22 1 1 (fun ν2 => ((ν1 0).n 0)) (fun ν2 => [.int .i64 a0.Lo, .int .i64 a0.Hi]) 40) <|
      .cons [12] (ok_call 87 (fun ν2 => #[.int .i64 a0.Hi]) (.bool t5) (fun ν2 => ((t3 == false) && (t4 == true))) [true, false] 12 [] (fun _ w hg _ => fixed_Valid.calls a0.Hi t5 w (ifp ht5 hg))) <|
      .cons [13] (ok_and 9 12 (fun ν2 => (t3 == false)) (fun ν2 => (t3 == false)) (fun ν2 => t4) (fun ν2 => t5) 13) <|
      .cons [14] (ok_valg (fun ν2 => .bool (t4 && t5)) (fun ν2 => (t3 == false)) [false] 14) <|
      .cons [15] (ok_valg (fun ν2 => .pointer (some ⟨((ν1 0).n 0), 0, none⟩)) (fun ν2 => ((t3 == false) && ((t4 && t5) == true))) [true] 15) <|
      .cons [16] (ok_ldg (fun ν2 => .int .i64 a0.Lo) (fun ν2 => ((t3 == false) && ((t4 && t5) == true))) [false] 16 22 0 1 (fun ν2 => ((ν1 0).n 0)) (fun ν2 => [.int .i64 a0.Lo, .int .i64 a0.Hi]) 40) <|
      .cons [17] (ok_valg (fun ν2 => .pointer (some ⟨((ν1 0).n 0), 1, none⟩)) (fun ν2 => ((t3 == false) && ((t4 && t5) == true))) [true] 17) <|
      .cons [18] (ok_ldg (fun ν2 => .int .i64 a0.Hi) (fun ν2 => ((t3 == false) && ((t4 && t5) == true))) [false] 18 22 1 1 (fun ν2 => ((ν1 0).n 0)) (fun ν2 => [.int .i64 a0.Lo, .int .i64 a0.Hi]) 40) <|
      .cons [19] (ok_valg (fun ν2 => .bool (decide (a0.Lo ≤ a0.Hi))) (fun ν2 => ((t3 == false) && ((t4 && t5) == true))) [false, false] 19) <|
      .cons [20] (ok_and 14 19 (fun ν2 => (t3 == false)) (fun ν2 => (t3 == false)) (fun ν2 => (t4 && t5)) (fun ν2 => decide (a0.Lo ≤ a0.Hi)) 20) <|
      .cons [21] (ok_or 5 20 (fun ν2 => true) (fun ν2 => true) (fun ν2 => t3) (fun ν2 => ((t4 && t5) && (decide (a0.Lo ≤ a0.Hi)))) 21) <|
      .cons [2] (ok_val (fun ν2 => .bool (t3 || ((t4 && t5) && (decide (a0.Lo ≤ a0.Hi))))) 2) <| .nil) (by kernel_rfl) fun ν2 a w' H => ?_
  replace H := H.toL [(2, .slot true (.bool (t3 || ((t4 && t5) && (decide (a0.Lo ≤ a0.Hi))))))] (by kernel_rfl)
  refine k_ret ?_
  obtain rfl := Option.some.inj G
  exact k_done0 H _ (by kernel_rfl) (by kernel_rfl)

set_option maxHeartbeats 4000000 in
theorem box_Valid_1.calls (a0 : TInterval) (r : Bool) (w : World) (G : box_Valid_1 a0 = some r) :
    Calls Try.prog 56 #[.agg #[.int .i64 a0.Lo, .int .i64 a0.Hi]] w fun e w' => e = .returned (.bool r) ∧ Below w.heap.size w w' := by
  refine k_enter (args := [.agg #[.int .i64 a0.Lo, .int .i64 a0.Hi]]) 6 Try.func56 rfl (by kernel_rfl) (by kernel_rfl) fun a H => ?_
  unfold box_Valid_1 at G
  refine k_seq ?_
  refine k_reg mixed H (.cons [1, 6] (ok_new (fun b => .pointer (some ⟨b, 0, none⟩)) (fun ν1 => [.int .i64 a0.Lo, .int .i64 a0.Hi]) 40 1 6) <|
      .cons [2] (ok_val (fun ν1 => .bool false) 2) <| .nil) (by kernel_rfl) fun ν1 a w' H => ?_
  replace H := H.toL [(1, .slot true (.pointer (some ⟨((ν1 0).n 0), 0, none⟩))), (2, .slot true (.bool false)), (6, .blk ((ν1 0).n 0) [.int .i64 a0.Lo, .int .i64 a0.Hi] 40)] (by kernel_rfl)
  refine k_seq ?_
  replace G := bnd G; obtain ⟨t3, ht3, G⟩ := G
  refine k_reg mixed H (.cons [3] (ok_ld (fun ν2 => .agg #[.int .i64 a0.Lo, .int .i64 a0.Hi]) 3 6 0 2 (fun ν2 => ((ν1 0).n 0)) (fun ν2 => [.int .i64 a0.Lo, .int .i64 a0.Hi]) 40) <|
      .cons [4] (ok_callv 47 (fun ν2 => #[.agg #[.int .i64 a0.Lo, .int .i64 a0.Hi]]) (.bool t3) 4 [] (fun _ w _ => interval_Valid.calls a0 t3 w ht3)) <|
      .cons [5] (ok_val (fun ν2 => .bool (!t3)) 5) <|
      .cons [2] (ok_val (fun ν2 => .bool (!t3)) 2) <| .nil) (by kernel_rfl) fun ν2 a w' H => ?_
  replace H := H.toL [(2, .slot true (.bool (!t3)))] (by kernel_rfl)
  refine k_ret ?_
  obtain rfl := Option.some.inj G
  exact k_done0 H _ (by kernel_rfl) (by kernel_rfl)

set_option maxHeartbeats 4000000 in
theorem api_Interval_93_s56.calls (k0 : Nat) (a0 : List TInterval) (p_a0 : Option Addr) (c_a0 : Nat) (r : Int) (w : World) (R_p_a0 : RowAt w 2 p_a0 a0.length (a0.flatMap en_TInterval)) (G : api_Interval_93_s56 k0 a0 = some r) :
    Calls Try.prog 93 #[.slice p_a0 a0.length c_a0, .func (.func 56) #[] #[]] w fun e w' => e = .returned (.int .i64 r) ∧ Below w.heap.size w w' := by
  refine k_enterF (args := [.slice p_a0 a0.length c_a0, .func (.func 56) #[] #[]]) 19 [(19, rdK 2 p_a0 a0.length (a0.flatMap en_TInterval))] (by
    intro x hx
    simp only [List.mem_cons, List.not_mem_nil, or_false] at hx
    rcases hx with rfl
    exact rd_fact R_p_a0 (by decide) _) Try.func93 rfl (by kernel_rfl) (by kernel_rfl) fun a H => ?_
  unfold api_Interval_93_s56 at G
  refine k_seq ?_
  refine k_reg mixed H (.cons [4] (ok_val (fun ν1 => .int .i64 0) 4) <| .nil) (by kernel_rfl) fun ν1 a w' H => ?_
  replace H := H.toL [(0, .slot true (.slice p_a0 a0.length c_a0)), (1, .slot true (.func (.func 56) #[] #[])), (4, .slot true (.int .i64 0)), (19, rdK 2 p_a0 a0.length (a0.flatMap en_TInterval))] (by kernel_rfl)
  refine k_seq ?_
  replace G := bnd G; obtain ⟨j2, hj2, Gj2⟩ := G
  refine k_join (fun a w' => ∃ j2v, j2 = Sum.inr j2v ∧ Rep w.heap.size w 19 (ofL [(4, .slot true (.int .i64 0))]) a w') ?_ ?_
  · clear H; rintro a w' ⟨j2v, rfl, H⟩; have G := Gj2; clear Gj2; dsimp only at G
    refine k_seq ?_
    refine k_reg mixed H (.cons [4] (ok_val (fun ν3 => .int .i64 (-1)) 4) <| .nil) (by kernel_rfl) fun ν3 a w' H => ?_
    replace H := H.toL [(4, .slot true (.int .i64 (-1)))] (by kernel_rfl)
    refine k_ret ?_
    obtain rfl := Option.some.inj G
    exact k_done0 H _ (by kernel_rfl) (by kernel_rfl)
  · have G := hj2; clear hj2
    refine k_seq ?_
    refine k_reg mixed H (.cons [6] (ok_val (fun ν4 => .slice p_a0 a0.length c_a0) 6) <|
      .cons [7] (ok_val (fun ν4 => .int .i64 (a0.length : Int)) 7) <|
      .cons [8] (ok_val (fun ν4 => .int .i64 0) 8) <| .nil) (by kernel_rfl) fun ν4 a w' H => ?_
    replace H := H.toL [(0, .slot true (.slice p_a0 a0.length c_a0)), (1, .slot true (.func (.func 56) #[] #[])), (4, .slot true (.int .i64 0)), (7, .slot true (.int .i64 (a0.length : Int))), (8, .slot true (.int .i64 0)), (19, rdK 2 p_a0 a0.length (a0.flatMap en_TInterval))] (by kernel_rfl)
    refine k_block ?_
    refine k_loopJ (fun m a w' => ∃ x5 : Int, api_Interval_93_s56.l6 k0 a0 m x5 = some j2 ∧ Rep w.heap.size w 19 (ofL [(0, .slot true (.slice p_a0 a0.length c_a0)), (1, .slot true (.func (.func 56) #[] #[])), (4, .slot true (.int .i64 0)), (7, .slot true (.int .i64 (a0.length : Int))), (8, .slot true (.int .i64 x5)), (19, rdK 2 p_a0 a0.length (a0.flatMap en_TInterval))]) a w') k0 ⟨_, G, H.toL _ (by kernel_rfl)⟩ ?_
    clear G H
    rintro (_ | k) a w' ⟨x5, G, H⟩
    · exact absurd G (by unfold api_Interval_93_s56.l6; exact fun h => by cases h)
    · unfold api_Interval_93_s56.l6 at G
      refine k_seq ?_
      refine k_reg mixed H (.cons [9] (ok_val (fun ν7 => .bool (decide (x5 < (a0.length : Int)))) 9) <| .nil) (by kernel_rfl) fun ν7 a w' H => ?_
      replace H := H.toL [(0, .slot true (.slice p_a0 a0.length c_a0)), (1, .slot true (.func (.func 56) #[] #[])), (4, .slot true (.int .i64 0)), (7, .slot true (.int .i64 (a0.length : Int))), (8, .slot true (.int .i64 x5)), (9, .slot true (.bool (decide (x5 < (a0.length : Int))))), (19, rdK 2 p_a0 a0.length (a0.flatMap en_TInterval))] (by kernel_rfl)
      refine k_seq ?_
      refine k_cond H (by kernel_rfl) (t := decide (x5 < (a0.length : Int))) (by kernel_rfl) (fun c16 => ?_) (fun c16 => ?_)
      · rw [if_pos c16] at G
        refine k_skip ?_
        refine k_seq ?_
        refine k_block ?_
        refine k_seq ?_
        refine k_reg mixed H (.cons [10] (ok_val (fun ν8 => .int .i64 x5) 10) <|
      .cons [5] (ok_val (fun ν8 => .int .i64 x5) 5) <| .nil) (by kernel_rfl) fun ν8 a w' H => ?_
        replace H := H.toL [(0, .slot true (.slice p_a0 a0.length c_a0)), (1, .slot true (.func (.func 56) #[] #[])), (4, .slot true (.int .i64 0)), (5, .slot true (.int .i64 x5)), (7, .slot true (.int .i64 (a0.length : Int))), (8, .slot true (.int .i64 x5)), (9, .slot true (.bool (decide (x5 < (a0.length : Int))))), (10, .slot true (.int .i64 x5)), (19, rdK 2 p_a0 a0.length (a0.flatMap en_TInterval))] (by kernel_rfl)
        refine k_seq ?_
        replace G := gd G; obtain ⟨b10, G⟩ := G
        replace G := bnd G; obtain ⟨t11, ht11, G⟩ := G
        replace G := bnd G; obtain ⟨t12, ht12, G⟩ := G
        refine k_reg mixed H (.cons [11] (ok_val (fun ν9 => .func (.func 56) #[] #[]) 11) <|
      .cons [12] (ok_val (fun ν9 => .slice p_a0 a0.length c_a0) 12) <|
      .cons [13] (ok_val (fun ν9 => .int .i64 x5) 13) <|
      .cons [14] (ok_valL [19] (fun ν9 => [rdK 2 p_a0 a0.length (a0.flatMap en_TInterval)]) (fun ν9 => .pointer (some ⟨hdB p_a0, hdO p_a0 + x5.toNat * 2, none⟩)) (fun ν9 => true) [true, true] 14 (fun ν9 w hg hF => run_of (by kernel_rfl) (run_ix (t := 22) (p := p_a0) (n := a0.length) (cap := c_a0) (k := .i64) (i := x5) (sz := 2) (by kernel_rfl) (by kernel_rfl) (rd_of hF.1) b10))) <|
      .cons [15] (ok_valL [19] (fun ν9 => [rdK 2 p_a0 a0.length (a0.flatMap en_TInterval)]) (fun ν9 => .agg #[.int .i64 t11.Lo, .int .i64 t11.Hi]) (fun ν9 => true) [true] 15 (fun ν9 w hg hF => ld_of (vs := [.int .i64 t11.Lo, .int .i64 t11.Hi]) (b := hdB p_a0) (off := hdO p_a0 + x5.toNat * 2 + 0) (m := 2) (by kernel_rfl) (el_cells (rd_of hF.1) en_TInterval_len ht11 0 2 rfl))) <|
      .cons [16] (ok_callv 56 (fun ν9 => #[.agg #[.int .i64 t11.Lo, .int .i64 t11.Hi]]) (.bool t12) 16 [] (fun _ w _ => box_Valid_1.calls t11 t12 w ht12)) <| .nil) (by kernel_rfl) fun ν9 a w' H => ?_
        replace H := H.toL [(0, .slot true (.slice p_a0 a0.length c_a0)), (1, .slot true (.func (.func 56) #[] #[])), (4, .slot true (.int .i64 0)), (5, .slot true (.int .i64 x5)), (7, .slot true (.int .i64 (a0.length : Int))), (8, .slot true (.int .i64 x5)), (9, .slot true (.bool (decide (x5 < (a0.length : Int))))), (10, .slot true (.int .i64 x5)), (11, .slot true (.func (.func 56) #[] #[])), (12, .slot true (.slice p_a0 a0.length c_a0)), (13, .slot true (.int .i64 x5)), (14, .slot true (.pointer (some ⟨hdB p_a0, hdO p_a0 + x5.toNat * 2, none⟩))), (15, .slot true (.agg #[.int .i64 t11.Lo, .int .i64 t11.Hi])), (16, .slot true (.bool t12)), (19, rdK 2 p_a0 a0.length (a0.flatMap en_TInterval))] (by kernel_rfl)
        refine k_cond H (by kernel_rfl) (t := t12) (by kernel_rfl) (fun c15 => ?_) (fun c15 => ?_)
        · rw [if_pos c15] at G
          refine k_seq ?_
          refine k_reg mixed H (.cons [17] (ok_val (fun ν13 => .int .i64 x5) 17) <|
      .cons [4] (ok_val (fun ν13 => .int .i64 x5) 4) <| .nil) (by kernel_rfl) fun ν13 a w' H => ?_
          replace H := H.toL [(0, .slot true (.slice p_a0 a0.length c_a0)), (1, .slot true (.func (.func 56) #[] #[])), (4, .slot true (.int .i64 x5)), (5, .slot true (.int .i64 x5)), (7, .slot true (.int .i64 (a0.length : Int))), (8, .slot true (.int .i64 x5)), (9, .slot true (.bool (decide (x5 < (a0.length : Int))))), (10, .slot true (.int .i64 x5)), (11, .slot true (.func (.func 56) #[] #[])), (12, .slot true (.slice p_a0 a0.length c_a0)), (13, .slot true (.int .i64 x5)), (14, .slot true (.pointer (some ⟨hdB p_a0, hdO p_a0 + x5.toNat * 2, none⟩))), (15, .slot true (.agg #[.int .i64 t11.Lo, .int .i64 t11.Hi])), (16, .slot true (.bool t12)), (17, .slot true (.int .i64 x5)), (19, rdK 2 p_a0 a0.length (a0.flatMap en_TInterval))] (by kernel_rfl)
          refine k_ret ?_
          obtain rfl := Option.some.inj G
          replace G := Gj2
          obtain rfl := Option.some.inj G
          exact k_done0 H _ (by kernel_rfl) (by kernel_rfl)
        · rw [if_neg (nt c15)] at G
          refine k_skip ?_
          refine k_reg mixed H (.cons [18] (ok_val (fun ν14 => .int .i64 (w_i64 (x5 + 1))) 18) <|
      .cons [8] (ok_val (fun ν14 => .int .i64 (w_i64 (x5 + 1))) 8) <| .nil) (by kernel_rfl) fun ν14 a w' H => ?_
          replace H := H.toL [(0, .slot true (.slice p_a0 a0.length c_a0)), (1, .slot true (.func (.func 56) #[] #[])), (4, .slot true (.int .i64 0)), (5, .slot true (.int .i64 x5)), (7, .slot true (.int .i64 (a0.length : Int))), (8, .slot true (.int .i64 (w_i64 (x5 + 1)))), (9, .slot true (.bool (decide (x5 < (a0.length : Int))))), (10, .slot true (.int .i64 x5)), (11, .slot true (.func (.func 56) #[] #[])), (12, .slot true (.slice p_a0 a0.length c_a0)), (13, .slot true (.int .i64 x5)), (14, .slot true (.pointer (some ⟨hdB p_a0, hdO p_a0 + x5.toNat * 2, none⟩))), (15, .slot true (.agg #[.int .i64 t11.Lo, .int .i64 t11.Hi])), (16, .slot true (.bool t12)), (18, .slot true (.int .i64 (w_i64 (x5 + 1)))), (19, rdK 2 p_a0 a0.length (a0.flatMap en_TInterval))] (by kernel_rfl)
          exact ⟨k, Nat.lt_succ_self k, _, G, H.toL _ (by kernel_rfl)⟩
      · rw [if_neg (nt c16)] at G
        refine k_exit rfl ?_
        obtain rfl := Option.some.inj G
        exact ⟨_, rfl, H.toL _ (by kernel_rfl)⟩

set_option maxHeartbeats 4000000 in
theorem api_Interval_57_s56.calls (k0 : Nat) (a0 : List TInterval) (p_a0 : Option Addr) (c_a0 : Nat) (r : Bool) (w : World) (R_p_a0 : RowAt w 2 p_a0 a0.length (a0.flatMap en_TInterval)) (G : api_Interval_57_s56 k0 a0 = some r) :
    Calls Try.prog 57 #[.slice p_a0 a0.length c_a0, .func (.func 56) #[] #[]] w fun e w' => e = .returned (.bool r) ∧ Below w.heap.size w w' := by
  refine k_enterF (args := [.slice p_a0 a0.length c_a0, .func (.func 56) #[] #[]]) 9 [(9, rdK 2 p_a0 a0.length (a0.flatMap en_TInterval))] (by
    intro x hx
    simp only [List.mem_cons, List.not_mem_nil, or_false] at hx
    rcases hx with rfl
    exact rd_fact R_p_a0 (by decide) _) Try.func57 rfl (by kernel_rfl) (by kernel_rfl) fun a H => ?_
  unfold api_Interval_57_s56 at G
  refine k_seq ?_
  refine k_reg mixed H (.cons [4] (ok_val (fun ν1 => .bool false) 4) <| .nil) (by kernel_rfl) fun ν1 a w' H => ?_
  replace H := H.toL [(0, .slot true (.slice p_a0 a0.length c_a0)), (1, .slot true (.func (.func 56) #[] #[])), (4, .slot true (.bool false)), (9, rdK 2 p_a0 a0.length (a0.flatMap en_TInterval))] (by kernel_rfl)
  refine k_seq ?_
  replace G := bnd G; obtain ⟨t3, ht3, G⟩ := G
  refine k_reg mixed H (.cons [5] (ok_val (fun ν2 => .slice p_a0 a0.length c_a0) 5) <|
      .cons [6] (ok_val (fun ν2 => .func (.func 56) #[] #[]) 6) <|
      .cons [7] (ok_callL [9] (fun ν2 => [rdK 2 p_a0 a0.length (a0.flatMap en_TInterval)]) 93 (fun ν2 => #[.slice p_a0 a0.length c_a0, .func (.func 56) #[] #[]]) (.int .i64 t3) 7 (fun ν2 w hF => api_Interval_93_s56.calls k0 a0 p_a0 c_a0 t3 w (rd_of hF.1) ht3)) <|
      .cons [8] (ok_val (fun ν2 => .bool (decide (t3 ≥ 0))) 8) <|
      .cons [4] (ok_val (fun ν2 => .bool (decide (t3 ≥ 0))) 4) <| .nil) (by kernel_rfl) fun ν2 a w' H => ?_
  replace H := H.toL [(4, .slot true (.bool (decide (t3 ≥ 0))))] (by kernel_rfl)
  refine k_ret ?_
  obtain rfl := Option.some.inj G
  exact k_done0 H _ (by kernel_rfl) (by kernel_rfl)

set_option maxHeartbeats 4000000 in
theorem box_Valid.calls (k0 : Nat) (a0 : List TInterval) (p_a0 : Option Addr) (c_a0 : Nat) (r : Bool) (w : World) (R_p_a0 : RowAt w 2 p_a0 a0.length (a0.flatMap en_TInterval)) (G : box_Valid k0 a0 = some r) :
    Calls Try.prog 18 #[.slice p_a0 a0.length c_a0] w fun e w' => e = .returned (.bool r) ∧ Below w.heap.size w w' := by
  refine k_enterF (args := [.slice p_a0 a0.length c_a0]) 18 [(18, rdK 2 p_a0 a0.length (a0.flatMap en_TInterval))] (by
    intro x hx
    simp only [List.mem_cons, List.not_mem_nil, or_false] at hx
    rcases hx with rfl
    exact rd_fact R_p_a0 (by decide) _) Try.func18 rfl (by kernel_rfl) (by kernel_rfl) fun a H => ?_
  unfold box_Valid at G
  refine k_seq ?_
  refine k_reg mixed H (.cons [2] (ok_val (fun ν1 => .bool false) 2) <| .nil) (by kernel_rfl) fun ν1 a w' H => ?_
  replace H := H.toL [(0, .slot true (.slice p_a0 a0.length c_a0)), (2, .slot true (.bool false)), (18, rdK 2 p_a0 a0.length (a0.flatMap en_TInterval))] (by kernel_rfl)
  refine k_seq ?_
  refine k_reg mixed H (.cons [3] (ok_val (fun ν2 => .func (.func 56) #[] #[]) 3) <| .nil) (by kernel_rfl) fun ν2 a w' H => ?_
  replace H := H.toL [(0, .slot true (.slice p_a0 a0.length c_a0)), (2, .slot true (.bool false)), (3, .slot true (.func (.func 56) #[] #[])), (18, rdK 2 p_a0 a0.length (a0.flatMap en_TInterval))] (by kernel_rfl)
  refine k_seq ?_
  replace G := bnd G; obtain ⟨t4, ht4, G⟩ := G
  refine k_reg mixed H (.cons [4] (ok_val (fun ν3 => .slice p_a0 a0.length c_a0) 4) <|
      .cons [5] (ok_val (fun ν3 => .int .i64 (a0.length : Int)) 5) <|
      .cons [6] (ok_val (fun ν3 => .bool (decide ((a0.length : Int) ≥ 1))) 6) <|
      .cons [7] (ok_val (fun ν3 => .bool (decide ((a0.length : Int) ≥ 1))) 7) <|
      .cons [8] (ok_valg (fun ν3 => .slice p_a0 a0.length c_a0) (fun ν3 => ((decide ((a0.length : Int) ≥ 1)) == true)) [true] 8) <|
      .cons [9] (ok_valg (fun ν3 => .int .i64 (a0.length : Int)) (fun ν3 => ((decide ((a0.length : Int) ≥ 1)) == true)) [false] 9) <|
      .cons [10] (ok_valg (fun ν3 => .bool (decide ((a0.length : Int) ≤ 6))) (fun ν3 => ((decide ((a0.length : Int) ≥ 1)) == true)) [false, true] 10) <|
      .cons [11] (ok_and 7 10 (fun ν3 => true) (fun ν3 => true) (fun ν3 => decide ((a0.length : Int) ≥ 1)) (fun ν3 => decide ((a0.length : Int) ≤ 6)) 11) <|
      .cons [12] (ok_val (fun ν3 => .bool ((decide ((a0.length : Int) ≥ 1)) && (decide ((a0.length : Int) ≤ 6)))) 12) <|
      .cons [13] (ok_valg (fun ν3 => .slice p_a0 a0.length c_a0) (fun ν3 => (((decide ((a0.length : Int) ≥ 1)) && (decide ((a0.length : Int) ≤ 6))) == true)) [true] 13) <|
      .cons [14] (ok_valg (fun ν3 => .func (.func 56) #[] #[]) (fun ν3 => (((decide ((a0.length : Int) ≥ 1)) && (decide ((a0.length : Int) ≤ 6))) == true)) [true] 14) <|
      .cons [15] (ok_callLg [18] (fun ν3 => [rdK 2 p_a0 a0.length (a0.flatMap en_TInterval)]) 57 (fun ν3 => #[.slice p_a0 a0.length c_a0, .func (.func 56) #[] #[]]) (.bool t4) (fun ν3 => (((decide ((a0.length : Int) ≥ 1)) && (decide ((a0.length : Int) ≤ 6))) == true)) [true, false, false] 15 (fun ν3 w hg hF => api_Interval_57_s56.calls k0 a0 p_a0 c_a0 t4 w (rd_of hF.1) (ifp ht4 hg))) <|
      .cons [16] (ok_valg (fun ν3 => .bool (!t4)) (fun ν3 => (((decide ((a0.length : Int) ≥ 1)) && (decide ((a0.length : Int) ≤ 6))) == true)) [false] 16) <|
      .cons [17] (ok_and 12 16 (fun ν3 => true) (fun ν3 => true) (fun ν3 => ((decide ((a0.length : Int) ≥ 1)) && (decide ((a0.length : Int) ≤ 6)))) (fun ν3 => (!t4)) 17) <|
      .cons [2] (ok_val (fun ν3 => .bool (((decide ((a0.length : Int) ≥ 1)) && (decide ((a0.length : Int) ≤ 6))) && (!t4))) 2) <| .nil) (by kernel_rfl) fun ν3 a w' H => ?_
  replace H := H.toL [(2, .slot true (.bool (((decide ((a0.length : Int) ≥ 1)) && (decide ((a0.length : Int) ≤ 6))) && (!t4))))] (by kernel_rfl)
  refine k_ret ?_
  obtain rfl := Option.some.inj G
  exact k_done0 H _ (by kernel_rfl) (by kernel_rfl)

set_option maxHeartbeats 4000000 in
theorem armillaryref03_Same.calls (k0 : Nat) (a0 : List TInterval) (a1 : List TInterval) (p_a0 : Option Addr) (c_a0 : Nat) (p_a1 : Option Addr) (c_a1 : Nat) (r : Bool) (w : World) (R_p_a0 : RowAt w 2 p_a0 a0.length (a0.flatMap en_TInterval)) (R_p_a1 : RowAt w 2 p_a1 a1.length (a1.flatMap en_TInterval)) (G : armillaryref03_Same k0 a0 a1 = some r) :
    Calls Try.prog 20 #[.slice p_a0 a0.length c_a0, .slice p_a1 a1.length c_a1] w fun e w' => e = .returned (.bool r) ∧ Below w.heap.size w w' := by
  refine k_enterF (args := [.slice p_a0 a0.length c_a0, .slice p_a1 a1.length c_a1]) 26 [(26, rdK 2 p_a0 a0.length (a0.flatMap en_TInterval)), (27, rdK 2 p_a1 a1.length (a1.flatMap en_TInterval))] (by
    intro x hx
    simp only [List.mem_cons, List.not_mem_nil, or_false] at hx
    rcases hx with rfl | rfl
    · exact rd_fact R_p_a0 (by decide) _
    · exact rd_fact R_p_a1 (by decide) _) Try.func20 rfl (by kernel_rfl) (by kernel_rfl) fun a H => ?_
  unfold armillaryref03_Same at G
  refine k_seq ?_
  refine k_reg mixed H (.cons [4] (ok_val (fun ν1 => .bool false) 4) <| .nil) (by kernel_rfl) fun ν1 a w' H => ?_
  replace H := H.toL [(0, .slot true (.slice p_a0 a0.length c_a0)), (1, .slot true (.slice p_a1 a1.length c_a1)), (4, .slot true (.bool false)), (26, rdK 2 p_a0 a0.length (a0.flatMap en_TInterval)), (27, rdK 2 p_a1 a1.length (a1.flatMap en_TInterval))] (by kernel_rfl)
  refine k_seq ?_
  refine k_seq ?_
  refine k_reg mixed H (.cons [6] (ok_val (fun ν2 => .slice p_a0 a0.length c_a0) 6) <|
      .cons [7] (ok_val (fun ν2 => .int .i64 (a0.length : Int)) 7) <|
      .cons [8] (ok_val (fun ν2 => .slice p_a1 a1.length c_a1) 8) <|
      .cons [9] (ok_val (fun ν2 => .int .i64 (a1.length : Int)) 9) <|
      .cons [10] (ok_val (fun ν2 => .bool ((a0.length : Int) != (a1.length : Int))) 10) <| .nil) (by kernel_rfl) fun ν2 a w' H => ?_
  replace H := H.toL [(0, .slot true (.slice p_a0 a0.length c_a0)), (1, .slot true (.slice p_a1 a1.length c_a1)), (4, .slot true (.bool false)), (10, .slot true (.bool ((a0.length : Int) != (a1.length : Int)))), (26, rdK 2 p_a0 a0.length (a0.flatMap en_TInterval)), (27, rdK 2 p_a1 a1.length (a1.flatMap en_TInterval))] (by kernel_rfl)
  refine k_cond H (by kernel_rfl) (t := ((a0.length : Int) != (a1.length : Int))) (by kernel_rfl) (fun c19 => ?_) (fun c19 => ?_)
  · rw [if_pos c19] at G
    refine k_seq ?_
    refine k_reg mixed H (.cons [4] (ok_val (fun ν3 => .bool false) 4) <| .nil) (by kernel_rfl) fun ν3 a w' H => ?_
    replace H := H.toL [(0, .slot true (.slice p_a0 a0.length c_a0)), (1, .slot true (.slice p_a1 a1.length c_a1)), (4, .slot true (.bool false)), (26, rdK 2 p_a0 a0.length (a0.flatMap en_TInterval)), (27, rdK 2 p_a1 a1.length (a1.flatMap en_TInterval))] (by kernel_rfl)
    refine k_ret ?_
    obtain rfl := Option.some.inj G
    exact k_done0 H _ (by kernel_rfl) (by kernel_rfl)
  · rw [if_neg (nt c19)] at G
    refine k_skip ?_
    refine k_seq ?_
    replace G := bnd G; obtain ⟨j4, hj4, Gj4⟩ := G
    refine k_join (fun a w' => ∃ j4v, j4 = Sum.inr j4v ∧ Rep w.heap.size w 26 (ofL [(4, .slot true (.bool false))]) a w') ?_ ?_
    · clear H; rintro a w' ⟨j4v, rfl, H⟩; have G := Gj4; clear Gj4; dsimp only at G
      refine k_seq ?_
      refine k_reg mixed H (.cons [4] (ok_val (fun ν5 => .bool true) 4) <| .nil) (by kernel_rfl) fun ν5 a w' H => ?_
      replace H := H.toL [(4, .slot true (.bool true))] (by kernel_rfl)
      refine k_ret ?_
      obtain rfl := Option.some.inj G
      exact k_done0 H _ (by kernel_rfl) (by kernel_rfl)
    · have G := hj4; clear hj4
      refine k_seq ?_
      refine k_reg mixed H (.cons [5] (ok_val (fun ν6 => .int .i64 0) 5) <| .nil) (by kernel_rfl) fun ν6 a w' H => ?_
      replace H := H.toL [(0, .slot true (.slice p_a0 a0.length c_a0)), (1, .slot true (.slice p_a1 a1.length c_a1)), (4, .slot true (.bool false)), (5, .slot true (.int .i64 0)), (26, rdK 2 p_a0 a0.length (a0.flatMap en_TInterval)), (27, rdK 2 p_a1 a1.length (a1.flatMap en_TInterval))] (by kernel_rfl)
      refine k_block ?_
      refine k_loopJ (fun m a w' => ∃ x7 : Int, armillaryref03_Same.l8 k0 a0 a1 m x7 = some j4 ∧ Rep w.heap.size w 26 (ofL [(0, .slot true (.slice p_a0 a0.length c_a0)), (1, .slot true (.slice p_a1 a1.length c_a1)), (4, .slot true (.bool false)), (5, .slot true (.int .i64 x7)), (26, rdK 2 p_a0 a0.length (a0.flatMap en_TInterval)), (27, rdK 2 p_a1 a1.length (a1.flatMap en_TInterval))]) a w') k0 ⟨_, G, H.toL _ (by kernel_rfl)⟩ ?_
      clear G H
      rintro (_ | k) a w' ⟨x7, G, H⟩
      · exact absurd G (by unfold armillaryref03_Same.l8; exact fun h => by cases h)
      · unfold armillaryref03_Same.l8 at G
        refine k_seq ?_
        refine k_seq ?_
        refine k_reg mixed H (.cons [11] (ok_val (fun ν9 => .int .i64 x7) 11) <|
      .cons [12] (ok_val (fun ν9 => .slice p_a0 a0.length c_a0) 12) <|
      .cons [13] (ok_val (fun ν9 => .int .i64 (a0.length : Int)) 13) <|
      .cons [14] (ok_val (fun ν9 => .bool (decide (x7 < (a0.length : Int)))) 14) <| .nil) (by kernel_rfl) fun ν9 a w' H => ?_
        replace H := H.toL [(0, .slot true (.slice p_a0 a0.length c_a0)), (1, .slot true (.slice p_a1 a1.length c_a1)), (4, .slot true (.bool false)), (5, .slot true (.int .i64 x7)), (11, .slot true (.int .i64 x7)), (12, .slot true (.slice p_a0 a0.length c_a0)), (13, .slot true (.int .i64 (a0.length : Int))), (14, .slot true (.bool (decide (x7 < (a0.length : Int))))), (26, rdK 2 p_a0 a0.length (a0.flatMap en_TInterval)), (27, rdK 2 p_a1 a1.length (a1.flatMap en_TInterval))] (by kernel_rfl)
        refine k_cond H (by kernel_rfl) (t := decide (x7 < (a0.length : Int))) (by kernel_rfl) (fun c18 => ?_) (fun c18 => ?_)
        · rw [if_pos c18] at G
          refine k_skip ?_
          refine k_seq ?_
          refine k_block ?_
          refine k_seq ?_
          replace G := gd G; obtain ⟨b11, G⟩ := G
          replace G := bnd G; obtain ⟨t12, ht12, G⟩ := G
          replace G := gd G; obtain ⟨b13, G⟩ := G
          replace G := bnd G; obtain ⟨t14, ht14, G⟩ := G
          refine k_reg mixed H (.cons [17] (ok_val (fun ν10 => .slice p_a0 a0.length c_a0) 17) <|
      .cons [18] (ok_val (fun ν10 => .int .i64 x7) 18) <|
      .cons [19] (ok_valL [26] (fun ν10 => [rdK 2 p_a0 a0.length (a0.flatMap en_TInterval)]) (fun ν10 => .pointer (some ⟨hdB p_a0, hdO p_a0 + x7.toNat * 2, none⟩)) (fun ν10 => true) [true, true] 19 (fun ν10 w hg hF => run_of (by kernel_rfl) (run_ix (t := 22) (p := p_a0) (n := a0.length) (cap := c_a0) (k := .i64) (i := x7) (sz := 2) (by kernel_rfl) (by kernel_rfl) (rd_of hF.1) b11))) <|
      .cons [20] (ok_valL [26] (fun ν10 => [rdK 2 p_a0 a0.length (a0.flatMap en_TInterval)]) (fun ν10 => .agg #[.int .i64 t12.Lo, .int .i64 t12.Hi]) (fun ν10 => true) [true] 20 (fun ν10 w hg hF => ld_of (vs := [.int .i64 t12.Lo, .int .i64 t12.Hi]) (b := hdB p_a0) (off := hdO p_a0 + x7.toNat * 2 + 0) (m := 2) (by kernel_rfl) (el_cells (rd_of hF.1) en_TInterval_len ht12 0 2 rfl))) <|
      .cons [21] (ok_val (fun ν10 => .slice p_a1 a1.length c_a1) 21) <|
      .cons [22] (ok_val (fun ν10 => .int .i64 x7) 22) <|
      .cons [23] (ok_valL [27] (fun ν10 => [rdK 2 p_a1 a1.length (a1.flatMap en_TInterval)]) (fun ν10 => .pointer (some ⟨hdB p_a1, hdO p_a1 + x7.toNat * 2, none⟩)) (fun ν10 => true) [true, true] 23 (fun ν10 w hg hF => run_of (by kernel_rfl) (run_ix (t := 22) (p := p_a1) (n := a1.length) (cap := c_a1) (k := .i64) (i := x7) (sz := 2) (by kernel_rfl) (by kernel_rfl) (rd_of hF.1) b13))) <|
      .cons [24] (ok_valL [27] (fun ν10 => [rdK 2 p_a1 a1.length (a1.flatMap en_TInterval)]) (fun ν10 => .agg #[.int .i64 t14.Lo, .int .i64 t14.Hi]) (fun ν10 => true) [true] 24 (fun ν10 w hg hF => ld_of (vs := [.int .i64 t14.Lo, .int .i64 t14.Hi]) (b := hdB p_a1) (off := hdO p_a1 + x7.toNat * 2 + 0) (m := 2) (by kernel_rfl) (el_cells (rd_of hF.1) en_TInterval_len ht14 0 2 rfl))) <|
      .cons [25] (ok_val (fun ν10 => .bool (!((t12.Lo == t14.Lo) && ((t12.Hi == t14.Hi) && true)))) 25 (hv := fun _ _ => run_of (by kernel_rfl) (run_neq_agg (t := 40) (x := (.tmp 20)) (y := (.tmp 24)) (xs := #[.int .i64 t12.Lo, .int .i64 t12.Hi]) (ys := #[.int .i64 t14.Lo, .int .i64 t14.Hi]) (b := ((t12.Lo == t14.Lo) && ((t12.Hi == t14.Hi) && true))) (by kernel_rfl) (by kernel_rfl)))) <| .nil) (by kernel_rfl) fun ν10 a w' H => ?_
          replace H := H.toL [(0, .slot true (.slice p_a0 a0.length c_a0)), (1, .slot true (.slice p_a1 a1.length c_a1)), (4, .slot true (.bool false)), (5, .slot true (.int .i64 x7)), (11, .slot true (.int .i64 x7)), (12, .slot true (.slice p_a0 a0.length c_a0)), (13, .slot true (.int .i64 (a0.length : Int))), (14, .slot true (.bool (decide (x7 < (a0.length : Int))))), (17, .slot true (.slice p_a0 a0.length c_a0)), (18, .slot true (.int .i64 x7)), (19, .slot true (.pointer (some ⟨hdB p_a0, hdO p_a0 + x7.toNat * 2, none⟩))), (20, .slot true (.agg #[.int .i64 t12.Lo, .int .i64 t12.Hi])), (21, .slot true (.slice p_a1 a1.length c_a1)), (22, .slot true (.int .i64 x7)), (23, .slot true (.pointer (some ⟨hdB p_a1, hdO p_a1 + x7.toNat * 2, none⟩))), (24, .slot true (.agg #[.int .i64 t14.Lo, .int .i64 t14.Hi])), (25, .slot true (.bool (!((t12.Lo == t14.Lo) && ((t12.Hi == t14.Hi) && true))))), (26, rdK 2 p_a0 a0.length (a0.flatMap en_TInterval)), (27, rdK 2 p_a1 a1.length (a1.flatMap en_TInterval))] (by kernel_rfl)
          refine k_cond H (by kernel_rfl) (t := (!((t12.Lo == t14.Lo) && ((t12.Hi == t14.Hi) && true)))) (by kernel_rfl) (fun c17 => ?_) (fun c17 => ?_)
          · rw [if_pos c17] at G
            refine k_seq ?_
            refine k_reg mixed H (.cons [4] (ok_val (fun ν15 => .bool false) 4) <| .nil) (by kernel_rfl) fun ν15 a w' H => ?_
            replace H := H.toL [(0, .slot true (.slice p_a0 a0.length c_a0)), (1, .slot true (.slice p_a1 a1.length c_a1)), (4, .slot true (.bool false)), (5, .slot true (.int .i64 x7)), (11, .slot true (.int .i64 x7)), (12, .slot true (.slice p_a0 a0.length c_a0)), (13, .slot true (.int .i64 (a0.length : Int))), (14, .slot true (.bool (decide (x7 < (a0.length : Int))))), (17, .slot true (.slice p_a0 a0.length c_a0)), (18, .slot true (.int .i64 x7)), (19, .slot true (.pointer (some ⟨hdB p_a0, hdO p_a0 + x7.toNat * 2, none⟩))), (20, .slot true (.agg #[.int .i64 t12.Lo, .int .i64 t12.Hi])), (21, .slot true (.slice p_a1 a1.length c_a1)), (22, .slot true (.int .i64 x7)), (23, .slot true (.pointer (some ⟨hdB p_a1, hdO p_a1 + x7.toNat * 2, none⟩))), (24, .slot true (.agg #[.int .i64 t14.Lo, .int .i64 t14.Hi])), (25, .slot true (.bool (!((t12.Lo == t14.Lo) && ((t12.Hi == t14.Hi) && true))))), (26, rdK 2 p_a0 a0.length (a0.flatMap en_TInterval)), (27, rdK 2 p_a1 a1.length (a1.flatMap en_TInterval))] (by kernel_rfl)
            refine k_ret ?_
            obtain rfl := Option.some.inj G
            replace G := Gj4
            obtain rfl := Option.some.inj G
            exact k_done0 H _ (by kernel_rfl) (by kernel_rfl)
          · rw [if_neg (nt c17)] at G
            refine k_skip ?_
            refine k_reg mixed H (.cons [15] (ok_val (fun ν16 => .int .i64 x7) 15) <|
      .cons [16] (ok_val (fun ν16 => .int .i64 (w_i64 (x7 + 1))) 16) <|
      .cons [5] (ok_val (fun ν16 => .int .i64 (w_i64 (x7 + 1))) 5) <| .nil) (by kernel_rfl) fun ν16 a w' H => ?_
            replace H := H.toL [(0, .slot true (.slice p_a0 a0.length c_a0)), (1, .slot true (.slice p_a1 a1.length c_a1)), (4, .slot true (.bool false)), (5, .slot true (.int .i64 (w_i64 (x7 + 1)))), (11, .slot true (.int .i64 x7)), (12, .slot true (.slice p_a0 a0.length c_a0)), (13, .slot true (.int .i64 (a0.length : Int))), (14, .slot true (.bool (decide (x7 < (a0.length : Int))))), (15, .slot true (.int .i64 x7)), (16, .slot true (.int .i64 (w_i64 (x7 + 1)))), (17, .slot true (.slice p_a0 a0.length c_a0)), (18, .slot true (.int .i64 x7)), (19, .slot true (.pointer (some ⟨hdB p_a0, hdO p_a0 + x7.toNat * 2, none⟩))), (20, .slot true (.agg #[.int .i64 t12.Lo, .int .i64 t12.Hi])), (21, .slot true (.slice p_a1 a1.length c_a1)), (22, .slot true (.int .i64 x7)), (23, .slot true (.pointer (some ⟨hdB p_a1, hdO p_a1 + x7.toNat * 2, none⟩))), (24, .slot true (.agg #[.int .i64 t14.Lo, .int .i64 t14.Hi])), (25, .slot true (.bool (!((t12.Lo == t14.Lo) && ((t12.Hi == t14.Hi) && true))))), (26, rdK 2 p_a0 a0.length (a0.flatMap en_TInterval)), (27, rdK 2 p_a1 a1.length (a1.flatMap en_TInterval))] (by kernel_rfl)
            exact ⟨k, Nat.lt_succ_self k, _, G, H.toL _ (by kernel_rfl)⟩
        · rw [if_neg (nt c18)] at G
          refine k_exit rfl ?_
          obtain rfl := Option.some.inj G
          exact ⟨_, rfl, H.toL _ (by kernel_rfl)⟩

set_option maxHeartbeats 4000000 in
theorem interval_Contains.calls (a0 : TInterval) (a1 : Int) (r : Bool) (w : World) (G : interval_Contains a0 a1 = some r) :
    Calls Try.prog 59 #[.agg #[.int .i64 a0.Lo, .int .i64 a0.Hi], .int .i64 a1] w fun e w' => e = .returned (.bool r) ∧ Below w.heap.size w w' := by
  refine k_enter (args := [.agg #[.int .i64 a0.Lo, .int .i64 a0.Hi], .int .i64 a1]) 19 Try.func59 rfl (by kernel_rfl) (by kernel_rfl) fun a H => ?_
  unfold interval_Contains at G
  refine k_seq ?_
  refine k_reg mixed H (.cons [2, 19] (ok_new (fun b => .pointer (some ⟨b, 0, none⟩)) (fun ν1 => [.int .i64 a0.Lo, .int .i64 a0.Hi]) 40 2 19) <|
      .cons [4] (ok_val (fun ν1 => .bool false) 4) <| .nil) (by kernel_rfl) fun ν1 a w' H => ?_
  replace H := H.toL [(1, .slot true (.int .i64 a1)), (2, .slot true (.pointer (some ⟨((ν1 0).n 0), 0, none⟩))), (4, .slot true (.bool false)), (19, .blk ((ν1 0).n 0) [.int .i64 a0.Lo, .int .i64 a0.Hi] 40)] (by kernel_rfl)
  refine k_seq ?_
  replace G := bnd G; obtain ⟨t3, ht3, G⟩ := G
  refine k_reg mixed H (.cons [5] (ok_ld (fun ν2 => .agg #[.int .i64 a0.Lo, .int .i64 a0.Hi]) 5 19 0 2 (fun ν2 => ((ν1 0).n 0)) (fun ν2 => [.int .i64 a0.Lo, .int .i64 a0.Hi]) 40) <|
      .cons [6] (ok_callv 48 (fun ν2 => #[.agg #[.int .i64 a0.Lo, .int .i64 a0.Hi]]) (.bool t3) 6 [] (fun _ w _ => interval_IsEntire.calls a0 t3 w ht3)) <|
      .cons [7] (ok_val (fun ν2 => .bool t3) 7) <|
      .cons [8] (ok_valg (fun ν2 => .pointer (some ⟨((ν1 0).n 0), 0, none⟩)) (fun ν2 => (t3 == false)) [true] 8) <|
      .cons [9] (ok_ldg (fun ν2 => .int .i64 a0.Lo) (fun ν2 => (t3 == false)) [false] 9 19 0 1 (fun ν2 => ((ν1 0).n 0)) (fun ν2 => [.int .i64 a0.Lo, .int .i64 a0.Hi]) 40) <|
      .cons [10] (ok_valg (fun ν2 => .int .i64 a1) (fun ν2 => (t3 == false)) [true] 10) <|
      .cons [11] (ok_valg (fun ν2 => .bool (decide (a0.Lo ≤ a1))) (fun ν2 => (t3 == false)) [false, false] 11) <|
      .cons [12] (ok_valg (fun ν2 => .bool (decide (a0.Lo ≤ a1))) (fun ν2 => (t3 == false)) [false] 12) <|
      .cons [13] (ok_valg (fun ν2 => .int .i64 a1) (fun ν2 => ((t3 == false) && ((decide (a0.Lo ≤ a1)) == true))) [true] 13) <|
      .cons [14] (ok_valg (fun ν2 => .pointer (some ⟨((ν1 0).n 0), 1, none⟩)) (fun ν2 => ((t3 == false) && ((decide (a0.Lo ≤ a1)) == true))) [true] 14) <|
      .cons [15] (ok_ldg (fun ν2 => .int .i64 a0.Hi) (fun ν2 => ((t3 == false) && ((decide (a0.Lo ≤ a1)) == true))) [false] 15 19 1 1 (fun ν2 => ((ν1 0).n 0)) (fun ν2 => [.int .i64 a0.Lo, .int .i64 a0.Hi]) 40) <|
      .cons [16] (ok_valg (fun ν2 => .bool (decide (a1 ≤ a0.Hi))) (fun ν2 => ((t3 == false) && ((decide (a0.Lo ≤ a1)) == true))) [false, false] 16) <|
      .cons [17] (ok_and 12 16 (fun ν2 => (t3 == false)) (fun ν2 => (t3 == false)) (fun ν2 => decide (a0.Lo ≤ a1)) (fun ν2 => decide (a1 ≤ a0.Hi)) 17) <|
      .cons [18] (ok_or 7 17 (fun ν2 => true) (fun ν2 => true) (fun ν2 => t3) (fun ν2 => ((decide (a0.Lo ≤ a1)) && (decide (a1 ≤ a0.Hi)))) 18) <|
      .cons [4] (ok_val (fun ν2 => .bool (t3 || ((decide (a0.Lo ≤ a1)) && (decide (a1 ≤ a0.Hi))))) 4) <| .nil) (by kernel_rfl) fun ν2 a w' H => ?_
  replace H := H.toL [(4, .slot true (.bool (t3 || ((decide (a0.Lo ≤ a1)) && (decide (a1 ≤ a0.Hi))))))] (by kernel_rfl)
  refine k_ret ?_
  obtain rfl := Option.some.inj G
  exact k_done0 H _ (by kernel_rfl) (by kernel_rfl)

set_option maxHeartbeats 4000000 in
theorem box_Contains.calls (k0 : Nat) (a0 : List TInterval) (a1 : List Int) (p_a0 : Option Addr) (c_a0 : Nat) (p_a1 : Option Addr) (c_a1 : Nat) (r : Bool) (w : World) (R_p_a0 : RowAt w 2 p_a0 a0.length (a0.flatMap en_TInterval)) (R_p_a1 : RowAt w 1 p_a1 a1.length (a1.flatMap en_i64)) (G : box_Contains k0 a0 a1 = some r) :
    Calls Try.prog 21 #[.slice p_a0 a0.length c_a0, .slice p_a1 a1.length c_a1] w fun e w' => e = .returned (.bool r) ∧ Below w.heap.size w w' := by
  refine k_enterF (args := [.slice p_a0 a0.length c_a0, .slice p_a1 a1.length c_a1]) 22 [(22, rdK 2 p_a0 a0.length (a0.flatMap en_TInterval)), (23, rdK 1 p_a1 a1.length (a1.flatMap en_i64))] (by
    intro x hx
    simp only [List.mem_cons, List.not_mem_nil, or_false] at hx
    rcases hx with rfl | rfl
    · exact rd_fact R_p_a0 (by decide) _
    · exact rd_fact R_p_a1 (by decide) _) Try.func21 rfl (by kernel_rfl) (by kernel_rfl) fun a H => ?_
  unfold box_Contains at G
  refine k_seq ?_
  refine k_reg mixed H (.cons [4] (ok_val (fun ν1 => .bool false) 4) <| .nil) (by kernel_rfl) fun ν1 a w' H => ?_
  replace H := H.toL [(0, .slot true (.slice p_a0 a0.length c_a0)), (1, .slot true (.slice p_a1 a1.length c_a1)), (4, .slot true (.bool false)), (22, rdK 2 p_a0 a0.length (a0.flatMap en_TInterval)), (23, rdK 1 p_a1 a1.length (a1.flatMap en_i64))] (by kernel_rfl)
  refine k_seq ?_
  replace G := bnd G; obtain ⟨j2, hj2, Gj2⟩ := G
  refine k_join (fun a w' => ∃ j2v, j2 = Sum.inr j2v ∧ Rep w.heap.size w 22 (ofL [(4, .slot true (.bool false))]) a w') ?_ ?_
  · clear H; rintro a w' ⟨j2v, rfl, H⟩; have G := Gj2; clear Gj2; dsimp only at G
    refine k_seq ?_
    refine k_reg mixed H (.cons [4] (ok_val (fun ν3 => .bool true) 4) <| .nil) (by kernel_rfl) fun ν3 a w' H => ?_
    replace H := H.toL [(4, .slot true (.bool true))] (by kernel_rfl)
    refine k_ret ?_
    obtain rfl := Option.some.inj G
    exact k_done0 H _ (by kernel_rfl) (by kernel_rfl)
  · have G := hj2; clear hj2
    refine k_seq ?_
    refine k_reg mixed H (.cons [7] (ok_val (fun ν4 => .slice p_a0 a0.length c_a0) 7) <|
      .cons [8] (ok_val (fun ν4 => .int .i64 (a0.length : Int)) 8) <|
      .cons [9] (ok_val (fun ν4 => .int .i64 0) 9) <| .nil) (by kernel_rfl) fun ν4 a w' H => ?_
    replace H := H.toL [(1, .slot true (.slice p_a1 a1.length c_a1)), (4, .slot true (.bool false)), (7, .slot true (.slice p_a0 a0.length c_a0)), (8, .slot true (.int .i64 (a0.length : Int))), (9, .slot true (.int .i64 0)), (22, rdK 2 p_a0 a0.length (a0.flatMap en_TInterval)), (23, rdK 1 p_a1 a1.length (a1.flatMap en_i64))] (by kernel_rfl)
    refine k_block ?_
    refine k_loopJ (fun m a w' => ∃ x5 : Int, box_Contains.l6 k0 a0 a1 m x5 = some j2 ∧ Rep w.heap.size w 22 (ofL [(1, .slot true (.slice p_a1 a1.length c_a1)), (4, .slot true (.bool false)), (7, .slot true (.slice p_a0 a0.length c_a0)), (8, .slot true (.int .i64 (a0.length : Int))), (9, .slot true (.int .i64 x5)), (22, rdK 2 p_a0 a0.length (a0.flatMap en_TInterval)), (23, rdK 1 p_a1 a1.length (a1.flatMap en_i64))]) a w') k0 ⟨_, G, H.toL _ (by kernel_rfl)⟩ ?_
    clear G H
    rintro (_ | k) a w' ⟨x5, G, H⟩
    · exact absurd G (by unfold box_Contains.l6; exact fun h => by cases h)
    · unfold box_Contains.l6 at G
      refine k_seq ?_
      refine k_reg mixed H (.cons [10] (ok_val (fun ν7 => .bool (decide (x5 < (a0.length : Int)))) 10) <| .nil) (by kernel_rfl) fun ν7 a w' H => ?_
      replace H := H.toL [(1, .slot true (.slice p_a1 a1.length c_a1)), (4, .slot true (.bool false)), (7, .slot true (.slice p_a0 a0.length c_a0)), (8, .slot true (.int .i64 (a0.length : Int))), (9, .slot true (.int .i64 x5)), (10, .slot true (.bool (decide (x5 < (a0.length : Int))))), (22, rdK 2 p_a0 a0.length (a0.flatMap en_TInterval)), (23, rdK 1 p_a1 a1.length (a1.flatMap en_i64))] (by kernel_rfl)
      refine k_seq ?_
      refine k_cond H (by kernel_rfl) (t := decide (x5 < (a0.length : Int))) (by kernel_rfl) (fun c18 => ?_) (fun c18 => ?_)
      · rw [if_pos c18] at G
        refine k_skip ?_
        refine k_seq ?_
        refine k_block ?_
        refine k_seq ?_
        replace G := gd G; obtain ⟨b9, G⟩ := G
        replace G := bnd G; obtain ⟨t10, ht10, G⟩ := G
        refine k_reg mixed H (.cons [11] (ok_val (fun ν8 => .int .i64 x5) 11) <|
      .cons [12] (ok_valL [22] (fun ν8 => [rdK 2 p_a0 a0.length (a0.flatMap en_TInterval)]) (fun ν8 => .pointer (some ⟨hdB p_a0, hdO p_a0 + x5.toNat * 2, none⟩)) (fun ν8 => true) [true, true] 12 (fun ν8 w hg hF => run_of (by kernel_rfl) (run_ix (t := 22) (p := p_a0) (n := a0.length) (cap := c_a0) (k := .i64) (i := x5) (sz := 2) (by kernel_rfl) (by kernel_rfl) (rd_of hF.1) b9))) <|
      .cons [13] (ok_valL [22] (fun ν8 => [rdK 2 p_a0 a0.length (a0.flatMap en_TInterval)]) (fun ν8 => .agg #[.int .i64 t10.Lo, .int .i64 t10.Hi]) (fun ν8 => true) [true] 13 (fun ν8 w hg hF => ld_of (vs := [.int .i64 t10.Lo, .int .i64 t10.Hi]) (b := hdB p_a0) (off := hdO p_a0 + x5.toNat * 2 + 0) (m := 2) (by kernel_rfl) (el_cells (rd_of hF.1) en_TInterval_len ht10 0 2 rfl))) <|
      .cons [6, 24] (ok_new (fun b => .pointer (some ⟨b, 0, none⟩)) (fun ν8 => [.int .i64 0, .int .i64 0]) 40 6 24) <|
      .cons [5] (ok_val (fun ν8 => .int .i64 x5) 5) <|
      .cons [24] (ok_as (u' := fun ν8 => [(24, .blk ((ν8 3).n 0) [.int .i64 t10.Lo, .int .i64 t10.Hi] 40)]) (ok_store 24 0 (fun ν8 => ((ν8 3).n 0)) (fun ν8 => [.int .i64 0, .int .i64 0]) (fun ν8 => [.int .i64 t10.Lo, .int .i64 t10.Hi]) 40) (fun _ => by kernel_rfl)) <| .nil) (by kernel_rfl) fun ν8 a w' H => ?_
        replace H := H.toL [(1, .slot true (.slice p_a1 a1.length c_a1)), (4, .slot true (.bool false)), (5, .slot true (.int .i64 x5)), (6, .slot true (.pointer (some ⟨((ν8 3).n 0), 0, none⟩))), (7, .slot true (.slice p_a0 a0.length c_a0)), (8, .slot true (.int .i64 (a0.length : Int))), (9, .slot true (.int .i64 x5)), (10, .slot true (.bool (decide (x5 < (a0.length : Int))))), (11, .slot true (.int .i64 x5)), (12, .slot true (.pointer (some ⟨hdB p_a0, hdO p_a0 + x5.toNat * 2, none⟩))), (13, .slot true (.agg #[.int .i64 t10.Lo, .int .i64 t10.Hi])), (24, .blk ((ν8 3).n 0) [.int .i64 t10.Lo, .int .i64 t10.Hi] 40), (22, rdK 2 p_a0 a0.length (a0.flatMap en_TInterval)), (23, rdK 1 p_a1 a1.length (a1.flatMap en_i64))] (by kernel_rfl)
        refine k_seq ?_
        replace G := gd G; obtain ⟨b12, G⟩ := G
        replace G := bnd G; obtain ⟨t13, ht13, G⟩ := G
        replace G := bnd G; obtain ⟨t14, ht14, G⟩ := G
        refine k_reg mixed H (.cons [14] (ok_ld (fun ν11 => .agg #[.int .i64 t10.Lo, .int .i64 t10.Hi]) 14 24 0 2 (fun ν11 => ((ν8 3).n 0)) (fun ν11 => [.int .i64 t10.Lo, .int .i64 t10.Hi]) 40) <|
      .cons [15] (ok_val (fun ν11 => .slice p_a1 a1.length c_a1) 15) <|
      .cons [16] (ok_val (fun ν11 => .int .i64 x5) 16) <|
      .cons [17] (ok_valL [23] (fun ν11 => [rdK 1 p_a1 a1.length (a1.flatMap en_i64)]) (fun ν11 => .pointer (some ⟨hdB p_a1, hdO p_a1 + x5.toNat * 1, none⟩)) (fun ν11 => true) [true, true] 17 (fun ν11 w hg hF => run_of (by kernel_rfl) (run_ix (t := 27) (p := p_a1) (n := a1.length) (cap := c_a1) (k := .i64) (i := x5) (sz := 1) (by kernel_rfl) (by kernel_rfl) (rd_of hF.1) b12))) <|
      .cons [18] (ok_valL [23] (fun ν11 => [rdK 1 p_a1 a1.length (a1.flatMap en_i64)]) (fun ν11 => .int .i64 t13) (fun ν11 => true) [true] 18 (fun ν11 w hg hF => ld_of (vs := [.int .i64 t13]) (b := hdB p_a1) (off := hdO p_a1 + x5.toNat * 1 + 0) (m := 1) (by kernel_rfl) (el_cells (rd_of hF.1) en_i64_len ht13 0 1 rfl))) <|
      .cons [19] (ok_callv 59 (fun ν11 => #[.agg #[.int .i64 t10.Lo, .int .i64 t10.Hi], .int .i64 t13]) (.bool t14) 19 [] (fun _ w _ => interval_Contains.calls t10 t13 t14 w ht14)) <|
      .cons [20] (ok_val (fun ν11 => .bool (!t14)) 20) <| .nil) (by kernel_rfl) fun ν11 a w' H => ?_
        replace H := H.toL [(1, .slot true (.slice p_a1 a1.length c_a1)), (4, .slot true (.bool false)), (5, .slot true (.int .i64 x5)), (6, .slot true (.pointer (some ⟨((ν8 3).n 0), 0, none⟩))), (7, .slot true (.slice p_a0 a0.length c_a0)), (8, .slot true (.int .i64 (a0.length : Int))), (9, .slot true (.int .i64 x5)), (10, .slot true (.bool (decide (x5 < (a0.length : Int))))), (11, .slot true (.int .i64 x5)), (12, .slot true (.pointer (some ⟨hdB p_a0, hdO p_a0 + x5.toNat * 2, none⟩))), (13, .slot true (.agg #[.int .i64 t10.Lo, .int .i64 t10.Hi])), (14, .slot true (.agg #[.int .i64 t10.Lo, .int .i64 t10.Hi])), (15, .slot true (.slice p_a1 a1.length c_a1)), (16, .slot true (.int .i64 x5)), (17, .slot true (.pointer (some ⟨hdB p_a1, hdO p_a1 + x5.toNat * 1, none⟩))), (18, .slot true (.int .i64 t13)), (19, .slot true (.bool t14)), (20, .slot true (.bool (!t14))), (24, .blk ((ν8 3).n 0) [.int .i64 t10.Lo, .int .i64 t10.Hi] 40), (22, rdK 2 p_a0 a0.length (a0.flatMap en_TInterval)), (23, rdK 1 p_a1 a1.length (a1.flatMap en_i64))] (by kernel_rfl)
        refine k_cond H (by kernel_rfl) (t := (!t14)) (by kernel_rfl) (fun c17 => ?_) (fun c17 => ?_)
        · rw [if_pos c17] at G
          refine k_seq ?_
          refine k_reg mixed H (.cons [4] (ok_val (fun ν15 => .bool false) 4) <| .nil) (by kernel_rfl) fun ν15 a w' H => ?_
          replace H := H.toL [(1, .slot true (.slice p_a1 a1.length c_a1)), (4, .slot true (.bool false)), (5, .slot true (.int .i64 x5)), (6, .slot true (.pointer (some ⟨((ν8 3).n 0), 0, none⟩))), (7, .slot true (.slice p_a0 a0.length c_a0)), (8, .slot true (.int .i64 (a0.length : Int))), (9, .slot true (.int .i64 x5)), (10, .slot true (.bool (decide (x5 < (a0.length : Int))))), (11, .slot true (.int .i64 x5)), (12, .slot true (.pointer (some ⟨hdB p_a0, hdO p_a0 + x5.toNat * 2, none⟩))), (13, .slot true (.agg #[.int .i64 t10.Lo, .int .i64 t10.Hi])), (14, .slot true (.agg #[.int .i64 t10.Lo, .int .i64 t10.Hi])), (15, .slot true (.slice p_a1 a1.length c_a1)), (16, .slot true (.int .i64 x5)), (17, .slot true (.pointer (some ⟨hdB p_a1, hdO p_a1 + x5.toNat * 1, none⟩))), (18, .slot true (.int .i64 t13)), (19, .slot true (.bool t14)), (20, .slot true (.bool (!t14))), (24, .blk ((ν8 3).n 0) [.int .i64 t10.Lo, .int .i64 t10.Hi] 40), (22, rdK 2 p_a0 a0.length (a0.flatMap en_TInterval)), (23, rdK 1 p_a1 a1.length (a1.flatMap en_i64))] (by kernel_rfl)
          refine k_ret ?_
          obtain rfl := Option.some.inj G
          replace G := Gj2
          obtain rfl := Option.some.inj G
          exact k_done0 H _ (by kernel_rfl) (by kernel_rfl)
        · rw [if_neg (nt c17)] at G
          refine k_skip ?_
          refine k_reg mixed H (.cons [21] (ok_val (fun ν16 => .int .i64 (w_i64 (x5 + 1))) 21) <|
      .cons [9] (ok_val (fun ν16 => .int .i64 (w_i64 (x5 + 1))) 9) <| .nil) (by kernel_rfl) fun ν16 a w' H => ?_
          replace H := H.toL [(1, .slot true (.slice p_a1 a1.length c_a1)), (4, .slot true (.bool false)), (5, .slot true (.int .i64 x5)), (6, .slot true (.pointer (some ⟨((ν8 3).n 0), 0, none⟩))), (7, .slot true (.slice p_a0 a0.length c_a0)), (8, .slot true (.int .i64 (a0.length : Int))), (9, .slot true (.int .i64 (w_i64 (x5 + 1)))), (10, .slot true (.bool (decide (x5 < (a0.length : Int))))), (11, .slot true (.int .i64 x5)), (12, .slot true (.pointer (some ⟨hdB p_a0, hdO p_a0 + x5.toNat * 2, none⟩))), (13, .slot true (.agg #[.int .i64 t10.Lo, .int .i64 t10.Hi])), (14, .slot true (.agg #[.int .i64 t10.Lo, .int .i64 t10.Hi])), (15, .slot true (.slice p_a1 a1.length c_a1)), (16, .slot true (.int .i64 x5)), (17, .slot true (.pointer (some ⟨hdB p_a1, hdO p_a1 + x5.toNat * 1, none⟩))), (18, .slot true (.int .i64 t13)), (19, .slot true (.bool t14)), (20, .slot true (.bool (!t14))), (21, .slot true (.int .i64 (w_i64 (x5 + 1)))), (24, .blk ((ν8 3).n 0) [.int .i64 t10.Lo, .int .i64 t10.Hi] 40), (22, rdK 2 p_a0 a0.length (a0.flatMap en_TInterval)), (23, rdK 1 p_a1 a1.length (a1.flatMap en_i64))] (by kernel_rfl)
          exact ⟨k, Nat.lt_succ_self k, _, G, H.toL _ (by kernel_rfl)⟩
      · rw [if_neg (nt c18)] at G
        refine k_exit rfl ?_
        obtain rfl := Option.some.inj G
        exact ⟨_, rfl, H.toL _ (by kernel_rfl)⟩

set_option maxHeartbeats 4000000 in
theorem interval_Subset.calls (a0 : TInterval) (a1 : TInterval) (r : Bool) (w : World) (G : interval_Subset a0 a1 = some r) :
    Calls Try.prog 61 #[.agg #[.int .i64 a0.Lo, .int .i64 a0.Hi], .agg #[.int .i64 a1.Lo, .int .i64 a1.Hi]] w fun e w' => e = .returned (.bool r) ∧ Below w.heap.size w w' := by
  refine k_enter (args := [.agg #[.int .i64 a0.Lo, .int .i64 a0.Hi], .agg #[.int .i64 a1.Lo, .int .i64 a1.Hi]]) 17 Try.func61 rfl (by kernel_rfl) (by kernel_rfl) fun a H => ?_
  unfold interval_Subset at G
  refine k_seq ?_
  refine k_reg mixed H (.cons [2, 17] (ok_new (fun b => .pointer (some ⟨b, 0, none⟩)) (fun ν1 => [.int .i64 a0.Lo, .int .i64 a0.Hi]) 40 2 17) <|
      .cons [3, 18] (ok_new (fun b => .pointer (some ⟨b, 0, none⟩)) (fun ν1 => [.int .i64 a1.Lo, .int .i64 a1.Hi]) 40 3 18) <|
      .cons [4] (ok_val (fun ν1 => .bool false) 4) <| .nil) (by kernel_rfl) fun ν1 a w' H => ?_
  replace H := H.toL [(2, .slot true (.pointer (some ⟨((ν1 0).n 0), 0, none⟩))), (3, .slot true (.pointer (some ⟨((ν1 1).n 0), 0, none⟩))), (4, .slot true (.bool false)), (17, .blk ((ν1 0).n 0) [.int .i64 a0.Lo, .int .i64 a0.Hi] 40), (18, .blk ((ν1 1).n 0) [.int .i64 a1.Lo, .int .i64 a1.Hi] 40)] (by kernel_rfl)
  refine k_seq ?_
  refine k_reg mixed H (.cons [5] (ok_val (fun ν2 => .pointer (some ⟨((ν1 1).n 0), 0, none⟩)) 5) <|
      .cons [6] (ok_ld (fun ν2 => .int .i64 a1.Lo) 6 18 0 1 (fun ν2 => ((ν1 1).n 0)) (fun ν2 => [.int .i64 a1.Lo, .int .i64 a1.Hi]) 40) <|
      .cons [7] (ok_val (fun ν2 => .pointer (some ⟨((ν1 0).n 0), 0, none⟩)) 7) <|
      .cons [8] (ok_ld (fun ν2 => .int .i64 a0.Lo) 8 17 0 1 (fun ν2 => ((ν1 0).n 0)) (fun ν2 => [.int .i64 a0.Lo, .int .i64 a0.Hi]) 40) <|
      .cons [9] (ok_val (fun ν2 => .bool (decide (a1.Lo ≤ a0.Lo))) 9) <|
      .cons [10] (ok_val (fun ν2 => .bool (decide (a1.Lo ≤ a0.Lo))) 10) <|
      .cons [11] (ok_valg (fun ν2 => .pointer (some ⟨((ν1 0).n 0), 1, none⟩)) (fun ν2 => ((decide (a1.Lo ≤ a0.Lo)) == true)) [true] 11) <|
      .cons [12] (ok_ldg (fun ν2 => .int .i64 a0.Hi) (fun ν2 => ((decide (a1.Lo ≤ a0.Lo)) == true)) [false] 12 17 1 1 (fun ν2 => ((ν1 0).n 0)) (fun ν2 => [.int .i64 a0.Lo, .int .i64 a0.Hi]) 40) <|
      .cons [13] (ok_valg (fun ν2 => .pointer (some ⟨((ν1 1).n 0), 1, none⟩)) (fun ν2 => ((decide (a1.Lo ≤ a0.Lo)) == true)) [true] 13) <|
      .cons [14] (ok_ldg (fun ν2 => .int .i64 a1.Hi) (fun ν2 => ((decide (a1.Lo ≤ a0.Lo)) == true)) [false] 14 18 1 1 (fun ν2 => ((ν1 1).n 0)) (fun ν2 => [.int .i64 a1.Lo, .int .i64 a1.Hi]) 40) <|
      .cons [15] (ok_valg (fun ν2 => .bool (decide (a0.Hi ≤ a1.Hi))) (fun ν2 => ((decide (a1.Lo ≤ a0.Lo)) == true)) [false, false] 15) <|
      .cons [16] (ok_and 10 15 (fun ν2 => true) (fun ν2 => true) (fun ν2 => decide (a1.Lo ≤ a0.Lo)) (fun ν2 => decide (a0.Hi ≤ a1.Hi)) 16) <|
      .cons [4] (ok_val (fun ν2 => .bool ((decide (a1.Lo ≤ a0.Lo)) && (decide (a0.Hi ≤ a1.Hi)))) 4) <| .nil) (by kernel_rfl) fun ν2 a w' H => ?_
  replace H := H.toL [(4, .slot true (.bool ((decide (a1.Lo ≤ a0.Lo)) && (decide (a0.Hi ≤ a1.Hi)))))] (by kernel_rfl)
  refine k_ret ?_
  obtain rfl := Option.some.inj G
  exact k_done0 H _ (by kernel_rfl) (by kernel_rfl)

set_option maxHeartbeats 4000000 in
theorem box_Subset.calls (a0 : List TInterval) (a1 : List TInterval) (p_a0 : Option Addr) (c_a0 : Nat) (p_a1 : Option Addr) (c_a1 : Nat) (r : Bool) (w : World) (R_p_a0 : RowAt w 2 p_a0 a0.length (a0.flatMap en_TInterval)) (R_p_a1 : RowAt w 2 p_a1 a1.length (a1.flatMap en_TInterval)) (G : box_Subset a0 a1 = some r) :
    Calls Try.prog 23 #[.slice p_a0 a0.length c_a0, .slice p_a1 a1.length c_a1] w fun e w' => e = .returned (.bool r) ∧ Below w.heap.size w w' := by
  refine k_enterM (args := [.slice p_a0 a0.length c_a0, .slice p_a1 a1.length c_a1]) 16 [(16, rdK 2 p_a0 a0.length (a0.flatMap en_TInterval)), (17, rdK 2 p_a1 a1.length (a1.flatMap en_TInterval))] (by
    intro x hx
    simp only [List.mem_cons, List.not_mem_nil, or_false] at hx
    rcases hx with rfl | rfl
    · exact rd_fact R_p_a0 (by decide) _
    · exact rd_fact R_p_a1 (by decide) _) Try.func23 rfl (by kernel_rfl) (by kernel_rfl) fun a H => ?_
  unfold box_Subset at G
  refine k_seq ?_
  refine k_reg mixed H (.cons [4, 18] (ok_new (fun b => .pointer (some ⟨b, 0, none⟩)) (fun ν1 => [.bool false]) 4 4 18) <| .nil) (by kernel_rfl) fun ν1 a w' H => ?_
  replace H := H.toL [(0, .slot true (.slice p_a0 a0.length c_a0)), (1, .slot true (.slice p_a1 a1.length c_a1)), (4, .slot true (.pointer (some ⟨((ν1 0).n 0), 0, none⟩))), (18, .blk ((ν1 0).n 0) [.bool false] 4), (16, rdK 2 p_a0 a0.length (a0.flatMap en_TInterval)), (17, rdK 2 p_a1 a1.length (a1.flatMap en_TInterval))] (by kernel_rfl)
  refine k_seq ?_
  refine k_seq ?_
  refine k_reg mixed H (.cons [7] (ok_val (fun ν2 => .slice p_a0 a0.length c_a0) 7) <|
      .cons [8] (ok_val (fun ν2 => .slice p_a1 a1.length c_a1) 8) <|
      .cons [9, 19, 20] (ok_callB2 53 (fun ν2 => #[.slice p_a0 a0.length c_a0, .slice p_a1 a1.length c_a1]) (fun b1 b2 => .func (.func 91) #[] #[.pointer (some ⟨b1, 0, none⟩), .pointer (some ⟨b2, 0, none⟩)]) [.slice p_a0 a0.length c_a0] [.slice p_a1 a1.length c_a1] 22 22 9 19 20 (fun _ w => box_pairs.calls p_a0 p_a1 a0.length c_a0 a1.length c_a1 w)) <| .nil) (by kernel_rfl) fun ν2 a w' H => ?_
  replace H := H.toL [(4, .slot true (.pointer (some ⟨((ν1 0).n 0), 0, none⟩))), (9, .slot true (.func (.func 91) #[] #[.pointer (some ⟨((ν2 2).n 0), 0, none⟩), .pointer (some ⟨((ν2 2).n 1), 0, none⟩)])), (18, .blk ((ν1 0).n 0) [.bool false] 4), (19, .blk ((ν2 2).n 0) [.slice p_a0 a0.length c_a0] 22), (20, .blk ((ν2 2).n 1) [.slice p_a1 a1.length c_a1] 22), (16, rdK 2 p_a0 a0.length (a0.flatMap en_TInterval)), (17, rdK 2 p_a1 a1.length (a1.flatMap en_TInterval))] (by kernel_rfl)
  refine k_block ?_
  replace G := gd G; obtain ⟨b14, G⟩ := G
  refine k_range2 (α := TInterval × TInterval) (fun x => enI x.1) (fun x => enI x.2) (a0.zip a1) (pairsFx ((ν2 2).n 0) ((ν2 2).n 1) p_a0 p_a1 c_a0 c_a1 a0 a1) 21 22 (fun rs5 L => box_Subset.l6 a0 a1 rs5 = some r ∧ L = [(18, .blk ((ν1 0).n 0) [.bool false] 4), (19, .blk ((ν2 2).n 0) [.slice p_a0 a0.length c_a0] 22), (20, .blk ((ν2 2).n 1) [.slice p_a1 a1.length c_a1] 22), (16, rdK 2 p_a0 a0.length (a0.flatMap en_TInterval)), (17, rdK 2 p_a1 a1.length (a1.flatMap en_TInterval))]) (fun L => L = [(18, .blk ((ν1 0).n 0) [.bool r] 4)]) [(18, .blk ((ν1 0).n 0) [.bool false] 4), (19, .blk ((ν2 2).n 0) [.slice p_a0 a0.length c_a0] 22), (20, .blk ((ν2 2).n 1) [.slice p_a1 a1.length c_a1] 22), (16, rdK 2 p_a0 a0.length (a0.flatMap en_TInterval)), (17, rdK 2 p_a1 a1.length (a1.flatMap en_TInterval))] H (by kernel_rfl) (by kernel_rfl) (enters_fn Try.func91 (by kernel_rfl) rfl) (box_pairs_1.ok a0 a1 b14.1 b14.2 ((ν2 2).n 0) ((ν2 2).n 1) p_a0 p_a1 c_a0 c_a1) (by kernel_rfl) (by kernel_rfl) ⟨G, rfl⟩ (by kernel_rfl) (by kernel_rfl) (by kernel_rfl) (by kernel_rfl) (by kernel_rfl) ?_ ?_ ?_ ?_
  · clear H G; rintro rs L a W ⟨_, rfl⟩ H
    exact ⟨H.holds 19, H.holds 20, (rd_of (H.holds 16)), (rd_of (H.holds 17))⟩
  · clear H G; rintro l D oR oD ⟨x3, y4⟩ rs5 L a w' ⟨G, rfl⟩ H
    unfold box_Subset.l6 at G
    replace H := H.toL [(4, .slot true (.pointer (some ⟨((ν1 0).n 0), 0, none⟩))), (9, .slot true (.func (.func 91) #[] #[.pointer (some ⟨((ν2 2).n 0), 0, none⟩), .pointer (some ⟨((ν2 2).n 1), 0, none⟩)])), (10, .slot true (.agg #[.int .i64 x3.Lo, .int .i64 x3.Hi])), (11, .slot true (.agg #[.int .i64 y4.Lo, .int .i64 y4.Hi])), (18, .blk ((ν1 0).n 0) [.bool false] 4), (19, .blk ((ν2 2).n 0) [.slice p_a0 a0.length c_a0] 22), (20, .blk ((ν2 2).n 1) [.slice p_a1 a1.length c_a1] 22), (16, rdK 2 p_a0 a0.length (a0.flatMap en_TInterval)), (17, rdK 2 p_a1 a1.length (a1.flatMap en_TInterval)), (21, obK l oR), (22, obK D oD)] (by kernel_rfl)
    refine r_seq ?_
    refine r_reg mixed H (.cons [5, 23] (ok_new (fun b => .pointer (some ⟨b, 0, none⟩)) (fun ν7 => [.int .i64 0, .int .i64 0]) 40 5 23) <|
      .cons [23] (ok_as (u' := fun ν7 => [(23, .blk ((ν7 0).n 0) [.int .i64 x3.Lo, .int .i64 x3.Hi] 40)]) (ok_store 23 0 (fun ν7 => ((ν7 0).n 0)) (fun ν7 => [.int .i64 0, .int .i64 0]) (fun ν7 => [.int .i64 x3.Lo, .int .i64 x3.Hi]) 40) (fun _ => by kernel_rfl)) <| .nil) (by kernel_rfl) (by kernel_rfl) fun ν7 a w' H => ?_
    replace H := H.toL [(4, .slot true (.pointer (some ⟨((ν1 0).n 0), 0, none⟩))), (5, .slot true (.pointer (some ⟨((ν7 0).n 0), 0, none⟩))), (9, .slot true (.func (.func 91) #[] #[.pointer (some ⟨((ν2 2).n 0), 0, none⟩), .pointer (some ⟨((ν2 2).n 1), 0, none⟩)])), (11, .slot true (.agg #[.int .i64 y4.Lo, .int .i64 y4.Hi])), (18, .blk ((ν1 0).n 0) [.bool false] 4), (19, .blk ((ν2 2).n 0) [.slice p_a0 a0.length c_a0] 22), (20, .blk ((ν2 2).n 1) [.slice p_a1 a1.length c_a1] 22), (23, .blk ((ν7 0).n 0) [.int .i64 x3.Lo, .int .i64 x3.Hi] 40), (16, rdK 2 p_a0 a0.length (a0.flatMap en_TInterval)), (17, rdK 2 p_a1 a1.length (a1.flatMap en_TInterval)), (21, obK l oR), (22, obK D oD)] (by kernel_rfl)
    refine r_reg mixed H (.cons [6, 24] (ok_new (fun b => .pointer (some ⟨b, 0, none⟩)) (fun ν8 => [.int .i64 0, .int .i64 0]) 40 6 24) <|
      .cons [24] (ok_as (u' := fun ν8 => [(24, .blk ((ν8 0).n 0) [.int .i64 y4.Lo, .int .i64 y4.Hi] 40)]) (ok_store 24 0 (fun ν8 => ((ν8 0).n 0)) (fun ν8 => [.int .i64 0, .int .i64 0]) (fun ν8 => [.int .i64 y4.Lo, .int .i64 y4.Hi]) 40) (fun _ => by kernel_rfl)) <| .nil) (by kernel_rfl) (by kernel_rfl) fun ν8 a w' H => ?_
    replace H := H.toL [(4, .slot true (.pointer (some ⟨((ν1 0).n 0), 0, none⟩))), (5, .slot true (.pointer (some ⟨((ν7 0).n 0), 0, none⟩))), (6, .slot true (.pointer (some ⟨((ν8 0).n 0), 0, none⟩))), (9, .slot true (.func (.func 91) #[] #[.pointer (some ⟨((ν2 2).n 0), 0, none⟩), .pointer (some ⟨((ν2 2).n 1), 0, none⟩)])), (18, .blk ((ν1 0).n 0) [.bool false] 4), (19, .blk ((ν2 2).n 0) [.slice p_a0 a0.length c_a0] 22), (20, .blk ((ν2 2).n 1) [.slice p_a1 a1.length c_a1] 22), (23, .blk ((ν7 0).n 0) [.int .i64 x3.Lo, .int .i64 x3.Hi] 40), (24, .blk ((ν8 0).n 0) [.int .i64 y4.Lo, .int .i64 y4.Hi] 40), (16, rdK 2 p_a0 a0.length (a0.flatMap en_TInterval)), (17, rdK 2 p_a1 a1.length (a1.flatMap en_TInterval)), (21, obK l oR), (22, obK D oD)] (by kernel_rfl)
    refine ⟨_, H, by kernel_rfl, fun oB w' H => ?_⟩
    replace H := H.toL [(4, .slot true (.pointer (some ⟨((ν1 0).n 0), 0, none⟩))), (5, .slot true (.pointer (some ⟨((ν7 0).n 0), 0, none⟩))), (6, .slot true (.pointer (some ⟨((ν8 0).n 0), 0, none⟩))), (9, .slot true (.func (.func 91) #[] #[.pointer (some ⟨((ν2 2).n 0), 0, none⟩), .pointer (some ⟨((ν2 2).n 1), 0, none⟩)])), (18, .blk ((ν1 0).n 0) [.bool false] 4), (19, .blk ((ν2 2).n 0) [.slice p_a0 a0.length c_a0] 22), (20, .blk ((ν2 2).n 1) [.slice p_a1 a1.length c_a1] 22), (23, .blk ((ν7 0).n 0) [.int .i64 x3.Lo, .int .i64 x3.Hi] 40), (24, .blk ((ν8 0).n 0) [.int .i64 y4.Lo, .int .i64 y4.Hi] 40), (16, rdK 2 p_a0 a0.length (a0.flatMap en_TInterval)), (17, rdK 2 p_a1 a1.length (a1.flatMap en_TInterval)), (21, obK l oB), (22, obK D oD)] (by kernel_rfl)
    refine r_block ?_
    refine r_seq ?_
    replace G := bnd G; obtain ⟨t10, ht10, G⟩ := G
    refine r_reg mixed H (.cons [12] (ok_ld (fun ν9 => .agg #[.int .i64 x3.Lo, .int .i64 x3.Hi]) 12 23 0 2 (fun ν9 => ((ν7 0).n 0)) (fun ν9 => [.int .i64 x3.Lo, .int .i64 x3.Hi]) 40) <|
      .cons [13] (ok_ld (fun ν9 => .agg #[.int .i64 y4.Lo, .int .i64 y4.Hi]) 13 24 0 2 (fun ν9 => ((ν8 0).n 0)) (fun ν9 => [.int .i64 y4.Lo, .int .i64 y4.Hi]) 40) <|
      .cons [14] (ok_callv 61 (fun ν9 => #[.agg #[.int .i64 x3.Lo, .int .i64 x3.Hi], .agg #[.int .i64 y4.Lo, .int .i64 y4.Hi]]) (.bool t10) 14 [] (fun _ w _ => interval_Subset.calls x3 y4 t10 w ht10)) <|
      .cons [15] (ok_val (fun ν9 => .bool (!t10)) 15) <| .nil) (by kernel_rfl) (by kernel_rfl) fun ν9 a w' H => ?_
    replace H := H.toL [(4, .slot true (.pointer (some ⟨((ν1 0).n 0), 0, none⟩))), (9, .slot true (.func (.func 91) #[] #[.pointer (some ⟨((ν2 2).n 0), 0, none⟩), .pointer (some ⟨((ν2 2).n 1), 0, none⟩)])), (15, .slot true (.bool (!t10))), (18, .blk ((ν1 0).n 0) [.bool false] 4), (19, .blk ((ν2 2).n 0) [.slice p_a0 a0.length c_a0] 22), (20, .blk ((ν2 2).n 1) [.slice p_a1 a1.length c_a1] 22), (16, rdK 2 p_a0 a0.length (a0.flatMap en_TInterval)), (17, rdK 2 p_a1 a1.length (a1.flatMap en_TInterval)), (21, obK l oB), (22, obK D oD)] (by kernel_rfl)
    refine r_cond H (by kernel_rfl) (t := (!t10)) (by kernel_rfl) (fun c12 => ?_) (fun c12 => ?_)
    · rw [if_pos c12] at G
      refine r_seq ?_
      refine r_reg mixed H (.cons [18] (ok_as (u' := fun ν11 => [(18, .blk ((ν1 0).n 0) [.bool false] 4)]) (ok_store 18 0 (fun ν11 => ((ν1 0).n 0)) (fun ν11 => [.bool false]) (fun ν11 => [.bool false]) 4) (fun _ => by kernel_rfl)) <| .nil) (by kernel_rfl) (by kernel_rfl) fun ν11 a w' H => ?_
      replace H := H.toL [(4, .slot true (.pointer (some ⟨((ν1 0).n 0), 0, none⟩))), (9, .slot true (.func (.func 91) #[] #[.pointer (some ⟨((ν2 2).n 0), 0, none⟩), .pointer (some ⟨((ν2 2).n 1), 0, none⟩)])), (18, .blk ((ν1 0).n 0) [.bool false] 4), (19, .blk ((ν2 2).n 0) [.slice p_a0 a0.length c_a0] 22), (20, .blk ((ν2 2).n 1) [.slice p_a1 a1.length c_a1] 22), (16, rdK 2 p_a0 a0.length (a0.flatMap en_TInterval)), (17, rdK 2 p_a1 a1.length (a1.flatMap en_TInterval)), (21, obK l oB), (22, obK D oD)] (by kernel_rfl)
      refine r_ret ?_
      obtain rfl := Option.some.inj G
      exact ⟨[(18, .blk ((ν1 0).n 0) [.bool false] 4)], rfl, by kernel_rfl, H.toL _ (by kernel_rfl)⟩
    · rw [if_neg (nt c12)] at G
      refine r_skip ?_
      exact ⟨[(18, .blk ((ν1 0).n 0) [.bool false] 4), (19, .blk ((ν2 2).n 0) [.slice p_a0 a0.length c_a0] 22), (20, .blk ((ν2 2).n 1) [.slice p_a1 a1.length c_a1] 22), (16, rdK 2 p_a0 a0.length (a0.flatMap en_TInterval)), (17, rdK 2 p_a1 a1.length (a1.flatMap en_TInterval))], ⟨G, rfl⟩, by kernel_rfl, H.toL _ (by kernel_rfl)⟩
  · clear H G; rintro D L W ⟨G, rfl⟩ H
    unfold box_Subset.l6 at G
    replace H := H.toL [(4, .slot true (.pointer (some ⟨((ν1 0).n 0), 0, none⟩))), (9, .slot true (.func (.func 91) #[] #[.pointer (some ⟨((ν2 2).n 0), 0, none⟩), .pointer (some ⟨((ν2 2).n 1), 0, none⟩)])), (18, .blk ((ν1 0).n 0) [.bool false] 4), (19, .blk ((ν2 2).n 0) [.slice p_a0 a0.length c_a0] 22), (20, .blk ((ν2 2).n 1) [.slice p_a1 a1.length c_a1] 22), (16, rdK 2 p_a0 a0.length (a0.flatMap en_TInterval)), (17, rdK 2 p_a1 a1.length (a1.flatMap en_TInterval)), (22, obK D (.deferred (some [])))] (by kernel_rfl)
    refine k_after ?_
    refine r_seq ?_
    refine r_reg mixed H (.cons [18] (ok_as (u' := fun ν13 => [(18, .blk ((ν1 0).n 0) [.bool true] 4)]) (ok_store 18 0 (fun ν13 => ((ν1 0).n 0)) (fun ν13 => [.bool false]) (fun ν13 => [.bool true]) 4) (fun _ => by kernel_rfl)) <| .nil) (by kernel_rfl) (by kernel_rfl) fun ν13 a w' H => ?_
    replace H := H.toL [(4, .slot true (.pointer (some ⟨((ν1 0).n 0), 0, none⟩))), (18, .blk ((ν1 0).n 0) [.bool true] 4), (22, obK D (.deferred (some [])))] (by kernel_rfl)
    refine r_ret ?_
    obtain rfl := Option.some.inj G
    refine k_mark 22 H (by kernel_rfl) fun w' H => ?_
    exact k_done1 H _ 18 ((ν1 0).n 0) [.bool true] 4 0 1 (by kernel_rfl) (by kernel_rfl) (by kernel_rfl) (by kernel_rfl)
  · clear H G; rintro D L W rfl H
    replace H := H.toL [(4, .slot true (.pointer (some ⟨((ν1 0).n 0), 0, none⟩))), (18, .blk ((ν1 0).n 0) [.bool r] 4), (22, obK D (.deferred (some [])))] (by kernel_rfl)
    refine k_mark 22 H (by kernel_rfl) fun w' H => ?_
    exact k_done1 H _ 18 ((ν1 0).n 0) [.bool r] 4 0 1 (by kernel_rfl) (by kernel_rfl) (by kernel_rfl) (by kernel_rfl)

set_option maxHeartbeats 4000000 in
theorem interval_Hull.calls (a0 : TInterval) (a1 : TInterval) (r : TInterval) (w : World) (G : interval_Hull a0 a1 = some r) :
    Calls Try.prog 63 #[.agg #[.int .i64 a0.Lo, .int .i64 a0.Hi], .agg #[.int .i64 a1.Lo, .int .i64 a1.Hi]] w fun e w' => e = .returned (.agg #[.int .i64 r.Lo, .int .i64 r.Hi]) ∧ Below w.heap.size w w' := by
  refine k_enter (args := [.agg #[.int .i64 a0.Lo, .int .i64 a0.Hi], .agg #[.int .i64 a1.Lo, .int .i64 a1.Hi]]) 16 Try.func63 rfl (by kernel_rfl) (by kernel_rfl) fun a H => ?_
  unfold interval_Hull at G
  refine k_seq ?_
  refine k_reg mixed H (.cons [2, 16] (ok_new (fun b => .pointer (some ⟨b, 0, none⟩)) (fun ν1 => [.int .i64 a0.Lo, .int .i64 a0.Hi]) 40 2 16) <|
      .cons [3, 17] (ok_new (fun b => .pointer (some ⟨b, 0, none⟩)) (fun ν1 => [.int .i64 a1.Lo, .int .i64 a1.Hi]) 40 3 17) <|
      .cons [4, 18] (ok_new (fun b => .pointer (some ⟨b, 0, none⟩)) (fun ν1 => [.int .i64 0, .int .i64 0]) 40 4 18) <| .nil) (by kernel_rfl) fun ν1 a w' H => ?_
  replace H := H.toL [(2, .slot true (.pointer (some ⟨((ν1 0).n 0), 0, none⟩))), (3, .slot true (.pointer (some ⟨((ν1 1).n 0), 0, none⟩))), (4, .slot true (.pointer (some ⟨((ν1 2).n 0), 0, none⟩))), (16, .blk ((ν1 0).n 0) [.int .i64 a0.Lo, .int .i64 a0.Hi] 40), (17, .blk ((ν1 1).n 0) [.int .i64 a1.Lo, .int .i64 a1.Hi] 40), (18, .blk ((ν1 2).n 0) [.int .i64 0, .int .i64 0] 40)] (by kernel_rfl)
  refine k_seq ?_
  refine k_reg mixed H (.cons [5] (ok_val (fun ν2 => .pointer (some ⟨((ν1 0).n 0), 0, none⟩)) 5) <|
      .cons [6] (ok_ld (fun ν2 => .int .i64 a0.Lo) 6 16 0 1 (fun ν2 => ((ν1 0).n 0)) (fun ν2 => [.int .i64 a0.Lo, .int .i64 a0.Hi]) 40) <|
      .cons [7] (ok_val (fun ν2 => .pointer (some ⟨((ν1 1).n 0), 0, none⟩)) 7) <|
      .cons [8] (ok_ld (fun ν2 => .int .i64 a1.Lo) 8 17 0 1 (fun ν2 => ((ν1 1).n 0)) (fun ν2 => [.int .i64 a1.Lo, .int .i64 a1.Hi]) 40) <|
      .cons [9] (ok_val (fun ν2 => .int .i64 (mn a0.Lo a1.Lo)) 9) <|
      .cons [10] (ok_val (fun ν2 => .pointer (some ⟨((ν1 0).n 0), 1, none⟩)) 10) <|
      .cons [11] (ok_ld (fun ν2 => .int .i64 a0.Hi) 11 16 1 1 (fun ν2 => ((ν1 0).n 0)) (fun ν2 => [.int .i64 a0.Lo, .int .i64 a0.Hi]) 40) <|
      .cons [12] (ok_val (fun ν2 => .pointer (some ⟨((ν1 1).n 0), 1, none⟩)) 12) <|
      .cons [13] (ok_ld (fun ν2 => .int .i64 a1.Hi) 13 17 1 1 (fun ν2 => ((ν1 1).n 0)) (fun ν2 => [.int .i64 a1.Lo, .int .i64 a1.Hi]) 40) <|
      .cons [14] (ok_val (fun ν2 => .int .i64 (mx a0.Hi a1.Hi)) 14) <|
      .cons [15] (ok_val (fun ν2 => .agg #[.int .i64 (mn a0.Lo a1.Lo), .int .i64 (mx a0.Hi a1.Hi)]) 15) <|
      .cons [18] (ok_as (u' := fun ν2 => [(18, .blk ((ν1 2).n 0) [.int .i64 (mn a0.Lo a1.Lo), .int .i64 (mx a0.Hi a1.Hi)] 40)]) (ok_store 18 0 (fun ν2 => ((ν1 2).n 0)) (fun ν2 => [.int .i64 0, .int .i64 0]) (fun ν2 => [.int .i64 (mn a0.Lo a1.Lo), .int .i64 (mx a0.Hi a1.Hi)]) 40) (fun _ => by kernel_rfl)) <| .nil) (by kernel_rfl) fun ν2 a w' H => ?_
  replace H := H.toL [(4, .slot true (.pointer (some ⟨((ν1 2).n 0), 0, none⟩))), (18, .blk ((ν1 2).n 0) [.int .i64 (mn a0.Lo a1.Lo), .int .i64 (mx a0.Hi a1.Hi)] 40)] (by kernel_rfl)
  refine k_ret ?_
  obtain rfl := Option.some.inj G
  exact k_done1 H _ 18 ((ν1 2).n 0) [.int .i64 (mn a0.Lo a1.Lo), .int .i64 (mx a0.Hi a1.Hi)] 40 0 2 (by kernel_rfl) (by kernel_rfl) (by kernel_rfl) (by kernel_rfl)

set_option maxHeartbeats 4000000 in
theorem box_Hull.calls (a0 : List TInterval) (a1 : List TInterval) (p_a0 : Option Addr) (c_a0 : Nat) (p_a1 : Option Addr) (c_a1 : Nat) (r : List TInterval) (w : World) (R_p_a0 : RowAt w 2 p_a0 a0.length (a0.flatMap en_TInterval)) (R_p_a1 : RowAt w 2 p_a1 a1.length (a1.flatMap en_TInterval)) (G : box_Hull a0 a1 = some r) :
    Calls Try.prog 26 #[.slice p_a0 a0.length c_a0, .slice p_a1 a1.length c_a1] w fun e w' => ∃ p cap, e = .returned (.slice p r.length cap) ∧ Below w.heap.size w w' ∧ w'.ownsRow w.heap.size 40 2 (.slice p r.length cap) r.length (r.flatMap en_TInterval) := by
  refine k_enterM (args := [.slice p_a0 a0.length c_a0, .slice p_a1 a1.length c_a1]) 20 [(20, rdK 2 p_a0 a0.length (a0.flatMap en_TInterval)), (21, rdK 2 p_a1 a1.length (a1.flatMap en_TInterval))] (by
    intro x hx
    simp only [List.mem_cons, List.not_mem_nil, or_false] at hx
    rcases hx with rfl | rfl
    · exact rd_fact R_p_a0 (by decide) _
    · exact rd_fact R_p_a1 (by decide) _) Try.func26 rfl (by kernel_rfl) (by kernel_rfl) fun a H => ?_
  unfold box_Hull at G
  refine k_seq ?_
  refine k_reg mixed H (.cons [4] (ok_val (fun ν1 => .slice none 0 0) 4) <| .nil) (by kernel_rfl) fun ν1 a w' H => ?_
  replace H := H.toL [(0, .slot true (.slice p_a0 a0.length c_a0)), (1, .slot true (.slice p_a1 a1.length c_a1)), (4, .slot true (.slice none 0 0)), (20, rdK 2 p_a0 a0.length (a0.flatMap en_TInterval)), (21, rdK 2 p_a1 a1.length (a1.flatMap en_TInterval))] (by kernel_rfl)
  refine k_seq ?_
  refine k_reg mixed H (.cons [5, 22] (ok_new (fun b => .pointer (some ⟨b, 0, none⟩)) (fun ν2 => [.slice none 0 0]) 22 5 22) <| .nil) (by kernel_rfl) fun ν2 a w' H => ?_
  replace H := H.toL [(0, .slot true (.slice p_a0 a0.length c_a0)), (1, .slot true (.slice p_a1 a1.length c_a1)), (4, .slot true (.slice none 0 0)), (5, .slot true (.pointer (some ⟨((ν2 0).n 0), 0, none⟩))), (22, .blk ((ν2 0).n 0) [.slice none 0 0] 22), (20, rdK 2 p_a0 a0.length (a0.flatMap en_TInterval)), (21, rdK 2 p_a1 a1.length (a1.flatMap en_TInterval))] (by kernel_rfl)
  refine k_seq ?_
  refine k_seq ?_
  refine k_reg mixed H (.cons [8] (ok_val (fun ν3 => .slice p_a0 a0.length c_a0) 8) <|
      .cons [9] (ok_val (fun ν3 => .slice p_a1 a1.length c_a1) 9) <|
      .cons [10, 23, 24] (ok_callB2 53 (fun ν3 => #[.slice p_a0 a0.length c_a0, .slice p_a1 a1.length c_a1]) (fun b1 b2 => .func (.func 91) #[] #[.pointer (some ⟨b1, 0, none⟩), .pointer (some ⟨b2, 0, none⟩)]) [.slice p_a0 a0.length c_a0] [.slice p_a1 a1.length c_a1] 22 22 10 23 24 (fun _ w => box_pairs.calls p_a0 p_a1 a0.length c_a0 a1.length c_a1 w)) <| .nil) (by kernel_rfl) fun ν3 a w' H => ?_
  replace H := H.toL [(4, .slot true (.slice none 0 0)), (5, .slot true (.pointer (some ⟨((ν2 0).n 0), 0, none⟩))), (10, .slot true (.func (.func 91) #[] #[.pointer (some ⟨((ν3 2).n 0), 0, none⟩), .pointer (some ⟨((ν3 2).n 1), 0, none⟩)])), (22, .blk ((ν2 0).n 0) [.slice none 0 0] 22), (23, .blk ((ν3 2).n 0) [.slice p_a0 a0.length c_a0] 22), (24, .blk ((ν3 2).n 1) [.slice p_a1 a1.length c_a1] 22), (20, rdK 2 p_a0 a0.length (a0.flatMap en_TInterval)), (21, rdK 2 p_a1 a1.length (a1.flatMap en_TInterval))] (by kernel_rfl)
  refine k_block ?_
  replace H := H.nil_row 25 40 2
  replace G := gd G; obtain ⟨b15, G⟩ := G
  refine k_range2 (α := TInterval × TInterval) (fun x => enI x.1) (fun x => enI x.2) (a0.zip a1) (pairsFx ((ν3 2).n 0) ((ν3 2).n 1) p_a0 p_a1 c_a0 c_a1 a0 a1) 26 27 (fun rs6 L => ∃ x7 : List TInterval, ∃ (p_x7 : Option Addr) (c_x7 : Nat), box_Hull.l8 a0 a1 rs6 x7 = some r ∧ L = [(22, .blk ((ν2 0).n 0) [.slice p_x7 x7.length c_x7] 22), (23, .blk ((ν3 2).n 0) [.slice p_a0 a0.length c_a0] 22), (24, .blk ((ν3 2).n 1) [.slice p_a1 a1.length c_a1] 22), (20, rdK 2 p_a0 a0.length (a0.flatMap en_TInterval)), (21, rdK 2 p_a1 a1.length (a1.flatMap en_TInterval)), (25, owK 40 2 p_x7 x7.length c_x7 (x7.flatMap en_TInterval))]) (fun _ => False) [(22, .blk ((ν2 0).n 0) [.slice none ([] : List TInterval).length 0] 22), (23, .blk ((ν3 2).n 0) [.slice p_a0 a0.length c_a0] 22), (24, .blk ((ν3 2).n 1) [.slice p_a1 a1.length c_a1] 22), (20, rdK 2 p_a0 a0.length (a0.flatMap en_TInterval)), (21, rdK 2 p_a1 a1.length (a1.flatMap en_TInterval)), (25, owK 40 2 none ([] : List TInterval).length 0 (([] : List TInterval).flatMap en_TInterval))] H (by kernel_rfl) (by kernel_rfl) (enters_fn Try.func91 (by kernel_rfl) rfl) (box_pairs_1.ok a0 a1 b15.1 b15.2 ((ν3 2).n 0) ((ν3 2).n 1) p_a0 p_a1 c_a0 c_a1) (by kernel_rfl) (by kernel_rfl) ⟨_, none, 0, G, rfl⟩ (by kernel_rfl) (by kernel_rfl) (by kernel_rfl) (by kernel_rfl) (by kernel_rfl) ?_ ?_ ?_ ?_
  · clear H G; rintro rs L a W ⟨x7, p_x7, c_x7, _, rfl⟩ H
    exact ⟨H.holds 23, H.holds 24, (rd_of (H.holds 20)), (rd_of (H.holds 21))⟩
  · clear H G; rintro l D oR oD ⟨x4, y5⟩ rs6 L a w' ⟨x7, p_x7, c_x7, G, rfl⟩ H
    unfold box_Hull.l8 at G
    replace H := H.toL [(4, .slot true (.slice none 0 0)), (5, .slot true (.pointer (some ⟨((ν2 0).n 0), 0, none⟩))), (10, .slot true (.func (.func 91) #[] #[.pointer (some ⟨((ν3 2).n 0), 0, none⟩), .pointer (some ⟨((ν3 2).n 1), 0, none⟩)])), (11, .slot true (.agg #[.int .i64 x4.Lo, .int .i64 x4.Hi])), (12, .slot true (.agg #[.int .i64 y5.Lo, .int .i64 y5.Hi])), (22, .blk ((ν2 0).n 0) [.slice p_x7 x7.length c_x7] 22), (23, .blk ((ν3 2).n 0) [.slice p_a0 a0.length c_a0] 22), (24, .blk ((ν3 2).n 1) [.slice p_a1 a1.length c_a1] 22), (20, rdK 2 p_a0 a0.length (a0.flatMap en_TInterval)), (21, rdK 2 p_a1 a1.length (a1.flatMap en_TInterval)), (25, owK 40 2 p_x7 x7.length c_x7 (x7.flatMap en_TInterval)), (26, obK l oR), (27, obK D oD)] (by kernel_rfl)
    refine r_seq ?_
    refine r_reg mixed H (.cons [6, 28] (ok_new (fun b => .pointer (some ⟨b, 0, none⟩)) (fun ν9 => [.int .i64 0, .int .i64 0]) 40 6 28) <|
      .cons [28] (ok_as (u' := fun ν9 => [(28, .blk ((ν9 0).n 0) [.int .i64 x4.Lo, .int .i64 x4.Hi] 40)]) (ok_store 28 0 (fun ν9 => ((ν9 0).n 0)) (fun ν9 => [.int .i64 0, .int .i64 0]) (fun ν9 => [.int .i64 x4.Lo, .int .i64 x4.Hi]) 40) (fun _ => by kernel_rfl)) <| .nil) (by kernel_rfl) (by kernel_rfl) fun ν9 a w' H => ?_
    replace H := H.toL [(4, .slot true (.slice none 0 0)), (5, .slot true (.pointer (some ⟨((ν2 0).n 0), 0, none⟩))), (6, .slot true (.pointer (some ⟨((ν9 0).n 0), 0, none⟩))), (10, .slot true (.func (.func 91) #[] #[.pointer (some ⟨((ν3 2).n 0), 0, none⟩), .pointer (some ⟨((ν3 2).n 1), 0, none⟩)])), (12, .slot true (.agg #[.int .i64 y5.Lo, .int .i64 y5.Hi])), (22, .blk ((ν2 0).n 0) [.slice p_x7 x7.length c_x7] 22), (23, .blk ((ν3 2).n 0) [.slice p_a0 a0.length c_a0] 22), (24, .blk ((ν3 2).n 1) [.slice p_a1 a1.length c_a1] 22), (28, .blk ((ν9 0).n 0) [.int .i64 x4.Lo, .int .i64 x4.Hi] 40), (20, rdK 2 p_a0 a0.length (a0.flatMap en_TInterval)), (21, rdK 2 p_a1 a1.length (a1.flatMap en_TInterval)), (25, owK 40 2 p_x7 x7.length c_x7 (x7.flatMap en_TInterval)), (26, obK l oR), (27, obK D oD)] (by kernel_rfl)
    refine r_reg mixed H (.cons [7, 29] (ok_new (fun b => .pointer (some ⟨b, 0, none⟩)) (fun ν10 => [.int .i64 0, .int .i64 0]) 40 7 29) <|
      .cons [29] (ok_as (u' := fun ν10 => [(29, .blk ((ν10 0).n 0) [.int .i64 y5.Lo, .int .i64 y5.Hi] 40)]) (ok_store 29 0 (fun ν10 => ((ν10 0).n 0)) (fun ν10 => [.int .i64 0, .int .i64 0]) (fun ν10 => [.int .i64 y5.Lo, .int .i64 y5.Hi]) 40) (fun _ => by kernel_rfl)) <| .nil) (by kernel_rfl) (by kernel_rfl) fun ν10 a w' H => ?_
    replace H := H.toL [(4, .slot true (.slice none 0 0)), (5, .slot true (.pointer (some ⟨((ν2 0).n 0), 0, none⟩))), (6, .slot true (.pointer (some ⟨((ν9 0).n 0), 0, none⟩))), (7, .slot true (.pointer (some ⟨((ν10 0).n 0), 0, none⟩))), (10, .slot true (.func (.func 91) #[] #[.pointer (some ⟨((ν3 2).n 0), 0, none⟩), .pointer (some ⟨((ν3 2).n 1), 0, none⟩)])), (22, .blk ((ν2 0).n 0) [.slice p_x7 x7.length c_x7] 22), (23, .blk ((ν3 2).n 0) [.slice p_a0 a0.length c_a0] 22), (24, .blk ((ν3 2).n 1) [.slice p_a1 a1.length c_a1] 22), (28, .blk ((ν9 0).n 0) [.int .i64 x4.Lo, .int .i64 x4.Hi] 40), (29, .blk ((ν10 0).n 0) [.int .i64 y5.Lo, .int .i64 y5.Hi] 40), (20, rdK 2 p_a0 a0.length (a0.flatMap en_TInterval)), (21, rdK 2 p_a1 a1.length (a1.flatMap en_TInterval)), (25, owK 40 2 p_x7 x7.length c_x7 (x7.flatMap en_TInterval)), (26, obK l oR), (27, obK D oD)] (by kernel_rfl)
    refine ⟨_, H, by kernel_rfl, fun oB w' H => ?_⟩
    replace H := H.toL [(4, .slot true (.slice none 0 0)), (5, .slot true (.pointer (some ⟨((ν2 0).n 0), 0, none⟩))), (6, .slot true (.pointer (some ⟨((ν9 0).n 0), 0, none⟩))), (7, .slot true (.pointer (some ⟨((ν10 0).n 0), 0, none⟩))), (10, .slot true (.func (.func 91) #[] #[.pointer (some ⟨((ν3 2).n 0), 0, none⟩), .pointer (some ⟨((ν3 2).n 1), 0, none⟩)])), (22, .blk ((ν2 0).n 0) [.slice p_x7 x7.length c_x7] 22), (23, .blk ((ν3 2).n 0) [.slice p_a0 a0.length c_a0] 22), (24, .blk ((ν3 2).n 1) [.slice p_a1 a1.length c_a1] 22), (28, .blk ((ν9 0).n 0) [.int .i64 x4.Lo, .int .i64 x4.Hi] 40), (29, .blk ((ν10 0).n 0) [.int .i64 y5.Lo, .int .i64 y5.Hi] 40), (20, rdK 2 p_a0 a0.length (a0.flatMap en_TInterval)), (21, rdK 2 p_a1 a1.length (a1.flatMap en_TInterval)), (25, owK 40 2 p_x7 x7.length c_x7 (x7.flatMap en_TInterval)), (26, obK l oB), (27, obK D oD)] (by kernel_rfl)
    refine r_block ?_
    replace G := bnd G; obtain ⟨t12, ht12, G⟩ := G
    replace G := gd G; obtain ⟨b13, G⟩ := G
    refine r_reg mixed H (.cons [13] (ok_ld (fun ν11 => .slice p_x7 x7.length c_x7) 13 22 0 1 (fun ν11 => ((ν2 0).n 0)) (fun ν11 => [.slice p_x7 x7.length c_x7]) 22) <|
      .cons [14] (ok_ld (fun ν11 => .agg #[.int .i64 x4.Lo, .int .i64 x4.Hi]) 14 28 0 2 (fun ν11 => ((ν9 0).n 0)) (fun ν11 => [.int .i64 x4.Lo, .int .i64 x4.Hi]) 40) <|
      .cons [15] (ok_ld (fun ν11 => .agg #[.int .i64 y5.Lo, .int .i64 y5.Hi]) 15 29 0 2 (fun ν11 => ((ν10 0).n 0)) (fun ν11 => [.int .i64 y5.Lo, .int .i64 y5.Hi]) 40) <|
      .cons [16] (ok_callv 63 (fun ν11 => #[.agg #[.int .i64 x4.Lo, .int .i64 x4.Hi], .agg #[.int .i64 y5.Lo, .int .i64 y5.Hi]]) (.agg #[.int .i64 t12.Lo, .int .i64 t12.Hi]) 16 [] (fun _ w _ => interval_Hull.calls x4 y5 t12 w ht12)) <|
      .cons [17, 30] (ok_new (fun b => .slice (some ⟨b, 0, none⟩) 1 1) (fun ν11 => [.int .i64 t12.Lo, .int .i64 t12.Hi]) 40 17 30) <|
      .cons [18, 25] (ok_rowL [25, 30] (fun ν11 => [owK 40 2 p_x7 x7.length c_x7 (x7.flatMap en_TInterval), .blk ((ν11 4).n 0) [.int .i64 t12.Lo, .int .i64 t12.Hi] 40]) 40 2 (x7 ++ [t12]).length ((x7 ++ [t12]).flatMap en_TInterval) 18 25 (fun ν11 => owK 40 2 p_x7 x7.length c_x7 (x7.flatMap en_TInterval)) (fun ν11 w hF => run_app_row (t := 22) (ty := 22) (en := en_TInterval) en_TInterval_len inf40 (ow_of hF.1) hF.2.1 (news := [t12]) rfl (by simp) (by kernel_rfl) b13) (fun _ => .inr trivial)) <|
      .cons [22] (ok_as (u' := fun ν11 => [(22, .blk ((ν2 0).n 0) [.slice ((ν11 5).o 0) (x7 ++ [t12]).length ((ν11 5).n 0)] 22)]) (ok_store 22 0 (fun ν11 => ((ν2 0).n 0)) (fun ν11 => [.slice p_x7 x7.length c_x7]) (fun ν11 => [.slice ((ν11 5).o 0) (x7 ++ [t12]).length ((ν11 5).n 0)]) 22) (fun _ => by kernel_rfl)) <| .nil) (by kernel_rfl) (by kernel_rfl) fun ν11 a w' H => ?_
    replace H := H.toL [(4, .slot true (.slice none 0 0)), (5, .slot true (.pointer (some ⟨((ν2 0).n 0), 0, none⟩))), (10, .slot true (.func (.func 91) #[] #[.pointer (some ⟨((ν3 2).n 0), 0, none⟩), .pointer (some ⟨((ν3 2).n 1), 0, none⟩)])), (22, .blk ((ν2 0).n 0) [.slice ((ν11 5).o 0) (x7 ++ [t12]).length ((ν11 5).n 0)] 22), (23, .blk ((ν3 2).n 0) [.slice p_a0 a0.length c_a0] 22), (24, .blk ((ν3 2).n 1) [.slice p_a1 a1.length c_a1] 22), (20, rdK 2 p_a0 a0.length (a0.flatMap en_TInterval)), (21, rdK 2 p_a1 a1.length (a1.flatMap en_TInterval)), (25, owK 40 2 ((ν11 5).o 0) (x7 ++ [t12]).length ((ν11 5).n 0) ((x7 ++ [t12]).flatMap en_TInterval)), (26, obK l oB), (27, obK D oD)] (by kernel_rfl)
    exact ⟨[(22, .blk ((ν2 0).n 0) [.slice ((ν11 5).o 0) (x7 ++ [t12]).length ((ν11 5).n 0)] 22), (23, .blk ((ν3 2).n 0) [.slice p_a0 a0.length c_a0] 22), (24, .blk ((ν3 2).n 1) [.slice p_a1 a1.length c_a1] 22), (20, rdK 2 p_a0 a0.length (a0.flatMap en_TInterval)), (21, rdK 2 p_a1 a1.length (a1.flatMap en_TInterval)), (25, owK 40 2 ((ν11 5).o 0) (x7 ++ [t12]).length ((ν11 5).n 0) ((x7 ++ [t12]).flatMap en_TInterval))], ⟨_, ((ν11 5).o 0), ((ν11 5).n 0), G, rfl⟩, by kernel_rfl, H.toL _ (by kernel_rfl)⟩
  · clear H G; rintro D L W ⟨x7, p_x7, c_x7, G, rfl⟩ H
    unfold box_Hull.l8 at G
    replace H := H.toL [(4, .slot true (.slice none 0 0)), (5, .slot true (.pointer (some ⟨((ν2 0).n 0), 0, none⟩))), (10, .slot true (.func (.func 91) #[] #[.pointer (some ⟨((ν3 2).n 0), 0, none⟩), .pointer (some ⟨((ν3 2).n 1), 0, none⟩)])), (22, .blk ((ν2 0).n 0) [.slice p_x7 x7.length c_x7] 22), (23, .blk ((ν3 2).n 0) [.slice p_a0 a0.length c_a0] 22), (24, .blk ((ν3 2).n 1) [.slice p_a1 a1.length c_a1] 22), (20, rdK 2 p_a0 a0.length (a0.flatMap en_TInterval)), (21, rdK 2 p_a1 a1.length (a1.flatMap en_TInterval)), (25, owK 40 2 p_x7 x7.length c_x7 (x7.flatMap en_TInterval)), (27, obK D (.deferred (some [])))] (by kernel_rfl)
    refine k_after ?_
    refine r_seq ?_
    refine r_reg mixed H (.cons [19] (ok_ld (fun ν14 => .slice p_x7 x7.length c_x7) 19 22 0 1 (fun ν14 => ((ν2 0).n 0)) (fun ν14 => [.slice p_x7 x7.length c_x7]) 22) <|
      .cons [4] (ok_val (fun ν14 => .slice p_x7 x7.length c_x7) 4) <| .nil) (by kernel_rfl) (by kernel_rfl) fun ν14 a w' H => ?_
    replace H := H.toL [(4, .slot true (.slice p_x7 x7.length c_x7)), (25, owK 40 2 p_x7 x7.length c_x7 (x7.flatMap en_TInterval)), (27, obK D (.deferred (some [])))] (by kernel_rfl)
    refine r_ret ?_
    obtain rfl := Option.some.inj G
    refine k_mark 27 H (by kernel_rfl) fun w' H => ?_
    exact k_doneR H (fun p cap => .slice p x7.length cap) p_x7 c_x7 [] 25 40 2 x7.length (x7.flatMap en_TInterval) (by kernel_rfl) (by kernel_rfl) (by simp) (by kernel_rfl)
  · clear H G; rintro D L W h H; exact h.elim

set_option maxHeartbeats 4000000 in
theorem interval_New.calls (a0 : Int) (a1 : Int) (r : TInterval) (w : World) (G : interval_New a0 a1 = some r) :
    Calls Try.prog 74 #[.int .i64 a0, .int .i64 a1] w fun e w' => e = .returned (.agg #[.int .i64 r.Lo, .int .i64 r.Hi]) ∧ Below w.heap.size w w' := by
  refine k_enter (args := [.int .i64 a0, .int .i64 a1]) 23 Try.func74 rfl (by kernel_rfl) (by kernel_rfl) fun a H => ?_
  unfold interval_New at G
  refine k_seq ?_
  refine k_reg mixed H (.cons [4, 23] (ok_new (fun b => .pointer (some ⟨b, 0, none⟩)) (fun ν1 => [.int .i64 0, .int .i64 0]) 40 4 23) <| .nil) (by kernel_rfl) fun ν1 a w' H => ?_
  replace H := H.toL [(0, .slot true (.int .i64 a0)), (1, .slot true (.int .i64 a1)), (4, .slot true (.pointer (some ⟨((ν1 0).n 0), 0, none⟩))), (23, .blk ((ν1 0).n 0) [.int .i64 0, .int .i64 0] 40)] (by kernel_rfl)
  refine k_seq ?_
  refine k_seq ?_
  replace G := bnd G; obtain ⟨z3, hz3, G⟩ := G
  replace hz3 := Option.some.inj hz3
  refine k_reg mixed H (.cons [5] (ok_val (fun ν2 => .int .i64 a0) 5) <|
      .cons [6] (ok_val (fun ν2 => .bool (decide (a0 ≤ (-2147483648)))) 6) <|
      .cons [7] (ok_val (fun ν2 => .bool (decide (a0 ≤ (-2147483648)))) 7) <|
      .cons [8] (ok_valg (fun ν2 => .int .i64 a1) (fun ν2 => ((decide (a0 ≤ (-2147483648))) == false)) [true] 8) <|
      .cons [9] (ok_valg (fun ν2 => .bool (decide (a1 ≥ 2147483648))) (fun ν2 => ((decide (a0 ≤ (-2147483648))) == false)) [false, true] 9) <|
      .cons [10] (ok_or 7 9 (fun ν2 => true) (fun ν2 => true) (fun ν2 => decide (a0 ≤ (-2147483648))) (fun ν2 => decide (a1 ≥ 2147483648)) 10) <|
      .cons [11] (ok_val (fun ν2 => .bool ((decide (a0 ≤ (-2147483648))) || (decide (a1 ≥ 2147483648)))) 11) <|
      .cons [12] (ok_valg (fun ν2 => .int .i64 a0) (fun ν2 => (((decide (a0 ≤ (-2147483648))) || (decide (a1 ≥ 2147483648))) == false)) [true] 12) <|
      .cons [13] (ok_valg (fun ν2 => .bool (decide (a0 ≥ 2147483648))) (fun ν2 => (((decide (a0 ≤ (-2147483648))) || (decide (a1 ≥ 2147483648))) == false)) [false, true] 13) <|
      .cons [14] (ok_or 11 13 (fun ν2 => true) (fun ν2 => true) (fun ν2 => ((decide (a0 ≤ (-2147483648))) || (decide (a1 ≥ 2147483648)))) (fun ν2 => decide (a0 ≥ 2147483648)) 14) <|
      .cons [15] (ok_as (u' := fun ν2 => [(15, .slot true (.bool z3))]) (ok_val (fun ν2 => .bool (((decide (a0 ≤ (-2147483648))) || (decide (a1 ≥ 2147483648))) || (decide (a0 ≥ 2147483648)))) 15) (fun _ => by rw [← hz3])) <|
      .cons [16] (ok_valg (fun ν2 => .int .i64 a1) (fun ν2 => (z3 == false)) [true] 16) <|
      .cons [17] (ok_valg (fun ν2 => .bool (decide (a1 ≤ (-2147483648)))) (fun ν2 => (z3 == false)) [false, true] 17) <|
      .cons [18] (ok_or 15 17 (fun ν2 => true) (fun ν2 => true) (fun ν2 => z3) (fun ν2 => decide (a1 ≤ (-2147483648))) 18) <| .nil) (by kernel_rfl) fun ν2 a w' H => ?_
  replace H := H.toL [(0, .slot true (.int .i64 a0)), (1, .slot true (.int .i64 a1)), (4, .slot true (.pointer (some ⟨((ν1 0).n 0), 0, none⟩))), (18, .slot true (.bool (z3 || (decide (a1 ≤ (-2147483648)))))), (23, .blk ((ν1 0).n 0) [.int .i64 0, .int .i64 0] 40)] (by kernel_rfl)
  refine k_cond H (by kernel_rfl) (t := (z3 || (decide (a1 ≤ (-2147483648))))) (by kernel_rfl) (fun c7 => ?_) (fun c7 => ?_)
  · rw [if_pos c7] at G
    refine k_seq ?_
    replace G := bnd G; obtain ⟨t5, ht5, G⟩ := G
    refine k_reg mixed H (.cons [19] (ok_callv 88 (fun ν4 => #[]) (.agg #[.int .i64 t5.Lo, .int .i64 t5.Hi]) 19 [] (fun _ w _ => interval_Entire.calls  t5 w ht5)) <|
      .cons [23] (ok_as (u' := fun ν4 => [(23, .blk ((ν1 0).n 0) [.int .i64 t5.Lo, .int .i64 t5.Hi] 40)]) (ok_store 23 0 (fun ν4 => ((ν1 0).n 0)) (fun ν4 => [.int .i64 0, .int .i64 0]) (fun ν4 => [.int .i64 t5.Lo, .int .i64 t5.Hi]) 40) (fun _ => by kernel_rfl)) <| .nil) (by kernel_rfl) fun ν4 a w' H => ?_
    replace H := H.toL [(0, .slot true (.int .i64 a0)), (1, .slot true (.int .i64 a1)), (4, .slot true (.pointer (some ⟨((ν1 0).n 0), 0, none⟩))), (23, .blk ((ν1 0).n 0) [.int .i64 t5.Lo, .int .i64 t5.Hi] 40)] (by kernel_rfl)
    refine k_ret ?_
    obtain rfl := Option.some.inj G
    exact k_done1 H _ 23 ((ν1 0).n 0) [.int .i64 t5.Lo, .int .i64 t5.Hi] 40 0 2 (by kernel_rfl) (by kernel_rfl) (by kernel_rfl) (by kernel_rfl)
  · rw [if_neg (nt c7)] at G
    refine k_skip ?_
    refine k_seq ?_
    refine k_reg mixed H (.cons [20] (ok_val (fun ν6 => .int .i64 a0) 20) <|
      .cons [21] (ok_val (fun ν6 => .int .i64 a1) 21) <|
      .cons [22] (ok_val (fun ν6 => .agg #[.int .i64 a0, .int .i64 a1]) 22) <|
      .cons [23] (ok_as (u' := fun ν6 => [(23, .blk ((ν1 0).n 0) [.int .i64 a0, .int .i64 a1] 40)]) (ok_store 23 0 (fun ν6 => ((ν1 0).n 0)) (fun ν6 => [.int .i64 0, .int .i64 0]) (fun ν6 => [.int .i64 a0, .int .i64 a1]) 40) (fun _ => by kernel_rfl)) <| .nil) (by kernel_rfl) fun ν6 a w' H => ?_
    replace H := H.toL [(4, .slot true (.pointer (some ⟨((ν1 0).n 0), 0, none⟩))), (23, .blk ((ν1 0).n 0) [.int .i64 a0, .int .i64 a1] 40)] (by kernel_rfl)
    refine k_ret ?_
    obtain rfl := Option.some.inj G
    exact k_done1 H _ 23 ((ν1 0).n 0) [.int .i64 a0, .int .i64 a1] 40 0 2 (by kernel_rfl) (by kernel_rfl) (by kernel_rfl) (by kernel_rfl)

set_option maxHeartbeats 4000000 in
theorem interval_Add.calls (a0 : TInterval) (a1 : TInterval) (r : TInterval) (w : World) (G : interval_Add a0 a1 = some r) :
    Calls Try.prog 65 #[.agg #[.int .i64 a0.Lo, .int .i64 a0.Hi], .agg #[.int .i64 a1.Lo, .int .i64 a1.Hi]] w fun e w' => e = .returned (.agg #[.int .i64 r.Lo, .int .i64 r.Hi]) ∧ Below w.heap.size w w' := by
  refine k_enter (args := [.agg #[.int .i64 a0.Lo, .int .i64 a0.Hi], .agg #[.int .i64 a1.Lo, .int .i64 a1.Hi]]) 23 Try.func65 rfl (by kernel_rfl) (by kernel_rfl) fun a H => ?_
  unfold interval_Add at G
  refine k_seq ?_
  refine k_reg mixed H (.cons [2, 23] (ok_new (fun b => .pointer (some ⟨b, 0, none⟩)) (fun ν1 => [.int .i64 a0.Lo, .int .i64 a0.Hi]) 40 2 23) <|
      .cons [3, 24] (ok_new (fun b => .pointer (some ⟨b, 0, none⟩)) (fun ν1 => [.int .i64 a1.Lo, .int .i64 a1.Hi]) 40 3 24) <|
      .cons [4, 25] (ok_new (fun b => .pointer (some ⟨b, 0, none⟩)) (fun ν1 => [.int .i64 0, .int .i64 0]) 40 4 25) <| .nil) (by kernel_rfl) fun ν1 a w' H => ?_
  replace H := H.toL [(2, .slot true (.pointer (some ⟨((ν1 0).n 0), 0, none⟩))), (3, .slot true (.pointer (some ⟨((ν1 1).n 0), 0, none⟩))), (4, .slot true (.pointer (some ⟨((ν1 2).n 0), 0, none⟩))), (23, .blk ((ν1 0).n 0) [.int .i64 a0.Lo, .int .i64 a0.Hi] 40), (24, .blk ((ν1 1).n 0) [.int .i64 a1.Lo, .int .i64 a1.Hi] 40), (25, .blk ((ν1 2).n 0) [.int .i64 0, .int .i64 0] 40)] (by kernel_rfl)
  refine k_seq ?_
  refine k_seq ?_
  replace G := bnd G; obtain ⟨t3, ht3, G⟩ := G
  replace G := bnd G; obtain ⟨t4, ht4, G⟩ := G
  refine k_reg mixed H (.cons [5] (ok_ld (fun ν2 => .agg #[.int .i64 a0.Lo, .int .i64 a0.Hi]) 5 23 0 2 (fun ν2 => ((ν1 0).n 0)) (fun ν2 => [.int .i64 a0.Lo, .int .i64 a0.Hi]) 40) <|
      .cons [6] (ok_callv 48 (fun ν2 => #[.agg #[.int .i64 a0.Lo, .int .i64 a0.Hi]]) (.bool t3) 6 [] (fun _ w _ => interval_IsEntire.calls a0 t3 w ht3)) <|
      .cons [7] (ok_val (fun ν2 => .bool t3) 7) <|
      .cons [8] (ok_ldg (fun ν2 => .agg #[.int .i64 a1.Lo, .int .i64 a1.Hi]) (fun ν2 => (t3 == false)) [true] 8 24 0 2 (fun ν2 => ((ν1 1).n 0)) (fun ν2 => [.int .i64 a1.Lo, .int .i64 a1.Hi]) 40) <|
      .cons [9] (ok_call 48 (fun ν2 => #[.agg #[.int .i64 a1.Lo, .int .i64 a1.Hi]]) (.bool t4) (fun ν2 => (t3 == false)) [true, false] 9 [] (fun _ w hg _ => interval_IsEntire.calls a1 t4 w (ifp ht4 hg))) <|
      .cons [10] (ok_or 7 9 (fun ν2 => true) (fun ν2 => true) (fun ν2 => t3) (fun ν2 => t4) 10) <| .nil) (by kernel_rfl) fun ν2 a w' H => ?_
  replace H := H.toL [(2, .slot true (.pointer (some ⟨((ν1 0).n 0), 0, none⟩))), (3, .slot true (.pointer (some ⟨((ν1 1).n 0), 0, none⟩))), (4, .slot true (.pointer (some ⟨((ν1 2).n 0), 0, none⟩))), (10, .slot true (.bool (t3 || t4))), (23, .blk ((ν1 0).n 0) [.int .i64 a0.Lo, .int .i64 a0.Hi] 40), (24, .blk ((ν1 1).n 0) [.int .i64 a1.Lo, .int .i64 a1.Hi] 40), (25, .blk ((ν1 2).n 0) [.int .i64 0, .int .i64 0] 40)] (by kernel_rfl)
  refine k_cond H (by kernel_rfl) (t := (t3 || t4)) (by kernel_rfl) (fun c9 => ?_) (fun c9 => ?_)
  · rw [if_pos c9] at G
    refine k_seq ?_
    replace G := bnd G; obtain ⟨t6, ht6, G⟩ := G
    refine k_reg mixed H (.cons [11] (ok_callv 88 (fun ν5 => #[]) (.agg #[.int .i64 t6.Lo, .int .i64 t6.Hi]) 11 [] (fun _ w _ => interval_Entire.calls  t6 w ht6)) <|
      .cons [25] (ok_as (u' := fun ν5 => [(25, .blk ((ν1 2).n 0) [.int .i64 t6.Lo, .int .i64 t6.Hi] 40)]) (ok_store 25 0 (fun ν5 => ((ν1 2).n 0)) (fun ν5 => [.int .i64 0, .int .i64 0]) (fun ν5 => [.int .i64 t6.Lo, .int .i64 t6.Hi]) 40) (fun _ => by kernel_rfl)) <| .nil) (by kernel_rfl) fun ν5 a w' H => ?_
    replace H := H.toL [(2, .slot true (.pointer (some ⟨((ν1 0).n 0), 0, none⟩))), (3, .slot true (.pointer (some ⟨((ν1 1).n 0), 0, none⟩))), (4, .slot true (.pointer (some ⟨((ν1 2).n 0), 0, none⟩))), (23, .blk ((ν1 0).n 0) [.int .i64 a0.Lo, .int .i64 a0.Hi] 40), (24, .blk ((ν1 1).n 0) [.int .i64 a1.Lo, .int .i64 a1.Hi] 40), (25, .blk ((ν1 2).n 0) [.int .i64 t6.Lo, .int .i64 t6.Hi] 40)] (by kernel_rfl)
    refine k_ret ?_
    obtain rfl := Option.some.inj G
    exact k_done1 H _ 25 ((ν1 2).n 0) [.int .i64 t6.Lo, .int .i64 t6.Hi] 40 0 2 (by kernel_rfl) (by kernel_rfl) (by kernel_rfl) (by kernel_rfl)
  · rw [if_neg (nt c9)] at G
    refine k_skip ?_
    refine k_seq ?_
    replace G := bnd G; obtain ⟨t8, ht8, G⟩ := G
    refine k_reg mixed H (.cons [12] (ok_val (fun ν7 => .pointer (some ⟨((ν1 0).n 0), 0, none⟩)) 12) <|
      .cons [13] (ok_ld (fun ν7 => .int .i64 a0.Lo) 13 23 0 1 (fun ν7 => ((ν1 0).n 0)) (fun ν7 => [.int .i64 a0.Lo, .int .i64 a0.Hi]) 40) <|
      .cons [14] (ok_val (fun ν7 => .pointer (some ⟨((ν1 1).n 0), 0, none⟩)) 14) <|
      .cons [15] (ok_ld (fun ν7 => .int .i64 a1.Lo) 15 24 0 1 (fun ν7 => ((ν1 1).n 0)) (fun ν7 => [.int .i64 a1.Lo, .int .i64 a1.Hi]) 40) <|
      .cons [16] (ok_val (fun ν7 => .int .i64 (w_i64 (a0.Lo + a1.Lo))) 16) <|
      .cons [17] (ok_val (fun ν7 => .pointer (some ⟨((ν1 0).n 0), 1, none⟩)) 17) <|
      .cons [18] (ok_ld (fun ν7 => .int .i64 a0.Hi) 18 23 1 1 (fun ν7 => ((ν1 0).n 0)) (fun ν7 => [.int .i64 a0.Lo, .int .i64 a0.Hi]) 40) <|
      .cons [19] (ok_val (fun ν7 => .pointer (some ⟨((ν1 1).n 0), 1, none⟩)) 19) <|
      .cons [20] (ok_ld (fun ν7 => .int .i64 a1.Hi) 20 24 1 1 (fun ν7 => ((ν1 1).n 0)) (fun ν7 => [.int .i64 a1.Lo, .int .i64 a1.Hi]) 40) <|
      .cons [21] (ok_val (fun ν7 => .int .i64 (w_i64 (a0.Hi + a1.Hi))) 21) <|
      .cons [22] (ok_callv 74 (fun ν7 => #[.int .i64 (w_i64 (a0.Lo + a1.Lo)), .int .i64 (w_i64 (a0.Hi + a1.Hi))]) (.agg #[.int .i64 t8.Lo, .int .i64 t8.Hi]) 22 [] (fun _ w _ => interval_New.calls (w_i64 (a0.Lo + a1.Lo)) (w_i64 (a0.Hi + a1.Hi)) t8 w ht8)) <|
      .cons [25] (ok_as (u' := fun ν7 => [(25, .blk ((ν1 2).n 0) [.int .i64 t8.Lo, .int .i64 t8.Hi] 40)]) (ok_store 25 0 (fun ν7 => ((ν1 2).n 0)) (fun ν7 => [.int .i64 0, .int .i64 0]) (fun ν7 => [.int .i64 t8.Lo, .int .i64 t8.Hi]) 40) (fun _ => by kernel_rfl)) <| .nil) (by kernel_rfl) fun ν7 a w' H => ?_
    replace H := H.toL [(4, .slot true (.pointer (some ⟨((ν1 2).n 0), 0, none⟩))), (25, .blk ((ν1 2).n 0) [.int .i64 t8.Lo, .int .i64 t8.Hi] 40)] (by kernel_rfl)
    refine k_ret ?_
    obtain rfl := Option.some.inj G
    exact k_done1 H _ 25 ((ν1 2).n 0) [.int .i64 t8.Lo, .int .i64 t8.Hi] 40 0 2 (by kernel_rfl) (by kernel_rfl) (by kernel_rfl) (by kernel_rfl)

set_option maxHeartbeats 4000000 in
theorem fixed_divide_1.calls (a0 : Int) (r : Int) (w : World) (G : fixed_divide_1 a0 = some r) :
    Calls Try.prog 104 #[.int .i64 a0] w fun e w' => e = .returned (.int .i64 r) ∧ Below w.heap.size w w' := by
  refine k_enter (args := [.int .i64 a0]) 5 Try.func104 rfl (by kernel_rfl) (by kernel_rfl) fun a H => ?_
  unfold fixed_divide_1 at G
  refine k_seq ?_
  refine k_reg mixed H (.cons [2] (ok_val (fun ν1 => .int .i64 0) 2) <| .nil) (by kernel_rfl) fun ν1 a w' H => ?_
  replace H := H.toL [(0, .slot true (.int .i64 a0)), (2, .slot true (.int .i64 0))] (by kernel_rfl)
  refine k_seq ?_
  refine k_reg mixed H (.cons [3] (ok_val (fun ν2 => .int .i64 a0) 3) <|
      .cons [4] (ok_val (fun ν2 => .int .i64 (mn a0 1)) 4) <|
      .cons [2] (ok_val (fun ν2 => .int .i64 (mn a0 1)) 2) <| .nil) (by kernel_rfl) fun ν2 a w' H => ?_
  replace H := H.toL [(2, .slot true (.int .i64 (mn a0 1)))] (by kernel_rfl)
  refine k_ret ?_
  obtain rfl := Option.some.inj G
  exact k_done0 H _ (by kernel_rfl) (by kernel_rfl)

set_option maxHeartbeats 4000000 in
theorem fixed_floorCeil_int64_s104.calls (a0 : Int) (a1 : Int) (r : Int × Int) (w : World) (G : fixed_floorCeil_int64_s104 a0 a1 = some r) :
    Calls Try.prog 103 #[.int .i64 a0, .int .i64 a1, .func (.func 104) #[] #[]] w fun e w' => e = .returned (.tuple #[.int .i64 r.1, .int .i64 r.2]) ∧ Below w.heap.size w w' := by
  refine k_enter (args := [.int .i64 a0, .int .i64 a1, .func (.func 104) #[] #[]]) 29 Try.func103 rfl (by kernel_rfl) (by kernel_rfl) fun a H => ?_
  unfold fixed_floorCeil_int64_s104 at G
  refine k_seq ?_
  refine k_reg mixed H (.cons [6] (ok_val (fun ν1 => .int .i64 0) 6) <|
      .cons [7] (ok_val (fun ν1 => .int .i64 0) 7) <| .nil) (by kernel_rfl) fun ν1 a w' H => ?_
  replace H := H.toL [(0, .slot true (.int .i64 a0)), (1, .slot true (.int .i64 a1)), (2, .slot true (.func (.func 104) #[] #[])), (6, .slot true (.int .i64 0)), (7, .slot true (.int .i64 0))] (by kernel_rfl)
  refine k_seq ?_
  replace G := gd G; obtain ⟨n3, G⟩ := G
  replace G := gd G; obtain ⟨n4, G⟩ := G
  refine k_reg mixed H (.cons [10] (ok_val (fun ν2 => .int .i64 a0) 10) <|
      .cons [11] (ok_val (fun ν2 => .int .i64 a1) 11) <|
      .cons [12] (ok_val (fun ν2 => .int .i64 (w_i64 (Int.tdiv a0 a1))) 12 (hv := fun _ _ => run_of (by kernel_rfl) (run_quo (k := .i64) (x := a0) (y := a1) n3))) <|
      .cons [13] (ok_val (fun ν2 => .int .i64 a0) 13) <|
      .cons [14] (ok_val (fun ν2 => .int .i64 a1) 14) <|
      .cons [15] (ok_val (fun ν2 => .int .i64 (Int.tmod a0 a1)) 15 (hv := fun _ _ => run_of (by kernel_rfl) (run_rem (k := .i64) (x := a0) (y := a1) n4))) <|
      .cons [8] (ok_val (fun ν2 => .int .i64 (w_i64 (Int.tdiv a0 a1))) 8) <|
      .cons [9] (ok_val (fun ν2 => .int .i64 (Int.tmod a0 a1)) 9) <| .nil) (by kernel_rfl) fun ν2 a w' H => ?_
  replace H := H.toL [(1, .slot true (.int .i64 a1)), (2, .slot true (.func (.func 104) #[] #[])), (6, .slot true (.int .i64 0)), (7, .slot true (.int .i64 0)), (8, .slot true (.int .i64 (w_i64 (Int.tdiv a0 a1)))), (9, .slot true (.int .i64 (Int.tmod a0 a1)))] (by kernel_rfl)
  refine k_seq ?_
  replace G := bnd G; obtain ⟨j7, hj7, G⟩ := G
  refine k_join (fun a w' => Rep w.heap.size w 29 (ofL [(2, .slot true (.func (.func 104) #[] #[])), (6, .slot true (.int .i64 0)), (7, .slot true (.int .i64 0)), (8, .slot true (.int .i64 j7.1)), (9, .slot true (.int .i64 j7.2))]) a w') ?_ ?_
  · clear H; intro a w' H
    refine k_seq ?_
    replace G := bnd G; obtain ⟨t9, ht9, G⟩ := G
    refine k_reg mixed H (.cons [23] (ok_val (fun ν8 => .int .i64 j7.1) 23) <|
      .cons [24] (ok_val (fun ν8 => .int .i64 j7.1) 24) <|
      .cons [25] (ok_val (fun ν8 => .func (.func 104) #[] #[]) 25) <|
      .cons [26] (ok_val (fun ν8 => .int .i64 j7.2) 26) <|
      .cons [27] (ok_callv 104 (fun ν8 => #[.int .i64 j7.2]) (.int .i64 t9) 27 [] (fun _ w _ => fixed_divide_1.calls j7.2 t9 w ht9)) <|
      .cons [28] (ok_val (fun ν8 => .int .i64 (w_i64 (j7.1 + t9))) 28) <|
      .cons [6] (ok_val (fun ν8 => .int .i64 j7.1) 6) <|
      .cons [7] (ok_val (fun ν8 => .int .i64 (w_i64 (j7.1 + t9))) 7) <| .nil) (by kernel_rfl) fun ν8 a w' H => ?_
    replace H := H.toL [(6, .slot true (.int .i64 j7.1)), (7, .slot true (.int .i64 (w_i64 (j7.1 + t9))))] (by kernel_rfl)
    refine k_ret ?_
    obtain rfl := Option.some.inj G
    exact k_done0 H _ (by kernel_rfl) (by kernel_rfl)
  · clear G; replace G := hj7; clear hj7
    refine k_seq ?_
    refine k_reg mixed H (.cons [16] (ok_val (fun ν10 => .int .i64 (Int.tmod a0 a1)) 16) <|
      .cons [17] (ok_val (fun ν10 => .bool (decide ((Int.tmod a0 a1) < 0))) 17) <| .nil) (by kernel_rfl) fun ν10 a w' H => ?_
    replace H := H.toL [(1, .slot true (.int .i64 a1)), (2, .slot true (.func (.func 104) #[] #[])), (6, .slot true (.int .i64 0)), (7, .slot true (.int .i64 0)), (8, .slot true (.int .i64 (w_i64 (Int.tdiv a0 a1)))), (9, .slot true (.int .i64 (Int.tmod a0 a1))), (17, .slot true (.bool (decide ((Int.tmod a0 a1) < 0))))] (by kernel_rfl)
    refine k_cond H (by kernel_rfl) (t := decide ((Int.tmod a0 a1) < 0)) (by kernel_rfl) (fun c12 => ?_) (fun c12 => ?_)
    · rw [if_pos c12] at G
      refine k_reg mixed H (.cons [18] (ok_val (fun ν11 => .int .i64 (w_i64 (Int.tdiv a0 a1))) 18) <|
      .cons [19] (ok_val (fun ν11 => .int .i64 (w_i64 ((w_i64 (Int.tdiv a0 a1)) - 1))) 19) <|
      .cons [20] (ok_val (fun ν11 => .int .i64 (Int.tmod a0 a1)) 20) <|
      .cons [21] (ok_val (fun ν11 => .int .i64 a1) 21) <|
      .cons [22] (ok_val (fun ν11 => .int .i64 (w_i64 ((Int.tmod a0 a1) + a1))) 22) <|
      .cons [8] (ok_val (fun ν11 => .int .i64 (w_i64 ((w_i64 (Int.tdiv a0 a1)) - 1))) 8) <|
      .cons [9] (ok_val (fun ν11 => .int .i64 (w_i64 ((Int.tmod a0 a1) + a1))) 9) <| .nil) (by kernel_rfl) fun ν11 a w' H => ?_
      replace H := H.toL [(2, .slot true (.func (.func 104) #[] #[])), (6, .slot true (.int .i64 0)), (7, .slot true (.int .i64 0)), (8, .slot true (.int .i64 (w_i64 ((w_i64 (Int.tdiv a0 a1)) - 1)))), (9, .slot true (.int .i64 (w_i64 ((Int.tmod a0 a1) + a1))))] (by kernel_rfl)
      obtain rfl := Option.some.inj G
      exact H.toL _ (by kernel_rfl)
    · rw [if_neg (nt c12)] at G
      refine k_skip ?_
      obtain rfl := Option.some.inj G
      exact H.toL _ (by kernel_rfl)

set_option maxHeartbeats 4000000 in
theorem fixed_divide.calls (a0 : Int) (a1 : Int) (r : Int × Int) (w : World) (G : fixed_divide a0 a1 = some r) :
    Calls Try.prog 101 #[.int .i64 a0, .int .i64 a1] w fun e w' => e = .returned (.tuple #[.int .i64 r.1, .int .i64 r.2]) ∧ Below w.heap.size w w' := by
  refine k_enter (args := [.int .i64 a0, .int .i64 a1]) 17 Try.func101 rfl (by kernel_rfl) (by kernel_rfl) fun a H => ?_
  unfold fixed_divide at G
  refine k_seq ?_
  refine k_reg mixed H (.cons [4] (ok_val (fun ν1 => .int .i64 0) 4) <|
      .cons [5] (ok_val (fun ν1 => .int .i64 0) 5) <| .nil) (by kernel_rfl) fun ν1 a w' H => ?_
  replace H := H.toL [(0, .slot true (.int .i64 a0)), (1, .slot true (.int .i64 a1)), (4, .slot true (.int .i64 0)), (5, .slot true (.int .i64 0))] (by kernel_rfl)
  refine k_seq ?_
  replace G := bnd G; obtain ⟨j4, hj4, G⟩ := G
  refine k_join (fun a w' => Rep w.heap.size w 17 (ofL [(0, .slot true (.int .i64 j4.1)), (1, .slot true (.int .i64 j4.2)), (4, .slot true (.int .i64 0)), (5, .slot true (.int .i64 0))]) a w') ?_ ?_
  · clear H; intro a w' H
    refine k_seq ?_
    replace G := bnd G; obtain ⟨t6, ht6, G⟩ := G
    refine k_reg mixed H (.cons [12] (ok_val (fun ν5 => .int .i64 j4.1) 12) <|
      .cons [13] (ok_val (fun ν5 => .int .i64 j4.2) 13) <|
      .cons [14] (ok_callv 103 (fun ν5 => #[.int .i64 j4.1, .int .i64 j4.2, .func (.func 104) #[] #[]]) (.tuple #[.int .i64 t6.1, .int .i64 t6.2]) 14 [] (fun _ w _ => fixed_floorCeil_int64_s104.calls j4.1 j4.2 t6 w ht6)) <|
      .cons [15] (ok_val (fun ν5 => .int .i64 t6.1) 15) <|
      .cons [16] (ok_val (fun ν5 => .int .i64 t6.2) 16) <|
      .cons [4] (ok_val (fun ν5 => .int .i64 t6.1) 4) <|
      .cons [5] (ok_val (fun ν5 => .int .i64 t6.2) 5) <| .nil) (by kernel_rfl) fun ν5 a w' H => ?_
    replace H := H.toL [(4, .slot true (.int .i64 t6.1)), (5, .slot true (.int .i64 t6.2))] (by kernel_rfl)
    refine k_ret ?_
    obtain rfl := Option.some.inj G
    exact k_done0 H _ (by kernel_rfl) (by kernel_rfl)
  · clear G; replace G := hj4; clear hj4
    refine k_seq ?_
    refine k_reg mixed H (.cons [6] (ok_val (fun ν7 => .int .i64 a1) 6) <|
      .cons [7] (ok_val (fun ν7 => .bool (decide (a1 < 0))) 7) <| .nil) (by kernel_rfl) fun ν7 a w' H => ?_
    replace H := H.toL [(0, .slot true (.int .i64 a0)), (1, .slot true (.int .i64 a1)), (4, .slot true (.int .i64 0)), (5, .slot true (.int .i64 0)), (7, .slot true (.bool (decide (a1 < 0))))] (by kernel_rfl)
    refine k_cond H (by kernel_rfl) (t := decide (a1 < 0)) (by kernel_rfl) (fun c9 => ?_) (fun c9 => ?_)
    · rw [if_pos c9] at G
      refine k_reg mixed H (.cons [8] (ok_val (fun ν8 => .int .i64 a0) 8) <|
      .cons [9] (ok_val (fun ν8 => .int .i64 (w_i64 (0 - a0))) 9) <|
      .cons [10] (ok_val (fun ν8 => .int .i64 a1) 10) <|
      .cons [11] (ok_val (fun ν8 => .int .i64 (w_i64 (0 - a1))) 11) <|
      .cons [0] (ok_val (fun ν8 => .int .i64 (w_i64 (0 - a0))) 0) <|
      .cons [1] (ok_val (fun ν8 => .int .i64 (w_i64 (0 - a1))) 1) <| .nil) (by kernel_rfl) fun ν8 a w' H => ?_
      replace H := H.toL [(0, .slot true (.int .i64 (w_i64 (0 - a0)))), (1, .slot true (.int .i64 (w_i64 (0 - a1)))), (4, .slot true (.int .i64 0)), (5, .slot true (.int .i64 0))] (by kernel_rfl)
      obtain rfl := Option.some.inj G
      exact H.toL _ (by kernel_rfl)
    · rw [if_neg (nt c9)] at G
      refine k_skip ?_
      obtain rfl := Option.some.inj G
      exact H.toL _ (by kernel_rfl)

set_option maxHeartbeats 4000000 in
theorem fixed_Mul.calls (a0 : Int) (a1 : Int) (r : Int × Int) (w : World) (G : fixed_Mul a0 a1 = some r) :
    Calls Try.prog 71 #[.int .i64 a0, .int .i64 a1] w fun e w' => e = .returned (.tuple #[.int .i64 r.1, .int .i64 r.2]) ∧ Below w.heap.size w w' := by
  refine k_enter (args := [.int .i64 a0, .int .i64 a1]) 12 Try.func71 rfl (by kernel_rfl) (by kernel_rfl) fun a H => ?_
  unfold fixed_Mul at G
  refine k_seq ?_
  refine k_reg mixed H (.cons [4] (ok_val (fun ν1 => .int .i64 0) 4) <|
      .cons [5] (ok_val (fun ν1 => .int .i64 0) 5) <| .nil) (by kernel_rfl) fun ν1 a w' H => ?_
  replace H := H.toL [(0, .slot true (.int .i64 a0)), (1, .slot true (.int .i64 a1)), (4, .slot true (.int .i64 0)), (5, .slot true (.int .i64 0))] (by kernel_rfl)
  refine k_seq ?_
  replace G := bnd G; obtain ⟨t3, ht3, G⟩ := G
  refine k_reg mixed H (.cons [6] (ok_val (fun ν2 => .int .i64 a0) 6) <|
      .cons [7] (ok_val (fun ν2 => .int .i64 a1) 7) <|
      .cons [8] (ok_val (fun ν2 => .int .i64 (w_i64 (a0 * a1))) 8) <|
      .cons [9] (ok_callv 101 (fun ν2 => #[.int .i64 (w_i64 (a0 * a1)), .int .i64 65536]) (.tuple #[.int .i64 t3.1, .int .i64 t3.2]) 9 [] (fun _ w _ => fixed_divide.calls (w_i64 (a0 * a1)) 65536 t3 w ht3)) <|
      .cons [10] (ok_val (fun ν2 => .int .i64 t3.1) 10) <|
      .cons [11] (ok_val (fun ν2 => .int .i64 t3.2) 11) <|
      .cons [4] (ok_val (fun ν2 => .int .i64 t3.1) 4) <|
      .cons [5] (ok_val (fun ν2 => .int .i64 t3.2) 5) <| .nil) (by kernel_rfl) fun ν2 a w' H => ?_
  replace H := H.toL [(4, .slot true (.int .i64 t3.1)), (5, .slot true (.int .i64 t3.2))] (by kernel_rfl)
  refine k_ret ?_
  obtain rfl := Option.some.inj G
  exact k_done0 H _ (by kernel_rfl) (by kernel_rfl)

set_option maxHeartbeats 4000000 in
theorem interval_Mag.calls (a0 : TInterval) (r : Int) (w : World) (G : interval_Mag a0 = some r) :
    Calls Try.prog 95 #[.agg #[.int .i64 a0.Lo, .int .i64 a0.Hi]] w fun e w' => e = .returned (.int .i64 r) ∧ Below w.heap.size w w' := by
  refine k_enter (args := [.agg #[.int .i64 a0.Lo, .int .i64 a0.Hi]]) 9 Try.func95 rfl (by kernel_rfl) (by kernel_rfl) fun a H => ?_
  unfold interval_Mag at G
  refine k_seq ?_
  refine k_reg mixed H (.cons [1, 9] (ok_new (fun b => .pointer (some ⟨b, 0, none⟩)) (fun ν1 => [.int .i64 a0.Lo, .int .i64 a0.Hi]) 40 1 9) <|
      .cons [2] (ok_val (fun ν1 => .int .i64 0) 2) <| .nil) (by kernel_rfl) fun ν1 a w' H => ?_
  replace H := H.toL [(1, .slot true (.pointer (some ⟨((ν1 0).n 0), 0, none⟩))), (2, .slot true (.int .i64 0)), (9, .blk ((ν1 0).n 0) [.int .i64 a0.Lo, .int .i64 a0.Hi] 40)] (by kernel_rfl)
  refine k_seq ?_
  refine k_reg mixed H (.cons [3] (ok_val (fun ν2 => .pointer (some ⟨((ν1 0).n 0), 1, none⟩)) 3) <|
      .cons [4] (ok_ld (fun ν2 => .int .i64 a0.Hi) 4 9 1 1 (fun ν2 => ((ν1 0).n 0)) (fun ν2 => [.int .i64 a0.Lo, .int .i64 a0.Hi]) 40) <|
      .cons [5] (ok_val (fun ν2 => .pointer (some ⟨((ν1 0).n 0), 0, none⟩)) 5) <|
      .cons [6] (ok_ld (fun ν2 => .int .i64 a0.Lo) 6 9 0 1 (fun ν2 => ((ν1 0).n 0)) (fun ν2 => [.int .i64 a0.Lo, .int .i64 a0.Hi]) 40) <|
      .cons [7] (ok_val (fun ν2 => .int .i64 (w_i64 (0 - a0.Lo))) 7) <|
      .cons [8] (ok_val (fun ν2 => .int .i64 (mx a0.Hi (w_i64 (0 - a0.Lo)))) 8) <|
      .cons [2] (ok_val (fun ν2 => .int .i64 (mx a0.Hi (w_i64 (0 - a0.Lo)))) 2) <| .nil) (by kernel_rfl) fun ν2 a w' H => ?_
  replace H := H.toL [(2, .slot true (.int .i64 (mx a0.Hi (w_i64 (0 - a0.Lo)))))] (by kernel_rfl)
  refine k_ret ?_
  obtain rfl := Option.some.inj G
  exact k_done0 H _ (by kernel_rfl) (by kernel_rfl)

set_option maxHeartbeats 4000000 in
theorem interval_Square.calls (a0 : TInterval) (r : TInterval) (w : World) (G : interval_Square a0 = some r) :
    Calls Try.prog 66 #[.agg #[.int .i64 a0.Lo, .int .i64 a0.Hi]] w fun e w' => e = .returned (.agg #[.int .i64 r.Lo, .int .i64 r.Hi]) ∧ Below w.heap.size w w' := by
  refine k_enter (args := [.agg #[.int .i64 a0.Lo, .int .i64 a0.Hi]]) 35 Try.func66 rfl (by kernel_rfl) (by kernel_rfl) fun a H => ?_
  unfold interval_Square at G
  refine k_seq ?_
  refine k_reg mixed H (.cons [1, 35] (ok_new (fun b => .pointer (some ⟨b, 0, none⟩)) (fun ν1 => [.int .i64 a0.Lo, .int .i64 a0.Hi]) 40 1 35) <|
      .cons [2, 36] (ok_new (fun b => .pointer (some ⟨b, 0, none⟩)) (fun ν1 => [.int .i64 0, .int .i64 0]) 40 2 36) <| .nil) (by kernel_rfl) fun ν1 a w' H => ?_
  replace H := H.toL [(1, .slot true (.pointer (some ⟨((ν1 0).n 0), 0, none⟩))), (2, .slot true (.pointer (some ⟨((ν1 1).n 0), 0, none⟩))), (35, .blk ((ν1 0).n 0) [.int .i64 a0.Lo, .int .i64 a0.Hi] 40), (36, .blk ((ν1 1).n 0) [.int .i64 0, .int .i64 0] 40)] (by kernel_rfl)
  refine k_seq ?_
  refine k_seq ?_
  replace G := bnd G; obtain ⟨t3, ht3, G⟩ := G
  refine k_reg mixed H (.cons [9] (ok_ld (fun ν2 => .agg #[.int .i64 a0.Lo, .int .i64 a0.Hi]) 9 35 0 2 (fun ν2 => ((ν1 0).n 0)) (fun ν2 => [.int .i64 a0.Lo, .int .i64 a0.Hi]) 40) <|
      .cons [10] (ok_callv 48 (fun ν2 => #[.agg #[.int .i64 a0.Lo, .int .i64 a0.Hi]]) (.bool t3) 10 [] (fun _ w _ => interval_IsEntire.calls a0 t3 w ht3)) <| .nil) (by kernel_rfl) fun ν2 a w' H => ?_
  replace H := H.toL [(1, .slot true (.pointer (some ⟨((ν1 0).n 0), 0, none⟩))), (2, .slot true (.pointer (some ⟨((ν1 1).n 0), 0, none⟩))), (10, .slot true (.bool t3)), (35, .blk ((ν1 0).n 0) [.int .i64 a0.Lo, .int .i64 a0.Hi] 40), (36, .blk ((ν1 1).n 0) [.int .i64 0, .int .i64 0] 40)] (by kernel_rfl)
  refine k_cond H (by kernel_rfl) (t := t3) (by kernel_rfl) (fun c13 => ?_) (fun c13 => ?_)
  · rw [if_pos c13] at G
    refine k_seq ?_
    refine k_reg mixed H (.cons [11] (ok_ld (fun ν4 => .agg #[.int .i64 a0.Lo, .int .i64 a0.Hi]) 11 35 0 2 (fun ν4 => ((ν1 0).n 0)) (fun ν4 => [.int .i64 a0.Lo, .int .i64 a0.Hi]) 40) <|
      .cons [36] (ok_as (u' := fun ν4 => [(36, .blk ((ν1 1).n 0) [.int .i64 a0.Lo, .int .i64 a0.Hi] 40)]) (ok_store 36 0 (fun ν4 => ((ν1 1).n 0)) (fun ν4 => [.int .i64 0, .int .i64 0]) (fun ν4 => [.int .i64 a0.Lo, .int .i64 a0.Hi]) 40) (fun _ => by kernel_rfl)) <| .nil) (by kernel_rfl) fun ν4 a w' H => ?_
    replace H := H.toL [(1, .slot true (.pointer (some ⟨((ν1 0).n 0), 0, none⟩))), (2, .slot true (.pointer (some ⟨((ν1 1).n 0), 0, none⟩))), (35, .blk ((ν1 0).n 0) [.int .i64 a0.Lo, .int .i64 a0.Hi] 40), (36, .blk ((ν1 1).n 0) [.int .i64 a0.Lo, .int .i64 a0.Hi] 40)] (by kernel_rfl)
    refine k_ret ?_
    obtain rfl := Option.some.inj G
    exact k_done1 H _ 36 ((ν1 1).n 0) [.int .i64 a0.Lo, .int .i64 a0.Hi] 40 0 2 (by kernel_rfl) (by kernel_rfl) (by kernel_rfl) (by kernel_rfl)
  · rw [if_neg (nt c13)] at G
    refine k_skip ?_
    refine k_seq ?_
    replace G := bnd G; obtain ⟨t6, ht6, G⟩ := G
    refine k_reg mixed H (.cons [12] (ok_val (fun ν5 => .pointer (some ⟨((ν1 0).n 0), 0, none⟩)) 12) <|
      .cons [13] (ok_ld (fun ν5 => .int .i64 a0.Lo) 13 35 0 1 (fun ν5 => ((ν1 0).n 0)) (fun ν5 => [.int .i64 a0.Lo, .int .i64 a0.Hi]) 40) <|
      .cons [14] (ok_val (fun ν5 => .pointer (some ⟨((ν1 0).n 0), 1, none⟩)) 14) <|
      .cons [15] (ok_ld (fun ν5 => .int .i64 a0.Hi) 15 35 1 1 (fun ν5 => ((ν1 0).n 0)) (fun ν5 => [.int .i64 a0.Lo, .int .i64 a0.Hi]) 40) <|
      .cons [16] (ok_val (fun ν5 => .int .i64 (w_i64 (0 - a0.Hi))) 16) <|
      .cons [17] (ok_val (fun ν5 => .int .i64 (mx (mx a0.Lo (w_i64 (0 - a0.Hi))) 0)) 17) <|
      .cons [18] (ok_ld (fun ν5 => .agg #[.int .i64 a0.Lo, .int .i64 a0.Hi]) 18 35 0 2 (fun ν5 => ((ν1 0).n 0)) (fun ν5 => [.int .i64 a0.Lo, .int .i64 a0.Hi]) 40) <|
      .cons [19] (ok_callv 95 (fun ν5 => #[.agg #[.int .i64 a0.Lo, .int .i64 a0.Hi]]) (.int .i64 t6) 19 [] (fun _ w _ => interval_Mag.calls a0 t6 w ht6)) <|
      .cons [3] (ok_val (fun ν5 => .int .i64 (mx (mx a0.Lo (w_i64 (0 - a0.Hi))) 0)) 3) <|
      .cons [4] (ok_val (fun ν5 => .int .i64 t6) 4) <| .nil) (by kernel_rfl) fun ν5 a w' H => ?_
    replace H := H.toL [(2, .slot true (.pointer (some ⟨((ν1 1).n 0), 0, none⟩))), (3, .slot true (.int .i64 (mx (mx a0.Lo (w_i64 (0 - a0.Hi))) 0))), (4, .slot true (.int .i64 t6)), (36, .blk ((ν1 1).n 0) [.int .i64 0, .int .i64 0] 40)] (by kernel_rfl)
    refine k_seq ?_
    replace G := bnd G; obtain ⟨t8, ht8, G⟩ := G
    refine k_reg mixed H (.cons [21] (ok_val (fun ν7 => .int .i64 (mx (mx a0.Lo (w_i64 (0 - a0.Hi))) 0)) 21) <|
      .cons [22] (ok_val (fun ν7 => .int .i64 (mx (mx a0.Lo (w_i64 (0 - a0.Hi))) 0)) 22) <|
      .cons [23] (ok_callv 71 (fun ν7 => #[.int .i64 (mx (mx a0.Lo (w_i64 (0 - a0.Hi))) 0), .int .i64 (mx (mx a0.Lo (w_i64 (0 - a0.Hi))) 0)]) (.tuple #[.int .i64 t8.1, .int .i64 t8.2]) 23 [] (fun _ w _ => fixed_Mul.calls (mx (mx a0.Lo (w_i64 (0 - a0.Hi))) 0) (mx (mx a0.Lo (w_i64 (0 - a0.Hi))) 0) t8 w ht8)) <|
      .cons [20] (ok_val (fun ν7 => .tuple #[.int .i64 t8.1, .int .i64 t8.2]) 20) <|
      .cons [24] (ok_val (fun ν7 => .int .i64 t8.1) 24) <|
      .cons [25] (ok_val (fun ν7 => .int .i64 t8.2) 25) <|
      .cons [5] (ok_val (fun ν7 => .int .i64 t8.1) 5) <|
      .cons [6] (ok_val (fun ν7 => .int .i64 t8.2) 6) <| .nil) (by kernel_rfl) fun ν7 a w' H => ?_
    replace H := H.toL [(2, .slot true (.pointer (some ⟨((ν1 1).n 0), 0, none⟩))), (4, .slot true (.int .i64 t6)), (5, .slot true (.int .i64 t8.1)), (36, .blk ((ν1 1).n 0) [.int .i64 0, .int .i64 0] 40)] (by kernel_rfl)
    refine k_seq ?_
    replace G := bnd G; obtain ⟨t10, ht10, G⟩ := G
    refine k_reg mixed H (.cons [27] (ok_val (fun ν9 => .int .i64 t6) 27) <|
      .cons [28] (ok_val (fun ν9 => .int .i64 t6) 28) <|
      .cons [29] (ok_callv 71 (fun ν9 => #[.int .i64 t6, .int .i64 t6]) (.tuple #[.int .i64 t10.1, .int .i64 t10.2]) 29 [] (fun _ w _ => fixed_Mul.calls t6 t6 t10 w ht10)) <|
      .cons [26] (ok_val (fun ν9 => .tuple #[.int .i64 t10.1, .int .i64 t10.2]) 26) <|
      .cons [30] (ok_val (fun ν9 => .int .i64 t10.1) 30) <|
      .cons [31] (ok_val (fun ν9 => .int .i64 t10.2) 31) <|
      .cons [7] (ok_val (fun ν9 => .int .i64 t10.1) 7) <|
      .cons [8] (ok_val (fun ν9 => .int .i64 t10.2) 8) <| .nil) (by kernel_rfl) fun ν9 a w' H => ?_
    replace H := H.toL [(2, .slot true (.pointer (some ⟨((ν1 1).n 0), 0, none⟩))), (5, .slot true (.int .i64 t8.1)), (8, .slot true (.int .i64 t10.2)), (36, .blk ((ν1 1).n 0) [.int .i64 0, .int .i64 0] 40)] (by kernel_rfl)
    refine k_seq ?_
    replace G := bnd G; obtain ⟨t12, ht12, G⟩ := G
    refine k_reg mixed H (.cons [32] (ok_val (fun ν11 => .int .i64 t8.1) 32) <|
      .cons [33] (ok_val (fun ν11 => .int .i64 t10.2) 33) <|
      .cons [34] (ok_callv 74 (fun ν11 => #[.int .i64 t8.1, .int .i64 t10.2]) (.agg #[.int .i64 t12.Lo, .int .i64 t12.Hi]) 34 [] (fun _ w _ => interval_New.calls t8.1 t10.2 t12 w ht12)) <|
      .cons [36] (ok_as (u' := fun ν11 => [(36, .blk ((ν1 1).n 0) [.int .i64 t12.Lo, .int .i64 t12.Hi] 40)]) (ok_store 36 0 (fun ν11 => ((ν1 1).n 0)) (fun ν11 => [.int .i64 0, .int .i64 0]) (fun ν11 => [.int .i64 t12.Lo, .int .i64 t12.Hi]) 40) (fun _ => by kernel_rfl)) <| .nil) (by kernel_rfl) fun ν11 a w' H => ?_
    replace H := H.toL [(2, .slot true (.pointer (some ⟨((ν1 1).n 0), 0, none⟩))), (36, .blk ((ν1 1).n 0) [.int .i64 t12.Lo, .int .i64 t12.Hi] 40)] (by kernel_rfl)
    refine k_ret ?_
    obtain rfl := Option.some.inj G
    exact k_done1 H _ 36 ((ν1 1).n 0) [.int .i64 t12.Lo, .int .i64 t12.Hi] 40 0 2 (by kernel_rfl) (by kernel_rfl) (by kernel_rfl) (by kernel_rfl)

set_option maxHeartbeats 4000000 in
theorem interval_Neg.calls (a0 : TInterval) (r : TInterval) (w : World) (G : interval_Neg a0 = some r) :
    Calls Try.prog 96 #[.agg #[.int .i64 a0.Lo, .int .i64 a0.Hi]] w fun e w' => e = .returned (.agg #[.int .i64 r.Lo, .int .i64 r.Hi]) ∧ Below w.heap.size w w' := by
  refine k_enter (args := [.agg #[.int .i64 a0.Lo, .int .i64 a0.Hi]]) 10 Try.func96 rfl (by kernel_rfl) (by kernel_rfl) fun a H => ?_
  unfold interval_Neg at G
  refine k_seq ?_
  refine k_reg mixed H (.cons [1, 10] (ok_new (fun b => .pointer (some ⟨b, 0, none⟩)) (fun ν1 => [.int .i64 a0.Lo, .int .i64 a0.Hi]) 40 1 10) <|
      .cons [2, 11] (ok_new (fun b => .pointer (some ⟨b, 0, none⟩)) (fun ν1 => [.int .i64 0, .int .i64 0]) 40 2 11) <| .nil) (by kernel_rfl) fun ν1 a w' H => ?_
  replace H := H.toL [(1, .slot true (.pointer (some ⟨((ν1 0).n 0), 0, none⟩))), (2, .slot true (.pointer (some ⟨((ν1 1).n 0), 0, none⟩))), (10, .blk ((ν1 0).n 0) [.int .i64 a0.Lo, .int .i64 a0.Hi] 40), (11, .blk ((ν1 1).n 0) [.int .i64 0, .int .i64 0] 40)] (by kernel_rfl)
  refine k_seq ?_
  refine k_reg mixed H (.cons [3] (ok_val (fun ν2 => .pointer (some ⟨((ν1 0).n 0), 1, none⟩)) 3) <|
      .cons [4] (ok_ld (fun ν2 => .int .i64 a0.Hi) 4 10 1 1 (fun ν2 => ((ν1 0).n 0)) (fun ν2 => [.int .i64 a0.Lo, .int .i64 a0.Hi]) 40) <|
      .cons [5] (ok_val (fun ν2 => .int .i64 (w_i64 (0 - a0.Hi))) 5) <|
      .cons [6] (ok_val (fun ν2 => .pointer (some ⟨((ν1 0).n 0), 0, none⟩)) 6) <|
      .cons [7] (ok_ld (fun ν2 => .int .i64 a0.Lo) 7 10 0 1 (fun ν2 => ((ν1 0).n 0)) (fun ν2 => [.int .i64 a0.Lo, .int .i64 a0.Hi]) 40) <|
      .cons [8] (ok_val (fun ν2 => .int .i64 (w_i64 (0 - a0.Lo))) 8) <|
      .cons [9] (ok_val (fun ν2 => .agg #[.int .i64 (w_i64 (0 - a0.Hi)), .int .i64 (w_i64 (0 - a0.Lo))]) 9) <|
      .cons [11] (ok_as (u' := fun ν2 => [(11, .blk ((ν1 1).n 0) [.int .i64 (w_i64 (0 - a0.Hi)), .int .i64 (w_i64 (0 - a0.Lo))] 40)]) (ok_store 11 0 (fun ν2 => ((ν1 1).n 0)) (fun ν2 => [.int .i64 0, .int .i64 0]) (fun ν2 => [.int .i64 (w_i64 (0 - a0.Hi)), .int .i64 (w_i64 (0 - a0.Lo))]) 40) (fun _ => by kernel_rfl)) <| .nil) (by kernel_rfl) fun ν2 a w' H => ?_
  replace H := H.toL [(2, .slot true (.pointer (some ⟨((ν1 1).n 0), 0, none⟩))), (11, .blk ((ν1 1).n 0) [.int .i64 (w_i64 (0 - a0.Hi)), .int .i64 (w_i64 (0 - a0.Lo))] 40)] (by kernel_rfl)
  refine k_ret ?_
  obtain rfl := Option.some.inj G
  exact k_done1 H _ 11 ((ν1 1).n 0) [.int .i64 (w_i64 (0 - a0.Hi)), .int .i64 (w_i64 (0 - a0.Lo))] 40 0 2 (by kernel_rfl) (by kernel_rfl) (by kernel_rfl) (by kernel_rfl)

set_option maxHeartbeats 4000000 in
theorem interval_Sub.calls (a0 : TInterval) (a1 : TInterval) (r : TInterval) (w : World) (G : interval_Sub a0 a1 = some r) :
    Calls Try.prog 67 #[.agg #[.int .i64 a0.Lo, .int .i64 a0.Hi], .agg #[.int .i64 a1.Lo, .int .i64 a1.Hi]] w fun e w' => e = .returned (.agg #[.int .i64 r.Lo, .int .i64 r.Hi]) ∧ Below w.heap.size w w' := by
  refine k_enter (args := [.agg #[.int .i64 a0.Lo, .int .i64 a0.Hi], .agg #[.int .i64 a1.Lo, .int .i64 a1.Hi]]) 9 Try.func67 rfl (by kernel_rfl) (by kernel_rfl) fun a H => ?_
  unfold interval_Sub at G
  refine k_seq ?_
  refine k_reg mixed H (.cons [2, 9] (ok_new (fun b => .pointer (some ⟨b, 0, none⟩)) (fun ν1 => [.int .i64 a0.Lo, .int .i64 a0.Hi]) 40 2 9) <|
      .cons [3, 10] (ok_new (fun b => .pointer (some ⟨b, 0, none⟩)) (fun ν1 => [.int .i64 a1.Lo, .int .i64 a1.Hi]) 40 3 10) <|
      .cons [4, 11] (ok_new (fun b => .pointer (some ⟨b, 0, none⟩)) (fun ν1 => [.int .i64 0, .int .i64 0]) 40 4 11) <| .nil) (by kernel_rfl) fun ν1 a w' H => ?_
  replace H := H.toL [(2, .slot true (.pointer (some ⟨((ν1 0).n 0), 0, none⟩))), (3, .slot true (.pointer (some ⟨((ν1 1).n 0), 0, none⟩))), (4, .slot true (.pointer (some ⟨((ν1 2).n 0), 0, none⟩))), (9, .blk ((ν1 0).n 0) [.int .i64 a0.Lo, .int .i64 a0.Hi] 40), (10, .blk ((ν1 1).n 0) [.int .i64 a1.Lo, .int .i64 a1.Hi] 40), (11, .blk ((ν1 2).n 0) [.int .i64 0, .int .i64 0] 40)] (by kernel_rfl)
  refine k_seq ?_
  replace G := bnd G; obtain ⟨t3, ht3, G⟩ := G
  replace G := bnd G; obtain ⟨t4, ht4, G⟩ := G
  refine k_reg mixed H (.cons [5] (ok_ld (fun ν2 => .agg #[.int .i64 a0.Lo, .int .i64 a0.Hi]) 5 9 0 2 (fun ν2 => ((ν1 0).n 0)) (fun ν2 => [.int .i64 a0.Lo, .int .i64 a0.Hi]) 40) <|
      .cons [6] (ok_ld (fun ν2 => .agg #[.int .i64 a1.Lo, .int .i64 a1.Hi]) 6 10 0 2 (fun ν2 => ((ν1 1).n 0)) (fun ν2 => [.int .i64 a1.Lo, .int .i64 a1.Hi]) 40) <|
      .cons [7] (ok_callv 96 (fun ν2 => #[.agg #[.int .i64 a1.Lo, .int .i64 a1.Hi]]) (.agg #[.int .i64 t3.Lo, .int .i64 t3.Hi]) 7 [] (fun _ w _ => interval_Neg.calls a1 t3 w ht3)) <|
      .cons [8] (ok_callv 65 (fun ν2 => #[.agg #[.int .i64 a0.Lo, .int .i64 a0.Hi], .agg #[.int .i64 t3.Lo, .int .i64 t3.Hi]]) (.agg #[.int .i64 t4.Lo, .int .i64 t4.Hi]) 8 [] (fun _ w _ => interval_Add.calls a0 t3 t4 w ht4)) <|
      .cons [11] (ok_as (u' := fun ν2 => [(11, .blk ((ν1 2).n 0) [.int .i64 t4.Lo, .int .i64 t4.Hi] 40)]) (ok_store 11 0 (fun ν2 => ((ν1 2).n 0)) (fun ν2 => [.int .i64 0, .int .i64 0]) (fun ν2 => [.int .i64 t4.Lo, .int .i64 t4.Hi]) 40) (fun _ => by kernel_rfl)) <| .nil) (by kernel_rfl) fun ν2 a w' H => ?_
  replace H := H.toL [(4, .slot true (.pointer (some ⟨((ν1 2).n 0), 0, none⟩))), (11, .blk ((ν1 2).n 0) [.int .i64 t4.Lo, .int .i64 t4.Hi] 40)] (by kernel_rfl)
  refine k_ret ?_
  obtain rfl := Option.some.inj G
  exact k_done1 H _ 11 ((ν1 2).n 0) [.int .i64 t4.Lo, .int .i64 t4.Hi] 40 0 2 (by kernel_rfl) (by kernel_rfl) (by kernel_rfl) (by kernel_rfl)

set_option maxHeartbeats 4000000 in
theorem box_SquaredDistance.calls (a0 : List TInterval) (a1 : List TInterval) (p_a0 : Option Addr) (c_a0 : Nat) (p_a1 : Option Addr) (c_a1 : Nat) (r : TInterval) (w : World) (R_p_a0 : RowAt w 2 p_a0 a0.length (a0.flatMap en_TInterval)) (R_p_a1 : RowAt w 2 p_a1 a1.length (a1.flatMap en_TInterval)) (G : box_SquaredDistance a0 a1 = some r) :
    Calls Try.prog 28 #[.slice p_a0 a0.length c_a0, .slice p_a1 a1.length c_a1] w fun e w' => e = .returned (.agg #[.int .i64 r.Lo, .int .i64 r.Hi]) ∧ Below w.heap.size w w' := by
  refine k_enterM (args := [.slice p_a0 a0.length c_a0, .slice p_a1 a1.length c_a1]) 20 [(20, rdK 2 p_a0 a0.length (a0.flatMap en_TInterval)), (21, rdK 2 p_a1 a1.length (a1.flatMap en_TInterval))] (by
    intro x hx
    simp only [List.mem_cons, List.not_mem_nil, or_false] at hx
    rcases hx with rfl | rfl
    · exact rd_fact R_p_a0 (by decide) _
    · exact rd_fact R_p_a1 (by decide) _) Try.func28 rfl (by kernel_rfl) (by kernel_rfl) fun a H => ?_
  unfold box_SquaredDistance at G
  refine k_seq ?_
  refine k_reg mixed H (.cons [4, 22] (ok_new (fun b => .pointer (some ⟨b, 0, none⟩)) (fun ν1 => [.int .i64 0, .int .i64 0]) 40 4 22) <| .nil) (by kernel_rfl) fun ν1 a w' H => ?_
  replace H := H.toL [(0, .slot true (.slice p_a0 a0.length c_a0)), (1, .slot true (.slice p_a1 a1.length c_a1)), (4, .slot true (.pointer (some ⟨((ν1 0).n 0), 0, none⟩))), (22, .blk ((ν1 0).n 0) [.int .i64 0, .int .i64 0] 40), (20, rdK 2 p_a0 a0.length (a0.flatMap en_TInterval)), (21, rdK 2 p_a1 a1.length (a1.flatMap en_TInterval))] (by kernel_rfl)
  refine k_seq ?_
  refine k_reg mixed H (.cons [5, 23] (ok_new (fun b => .pointer (some ⟨b, 0, none⟩)) (fun ν2 => [.int .i64 0, .int .i64 0]) 40 5 23) <| .nil) (by kernel_rfl) fun ν2 a w' H => ?_
  replace H := H.toL [(0, .slot true (.slice p_a0 a0.length c_a0)), (1, .slot true (.slice p_a1 a1.length c_a1)), (4, .slot true (.pointer (some ⟨((ν1 0).n 0), 0, none⟩))), (5, .slot true (.pointer (some ⟨((ν2 0).n 0), 0, none⟩))), (22, .blk ((ν1 0).n 0) [.int .i64 0, .int .i64 0] 40), (23, .blk ((ν2 0).n 0) [.int .i64 0, .int .i64 0] 40), (20, rdK 2 p_a0 a0.length (a0.flatMap en_TInterval)), (21, rdK 2 p_a1 a1.length (a1.flatMap en_TInterval))] (by kernel_rfl)
  refine k_seq ?_
  refine k_seq ?_
  refine k_reg mixed H (.cons [8] (ok_val (fun ν3 => .slice p_a0 a0.length c_a0) 8) <|
      .cons [9] (ok_val (fun ν3 => .slice p_a1 a1.length c_a1) 9) <|
      .cons [10, 24, 25] (ok_callB2 53 (fun ν3 => #[.slice p_a0 a0.length c_a0, .slice p_a1 a1.length c_a1]) (fun b1 b2 => .func (.func 91) #[] #[.pointer (some ⟨b1, 0, none⟩), .pointer (some ⟨b2, 0, none⟩)]) [.slice p_a0 a0.length c_a0] [.slice p_a1 a1.length c_a1] 22 22 10 24 25 (fun _ w => box_pairs.calls p_a0 p_a1 a0.length c_a0 a1.length c_a1 w)) <| .nil) (by kernel_rfl) fun ν3 a w' H => ?_
  replace H := H.toL [(4, .slot true (.pointer (some ⟨((ν1 0).n 0), 0, none⟩))), (5, .slot true (.pointer (some ⟨((ν2 0).n 0), 0, none⟩))), (10, .slot true (.func (.func 91) #[] #[.pointer (some ⟨((ν3 2).n 0), 0, none⟩), .pointer (some ⟨((ν3 2).n 1), 0, none⟩)])), (22, .blk ((ν1 0).n 0) [.int .i64 0, .int .i64 0] 40), (23, .blk ((ν2 0).n 0) [.int .i64 0, .int .i64 0] 40), (24, .blk ((ν3 2).n 0) [.slice p_a0 a0.length c_a0] 22), (25, .blk ((ν3 2).n 1) [.slice p_a1 a1.length c_a1] 22), (20, rdK 2 p_a0 a0.length (a0.flatMap en_TInterval)), (21, rdK 2 p_a1 a1.length (a1.flatMap en_TInterval))] (by kernel_rfl)
  refine k_block ?_
  replace G := gd G; obtain ⟨b17, G⟩ := G
  refine k_range2 (α := TInterval × TInterval) (fun x => enI x.1) (fun x => enI x.2) (a0.zip a1) (pairsFx ((ν3 2).n 0) ((ν3 2).n 1) p_a0 p_a1 c_a0 c_a1 a0 a1) 26 27 (fun rs6 L => ∃ x7 : Int, ∃ x8 : Int, box_SquaredDistance.l9 a0 a1 rs6 x7 x8 = some r ∧ L = [(22, .blk ((ν1 0).n 0) [.int .i64 0, .int .i64 0] 40), (23, .blk ((ν2 0).n 0) [.int .i64 x7, .int .i64 x8] 40), (24, .blk ((ν3 2).n 0) [.slice p_a0 a0.length c_a0] 22), (25, .blk ((ν3 2).n 1) [.slice p_a1 a1.length c_a1] 22), (20, rdK 2 p_a0 a0.length (a0.flatMap en_TInterval)), (21, rdK 2 p_a1 a1.length (a1.flatMap en_TInterval))]) (fun _ => False) [(22, .blk ((ν1 0).n 0) [.int .i64 0, .int .i64 0] 40), (23, .blk ((ν2 0).n 0) [.int .i64 0, .int .i64 0] 40), (24, .blk ((ν3 2).n 0) [.slice p_a0 a0.length c_a0] 22), (25, .blk ((ν3 2).n 1) [.slice p_a1 a1.length c_a1] 22), (20, rdK 2 p_a0 a0.length (a0.flatMap en_TInterval)), (21, rdK 2 p_a1 a1.length (a1.flatMap en_TInterval))] H (by kernel_rfl) (by kernel_rfl) (enters_fn Try.func91 (by kernel_rfl) rfl) (box_pairs_1.ok a0 a1 b17.1 b17.2 ((ν3 2).n 0) ((ν3 2).n 1) p_a0 p_a1 c_a0 c_a1) (by kernel_rfl) (by kernel_rfl) ⟨_, _, G, rfl⟩ (by kernel_rfl) (by kernel_rfl) (by kernel_rfl) (by kernel_rfl) (by kernel_rfl) ?_ ?_ ?_ ?_
  · clear H G; rintro rs L a W ⟨x7, x8, _, rfl⟩ H
    exact ⟨H.holds 24, H.holds 25, (rd_of (H.holds 20)), (rd_of (H.holds 21))⟩
  · clear H G; rintro l D oR oD ⟨x4, y5⟩ rs6 L a w' ⟨x7, x8, G, rfl⟩ H
    unfold box_SquaredDistance.l9 at G
    replace H := H.toL [(4, .slot true (.pointer (some ⟨((ν1 0).n 0), 0, none⟩))), (5, .slot true (.pointer (some ⟨((ν2 0).n 0), 0, none⟩))), (10, .slot true (.func (.func 91) #[] #[.pointer (some ⟨((ν3 2).n 0), 0, none⟩), .pointer (some ⟨((ν3 2).n 1), 0, none⟩)])), (11, .slot true (.agg #[.int .i64 x4.Lo, .int .i64 x4.Hi])), (12, .slot true (.agg #[.int .i64 y5.Lo, .int .i64 y5.Hi])), (22, .blk ((ν1 0).n 0) [.int .i64 0, .int .i64 0] 40), (23, .blk ((ν2 0).n 0) [.int .i64 x7, .int .i64 x8] 40), (24, .blk ((ν3 2).n 0) [.slice p_a0 a0.length c_a0] 22), (25, .blk ((ν3 2).n 1) [.slice p_a1 a1.length c_a1] 22), (20, rdK 2 p_a0 a0.length (a0.flatMap en_TInterval)), (21, rdK 2 p_a1 a1.length (a1.flatMap en_TInterval)), (26, obK l oR), (27, obK D oD)] (by kernel_rfl)
    refine r_seq ?_
    refine r_reg mixed H (.cons [6, 28] (ok_new (fun b => .pointer (some ⟨b, 0, none⟩)) (fun ν10 => [.int .i64 0, .int .i64 0]) 40 6 28) <|
      .cons [28] (ok_as (u' := fun ν10 => [(28, .blk ((ν10 0).n 0) [.int .i64 x4.Lo, .int .i64 x4.Hi] 40)]) (ok_store 28 0 (fun ν10 => ((ν10 0).n 0)) (fun ν10 => [.int .i64 0, .int .i64 0]) (fun ν10 => [.int .i64 x4.Lo, .int .i64 x4.Hi]) 40) (fun _ => by kernel_rfl)) <| .nil) (by kernel_rfl) (by kernel_rfl) fun ν10 a w' H => ?_
    replace H := H.toL [(4, .slot true (.pointer (some ⟨((ν1 0).n 0), 0, none⟩))), (5, .slot true (.pointer (some ⟨((ν2 0).n 0), 0, none⟩))), (6, .slot true (.pointer (some ⟨((ν10 0).n 0), 0, none⟩))), (10, .slot true (.func (.func 91) #[] #[.pointer (some ⟨((ν3 2).n 0), 0, none⟩), .pointer (some ⟨((ν3 2).n 1), 0, none⟩)])), (12, .slot true (.agg #[.int .i64 y5.Lo, .int .i64 y5.Hi])), (22, .blk ((ν1 0).n 0) [.int .i64 0, .int .i64 0] 40), (23, .blk ((ν2 0).n 0) [.int .i64 x7, .int .i64 x8] 40), (24, .blk ((ν3 2).n 0) [.slice p_a0 a0.length c_a0] 22), (25, .blk ((ν3 2).n 1) [.slice p_a1 a1.length c_a1] 22), (28, .blk ((ν10 0).n 0) [.int .i64 x4.Lo, .int .i64 x4.Hi] 40), (20, rdK 2 p_a0 a0.length (a0.flatMap en_TInterval)), (21, rdK 2 p_a1 a1.length (a1.flatMap en_TInterval)), (26, obK l oR), (27, obK D oD)] (by kernel_rfl)
    refine r_reg mixed H (.cons [7, 29] (ok_new (fun b => .pointer (some ⟨b, 0, none⟩)) (fun ν11 => [.int .i64 0, .int .i64 0]) 40 7 29) <|
      .cons [29] (ok_as (u' := fun ν11 => [(29, .blk ((ν11 0).n 0) [.int .i64 y5.Lo, .int .i64 y5.Hi] 40)]) (ok_store 29 0 (fun ν11 => ((ν11 0).n 0)) (fun ν11 => [.int .i64 0, .int .i64 0]) (fun ν11 => [.int .i64 y5.Lo, .int .i64 y5.Hi]) 40) (fun _ => by kernel_rfl)) <| .nil) (by kernel_rfl) (by kernel_rfl) fun ν11 a w' H => ?_
    replace H := H.toL [(4, .slot true (.pointer (some ⟨((ν1 0).n 0), 0, none⟩))), (5, .slot true (.pointer (some ⟨((ν2 0).n 0), 0, none⟩))), (6, .slot true (.pointer (some ⟨((ν10 0).n 0), 0, none⟩))), (7, .slot true (.pointer (some ⟨((ν11 0).n 0), 0, none⟩))), (10, .slot true (.func (.func 91) #[] #[.pointer (some ⟨((ν3 2).n 0), 0, none⟩), .pointer (some ⟨((ν3 2).n 1), 0, none⟩)])), (22, .blk ((ν1 0).n 0) [.int .i64 0, .int .i64 0] 40), (23, .blk ((ν2 0).n 0) [.int .i64 x7, .int .i64 x8] 40), (24, .blk ((ν3 2).n 0) [.slice p_a0 a0.length c_a0] 22), (25, .blk ((ν3 2).n 1) [.slice p_a1 a1.length c_a1] 22), (28, .blk ((ν10 0).n 0) [.int .i64 x4.Lo, .int .i64 x4.Hi] 40), (29, .blk ((ν11 0).n 0) [.int .i64 y5.Lo, .int .i64 y5.Hi] 40), (20, rdK 2 p_a0 a0.length (a0.flatMap en_TInterval)), (21, rdK 2 p_a1 a1.length (a1.flatMap en_TInterval)), (26, obK l oR), (27, obK D oD)] (by kernel_rfl)
    refine ⟨_, H, by kernel_rfl, fun oB w' H => ?_⟩
    replace H := H.toL [(4, .slot true (.pointer (some ⟨((ν1 0).n 0), 0, none⟩))), (5, .slot true (.pointer (some ⟨((ν2 0).n 0), 0, none⟩))), (6, .slot true (.pointer (some ⟨((ν10 0).n 0), 0, none⟩))), (7, .slot true (.pointer (some ⟨((ν11 0).n 0), 0, none⟩))), (10, .slot true (.func (.func 91) #[] #[.pointer (some ⟨((ν3 2).n 0), 0, none⟩), .pointer (some ⟨((ν3 2).n 1), 0, none⟩)])), (22, .blk ((ν1 0).n 0) [.int .i64 0, .int .i64 0] 40), (23, .blk ((ν2 0).n 0) [.int .i64 x7, .int .i64 x8] 40), (24, .blk ((ν3 2).n 0) [.slice p_a0 a0.length c_a0] 22), (25, .blk ((ν3 2).n 1) [.slice p_a1 a1.length c_a1] 22), (28, .blk ((ν10 0).n 0) [.int .i64 x4.Lo, .int .i64 x4.Hi] 40), (29, .blk ((ν11 0).n 0) [.int .i64 y5.Lo, .int .i64 y5.Hi] 40), (20, rdK 2 p_a0 a0.length (a0.flatMap en_TInterval)), (21, rdK 2 p_a1 a1.length (a1.flatMap en_TInterval)), (26, obK l oB), (27, obK D oD)] (by kernel_rfl)
    refine r_block ?_
    replace G := bnd G; obtain ⟨t13, ht13, G⟩ := G
    replace G := bnd G; obtain ⟨t14, ht14, G⟩ := G
    replace G := bnd G; obtain ⟨t15, ht15, G⟩ := G
    refine r_reg mixed H (.cons [13] (ok_ld (fun ν12 => .agg #[.int .i64 x7, .int .i64 x8]) 13 23 0 2 (fun ν12 => ((ν2 0).n 0)) (fun ν12 => [.int .i64 x7, .int .i64 x8]) 40) <|
      .cons [14] (ok_ld (fun ν12 => .agg #[.int .i64 x4.Lo, .int .i64 x4.Hi]) 14 28 0 2 (fun ν12 => ((ν10 0).n 0)) (fun ν12 => [.int .i64 x4.Lo, .int .i64 x4.Hi]) 40) <|
      .cons [15] (ok_ld (fun ν12 => .agg #[.int .i64 y5.Lo, .int .i64 y5.Hi]) 15 29 0 2 (fun ν12 => ((ν11 0).n 0)) (fun ν12 => [.int .i64 y5.Lo, .int .i64 y5.Hi]) 40) <|
      .cons [16] (ok_callv 67 (fun ν12 => #[.agg #[.int .i64 x4.Lo, .int .i64 x4.Hi], .agg #[.int .i64 y5.Lo, .int .i64 y5.Hi]]) (.agg #[.int .i64 t13.Lo, .int .i64 t13.Hi]) 16 [] (fun _ w _ => interval_Sub.calls x4 y5 t13 w ht13)) <|
      .cons [17] (ok_callv 66 (fun ν12 => #[.agg #[.int .i64 t13.Lo, .int .i64 t13.Hi]]) (.agg #[.int .i64 t14.Lo, .int .i64 t14.Hi]) 17 [] (fun _ w _ => interval_Square.calls t13 t14 w ht14)) <|
      .cons [18] (ok_callv 65 (fun ν12 => #[.agg #[.int .i64 x7, .int .i64 x8], .agg #[.int .i64 t14.Lo, .int .i64 t14.Hi]]) (.agg #[.int .i64 t15.Lo, .int .i64 t15.Hi]) 18 [] (fun _ w _ => interval_Add.calls (⟨x7, x8⟩ : TInterval) t14 t15 w ht15)) <|
      .cons [23] (ok_as (u' := fun ν12 => [(23, .blk ((ν2 0).n 0) [.int .i64 t15.Lo, .int .i64 t15.Hi] 40)]) (ok_store 23 0 (fun ν12 => ((ν2 0).n 0)) (fun ν12 => [.int .i64 x7, .int .i64 x8]) (fun ν12 => [.int .i64 t15.Lo, .int .i64 t15.Hi]) 40) (fun _ => by kernel_rfl)) <| .nil) (by kernel_rfl) (by kernel_rfl) fun ν12 a w' H => ?_
    replace H := H.toL [(4, .slot true (.pointer (some ⟨((ν1 0).n 0), 0, none⟩))), (5, .slot true (.pointer (some ⟨((ν2 0).n 0), 0, none⟩))), (10, .slot true (.func (.func 91) #[] #[.pointer (some ⟨((ν3 2).n 0), 0, none⟩), .pointer (some ⟨((ν3 2).n 1), 0, none⟩)])), (22, .blk ((ν1 0).n 0) [.int .i64 0, .int .i64 0] 40), (23, .blk ((ν2 0).n 0) [.int .i64 t15.Lo, .int .i64 t15.Hi] 40), (24, .blk ((ν3 2).n 0) [.slice p_a0 a0.length c_a0] 22), (25, .blk ((ν3 2).n 1) [.slice p_a1 a1.length c_a1] 22), (20, rdK 2 p_a0 a0.length (a0.flatMap en_TInterval)), (21, rdK 2 p_a1 a1.length (a1.flatMap en_TInterval)), (26, obK l oB), (27, obK D oD)] (by kernel_rfl)
    exact ⟨[(22, .blk ((ν1 0).n 0) [.int .i64 0, .int .i64 0] 40), (23, .blk ((ν2 0).n 0) [.int .i64 t15.Lo, .int .i64 t15.Hi] 40), (24, .blk ((ν3 2).n 0) [.slice p_a0 a0.length c_a0] 22), (25, .blk ((ν3 2).n 1) [.slice p_a1 a1.length c_a1] 22), (20, rdK 2 p_a0 a0.length (a0.flatMap en_TInterval)), (21, rdK 2 p_a1 a1.length (a1.flatMap en_TInterval))], ⟨_, _, G, rfl⟩, by kernel_rfl, H.toL _ (by kernel_rfl)⟩
  · clear H G; rintro D L W ⟨x7, x8, G, rfl⟩ H
    unfold box_SquaredDistance.l9 at G
    replace H := H.toL [(4, .slot true (.pointer (some ⟨((ν1 0).n 0), 0, none⟩))), (5, .slot true (.pointer (some ⟨((ν2 0).n 0), 0, none⟩))), (10, .slot true (.func (.func 91) #[] #[.pointer (some ⟨((ν3 2).n 0), 0, none⟩), .pointer (some ⟨((ν3 2).n 1), 0, none⟩)])), (22, .blk ((ν1 0).n 0) [.int .i64 0, .int .i64 0] 40), (23, .blk ((ν2 0).n 0) [.int .i64 x7, .int .i64 x8] 40), (24, .blk ((ν3 2).n 0) [.slice p_a0 a0.length c_a0] 22), (25, .blk ((ν3 2).n 1) [.slice p_a1 a1.length c_a1] 22), (20, rdK 2 p_a0 a0.length (a0.flatMap en_TInterval)), (21, rdK 2 p_a1 a1.length (a1.flatMap en_TInterval)), (27, obK D (.deferred (some [])))] (by kernel_rfl)
    refine k_after ?_
    refine r_seq ?_
    refine r_reg mixed H (.cons [19] (ok_ld (fun ν16 => .agg #[.int .i64 x7, .int .i64 x8]) 19 23 0 2 (fun ν16 => ((ν2 0).n 0)) (fun ν16 => [.int .i64 x7, .int .i64 x8]) 40) <|
      .cons [22] (ok_as (u' := fun ν16 => [(22, .blk ((ν1 0).n 0) [.int .i64 x7, .int .i64 x8] 40)]) (ok_store 22 0 (fun ν16 => ((ν1 0).n 0)) (fun ν16 => [.int .i64 0, .int .i64 0]) (fun ν16 => [.int .i64 x7, .int .i64 x8]) 40) (fun _ => by kernel_rfl)) <| .nil) (by kernel_rfl) (by kernel_rfl) fun ν16 a w' H => ?_
    replace H := H.toL [(4, .slot true (.pointer (some ⟨((ν1 0).n 0), 0, none⟩))), (22, .blk ((ν1 0).n 0) [.int .i64 x7, .int .i64 x8] 40), (27, obK D (.deferred (some [])))] (by kernel_rfl)
    refine r_ret ?_
    obtain rfl := Option.some.inj G
    refine k_mark 27 H (by kernel_rfl) fun w' H => ?_
    exact k_done1 H _ 22 ((ν1 0).n 0) [.int .i64 x7, .int .i64 x8] 40 0 2 (by kernel_rfl) (by kernel_rfl) (by kernel_rfl) (by kernel_rfl)
  · clear H G; rintro D L W h H; exact h.elim

set_option maxHeartbeats 4000000 in
theorem box_Separated.calls (a0 : List TInterval) (a1 : List TInterval) (a2 : Int) (p_a0 : Option Addr) (c_a0 : Nat) (p_a1 : Option Addr) (c_a1 : Nat) (r : Bool) (w : World) (R_p_a0 : RowAt w 2 p_a0 a0.length (a0.flatMap en_TInterval)) (R_p_a1 : RowAt w 2 p_a1 a1.length (a1.flatMap en_TInterval)) (G : box_Separated a0 a1 a2 = some r) :
    Calls Try.prog 30 #[.slice p_a0 a0.length c_a0, .slice p_a1 a1.length c_a1, .int .i64 a2] w fun e w' => e = .returned (.bool r) ∧ Below w.heap.size w w' := by
  refine k_enterF (args := [.slice p_a0 a0.length c_a0, .slice p_a1 a1.length c_a1, .int .i64 a2]) 28 [(28, rdK 2 p_a0 a0.length (a0.flatMap en_TInterval)), (29, rdK 2 p_a1 a1.length (a1.flatMap en_TInterval))] (by
    intro x hx
    simp only [List.mem_cons, List.not_mem_nil, or_false] at hx
    rcases hx with rfl | rfl
    · exact rd_fact R_p_a0 (by decide) _
    · exact rd_fact R_p_a1 (by decide) _) Try.func30 rfl (by kernel_rfl) (by kernel_rfl) fun a H => ?_
  unfold box_Separated at G
  refine k_seq ?_
  refine k_reg mixed H (.cons [6] (ok_val (fun ν1 => .bool false) 6) <| .nil) (by kernel_rfl) fun ν1 a w' H => ?_
  replace H := H.toL [(0, .slot true (.slice p_a0 a0.length c_a0)), (1, .slot true (.slice p_a1 a1.length c_a1)), (2, .slot true (.int .i64 a2)), (6, .slot true (.bool false)), (28, rdK 2 p_a0 a0.length (a0.flatMap en_TInterval)), (29, rdK 2 p_a1 a1.length (a1.flatMap en_TInterval))] (by kernel_rfl)
  refine k_seq ?_
  replace G := bnd G; obtain ⟨t3, ht3, G⟩ := G
  refine k_reg mixed H (.cons [10] (ok_val (fun ν2 => .slice p_a0 a0.length c_a0) 10) <|
      .cons [11] (ok_val (fun ν2 => .slice p_a1 a1.length c_a1) 11) <|
      .cons [12] (ok_callL [28, 29] (fun ν2 => [rdK 2 p_a0 a0.length (a0.flatMap en_TInterval), rdK 2 p_a1 a1.length (a1.flatMap en_TInterval)]) 28 (fun ν2 => #[.slice p_a0 a0.length c_a0, .slice p_a1 a1.length c_a1]) (.agg #[.int .i64 t3.Lo, .int .i64 t3.Hi]) 12 (fun ν2 w hF => box_SquaredDistance.calls a0 a1 p_a0 c_a0 p_a1 c_a1 t3 w (rd_of hF.1) (rd_of hF.2.1) ht3)) <|
      .cons [7, 30] (ok_new (fun b => .pointer (some ⟨b, 0, none⟩)) (fun ν2 => [.int .i64 0, .int .i64 0]) 40 7 30) <|
      .cons [30] (ok_as (u' := fun ν2 => [(30, .blk ((ν2 3).n 0) [.int .i64 t3.Lo, .int .i64 t3.Hi] 40)]) (ok_store 30 0 (fun ν2 => ((ν2 3).n 0)) (fun ν2 => [.int .i64 0, .int .i64 0]) (fun ν2 => [.int .i64 t3.Lo, .int .i64 t3.Hi]) 40) (fun _ => by kernel_rfl)) <| .nil) (by kernel_rfl) fun ν2 a w' H => ?_
  replace H := H.toL [(2, .slot true (.int .i64 a2)), (6, .slot true (.bool false)), (7, .slot true (.pointer (some ⟨((ν2 3).n 0), 0, none⟩))), (30, .blk ((ν2 3).n 0) [.int .i64 t3.Lo, .int .i64 t3.Hi] 40)] (by kernel_rfl)
  refine k_seq ?_
  replace G := bnd G; obtain ⟨t5, ht5, G⟩ := G
  refine k_reg mixed H (.cons [14] (ok_val (fun ν4 => .int .i64 a2) 14) <|
      .cons [15] (ok_val (fun ν4 => .int .i64 a2) 15) <|
      .cons [16] (ok_callv 71 (fun ν4 => #[.int .i64 a2, .int .i64 a2]) (.tuple #[.int .i64 t5.1, .int .i64 t5.2]) 16 [] (fun _ w _ => fixed_Mul.calls a2 a2 t5 w ht5)) <|
      .cons [13] (ok_val (fun ν4 => .tuple #[.int .i64 t5.1, .int .i64 t5.2]) 13) <|
      .cons [17] (ok_val (fun ν4 => .int .i64 t5.1) 17) <|
      .cons [18] (ok_val (fun ν4 => .int .i64 t5.2) 18) <|
      .cons [8] (ok_val (fun ν4 => .int .i64 t5.1) 8) <|
      .cons [9] (ok_val (fun ν4 => .int .i64 t5.2) 9) <| .nil) (by kernel_rfl) fun ν4 a w' H => ?_
  replace H := H.toL [(6, .slot true (.bool false)), (7, .slot true (.pointer (some ⟨((ν2 3).n 0), 0, none⟩))), (9, .slot true (.int .i64 t5.2)), (30, .blk ((ν2 3).n 0) [.int .i64 t3.Lo, .int .i64 t3.Hi] 40)] (by kernel_rfl)
  refine k_seq ?_
  replace G := bnd G; obtain ⟨t7, ht7, G⟩ := G
  refine k_reg mixed H (.cons [19] (ok_ld (fun ν6 => .agg #[.int .i64 t3.Lo, .int .i64 t3.Hi]) 19 30 0 2 (fun ν6 => ((ν2 3).n 0)) (fun ν6 => [.int .i64 t3.Lo, .int .i64 t3.Hi]) 40) <|
      .cons [20] (ok_callv 48 (fun ν6 => #[.agg #[.int .i64 t3.Lo, .int .i64 t3.Hi]]) (.bool t7) 20 [] (fun _ w _ => interval_IsEntire.calls t3 t7 w ht7)) <|
      .cons [21] (ok_val (fun ν6 => .bool (!t7)) 21) <|
      .cons [22] (ok_val (fun ν6 => .bool (!t7)) 22) <|
      .cons [23] (ok_valg (fun ν6 => .pointer (some ⟨((ν2 3).n 0), 0, none⟩)) (fun ν6 => ((!t7) == true)) [true] 23) <|
      .cons [24] (ok_ldg (fun ν6 => .int .i64 t3.Lo) (fun ν6 => ((!t7) == true)) [false] 24 30 0 1 (fun ν6 => ((ν2 3).n 0)) (fun ν6 => [.int .i64 t3.Lo, .int .i64 t3.Hi]) 40) <|
      .cons [25] (ok_valg (fun ν6 => .int .i64 t5.2) (fun ν6 => ((!t7) == true)) [true] 25) <|
      .cons [26] (ok_valg (fun ν6 => .bool (decide (t3.Lo > t5.2))) (fun ν6 => ((!t7) == true)) [false, false] 26) <|
      .cons [27] (ok_and 22 26 (fun ν6 => true) (fun ν6 => true) (fun ν6 => (!t7)) (fun ν6 => decide (t3.Lo > t5.2)) 27) <|
      .cons [6] (ok_val (fun ν6 => .bool ((!t7) && (decide (t3.Lo > t5.2)))) 6) <| .nil) (by kernel_rfl) fun ν6 a w' H => ?_
  replace H := H.toL [(6, .slot true (.bool ((!t7) && (decide (t3.Lo > t5.2)))))] (by kernel_rfl)
  refine k_ret ?_
  obtain rfl := Option.some.inj G
  exact k_done0 H _ (by kernel_rfl) (by kernel_rfl)

set_option maxHeartbeats 4000000 in
theorem box_Inflate_1.calls (a0 : TInterval) (q1_0 : Int) (b_q1_0 : Nat) (r : TInterval) (w : World) (X_b_q1_0 : w.heap[b_q1_0]? = some (.cells [.int .i64 q1_0].toArray 2 (0, 0))) (G : box_Inflate_1 a0 q1_0 = some r) :
    Calls Try.prog 73 #[.agg #[.int .i64 a0.Lo, .int .i64 a0.Hi], .pointer (some ⟨b_q1_0, 0, none⟩)] w fun e w' => e = .returned (.agg #[.int .i64 r.Lo, .int .i64 r.Hi]) ∧ Below w.heap.size w w' := by
  refine k_enterF (args := [.agg #[.int .i64 a0.Lo, .int .i64 a0.Hi], .pointer (some ⟨b_q1_0, 0, none⟩)]) 16 [(16, bxK b_q1_0 [.int .i64 q1_0] 2)] (by
    intro x hx
    simp only [List.mem_cons, List.not_mem_nil, or_false] at hx
    rcases hx with rfl
    exact bx_fact X_b_q1_0 16) Try.func73 rfl (by kernel_rfl) (by kernel_rfl) fun a H => ?_
  unfold box_Inflate_1 at G
  refine k_seq ?_
  refine k_reg mixed H (.cons [2, 17] (ok_new (fun b => .pointer (some ⟨b, 0, none⟩)) (fun ν1 => [.int .i64 a0.Lo, .int .i64 a0.Hi]) 40 2 17) <|
      .cons [3, 18] (ok_new (fun b => .pointer (some ⟨b, 0, none⟩)) (fun ν1 => [.int .i64 0, .int .i64 0]) 40 3 18) <| .nil) (by kernel_rfl) fun ν1 a w' H => ?_
  replace H := H.toL [(1, .slot true (.pointer (some ⟨b_q1_0, 0, none⟩))), (2, .slot true (.pointer (some ⟨((ν1 0).n 0), 0, none⟩))), (3, .slot true (.pointer (some ⟨((ν1 1).n 0), 0, none⟩))), (17, .blk ((ν1 0).n 0) [.int .i64 a0.Lo, .int .i64 a0.Hi] 40), (18, .blk ((ν1 1).n 0) [.int .i64 0, .int .i64 0] 40), (16, bxK b_q1_0 [.int .i64 q1_0] 2)] (by kernel_rfl)
  refine k_seq ?_
  refine k_seq ?_
  replace G := bnd G; obtain ⟨t3, ht3, G⟩ := G
  refine k_reg mixed H (.cons [4] (ok_ld (fun ν2 => .agg #[.int .i64 a0.Lo, .int .i64 a0.Hi]) 4 17 0 2 (fun ν2 => ((ν1 0).n 0)) (fun ν2 => [.int .i64 a0.Lo, .int .i64 a0.Hi]) 40) <|
      .cons [5] (ok_callv 48 (fun ν2 => #[.agg #[.int .i64 a0.Lo, .int .i64 a0.Hi]]) (.bool t3) 5 [] (fun _ w _ => interval_IsEntire.calls a0 t3 w ht3)) <| .nil) (by kernel_rfl) fun ν2 a w' H => ?_
  replace H := H.toL [(1, .slot true (.pointer (some ⟨b_q1_0, 0, none⟩))), (2, .slot true (.pointer (some ⟨((ν1 0).n 0), 0, none⟩))), (3, .slot true (.pointer (some ⟨((ν1 1).n 0), 0, none⟩))), (5, .slot true (.bool t3)), (17, .blk ((ν1 0).n 0) [.int .i64 a0.Lo, .int .i64 a0.Hi] 40), (18, .blk ((ν1 1).n 0) [.int .i64 0, .int .i64 0] 40), (16, bxK b_q1_0 [.int .i64 q1_0] 2)] (by kernel_rfl)
  refine k_cond H (by kernel_rfl) (t := t3) (by kernel_rfl) (fun c7 => ?_) (fun c7 => ?_)
  · rw [if_pos c7] at G
    refine k_seq ?_
    refine k_reg mixed H (.cons [6] (ok_ld (fun ν4 => .agg #[.int .i64 a0.Lo, .int .i64 a0.Hi]) 6 17 0 2 (fun ν4 => ((ν1 0).n 0)) (fun ν4 => [.int .i64 a0.Lo, .int .i64 a0.Hi]) 40) <|
      .cons [18] (ok_as (u' := fun ν4 => [(18, .blk ((ν1 1).n 0) [.int .i64 a0.Lo, .int .i64 a0.Hi] 40)]) (ok_store 18 0 (fun ν4 => ((ν1 1).n 0)) (fun ν4 => [.int .i64 0, .int .i64 0]) (fun ν4 => [.int .i64 a0.Lo, .int .i64 a0.Hi]) 40) (fun _ => by kernel_rfl)) <| .nil) (by kernel_rfl) fun ν4 a w' H => ?_
    replace H := H.toL [(1, .slot true (.pointer (some ⟨b_q1_0, 0, none⟩))), (2, .slot true (.pointer (some ⟨((ν1 0).n 0), 0, none⟩))), (3, .slot true (.pointer (some ⟨((ν1 1).n 0), 0, none⟩))), (17, .blk ((ν1 0).n 0) [.int .i64 a0.Lo, .int .i64 a0.Hi] 40), (18, .blk ((ν1 1).n 0) [.int .i64 a0.Lo, .int .i64 a0.Hi] 40), (16, bxK b_q1_0 [.int .i64 q1_0] 2)] (by kernel_rfl)
    refine k_ret ?_
    obtain rfl := Option.some.inj G
    exact k_done1 H _ 18 ((ν1 1).n 0) [.int .i64 a0.Lo, .int .i64 a0.Hi] 40 0 2 (by kernel_rfl) (by kernel_rfl) (by kernel_rfl) (by kernel_rfl)
  · rw [if_neg (nt c7)] at G
    refine k_skip ?_
    refine k_seq ?_
    replace G := bnd G; obtain ⟨t6, ht6, G⟩ := G
    refine k_reg mixed H (.cons [7] (ok_val (fun ν5 => .pointer (some ⟨((ν1 0).n 0), 0, none⟩)) 7) <|
      .cons [8] (ok_ld (fun ν5 => .int .i64 a0.Lo) 8 17 0 1 (fun ν5 => ((ν1 0).n 0)) (fun ν5 => [.int .i64 a0.Lo, .int .i64 a0.Hi]) 40) <|
      .cons [9] (ok_ldK (fun ν5 => .int .i64 q1_0) 9 16 (bxK b_q1_0 [.int .i64 q1_0] 2) b_q1_0 0 1 [.int .i64 q1_0] (fun w h => bx_of h)) <|
      .cons [10] (ok_val (fun ν5 => .int .i64 (w_i64 (a0.Lo - q1_0))) 10) <|
      .cons [11] (ok_val (fun ν5 => .pointer (some ⟨((ν1 0).n 0), 1, none⟩)) 11) <|
      .cons [12] (ok_ld (fun ν5 => .int .i64 a0.Hi) 12 17 1 1 (fun ν5 => ((ν1 0).n 0)) (fun ν5 => [.int .i64 a0.Lo, .int .i64 a0.Hi]) 40) <|
      .cons [13] (ok_ldK (fun ν5 => .int .i64 q1_0) 13 16 (bxK b_q1_0 [.int .i64 q1_0] 2) b_q1_0 0 1 [.int .i64 q1_0] (fun w h => bx_of h)) <|
      .cons [14] (ok_val (fun ν5 => .int .i64 (w_i64 (a0.Hi + q1_0))) 14) <|
      .cons [15] (ok_callv 74 (fun ν5 => #[.int .i64 (w_i64 (a0.Lo - q1_0)), .int .i64 (w_i64 (a0.Hi + q1_0))]) (.agg #[.int .i64 t6.Lo, .int .i64 t6.Hi]) 15 [] (fun _ w _ => interval_New.calls (w_i64 (a0.Lo - q1_0)) (w_i64 (a0.Hi + q1_0)) t6 w ht6)) <|
      .cons [18] (ok_as (u' := fun ν5 => [(18, .blk ((ν1 1).n 0) [.int .i64 t6.Lo, .int .i64 t6.Hi] 40)]) (ok_store 18 0 (fun ν5 => ((ν1 1).n 0)) (fun ν5 => [.int .i64 0, .int .i64 0]) (fun ν5 => [.int .i64 t6.Lo, .int .i64 t6.Hi]) 40) (fun _ => by kernel_rfl)) <| .nil) (by kernel_rfl) fun ν5 a w' H => ?_
    replace H := H.toL [(3, .slot true (.pointer (some ⟨((ν1 1).n 0), 0, none⟩))), (18, .blk ((ν1 1).n 0) [.int .i64 t6.Lo, .int .i64 t6.Hi] 40), (16, bxK b_q1_0 [.int .i64 q1_0] 2)] (by kernel_rfl)
    refine k_ret ?_
    obtain rfl := Option.some.inj G
    exact k_done1 H _ 18 ((ν1 1).n 0) [.int .i64 t6.Lo, .int .i64 t6.Hi] 40 0 2 (by kernel_rfl) (by kernel_rfl) (by kernel_rfl) (by kernel_rfl)

set_option maxHeartbeats 4000000 in
theorem api_Interval_72_s73.calls (k0 : Nat) (a0 : List TInterval) (q1_0 : Int) (p_a0 : Option Addr) (c_a0 : Nat) (b_q1_0 : Nat) (r : List TInterval) (w : World) (R_p_a0 : RowAt w 2 p_a0 a0.length (a0.flatMap en_TInterval)) (X_b_q1_0 : w.heap[b_q1_0]? = some (.cells [.int .i64 q1_0].toArray 2 (0, 0))) (G : api_Interval_72_s73 k0 a0 q1_0 = some r) :
    Calls Try.prog 72 #[.slice p_a0 a0.length c_a0, .func (.func 73) #[] #[.pointer (some ⟨b_q1_0, 0, none⟩)]] w fun e w' => ∃ p cap, e = .returned (.slice p r.length cap) ∧ Below w.heap.size w w' ∧ w'.ownsRow w.heap.size 40 2 (.slice p r.length cap) r.length (r.flatMap en_TInterval) := by
  refine k_enterF (args := [.slice p_a0 a0.length c_a0, .func (.func 73) #[] #[.pointer (some ⟨b_q1_0, 0, none⟩)]]) 26 [(27, rdK 2 p_a0 a0.length (a0.flatMap en_TInterval)), (26, bxK b_q1_0 [.int .i64 q1_0] 2)] (by
    intro x hx
    simp only [List.mem_cons, List.not_mem_nil, or_false] at hx
    rcases hx with rfl | rfl
    · exact rd_fact R_p_a0 (by decide) _
    · exact bx_fact X_b_q1_0 26) Try.func72 rfl (by kernel_rfl) (by kernel_rfl) fun a H => ?_
  unfold api_Interval_72_s73 at G
  refine k_seq ?_
  refine k_reg mixed H (.cons [4] (ok_val (fun ν1 => .slice none 0 0) 4) <| .nil) (by kernel_rfl) fun ν1 a w' H => ?_
  replace H := H.toL [(0, .slot true (.slice p_a0 a0.length c_a0)), (1, .slot true (.func (.func 73) #[] #[.pointer (some ⟨b_q1_0, 0, none⟩)])), (4, .slot true (.slice none 0 0)), (27, rdK 2 p_a0 a0.length (a0.flatMap en_TInterval)), (26, bxK b_q1_0 [.int .i64 q1_0] 2)] (by kernel_rfl)
  refine k_seq ?_
  replace G := gd G; obtain ⟨b3, G⟩ := G
  refine k_reg mixed H (.cons [8] (ok_val (fun ν2 => .slice p_a0 a0.length c_a0) 8) <|
      .cons [9] (ok_val (fun ν2 => .int .i64 (a0.length : Int)) 9) <|
      .cons [10, 28] (ok_rowL [] (fun ν2 => []) 40 2 (List.replicate (a0.length : Int).toNat (⟨0, 0⟩ : TInterval)).length ((List.replicate (a0.length : Int).toNat (⟨0, 0⟩ : TInterval)).flatMap en_TInterval) 10 28 (fun _ => .none) (fun ν2 w hF => run_make_row (t := 22) (k := .i64) (m := (a0.length : Int)) (en := en_TInterval) (z := (⟨0, 0⟩ : TInterval)) en_TInterval_len inf40 rfl b3 (by kernel_rfl)) (fun _ => .inl rfl)) <|
      .cons [5] (ok_val (fun ν2 => .slice ((ν2 2).o 0) (List.replicate (a0.length : Int).toNat (⟨0, 0⟩ : TInterval)).length ((ν2 2).n 0)) 5) <| .nil) (by kernel_rfl) fun ν2 a w' H => ?_
  replace H := H.toL [(0, .slot true (.slice p_a0 a0.length c_a0)), (1, .slot true (.func (.func 73) #[] #[.pointer (some ⟨b_q1_0, 0, none⟩)])), (4, .slot true (.slice none 0 0)), (5, .slot true (.slice ((ν2 2).o 0) (List.replicate (a0.length : Int).toNat (⟨0, 0⟩ : TInterval)).length ((ν2 2).n 0))), (27, rdK 2 p_a0 a0.length (a0.flatMap en_TInterval)), (28, owK 40 2 ((ν2 2).o 0) (List.replicate (a0.length : Int).toNat (⟨0, 0⟩ : TInterval)).length ((ν2 2).n 0) ((List.replicate (a0.length : Int).toNat (⟨0, 0⟩ : TInterval)).flatMap en_TInterval)), (26, bxK b_q1_0 [.int .i64 q1_0] 2)] (by kernel_rfl)
  refine k_seq ?_
  replace G := bnd G; obtain ⟨j5, hj5, G⟩ := G
  refine k_join (fun a w' => ∃ (p_j4 : Option Addr) (c_j4 np_j4 : Nat), np_j4 = j5.length ∧ Rep w.heap.size w 26 (ofL [(4, .slot true (.slice none 0 0)), (5, .slot true (.slice p_j4 np_j4 c_j4)), (28, owK 40 2 p_j4 np_j4 c_j4 (j5.flatMap en_TInterval)), (26, bxK b_q1_0 [.int .i64 q1_0] 2)]) a w') ?_ ?_
  · clear H; rintro a w' ⟨p_j4, c_j4, _, rfl, H⟩
    refine k_seq ?_
    refine k_reg mixed H (.cons [25] (ok_val (fun ν6 => .slice p_j4 j5.length c_j4) 25) <|
      .cons [4] (ok_val (fun ν6 => .slice p_j4 j5.length c_j4) 4) <| .nil) (by kernel_rfl) fun ν6 a w' H => ?_
    replace H := H.toL [(4, .slot true (.slice p_j4 j5.length c_j4)), (28, owK 40 2 p_j4 j5.length c_j4 (j5.flatMap en_TInterval)), (26, bxK b_q1_0 [.int .i64 q1_0] 2)] (by kernel_rfl)
    refine k_ret ?_
    obtain rfl := Option.some.inj G
    exact k_doneR H (fun p cap => .slice p j5.length cap) p_j4 c_j4 [] 28 40 2 j5.length (j5.flatMap en_TInterval) (by kernel_rfl) (by kernel_rfl) (by simp) (by kernel_rfl)
  · clear G; replace G := hj5; clear hj5
    refine k_seq ?_
    refine k_reg mixed H (.cons [11] (ok_val (fun ν7 => .slice p_a0 a0.length c_a0) 11) <|
      .cons [12] (ok_val (fun ν7 => .int .i64 (a0.length : Int)) 12) <|
      .cons [13] (ok_val (fun ν7 => .int .i64 0) 13) <| .nil) (by kernel_rfl) fun ν7 a w' H => ?_
    replace H := H.toL [(1, .slot true (.func (.func 73) #[] #[.pointer (some ⟨b_q1_0, 0, none⟩)])), (4, .slot true (.slice none 0 0)), (5, .slot true (.slice ((ν2 2).o 0) (List.replicate (a0.length : Int).toNat (⟨0, 0⟩ : TInterval)).length ((ν2 2).n 0))), (11, .slot true (.slice p_a0 a0.length c_a0)), (12, .slot true (.int .i64 (a0.length : Int))), (13, .slot true (.int .i64 0)), (27, rdK 2 p_a0 a0.length (a0.flatMap en_TInterval)), (28, owK 40 2 ((ν2 2).o 0) (List.replicate (a0.length : Int).toNat (⟨0, 0⟩ : TInterval)).length ((ν2 2).n 0) ((List.replicate (a0.length : Int).toNat (⟨0, 0⟩ : TInterval)).flatMap en_TInterval)), (26, bxK b_q1_0 [.int .i64 q1_0] 2)] (by kernel_rfl)
    refine k_block ?_
    refine k_loopJ (fun m a w' => ∃ x8 : List TInterval, ∃ x9 : Int, api_Interval_72_s73.l10 k0 a0 q1_0 m x8 x9 = some j5 ∧ ∃ (p_x8 : Option Addr) (c_x8 np_x8 : Nat), np_x8 = x8.length ∧ Rep w.heap.size w 26 (ofL [(1, .slot true (.func (.func 73) #[] #[.pointer (some ⟨b_q1_0, 0, none⟩)])), (4, .slot true (.slice none 0 0)), (5, .slot true (.slice p_x8 np_x8 c_x8)), (11, .slot true (.slice p_a0 a0.length c_a0)), (12, .slot true (.int .i64 (a0.length : Int))), (13, .slot true (.int .i64 x9)), (27, rdK 2 p_a0 a0.length (a0.flatMap en_TInterval)), (28, owK 40 2 p_x8 np_x8 c_x8 (x8.flatMap en_TInterval)), (26, bxK b_q1_0 [.int .i64 q1_0] 2)]) a w') k0 ⟨_, _, G, ((ν2 2).o 0), ((ν2 2).n 0), _, rfl, H.toL _ (by kernel_rfl)⟩ ?_
    clear G H
    rintro (_ | k) a w' ⟨x8, x9, G, p_x8, c_x8, _, rfl, H⟩
    · exact absurd G (by unfold api_Interval_72_s73.l10; exact fun h => by cases h)
    · unfold api_Interval_72_s73.l10 at G
      refine k_seq ?_
      refine k_reg mixed H (.cons [14] (ok_val (fun ν11 => .bool (decide (x9 < (a0.length : Int)))) 14) <| .nil) (by kernel_rfl) fun ν11 a w' H => ?_
      replace H := H.toL [(1, .slot true (.func (.func 73) #[] #[.pointer (some ⟨b_q1_0, 0, none⟩)])), (4, .slot true (.slice none 0 0)), (5, .slot true (.slice p_x8 x8.length c_x8)), (11, .slot true (.slice p_a0 a0.length c_a0)), (12, .slot true (.int .i64 (a0.length : Int))), (13, .slot true (.int .i64 x9)), (14, .slot true (.bool (decide (x9 < (a0.length : Int))))), (27, rdK 2 p_a0 a0.length (a0.flatMap en_TInterval)), (28, owK 40 2 p_x8 x8.length c_x8 (x8.flatMap en_TInterval)), (26, bxK b_q1_0 [.int .i64 q1_0] 2)] (by kernel_rfl)
      refine k_seq ?_
      refine k_cond H (by kernel_rfl) (t := decide (x9 < (a0.length : Int))) (by kernel_rfl) (fun c20 => ?_) (fun c20 => ?_)
      · rw [if_pos c20] at G
        refine k_skip ?_
        refine k_seq ?_
        refine k_block ?_
        refine k_seq ?_
        replace G := gd G; obtain ⟨b13, G⟩ := G
        replace G := bnd G; obtain ⟨t14, ht14, G⟩ := G
        refine k_reg mixed H (.cons [15] (ok_val (fun ν12 => .int .i64 x9) 15) <|
      .cons [16] (ok_valL [27] (fun ν12 => [rdK 2 p_a0 a0.length (a0.flatMap en_TInterval)]) (fun ν12 => .pointer (some ⟨hdB p_a0, hdO p_a0 + x9.toNat * 2, none⟩)) (fun ν12 => true) [true, true] 16 (fun ν12 w hg hF => run_of (by kernel_rfl) (run_ix (t := 22) (p := p_a0) (n := a0.length) (cap := c_a0) (k := .i64) (i := x9) (sz := 2) (by kernel_rfl) (by kernel_rfl) (rd_of hF.1) b13))) <|
      .cons [17] (ok_valL [27] (fun ν12 => [rdK 2 p_a0 a0.length (a0.flatMap en_TInterval)]) (fun ν12 => .agg #[.int .i64 t14.Lo, .int .i64 t14.Hi]) (fun ν12 => true) [true] 17 (fun ν12 w hg hF => ld_of (vs := [.int .i64 t14.Lo, .int .i64 t14.Hi]) (b := hdB p_a0) (off := hdO p_a0 + x9.toNat * 2 + 0) (m := 2) (by kernel_rfl) (el_cells (rd_of hF.1) en_TInterval_len ht14 0 2 rfl))) <|
      .cons [7, 29] (ok_new (fun b => .pointer (some ⟨b, 0, none⟩)) (fun ν12 => [.int .i64 0, .int .i64 0]) 40 7 29) <|
      .cons [6] (ok_val (fun ν12 => .int .i64 x9) 6) <|
      .cons [29] (ok_as (u' := fun ν12 => [(29, .blk ((ν12 3).n 0) [.int .i64 t14.Lo, .int .i64 t14.Hi] 40)]) (ok_store 29 0 (fun ν12 => ((ν12 3).n 0)) (fun ν12 => [.int .i64 0, .int .i64 0]) (fun ν12 => [.int .i64 t14.Lo, .int .i64 t14.Hi]) 40) (fun _ => by kernel_rfl)) <| .nil) (by kernel_rfl) fun ν12 a w' H => ?_
        replace H := H.toL [(1, .slot true (.func (.func 73) #[] #[.pointer (some ⟨b_q1_0, 0, none⟩)])), (4, .slot true (.slice none 0 0)), (5, .slot true (.slice p_x8 x8.length c_x8)), (6, .slot true (.int .i64 x9)), (7, .slot true (.pointer (some ⟨((ν12 3).n 0), 0, none⟩))), (11, .slot true (.slice p_a0 a0.length c_a0)), (12, .slot true (.int .i64 (a0.length : Int))), (13, .slot true (.int .i64 x9)), (14, .slot true (.bool (decide (x9 < (a0.length : Int))))), (15, .slot true (.int .i64 x9)), (16, .slot true (.pointer (some ⟨hdB p_a0, hdO p_a0 + x9.toNat * 2, none⟩))), (17, .slot true (.agg #[.int .i64 t14.Lo, .int .i64 t14.Hi])), (29, .blk ((ν12 3).n 0) [.int .i64 t14.Lo, .int .i64 t14.Hi] 40), (27, rdK 2 p_a0 a0.length (a0.flatMap en_TInterval)), (28, owK 40 2 p_x8 x8.length c_x8 (x8.flatMap en_TInterval)), (26, bxK b_q1_0 [.int .i64 q1_0] 2)] (by kernel_rfl)
        replace G := bnd G; obtain ⟨t16, ht16, G⟩ := G
        replace G := gd G; obtain ⟨b17, G⟩ := G
        replace G := bnd G; obtain ⟨t18, ht18, G⟩ := G
        refine k_reg mixed H (.cons [18] (ok_val (fun ν15 => .slice p_x8 x8.length c_x8) 18) <|
      .cons [19] (ok_val (fun ν15 => .int .i64 x9) 19) <|
      .cons [20] (ok_val (fun ν15 => .func (.func 73) #[] #[.pointer (some ⟨b_q1_0, 0, none⟩)]) 20) <|
      .cons [21] (ok_ld (fun ν15 => .agg #[.int .i64 t14.Lo, .int .i64 t14.Hi]) 21 29 0 2 (fun ν15 => ((ν12 3).n 0)) (fun ν15 => [.int .i64 t14.Lo, .int .i64 t14.Hi]) 40) <|
      .cons [22] (ok_callL [26] (fun ν15 => [bxK b_q1_0 [.int .i64 q1_0] 2]) 73 (fun ν15 => #[.agg #[.int .i64 t14.Lo, .int .i64 t14.Hi], .pointer (some ⟨b_q1_0, 0, none⟩)]) (.agg #[.int .i64 t16.Lo, .int .i64 t16.Hi]) 22 (fun ν15 w hF => box_Inflate_1.calls t14 q1_0 b_q1_0 t16 w (hF.1 w (agree.refl _ _)) ht16)) <|
      .cons [23] (ok_valL [28] (fun ν15 => [owK 40 2 p_x8 x8.length c_x8 (x8.flatMap en_TInterval)]) (fun ν15 => .pointer (some ⟨hdB p_x8, hdO p_x8 + x9.toNat * 2, none⟩)) (fun ν15 => true) [true, true] 23 (fun ν15 w hg hF => run_of (by kernel_rfl) (run_ix (t := 22) (p := p_x8) (n := x8.length) (cap := c_x8) (k := .i64) (i := x9) (sz := 2) (by kernel_rfl) (by kernel_rfl) (owns_row (ow_of hF.1)) b17))) <|
      .cons [28] ((ok_rowsetL 40 2 x8.length (fun ν15 => p_x8) (fun ν15 => c_x8) (x8.flatMap en_TInterval) _ 28 (fun ν15 w hF => el_store (ow_of hF) en_TInterval_len (y := t16) (vs := [.int .i64 t16.Lo, .int .i64 t16.Hi]) ht18 0 (by simp) (by simp) rfl (by kernel_rfl)))) <| .nil) (by kernel_rfl) fun ν15 a w' H => ?_
        replace H := H.toL [(1, .slot true (.func (.func 73) #[] #[.pointer (some ⟨b_q1_0, 0, none⟩)])), (4, .slot true (.slice none 0 0)), (5, .slot true (.slice p_x8 x8.length c_x8)), (6, .slot true (.int .i64 x9)), (7, .slot true (.pointer (some ⟨((ν12 3).n 0), 0, none⟩))), (11, .slot true (.slice p_a0 a0.length c_a0)), (12, .slot true (.int .i64 (a0.length : Int))), (13, .slot true (.int .i64 x9)), (14, .slot true (.bool (decide (x9 < (a0.length : Int))))), (15, .slot true (.int .i64 x9)), (16, .slot true (.pointer (some ⟨hdB p_a0, hdO p_a0 + x9.toNat * 2, none⟩))), (17, .slot true (.agg #[.int .i64 t14.Lo, .int .i64 t14.Hi])), (18, .slot true (.slice p_x8 x8.length c_x8)), (19, .slot true (.int .i64 x9)), (20, .slot true (.func (.func 73) #[] #[.pointer (some ⟨b_q1_0, 0, none⟩)])), (21, .slot true (.agg #[.int .i64 t14.Lo, .int .i64 t14.Hi])), (22, .slot true (.agg #[.int .i64 t16.Lo, .int .i64 t16.Hi])), (23, .slot true (.pointer (some ⟨hdB p_x8, hdO p_x8 + x9.toNat * 2, none⟩))), (29, .blk ((ν12 3).n 0) [.int .i64 t14.Lo, .int .i64 t14.Hi] 40), (27, rdK 2 p_a0 a0.length (a0.flatMap en_TInterval)), (28, owK 40 2 p_x8 x8.length c_x8 ((x8.set x9.toNat t16).flatMap en_TInterval)), (26, bxK b_q1_0 [.int .i64 q1_0] 2)] (by kernel_rfl)
        refine k_reg mixed H (.cons [24] (ok_val (fun ν19 => .int .i64 (w_i64 (x9 + 1))) 24) <|
      .cons [13] (ok_val (fun ν19 => .int .i64 (w_i64 (x9 + 1))) 13) <| .nil) (by kernel_rfl) fun ν19 a w' H => ?_
        replace H := H.toL [(1, .slot true (.func (.func 73) #[] #[.pointer (some ⟨b_q1_0, 0, none⟩)])), (4, .slot true (.slice none 0 0)), (5, .slot true (.slice p_x8 x8.length c_x8)), (6, .slot true (.int .i64 x9)), (7, .slot true (.pointer (some ⟨((ν12 3).n 0), 0, none⟩))), (11, .slot true (.slice p_a0 a0.length c_a0)), (12, .slot true (.int .i64 (a0.length : Int))), (13, .slot true (.int .i64 (w_i64 (x9 + 1)))), (14, .slot true (.bool (decide (x9 < (a0.length : Int))))), (15, .slot true (.int .i64 x9)), (16, .slot true (.pointer (some ⟨hdB p_a0, hdO p_a0 + x9.toNat * 2, none⟩))), (17, .slot true (.agg #[.int .i64 t14.Lo, .int .i64 t14.Hi])), (18, .slot true (.slice p_x8 x8.length c_x8)), (19, .slot true (.int .i64 x9)), (20, .slot true (.func (.func 73) #[] #[.pointer (some ⟨b_q1_0, 0, none⟩)])), (21, .slot true (.agg #[.int .i64 t14.Lo, .int .i64 t14.Hi])), (22, .slot true (.agg #[.int .i64 t16.Lo, .int .i64 t16.Hi])), (23, .slot true (.pointer (some ⟨hdB p_x8, hdO p_x8 + x9.toNat * 2, none⟩))), (24, .slot true (.int .i64 (w_i64 (x9 + 1)))), (29, .blk ((ν12 3).n 0) [.int .i64 t14.Lo, .int .i64 t14.Hi] 40), (27, rdK 2 p_a0 a0.length (a0.flatMap en_TInterval)), (28, owK 40 2 p_x8 x8.length c_x8 ((x8.set x9.toNat t16).flatMap en_TInterval)), (26, bxK b_q1_0 [.int .i64 q1_0] 2)] (by kernel_rfl)
        exact ⟨k, Nat.lt_succ_self k, _, _, G, p_x8, c_x8, x8.length, by simp, H.toL _ (by kernel_rfl)⟩
      · rw [if_neg (nt c20)] at G
        refine k_exit rfl ?_
        obtain rfl := Option.some.inj G
        exact ⟨p_x8, c_x8, _, rfl, H.toL _ (by kernel_rfl)⟩

set_option maxHeartbeats 4000000 in
theorem box_Inflate.calls (k0 : Nat) (a0 : List TInterval) (a1 : Int) (p_a0 : Option Addr) (c_a0 : Nat) (r : List TInterval) (w : World) (R_p_a0 : RowAt w 2 p_a0 a0.length (a0.flatMap en_TInterval)) (G : box_Inflate k0 a0 a1 = some r) :
    Calls Try.prog 32 #[.slice p_a0 a0.length c_a0, .int .i64 a1] w fun e w' => ∃ p cap, e = .returned (.slice p r.length cap) ∧ Below w.heap.size w w' ∧ w'.ownsRow w.heap.size 40 2 (.slice p r.length cap) r.length (r.flatMap en_TInterval) := by
  refine k_enterF (args := [.slice p_a0 a0.length c_a0, .int .i64 a1]) 8 [(8, rdK 2 p_a0 a0.length (a0.flatMap en_TInterval))] (by
    intro x hx
    simp only [List.mem_cons, List.not_mem_nil, or_false] at hx
    rcases hx with rfl
    exact rd_fact R_p_a0 (by decide) _) Try.func32 rfl (by kernel_rfl) (by kernel_rfl) fun a H => ?_
  unfold box_Inflate at G
  refine k_seq ?_
  refine k_reg mixed H (.cons [3, 9] (ok_new (fun b => .pointer (some ⟨b, 0, none⟩)) (fun ν1 => [.int .i64 a1]) 2 3 9) <|
      .cons [4] (ok_val (fun ν1 => .slice none 0 0) 4) <| .nil) (by kernel_rfl) fun ν1 a w' H => ?_
  replace H := H.toL [(0, .slot true (.slice p_a0 a0.length c_a0)), (3, .slot true (.pointer (some ⟨((ν1 0).n 0), 0, none⟩))), (4, .slot true (.slice none 0 0)), (9, .blk ((ν1 0).n 0) [.int .i64 a1] 2), (8, rdK 2 p_a0 a0.length (a0.flatMap en_TInterval))] (by kernel_rfl)
  refine k_seq ?_
  replace G := bnd G; obtain ⟨t3, ht3, G⟩ := G
  refine k_reg mixed H (.cons [5] (ok_val (fun ν2 => .slice p_a0 a0.length c_a0) 5) <|
      .cons [6] (ok_val (fun ν2 => .func (.func 73) #[] #[.pointer (some ⟨((ν1 0).n 0), 0, none⟩)]) 6) <|
      .cons [7, 10] (ok_callRL [8, 9] (fun ν2 => [rdK 2 p_a0 a0.length (a0.flatMap en_TInterval), .blk ((ν1 0).n 0) [.int .i64 a1] 2]) 72 (fun ν2 => #[.slice p_a0 a0.length c_a0, .func (.func 73) #[] #[.pointer (some ⟨((ν1 0).n 0), 0, none⟩)]]) (fun p cap => .slice p t3.length cap) 40 2 t3.length (t3.flatMap en_TInterval) 7 10 (fun ν2 w hF => api_Interval_72_s73.calls k0 a0 a1 p_a0 c_a0 ((ν1 0).n 0) t3 w (rd_of hF.1) hF.2.1 ht3)) <|
      .cons [4] (ok_val (fun ν2 => .slice ((ν2 2).o 0) t3.length ((ν2 2).n 0)) 4) <| .nil) (by kernel_rfl) fun ν2 a w' H => ?_
  replace H := H.toL [(4, .slot true (.slice ((ν2 2).o 0) t3.length ((ν2 2).n 0))), (10, owK 40 2 ((ν2 2).o 0) t3.length ((ν2 2).n 0) (t3.flatMap en_TInterval))] (by kernel_rfl)
  refine k_ret ?_
  obtain rfl := Option.some.inj G
  exact k_doneR H (fun p cap => .slice p t3.length cap) ((ν2 2).o 0) ((ν2 2).n 0) [] 10 40 2 t3.length (t3.flatMap en_TInterval) (by kernel_rfl) (by kernel_rfl) (by simp) (by kernel_rfl)

set_option maxHeartbeats 4000000 in
theorem interval_Point.calls (a0 : Int) (r : TInterval) (w : World) (G : interval_Point a0 = some r) :
    Calls Try.prog 77 #[.int .i64 a0] w fun e w' => e = .returned (.agg #[.int .i64 r.Lo, .int .i64 r.Hi]) ∧ Below w.heap.size w w' := by
  refine k_enter (args := [.int .i64 a0]) 6 Try.func77 rfl (by kernel_rfl) (by kernel_rfl) fun a H => ?_
  unfold interval_Point at G
  refine k_seq ?_
  refine k_reg mixed H (.cons [2, 6] (ok_new (fun b => .pointer (some ⟨b, 0, none⟩)) (fun ν1 => [.int .i64 0, .int .i64 0]) 40 2 6) <| .nil) (by kernel_rfl) fun ν1 a w' H => ?_
  replace H := H.toL [(0, .slot true (.int .i64 a0)), (2, .slot true (.pointer (some ⟨((ν1 0).n 0), 0, none⟩))), (6, .blk ((ν1 0).n 0) [.int .i64 0, .int .i64 0] 40)] (by kernel_rfl)
  refine k_seq ?_
  replace G := bnd G; obtain ⟨t3, ht3, G⟩ := G
  refine k_reg mixed H (.cons [3] (ok_val (fun ν2 => .int .i64 a0) 3) <|
      .cons [4] (ok_val (fun ν2 => .int .i64 a0) 4) <|
      .cons [5] (ok_callv 74 (fun ν2 => #[.int .i64 a0, .int .i64 a0]) (.agg #[.int .i64 t3.Lo, .int .i64 t3.Hi]) 5 [] (fun _ w _ => interval_New.calls a0 a0 t3 w ht3)) <|
      .cons [6] (ok_as (u' := fun ν2 => [(6, .blk ((ν1 0).n 0) [.int .i64 t3.Lo, .int .i64 t3.Hi] 40)]) (ok_store 6 0 (fun ν2 => ((ν1 0).n 0)) (fun ν2 => [.int .i64 0, .int .i64 0]) (fun ν2 => [.int .i64 t3.Lo, .int .i64 t3.Hi]) 40) (fun _ => by kernel_rfl)) <| .nil) (by kernel_rfl) fun ν2 a w' H => ?_
  replace H := H.toL [(2, .slot true (.pointer (some ⟨((ν1 0).n 0), 0, none⟩))), (6, .blk ((ν1 0).n 0) [.int .i64 t3.Lo, .int .i64 t3.Hi] 40)] (by kernel_rfl)
  refine k_ret ?_
  obtain rfl := Option.some.inj G
  exact k_done1 H _ 6 ((ν1 0).n 0) [.int .i64 t3.Lo, .int .i64 t3.Hi] 40 0 2 (by kernel_rfl) (by kernel_rfl) (by kernel_rfl) (by kernel_rfl)

set_option maxHeartbeats 4000000 in
theorem api_Interval_76_s77.calls (k0 : Nat) (a0 : List Int) (p_a0 : Option Addr) (c_a0 : Nat) (r : List TInterval) (w : World) (R_p_a0 : RowAt w 1 p_a0 a0.length (a0.flatMap en_i64)) (G : api_Interval_76_s77 k0 a0 = some r) :
    Calls Try.prog 76 #[.slice p_a0 a0.length c_a0, .func (.func 77) #[] #[]] w fun e w' => ∃ p cap, e = .returned (.slice p r.length cap) ∧ Below w.heap.size w w' ∧ w'.ownsRow w.heap.size 40 2 (.slice p r.length cap) r.length (r.flatMap en_TInterval) := by
  refine k_enterF (args := [.slice p_a0 a0.length c_a0, .func (.func 77) #[] #[]]) 26 [(26, rdK 1 p_a0 a0.length (a0.flatMap en_i64))] (by
    intro x hx
    simp only [List.mem_cons, List.not_mem_nil, or_false] at hx
    rcases hx with rfl
    exact rd_fact R_p_a0 (by decide) _) Try.func76 rfl (by kernel_rfl) (by kernel_rfl) fun a H => ?_
  unfold api_Interval_76_s77 at G
  refine k_seq ?_
  refine k_reg mixed H (.cons [4] (ok_val (fun ν1 => .slice none 0 0) 4) <| .nil) (by kernel_rfl) fun ν1 a w' H => ?_
  replace H := H.toL [(0, .slot true (.slice p_a0 a0.length c_a0)), (1, .slot true (.func (.func 77) #[] #[])), (4, .slot true (.slice none 0 0)), (26, rdK 1 p_a0 a0.length (a0.flatMap en_i64))] (by kernel_rfl)
  refine k_seq ?_
  replace G := gd G; obtain ⟨b3, G⟩ := G
  refine k_reg mixed H (.cons [8] (ok_val (fun ν2 => .slice p_a0 a0.length c_a0) 8) <|
      .cons [9] (ok_val (fun ν2 => .int .i64 (a0.length : Int)) 9) <|
      .cons [10, 27] (ok_rowL [] (fun ν2 => []) 40 2 (List.replicate (a0.length : Int).toNat (⟨0, 0⟩ : TInterval)).length ((List.replicate (a0.length : Int).toNat (⟨0, 0⟩ : TInterval)).flatMap en_TInterval) 10 27 (fun _ => .none) (fun ν2 w hF => run_make_row (t := 22) (k := .i64) (m := (a0.length : Int)) (en := en_TInterval) (z := (⟨0, 0⟩ : TInterval)) en_TInterval_len inf40 rfl b3 (by kernel_rfl)) (fun _ => .inl rfl)) <|
      .cons [5] (ok_val (fun ν2 => .slice ((ν2 2).o 0) (List.replicate (a0.length : Int).toNat (⟨0, 0⟩ : TInterval)).length ((ν2 2).n 0)) 5) <| .nil) (by kernel_rfl) fun ν2 a w' H => ?_
  replace H := H.toL [(0, .slot true (.slice p_a0 a0.length c_a0)), (1, .slot true (.func (.func 77) #[] #[])), (4, .slot true (.slice none 0 0)), (5, .slot true (.slice ((ν2 2).o 0) (List.replicate (a0.length : Int).toNat (⟨0, 0⟩ : TInterval)).length ((ν2 2).n 0))), (26, rdK 1 p_a0 a0.length (a0.flatMap en_i64)), (27, owK 40 2 ((ν2 2).o 0) (List.replicate (a0.length : Int).toNat (⟨0, 0⟩ : TInterval)).length ((ν2 2).n 0) ((List.replicate (a0.length : Int).toNat (⟨0, 0⟩ : TInterval)).flatMap en_TInterval))] (by kernel_rfl)
  refine k_seq ?_
  replace G := bnd G; obtain ⟨j5, hj5, G⟩ := G
  refine k_join (fun a w' => ∃ (p_j4 : Option Addr) (c_j4 np_j4 : Nat), np_j4 = j5.length ∧ Rep w.heap.size w 26 (ofL [(4, .slot true (.slice none 0 0)), (5, .slot true (.slice p_j4 np_j4 c_j4)), (27, owK 40 2 p_j4 np_j4 c_j4 (j5.flatMap en_TInterval))]) a w') ?_ ?_
  · clear H; rintro a w' ⟨p_j4, c_j4, _, rfl, H⟩
    refine k_seq ?_
    refine k_reg mixed H (.cons [25] (ok_val (fun ν6 => .slice p_j4 j5.length c_j4) 25) <|
      .cons [4] (ok_val (fun ν6 => .slice p_j4 j5.length c_j4) 4) <| .nil) (by kernel_rfl) fun ν6 a w' H => ?_
    replace H := H.toL [(4, .slot true (.slice p_j4 j5.length c_j4)), (27, owK 40 2 p_j4 j5.length c_j4 (j5.flatMap en_TInterval))] (by kernel_rfl)
    refine k_ret ?_
    obtain rfl := Option.some.inj G
    exact k_doneR H (fun p cap => .slice p j5.length cap) p_j4 c_j4 [] 27 40 2 j5.length (j5.flatMap en_TInterval) (by kernel_rfl) (by kernel_rfl) (by simp) (by kernel_rfl)
  · clear G; replace G := hj5; clear hj5
    refine k_seq ?_
    refine k_reg mixed H (.cons [11] (ok_val (fun ν7 => .slice p_a0 a0.length c_a0) 11) <|
      .cons [12] (ok_val (fun ν7 => .int .i64 (a0.length : Int)) 12) <|
      .cons [13] (ok_val (fun ν7 => .int .i64 0) 13) <| .nil) (by kernel_rfl) fun ν7 a w' H => ?_
    replace H := H.toL [(1, .slot true (.func (.func 77) #[] #[])), (4, .slot true (.slice none 0 0)), (5, .slot true (.slice ((ν2 2).o 0) (List.replicate (a0.length : Int).toNat (⟨0, 0⟩ : TInterval)).length ((ν2 2).n 0))), (11, .slot true (.slice p_a0 a0.length c_a0)), (12, .slot true (.int .i64 (a0.length : Int))), (13, .slot true (.int .i64 0)), (26, rdK 1 p_a0 a0.length (a0.flatMap en_i64)), (27, owK 40 2 ((ν2 2).o 0) (List.replicate (a0.length : Int).toNat (⟨0, 0⟩ : TInterval)).length ((ν2 2).n 0) ((List.replicate (a0.length : Int).toNat (⟨0, 0⟩ : TInterval)).flatMap en_TInterval))] (by kernel_rfl)
    refine k_block ?_
    refine k_loopJ (fun m a w' => ∃ x8 : List TInterval, ∃ x9 : Int, api_Interval_76_s77.l10 k0 a0 m x8 x9 = some j5 ∧ ∃ (p_x8 : Option Addr) (c_x8 np_x8 : Nat), np_x8 = x8.length ∧ Rep w.heap.size w 26 (ofL [(1, .slot true (.func (.func 77) #[] #[])), (4, .slot true (.slice none 0 0)), (5, .slot true (.slice p_x8 np_x8 c_x8)), (11, .slot true (.slice p_a0 a0.length c_a0)), (12, .slot true (.int .i64 (a0.length : Int))), (13, .slot true (.int .i64 x9)), (26, rdK 1 p_a0 a0.length (a0.flatMap en_i64)), (27, owK 40 2 p_x8 np_x8 c_x8 (x8.flatMap en_TInterval))]) a w') k0 ⟨_, _, G, ((ν2 2).o 0), ((ν2 2).n 0), _, rfl, H.toL _ (by kernel_rfl)⟩ ?_
    clear G H
    rintro (_ | k) a w' ⟨x8, x9, G, p_x8, c_x8, _, rfl, H⟩
    · exact absurd G (by unfold api_Interval_76_s77.l10; exact fun h => by cases h)
    · unfold api_Interval_76_s77.l10 at G
      refine k_seq ?_
      refine k_reg mixed H (.cons [14] (ok_val (fun ν11 => .bool (decide (x9 < (a0.length : Int)))) 14) <| .nil) (by kernel_rfl) fun ν11 a w' H => ?_
      replace H := H.toL [(1, .slot true (.func (.func 77) #[] #[])), (4, .slot true (.slice none 0 0)), (5, .slot true (.slice p_x8 x8.length c_x8)), (11, .slot true (.slice p_a0 a0.length c_a0)), (12, .slot true (.int .i64 (a0.length : Int))), (13, .slot true (.int .i64 x9)), (14, .slot true (.bool (decide (x9 < (a0.length : Int))))), (26, rdK 1 p_a0 a0.length (a0.flatMap en_i64)), (27, owK 40 2 p_x8 x8.length c_x8 (x8.flatMap en_TInterval))] (by kernel_rfl)
      refine k_seq ?_
      refine k_cond H (by kernel_rfl) (t := decide (x9 < (a0.length : Int))) (by kernel_rfl) (fun c20 => ?_) (fun c20 => ?_)
      · rw [if_pos c20] at G
        refine k_skip ?_
        refine k_seq ?_
        refine k_block ?_
        refine k_seq ?_
        replace G := gd G; obtain ⟨b13, G⟩ := G
        replace G := bnd G; obtain ⟨t14, ht14, G⟩ := G
        refine k_reg mixed H (.cons [15] (ok_val (fun ν12 => .int .i64 x9) 15) <|
      .cons [16] (ok_valL [26] (fun ν12 => [rdK 1 p_a0 a0.length (a0.flatMap en_i64)]) (fun ν12 => .pointer (some ⟨hdB p_a0, hdO p_a0 + x9.toNat * 1, none⟩)) (fun ν12 => true) [true, true] 16 (fun ν12 w hg hF => run_of (by kernel_rfl) (run_ix (t := 27) (p := p_a0) (n := a0.length) (cap := c_a0) (k := .i64) (i := x9) (sz := 1) (by kernel_rfl) (by kernel_rfl) (rd_of hF.1) b13))) <|
      .cons [17] (ok_valL [26] (fun ν12 => [rdK 1 p_a0 a0.length (a0.flatMap en_i64)]) (fun ν12 => .int .i64 t14) (fun ν12 => true) [true] 17 (fun ν12 w hg hF => ld_of (vs := [.int .i64 t14]) (b := hdB p_a0) (off := hdO p_a0 + x9.toNat * 1 + 0) (m := 1) (by kernel_rfl) (el_cells (rd_of hF.1) en_i64_len ht14 0 1 rfl))) <|
      .cons [6] (ok_val (fun ν12 => .int .i64 x9) 6) <|
      .cons [7] (ok_val (fun ν12 => .int .i64 t14) 7) <| .nil) (by kernel_rfl) fun ν12 a w' H => ?_
        replace H := H.toL [(1, .slot true (.func (.func 77) #[] #[])), (4, .slot true (.slice none 0 0)), (5, .slot true (.slice p_x8 x8.length c_x8)), (6, .slot true (.int .i64 x9)), (7, .slot true (.int .i64 t14)), (11, .slot true (.slice p_a0 a0.length c_a0)), (12, .slot true (.int .i64 (a0.length : Int))), (13, .slot true (.int .i64 x9)), (14, .slot true (.bool (decide (x9 < (a0.length : Int))))), (15, .slot true (.int .i64 x9)), (16, .slot true (.pointer (some ⟨hdB p_a0, hdO p_a0 + x9.toNat * 1, none⟩))), (17, .slot true (.int .i64 t14)), (26, rdK 1 p_a0 a0.length (a0.flatMap en_i64)), (27, owK 40 2 p_x8 x8.length c_x8 (x8.flatMap en_TInterval))] (by kernel_rfl)
        replace G := bnd G; obtain ⟨t16, ht16, G⟩ := G
        replace G := gd G; obtain ⟨b17, G⟩ := G
        replace G := bnd G; obtain ⟨t18, ht18, G⟩ := G
        refine k_reg mixed H (.cons [18] (ok_val (fun ν15 => .slice p_x8 x8.length c_x8) 18) <|
      .cons [19] (ok_val (fun ν15 => .int .i64 x9) 19) <|
      .cons [20] (ok_val (fun ν15 => .func (.func 77) #[] #[]) 20) <|
      .cons [21] (ok_val (fun ν15 => .int .i64 t14) 21) <|
      .cons [22] (ok_callv 77 (fun ν15 => #[.int .i64 t14]) (.agg #[.int .i64 t16.Lo, .int .i64 t16.Hi]) 22 [] (fun _ w _ => interval_Point.calls t14 t16 w ht16)) <|
      .cons [23] (ok_valL [27] (fun ν15 => [owK 40 2 p_x8 x8.length c_x8 (x8.flatMap en_TInterval)]) (fun ν15 => .pointer (some ⟨hdB p_x8, hdO p_x8 + x9.toNat * 2, none⟩)) (fun ν15 => true) [true, true] 23 (fun ν15 w hg hF => run_of (by kernel_rfl) (run_ix (t := 22) (p := p_x8) (n := x8.length) (cap := c_x8) (k := .i64) (i := x9) (sz := 2) (by kernel_rfl) (by kernel_rfl) (owns_row (ow_of hF.1)) b17))) <|
      .cons [27] ((ok_rowsetL 40 2 x8.length (fun ν15 => p_x8) (fun ν15 => c_x8) (x8.flatMap en_TInterval) _ 27 (fun ν15 w hF => el_store (ow_of hF) en_TInterval_len (y := t16) (vs := [.int .i64 t16.Lo, .int .i64 t16.Hi]) ht18 0 (by simp) (by simp) rfl (by kernel_rfl)))) <| .nil) (by kernel_rfl) fun ν15 a w' H => ?_
        replace H := H.toL [(1, .slot true (.func (.func 77) #[] #[])), (4, .slot true (.slice none 0 0)), (5, .slot true (.slice p_x8 x8.length c_x8)), (6, .slot true (.int .i64 x9)), (7, .slot true (.int .i64 t14)), (11, .slot true (.slice p_a0 a0.length c_a0)), (12, .slot true (.int .i64 (a0.length : Int))), (13, .slot true (.int .i64 x9)), (14, .slot true (.bool (decide (x9 < (a0.length : Int))))), (15, .slot true (.int .i64 x9)), (16, .slot true (.pointer (some ⟨hdB p_a0, hdO p_a0 + x9.toNat * 1, none⟩))), (17, .slot true (.int .i64 t14)), (18, .slot true (.slice p_x8 x8.length c_x8)), (19, .slot true (.int .i64 x9)), (20, .slot true (.func (.func 77) #[] #[])), (21, .slot true (.int .i64 t14)), (22, .slot true (.agg #[.int .i64 t16.Lo, .int .i64 t16.Hi])), (23, .slot true (.pointer (some ⟨hdB p_x8, hdO p_x8 + x9.toNat * 2, none⟩))), (26, rdK 1 p_a0 a0.length (a0.flatMap en_i64)), (27, owK 40 2 p_x8 x8.length c_x8 ((x8.set x9.toNat t16).flatMap en_TInterval))] (by kernel_rfl)
        refine k_reg mixed H (.cons [24] (ok_val (fun ν19 => .int .i64 (w_i64 (x9 + 1))) 24) <|
      .cons [13] (ok_val (fun ν19 => .int .i64 (w_i64 (x9 + 1))) 13) <| .nil) (by kernel_rfl) fun ν19 a w' H => ?_
        replace H := H.toL [(1, .slot true (.func (.func 77) #[] #[])), (4, .slot true (.slice none 0 0)), (5, .slot true (.slice p_x8 x8.length c_x8)), (6, .slot true (.int .i64 x9)), (7, .slot true (.int .i64 t14)), (11, .slot true (.slice p_a0 a0.length c_a0)), (12, .slot true (.int .i64 (a0.length : Int))), (13, .slot true (.int .i64 (w_i64 (x9 + 1)))), (14, .slot true (.bool (decide (x9 < (a0.length : Int))))), (15, .slot true (.int .i64 x9)), (16, .slot true (.pointer (some ⟨hdB p_a0, hdO p_a0 + x9.toNat * 1, none⟩))), (17, .slot true (.int .i64 t14)), (18, .slot true (.slice p_x8 x8.length c_x8)), (19, .slot true (.int .i64 x9)), (20, .slot true (.func (.func 77) #[] #[])), (21, .slot true (.int .i64 t14)), (22, .slot true (.agg #[.int .i64 t16.Lo, .int .i64 t16.Hi])), (23, .slot true (.pointer (some ⟨hdB p_x8, hdO p_x8 + x9.toNat * 2, none⟩))), (24, .slot true (.int .i64 (w_i64 (x9 + 1)))), (26, rdK 1 p_a0 a0.length (a0.flatMap en_i64)), (27, owK 40 2 p_x8 x8.length c_x8 ((x8.set x9.toNat t16).flatMap en_TInterval))] (by kernel_rfl)
        exact ⟨k, Nat.lt_succ_self k, _, _, G, p_x8, c_x8, x8.length, by simp, H.toL _ (by kernel_rfl)⟩
      · rw [if_neg (nt c20)] at G
        refine k_exit rfl ?_
        obtain rfl := Option.some.inj G
        exact ⟨p_x8, c_x8, _, rfl, H.toL _ (by kernel_rfl)⟩

set_option maxHeartbeats 4000000 in
theorem box_Point.calls (k0 : Nat) (a0 : List Int) (p_a0 : Option Addr) (c_a0 : Nat) (r : List TInterval) (w : World) (R_p_a0 : RowAt w 1 p_a0 a0.length (a0.flatMap en_i64)) (G : box_Point k0 a0 = some r) :
    Calls Try.prog 34 #[.slice p_a0 a0.length c_a0] w fun e w' => ∃ p cap, e = .returned (.slice p r.length cap) ∧ Below w.heap.size w w' ∧ w'.ownsRow w.heap.size 40 2 (.slice p r.length cap) r.length (r.flatMap en_TInterval) := by
  refine k_enterF (args := [.slice p_a0 a0.length c_a0]) 5 [(5, rdK 1 p_a0 a0.length (a0.flatMap en_i64))] (by
    intro x hx
    simp only [List.mem_cons, List.not_mem_nil, or_false] at hx
    rcases hx with rfl
    exact rd_fact R_p_a0 (by decide) _) Try.func34 rfl (by kernel_rfl) (by kernel_rfl) fun a H => ?_
  unfold box_Point at G
  refine k_seq ?_
  refine k_reg mixed H (.cons [2] (ok_val (fun ν1 => .slice none 0 0) 2) <| .nil) (by kernel_rfl) fun ν1 a w' H => ?_
  replace H := H.toL [(0, .slot true (.slice p_a0 a0.length c_a0)), (2, .slot true (.slice none 0 0)), (5, rdK 1 p_a0 a0.length (a0.flatMap en_i64))] (by kernel_rfl)
  refine k_seq ?_
  replace G := bnd G; obtain ⟨t3, ht3, G⟩ := G
  refine k_reg mixed H (.cons [3] (ok_val (fun ν2 => .slice p_a0 a0.length c_a0) 3) <|
      .cons [4, 6] (ok_callRL [5] (fun ν2 => [rdK 1 p_a0 a0.length (a0.flatMap en_i64)]) 76 (fun ν2 => #[.slice p_a0 a0.length c_a0, .func (.func 77) #[] #[]]) (fun p cap => .slice p t3.length cap) 40 2 t3.length (t3.flatMap en_TInterval) 4 6 (fun ν2 w hF => api_Interval_76_s77.calls k0 a0 p_a0 c_a0 t3 w (rd_of hF.1) ht3)) <|
      .cons [2] (ok_val (fun ν2 => .slice ((ν2 1).o 0) t3.length ((ν2 1).n 0)) 2) <| .nil) (by kernel_rfl) fun ν2 a w' H => ?_
  replace H := H.toL [(2, .slot true (.slice ((ν2 1).o 0) t3.length ((ν2 1).n 0))), (6, owK 40 2 ((ν2 1).o 0) t3.length ((ν2 1).n 0) (t3.flatMap en_TInterval))] (by kernel_rfl)
  refine k_ret ?_
  obtain rfl := Option.some.inj G
  exact k_doneR H (fun p cap => .slice p t3.length cap) ((ν2 1).o 0) ((ν2 1).n 0) [] 6 40 2 t3.length (t3.flatMap en_TInterval) (by kernel_rfl) (by kernel_rfl) (by simp) (by kernel_rfl)

set_option maxHeartbeats 4000000 in
theorem api_Interval_79.calls (a0 : List TInterval) (p_a0 : Option Addr) (c_a0 : Nat) (r : List TInterval) (w : World) (R_p_a0 : RowAt w 2 p_a0 a0.length (a0.flatMap en_TInterval)) (G : api_Interval_79 a0 = some r) :
    Calls Try.prog 79 #[.slice p_a0 a0.length c_a0] w fun e w' => ∃ p cap, e = .returned (.slice p r.length cap) ∧ Below w.heap.size w w' ∧ w'.ownsRow w.heap.size 40 2 (.slice p r.length cap) r.length (r.flatMap en_TInterval) := by
  refine k_enterF (args := [.slice p_a0 a0.length c_a0]) 8 [(8, rdK 2 p_a0 a0.length (a0.flatMap en_TInterval))] (by
    intro x hx
    simp only [List.mem_cons, List.not_mem_nil, or_false] at hx
    rcases hx with rfl
    exact rd_fact R_p_a0 (by decide) _) Try.func79 rfl (by kernel_rfl) (by kernel_rfl) fun a H => ?_
  unfold api_Interval_79 at G
  refine k_seq ?_
  refine k_reg mixed H (.cons [2] (ok_val (fun ν1 => .slice none 0 0) 2) <| .nil) (by kernel_rfl) fun ν1 a w' H => ?_
  replace H := H.toL [(0, .slot true (.slice p_a0 a0.length c_a0)), (2, .slot true (.slice none 0 0)), (8, rdK 2 p_a0 a0.length (a0.flatMap en_TInterval))] (by kernel_rfl)
  refine k_seq ?_
  refine k_seq ?_
  replace G := gd G; obtain ⟨b3, G⟩ := G
  refine k_reg mixed H (.cons [3] (ok_val (fun ν2 => .slice p_a0 a0.length c_a0) 3) <|
      .cons [4] (ok_valL [8] (fun ν2 => [rdK 2 p_a0 a0.length (a0.flatMap en_TInterval)]) (fun ν2 => .bool false) (fun ν2 => true) [true, true] 4 (fun ν2 w _ hF => nil_cmp (rd_of hF.1) b3 (fun a e => by subst e; kernel_rfl))) <| .nil) (by kernel_rfl) fun ν2 a w' H => ?_
  replace H := H.toL [(0, .slot true (.slice p_a0 a0.length c_a0)), (2, .slot true (.slice none 0 0)), (4, .slot true (.bool false)), (8, rdK 2 p_a0 a0.length (a0.flatMap en_TInterval))] (by kernel_rfl)
  refine k_cond_false H (by kernel_rfl) (by kernel_rfl) ?_
  refine k_skip ?_
  refine k_seq ?_
  replace G := gd G; obtain ⟨b5, G⟩ := G
  refine k_reg mixed H (.cons [5, 9] (ok_new (fun b => .slice (some ⟨b, 0, none⟩) 0 0) (fun ν4 => []) 40 5 9) <|
      .cons [6] (ok_val (fun ν4 => .slice p_a0 a0.length c_a0) 6) <|
      .cons [7, 9] (ok_rowL [9, 8] (fun ν4 => [.blk ((ν4 0).n 0) [] 40, rdK 2 p_a0 a0.length (a0.flatMap en_TInterval)]) 40 2 a0.length (a0.flatMap en_TInterval) 7 9 (fun ν4 => .blk ((ν4 0).n 0) [] 40) (fun ν4 w hF => run_app_all (t := 22) (ty := 22) (en := en_TInterval) (p := p_a0) (cap := c_a0) en_TInterval_len (fun _ => rfl) inf40 hF.1 (rd_of hF.2.1) b5 (by kernel_rfl)) (fun _ => .inr trivial)) <|
      .cons [2] (ok_val (fun ν4 => .slice ((ν4 2).o 0) a0.length ((ν4 2).n 0)) 2) <| .nil) (by kernel_rfl) fun ν4 a w' H => ?_
  replace H := H.toL [(2, .slot true (.slice ((ν4 2).o 0) a0.length ((ν4 2).n 0))), (9, owK 40 2 ((ν4 2).o 0) a0.length ((ν4 2).n 0) (a0.flatMap en_TInterval))] (by kernel_rfl)
  refine k_ret ?_
  obtain rfl := Option.some.inj G
  exact k_doneR H (fun p cap => .slice p a0.length cap) ((ν4 2).o 0) ((ν4 2).n 0) [] 9 40 2 a0.length (a0.flatMap en_TInterval) (by kernel_rfl) (by kernel_rfl) (by simp) (by kernel_rfl)

set_option maxHeartbeats 4000000 in
theorem interval_Mid.calls (a0 : TInterval) (r : Int) (w : World) (G : interval_Mid a0 = some r) :
    Calls Try.prog 80 #[.agg #[.int .i64 a0.Lo, .int .i64 a0.Hi]] w fun e w' => e = .returned (.int .i64 r) ∧ Below w.heap.size w w' := by
  refine k_enter (args := [.agg #[.int .i64 a0.Lo, .int .i64 a0.Hi]]) 9 Try.func80 rfl (by kernel_rfl) (by kernel_rfl) fun a H => ?_
  unfold interval_Mid at G
  refine k_seq ?_
  refine k_reg mixed H (.cons [1, 9] (ok_new (fun b => .pointer (some ⟨b, 0, none⟩)) (fun ν1 => [.int .i64 a0.Lo, .int .i64 a0.Hi]) 40 1 9) <|
      .cons [2] (ok_val (fun ν1 => .int .i64 0) 2) <| .nil) (by kernel_rfl) fun ν1 a w' H => ?_
  replace H := H.toL [(1, .slot true (.pointer (some ⟨((ν1 0).n 0), 0, none⟩))), (2, .slot true (.int .i64 0)), (9, .blk ((ν1 0).n 0) [.int .i64 a0.Lo, .int .i64 a0.Hi] 40)] (by kernel_rfl)
  refine k_seq ?_
  refine k_reg mixed H (.cons [3] (ok_val (fun ν2 => .pointer (some ⟨((ν1 0).n 0), 0, none⟩)) 3) <|
      .cons [4] (ok_ld (fun ν2 => .int .i64 a0.Lo) 4 9 0 1 (fun ν2 => ((ν1 0).n 0)) (fun ν2 => [.int .i64 a0.Lo, .int .i64 a0.Hi]) 40) <|
      .cons [5] (ok_val (fun ν2 => .pointer (some ⟨((ν1 0).n 0), 1, none⟩)) 5) <|
      .cons [6] (ok_ld (fun ν2 => .int .i64 a0.Hi) 6 9 1 1 (fun ν2 => ((ν1 0).n 0)) (fun ν2 => [.int .i64 a0.Lo, .int .i64 a0.Hi]) 40) <|
      .cons [7] (ok_val (fun ν2 => .int .i64 (w_i64 (a0.Lo + a0.Hi))) 7) <|
      .cons [8] (ok_val (fun ν2 => .int .i64 (Int.fdiv (w_i64 (a0.Lo + a0.Hi)) 2)) 8) <|
      .cons [2] (ok_val (fun ν2 => .int .i64 (Int.fdiv (w_i64 (a0.Lo + a0.Hi)) 2)) 2) <| .nil) (by kernel_rfl) fun ν2 a w' H => ?_
  replace H := H.toL [(2, .slot true (.int .i64 (Int.fdiv (w_i64 (a0.Lo + a0.Hi)) 2)))] (by kernel_rfl)
  refine k_ret ?_
  obtain rfl := Option.some.inj G
  exact k_done0 H _ (by kernel_rfl) (by kernel_rfl)

set_option maxHeartbeats 4000000 in
theorem box_Bisect.calls (a0 : List TInterval) (a1 : Int) (p_a0 : Option Addr) (c_a0 : Nat) (r : List TInterval × List TInterval × Int) (w : World) (R_p_a0 : RowAt w 2 p_a0 a0.length (a0.flatMap en_TInterval)) (G : box_Bisect a0 a1 = some r) :
    Calls Try.prog 36 #[.slice p_a0 a0.length c_a0, .int .i64 a1] w fun e w' => ∃ p cap p2 cap2, e = .returned (.tuple #[.slice p r.1.length cap, .slice p2 r.2.1.length cap2, .int .i64 r.2.2]) ∧ Below w.heap.size w w' ∧ w'.ownsRow w.heap.size 40 2 (.slice p r.1.length cap) r.1.length (r.1.flatMap en_TInterval) ∧ w'.ownsRow w.heap.size 40 2 (.slice p2 r.2.1.length cap2) r.2.1.length (r.2.1.flatMap en_TInterval) ∧ ∀ j, fpOwn p j → ¬ fpOwn p2 j := by
  refine k_enterF (args := [.slice p_a0 a0.length c_a0, .int .i64 a1]) 46 [(46, rdK 2 p_a0 a0.length (a0.flatMap en_TInterval))] (by
    intro x hx
    simp only [List.mem_cons, List.not_mem_nil, or_false] at hx
    rcases hx with rfl
    exact rd_fact R_p_a0 (by decide) _) Try.func36 rfl (by kernel_rfl) (by kernel_rfl) fun a H => ?_
  unfold box_Bisect at G
  refine k_seq ?_
  refine k_reg mixed H (.cons [4] (ok_val (fun ν1 => .slice none 0 0) 4) <|
      .cons [5] (ok_val (fun ν1 => .slice none 0 0) 5) <|
      .cons [6] (ok_val (fun ν1 => .int .i64 0) 6) <| .nil) (by kernel_rfl) fun ν1 a w' H => ?_
  replace H := H.toL [(0, .slot true (.slice p_a0 a0.length c_a0)), (1, .slot true (.int .i64 a1)), (4, .slot true (.slice none 0 0)), (5, .slot true (.slice none 0 0)), (6, .slot true (.int .i64 0)), (46, rdK 2 p_a0 a0.length (a0.flatMap en_TInterval))] (by kernel_rfl)
  refine k_seq ?_
  refine k_seq ?_
  replace G := gd G; obtain ⟨b3, G⟩ := G
  replace G := bnd G; obtain ⟨t4, ht4, G⟩ := G
  replace G := bnd G; obtain ⟨t5, ht5, G⟩ := G
  refine k_reg mixed H (.cons [10] (ok_val (fun ν2 => .int .i64 a1) 10) <|
      .cons [11] (ok_val (fun ν2 => .bool (decide (a1 < 0))) 11) <|
      .cons [12] (ok_val (fun ν2 => .bool (decide (a1 < 0))) 12) <|
      .cons [13] (ok_valg (fun ν2 => .int .i64 a1) (fun ν2 => ((decide (a1 < 0)) == false)) [true] 13) <|
      .cons [14] (ok_valg (fun ν2 => .slice p_a0 a0.length c_a0) (fun ν2 => ((decide (a1 < 0)) == false)) [true] 14) <|
      .cons [15] (ok_valg (fun ν2 => .int .i64 (a0.length : Int)) (fun ν2 => ((decide (a1 < 0)) == false)) [false] 15) <|
      .cons [16] (ok_valg (fun ν2 => .bool (decide (a1 ≥ (a0.length : Int)))) (fun ν2 => ((decide (a1 < 0)) == false)) [false, false] 16) <|
      .cons [17] (ok_or 12 16 (fun ν2 => true) (fun ν2 => true) (fun ν2 => decide (a1 < 0)) (fun ν2 => decide (a1 ≥ (a0.length : Int))) 17) <|
      .cons [18] (ok_val (fun ν2 => .bool ((decide (a1 < 0)) || (decide (a1 ≥ (a0.length : Int))))) 18) <|
      .cons [19] (ok_valg (fun ν2 => .slice p_a0 a0.length c_a0) (fun ν2 => (((decide (a1 < 0)) || (decide (a1 ≥ (a0.length : Int)))) == false)) [true] 19) <|
      .cons [20] (ok_valg (fun ν2 => .int .i64 a1) (fun ν2 => (((decide (a1 < 0)) || (decide (a1 ≥ (a0.length : Int)))) == false)) [true] 20) <|
      .cons [21] (ok_valL [46] (fun ν2 => [rdK 2 p_a0 a0.length (a0.flatMap en_TInterval)]) (fun ν2 => .pointer (some ⟨hdB p_a0, hdO p_a0 + a1.toNat * 2, none⟩)) (fun ν2 => (((decide (a1 < 0)) || (decide (a1 ≥ (a0.length : Int)))) == false)) [false, false] 21 (fun ν2 w hg hF => run_of (by kernel_rfl) (run_ix (t := 22) (p := p_a0) (n := a0.length) (cap := c_a0) (k := .i64) (i := a1) (sz := 2) (by kernel_rfl) (by kernel_rfl) (rd_of hF.1) (b3 hg)))) <|
      .cons [22] (ok_valL [46] (fun ν2 => [rdK 2 p_a0 a0.length (a0.flatMap en_TInterval)]) (fun ν2 => .agg #[.int .i64 t4.Lo, .int .i64 t4.Hi]) (fun ν2 => (((decide (a1 < 0)) || (decide (a1 ≥ (a0.length : Int)))) == false)) [false] 22 (fun ν2 w hg hF => ld_of (vs := [.int .i64 t4.Lo, .int .i64 t4.Hi]) (b := hdB p_a0) (off := hdO p_a0 + a1.toNat * 2 + 0) (m := 2) (by kernel_rfl) (el_cells (rd_of hF.1) en_TInterval_len (ifp ht4 hg) 0 2 rfl))) <|
      .cons [23] (ok_call 48 (fun ν2 => #[.agg #[.int .i64 t4.Lo, .int .i64 t4.Hi]]) (.bool t5) (fun ν2 => (((decide (a1 < 0)) || (decide (a1 ≥ (a0.length : Int)))) == false)) [true, false] 23 [] (fun _ w hg _ => interval_IsEntire.calls t4 t5 w (ifp ht5 hg))) <|
      .cons [24] (ok_or 18 23 (fun ν2 => true) (fun ν2 => true) (fun ν2 => ((decide (a1 < 0)) || (decide (a1 ≥ (a0.length : Int))))) (fun ν2 => t5) 24) <| .nil) (by kernel_rfl) fun ν2 a w' H => ?_
  replace H := H.toL [(0, .slot true (.slice p_a0 a0.length c_a0)), (1, .slot true (.int .i64 a1)), (4, .slot true (.slice none 0 0)), (5, .slot true (.slice none 0 0)), (6, .slot true (.int .i64 0)), (24, .slot true (.bool (((decide (a1 < 0)) || (decide (a1 ≥ (a0.length : Int)))) || t5))), (46, rdK 2 p_a0 a0.length (a0.flatMap en_TInterval))] (by kernel_rfl)
  refine k_cond H (by kernel_rfl) (t := (((decide (a1 < 0)) || (decide (a1 ≥ (a0.length : Int)))) || t5)) (by kernel_rfl) (fun c19 => ?_) (fun c19 => ?_)
  · rw [if_pos c19] at G
    refine k_seq ?_
    refine k_reg mixed H (.cons [4] (ok_val (fun ν6 => .slice none 0 0) 4) <|
      .cons [5] (ok_val (fun ν6 => .slice none 0 0) 5) <|
      .cons [6] (ok_val (fun ν6 => .int .i64 1) 6) <| .nil) (by kernel_rfl) fun ν6 a w' H => ?_
    replace H := H.toL [(0, .slot true (.slice p_a0 a0.length c_a0)), (1, .slot true (.int .i64 a1)), (4, .slot true (.slice none 0 0)), (5, .slot true (.slice none 0 0)), (6, .slot true (.int .i64 1)), (46, rdK 2 p_a0 a0.length (a0.flatMap en_TInterval))] (by kernel_rfl)
    refine k_ret ?_
    obtain rfl := Option.some.inj G
    replace H := H.nil_row 47 40 2
    replace H := H.nil_row 48 40 2
    exact k_doneR2 H (fun p cap p2 cap2 => .tuple #[.slice p ([] : List TInterval).length cap, .slice p2 ([] : List TInterval).length cap2, .int .i64 1]) none 0 none 0 [] 47 40 2 ([] : List TInterval).length (([] : List TInterval).flatMap en_TInterval) 48 40 2 ([] : List TInterval).length (([] : List TInterval).flatMap en_TInterval) (by decide) (by kernel_rfl) (by kernel_rfl) (by kernel_rfl) (by simp) (by kernel_rfl)
  · rw [if_neg (nt c19)] at G
    refine k_skip ?_
    refine k_seq ?_
    replace G := bnd G; obtain ⟨t8, ht8, G⟩ := G
    replace G := bnd G; obtain ⟨t9, ht9, G⟩ := G
    replace G := gd G; obtain ⟨b10, G⟩ := G
    replace G := bnd G; obtain ⟨t11, ht11, G⟩ := G
    replace G := bnd G; obtain ⟨t12, ht12, G⟩ := G
    refine k_reg mixed H (.cons [25] (ok_val (fun ν7 => .slice p_a0 a0.length c_a0) 25) <|
      .cons [26, 49] (ok_callRL [46] (fun ν7 => [rdK 2 p_a0 a0.length (a0.flatMap en_TInterval)]) 79 (fun ν7 => #[.slice p_a0 a0.length c_a0]) (fun p cap => .slice p t8.length cap) 40 2 t8.length (t8.flatMap en_TInterval) 26 49 (fun ν7 w hF => api_Interval_79.calls a0 p_a0 c_a0 t8 w (rd_of hF.1) ht8)) <|
      .cons [27] (ok_val (fun ν7 => .slice p_a0 a0.length c_a0) 27) <|
      .cons [28, 50] (ok_callRL [46] (fun ν7 => [rdK 2 p_a0 a0.length (a0.flatMap en_TInterval)]) 79 (fun ν7 => #[.slice p_a0 a0.length c_a0]) (fun p cap => .slice p t9.length cap) 40 2 t9.length (t9.flatMap en_TInterval) 28 50 (fun ν7 w hF => api_Interval_79.calls a0 p_a0 c_a0 t9 w (rd_of hF.1) ht9)) <|
      .cons [29] (ok_val (fun ν7 => .slice p_a0 a0.length c_a0) 29) <|
      .cons [30] (ok_val (fun ν7 => .int .i64 a1) 30) <|
      .cons [31] (ok_valL [46] (fun ν7 => [rdK 2 p_a0 a0.length (a0.flatMap en_TInterval)]) (fun ν7 => .pointer (some ⟨hdB p_a0, hdO p_a0 + a1.toNat * 2, none⟩)) (fun ν7 => true) [true, true] 31 (fun ν7 w hg hF => run_of (by kernel_rfl) (run_ix (t := 22) (p := p_a0) (n := a0.length) (cap := c_a0) (k := .i64) (i := a1) (sz := 2) (by kernel_rfl) (by kernel_rfl) (rd_of hF.1) b10))) <|
      .cons [32] (ok_valL [46] (fun ν7 => [rdK 2 p_a0 a0.length (a0.flatMap en_TInterval)]) (fun ν7 => .agg #[.int .i64 t11.Lo, .int .i64 t11.Hi]) (fun ν7 => true) [true] 32 (fun ν7 w hg hF => ld_of (vs := [.int .i64 t11.Lo, .int .i64 t11.Hi]) (b := hdB p_a0) (off := hdO p_a0 + a1.toNat * 2 + 0) (m := 2) (by kernel_rfl) (el_cells (rd_of hF.1) en_TInterval_len ht11 0 2 rfl))) <|
      .cons [33] (ok_callv 80 (fun ν7 => #[.agg #[.int .i64 t11.Lo, .int .i64 t11.Hi]]) (.int .i64 t12) 33 [] (fun _ w _ => interval_Mid.calls t11 t12 w ht12)) <|
      .cons [7] (ok_val (fun ν7 => .slice ((ν7 1).o 0) t8.length ((ν7 1).n 0)) 7) <|
      .cons [8] (ok_val (fun ν7 => .slice ((ν7 3).o 0) t9.length ((ν7 3).n 0)) 8) <|
      .cons [9] (ok_val (fun ν7 => .int .i64 t12) 9) <| .nil) (by kernel_rfl) fun ν7 a w' H => ?_
    replace H := H.toL [(1, .slot true (.int .i64 a1)), (4, .slot true (.slice none 0 0)), (5, .slot true (.slice none 0 0)), (6, .slot true (.int .i64 0)), (7, .slot true (.slice ((ν7 1).o 0) t8.length ((ν7 1).n 0))), (8, .slot true (.slice ((ν7 3).o 0) t9.length ((ν7 3).n 0))), (9, .slot true (.int .i64 t12)), (49, owK 40 2 ((ν7 1).o 0) t8.length ((ν7 1).n 0) (t8.flatMap en_TInterval)), (50, owK 40 2 ((ν7 3).o 0) t9.length ((ν7 3).n 0) (t9.flatMap en_TInterval))] (by kernel_rfl)
    refine k_seq ?_
    replace G := gd G; obtain ⟨b14, G⟩ := G
    replace G := bnd G; obtain ⟨t15, ht15, G⟩ := G
    replace G := gd G; obtain ⟨b16, G⟩ := G
    replace G := bnd G; obtain ⟨t17, ht17, G⟩ := G
    refine k_reg mixed H (.cons [34] (ok_val (fun ν13 => .slice ((ν7 1).o 0) t8.length ((ν7 1).n 0)) 34) <|
      .cons [35] (ok_val (fun ν13 => .int .i64 a1) 35) <|
      .cons [36] (ok_val (fun ν13 => .slice ((ν7 3).o 0) t9.length ((ν7 3).n 0)) 36) <|
      .cons [37] (ok_val (fun ν13 => .int .i64 a1) 37) <|
      .cons [38] (ok_val (fun ν13 => .int .i64 t12) 38) <|
      .cons [39] (ok_val (fun ν13 => .int .i64 t12) 39) <|
      .cons [40] (ok_valL [49] (fun ν13 => [owK 40 2 ((ν7 1).o 0) t8.length ((ν7 1).n 0) (t8.flatMap en_TInterval)]) (fun ν13 => .pointer (some ⟨hdB ((ν7 1).o 0), hdO ((ν7 1).o 0) + a1.toNat * 2, none⟩)) (fun ν13 => true) [true, true] 40 (fun ν13 w hg hF => run_of (by kernel_rfl) (run_ix (t := 22) (p := ((ν7 1).o 0)) (n := t8.length) (cap := ((ν7 1).n 0)) (k := .i64) (i := a1) (sz := 2) (by kernel_rfl) (by kernel_rfl) (owns_row (ow_of hF.1)) b14))) <|
      .cons [41] (ok_val (fun ν13 => .pointer (some ⟨hdB ((ν7 1).o 0), hdO ((ν7 1).o 0) + a1.toNat * 2 + 1, none⟩)) 41) <|
      .cons [49] ((ok_rowsetL 40 2 t8.length (fun ν13 => ((ν7 1).o 0)) (fun ν13 => ((ν7 1).n 0)) (t8.flatMap en_TInterval) _ 49 (fun ν13 w hF => el_store (ow_of hF) en_TInterval_len (y := (⟨t15.Lo, t12⟩ : TInterval)) (vs := [.int .i64 t12]) ht15 1 (by simp) (by simp) rfl (by kernel_rfl)))) <|
      .cons [42] (ok_valL [50] (fun ν13 => [owK 40 2 ((ν7 3).o 0) t9.length ((ν7 3).n 0) (t9.flatMap en_TInterval)]) (fun ν13 => .pointer (some ⟨hdB ((ν7 3).o 0), hdO ((ν7 3).o 0) + a1.toNat * 2, none⟩)) (fun ν13 => true) [true, true] 42 (fun ν13 w hg hF => run_of (by kernel_rfl) (run_ix (t := 22) (p := ((ν7 3).o 0)) (n := t9.length) (cap := ((ν7 3).n 0)) (k := .i64) (i := a1) (sz := 2) (by kernel_rfl) (by kernel_rfl) (owns_row (ow_of hF.1)) b16))) <|
      .cons [43] (ok_val (fun ν13 => .pointer (some ⟨hdB ((ν7 3).o 0), hdO ((ν7 3).o 0) + a1.toNat * 2 + 0, none⟩)) 43) <|
      .cons [50] ((ok_rowsetL 40 2 t9.length (fun ν13 => ((ν7 3).o 0)) (fun ν13 => ((ν7 3).n 0)) (t9.flatMap en_TInterval) _ 50 (fun ν13 w hF => el_store (ow_of hF) en_TInterval_len (y := (⟨t12, t17.Hi⟩ : TInterval)) (vs := [.int .i64 t12]) ht17 0 (by simp) (by simp) rfl (by kernel_rfl)))) <| .nil) (by kernel_rfl) fun ν13 a w' H => ?_
    replace H := H.toL [(4, .slot true (.slice none 0 0)), (5, .slot true (.slice none 0 0)), (6, .slot true (.int .i64 0)), (7, .slot true (.slice ((ν7 1).o 0) t8.length ((ν7 1).n 0))), (8, .slot true (.slice ((ν7 3).o 0) t9.length ((ν7 3).n 0))), (49, owK 40 2 ((ν7 1).o 0) t8.length ((ν7 1).n 0) ((t8.set a1.toNat (⟨t15.Lo, t12⟩ : TInterval)).flatMap en_TInterval)), (50, owK 40 2 ((ν7 3).o 0) t9.length ((ν7 3).n 0) ((t9.set a1.toNat (⟨t12, t17.Hi⟩ : TInterval)).flatMap en_TInterval))] (by kernel_rfl)
    refine k_seq ?_
    refine k_reg mixed H (.cons [44] (ok_val (fun ν18 => .slice ((ν7 1).o 0) t8.length ((ν7 1).n 0)) 44) <|
      .cons [45] (ok_val (fun ν18 => .slice ((ν7 3).o 0) t9.length ((ν7 3).n 0)) 45) <|
      .cons [4] (ok_val (fun ν18 => .slice ((ν7 1).o 0) t8.length ((ν7 1).n 0)) 4) <|
      .cons [5] (ok_val (fun ν18 => .slice ((ν7 3).o 0) t9.length ((ν7 3).n 0)) 5) <|
      .cons [6] (ok_val (fun ν18 => .int .i64 0) 6) <| .nil) (by kernel_rfl) fun ν18 a w' H => ?_
    replace H := H.toL [(4, .slot true (.slice ((ν7 1).o 0) t8.length ((ν7 1).n 0))), (5, .slot true (.slice ((ν7 3).o 0) t9.length ((ν7 3).n 0))), (6, .slot true (.int .i64 0)), (49, owK 40 2 ((ν7 1).o 0) t8.length ((ν7 1).n 0) ((t8.set a1.toNat (⟨t15.Lo, t12⟩ : TInterval)).flatMap en_TInterval)), (50, owK 40 2 ((ν7 3).o 0) t9.length ((ν7 3).n 0) ((t9.set a1.toNat (⟨t12, t17.Hi⟩ : TInterval)).flatMap en_TInterval))] (by kernel_rfl)
    refine k_ret ?_
    obtain rfl := Option.some.inj G
    simp only [List.length_set]
    exact k_doneR2 H (fun p cap p2 cap2 => .tuple #[.slice p t8.length cap, .slice p2 t9.length cap2, .int .i64 0]) ((ν7 1).o 0) ((ν7 1).n 0) ((ν7 3).o 0) ((ν7 3).n 0) [] 49 40 2 t8.length ((t8.set a1.toNat (⟨t15.Lo, t12⟩ : TInterval)).flatMap en_TInterval) 50 40 2 t9.length ((t9.set a1.toNat (⟨t12, t17.Hi⟩ : TInterval)).flatMap en_TInterval) (by decide) (by kernel_rfl) (by kernel_rfl) (by kernel_rfl) (by simp) (by kernel_rfl)

end Go.Proofs.Ytgccinodonkgjaa
