/- Each function of the program answers as the plain Lean function of its name (part 1). Printed by a program of this session. -/
import Derived.Test.YtmjnbhigomjjnaaDoorFn0
set_option linter.unusedVariables false
set_option maxRecDepth 100000
namespace Go.Proofs.YtmjnbhigomjjnaaDoor
open Go Go.RowKit Go.Sx Go.Proofs
set_option maxHeartbeats 4000000 in
theorem api_Interval.calls (a0 : Bool) (a1 : TInterval) (a2 : TInterval) (r : TInterval) (w : World) (G : api_Interval a0 a1 a2 = some r) :
    Calls Tryd.prog 71 #[.bool a0, .agg #[.int .i64 a1.Lo, .int .i64 a1.Hi], .agg #[.int .i64 a2.Lo, .int .i64 a2.Hi]] w fun e w' => e = .returned (.agg #[.int .i64 r.Lo, .int .i64 r.Hi]) ∧ Below w.heap.size w w' := by
  refine k_enter (args := [.bool a0, .agg #[.int .i64 a1.Lo, .int .i64 a1.Hi], .agg #[.int .i64 a2.Lo, .int .i64 a2.Hi]]) 10 Tryd.func71 rfl (by kernel_rfl) (by kernel_rfl) fun a H => ?_
  unfold api_Interval at G
  refine k_seq ?_
  refine k_reg mixed H (.cons [4, 10] (ok_new (fun b => .pointer (some ⟨b, 0, none⟩)) (fun ν1 => [.int .i64 a1.Lo, .int .i64 a1.Hi]) 23 4 10) <|
      .cons [5, 11] (ok_new (fun b => .pointer (some ⟨b, 0, none⟩)) (fun ν1 => [.int .i64 a2.Lo, .int .i64 a2.Hi]) 23 5 11) <|
      .cons [6, 12] (ok_new (fun b => .pointer (some ⟨b, 0, none⟩)) (fun ν1 => [.int .i64 0, .int .i64 0]) 23 6 12) <| .nil) (by kernel_rfl) fun ν1 a w' H => ?_
  replace H := H.toL [(0, .slot true (.bool a0)), (4, .slot true (.pointer (some ⟨((ν1 0).n 0), 0, none⟩))), (5, .slot true (.pointer (some ⟨((ν1 1).n 0), 0, none⟩))), (6, .slot true (.pointer (some ⟨((ν1 2).n 0), 0, none⟩))), (10, .blk ((ν1 0).n 0) [.int .i64 a1.Lo, .int .i64 a1.Hi] 23), (11, .blk ((ν1 1).n 0) [.int .i64 a2.Lo, .int .i64 a2.Hi] 23), (12, .blk ((ν1 2).n 0) [.int .i64 0, .int .i64 0] 23)] (by kernel_rfl)
  refine k_seq ?_
  refine k_seq ?_
  refine k_reg mixed H (.cons [7] (ok_val (fun ν2 => .bool a0) 7) <| .nil) (by kernel_rfl) fun ν2 a w' H => ?_
  replace H := H.toL [(4, .slot true (.pointer (some ⟨((ν1 0).n 0), 0, none⟩))), (5, .slot true (.pointer (some ⟨((ν1 1).n 0), 0, none⟩))), (6, .slot true (.pointer (some ⟨((ν1 2).n 0), 0, none⟩))), (7, .slot true (.bool a0)), (10, .blk ((ν1 0).n 0) [.int .i64 a1.Lo, .int .i64 a1.Hi] 23), (11, .blk ((ν1 1).n 0) [.int .i64 a2.Lo, .int .i64 a2.Hi] 23), (12, .blk ((ν1 2).n 0) [.int .i64 0, .int .i64 0] 23)] (by kernel_rfl)
  refine k_cond H (by kernel_rfl) (t := a0) (by kernel_rfl) (fun c5 => ?_) (fun c5 => ?_)
  · rw [if_pos c5] at G
    refine k_seq ?_
    refine k_reg mixed H (.cons [8] (ok_ld (fun ν3 => .agg #[.int .i64 a1.Lo, .int .i64 a1.Hi]) 8 10 0 2 (fun ν3 => ((ν1 0).n 0)) (fun ν3 => [.int .i64 a1.Lo, .int .i64 a1.Hi]) 23) <|
      .cons [12] (ok_as (u' := fun ν3 => [(12, .blk ((ν1 2).n 0) [.int .i64 a1.Lo, .int .i64 a1.Hi] 23)]) (ok_store 12 0 (fun ν3 => ((ν1 2).n 0)) (fun ν3 => [.int .i64 0, .int .i64 0]) (fun ν3 => [.int .i64 a1.Lo, .int .i64 a1.Hi]) 23) (fun _ => by kernel_rfl)) <| .nil) (by kernel_rfl) fun ν3 a w' H => ?_
    replace H := H.toL [(5, .slot true (.pointer (some ⟨((ν1 1).n 0), 0, none⟩))), (6, .slot true (.pointer (some ⟨((ν1 2).n 0), 0, none⟩))), (11, .blk ((ν1 1).n 0) [.int .i64 a2.Lo, .int .i64 a2.Hi] 23), (12, .blk ((ν1 2).n 0) [.int .i64 a1.Lo, .int .i64 a1.Hi] 23)] (by kernel_rfl)
    refine k_ret ?_
    obtain rfl := Option.some.inj G
    exact k_done1 H _ 12 ((ν1 2).n 0) [.int .i64 a1.Lo, .int .i64 a1.Hi] 23 0 2 (by kernel_rfl) (by kernel_rfl) (by kernel_rfl) (by kernel_rfl)
  · rw [if_neg (nt c5)] at G
    refine k_skip ?_
    refine k_seq ?_
    refine k_reg mixed H (.cons [9] (ok_ld (fun ν4 => .agg #[.int .i64 a2.Lo, .int .i64 a2.Hi]) 9 11 0 2 (fun ν4 => ((ν1 1).n 0)) (fun ν4 => [.int .i64 a2.Lo, .int .i64 a2.Hi]) 23) <|
      .cons [12] (ok_as (u' := fun ν4 => [(12, .blk ((ν1 2).n 0) [.int .i64 a2.Lo, .int .i64 a2.Hi] 23)]) (ok_store 12 0 (fun ν4 => ((ν1 2).n 0)) (fun ν4 => [.int .i64 0, .int .i64 0]) (fun ν4 => [.int .i64 a2.Lo, .int .i64 a2.Hi]) 23) (fun _ => by kernel_rfl)) <| .nil) (by kernel_rfl) fun ν4 a w' H => ?_
    replace H := H.toL [(6, .slot true (.pointer (some ⟨((ν1 2).n 0), 0, none⟩))), (12, .blk ((ν1 2).n 0) [.int .i64 a2.Lo, .int .i64 a2.Hi] 23)] (by kernel_rfl)
    refine k_ret ?_
    obtain rfl := Option.some.inj G
    exact k_done1 H _ 12 ((ν1 2).n 0) [.int .i64 a2.Lo, .int .i64 a2.Hi] 23 0 2 (by kernel_rfl) (by kernel_rfl) (by kernel_rfl) (by kernel_rfl)

set_option maxHeartbeats 4000000 in
theorem interval_Intersect.calls (a0 : TInterval) (a1 : TInterval) (r : TInterval × Bool) (w : World) (G : interval_Intersect a0 a1 = some r) :
    Calls Tryd.prog 30 #[.agg #[.int .i64 a0.Lo, .int .i64 a0.Hi], .agg #[.int .i64 a1.Lo, .int .i64 a1.Hi]] w fun e w' => e = .returned (.tuple #[.agg #[.int .i64 r.1.Lo, .int .i64 r.1.Hi], .bool r.2]) ∧ Below w.heap.size w w' := by
  refine k_enter (args := [.agg #[.int .i64 a0.Lo, .int .i64 a0.Hi], .agg #[.int .i64 a1.Lo, .int .i64 a1.Hi]]) 29 Tryd.func30 rfl (by kernel_rfl) (by kernel_rfl) fun a H => ?_
  unfold interval_Intersect at G
  refine k_seq ?_
  refine k_reg mixed H (.cons [2, 29] (ok_new (fun b => .pointer (some ⟨b, 0, none⟩)) (fun ν1 => [.int .i64 a0.Lo, .int .i64 a0.Hi]) 23 2 29) <|
      .cons [3, 30] (ok_new (fun b => .pointer (some ⟨b, 0, none⟩)) (fun ν1 => [.int .i64 a1.Lo, .int .i64 a1.Hi]) 23 3 30) <|
      .cons [4, 31] (ok_new (fun b => .pointer (some ⟨b, 0, none⟩)) (fun ν1 => [.int .i64 0, .int .i64 0]) 23 4 31) <|
      .cons [5] (ok_val (fun ν1 => .bool false) 5) <| .nil) (by kernel_rfl) fun ν1 a w' H => ?_
  replace H := H.toL [(2, .slot true (.pointer (some ⟨((ν1 0).n 0), 0, none⟩))), (3, .slot true (.pointer (some ⟨((ν1 1).n 0), 0, none⟩))), (4, .slot true (.pointer (some ⟨((ν1 2).n 0), 0, none⟩))), (5, .slot true (.bool false)), (29, .blk ((ν1 0).n 0) [.int .i64 a0.Lo, .int .i64 a0.Hi] 23), (30, .blk ((ν1 1).n 0) [.int .i64 a1.Lo, .int .i64 a1.Hi] 23), (31, .blk ((ν1 2).n 0) [.int .i64 0, .int .i64 0] 23)] (by kernel_rfl)
  refine k_seq ?_
  refine k_reg mixed H (.cons [8] (ok_val (fun ν2 => .pointer (some ⟨((ν1 0).n 0), 0, none⟩)) 8) <|
      .cons [9] (ok_ld (fun ν2 => .int .i64 a0.Lo) 9 29 0 1 (fun ν2 => ((ν1 0).n 0)) (fun ν2 => [.int .i64 a0.Lo, .int .i64 a0.Hi]) 23) <|
      .cons [10] (ok_val (fun ν2 => .pointer (some ⟨((ν1 1).n 0), 0, none⟩)) 10) <|
      .cons [11] (ok_ld (fun ν2 => .int .i64 a1.Lo) 11 30 0 1 (fun ν2 => ((ν1 1).n 0)) (fun ν2 => [.int .i64 a1.Lo, .int .i64 a1.Hi]) 23) <|
      .cons [12] (ok_val (fun ν2 => .int .i64 (mx a0.Lo a1.Lo)) 12) <|
      .cons [13] (ok_val (fun ν2 => .pointer (some ⟨((ν1 0).n 0), 1, none⟩)) 13) <|
      .cons [14] (ok_ld (fun ν2 => .int .i64 a0.Hi) 14 29 1 1 (fun ν2 => ((ν1 0).n 0)) (fun ν2 => [.int .i64 a0.Lo, .int .i64 a0.Hi]) 23) <|
      .cons [15] (ok_val (fun ν2 => .pointer (some ⟨((ν1 1).n 0), 1, none⟩)) 15) <|
      .cons [16] (ok_ld (fun ν2 => .int .i64 a1.Hi) 16 30 1 1 (fun ν2 => ((ν1 1).n 0)) (fun ν2 => [.int .i64 a1.Lo, .int .i64 a1.Hi]) 23) <|
      .cons [17] (ok_val (fun ν2 => .int .i64 (mn a0.Hi a1.Hi)) 17) <|
      .cons [18] (ok_val (fun ν2 => .agg #[.int .i64 (mx a0.Lo a1.Lo), .int .i64 (mn a0.Hi a1.Hi)]) 18) <|
      .cons [6, 32] (ok_new (fun b => .pointer (some ⟨b, 0, none⟩)) (fun ν2 => [.int .i64 0, .int .i64 0]) 23 6 32) <|
      .cons [32] (ok_as (u' := fun ν2 => [(32, .blk ((ν2 11).n 0) [.int .i64 (mx a0.Lo a1.Lo), .int .i64 (mn a0.Hi a1.Hi)] 23)]) (ok_store 32 0 (fun ν2 => ((ν2 11).n 0)) (fun ν2 => [.int .i64 0, .int .i64 0]) (fun ν2 => [.int .i64 (mx a0.Lo a1.Lo), .int .i64 (mn a0.Hi a1.Hi)]) 23) (fun _ => by kernel_rfl)) <| .nil) (by kernel_rfl) fun ν2 a w' H => ?_
  replace H := H.toL [(4, .slot true (.pointer (some ⟨((ν1 2).n 0), 0, none⟩))), (5, .slot true (.bool false)), (6, .slot true (.pointer (some ⟨((ν2 11).n 0), 0, none⟩))), (31, .blk ((ν1 2).n 0) [.int .i64 0, .int .i64 0] 23), (32, .blk ((ν2 11).n 0) [.int .i64 (mx a0.Lo a1.Lo), .int .i64 (mn a0.Hi a1.Hi)] 23)] (by kernel_rfl)
  refine k_seq ?_
  refine k_reg mixed H (.cons [19] (ok_val (fun ν3 => .pointer (some ⟨((ν2 11).n 0), 0, none⟩)) 19) <|
      .cons [20] (ok_ld (fun ν3 => .int .i64 (mx a0.Lo a1.Lo)) 20 32 0 1 (fun ν3 => ((ν2 11).n 0)) (fun ν3 => [.int .i64 (mx a0.Lo a1.Lo), .int .i64 (mn a0.Hi a1.Hi)]) 23) <|
      .cons [21] (ok_val (fun ν3 => .pointer (some ⟨((ν2 11).n 0), 1, none⟩)) 21) <|
      .cons [22] (ok_ld (fun ν3 => .int .i64 (mn a0.Hi a1.Hi)) 22 32 1 1 (fun ν3 => ((ν2 11).n 0)) (fun ν3 => [.int .i64 (mx a0.Lo a1.Lo), .int .i64 (mn a0.Hi a1.Hi)]) 23) <|
      .cons [23] (ok_val (fun ν3 => .bool (decide ((mx a0.Lo a1.Lo) ≤ (mn a0.Hi a1.Hi)))) 23) <|
      .cons [7] (ok_val (fun ν3 => .bool (decide ((mx a0.Lo a1.Lo) ≤ (mn a0.Hi a1.Hi)))) 7) <| .nil) (by kernel_rfl) fun ν3 a w' H => ?_
  replace H := H.toL [(4, .slot true (.pointer (some ⟨((ν1 2).n 0), 0, none⟩))), (5, .slot true (.bool false)), (6, .slot true (.pointer (some ⟨((ν2 11).n 0), 0, none⟩))), (7, .slot true (.bool (decide ((mx a0.Lo a1.Lo) ≤ (mn a0.Hi a1.Hi))))), (31, .blk ((ν1 2).n 0) [.int .i64 0, .int .i64 0] 23), (32, .blk ((ν2 11).n 0) [.int .i64 (mx a0.Lo a1.Lo), .int .i64 (mn a0.Hi a1.Hi)] 23)] (by kernel_rfl)
  refine k_seq ?_
  replace G := bnd G; obtain ⟨t5, ht5, G⟩ := G
  refine k_reg mixed H (.cons [24] (ok_val (fun ν4 => .bool (decide ((mx a0.Lo a1.Lo) ≤ (mn a0.Hi a1.Hi)))) 24) <|
      .cons [25] (ok_ld (fun ν4 => .agg #[.int .i64 (mx a0.Lo a1.Lo), .int .i64 (mn a0.Hi a1.Hi)]) 25 32 0 2 (fun ν4 => ((ν2 11).n 0)) (fun ν4 => [.int .i64 (mx a0.Lo a1.Lo), .int .i64 (mn a0.Hi a1.Hi)]) 23) <|
      .cons [26] (ok_val (fun ν4 => .agg #[.int .i64 0, .int .i64 0]) 26) <|
      .cons [27] (ok_callv 71 (fun ν4 => #[.bool (decide ((mx a0.Lo a1.Lo) ≤ (mn a0.Hi a1.Hi))), .agg #[.int .i64 (mx a0.Lo a1.Lo), .int .i64 (mn a0.Hi a1.Hi)], .agg #[.int .i64 0, .int .i64 0]]) (.agg #[.int .i64 t5.Lo, .int .i64 t5.Hi]) 27 [] (fun _ w _ => api_Interval.calls (decide ((mx a0.Lo a1.Lo) ≤ (mn a0.Hi a1.Hi))) (⟨mx a0.Lo a1.Lo, mn a0.Hi a1.Hi⟩ : TInterval) (⟨0, 0⟩ : TInterval) t5 w ht5)) <|
      .cons [28] (ok_val (fun ν4 => .bool (decide ((mx a0.Lo a1.Lo) ≤ (mn a0.Hi a1.Hi)))) 28) <|
      .cons [31] (ok_as (u' := fun ν4 => [(31, .blk ((ν1 2).n 0) [.int .i64 t5.Lo, .int .i64 t5.Hi] 23)]) (ok_store 31 0 (fun ν4 => ((ν1 2).n 0)) (fun ν4 => [.int .i64 0, .int .i64 0]) (fun ν4 => [.int .i64 t5.Lo, .int .i64 t5.Hi]) 23) (fun _ => by kernel_rfl)) <|
      .cons [5] (ok_val (fun ν4 => .bool (decide ((mx a0.Lo a1.Lo) ≤ (mn a0.Hi a1.Hi)))) 5) <| .nil) (by kernel_rfl) fun ν4 a w' H => ?_
  replace H := H.toL [(4, .slot true (.pointer (some ⟨((ν1 2).n 0), 0, none⟩))), (5, .slot true (.bool (decide ((mx a0.Lo a1.Lo) ≤ (mn a0.Hi a1.Hi))))), (31, .blk ((ν1 2).n 0) [.int .i64 t5.Lo, .int .i64 t5.Hi] 23)] (by kernel_rfl)
  refine k_ret ?_
  obtain rfl := Option.some.inj G
  exact k_done1 H _ 31 ((ν1 2).n 0) [.int .i64 t5.Lo, .int .i64 t5.Hi] 23 0 2 (by kernel_rfl) (by kernel_rfl) (by kernel_rfl) (by kernel_rfl)

set_option maxHeartbeats 4000000 in
theorem armillaryref02_Same.calls (a0 : TInterval) (a1 : TInterval) (r : Bool) (w : World) (G : armillaryref02_Same a0 a1 = some r) :
    Calls Tryd.prog 31 #[.agg #[.int .i64 a0.Lo, .int .i64 a0.Hi], .agg #[.int .i64 a1.Lo, .int .i64 a1.Hi]] w fun e w' => e = .returned (.bool r) ∧ Below w.heap.size w w' := by
  refine k_enter (args := [.agg #[.int .i64 a0.Lo, .int .i64 a0.Hi], .agg #[.int .i64 a1.Lo, .int .i64 a1.Hi]]) 17 Tryd.func31 rfl (by kernel_rfl) (by kernel_rfl) fun a H => ?_
  unfold armillaryref02_Same at G
  refine k_seq ?_
  refine k_reg mixed H (.cons [2, 17] (ok_new (fun b => .pointer (some ⟨b, 0, none⟩)) (fun ν1 => [.int .i64 a0.Lo, .int .i64 a0.Hi]) 23 2 17) <|
      .cons [3, 18] (ok_new (fun b => .pointer (some ⟨b, 0, none⟩)) (fun ν1 => [.int .i64 a1.Lo, .int .i64 a1.Hi]) 23 3 18) <|
      .cons [4] (ok_val (fun ν1 => .bool false) 4) <| .nil) (by kernel_rfl) fun ν1 a w' H => ?_
  replace H := H.toL [(2, .slot true (.pointer (some ⟨((ν1 0).n 0), 0, none⟩))), (3, .slot true (.pointer (some ⟨((ν1 1).n 0), 0, none⟩))), (4, .slot true (.bool false)), (17, .blk ((ν1 0).n 0) [.int .i64 a0.Lo, .int .i64 a0.Hi] 23), (18, .blk ((ν1 1).n 0) [.int .i64 a1.Lo, .int .i64 a1.Hi] 23)] (by kernel_rfl)
  refine k_seq ?_
  refine k_reg mixed H (.cons [5] (ok_val (fun ν2 => .pointer (some ⟨((ν1 0).n 0), 0, none⟩)) 5) <|
      .cons [6] (ok_ld (fun ν2 => .int .i64 a0.Lo) 6 17 0 1 (fun ν2 => ((ν1 0).n 0)) (fun ν2 => [.int .i64 a0.Lo, .int .i64 a0.Hi]) 23) <|
      .cons [7] (ok_val (fun ν2 => .pointer (some ⟨((ν1 1).n 0), 0, none⟩)) 7) <|
      .cons [8] (ok_ld (fun ν2 => .int .i64 a1.Lo) 8 18 0 1 (fun ν2 => ((ν1 1).n 0)) (fun ν2 => [.int .i64 a1.Lo, .int .i64 a1.Hi]) 23) <|
      .cons [9] (ok_val (fun ν2 => .bool (a0.Lo == a1.Lo)) 9) <|
      .cons [10] (ok_val (fun ν2 => .bool (a0.Lo == a1.Lo)) 10) <|
      .cons [11] (ok_valg (fun ν2 => .pointer (some ⟨((ν1 0).n 0), 1, none⟩)) (fun ν2 => ((a0.Lo == a1.Lo) == true)) [true] 11) <|
      .cons [12] (ok_ldg (fun ν2 => .int .i64 a0.Hi) (fun ν2 => ((a0.Lo == a1.Lo) == true)) [false] 12 17 1 1 (fun ν2 => ((ν1 0).n 0)) (fun ν2 => [.int .i64 a0.Lo, .int .i64 a0.Hi]) 23) <|
      .cons [13] (ok_valg (fun ν2 => .pointer (some ⟨((ν1 1).n 0), 1, none⟩)) (fun ν2 => ((a0.Lo == a1.Lo) == true)) [true] 13) <|
      .cons [14] (ok_ldg (fun ν2 => .int .i64 a1.Hi) (fun ν2 => ((a0.Lo == a1.Lo) == true)) [false] 14 18 1 1 (fun ν2 => ((ν1 1).n 0)) (fun ν2 => [.int .i64 a1.Lo, .int .i64 a1.Hi]) 23) <|
      .cons [15] (ok_valg (fun ν2 => .bool (a0.Hi == a1.Hi)) (fun ν2 => ((a0.Lo == a1.Lo) == true)) [false, false] 15) <|
      .cons [16] (ok_and 10 15 (fun ν2 => true) (fun ν2 => true) (fun ν2 => (a0.Lo == a1.Lo)) (fun ν2 => (a0.Hi == a1.Hi)) 16) <|
      .cons [4] (ok_val (fun ν2 => .bool ((a0.Lo == a1.Lo) && (a0.Hi == a1.Hi))) 4) <| .nil) (by kernel_rfl) fun ν2 a w' H => ?_
  replace H := H.toL [(4, .slot true (.bool ((a0.Lo == a1.Lo) && (a0.Hi == a1.Hi))))] (by kernel_rfl)
  refine k_ret ?_
  obtain rfl := Option.some.inj G
  exact k_done0 H _ (by kernel_rfl) (by kernel_rfl)

set_option maxHeartbeats 4000000 in
theorem fixed_Valid.calls (a0 : Int) (r : Bool) (w : World) (G : fixed_Valid a0 = some r) :
    Calls Tryd.prog 72 #[.int .i64 a0] w fun e w' => e = .returned (.bool r) ∧ Below w.heap.size w w' := by
  refine k_enter (args := [.int .i64 a0]) 9 Tryd.func72 rfl (by kernel_rfl) (by kernel_rfl) fun a H => ?_
  unfold fixed_Valid at G
  refine k_seq ?_
  refine k_reg mixed H (.cons [2] (ok_val (fun ν1 => .bool false) 2) <| .nil) (by kernel_rfl) fun ν1 a w' H => ?_
  replace H := H.toL [(0, .slot true (.int .i64 a0)), (2, .slot true (.bool false))] (by kernel_rfl)
  refine k_seq ?_
  refine k_reg mixed H (.cons [3] (ok_val (fun ν2 => .int .i64 a0) 3) <|
      .cons [4] (ok_val (fun ν2 => .bool (decide ((-2147483648) < a0))) 4) <|
      .cons [5] (ok_val (fun ν2 => .bool (decide ((-2147483648) < a0))) 5) <|
      .cons [6] (ok_valg (fun ν2 => .int .i64 a0) (fun ν2 => ((decide ((-2147483648) < a0)) == true)) [true] 6) <|
      .cons [7] (ok_valg (fun ν2 => .bool (decide (a0 < 2147483648))) (fun ν2 => ((decide ((-2147483648) < a0)) == true)) [false, true] 7) <|
      .cons [8] (ok_and 5 7 (fun ν2 => true) (fun ν2 => true) (fun ν2 => decide ((-2147483648) < a0)) (fun ν2 => decide (a0 < 2147483648)) 8) <|
      .cons [2] (ok_val (fun ν2 => .bool ((decide ((-2147483648) < a0)) && (decide (a0 < 2147483648)))) 2) <| .nil) (by kernel_rfl) fun ν2 a w' H => ?_
  replace H := H.toL [(2, .slot true (.bool ((decide ((-2147483648) < a0)) && (decide (a0 < 2147483648)))))] (by kernel_rfl)
  refine k_ret ?_
  obtain rfl := Option.some.inj G
  exact k_done0 H _ (by kernel_rfl) (by kernel_rfl)

set_option maxHeartbeats 4000000 in
theorem interval_Valid.calls (a0 : TInterval) (r : Bool) (w : World) (G : interval_Valid a0 = some r) :
    Calls Tryd.prog 32 #[.agg #[.int .i64 a0.Lo, .int .i64 a0.Hi]] w fun e w' => e = .returned (.bool r) ∧ Below w.heap.size w w' := by
  refine k_enter (args := [.agg #[.int .i64 a0.Lo, .int .i64 a0.Hi]]) 22 Tryd.func32 rfl (by kernel_rfl) (by kernel_rfl) fun a H => ?_
  unfold interval_Valid at G
  refine k_seq ?_
  refine k_reg mixed H (.cons [1, 22] (ok_new (fun b => .pointer (some ⟨b, 0, none⟩)) (fun ν1 => [.int .i64 a0.Lo, .int .i64 a0.Hi]) 23 1 22) <|
      .cons [2] (ok_val (fun ν1 => .bool false) 2) <| .nil) (by kernel_rfl) fun ν1 a w' H => ?_
  replace H := H.toL [(1, .slot true (.pointer (some ⟨((ν1 0).n 0), 0, none⟩))), (2, .slot true (.bool false)), (22, .blk ((ν1 0).n 0) [.int .i64 a0.Lo, .int .i64 a0.Hi] 23)] (by kernel_rfl)
  refine k_seq ?_
  replace G := bnd G; obtain ⟨t3, ht3, G⟩ := G
  replace G := bnd G; obtain ⟨t4, ht4, G⟩ := G
  replace G := bnd G; obtain ⟨t5, ht5, G⟩ := G
  refine k_reg mixed H (.cons [3] (ok_ld (fun ν2 => .agg #[.int .i64 a0.Lo, .int .i64 a0.Hi]) 3 22 0 2 (fun ν2 => ((ν1 0).n 0)) (fun ν2 => [.int .i64 a0.Lo, .int .i64 a0.Hi]) 23) <|
      .cons [4] (ok_callv 38 (fun ν2 => #[.agg #[.int .i64 a0.Lo, .int .i64 a0.Hi]]) (.bool t3) 4 [] (fun _ w _ => interval_IsEntire.calls a0 t3 w ht3)) <|
      .cons [5] (ok_val (fun ν2 => .bool t3) 5) <|
      .cons [6] (ok_valg (fun ν2 => .pointer (some ⟨((ν1 0).n 0), 0, none⟩)) (fun ν2 => (t3 == false)) [true] 6) <|
      .cons [7] (ok_ldg (fun ν2 => .int .i64 a0.Lo) (fun ν2 => (t3 == false)) [false] 7 22 0 1 (fun ν2 => ((ν1 0).n 0)) (fun ν2 => [.int .i64 a0.Lo, .int .i64 a0.Hi]) 23) <|
      .cons [8] (ok_call 72 (fun ν2 => #[.int .i64 a0.Lo]) (.bool t4) (fun ν2 => (t3 == false)) [true, false] 8 [] (fun _ w hg _ => fixed_Valid.calls a0.Lo t4 w (ifp ht4 hg))) <|
      .cons [9] (ok_valg (fun ν2 => .bool t4) (fun ν2 => (t3 == false)) [false] 9) <|
      .cons [10] (ok_valg (fun ν2 => .pointer (some ⟨((ν1 0).n 0), 1, none⟩)) (fun ν2 => ((t3 == false) && (t4 == true))) [true] 10) <|
      .cons [11] (ok_ldg (fun ν2 => .int .i64 a0.Hi) (fun ν2 => ((t3 == false) && (t4 == true))) [false] 11 22 1 1 (fun ν2 => ((ν1 0).n 0)) (fun ν2 => [.int .i64 a0.Lo, .int .i64 a0.Hi]) 23) <|
      .cons [12] (ok_call 72 (fun ν2 => #[.int .i64 a0.Hi]) (.bool t5) (fun ν2 => ((t3 == false) && (t4 == true))) [true, false] 12 [] (fun _ w hg _ => fixed_Valid.calls a0.Hi t5 w (ifp ht5 hg))) <|
      .cons [13] (ok_and 9 12 (fun ν2 => (t3 == false)) (fun ν2 => (t3 == false)) (fun ν2 => t4) (fun ν2 => t5) 13) <|
      .cons [14] (ok_valg (fun ν2 => .bool (t4 && t5)) (fun ν2 => (t3 == false)) [false] 14) <|
      .cons [15] (ok_valg (fun ν2 => .pointer (some ⟨((ν1 0).n 0), 0, none⟩)) (fun ν2 => ((t3 == false) && ((t4 && t5) == true))) [true] 15) <|
      .cons [16] (ok_ldg (fun ν2 => .int .i64 a0.Lo) (fun ν2 => ((t3 == false) && ((t4 && t5) == true))) [false] 16 22 0 1 (fun ν2 => ((ν1 0).n 0)) (fun ν2 => [.int .i64 a0.Lo, .int .i64 a0.Hi]) 23) <|
      .cons [17] (ok_valg (fun ν2 => .pointer (some ⟨((ν1 0).n 0), 1, none⟩)) (fun ν2 => ((t3 == false) && ((t4 && t5) == true))) [true] 17) <|
      .cons [18] (ok_ldg (fun ν2 => .int .i64 a0.Hi) (fun ν2 => ((t3 == false) && ((t4 && t5) == true))) [false] 18 22 1 1 (fun ν2 => ((ν1 0).n 0)) (fun ν2 => [.int .i64 a0.Lo, .int .i64 a0.Hi]) 23) <|
      .cons [19] (ok_valg (fun ν2 => .bool (decide (a0.Lo ≤ a0.Hi))) (fun ν2 => ((t3 == false) && ((t4 && t5) == true))) [false, false] 19) <|
      .cons [20] (ok_and 14 19 (fun ν2 => (t3 == false)) (fun ν2 => (t3 == false)) (fun ν2 => (t4 && t5)) (fun ν2 => decide (a0.Lo ≤ a0.Hi)) 20) <|
      .cons [21] (ok_or 5 20 (fun ν2 => true) (fun ν2 => true) (fun ν2 => t3) (fun ν2 => ((t4 && t5) && (decide (a0.Lo ≤ a0.Hi)))) 21) <|
      .cons [2] (ok_val (fun ν2 => .bool (t3 || ((t4 && t5) && (decide (a0.Lo ≤ a0.Hi))))) 2) <| .nil) (by kernel_rfl) fun ν2 a w' H => ?_
  replace H := H.toL [(2, .slot true (.bool (t3 || ((t4 && t5) && (decide (a0.Lo ≤ a0.Hi))))))] (by kernel_rfl)
  refine k_ret ?_
  obtain rfl := Option.some.inj G
  exact k_done0 H _ (by kernel_rfl) (by kernel_rfl)

set_option maxHeartbeats 4000000 in
theorem interval_Mid.calls (a0 : TInterval) (r : Int) (w : World) (G : interval_Mid a0 = some r) :
    Calls Tryd.prog 34 #[.agg #[.int .i64 a0.Lo, .int .i64 a0.Hi]] w fun e w' => e = .returned (.int .i64 r) ∧ Below w.heap.size w w' := by
  refine k_enter (args := [.agg #[.int .i64 a0.Lo, .int .i64 a0.Hi]]) 9 Tryd.func34 rfl (by kernel_rfl) (by kernel_rfl) fun a H => ?_
  unfold interval_Mid at G
  refine k_seq ?_
  refine k_reg mixed H (.cons [1, 9] (ok_new (fun b => .pointer (some ⟨b, 0, none⟩)) (fun ν1 => [.int .i64 a0.Lo, .int .i64 a0.Hi]) 23 1 9) <|
      .cons [2] (ok_val (fun ν1 => .int .i64 0) 2) <| .nil) (by kernel_rfl) fun ν1 a w' H => ?_
  replace H := H.toL [(1, .slot true (.pointer (some ⟨((ν1 0).n 0), 0, none⟩))), (2, .slot true (.int .i64 0)), (9, .blk ((ν1 0).n 0) [.int .i64 a0.Lo, .int .i64 a0.Hi] 23)] (by kernel_rfl)
  refine k_seq ?_
  refine k_reg mixed H (.cons [3] (ok_val (fun ν2 => .pointer (some ⟨((ν1 0).n 0), 0, none⟩)) 3) <|
      .cons [4] (ok_ld (fun ν2 => .int .i64 a0.Lo) 4 9 0 1 (fun ν2 => ((ν1 0).n 0)) (fun ν2 => [.int .i64 a0.Lo, .int .i64 a0.Hi]) 23) <|
      .cons [5] (ok_val (fun ν2 => .pointer (some ⟨((ν1 0).n 0), 1, none⟩)) 5) <|
      .cons [6] (ok_ld (fun ν2 => .int .i64 a0.Hi) 6 9 1 1 (fun ν2 => ((ν1 0).n 0)) (fun ν2 => [.int .i64 a0.Lo, .int .i64 a0.Hi]) 23) <|
      .cons [7] (ok_val (fun ν2 => .int .i64 (w_i64 (a0.Lo + a0.Hi))) 7) <|
      .cons [8] (ok_val (fun ν2 => .int .i64 (Int.fdiv (w_i64 (a0.Lo + a0.Hi)) 2)) 8) <|
      .cons [2] (ok_val (fun ν2 => .int .i64 (Int.fdiv (w_i64 (a0.Lo + a0.Hi)) 2)) 2) <| .nil) (by kernel_rfl) fun ν2 a w' H => ?_
  replace H := H.toL [(2, .slot true (.int .i64 (Int.fdiv (w_i64 (a0.Lo + a0.Hi)) 2)))] (by kernel_rfl)
  refine k_ret ?_
  obtain rfl := Option.some.inj G
  exact k_done0 H _ (by kernel_rfl) (by kernel_rfl)

set_option maxHeartbeats 4000000 in
theorem interval_Width.calls (a0 : TInterval) (r : Int) (w : World) (G : interval_Width a0 = some r) :
    Calls Tryd.prog 35 #[.agg #[.int .i64 a0.Lo, .int .i64 a0.Hi]] w fun e w' => e = .returned (.int .i64 r) ∧ Below w.heap.size w w' := by
  refine k_enter (args := [.agg #[.int .i64 a0.Lo, .int .i64 a0.Hi]]) 8 Tryd.func35 rfl (by kernel_rfl) (by kernel_rfl) fun a H => ?_
  unfold interval_Width at G
  refine k_seq ?_
  refine k_reg mixed H (.cons [1, 8] (ok_new (fun b => .pointer (some ⟨b, 0, none⟩)) (fun ν1 => [.int .i64 a0.Lo, .int .i64 a0.Hi]) 23 1 8) <|
      .cons [2] (ok_val (fun ν1 => .int .i64 0) 2) <| .nil) (by kernel_rfl) fun ν1 a w' H => ?_
  replace H := H.toL [(1, .slot true (.pointer (some ⟨((ν1 0).n 0), 0, none⟩))), (2, .slot true (.int .i64 0)), (8, .blk ((ν1 0).n 0) [.int .i64 a0.Lo, .int .i64 a0.Hi] 23)] (by kernel_rfl)
  refine k_seq ?_
  refine k_reg mixed H (.cons [3] (ok_val (fun ν2 => .pointer (some ⟨((ν1 0).n 0), 1, none⟩)) 3) <|
      .cons [4] (ok_ld (fun ν2 => .int .i64 a0.Hi) 4 8 1 1 (fun ν2 => ((ν1 0).n 0)) (fun ν2 => [.int .i64 a0.Lo, .int .i64 a0.Hi]) 23) <|
      .cons [5] (ok_val (fun ν2 => .pointer (some ⟨((ν1 0).n 0), 0, none⟩)) 5) <|
      .cons [6] (ok_ld (fun ν2 => .int .i64 a0.Lo) 6 8 0 1 (fun ν2 => ((ν1 0).n 0)) (fun ν2 => [.int .i64 a0.Lo, .int .i64 a0.Hi]) 23) <|
      .cons [7] (ok_val (fun ν2 => .int .i64 (w_i64 (a0.Hi - a0.Lo))) 7) <|
      .cons [2] (ok_val (fun ν2 => .int .i64 (w_i64 (a0.Hi - a0.Lo))) 2) <| .nil) (by kernel_rfl) fun ν2 a w' H => ?_
  replace H := H.toL [(2, .slot true (.int .i64 (w_i64 (a0.Hi - a0.Lo))))] (by kernel_rfl)
  refine k_ret ?_
  obtain rfl := Option.some.inj G
  exact k_done0 H _ (by kernel_rfl) (by kernel_rfl)

set_option maxHeartbeats 4000000 in
theorem interval_Sign.calls (a0 : TInterval) (r : Int) (w : World) (G : interval_Sign a0 = some r) :
    Calls Tryd.prog 37 #[.agg #[.int .i64 a0.Lo, .int .i64 a0.Hi]] w fun e w' => e = .returned (.int .i64 r) ∧ Below w.heap.size w w' := by
  refine k_enter (args := [.agg #[.int .i64 a0.Lo, .int .i64 a0.Hi]]) 11 Tryd.func37 rfl (by kernel_rfl) (by kernel_rfl) fun a H => ?_
  unfold interval_Sign at G
  refine k_seq ?_
  refine k_reg mixed H (.cons [1, 11] (ok_new (fun b => .pointer (some ⟨b, 0, none⟩)) (fun ν1 => [.int .i64 a0.Lo, .int .i64 a0.Hi]) 23 1 11) <|
      .cons [2] (ok_val (fun ν1 => .int .i64 0) 2) <| .nil) (by kernel_rfl) fun ν1 a w' H => ?_
  replace H := H.toL [(1, .slot true (.pointer (some ⟨((ν1 0).n 0), 0, none⟩))), (2, .slot true (.int .i64 0)), (11, .blk ((ν1 0).n 0) [.int .i64 a0.Lo, .int .i64 a0.Hi] 23)] (by kernel_rfl)
  refine k_seq ?_
  replace G := bnd G; obtain ⟨t3, ht3, G⟩ := G
  replace G := bnd G; obtain ⟨t4, ht4, G⟩ := G
  refine k_reg mixed H (.cons [3] (ok_val (fun ν2 => .pointer (some ⟨((ν1 0).n 0), 0, none⟩)) 3) <|
      .cons [4] (ok_ld (fun ν2 => .int .i64 a0.Lo) 4 11 0 1 (fun ν2 => ((ν1 0).n 0)) (fun ν2 => [.int .i64 a0.Lo, .int .i64 a0.Hi]) 23) <|
      .cons [5] (ok_val (fun ν2 => .bool (decide (a0.Lo > 0))) 5) <|
      .cons [6] (ok_val (fun ν2 => .pointer (some ⟨((ν1 0).n 0), 1, none⟩)) 6) <|
      .cons [7] (ok_ld (fun ν2 => .int .i64 a0.Hi) 7 11 1 1 (fun ν2 => ((ν1 0).n 0)) (fun ν2 => [.int .i64 a0.Lo, .int .i64 a0.Hi]) 23) <|
      .cons [8] (ok_val (fun ν2 => .bool (decide (a0.Hi < 0))) 8) <|
      .cons [9] (ok_callv 66 (fun ν2 => #[.bool (decide (a0.Hi < 0)), .int .i64 (-1), .int .i64 0]) (.int .i64 t3) 9 [] (fun _ w _ => interval_pick_int.calls (decide (a0.Hi < 0)) (-1) 0 t3 w ht3)) <|
      .cons [10] (ok_callv 66 (fun ν2 => #[.bool (decide (a0.Lo > 0)), .int .i64 1, .int .i64 t3]) (.int .i64 t4) 10 [] (fun _ w _ => interval_pick_int.calls (decide (a0.Lo > 0)) 1 t3 t4 w ht4)) <|
      .cons [2] (ok_val (fun ν2 => .int .i64 t4) 2) <| .nil) (by kernel_rfl) fun ν2 a w' H => ?_
  replace H := H.toL [(2, .slot true (.int .i64 t4))] (by kernel_rfl)
  refine k_ret ?_
  obtain rfl := Option.some.inj G
  exact k_done0 H _ (by kernel_rfl) (by kernel_rfl)

set_option maxHeartbeats 4000000 in
theorem armillarylaw02_v.calls (a0 : Int) (a1 : Int) (r : TInterval) (w : World) (G : armillarylaw02_v a0 a1 = some r) :
    Calls Tryd.prog 62 #[.int .i64 a0, .int .i64 a1] w fun e w' => e = .returned (.agg #[.int .i64 r.Lo, .int .i64 r.Hi]) ∧ Below w.heap.size w w' := by
  refine k_enter (args := [.int .i64 a0, .int .i64 a1]) 8 Tryd.func62 rfl (by kernel_rfl) (by kernel_rfl) fun a H => ?_
  unfold armillarylaw02_v at G
  refine k_seq ?_
  refine k_reg mixed H (.cons [4, 8] (ok_new (fun b => .pointer (some ⟨b, 0, none⟩)) (fun ν1 => [.int .i64 0, .int .i64 0]) 23 4 8) <| .nil) (by kernel_rfl) fun ν1 a w' H => ?_
  replace H := H.toL [(0, .slot true (.int .i64 a0)), (1, .slot true (.int .i64 a1)), (4, .slot true (.pointer (some ⟨((ν1 0).n 0), 0, none⟩))), (8, .blk ((ν1 0).n 0) [.int .i64 0, .int .i64 0] 23)] (by kernel_rfl)
  refine k_seq ?_
  refine k_reg mixed H (.cons [5] (ok_val (fun ν2 => .int .i64 a0) 5) <|
      .cons [6] (ok_val (fun ν2 => .int .i64 a1) 6) <|
      .cons [7] (ok_val (fun ν2 => .agg #[.int .i64 a0, .int .i64 a1]) 7) <|
      .cons [8] (ok_as (u' := fun ν2 => [(8, .blk ((ν1 0).n 0) [.int .i64 a0, .int .i64 a1] 23)]) (ok_store 8 0 (fun ν2 => ((ν1 0).n 0)) (fun ν2 => [.int .i64 0, .int .i64 0]) (fun ν2 => [.int .i64 a0, .int .i64 a1]) 23) (fun _ => by kernel_rfl)) <| .nil) (by kernel_rfl) fun ν2 a w' H => ?_
  replace H := H.toL [(4, .slot true (.pointer (some ⟨((ν1 0).n 0), 0, none⟩))), (8, .blk ((ν1 0).n 0) [.int .i64 a0, .int .i64 a1] 23)] (by kernel_rfl)
  refine k_ret ?_
  obtain rfl := Option.some.inj G
  exact k_done1 H _ 8 ((ν1 0).n 0) [.int .i64 a0, .int .i64 a1] 23 0 2 (by kernel_rfl) (by kernel_rfl) (by kernel_rfl) (by kernel_rfl)

set_option maxHeartbeats 4000000 in
theorem armillarylaw02_sanity.calls (k0 : Nat)  (r : Bool) (w : World) (hg : Glob w) (G : armillarylaw02_sanity k0 = some r) :
    Calls Tryd.prog 11 #[] w fun e w' => e = .returned (.bool r) ∧ Below w.heap.size w w' := by
  refine k_enterG (args := []) 179 999999 globFp Glob (glob_local hg) (glob_in hg) Tryd.func11 rfl (by kernel_rfl) (by kernel_rfl) fun a H => ?_
  unfold armillarylaw02_sanity at G
  refine k_seq ?_
  refine k_reg mixed H (.cons [0] (ok_val (fun ν1 => .bool false) 0) <| .nil) (by kernel_rfl) fun ν1 a w' H => ?_
  replace H := H.toL [(0, .slot true (.bool false)), (999999, gk)] (by kernel_rfl)
  refine k_seq ?_
  replace G := bnd G; obtain ⟨t3, ht3, G⟩ := G
  replace G := bnd G; obtain ⟨t4, ht4, G⟩ := G
  refine k_reg mixed H (.cons [11] (ok_callv 62 (fun ν2 => #[.int .i64 (-2147483648), .int .i64 2147483648]) (.agg #[.int .i64 t3.Lo, .int .i64 t3.Hi]) 11 [] (fun _ w _ => armillarylaw02_v.calls (-2147483648) 2147483648 t3 w ht3)) <|
      .cons [12] (ok_callv 62 (fun ν2 => #[.int .i64 65536, .int .i64 65536]) (.agg #[.int .i64 t4.Lo, .int .i64 t4.Hi]) 12 [] (fun _ w _ => armillarylaw02_v.calls 65536 65536 t4 w ht4)) <|
      .cons [1, 179] (ok_new (fun b => .pointer (some ⟨b, 0, none⟩)) (fun ν2 => [.int .i64 0, .int .i64 0]) 23 1 179) <|
      .cons [2, 180] (ok_new (fun b => .pointer (some ⟨b, 0, none⟩)) (fun ν2 => [.int .i64 0, .int .i64 0]) 23 2 180) <|
      .cons [179] (ok_as (u' := fun ν2 => [(179, .blk ((ν2 2).n 0) [.int .i64 t3.Lo, .int .i64 t3.Hi] 23)]) (ok_store 179 0 (fun ν2 => ((ν2 2).n 0)) (fun ν2 => [.int .i64 0, .int .i64 0]) (fun ν2 => [.int .i64 t3.Lo, .int .i64 t3.Hi]) 23) (fun _ => by kernel_rfl)) <|
      .cons [180] (ok_as (u' := fun ν2 => [(180, .blk ((ν2 3).n 0) [.int .i64 t4.Lo, .int .i64 t4.Hi] 23)]) (ok_store 180 0 (fun ν2 => ((ν2 3).n 0)) (fun ν2 => [.int .i64 0, .int .i64 0]) (fun ν2 => [.int .i64 t4.Lo, .int .i64 t4.Hi]) 23) (fun _ => by kernel_rfl)) <| .nil) (by kernel_rfl) fun ν2 a w' H => ?_
  replace H := H.toL [(0, .slot true (.bool false)), (1, .slot true (.pointer (some ⟨((ν2 2).n 0), 0, none⟩))), (2, .slot true (.pointer (some ⟨((ν2 3).n 0), 0, none⟩))), (179, .blk ((ν2 2).n 0) [.int .i64 t3.Lo, .int .i64 t3.Hi] 23), (180, .blk ((ν2 3).n 0) [.int .i64 t4.Lo, .int .i64 t4.Hi] 23), (999999, gk)] (by kernel_rfl)
  refine k_seq ?_
  replace G := bnd G; obtain ⟨t6, ht6, G⟩ := G
  replace G := bnd G; obtain ⟨t7, ht7, G⟩ := G
  refine k_reg mixed H (.cons [14] (ok_callv 62 (fun ν5 => #[.int .i64 (-65536), .int .i64 131072]) (.agg #[.int .i64 t6.Lo, .int .i64 t6.Hi]) 14 [] (fun _ w _ => armillarylaw02_v.calls (-65536) 131072 t6 w ht6)) <|
      .cons [15] (ok_callv 24 (fun ν5 => #[.agg #[.int .i64 t6.Lo, .int .i64 t6.Hi]]) (.tuple #[.agg #[.int .i64 t7.1.Lo, .int .i64 t7.1.Hi], .bool t7.2]) 15 [] (fun _ w _ => interval_Sqrt.calls k0 t6 t7 w ht7)) <|
      .cons [13] (ok_val (fun ν5 => .tuple #[.agg #[.int .i64 t7.1.Lo, .int .i64 t7.1.Hi], .bool t7.2]) 13) <|
      .cons [16] (ok_val (fun ν5 => .agg #[.int .i64 t7.1.Lo, .int .i64 t7.1.Hi]) 16) <|
      .cons [17] (ok_val (fun ν5 => .bool t7.2) 17) <|
      .cons [3, 181] (ok_new (fun b => .pointer (some ⟨b, 0, none⟩)) (fun ν5 => [.int .i64 0, .int .i64 0]) 23 3 181) <|
      .cons [181] (ok_as (u' := fun ν5 => [(181, .blk ((ν5 5).n 0) [.int .i64 t7.1.Lo, .int .i64 t7.1.Hi] 23)]) (ok_store 181 0 (fun ν5 => ((ν5 5).n 0)) (fun ν5 => [.int .i64 0, .int .i64 0]) (fun ν5 => [.int .i64 t7.1.Lo, .int .i64 t7.1.Hi]) 23) (fun _ => by kernel_rfl)) <|
      .cons [4] (ok_val (fun ν5 => .bool t7.2) 4) <| .nil) (by kernel_rfl) fun ν5 a w' H => ?_
  replace H := H.toL [(0, .slot true (.bool false)), (1, .slot true (.pointer (some ⟨((ν2 2).n 0), 0, none⟩))), (2, .slot true (.pointer (some ⟨((ν2 3).n 0), 0, none⟩))), (3, .slot true (.pointer (some ⟨((ν5 5).n 0), 0, none⟩))), (4, .slot true (.bool t7.2)), (179, .blk ((ν2 2).n 0) [.int .i64 t3.Lo, .int .i64 t3.Hi] 23), (180, .blk ((ν2 3).n 0) [.int .i64 t4.Lo, .int .i64 t4.Hi] 23), (181, .blk ((ν5 5).n 0) [.int .i64 t7.1.Lo, .int .i64 t7.1.Hi] 23), (999999, gk)] (by kernel_rfl)
  refine k_seq ?_
  replace G := bnd G; obtain ⟨t9, ht9, G⟩ := G
  replace G := bnd G; obtain ⟨t10, ht10, G⟩ := G
  refine k_reg mixed H (.cons [19] (ok_callv 62 (fun ν8 => #[.int .i64 (-9), .int .i64 (-1)]) (.agg #[.int .i64 t9.Lo, .int .i64 t9.Hi]) 19 [] (fun _ w _ => armillarylaw02_v.calls (-9) (-1) t9 w ht9)) <|
      .cons [20] (ok_callv 24 (fun ν8 => #[.agg #[.int .i64 t9.Lo, .int .i64 t9.Hi]]) (.tuple #[.agg #[.int .i64 t10.1.Lo, .int .i64 t10.1.Hi], .bool t10.2]) 20 [] (fun _ w _ => interval_Sqrt.calls k0 t9 t10 w ht10)) <|
      .cons [18] (ok_val (fun ν8 => .tuple #[.agg #[.int .i64 t10.1.Lo, .int .i64 t10.1.Hi], .bool t10.2]) 18) <|
      .cons [21] (ok_val (fun ν8 => .agg #[.int .i64 t10.1.Lo, .int .i64 t10.1.Hi]) 21) <|
      .cons [22] (ok_val (fun ν8 => .bool t10.2) 22) <|
      .cons [5, 182] (ok_new (fun b => .pointer (some ⟨b, 0, none⟩)) (fun ν8 => [.int .i64 0, .int .i64 0]) 23 5 182) <|
      .cons [182] (ok_as (u' := fun ν8 => [(182, .blk ((ν8 5).n 0) [.int .i64 t10.1.Lo, .int .i64 t10.1.Hi] 23)]) (ok_store 182 0 (fun ν8 => ((ν8 5).n 0)) (fun ν8 => [.int .i64 0, .int .i64 0]) (fun ν8 => [.int .i64 t10.1.Lo, .int .i64 t10.1.Hi]) 23) (fun _ => by kernel_rfl)) <|
      .cons [6] (ok_val (fun ν8 => .bool t10.2) 6) <| .nil) (by kernel_rfl) fun ν8 a w' H => ?_
  replace H := H.toL [(0, .slot true (.bool false)), (1, .slot true (.pointer (some ⟨((ν2 2).n 0), 0, none⟩))), (2, .slot true (.pointer (some ⟨((ν2 3).n 0), 0, none⟩))), (3, .slot true (.pointer (some ⟨((ν5 5).n 0), 0, none⟩))), (4, .slot true (.bool t7.2)), (6, .slot true (.bool t10.2)), (179, .blk ((ν2 2).n 0) [.int .i64 t3.Lo, .int .i64 t3.Hi] 23), (180, .blk ((ν2 3).n 0) [.int .i64 t4.Lo, .int .i64 t4.Hi] 23), (181, .blk ((ν5 5).n 0) [.int .i64 t7.1.Lo, .int .i64 t7.1.Hi] 23), (999999, gk)] (by kernel_rfl)
  refine k_seq ?_
  replace G := bnd G; obtain ⟨t12, ht12, G⟩ := G
  replace G := bnd G; obtain ⟨t13, ht13, G⟩ := G
  replace G := bnd G; obtain ⟨t14, ht14, G⟩ := G
  refine k_reg mixed H (.cons [24] (ok_callv 62 (fun ν11 => #[.int .i64 1, .int .i64 5]) (.agg #[.int .i64 t12.Lo, .int .i64 t12.Hi]) 24 [] (fun _ w _ => armillarylaw02_v.calls 1 5 t12 w ht12)) <|
      .cons [25] (ok_callv 62 (fun ν11 => #[.int .i64 4, .int .i64 9]) (.agg #[.int .i64 t13.Lo, .int .i64 t13.Hi]) 25 [] (fun _ w _ => armillarylaw02_v.calls 4 9 t13 w ht13)) <|
      .cons [26] (ok_callv 30 (fun ν11 => #[.agg #[.int .i64 t12.Lo, .int .i64 t12.Hi], .agg #[.int .i64 t13.Lo, .int .i64 t13.Hi]]) (.tuple #[.agg #[.int .i64 t14.1.Lo, .int .i64 t14.1.Hi], .bool t14.2]) 26 [] (fun _ w _ => interval_Intersect.calls t12 t13 t14 w ht14)) <|
      .cons [23] (ok_val (fun ν11 => .tuple #[.agg #[.int .i64 t14.1.Lo, .int .i64 t14.1.Hi], .bool t14.2]) 23) <|
      .cons [27] (ok_val (fun ν11 => .agg #[.int .i64 t14.1.Lo, .int .i64 t14.1.Hi]) 27) <|
      .cons [28] (ok_val (fun ν11 => .bool t14.2) 28) <|
      .cons [7, 183] (ok_new (fun b => .pointer (some ⟨b, 0, none⟩)) (fun ν11 => [.int .i64 0, .int .i64 0]) 23 7 183) <|
      .cons [183] (ok_as (u' := fun ν11 => [(183, .blk ((ν11 6).n 0) [.int .i64 t14.1.Lo, .int .i64 t14.1.Hi] 23)]) (ok_store 183 0 (fun ν11 => ((ν11 6).n 0)) (fun ν11 => [.int .i64 0, .int .i64 0]) (fun ν11 => [.int .i64 t14.1.Lo, .int .i64 t14.1.Hi]) 23) (fun _ => by kernel_rfl)) <|
      .cons [8] (ok_val (fun ν11 => .bool t14.2) 8) <| .nil) (by kernel_rfl) fun ν11 a w' H => ?_
  replace H := H.toL [(0, .slot true (.bool false)), (1, .slot true (.pointer (some ⟨((ν2 2).n 0), 0, none⟩))), (2, .slot true (.pointer (some ⟨((ν2 3).n 0), 0, none⟩))), (3, .slot true (.pointer (some ⟨((ν5 5).n 0), 0, none⟩))), (4, .slot true (.bool t7.2)), (6, .slot true (.bool t10.2)), (7, .slot true (.pointer (some ⟨((ν11 6).n 0), 0, none⟩))), (8, .slot true (.bool t14.2)), (179, .blk ((ν2 2).n 0) [.int .i64 t3.Lo, .int .i64 t3.Hi] 23), (180, .blk ((ν2 3).n 0) [.int .i64 t4.Lo, .int .i64 t4.Hi] 23), (181, .blk ((ν5 5).n 0) [.int .i64 t7.1.Lo, .int .i64 t7.1.Hi] 23), (183, .blk ((ν11 6).n 0) [.int .i64 t14.1.Lo, .int .i64 t14.1.Hi] 23), (999999, gk)] (by kernel_rfl)
  refine k_seq ?_
  replace G := bnd G; obtain ⟨t16, ht16, G⟩ := G
  replace G := bnd G; obtain ⟨t17, ht17, G⟩ := G
  replace G := bnd G; obtain ⟨t18, ht18, G⟩ := G
  refine k_reg mixed H (.cons [30] (ok_callv 62 (fun ν15 => #[.int .i64 1, .int .i64 3]) (.agg #[.int .i64 t16.Lo, .int .i64 t16.Hi]) 30 [] (fun _ w _ => armillarylaw02_v.calls 1 3 t16 w ht16)) <|
      .cons [31] (ok_callv 62 (fun ν15 => #[.int .i64 4, .int .i64 9]) (.agg #[.int .i64 t17.Lo, .int .i64 t17.Hi]) 31 [] (fun _ w _ => armillarylaw02_v.calls 4 9 t17 w ht17)) <|
      .cons [32] (ok_callv 30 (fun ν15 => #[.agg #[.int .i64 t16.Lo, .int .i64 t16.Hi], .agg #[.int .i64 t17.Lo, .int .i64 t17.Hi]]) (.tuple #[.agg #[.int .i64 t18.1.Lo, .int .i64 t18.1.Hi], .bool t18.2]) 32 [] (fun _ w _ => interval_Intersect.calls t16 t17 t18 w ht18)) <|
      .cons [29] (ok_val (fun ν15 => .tuple #[.agg #[.int .i64 t18.1.Lo, .int .i64 t18.1.Hi], .bool t18.2]) 29) <|
      .cons [33] (ok_val (fun ν15 => .agg #[.int .i64 t18.1.Lo, .int .i64 t18.1.Hi]) 33) <|
      .cons [34] (ok_val (fun ν15 => .bool t18.2) 34) <|
      .cons [9, 184] (ok_new (fun b => .pointer (some ⟨b, 0, none⟩)) (fun ν15 => [.int .i64 0, .int .i64 0]) 23 9 184) <|
      .cons [184] (ok_as (u' := fun ν15 => [(184, .blk ((ν15 6).n 0) [.int .i64 t18.1.Lo, .int .i64 t18.1.Hi] 23)]) (ok_store 184 0 (fun ν15 => ((ν15 6).n 0)) (fun ν15 => [.int .i64 0, .int .i64 0]) (fun ν15 => [.int .i64 t18.1.Lo, .int .i64 t18.1.Hi]) 23) (fun _ => by kernel_rfl)) <|
      .cons [10] (ok_val (fun ν15 => .bool t18.2) 10) <| .nil) (by kernel_rfl) fun ν15 a w' H => ?_
  replace H := H.toL [(0, .slot true (.bool false)), (1, .slot true (.pointer (some ⟨((ν2 2).n 0), 0, none⟩))), (2, .slot true (.pointer (some ⟨((ν2 3).n 0), 0, none⟩))), (3, .slot true (.pointer (some ⟨((ν5 5).n 0), 0, none⟩))), (4, .slot true (.bool t7.2)), (6, .slot true (.bool t10.2)), (7, .slot true (.pointer (some ⟨((ν11 6).n 0), 0, none⟩))), (8, .slot true (.bool t14.2)), (10, .slot true (.bool t18.2)), (179, .blk ((ν2 2).n 0) [.int .i64 t3.Lo, .int .i64 t3.Hi] 23), (180, .blk ((ν2 3).n 0) [.int .i64 t4.Lo, .int .i64 t4.Hi] 23), (181, .blk ((ν5 5).n 0) [.int .i64 t7.1.Lo, .int .i64 t7.1.Hi] 23), (183, .blk ((ν11 6).n 0) [.int .i64 t14.1.Lo, .int .i64 t14.1.Hi] 23), (999999, gk)] (by kernel_rfl)
  refine k_seq ?_
  replace G := bnd G; obtain ⟨t20, ht20, G⟩ := G
  replace G := bnd G; obtain ⟨t21, ht21, G⟩ := G
  replace G := bnd G; obtain ⟨t22, ht22, G⟩ := G
  replace G := bnd G; obtain ⟨t23, ht23, G⟩ := G
  replace G := bnd G; obtain ⟨t24, ht24, G⟩ := G
  replace G := bnd G; obtain ⟨t25, ht25, G⟩ := G
  replace G := bnd G; obtain ⟨t26, ht26, G⟩ := G
  replace G := bnd G; obtain ⟨t27, ht27, G⟩ := G
  replace G := bnd G; obtain ⟨t28, ht28, G⟩ := G
  replace G := bnd G; obtain ⟨t29, ht29, G⟩ := G
  replace G := bnd G; obtain ⟨t30, ht30, G⟩ := G
  replace G := bnd G; obtain ⟨t31, ht31, G⟩ := G
  replace G := bnd G; obtain ⟨t32, ht32, G⟩ := G
  replace G := bnd G; obtain ⟨t33, ht33, G⟩ := G
  replace G := bnd G; obtain ⟨t34, ht34, G⟩ := G
  replace G := bnd G; obtain ⟨t35, ht35, G⟩ := G
  replace G := bnd G; obtain ⟨t36, ht36, G⟩ := G
  replace G := bnd G; obtain ⟨t37, ht37, G⟩ := G
  replace G := bnd G; obtain ⟨t38, ht38, G⟩ := G
  replace G := bnd G; obtain ⟨t39, ht39, G⟩ := G
  replace G := bnd G; obtain ⟨t40, ht40, G⟩ := G
  replace G := bnd G; obtain ⟨t41, ht41, G⟩ := G
  replace G := bnd G; obtain ⟨t42, ht42, G⟩ := G
  replace G := bnd G; obtain ⟨t43, ht43, G⟩ := G
  replace G := bnd G; obtain ⟨t44, ht44, G⟩ := G
  replace G := bnd G; obtain ⟨t45, ht45, G⟩ := G
  replace G := bnd G; obtain ⟨t46, ht46, G⟩ := G
  replace G := bnd G; obtain ⟨t47, ht47, G⟩ := G
  replace G := bnd G; obtain ⟨t48, ht48, G⟩ := G
  replace G := bnd G; obtain ⟨t49, ht49, G⟩ := G
  replace G := bnd G; obtain ⟨t50, ht50, G⟩ := G
  replace G := bnd G; obtain ⟨t51, ht51, G⟩ := G
  replace G := bnd G; obtain ⟨t52, ht52, G⟩ := G
  replace G := bnd G; obtain ⟨t53, ht53, G⟩ := G
  replace G := bnd G; obtain ⟨z54, hz54, G⟩ := G
  replace hz54 := Option.some.inj hz54
  replace G := bnd G; obtain ⟨t55, ht55, G⟩ := G
  replace G := bnd G; obtain ⟨t56, ht56, G⟩ := G
  replace G := bnd G; obtain ⟨t57, ht57, G⟩ := G
  replace G := bnd G; obtain ⟨t58, ht58, G⟩ := G
  replace G := bnd G; obtain ⟨t59, ht59, G⟩ := G
  replace G := bnd G; obtain ⟨t60, ht60, G⟩ := G
  replace G := bnd G; obtain ⟨t61, ht61, G⟩ := G
  replace G := bnd G; obtain ⟨t62, ht62, G⟩ := G
  replace G := bnd G; obtain ⟨t63, ht63, G⟩ := G
  replace G := bnd G; obtain ⟨t64, ht64, G⟩ := G
  replace G := bnd G; obtain ⟨t65, ht65, G⟩ := G
  replace G := bnd G; obtain ⟨t66, ht66, G⟩ := G
  replace G := bnd G; obtain ⟨t67, ht67, G⟩ := G
  replace G := bnd G; obtain ⟨t68, ht68, G⟩ := G
  replace G := bnd G; obtain ⟨z69, hz69, G⟩ := G
  replace hz69 := Option.some.inj hz69
  replace G := bnd G; obtain ⟨t70, ht70, G⟩ := G
  replace G := bnd G; obtain ⟨t71, ht71, G⟩ := G
  replace G := bnd G; obtain ⟨t72, ht72, G⟩ := G
  replace G := bnd G; obtain ⟨t73, ht73, G⟩ := G
  replace G := bnd G; obtain ⟨t74, ht74, G⟩ := G
  replace G := bnd G; obtain ⟨t75, ht75, G⟩ := G
  replace G := bnd G; obtain ⟨t76, ht76, G⟩ := G
  replace G := bnd G; obtain ⟨t77, ht77, G⟩ := G
  replace G := bnd G; obtain ⟨t78, ht78, G⟩ := G
  replace G := bnd G; obtain ⟨t79, ht79, G⟩ := G
  replace G := bnd G; obtain ⟨t80, ht80, G⟩ := G
  replace G := bnd G; obtain ⟨z81, hz81, G⟩ := G
  replace hz81 := Option.some.inj hz81
  replace G := bnd G; obtain ⟨t82, ht82, G⟩ := G
  replace G := bnd G; obtain ⟨t83, ht83, G⟩ := G
  replace G := bnd G; obtain ⟨t84, ht84, G⟩ := G
  replace G := bnd G; obtain ⟨t85, ht85, G⟩ := G
  replace G := bnd G; obtain ⟨t86, ht86, G⟩ := G
  replace G := bnd G; obtain ⟨t87, ht87, G⟩ := G
  replace G := bnd G; obtain ⟨t88, ht88, G⟩ := G
  refine k_reg mixed H (.cons [35] (ok_callv 62 (fun ν19 => #[.int .i64 32768, .int .i64 65536]) (.agg #[.int .i64 t20.Lo, .int .i64 t20.Hi]) 35 [] (fun _ w _ => armillarylaw02_v.calls 32768 65536 t20 w ht20)) <|
      .cons [36] (ok_callv 62 (fun ν19 => #[.int .i64 (-65536), .int .i64 196608]) (.agg #[.int .i64 t21.Lo, .int .i64 t21.Hi]) 36 [] (fun _ w _ => armillarylaw02_v.calls (-65536) 196608 t21 w ht21)) <|
      .cons [37] (ok_callvG 999999 gk 15 (fun ν19 => #[.agg #[.int .i64 t20.Lo, .int .i64 t20.Hi], .agg #[.int .i64 t21.Lo, .int .i64 t21.Hi]]) (.agg #[.int .i64 t22.Lo, .int .i64 t22.Hi]) 37 (fun _ w hg => interval_Mul.calls t20 t21 t22 w (glob_of hg) ht22)) <|
      .cons [38] (ok_callv 62 (fun ν19 => #[.int .i64 (-65536), .int .i64 196608]) (.agg #[.int .i64 t23.Lo, .int .i64 t23.Hi]) 38 [] (fun _ w _ => armillarylaw02_v.calls (-65536) 196608 t23 w ht23)) <|
      .cons [39] (ok_callv 31 (fun ν19 => #[.agg #[.int .i64 t22.Lo, .int .i64 t22.Hi], .agg #[.int .i64 t23.Lo, .int .i64 t23.Hi]]) (.bool t24) 39 [] (fun _ w _ => armillaryref02_Same.calls t22 t23 t24 w ht24)) <|
      .cons [40] (ok_val (fun ν19 => .bool t24) 40) <|
      .cons [41] (ok_ldg (fun ν19 => .agg #[.int .i64 t4.Lo, .int .i64 t4.Hi]) (fun ν19 => (t24 == true)) [true] 41 180 0 2 (fun ν19 => ((ν2 3).n 0)) (fun ν19 => [.int .i64 t4.Lo, .int .i64 t4.Hi]) 23) <|
      .cons [42] (ok_call 62 (fun ν19 => #[.int .i64 196608, .int .i64 196608]) (.agg #[.int .i64 t25.Lo, .int .i64 t25.Hi]) (fun ν19 => (t24 == true)) [true, true, true] 42 [] (fun _ w hg _ => armillarylaw02_v.calls 196608 196608 t25 w (ifp ht25 hg))) <|
      .cons [43] (ok_callG 999999 gk 16 (fun ν19 => #[.agg #[.int .i64 t4.Lo, .int .i64 t4.Hi], .agg #[.int .i64 t25.Lo, .int .i64 t25.Hi]]) (.agg #[.int .i64 t26.Lo, .int .i64 t26.Hi]) (fun ν19 => (t24 == true)) [true, false, false] 43 (fun _ w hG hg => interval_Div.calls t4 t25 t26 w (glob_of hG) (ifp ht26 hg))) <|
      .cons [44] (ok_call 62 (fun ν19 => #[.int .i64 21845, .int .i64 21846]) (.agg #[.int .i64 t27.Lo, .int .i64 t27.Hi]) (fun ν19 => (t24 == true)) [true, true, true] 44 [] (fun _ w hg _ => armillarylaw02_v.calls 21845 21846 t27 w (ifp ht27 hg))) <|
      .cons [45] (ok_call 31 (fun ν19 => #[.agg #[.int .i64 t26.Lo, .int .i64 t26.Hi], .agg #[.int .i64 t27.Lo, .int .i64 t27.Hi]]) (.bool t28) (fun ν19 => (t24 == true)) [true, false, false] 45 [] (fun _ w hg _ => armillaryref02_Same.calls t26 t27 t28 w (ifp ht28 hg))) <|
      .cons [46] (ok_and 40 45 (fun ν19 => true) (fun ν19 => true) (fun ν19 => t24) (fun ν19 => t28) 46) <|
      .cons [47] (ok_val (fun ν19 => .bool (t24 && t28)) 47) <|
      .cons [48] (ok_call 62 (fun ν19 => #[.int .i64 (-32768), .int .i64 16384]) (.agg #[.int .i64 t29.Lo, .int .i64 t29.Hi]) (fun ν19 => ((t24 && t28) == true)) [true, true, true] 48 [] (fun _ w hg _ => armillarylaw02_v.calls (-32768) 16384 t29 w (ifp ht29 hg))) <|
      .cons [49] (ok_call 22 (fun ν19 => #[.agg #[.int .i64 t29.Lo, .int .i64 t29.Hi]]) (.agg #[.int .i64 t30.Lo, .int .i64 t30.Hi]) (fun ν19 => ((t24 && t28) == true)) [true, false] 49 [] (fun _ w hg _ => interval_Square.calls t29 t30 w (ifp ht30 hg))) <|
      .cons [50] (ok_call 62 (fun ν19 => #[.int .i64 0, .int .i64 16384]) (.agg #[.int .i64 t31.Lo, .int .i64 t31.Hi]) (fun ν19 => ((t24 && t28) == true)) [true, true, true] 50 [] (fun _ w hg _ => armillarylaw02_v.calls 0 16384 t31 w (ifp ht31 hg))) <|
      .cons [51] (ok_call 31 (fun ν19 => #[.agg #[.int .i64 t30.Lo, .int .i64 t30.Hi], .agg #[.int .i64 t31.Lo, .int .i64 t31.Hi]]) (.bool t32) (fun ν19 => ((t24 && t28) == true)) [true, false, false] 51 [] (fun _ w hg _ => armillaryref02_Same.calls t30 t31 t32 w (ifp ht32 hg))) <|
      .cons [52] (ok_and 47 51 (fun ν19 => true) (fun ν19 => true) (fun ν19 => (t24 && t28)) (fun ν19 => t32) 52) <|
      .cons [53] (ok_val (fun ν19 => .bool ((t24 && t28) && t32)) 53) <|
      .cons [54] (ok_ldg (fun ν19 => .agg #[.int .i64 t7.1.Lo, .int .i64 t7.1.Hi]) (fun ν19 => (((t24 && t28) && t32) == true)) [true] 54 181 0 2 (fun ν19 => ((ν5 5).n 0)) (fun ν19 => [.int .i64 t7.1.Lo, .int .i64 t7.1.Hi]) 23) <|
      .cons [55] (ok_call 62 (fun ν19 => #[.int .i64 0, .int .i64 92682]) (.agg #[.int .i64 t33.Lo, .int .i64 t33.Hi]) (fun ν19 => (((t24 && t28) && t32) == true)) [true, true, true] 55 [] (fun _ w hg _ => armillarylaw02_v.calls 0 92682 t33 w (ifp ht33 hg))) <|
      .cons [56] (ok_call 31 (fun ν19 => #[.agg #[.int .i64 t7.1.Lo, .int .i64 t7.1.Hi], .agg #[.int .i64 t33.Lo, .int .i64 t33.Hi]]) (.bool t34) (fun ν19 => (((t24 && t28) && t32) == true)) [true, false, false] 56 [] (fun _ w hg _ => armillaryref02_Same.calls (⟨t7.1.Lo, t7.1.Hi⟩ : TInterval) t33 t34 w (ifp ht34 hg))) <|
      .cons [57] (ok_and 53 56 (fun ν19 => true) (fun ν19 => true) (fun ν19 => ((t24 && t28) && t32)) (fun ν19 => t34) 57) <|
      .cons [58] (ok_val (fun ν19 => .bool (((t24 && t28) && t32) && t34)) 58) <|
      .cons [59] (ok_valg (fun ν19 => .bool t7.2) (fun ν19 => ((((t24 && t28) && t32) && t34) == true)) [true] 59) <|
      .cons [60] (ok_and 58 59 (fun ν19 => true) (fun ν19 => true) (fun ν19 => (((t24 && t28) && t32) && t34)) (fun ν19 => t7.2) 60) <|
      .cons [61] (ok_val (fun ν19 => .bool ((((t24 && t28) && t32) && t34) && t7.2)) 61) <|
      .cons [62] (ok_valg (fun ν19 => .bool t10.2) (fun ν19 => (((((t24 && t28) && t32) && t34) && t7.2) == true)) [true] 62) <|
      .cons [63] (ok_valg (fun ν19 => .bool (!t10.2)) (fun ν19 => (((((t24 && t28) && t32) && t34) && t7.2) == true)) [false] 63) <|
      .cons [64] (ok_and 61 63 (fun ν19 => true) (fun ν19 => true) (fun ν19 => ((((t24 && t28) && t32) && t34) && t7.2)) (fun ν19 => (!t10.2)) 64) <|
      .cons [65] (ok_val (fun ν19 => .bool (((((t24 && t28) && t32) && t34) && t7.2) && (!t10.2))) 65) <|
      .cons [66] (ok_call 62 (fun ν19 => #[.int .i64 65536, .int .i64 131072]) (.agg #[.int .i64 t35.Lo, .int .i64 t35.Hi]) (fun ν19 => ((((((t24 && t28) && t32) && t34) && t7.2) && (!t10.2)) == true)) [true, true, true] 66 [] (fun _ w hg _ => armillarylaw02_v.calls 65536 131072 t35 w (ifp ht35 hg))) <|
      .cons [67] (ok_call 23 (fun ν19 => #[.agg #[.int .i64 t35.Lo, .int .i64 t35.Hi], .int .i64 (-1), .int .i64 3]) (.agg #[.int .i64 t36.Lo, .int .i64 t36.Hi]) (fun ν19 => ((((((t24 && t28) && t32) && t34) && t7.2) && (!t10.2)) == true)) [true, false, true, true] 67 [] (fun _ w hg _ => interval_MulRatio.calls t35 (-1) 3 t36 w (ifp ht36 hg))) <|
      .cons [68] (ok_call 62 (fun ν19 => #[.int .i64 (-43691), .int .i64 (-21845)]) (.agg #[.int .i64 t37.Lo, .int .i64 t37.Hi]) (fun ν19 => ((((((t24 && t28) && t32) && t34) && t7.2) && (!t10.2)) == true)) [true, true, true] 68 [] (fun _ w hg _ => armillarylaw02_v.calls (-43691) (-21845) t37 w (ifp ht37 hg))) <|
      .cons [69] (ok_call 31 (fun ν19 => #[.agg #[.int .i64 t36.Lo, .int .i64 t36.Hi], .agg #[.int .i64 t37.Lo, .int .i64 t37.Hi]]) (.bool t38) (fun ν19 => ((((((t24 && t28) && t32) && t34) && t7.2) && (!t10.2)) == true)) [true, false, false] 69 [] (fun _ w hg _ => armillaryref02_Same.calls t36 t37 t38 w (ifp ht38 hg))) <|
      .cons [70] (ok_and 65 69 (fun ν19 => true) (fun ν19 => true) (fun ν19 => (((((t24 && t28) && t32) && t34) && t7.2) && (!t10.2))) (fun ν19 => t38) 70) <|
      .cons [71] (ok_val (fun ν19 => .bool ((((((t24 && t28) && t32) && t34) && t7.2) && (!t10.2)) && t38)) 71) <|
      .cons [72] (ok_ldg (fun ν19 => .agg #[.int .i64 t4.Lo, .int .i64 t4.Hi]) (fun ν19 => (((((((t24 && t28) && t32) && t34) && t7.2) && (!t10.2)) && t38) == true)) [true] 72 180 0 2 (fun ν19 => ((ν2 3).n 0)) (fun ν19 => [.int .i64 t4.Lo, .int .i64 t4.Hi]) 23) <|
      .cons [73] (ok_call 62 (fun ν19 => #[.int .i64 (-1), .int .i64 1]) (.agg #[.int .i64 t39.Lo, .int .i64 t39.Hi]) (fun ν19 => (((((((t24 && t28) && t32) && t34) && t7.2) && (!t10.2)) && t38) == true)) [true, true, true] 73 [] (fun _ w hg _ => armillarylaw02_v.calls (-1) 1 t39 w (ifp ht39 hg))) <|
      .cons [74] (ok_callG 999999 gk 16 (fun ν19 => #[.agg #[.int .i64 t4.Lo, .int .i64 t4.Hi], .agg #[.int .i64 t39.Lo, .int .i64 t39.Hi]]) (.agg #[.int .i64 t40.Lo, .int .i64 t40.Hi]) (fun ν19 => (((((((t24 && t28) && t32) && t34) && t7.2) && (!t10.2)) && t38) == true)) [true, false, false] 74 (fun _ w hG hg => interval_Div.calls t4 t39 t40 w (glob_of hG) (ifp ht40 hg))) <|
      .cons [75] (ok_ldg (fun ν19 => .agg #[.int .i64 t3.Lo, .int .i64 t3.Hi]) (fun ν19 => (((((((t24 && t28) && t32) && t34) && t7.2) && (!t10.2)) && t38) == true)) [true] 75 179 0 2 (fun ν19 => ((ν2 2).n 0)) (fun ν19 => [.int .i64 t3.Lo, .int .i64 t3.Hi]) 23) <|
      .cons [76] (ok_call 31 (fun ν19 => #[.agg #[.int .i64 t40.Lo, .int .i64 t40.Hi], .agg #[.int .i64 t3.Lo, .int .i64 t3.Hi]]) (.bool t41) (fun ν19 => (((((((t24 && t28) && t32) && t34) && t7.2) && (!t10.2)) && t38) == true)) [true, false, false] 76 [] (fun _ w hg _ => armillaryref02_Same.calls t40 t3 t41 w (ifp ht41 hg))) <|
      .cons [77] (ok_and 71 76 (fun ν19 => true) (fun ν19 => true) (fun ν19 => ((((((t24 && t28) && t32) && t34) && t7.2) && (!t10.2)) && t38)) (fun ν19 => t41) 77) <|
      .cons [78] (ok_val (fun ν19 => .bool (((((((t24 && t28) && t32) && t34) && t7.2) && (!t10.2)) && t38) && t41)) 78) <|
      .cons [79] (ok_ldg (fun ν19 => .agg #[.int .i64 t3.Lo, .int .i64 t3.Hi]) (fun ν19 => ((((((((t24 && t28) && t32) && t34) && t7.2) && (!t10.2)) && t38) && t41) == true)) [true] 79 179 0 2 (fun ν19 => ((ν2 2).n 0)) (fun ν19 => [.int .i64 t3.Lo, .int .i64 t3.Hi]) 23) <|
      .cons [80] (ok_call 62 (fun ν19 => #[.int .i64 0, .int .i64 0]) (.agg #[.int .i64 t42.Lo, .int .i64 t42.Hi]) (fun ν19 => ((((((((t24 && t28) && t32) && t34) && t7.2) && (!t10.2)) && t38) && t41) == true)) [true, true, true] 80 [] (fun _ w hg _ => armillarylaw02_v.calls 0 0 t42 w (ifp ht42 hg))) <|
      .cons [81] (ok_callG 999999 gk 15 (fun ν19 => #[.agg #[.int .i64 t3.Lo, .int .i64 t3.Hi], .agg #[.int .i64 t42.Lo, .int .i64 t42.Hi]]) (.agg #[.int .i64 t43.Lo, .int .i64 t43.Hi]) (fun ν19 => ((((((((t24 && t28) && t32) && t34) && t7.2) && (!t10.2)) && t38) && t41) == true)) [true, false, false] 81 (fun _ w hG hg => interval_Mul.calls t3 t42 t43 w (glob_of hG) (ifp ht43 hg))) <|
      .cons [82] (ok_ldg (fun ν19 => .agg #[.int .i64 t3.Lo, .int .i64 t3.Hi]) (fun ν19 => ((((((((t24 && t28) && t32) && t34) && t7.2) && (!t10.2)) && t38) && t41) == true)) [true] 82 179 0 2 (fun ν19 => ((ν2 2).n 0)) (fun ν19 => [.int .i64 t3.Lo, .int .i64 t3.Hi]) 23) <|
      .cons [83] (ok_call 31 (fun ν19 => #[.agg #[.int .i64 t43.Lo, .int .i64 t43.Hi], .agg #[.int .i64 t3.Lo, .int .i64 t3.Hi]]) (.bool t44) (fun ν19 => ((((((((t24 && t28) && t32) && t34) && t7.2) && (!t10.2)) && t38) && t41) == true)) [true, false, false] 83 [] (fun _ w hg _ => armillaryref02_Same.calls t43 t3 t44 w (ifp ht44 hg))) <|
      .cons [84] (ok_and 78 83 (fun ν19 => true) (fun ν19 => true) (fun ν19 => (((((((t24 && t28) && t32) && t34) && t7.2) && (!t10.2)) && t38) && t41)) (fun ν19 => t44) 84) <|
      .cons [85] (ok_val (fun ν19 => .bool ((((((((t24 && t28) && t32) && t34) && t7.2) && (!t10.2)) && t38) && t41) && t44)) 85) <|
      .cons [86] (ok_call 62 (fun ν19 => #[.int .i64 1, .int .i64 2]) (.agg #[.int .i64 t45.Lo, .int .i64 t45.Hi]) (fun ν19 => (((((((((t24 && t28) && t32) && t34) && t7.2) && (!t10.2)) && t38) && t41) && t44) == true)) [true, true, true] 86 [] (fun _ w hg _ => armillarylaw02_v.calls 1 2 t45 w (ifp ht45 hg))) <|
      .cons [87] (ok_call 62 (fun ν19 => #[.int .i64 1, .int .i64 2]) (.agg #[.int .i64 t46.Lo, .int .i64 t46.Hi]) (fun ν19 => (((((((((t24 && t28) && t32) && t34) && t7.2) && (!t10.2)) && t38) && t41) && t44) == true)) [true, true, true] 87 [] (fun _ w hg _ => armillarylaw02_v.calls 1 2 t46 w (ifp ht46 hg))) <|
      .cons [88] (ok_call 20 (fun ν19 => #[.agg #[.int .i64 t45.Lo, .int .i64 t45.Hi], .agg #[.int .i64 t46.Lo, .int .i64 t46.Hi]]) (.agg #[.int .i64 t47.Lo, .int .i64 t47.Hi]) (fun ν19 => (((((((((t24 && t28) && t32) && t34) && t7.2) && (!t10.2)) && t38) && t41) && t44) == true)) [true, false, false] 88 [] (fun _ w hg _ => interval_Sub.calls t45 t46 t47 w (ifp ht47 hg))) <|
      .cons [89] (ok_call 62 (fun ν19 => #[.int .i64 (-1), .int .i64 1]) (.agg #[.int .i64 t48.Lo, .int .i64 t48.Hi]) (fun ν19 => (((((((((t24 && t28) && t32) && t34) && t7.2) && (!t10.2)) && t38) && t41) && t44) == true)) [true, true, true] 89 [] (fun _ w hg _ => armillarylaw02_v.calls (-1) 1 t48 w (ifp ht48 hg))) <|
      .cons [90] (ok_call 31 (fun ν19 => #[.agg #[.int .i64 t47.Lo, .int .i64 t47.Hi], .agg #[.int .i64 t48.Lo, .int .i64 t48.Hi]]) (.bool t49) (fun ν19 => (((((((((t24 && t28) && t32) && t34) && t7.2) && (!t10.2)) && t38) && t41) && t44) == true)) [true, false, false] 90 [] (fun _ w hg _ => armillaryref02_Same.calls t47 t48 t49 w (ifp ht49 hg))) <|
      .cons [91] (ok_and 85 90 (fun ν19 => true) (fun ν19 => true) (fun ν19 => ((((((((t24 && t28) && t32) && t34) && t7.2) && (!t10.2)) && t38) && t41) && t44)) (fun ν19 => t49) 91) <|
      .cons [92] (ok_val (fun ν19 => .bool (((((((((t24 && t28) && t32) && t34) && t7.2) && (!t10.2)) && t38) && t41) && t44) && t49)) 92) <|
      .cons [93] (ok_call 62 (fun ν19 => #[.int .i64 2147483647, .int .i64 2147483647]) (.agg #[.int .i64 t50.Lo, .int .i64 t50.Hi]) (fun ν19 => ((((((((((t24 && t28) && t32) && t34) && t7.2) && (!t10.2)) && t38) && t41) && t44) && t49) == true)) [true, true, true] 93 [] (fun _ w hg _ => armillarylaw02_v.calls 2147483647 2147483647 t50 w (ifp ht50 hg))) <|
      .cons [94] (ok_call 62 (fun ν19 => #[.int .i64 1, .int .i64 1]) (.agg #[.int .i64 t51.Lo, .int .i64 t51.Hi]) (fun ν19 => ((((((((((t24 && t28) && t32) && t34) && t7.2) && (!t10.2)) && t38) && t41) && t44) && t49) == true)) [true, true, true] 94 [] (fun _ w hg _ => armillarylaw02_v.calls 1 1 t51 w (ifp ht51 hg))) <|
      .cons [95] (ok_call 14 (fun ν19 => #[.agg #[.int .i64 t50.Lo, .int .i64 t50.Hi], .agg #[.int .i64 t51.Lo, .int .i64 t51.Hi]]) (.agg #[.int .i64 t52.Lo, .int .i64 t52.Hi]) (fun ν19 => ((((((((((t24 && t28) && t32) && t34) && t7.2) && (!t10.2)) && t38) && t41) && t44) && t49) == true)) [true, false, false] 95 [] (fun _ w hg _ => interval_Add.calls t50 t51 t52 w (ifp ht52 hg))) <|
      .cons [96] (ok_ldg (fun ν19 => .agg #[.int .i64 t3.Lo, .int .i64 t3.Hi]) (fun ν19 => ((((((((((t24 && t28) && t32) && t34) && t7.2) && (!t10.2)) && t38) && t41) && t44) && t49) == true)) [true] 96 179 0 2 (fun ν19 => ((ν2 2).n 0)) (fun ν19 => [.int .i64 t3.Lo, .int .i64 t3.Hi]) 23) <|
      .cons [97] (ok_call 31 (fun ν19 => #[.agg #[.int .i64 t52.Lo, .int .i64 t52.Hi], .agg #[.int .i64 t3.Lo, .int .i64 t3.Hi]]) (.bool t53) (fun ν19 => ((((((((((t24 && t28) && t32) && t34) && t7.2) && (!t10.2)) && t38) && t41) && t44) && t49) == true)) [true, false, false] 97 [] (fun _ w hg _ => armillaryref02_Same.calls t52 t3 t53 w (ifp ht53 hg))) <|
      .cons [98] (ok_and 92 97 (fun ν19 => true) (fun ν19 => true) (fun ν19 => (((((((((t24 && t28) && t32) && t34) && t7.2) && (!t10.2)) && t38) && t41) && t44) && t49)) (fun ν19 => t53) 98) <|
      .cons [99] (ok_as (u' := fun ν19 => [(99, .slot true (.bool z54))]) (ok_val (fun ν19 => .bool ((((((((((t24 && t28) && t32) && t34) && t7.2) && (!t10.2)) && t38) && t41) && t44) && t49) && t53)) 99) (fun _ => by rw [← hz54])) <|
      .cons [100] (ok_ldg (fun ν19 => .agg #[.int .i64 t14.1.Lo, .int .i64 t14.1.Hi]) (fun ν19 => (z54 == true)) [true] 100 183 0 2 (fun ν19 => ((ν11 6).n 0)) (fun ν19 => [.int .i64 t14.1.Lo, .int .i64 t14.1.Hi]) 23) <|
      .cons [101] (ok_call 62 (fun ν19 => #[.int .i64 4, .int .i64 5]) (.agg #[.int .i64 t55.Lo, .int .i64 t55.Hi]) (fun ν19 => (z54 == true)) [true, true, true] 101 [] (fun _ w hg _ => armillarylaw02_v.calls 4 5 t55 w (ifp ht55 hg))) <|
      .cons [102] (ok_call 31 (fun ν19 => #[.agg #[.int .i64 t14.1.Lo, .int .i64 t14.1.Hi], .agg #[.int .i64 t55.Lo, .int .i64 t55.Hi]]) (.bool t56) (fun ν19 => (z54 == true)) [true, false, false] 102 [] (fun _ w hg _ => armillaryref02_Same.calls (⟨t14.1.Lo, t14.1.Hi⟩ : TInterval) t55 t56 w (ifp ht56 hg))) <|
      .cons [103] (ok_and 99 102 (fun ν19 => true) (fun ν19 => true) (fun ν19 => z54) (fun ν19 => t56) 103) <|
      .cons [104] (ok_val (fun ν19 => .bool (z54 && t56)) 104) <|
      .cons [105] (ok_valg (fun ν19 => .bool t14.2) (fun ν19 => ((z54 && t56) == true)) [true] 105) <|
      .cons [106] (ok_and 104 105 (fun ν19 => true) (fun ν19 => true) (fun ν19 => (z54 && t56)) (fun ν19 => t14.2) 106) <|
      .cons [107] (ok_val (fun ν19 => .bool ((z54 && t56) && t14.2)) 107) <|
      .cons [108] (ok_valg (fun ν19 => .bool t18.2) (fun ν19 => (((z54 && t56) && t14.2) == true)) [true] 108) <|
      .cons [109] (ok_valg (fun ν19 => .bool (!t18.2)) (fun ν19 => (((z54 && t56) && t14.2) == true)) [false] 109) <|
      .cons [110] (ok_and 107 109 (fun ν19 => true) (fun ν19 => true) (fun ν19 => ((z54 && t56) && t14.2)) (fun ν19 => (!t18.2)) 110) <|
      .cons [111] (ok_val (fun ν19 => .bool (((z54 && t56) && t14.2) && (!t18.2))) 111) <|
      .cons [112] (ok_call 62 (fun ν19 => #[.int .i64 1, .int .i64 2]) (.agg #[.int .i64 t57.Lo, .int .i64 t57.Hi]) (fun ν19 => ((((z54 && t56) && t14.2) && (!t18.2)) == true)) [true, true, true] 112 [] (fun _ w hg _ => armillarylaw02_v.calls 1 2 t57 w (ifp ht57 hg))) <|
      .cons [113] (ok_call 62 (fun ν19 => #[.int .i64 5, .int .i64 6]) (.agg #[.int .i64 t58.Lo, .int .i64 t58.Hi]) (fun ν19 => ((((z54 && t56) && t14.2) && (!t18.2)) == true)) [true, true, true] 113 [] (fun _ w hg _ => armillarylaw02_v.calls 5 6 t58 w (ifp ht58 hg))) <|
      .cons [114] (ok_call 29 (fun ν19 => #[.agg #[.int .i64 t57.Lo, .int .i64 t57.Hi], .agg #[.int .i64 t58.Lo, .int .i64 t58.Hi]]) (.agg #[.int .i64 t59.Lo, .int .i64 t59.Hi]) (fun ν19 => ((((z54 && t56) && t14.2) && (!t18.2)) == true)) [true, false, false] 114 [] (fun _ w hg _ => interval_Hull.calls t57 t58 t59 w (ifp ht59 hg))) <|
      .cons [115] (ok_call 62 (fun ν19 => #[.int .i64 1, .int .i64 6]) (.agg #[.int .i64 t60.Lo, .int .i64 t60.Hi]) (fun ν19 => ((((z54 && t56) && t14.2) && (!t18.2)) == true)) [true, true, true] 115 [] (fun _ w hg _ => armillarylaw02_v.calls 1 6 t60 w (ifp ht60 hg))) <|
      .cons [116] (ok_call 31 (fun ν19 => #[.agg #[.int .i64 t59.Lo, .int .i64 t59.Hi], .agg #[.int .i64 t60.Lo, .int .i64 t60.Hi]]) (.bool t61) (fun ν19 => ((((z54 && t56) && t14.2) && (!t18.2)) == true)) [true, false, false] 116 [] (fun _ w hg _ => armillaryref02_Same.calls t59 t60 t61 w (ifp ht61 hg))) <|
      .cons [117] (ok_and 111 116 (fun ν19 => true) (fun ν19 => true) (fun ν19 => (((z54 && t56) && t14.2) && (!t18.2))) (fun ν19 => t61) 117) <|
      .cons [118] (ok_val (fun ν19 => .bool ((((z54 && t56) && t14.2) && (!t18.2)) && t61)) 118) <|
      .cons [119] (ok_call 62 (fun ν19 => #[.int .i64 1, .int .i64 2]) (.agg #[.int .i64 t62.Lo, .int .i64 t62.Hi]) (fun ν19 => (((((z54 && t56) && t14.2) && (!t18.2)) && t61) == true)) [true, true, true] 119 [] (fun _ w hg _ => armillarylaw02_v.calls 1 2 t62 w (ifp ht62 hg))) <|
      .cons [120] (ok_ldg (fun ν19 => .agg #[.int .i64 t3.Lo, .int .i64 t3.Hi]) (fun ν19 => (((((z54 && t56) && t14.2) && (!t18.2)) && t61) == true)) [true] 120 179 0 2 (fun ν19 => ((ν2 2).n 0)) (fun ν19 => [.int .i64 t3.Lo, .int .i64 t3.Hi]) 23) <|
      .cons [121] (ok_call 28 (fun ν19 => #[.agg #[.int .i64 t62.Lo, .int .i64 t62.Hi], .agg #[.int .i64 t3.Lo, .int .i64 t3.Hi]]) (.bool t63) (fun ν19 => (((((z54 && t56) && t14.2) && (!t18.2)) && t61) == true)) [true, false, false] 121 [] (fun _ w hg _ => interval_Subset.calls t62 t3 t63 w (ifp ht63 hg))) <|
      .cons [122] (ok_and 118 121 (fun ν19 => true) (fun ν19 => true) (fun ν19 => ((((z54 && t56) && t14.2) && (!t18.2)) && t61)) (fun ν19 => t63) 122) <|
      .cons [123] (ok_val (fun ν19 => .bool (((((z54 && t56) && t14.2) && (!t18.2)) && t61) && t63)) 123) <|
      .cons [124] (ok_ldg (fun ν19 => .agg #[.int .i64 t3.Lo, .int .i64 t3.Hi]) (fun ν19 => ((((((z54 && t56) && t14.2) && (!t18.2)) && t61) && t63) == true)) [true] 124 179 0 2 (fun ν19 => ((ν2 2).n 0)) (fun ν19 => [.int .i64 t3.Lo, .int .i64 t3.Hi]) 23) <|
      .cons [125] (ok_call 62 (fun ν19 => #[.int .i64 1, .int .i64 2]) (.agg #[.int .i64 t64.Lo, .int .i64 t64.Hi]) (fun ν19 => ((((((z54 && t56) && t14.2) && (!t18.2)) && t61) && t63) == true)) [true, true, true] 125 [] (fun _ w hg _ => armillarylaw02_v.calls 1 2 t64 w (ifp ht64 hg))) <|
      .cons [126] (ok_call 28 (fun ν19 => #[.agg #[.int .i64 t3.Lo, .int .i64 t3.Hi], .agg #[.int .i64 t64.Lo, .int .i64 t64.Hi]]) (.bool t65) (fun ν19 => ((((((z54 && t56) && t14.2) && (!t18.2)) && t61) && t63) == true)) [true, false, false] 126 [] (fun _ w hg _ => interval_Subset.calls t3 t64 t65 w (ifp ht65 hg))) <|
      .cons [127] (ok_valg (fun ν19 => .bool (!t65)) (fun ν19 => ((((((z54 && t56) && t14.2) && (!t18.2)) && t61) && t63) == true)) [false] 127) <|
      .cons [128] (ok_and 123 127 (fun ν19 => true) (fun ν19 => true) (fun ν19 => (((((z54 && t56) && t14.2) && (!t18.2)) && t61) && t63)) (fun ν19 => (!t65)) 128) <|
      .cons [129] (ok_val (fun ν19 => .bool ((((((z54 && t56) && t14.2) && (!t18.2)) && t61) && t63) && (!t65))) 129) <|
      .cons [130] (ok_ldg (fun ν19 => .agg #[.int .i64 t3.Lo, .int .i64 t3.Hi]) (fun ν19 => (((((((z54 && t56) && t14.2) && (!t18.2)) && t61) && t63) && (!t65)) == true)) [true] 130 179 0 2 (fun ν19 => ((ν2 2).n 0)) (fun ν19 => [.int .i64 t3.Lo, .int .i64 t3.Hi]) 23) <|
      .cons [131] (ok_call 33 (fun ν19 => #[.agg #[.int .i64 t3.Lo, .int .i64 t3.Hi], .int .i64 1099511627776]) (.bool t66) (fun ν19 => (((((((z54 && t56) && t14.2) && (!t18.2)) && t61) && t63) && (!t65)) == true)) [true, false, true] 131 [] (fun _ w hg _ => interval_Contains.calls t3 1099511627776 t66 w (ifp ht66 hg))) <|
      .cons [132] (ok_and 129 131 (fun ν19 => true) (fun ν19 => true) (fun ν19 => ((((((z54 && t56) && t14.2) && (!t18.2)) && t61) && t63) && (!t65))) (fun ν19 => t66) 132) <|
      .cons [133] (ok_val (fun ν19 => .bool (((((((z54 && t56) && t14.2) && (!t18.2)) && t61) && t63) && (!t65)) && t66)) 133) <|
      .cons [134] (ok_call 62 (fun ν19 => #[.int .i64 (-3), .int .i64 0]) (.agg #[.int .i64 t67.Lo, .int .i64 t67.Hi]) (fun ν19 => ((((((((z54 && t56) && t14.2) && (!t18.2)) && t61) && t63) && (!t65)) && t66) == true)) [true, true, true] 134 [] (fun _ w hg _ => armillarylaw02_v.calls (-3) 0 t67 w (ifp ht67 hg))) <|
      .cons [135] (ok_call 34 (fun ν19 => #[.agg #[.int .i64 t67.Lo, .int .i64 t67.Hi]]) (.int .i64 t68) (fun ν19 => ((((((((z54 && t56) && t14.2) && (!t18.2)) && t61) && t63) && (!t65)) && t66) == true)) [true, false] 135 [] (fun _ w hg _ => interval_Mid.calls t67 t68 w (ifp ht68 hg))) <|
      .cons [136] (ok_valg (fun ν19 => .bool (t68 == (-2))) (fun ν19 => ((((((((z54 && t56) && t14.2) && (!t18.2)) && t61) && t63) && (!t65)) && t66) == true)) [false, true] 136) <|
      .cons [137] (ok_and 133 136 (fun ν19 => true) (fun ν19 => true) (fun ν19 => (((((((z54 && t56) && t14.2) && (!t18.2)) && t61) && t63) && (!t65)) && t66)) (fun ν19 => (t68 == (-2))) 137) <|
      .cons [138] (ok_as (u' := fun ν19 => [(138, .slot true (.bool z69))]) (ok_val (fun ν19 => .bool ((((((((z54 && t56) && t14.2) && (!t18.2)) && t61) && t63) && (!t65)) && t66) && (t68 == (-2)))) 138) (fun _ => by rw [← hz69])) <|
      .cons [139] (ok_call 62 (fun ν19 => #[.int .i64 (-3), .int .i64 4]) (.agg #[.int .i64 t70.Lo, .int .i64 t70.Hi]) (fun ν19 => (z69 == true)) [true, true, true] 139 [] (fun _ w hg _ => armillarylaw02_v.calls (-3) 4 t70 w (ifp ht70 hg))) <|
      .cons [140] (ok_call 35 (fun ν19 => #[.agg #[.int .i64 t70.Lo, .int .i64 t70.Hi]]) (.int .i64 t71) (fun ν19 => (z69 == true)) [true, false] 140 [] (fun _ w hg _ => interval_Width.calls t70 t71 w (ifp ht71 hg))) <|
      .cons [141] (ok_valg (fun ν19 => .bool (t71 == 7)) (fun ν19 => (z69 == true)) [false, true] 141) <|
      .cons [142] (ok_and 138 141 (fun ν19 => true) (fun ν19 => true) (fun ν19 => z69) (fun ν19 => (t71 == 7)) 142) <|
      .cons [143] (ok_val (fun ν19 => .bool (z69 && (t71 == 7))) 143) <|
      .cons [144] (ok_call 62 (fun ν19 => #[.int .i64 (-5), .int .i64 4]) (.agg #[.int .i64 t72.Lo, .int .i64 t72.Hi]) (fun ν19 => ((z69 && (t71 == 7)) == true)) [true, true, true] 144 [] (fun _ w hg _ => armillarylaw02_v.calls (-5) 4 t72 w (ifp ht72 hg))) <|
      .cons [145] (ok_call 36 (fun ν19 => #[.agg #[.int .i64 t72.Lo, .int .i64 t72.Hi]]) (.int .i64 t73) (fun ν19 => ((z69 && (t71 == 7)) == true)) [true, false] 145 [] (fun _ w hg _ => interval_Mag.calls t72 t73 w (ifp ht73 hg))) <|
      .cons [146] (ok_valg (fun ν19 => .bool (t73 == 5)) (fun ν19 => ((z69 && (t71 == 7)) == true)) [false, true] 146) <|
      .cons [147] (ok_and 143 146 (fun ν19 => true) (fun ν19 => true) (fun ν19 => (z69 && (t71 == 7))) (fun ν19 => (t73 == 5)) 147) <|
      .cons [148] (ok_val (fun ν19 => .bool ((z69 && (t71 == 7)) && (t73 == 5))) 148) <|
      .cons [149] (ok_call 62 (fun ν19 => #[.int .i64 0, .int .i64 4]) (.agg #[.int .i64 t74.Lo, .int .i64 t74.Hi]) (fun ν19 => (((z69 && (t71 == 7)) && (t73 == 5)) == true)) [true, true, true] 149 [] (fun _ w hg _ => armillarylaw02_v.calls 0 4 t74 w (ifp ht74 hg))) <|
      .cons [150] (ok_call 37 (fun ν19 => #[.agg #[.int .i64 t74.Lo, .int .i64 t74.Hi]]) (.int .i64 t75) (fun ν19 => (((z69 && (t71 == 7)) && (t73 == 5)) == true)) [true, false] 150 [] (fun _ w hg _ => interval_Sign.calls t74 t75 w (ifp ht75 hg))) <|
      .cons [151] (ok_valg (fun ν19 => .bool (t75 == 0)) (fun ν19 => (((z69 && (t71 == 7)) && (t73 == 5)) == true)) [false, true] 151) <|
      .cons [152] (ok_and 148 151 (fun ν19 => true) (fun ν19 => true) (fun ν19 => ((z69 && (t71 == 7)) && (t73 == 5))) (fun ν19 => (t75 == 0)) 152) <|
      .cons [153] (ok_val (fun ν19 => .bool (((z69 && (t71 == 7)) && (t73 == 5)) && (t75 == 0))) 153) <|
      .cons [154] (ok_call 62 (fun ν19 => #[.int .i64 (-4), .int .i64 (-1)]) (.agg #[.int .i64 t76.Lo, .int .i64 t76.Hi]) (fun ν19 => ((((z69 && (t71 == 7)) && (t73 == 5)) && (t75 == 0)) == true)) [true, true, true] 154 [] (fun _ w hg _ => armillarylaw02_v.calls (-4) (-1) t76 w (ifp ht76 hg))) <|
      .cons [155] (ok_call 37 (fun ν19 => #[.agg #[.int .i64 t76.Lo, .int .i64 t76.Hi]]) (.int .i64 t77) (fun ν19 => ((((z69 && (t71 == 7)) && (t73 == 5)) && (t75 == 0)) == true)) [true, false] 155 [] (fun _ w hg _ => interval_Sign.calls t76 t77 w (ifp ht77 hg))) <|
      .cons [156] (ok_valg (fun ν19 => .bool (t77 == (-1))) (fun ν19 => ((((z69 && (t71 == 7)) && (t73 == 5)) && (t75 == 0)) == true)) [false, true] 156) <|
      .cons [157] (ok_and 153 156 (fun ν19 => true) (fun ν19 => true) (fun ν19 => (((z69 && (t71 == 7)) && (t73 == 5)) && (t75 == 0))) (fun ν19 => (t77 == (-1))) 157) <|
      .cons [158] (ok_val (fun ν19 => .bool ((((z69 && (t71 == 7)) && (t73 == 5)) && (t75 == 0)) && (t77 == (-1)))) 158) <|
      .cons [159] (ok_ldg (fun ν19 => .agg #[.int .i64 t3.Lo, .int .i64 t3.Hi]) (fun ν19 => (((((z69 && (t71 == 7)) && (t73 == 5)) && (t75 == 0)) && (t77 == (-1))) == true)) [true] 159 179 0 2 (fun ν19 => ((ν2 2).n 0)) (fun ν19 => [.int .i64 t3.Lo, .int .i64 t3.Hi]) 23) <|
      .cons [160] (ok_call 32 (fun ν19 => #[.agg #[.int .i64 t3.Lo, .int .i64 t3.Hi]]) (.bool t78) (fun ν19 => (((((z69 && (t71 == 7)) && (t73 == 5)) && (t75 == 0)) && (t77 == (-1))) == true)) [true, false] 160 [] (fun _ w hg _ => interval_Valid.calls t3 t78 w (ifp ht78 hg))) <|
      .cons [161] (ok_and 158 160 (fun ν19 => true) (fun ν19 => true) (fun ν19 => ((((z69 && (t71 == 7)) && (t73 == 5)) && (t75 == 0)) && (t77 == (-1)))) (fun ν19 => t78) 161) <|
      .cons [162] (ok_val (fun ν19 => .bool (((((z69 && (t71 == 7)) && (t73 == 5)) && (t75 == 0)) && (t77 == (-1))) && t78)) 162) <|
      .cons [163] (ok_call 62 (fun ν19 => #[.int .i64 2, .int .i64 1]) (.agg #[.int .i64 t79.Lo, .int .i64 t79.Hi]) (fun ν19 => ((((((z69 && (t71 == 7)) && (t73 == 5)) && (t75 == 0)) && (t77 == (-1))) && t78) == true)) [true, true, true] 163 [] (fun _ w hg _ => armillarylaw02_v.calls 2 1 t79 w (ifp ht79 hg))) <|
      .cons [164] (ok_call 32 (fun ν19 => #[.agg #[.int .i64 t79.Lo, .int .i64 t79.Hi]]) (.bool t80) (fun ν19 => ((((((z69 && (t71 == 7)) && (t73 == 5)) && (t75 == 0)) && (t77 == (-1))) && t78) == true)) [true, false] 164 [] (fun _ w hg _ => interval_Valid.calls t79 t80 w (ifp ht80 hg))) <|
      .cons [165] (ok_valg (fun ν19 => .bool (!t80)) (fun ν19 => ((((((z69 && (t71 == 7)) && (t73 == 5)) && (t75 == 0)) && (t77 == (-1))) && t78) == true)) [false] 165) <|
      .cons [166] (ok_and 162 165 (fun ν19 => true) (fun ν19 => true) (fun ν19 => (((((z69 && (t71 == 7)) && (t73 == 5)) && (t75 == 0)) && (t77 == (-1))) && t78)) (fun ν19 => (!t80)) 166) <|
      .cons [167] (ok_as (u' := fun ν19 => [(167, .slot true (.bool z81))]) (ok_val (fun ν19 => .bool ((((((z69 && (t71 == 7)) && (t73 == 5)) && (t75 == 0)) && (t77 == (-1))) && t78) && (!t80))) 167) (fun _ => by rw [← hz81])) <|
      .cons [168] (ok_call 62 (fun ν19 => #[.int .i64 0, .int .i64 2147483648]) (.agg #[.int .i64 t82.Lo, .int .i64 t82.Hi]) (fun ν19 => (z81 == true)) [true, true, true] 168 [] (fun _ w hg _ => armillarylaw02_v.calls 0 2147483648 t82 w (ifp ht82 hg))) <|
      .cons [169] (ok_call 32 (fun ν19 => #[.agg #[.int .i64 t82.Lo, .int .i64 t82.Hi]]) (.bool t83) (fun ν19 => (z81 == true)) [true, false] 169 [] (fun _ w hg _ => interval_Valid.calls t82 t83 w (ifp ht83 hg))) <|
      .cons [170] (ok_valg (fun ν19 => .bool (!t83)) (fun ν19 => (z81 == true)) [false] 170) <|
      .cons [171] (ok_and 167 170 (fun ν19 => true) (fun ν19 => true) (fun ν19 => z81) (fun ν19 => (!t83)) 171) <|
      .cons [172] (ok_val (fun ν19 => .bool (z81 && (!t83))) 172) <|
      .cons [173] (ok_call 62 (fun ν19 => #[.int .i64 3, .int .i64 3]) (.agg #[.int .i64 t84.Lo, .int .i64 t84.Hi]) (fun ν19 => ((z81 && (!t83)) == true)) [true, true, true] 173 [] (fun _ w hg _ => armillarylaw02_v.calls 3 3 t84 w (ifp ht84 hg))) <|
      .cons [174] (ok_call 62 (fun ν19 => #[.int .i64 (-1), .int .i64 (-1)]) (.agg #[.int .i64 t85.Lo, .int .i64 t85.Hi]) (fun ν19 => ((z81 && (!t83)) == true)) [true, true, true] 174 [] (fun _ w hg _ => armillarylaw02_v.calls (-1) (-1) t85 w (ifp ht85 hg))) <|
      .cons [175] (ok_callG 999999 gk 15 (fun ν19 => #[.agg #[.int .i64 t84.Lo, .int .i64 t84.Hi], .agg #[.int .i64 t85.Lo, .int .i64 t85.Hi]]) (.agg #[.int .i64 t86.Lo, .int .i64 t86.Hi]) (fun ν19 => ((z81 && (!t83)) == true)) [true, false, false] 175 (fun _ w hG hg => interval_Mul.calls t84 t85 t86 w (glob_of hG) (ifp ht86 hg))) <|
      .cons [176] (ok_call 62 (fun ν19 => #[.int .i64 (-1), .int .i64 0]) (.agg #[.int .i64 t87.Lo, .int .i64 t87.Hi]) (fun ν19 => ((z81 && (!t83)) == true)) [true, true, true] 176 [] (fun _ w hg _ => armillarylaw02_v.calls (-1) 0 t87 w (ifp ht87 hg))) <|
      .cons [177] (ok_call 31 (fun ν19 => #[.agg #[.int .i64 t86.Lo, .int .i64 t86.Hi], .agg #[.int .i64 t87.Lo, .int .i64 t87.Hi]]) (.bool t88) (fun ν19 => ((z81 && (!t83)) == true)) [true, false, false] 177 [] (fun _ w hg _ => armillaryref02_Same.calls t86 t87 t88 w (ifp ht88 hg))) <|
      .cons [178] (ok_and 172 177 (fun ν19 => true) (fun ν19 => true) (fun ν19 => (z81 && (!t83))) (fun ν19 => t88) 178) <|
      .cons [0] (ok_val (fun ν19 => .bool ((z81 && (!t83)) && t88)) 0) <| .nil) (by kernel_rfl) fun ν19 a w' H => ?_
  replace H := H.toL [(0, .slot true (.bool ((z81 && (!t83)) && t88))), (999999, gk)] (by kernel_rfl)
  refine k_ret ?_
  obtain rfl := Option.some.inj G
  exact k_done0 H _ (by kernel_rfl) (by kernel_rfl)

set_option maxHeartbeats 4000000 in
theorem armillaryref02_IsEntire.calls (a0 : TInterval) (r : Bool) (w : World) (G : armillaryref02_IsEntire a0 = some r) :
    Calls Tryd.prog 13 #[.agg #[.int .i64 a0.Lo, .int .i64 a0.Hi]] w fun e w' => e = .returned (.bool r) ∧ Below w.heap.size w w' := by
  refine k_enter (args := [.agg #[.int .i64 a0.Lo, .int .i64 a0.Hi]]) 11 Tryd.func13 rfl (by kernel_rfl) (by kernel_rfl) fun a H => ?_
  unfold armillaryref02_IsEntire at G
  refine k_seq ?_
  refine k_reg mixed H (.cons [1, 11] (ok_new (fun b => .pointer (some ⟨b, 0, none⟩)) (fun ν1 => [.int .i64 a0.Lo, .int .i64 a0.Hi]) 23 1 11) <|
      .cons [2] (ok_val (fun ν1 => .bool false) 2) <| .nil) (by kernel_rfl) fun ν1 a w' H => ?_
  replace H := H.toL [(1, .slot true (.pointer (some ⟨((ν1 0).n 0), 0, none⟩))), (2, .slot true (.bool false)), (11, .blk ((ν1 0).n 0) [.int .i64 a0.Lo, .int .i64 a0.Hi] 23)] (by kernel_rfl)
  refine k_seq ?_
  refine k_reg mixed H (.cons [3] (ok_val (fun ν2 => .pointer (some ⟨((ν1 0).n 0), 0, none⟩)) 3) <|
      .cons [4] (ok_ld (fun ν2 => .int .i64 a0.Lo) 4 11 0 1 (fun ν2 => ((ν1 0).n 0)) (fun ν2 => [.int .i64 a0.Lo, .int .i64 a0.Hi]) 23) <|
      .cons [5] (ok_val (fun ν2 => .bool (a0.Lo == (-2147483648))) 5) <|
      .cons [6] (ok_val (fun ν2 => .bool (a0.Lo == (-2147483648))) 6) <|
      .cons [7] (ok_valg (fun ν2 => .pointer (some ⟨((ν1 0).n 0), 1, none⟩)) (fun ν2 => ((a0.Lo == (-2147483648)) == true)) [true] 7) <|
      .cons [8] (ok_ldg (fun ν2 => .int .i64 a0.Hi) (fun ν2 => ((a0.Lo == (-2147483648)) == true)) [false] 8 11 1 1 (fun ν2 => ((ν1 0).n 0)) (fun ν2 => [.int .i64 a0.Lo, .int .i64 a0.Hi]) 23) <|
      .cons [9] (ok_valg (fun ν2 => .bool (a0.Hi == 2147483648)) (fun ν2 => ((a0.Lo == (-2147483648)) == true)) [false, true] 9) <|
      .cons [10] (ok_and 6 9 (fun ν2 => true) (fun ν2 => true) (fun ν2 => (a0.Lo == (-2147483648))) (fun ν2 => (a0.Hi == 2147483648)) 10) <|
      .cons [2] (ok_val (fun ν2 => .bool ((a0.Lo == (-2147483648)) && (a0.Hi == 2147483648))) 2) <| .nil) (by kernel_rfl) fun ν2 a w' H => ?_
  replace H := H.toL [(2, .slot true (.bool ((a0.Lo == (-2147483648)) && (a0.Hi == 2147483648))))] (by kernel_rfl)
  refine k_ret ?_
  obtain rfl := Option.some.inj G
  exact k_done0 H _ (by kernel_rfl) (by kernel_rfl)

set_option maxHeartbeats 4000000 in
theorem armillaryref02_Number.calls (a0 : Int) (r : Bool) (w : World) (G : armillaryref02_Number a0 = some r) :
    Calls Tryd.prog 73 #[.int .i64 a0] w fun e w' => e = .returned (.bool r) ∧ Below w.heap.size w w' := by
  refine k_enter (args := [.int .i64 a0]) 9 Tryd.func73 rfl (by kernel_rfl) (by kernel_rfl) fun a H => ?_
  unfold armillaryref02_Number at G
  refine k_seq ?_
  refine k_reg mixed H (.cons [2] (ok_val (fun ν1 => .bool false) 2) <| .nil) (by kernel_rfl) fun ν1 a w' H => ?_
  replace H := H.toL [(0, .slot true (.int .i64 a0)), (2, .slot true (.bool false))] (by kernel_rfl)
  refine k_seq ?_
  refine k_reg mixed H (.cons [3] (ok_val (fun ν2 => .int .i64 a0) 3) <|
      .cons [4] (ok_val (fun ν2 => .bool (decide (a0 > (-2147483648)))) 4) <|
      .cons [5] (ok_val (fun ν2 => .bool (decide (a0 > (-2147483648)))) 5) <|
      .cons [6] (ok_valg (fun ν2 => .int .i64 a0) (fun ν2 => ((decide (a0 > (-2147483648))) == true)) [true] 6) <|
      .cons [7] (ok_valg (fun ν2 => .bool (decide (a0 < 2147483648))) (fun ν2 => ((decide (a0 > (-2147483648))) == true)) [false, true] 7) <|
      .cons [8] (ok_and 5 7 (fun ν2 => true) (fun ν2 => true) (fun ν2 => decide (a0 > (-2147483648))) (fun ν2 => decide (a0 < 2147483648)) 8) <|
      .cons [2] (ok_val (fun ν2 => .bool ((decide (a0 > (-2147483648))) && (decide (a0 < 2147483648)))) 2) <| .nil) (by kernel_rfl) fun ν2 a w' H => ?_
  replace H := H.toL [(2, .slot true (.bool ((decide (a0 > (-2147483648))) && (decide (a0 < 2147483648)))))] (by kernel_rfl)
  refine k_ret ?_
  obtain rfl := Option.some.inj G
  exact k_done0 H _ (by kernel_rfl) (by kernel_rfl)

set_option maxHeartbeats 4000000 in
theorem armillaryref02_Valid.calls (a0 : TInterval) (r : Bool) (w : World) (G : armillaryref02_Valid a0 = some r) :
    Calls Tryd.prog 39 #[.agg #[.int .i64 a0.Lo, .int .i64 a0.Hi]] w fun e w' => e = .returned (.bool r) ∧ Below w.heap.size w w' := by
  refine k_enter (args := [.agg #[.int .i64 a0.Lo, .int .i64 a0.Hi]]) 22 Tryd.func39 rfl (by kernel_rfl) (by kernel_rfl) fun a H => ?_
  unfold armillaryref02_Valid at G
  refine k_seq ?_
  refine k_reg mixed H (.cons [1, 22] (ok_new (fun b => .pointer (some ⟨b, 0, none⟩)) (fun ν1 => [.int .i64 a0.Lo, .int .i64 a0.Hi]) 23 1 22) <|
      .cons [2] (ok_val (fun ν1 => .bool false) 2) <| .nil) (by kernel_rfl) fun ν1 a w' H => ?_
  replace H := H.toL [(1, .slot true (.pointer (some ⟨((ν1 0).n 0), 0, none⟩))), (2, .slot true (.bool false)), (22, .blk ((ν1 0).n 0) [.int .i64 a0.Lo, .int .i64 a0.Hi] 23)] (by kernel_rfl)
  refine k_seq ?_
  replace G := bnd G; obtain ⟨t3, ht3, G⟩ := G
  replace G := bnd G; obtain ⟨t4, ht4, G⟩ := G
  replace G := bnd G; obtain ⟨t5, ht5, G⟩ := G
  refine k_reg mixed H (.cons [3] (ok_ld (fun ν2 => .agg #[.int .i64 a0.Lo, .int .i64 a0.Hi]) 3 22 0 2 (fun ν2 => ((ν1 0).n 0)) (fun ν2 => [.int .i64 a0.Lo, .int .i64 a0.Hi]) 23) <|
      .cons [4] (ok_callv 13 (fun ν2 => #[.agg #[.int .i64 a0.Lo, .int .i64 a0.Hi]]) (.bool t3) 4 [] (fun _ w _ => armillaryref02_IsEntire.calls a0 t3 w ht3)) <|
      .cons [5] (ok_val (fun ν2 => .bool t3) 5) <|
      .cons [6] (ok_valg (fun ν2 => .pointer (some ⟨((ν1 0).n 0), 0, none⟩)) (fun ν2 => (t3 == false)) [true] 6) <|
      .cons [7] (ok_ldg (fun ν2 => .int .i64 a0.Lo) (fun ν2 => (t3 == false)) [false] 7 22 0 1 (fun ν2 => ((ν1 0).n 0)) (fun ν2 => [.int .i64 a0.Lo, .int .i64 a0.Hi]) 23) <|
      .cons [8] (ok_call 73 (fun ν2 => #[.int .i64 a0.Lo]) (.bool t4) (fun ν2 => (t3 == false)) [true, false] 8 [] (fun _ w hg _ => armillaryref02_Number.calls a0.Lo t4 w (ifp ht4 hg))) <|
      .cons [9] (ok_valg (fun ν2 => .bool t4) (fun ν2 => (t3 == false)) [false] 9) <|
      .cons [10] (ok_valg (fun ν2 => .pointer (some ⟨((ν1 0).n 0), 1, none⟩)) (fun ν2 => ((t3 == false) && (t4 == true))) [true] 10) <|
      .cons [11] (ok_ldg (fun ν2 => .int .i64 a0.Hi) (fun ν2 => ((t3 == false) && (t4 == true))) [false] 11 22 1 1 (fun ν2 => ((ν1 0).n 0)) (fun ν2 => [.int .i64 a0.Lo, .int .i64 a0.Hi]) 23) <|
      .cons [12] (ok_call 73 (fun ν2 => #[.int .i64 a0.Hi]) (.bool t5) (fun ν2 => ((t3 == false) && (t4 == true))) [true, false] 12 [] (fun _ w hg _ => armillaryref02_Number.calls a0.Hi t5 w (ifp ht5 hg))) <|
      .cons [13] (ok_and 9 12 (fun ν2 => (t3 == false)) (fun ν2 => (t3 == false)) (fun ν2 => t4) (fun ν2 => t5) 13) <|
      .cons [14] (ok_valg (fun ν2 => .bool (t4 && t5)) (fun ν2 => (t3 == false)) [false] 14) <|
      .cons [15] (ok_valg (fun ν2 => .pointer (some ⟨((ν1 0).n 0), 0, none⟩)) (fun ν2 => ((t3 == false) && ((t4 && t5) == true))) [true] 15) <|
      .cons [16] (ok_ldg (fun ν2 => .int .i64 a0.Lo) (fun ν2 => ((t3 == false) && ((t4 && t5) == true))) [false] 16 22 0 1 (fun ν2 => ((ν1 0).n 0)) (fun ν2 => [.int .i64 a0.Lo, .int .i64 a0.Hi]) 23) <|
      .cons [17] (ok_valg (fun ν2 => .pointer (some ⟨((ν1 0).n 0), 1, none⟩)) (fun ν2 => ((t3 == false) && ((t4 && t5) == true))) [true] 17) <|
      .cons [18] (ok_ldg (fun ν2 => .int .i64 a0.Hi) (fun ν2 => ((t3 == false) && ((t4 && t5) == true))) [false] 18 22 1 1 (fun ν2 => ((ν1 0).n 0)) (fun ν2 => [.int .i64 a0.Lo, .int .i64 a0.Hi]) 23) <|
      .cons [19] (ok_valg (fun ν2 => .bool (decide (a0.Lo ≤ a0.Hi))) (fun ν2 => ((t3 == false) && ((t4 && t5) == true))) [false, false] 19) <|
      .cons [20] (ok_and 14 19 (fun ν2 => (t3 == false)) (fun ν2 => (t3 == false)) (fun ν2 => (t4 && t5)) (fun ν2 => decide (a0.Lo ≤ a0.Hi)) 20) <|
      .cons [21] (ok_or 5 20 (fun ν2 => true) (fun ν2 => true) (fun ν2 => t3) (fun ν2 => ((t4 && t5) && (decide (a0.Lo ≤ a0.Hi)))) 21) <|
      .cons [2] (ok_val (fun ν2 => .bool (t3 || ((t4 && t5) && (decide (a0.Lo ≤ a0.Hi))))) 2) <| .nil) (by kernel_rfl) fun ν2 a w' H => ?_
  replace H := H.toL [(2, .slot true (.bool (t3 || ((t4 && t5) && (decide (a0.Lo ≤ a0.Hi))))))] (by kernel_rfl)
  refine k_ret ?_
  obtain rfl := Option.some.inj G
  exact k_done0 H _ (by kernel_rfl) (by kernel_rfl)

set_option maxHeartbeats 4000000 in
theorem armillaryref02_Entire.calls (r : TInterval) (w : World) (G : armillaryref02_Entire = some r) :
    Calls Tryd.prog 51 #[] w fun e w' => e = .returned (.agg #[.int .i64 r.Lo, .int .i64 r.Hi]) ∧ Below w.heap.size w w' := by
  refine k_enter (args := []) 2 Tryd.func51 rfl (by kernel_rfl) (by kernel_rfl) fun a H => ?_
  unfold armillaryref02_Entire at G
  refine k_seq ?_
  refine k_reg mixed H (.cons [0, 2] (ok_new (fun b => .pointer (some ⟨b, 0, none⟩)) (fun ν1 => [.int .i64 0, .int .i64 0]) 23 0 2) <| .nil) (by kernel_rfl) fun ν1 a w' H => ?_
  replace H := H.toL [(0, .slot true (.pointer (some ⟨((ν1 0).n 0), 0, none⟩))), (2, .blk ((ν1 0).n 0) [.int .i64 0, .int .i64 0] 23)] (by kernel_rfl)
  refine k_seq ?_
  refine k_reg mixed H (.cons [1] (ok_val (fun ν2 => .agg #[.int .i64 (-2147483648), .int .i64 2147483648]) 1) <|
      .cons [2] (ok_as (u' := fun ν2 => [(2, .blk ((ν1 0).n 0) [.int .i64 (-2147483648), .int .i64 2147483648] 23)]) (ok_store 2 0 (fun ν2 => ((ν1 0).n 0)) (fun ν2 => [.int .i64 0, .int .i64 0]) (fun ν2 => [.int .i64 (-2147483648), .int .i64 2147483648]) 23) (fun _ => by kernel_rfl)) <| .nil) (by kernel_rfl) fun ν2 a w' H => ?_
  replace H := H.toL [(0, .slot true (.pointer (some ⟨((ν1 0).n 0), 0, none⟩))), (2, .blk ((ν1 0).n 0) [.int .i64 (-2147483648), .int .i64 2147483648] 23)] (by kernel_rfl)
  refine k_ret ?_
  obtain rfl := Option.some.inj G
  exact k_done1 H _ 2 ((ν1 0).n 0) [.int .i64 (-2147483648), .int .i64 2147483648] 23 0 2 (by kernel_rfl) (by kernel_rfl) (by kernel_rfl) (by kernel_rfl)

set_option maxHeartbeats 4000000 in
theorem armillaryref02_Small.calls (a0 : TInterval) (r : TInterval) (w : World) (G : armillaryref02_Small a0 = some r) :
    Calls Tryd.prog 63 #[.agg #[.int .i64 a0.Lo, .int .i64 a0.Hi]] w fun e w' => e = .returned (.agg #[.int .i64 r.Lo, .int .i64 r.Hi]) ∧ Below w.heap.size w w' := by
  refine k_enter (args := [.agg #[.int .i64 a0.Lo, .int .i64 a0.Hi]]) 18 Tryd.func63 rfl (by kernel_rfl) (by kernel_rfl) fun a H => ?_
  unfold armillaryref02_Small at G
  refine k_seq ?_
  refine k_reg mixed H (.cons [1, 18] (ok_new (fun b => .pointer (some ⟨b, 0, none⟩)) (fun ν1 => [.int .i64 a0.Lo, .int .i64 a0.Hi]) 23 1 18) <|
      .cons [2, 19] (ok_new (fun b => .pointer (some ⟨b, 0, none⟩)) (fun ν1 => [.int .i64 0, .int .i64 0]) 23 2 19) <| .nil) (by kernel_rfl) fun ν1 a w' H => ?_
  replace H := H.toL [(1, .slot true (.pointer (some ⟨((ν1 0).n 0), 0, none⟩))), (2, .slot true (.pointer (some ⟨((ν1 1).n 0), 0, none⟩))), (18, .blk ((ν1 0).n 0) [.int .i64 a0.Lo, .int .i64 a0.Hi] 23), (19, .blk ((ν1 1).n 0) [.int .i64 0, .int .i64 0] 23)] (by kernel_rfl)
  refine k_seq ?_
  refine k_reg mixed H (.cons [5] (ok_val (fun ν2 => .pointer (some ⟨((ν1 0).n 0), 0, none⟩)) 5) <|
      .cons [6] (ok_ld (fun ν2 => .int .i64 a0.Lo) 6 18 0 1 (fun ν2 => ((ν1 0).n 0)) (fun ν2 => [.int .i64 a0.Lo, .int .i64 a0.Hi]) 23) <|
      .cons [7] (ok_val (fun ν2 => .int .i64 (Int.tmod a0.Lo 16777216)) 7) <|
      .cons [8] (ok_val (fun ν2 => .pointer (some ⟨((ν1 0).n 0), 1, none⟩)) 8) <|
      .cons [9] (ok_ld (fun ν2 => .int .i64 a0.Hi) 9 18 1 1 (fun ν2 => ((ν1 0).n 0)) (fun ν2 => [.int .i64 a0.Lo, .int .i64 a0.Hi]) 23) <|
      .cons [10] (ok_val (fun ν2 => .int .i64 (Int.tmod a0.Hi 16777216)) 10) <|
      .cons [3] (ok_val (fun ν2 => .int .i64 (Int.tmod a0.Lo 16777216)) 3) <|
      .cons [4] (ok_val (fun ν2 => .int .i64 (Int.tmod a0.Hi 16777216)) 4) <| .nil) (by kernel_rfl) fun ν2 a w' H => ?_
  replace H := H.toL [(2, .slot true (.pointer (some ⟨((ν1 1).n 0), 0, none⟩))), (3, .slot true (.int .i64 (Int.tmod a0.Lo 16777216))), (4, .slot true (.int .i64 (Int.tmod a0.Hi 16777216))), (19, .blk ((ν1 1).n 0) [.int .i64 0, .int .i64 0] 23)] (by kernel_rfl)
  refine k_seq ?_
  refine k_reg mixed H (.cons [11] (ok_val (fun ν3 => .int .i64 (Int.tmod a0.Lo 16777216)) 11) <|
      .cons [12] (ok_val (fun ν3 => .int .i64 (Int.tmod a0.Hi 16777216)) 12) <|
      .cons [13] (ok_val (fun ν3 => .int .i64 (mn (Int.tmod a0.Lo 16777216) (Int.tmod a0.Hi 16777216))) 13) <|
      .cons [14] (ok_val (fun ν3 => .int .i64 (Int.tmod a0.Lo 16777216)) 14) <|
      .cons [15] (ok_val (fun ν3 => .int .i64 (Int.tmod a0.Hi 16777216)) 15) <|
      .cons [16] (ok_val (fun ν3 => .int .i64 (mx (Int.tmod a0.Lo 16777216) (Int.tmod a0.Hi 16777216))) 16) <|
      .cons [17] (ok_val (fun ν3 => .agg #[.int .i64 (mn (Int.tmod a0.Lo 16777216) (Int.tmod a0.Hi 16777216)), .int .i64 (mx (Int.tmod a0.Lo 16777216) (Int.tmod a0.Hi 16777216))]) 17) <|
      .cons [19] (ok_as (u' := fun ν3 => [(19, .blk ((ν1 1).n 0) [.int .i64 (mn (Int.tmod a0.Lo 16777216) (Int.tmod a0.Hi 16777216)), .int .i64 (mx (Int.tmod a0.Lo 16777216) (Int.tmod a0.Hi 16777216))] 23)]) (ok_store 19 0 (fun ν3 => ((ν1 1).n 0)) (fun ν3 => [.int .i64 0, .int .i64 0]) (fun ν3 => [.int .i64 (mn (Int.tmod a0.Lo 16777216) (Int.tmod a0.Hi 16777216)), .int .i64 (mx (Int.tmod a0.Lo 16777216) (Int.tmod a0.Hi 16777216))]) 23) (fun _ => by kernel_rfl)) <| .nil) (by kernel_rfl) fun ν3 a w' H => ?_
  replace H := H.toL [(2, .slot true (.pointer (some ⟨((ν1 1).n 0), 0, none⟩))), (19, .blk ((ν1 1).n 0) [.int .i64 (mn (Int.tmod a0.Lo 16777216) (Int.tmod a0.Hi 16777216)), .int .i64 (mx (Int.tmod a0.Lo 16777216) (Int.tmod a0.Hi 16777216))] 23)] (by kernel_rfl)
  refine k_ret ?_
  obtain rfl := Option.some.inj G
  exact k_done1 H _ 19 ((ν1 1).n 0) [.int .i64 (mn (Int.tmod a0.Lo 16777216) (Int.tmod a0.Hi 16777216)), .int .i64 (mx (Int.tmod a0.Lo 16777216) (Int.tmod a0.Hi 16777216))] 23 0 2 (by kernel_rfl) (by kernel_rfl) (by kernel_rfl) (by kernel_rfl)

set_option maxHeartbeats 4000000 in
theorem armillaryref02_Made.calls (a0 : TInterval) (r : TInterval) (w : World) (G : armillaryref02_Made a0 = some r) :
    Calls Tryd.prog 12 #[.agg #[.int .i64 a0.Lo, .int .i64 a0.Hi]] w fun e w' => e = .returned (.agg #[.int .i64 r.Lo, .int .i64 r.Hi]) ∧ Below w.heap.size w w' := by
  refine k_enter (args := [.agg #[.int .i64 a0.Lo, .int .i64 a0.Hi]]) 13 Tryd.func12 rfl (by kernel_rfl) (by kernel_rfl) fun a H => ?_
  unfold armillaryref02_Made at G
  refine k_seq ?_
  refine k_reg mixed H (.cons [1, 13] (ok_new (fun b => .pointer (some ⟨b, 0, none⟩)) (fun ν1 => [.int .i64 a0.Lo, .int .i64 a0.Hi]) 23 1 13) <|
      .cons [2, 14] (ok_new (fun b => .pointer (some ⟨b, 0, none⟩)) (fun ν1 => [.int .i64 0, .int .i64 0]) 23 2 14) <| .nil) (by kernel_rfl) fun ν1 a w' H => ?_
  replace H := H.toL [(1, .slot true (.pointer (some ⟨((ν1 0).n 0), 0, none⟩))), (2, .slot true (.pointer (some ⟨((ν1 1).n 0), 0, none⟩))), (13, .blk ((ν1 0).n 0) [.int .i64 a0.Lo, .int .i64 a0.Hi] 23), (14, .blk ((ν1 1).n 0) [.int .i64 0, .int .i64 0] 23)] (by kernel_rfl)
  refine k_seq ?_
  refine k_seq ?_
  replace G := bnd G; obtain ⟨t3, ht3, G⟩ := G
  refine k_reg mixed H (.cons [3] (ok_ld (fun ν2 => .agg #[.int .i64 a0.Lo, .int .i64 a0.Hi]) 3 13 0 2 (fun ν2 => ((ν1 0).n 0)) (fun ν2 => [.int .i64 a0.Lo, .int .i64 a0.Hi]) 23) <|
      .cons [4] (ok_callv 39 (fun ν2 => #[.agg #[.int .i64 a0.Lo, .int .i64 a0.Hi]]) (.bool t3) 4 [] (fun _ w _ => armillaryref02_Valid.calls a0 t3 w ht3)) <| .nil) (by kernel_rfl) fun ν2 a w' H => ?_
  replace H := H.toL [(1, .slot true (.pointer (some ⟨((ν1 0).n 0), 0, none⟩))), (2, .slot true (.pointer (some ⟨((ν1 1).n 0), 0, none⟩))), (4, .slot true (.bool t3)), (13, .blk ((ν1 0).n 0) [.int .i64 a0.Lo, .int .i64 a0.Hi] 23), (14, .blk ((ν1 1).n 0) [.int .i64 0, .int .i64 0] 23)] (by kernel_rfl)
  refine k_cond H (by kernel_rfl) (t := t3) (by kernel_rfl) (fun c11 => ?_) (fun c11 => ?_)
  · rw [if_pos c11] at G
    refine k_seq ?_
    refine k_reg mixed H (.cons [5] (ok_ld (fun ν4 => .agg #[.int .i64 a0.Lo, .int .i64 a0.Hi]) 5 13 0 2 (fun ν4 => ((ν1 0).n 0)) (fun ν4 => [.int .i64 a0.Lo, .int .i64 a0.Hi]) 23) <|
      .cons [14] (ok_as (u' := fun ν4 => [(14, .blk ((ν1 1).n 0) [.int .i64 a0.Lo, .int .i64 a0.Hi] 23)]) (ok_store 14 0 (fun ν4 => ((ν1 1).n 0)) (fun ν4 => [.int .i64 0, .int .i64 0]) (fun ν4 => [.int .i64 a0.Lo, .int .i64 a0.Hi]) 23) (fun _ => by kernel_rfl)) <| .nil) (by kernel_rfl) fun ν4 a w' H => ?_
    replace H := H.toL [(1, .slot true (.pointer (some ⟨((ν1 0).n 0), 0, none⟩))), (2, .slot true (.pointer (some ⟨((ν1 1).n 0), 0, none⟩))), (13, .blk ((ν1 0).n 0) [.int .i64 a0.Lo, .int .i64 a0.Hi] 23), (14, .blk ((ν1 1).n 0) [.int .i64 a0.Lo, .int .i64 a0.Hi] 23)] (by kernel_rfl)
    refine k_ret ?_
    obtain rfl := Option.some.inj G
    exact k_done1 H _ 14 ((ν1 1).n 0) [.int .i64 a0.Lo, .int .i64 a0.Hi] 23 0 2 (by kernel_rfl) (by kernel_rfl) (by kernel_rfl) (by kernel_rfl)
  · rw [if_neg (nt c11)] at G
    refine k_skip ?_
    refine k_seq ?_
    refine k_seq ?_
    refine k_reg mixed H (.cons [6] (ok_val (fun ν5 => .pointer (some ⟨((ν1 0).n 0), 0, none⟩)) 6) <|
      .cons [7] (ok_ld (fun ν5 => .int .i64 a0.Lo) 7 13 0 1 (fun ν5 => ((ν1 0).n 0)) (fun ν5 => [.int .i64 a0.Lo, .int .i64 a0.Hi]) 23) <|
      .cons [8] (ok_val (fun ν5 => .int .i64 (b_and .i64 a0.Lo 31)) 8) <|
      .cons [9] (ok_val (fun ν5 => .bool ((b_and .i64 a0.Lo 31) == 7)) 9) <| .nil) (by kernel_rfl) fun ν5 a w' H => ?_
    replace H := H.toL [(1, .slot true (.pointer (some ⟨((ν1 0).n 0), 0, none⟩))), (2, .slot true (.pointer (some ⟨((ν1 1).n 0), 0, none⟩))), (9, .slot true (.bool ((b_and .i64 a0.Lo 31) == 7))), (13, .blk ((ν1 0).n 0) [.int .i64 a0.Lo, .int .i64 a0.Hi] 23), (14, .blk ((ν1 1).n 0) [.int .i64 0, .int .i64 0] 23)] (by kernel_rfl)
    refine k_cond H (by kernel_rfl) (t := ((b_and .i64 a0.Lo 31) == 7)) (by kernel_rfl) (fun c10 => ?_) (fun c10 => ?_)
    · rw [if_pos c10] at G
      refine k_seq ?_
      replace G := bnd G; obtain ⟨t7, ht7, G⟩ := G
      refine k_reg mixed H (.cons [10] (ok_callv 51 (fun ν6 => #[]) (.agg #[.int .i64 t7.Lo, .int .i64 t7.Hi]) 10 [] (fun _ w _ => armillaryref02_Entire.calls  t7 w ht7)) <|
      .cons [14] (ok_as (u' := fun ν6 => [(14, .blk ((ν1 1).n 0) [.int .i64 t7.Lo, .int .i64 t7.Hi] 23)]) (ok_store 14 0 (fun ν6 => ((ν1 1).n 0)) (fun ν6 => [.int .i64 0, .int .i64 0]) (fun ν6 => [.int .i64 t7.Lo, .int .i64 t7.Hi]) 23) (fun _ => by kernel_rfl)) <| .nil) (by kernel_rfl) fun ν6 a w' H => ?_
      replace H := H.toL [(1, .slot true (.pointer (some ⟨((ν1 0).n 0), 0, none⟩))), (2, .slot true (.pointer (some ⟨((ν1 1).n 0), 0, none⟩))), (13, .blk ((ν1 0).n 0) [.int .i64 a0.Lo, .int .i64 a0.Hi] 23), (14, .blk ((ν1 1).n 0) [.int .i64 t7.Lo, .int .i64 t7.Hi] 23)] (by kernel_rfl)
      refine k_ret ?_
      obtain rfl := Option.some.inj G
      exact k_done1 H _ 14 ((ν1 1).n 0) [.int .i64 t7.Lo, .int .i64 t7.Hi] 23 0 2 (by kernel_rfl) (by kernel_rfl) (by kernel_rfl) (by kernel_rfl)
    · rw [if_neg (nt c10)] at G
      refine k_skip ?_
      refine k_seq ?_
      replace G := bnd G; obtain ⟨t9, ht9, G⟩ := G
      refine k_reg mixed H (.cons [11] (ok_ld (fun ν8 => .agg #[.int .i64 a0.Lo, .int .i64 a0.Hi]) 11 13 0 2 (fun ν8 => ((ν1 0).n 0)) (fun ν8 => [.int .i64 a0.Lo, .int .i64 a0.Hi]) 23) <|
      .cons [12] (ok_callv 63 (fun ν8 => #[.agg #[.int .i64 a0.Lo, .int .i64 a0.Hi]]) (.agg #[.int .i64 t9.Lo, .int .i64 t9.Hi]) 12 [] (fun _ w _ => armillaryref02_Small.calls a0 t9 w ht9)) <|
      .cons [14] (ok_as (u' := fun ν8 => [(14, .blk ((ν1 1).n 0) [.int .i64 t9.Lo, .int .i64 t9.Hi] 23)]) (ok_store 14 0 (fun ν8 => ((ν1 1).n 0)) (fun ν8 => [.int .i64 0, .int .i64 0]) (fun ν8 => [.int .i64 t9.Lo, .int .i64 t9.Hi]) 23) (fun _ => by kernel_rfl)) <| .nil) (by kernel_rfl) fun ν8 a w' H => ?_
      replace H := H.toL [(2, .slot true (.pointer (some ⟨((ν1 1).n 0), 0, none⟩))), (14, .blk ((ν1 1).n 0) [.int .i64 t9.Lo, .int .i64 t9.Hi] 23)] (by kernel_rfl)
      refine k_ret ?_
      obtain rfl := Option.some.inj G
      exact k_done1 H _ 14 ((ν1 1).n 0) [.int .i64 t9.Lo, .int .i64 t9.Hi] 23 0 2 (by kernel_rfl) (by kernel_rfl) (by kernel_rfl) (by kernel_rfl)

set_option maxHeartbeats 4000000 in
theorem armillaryref02_Pick.calls (a0 : TInterval) (a1 : Int) (r : Int) (w : World) (G : armillaryref02_Pick a0 a1 = some r) :
    Calls Tryd.prog 17 #[.agg #[.int .i64 a0.Lo, .int .i64 a0.Hi], .int .u32 a1] w fun e w' => e = .returned (.int .i64 r) ∧ Below w.heap.size w w' := by
  refine k_enter (args := [.agg #[.int .i64 a0.Lo, .int .i64 a0.Hi], .int .u32 a1]) 17 Tryd.func17 rfl (by kernel_rfl) (by kernel_rfl) fun a H => ?_
  unfold armillaryref02_Pick at G
  refine k_seq ?_
  refine k_reg mixed H (.cons [2, 17] (ok_new (fun b => .pointer (some ⟨b, 0, none⟩)) (fun ν1 => [.int .i64 a0.Lo, .int .i64 a0.Hi]) 23 2 17) <|
      .cons [4] (ok_val (fun ν1 => .int .i64 0) 4) <| .nil) (by kernel_rfl) fun ν1 a w' H => ?_
  replace H := H.toL [(1, .slot true (.int .u32 a1)), (2, .slot true (.pointer (some ⟨((ν1 0).n 0), 0, none⟩))), (4, .slot true (.int .i64 0)), (17, .blk ((ν1 0).n 0) [.int .i64 a0.Lo, .int .i64 a0.Hi] 23)] (by kernel_rfl)
  refine k_seq ?_
  replace G := gd G; obtain ⟨n3, G⟩ := G
  refine k_reg mixed H (.cons [5] (ok_val (fun ν2 => .pointer (some ⟨((ν1 0).n 0), 0, none⟩)) 5) <|
      .cons [6] (ok_ld (fun ν2 => .int .i64 a0.Lo) 6 17 0 1 (fun ν2 => ((ν1 0).n 0)) (fun ν2 => [.int .i64 a0.Lo, .int .i64 a0.Hi]) 23) <|
      .cons [7] (ok_val (fun ν2 => .int .u32 a1) 7) <|
      .cons [8] (ok_val (fun ν2 => .int .i64 (w_i64 a1)) 8) <|
      .cons [9] (ok_val (fun ν2 => .pointer (some ⟨((ν1 0).n 0), 1, none⟩)) 9) <|
      .cons [10] (ok_ld (fun ν2 => .int .i64 a0.Hi) 10 17 1 1 (fun ν2 => ((ν1 0).n 0)) (fun ν2 => [.int .i64 a0.Lo, .int .i64 a0.Hi]) 23) <|
      .cons [11] (ok_val (fun ν2 => .pointer (some ⟨((ν1 0).n 0), 0, none⟩)) 11) <|
      .cons [12] (ok_ld (fun ν2 => .int .i64 a0.Lo) 12 17 0 1 (fun ν2 => ((ν1 0).n 0)) (fun ν2 => [.int .i64 a0.Lo, .int .i64 a0.Hi]) 23) <|
      .cons [13] (ok_val (fun ν2 => .int .i64 (w_i64 (a0.Hi - a0.Lo))) 13) <|
      .cons [14] (ok_val (fun ν2 => .int .i64 (w_i64 ((w_i64 (a0.Hi - a0.Lo)) + 1))) 14) <|
      .cons [15] (ok_val (fun ν2 => .int .i64 (Int.tmod (w_i64 a1) (w_i64 ((w_i64 (a0.Hi - a0.Lo)) + 1)))) 15 (hv := fun _ _ => run_of (by kernel_rfl) (run_rem (k := .i64) (x := w_i64 a1) (y := w_i64 ((w_i64 (a0.Hi - a0.Lo)) + 1)) n3))) <|
      .cons [16] (ok_val (fun ν2 => .int .i64 (w_i64 (a0.Lo + (Int.tmod (w_i64 a1) (w_i64 ((w_i64 (a0.Hi - a0.Lo)) + 1)))))) 16) <|
      .cons [4] (ok_val (fun ν2 => .int .i64 (w_i64 (a0.Lo + (Int.tmod (w_i64 a1) (w_i64 ((w_i64 (a0.Hi - a0.Lo)) + 1)))))) 4) <| .nil) (by kernel_rfl) fun ν2 a w' H => ?_
  replace H := H.toL [(4, .slot true (.int .i64 (w_i64 (a0.Lo + (Int.tmod (w_i64 a1) (w_i64 ((w_i64 (a0.Hi - a0.Lo)) + 1)))))))] (by kernel_rfl)
  refine k_ret ?_
  obtain rfl := Option.some.inj G
  exact k_done0 H _ (by kernel_rfl) (by kernel_rfl)

set_option maxHeartbeats 4000000 in
theorem armillarylaw02_ratio.calls (a0 : TOperands) (r : Int × Int) (w : World) (G : armillarylaw02_ratio a0 = some r) :
    Calls Tryd.prog 18 #[.agg #[.int .i64 a0.A.Lo, .int .i64 a0.A.Hi, .int .i64 a0.B.Lo, .int .i64 a0.B.Hi, .int .i32 a0.N, .int .u16 a0.D]] w fun e w' => e = .returned (.tuple #[.int .i64 r.1, .int .i64 r.2]) ∧ Below w.heap.size w w' := by
  refine k_enter (args := [.agg #[.int .i64 a0.A.Lo, .int .i64 a0.A.Hi, .int .i64 a0.B.Lo, .int .i64 a0.B.Hi, .int .i32 a0.N, .int .u16 a0.D]]) 12 Tryd.func18 rfl (by kernel_rfl) (by kernel_rfl) fun a H => ?_
  unfold armillarylaw02_ratio at G
  refine k_seq ?_
  refine k_reg mixed H (.cons [1, 12] (ok_new (fun b => .pointer (some ⟨b, 0, none⟩)) (fun ν1 => [.int .i64 a0.A.Lo, .int .i64 a0.A.Hi, .int .i64 a0.B.Lo, .int .i64 a0.B.Hi, .int .i32 a0.N, .int .u16 a0.D]) 26 1 12) <|
      .cons [2] (ok_val (fun ν1 => .int .i64 0) 2) <|
      .cons [3] (ok_val (fun ν1 => .int .i64 0) 3) <| .nil) (by kernel_rfl) fun ν1 a w' H => ?_
  replace H := H.toL [(1, .slot true (.pointer (some ⟨((ν1 0).n 0), 0, none⟩))), (2, .slot true (.int .i64 0)), (3, .slot true (.int .i64 0)), (12, .blk ((ν1 0).n 0) [.int .i64 a0.A.Lo, .int .i64 a0.A.Hi, .int .i64 a0.B.Lo, .int .i64 a0.B.Hi, .int .i32 a0.N, .int .u16 a0.D] 26)] (by kernel_rfl)
  refine k_seq ?_
  refine k_reg mixed H (.cons [4] (ok_val (fun ν2 => .pointer (some ⟨((ν1 0).n 0), 4, none⟩)) 4) <|
      .cons [5] (ok_ld (fun ν2 => .int .i32 a0.N) 5 12 4 1 (fun ν2 => ((ν1 0).n 0)) (fun ν2 => [.int .i64 a0.A.Lo, .int .i64 a0.A.Hi, .int .i64 a0.B.Lo, .int .i64 a0.B.Hi, .int .i32 a0.N, .int .u16 a0.D]) 26) <|
      .cons [6] (ok_val (fun ν2 => .int .i64 (w_i64 a0.N)) 6) <|
      .cons [7] (ok_val (fun ν2 => .int .i64 (Int.tmod (w_i64 a0.N) 1073741824)) 7) <|
      .cons [8] (ok_val (fun ν2 => .pointer (some ⟨((ν1 0).n 0), 5, none⟩)) 8) <|
      .cons [9] (ok_ld (fun ν2 => .int .u16 a0.D) 9 12 5 1 (fun ν2 => ((ν1 0).n 0)) (fun ν2 => [.int .i64 a0.A.Lo, .int .i64 a0.A.Hi, .int .i64 a0.B.Lo, .int .i64 a0.B.Hi, .int .i32 a0.N, .int .u16 a0.D]) 26) <|
      .cons [10] (ok_val (fun ν2 => .int .i64 (w_i64 a0.D)) 10) <|
      .cons [11] (ok_val (fun ν2 => .int .i64 (w_i64 (1 + (w_i64 a0.D)))) 11) <|
      .cons [2] (ok_val (fun ν2 => .int .i64 (Int.tmod (w_i64 a0.N) 1073741824)) 2) <|
      .cons [3] (ok_val (fun ν2 => .int .i64 (w_i64 (1 + (w_i64 a0.D)))) 3) <| .nil) (by kernel_rfl) fun ν2 a w' H => ?_
  replace H := H.toL [(2, .slot true (.int .i64 (Int.tmod (w_i64 a0.N) 1073741824))), (3, .slot true (.int .i64 (w_i64 (1 + (w_i64 a0.D)))))] (by kernel_rfl)
  refine k_ret ?_
  obtain rfl := Option.some.inj G
  exact k_done0 H _ (by kernel_rfl) (by kernel_rfl)

set_option maxHeartbeats 4000000 in
theorem armillaryref02_Floor.calls (a0 : Int) (a1 : Int) (r : Int) (w : World) (G : armillaryref02_Floor a0 a1 = some r) :
    Calls Tryd.prog 25 #[.int .i64 a0, .int .i64 a1] w fun e w' => e = .returned (.int .i64 r) ∧ Below w.heap.size w w' := by
  refine k_enter (args := [.int .i64 a0, .int .i64 a1]) 23 Tryd.func25 rfl (by kernel_rfl) (by kernel_rfl) fun a H => ?_
  unfold armillaryref02_Floor at G
  refine k_seq ?_
  refine k_reg mixed H (.cons [4] (ok_val (fun ν1 => .int .i64 0) 4) <| .nil) (by kernel_rfl) fun ν1 a w' H => ?_
  replace H := H.toL [(0, .slot true (.int .i64 a0)), (1, .slot true (.int .i64 a1)), (4, .slot true (.int .i64 0))] (by kernel_rfl)
  refine k_seq ?_
  replace G := gd G; obtain ⟨n3, G⟩ := G
  refine k_reg mixed H (.cons [6] (ok_val (fun ν2 => .int .i64 a0) 6) <|
      .cons [7] (ok_val (fun ν2 => .int .i64 a1) 7) <|
      .cons [8] (ok_val (fun ν2 => .int .i64 (w_i64 (Int.tdiv a0 a1))) 8 (hv := fun _ _ => run_of (by kernel_rfl) (run_quo (k := .i64) (x := a0) (y := a1) n3))) <|
      .cons [5] (ok_val (fun ν2 => .int .i64 (w_i64 (Int.tdiv a0 a1))) 5) <| .nil) (by kernel_rfl) fun ν2 a w' H => ?_
  replace H := H.toL [(0, .slot true (.int .i64 a0)), (1, .slot true (.int .i64 a1)), (4, .slot true (.int .i64 0)), (5, .slot true (.int .i64 (w_i64 (Int.tdiv a0 a1))))] (by kernel_rfl)
  refine k_seq ?_
  replace G := bnd G; obtain ⟨j5, hj5, G⟩ := G
  refine k_join (fun a w' => Rep w.heap.size w 23 (ofL [(4, .slot true (.int .i64 0)), (5, .slot true (.int .i64 j5))]) a w') ?_ ?_
  · clear H; intro a w' H
    refine k_seq ?_
    refine k_reg mixed H (.cons [22] (ok_val (fun ν6 => .int .i64 j5) 22) <|
      .cons [4] (ok_val (fun ν6 => .int .i64 j5) 4) <| .nil) (by kernel_rfl) fun ν6 a w' H => ?_
    replace H := H.toL [(4, .slot true (.int .i64 j5))] (by kernel_rfl)
    refine k_ret ?_
    obtain rfl := Option.some.inj G
    exact k_done0 H _ (by kernel_rfl) (by kernel_rfl)
  · clear G; replace G := hj5; clear hj5
    refine k_seq ?_
    replace G := gd G; obtain ⟨n8, G⟩ := G
    refine k_reg mixed H (.cons [9] (ok_val (fun ν7 => .int .i64 a0) 9) <|
      .cons [10] (ok_val (fun ν7 => .int .i64 a1) 10) <|
      .cons [11] (ok_val (fun ν7 => .int .i64 (Int.tmod a0 a1)) 11 (hv := fun _ _ => run_of (by kernel_rfl) (run_rem (k := .i64) (x := a0) (y := a1) n8))) <|
      .cons [12] (ok_val (fun ν7 => .bool ((Int.tmod a0 a1) != 0)) 12) <|
      .cons [13] (ok_val (fun ν7 => .bool ((Int.tmod a0 a1) != 0)) 13) <|
      .cons [14] (ok_valg (fun ν7 => .int .i64 a0) (fun ν7 => (((Int.tmod a0 a1) != 0) == true)) [true] 14) <|
      .cons [15] (ok_valg (fun ν7 => .bool (decide (a0 < 0))) (fun ν7 => (((Int.tmod a0 a1) != 0) == true)) [false, true] 15) <|
      .cons [16] (ok_valg (fun ν7 => .int .i64 a1) (fun ν7 => (((Int.tmod a0 a1) != 0) == true)) [true] 16) <|
      .cons [17] (ok_valg (fun ν7 => .bool (decide (a1 < 0))) (fun ν7 => (((Int.tmod a0 a1) != 0) == true)) [false, true] 17) <|
      .cons [18] (ok_valg (fun ν7 => .bool (!((decide (a0 < 0)) == (decide (a1 < 0))))) (fun ν7 => (((Int.tmod a0 a1) != 0) == true)) [false, false] 18) <|
      .cons [19] (ok_and 13 18 (fun ν7 => true) (fun ν7 => true) (fun ν7 => ((Int.tmod a0 a1) != 0)) (fun ν7 => (!((decide (a0 < 0)) == (decide (a1 < 0))))) 19) <| .nil) (by kernel_rfl) fun ν7 a w' H => ?_
    replace H := H.toL [(4, .slot true (.int .i64 0)), (5, .slot true (.int .i64 (w_i64 (Int.tdiv a0 a1)))), (19, .slot true (.bool (((Int.tmod a0 a1) != 0) && (!((decide (a0 < 0)) == (decide (a1 < 0)))))))] (by kernel_rfl)
    refine k_cond H (by kernel_rfl) (t := (((Int.tmod a0 a1) != 0) && (!((decide (a0 < 0)) == (decide (a1 < 0)))))) (by kernel_rfl) (fun c10 => ?_) (fun c10 => ?_)
    · rw [if_pos c10] at G
      refine k_reg mixed H (.cons [20] (ok_val (fun ν9 => .int .i64 (w_i64 (Int.tdiv a0 a1))) 20) <|
      .cons [21] (ok_val (fun ν9 => .int .i64 (w_i64 ((w_i64 (Int.tdiv a0 a1)) - 1))) 21) <|
      .cons [5] (ok_val (fun ν9 => .int .i64 (w_i64 ((w_i64 (Int.tdiv a0 a1)) - 1))) 5) <| .nil) (by kernel_rfl) fun ν9 a w' H => ?_
      replace H := H.toL [(4, .slot true (.int .i64 0)), (5, .slot true (.int .i64 (w_i64 ((w_i64 (Int.tdiv a0 a1)) - 1))))] (by kernel_rfl)
      obtain rfl := Option.some.inj G
      exact H.toL _ (by kernel_rfl)
    · rw [if_neg (nt c10)] at G
      refine k_skip ?_
      obtain rfl := Option.some.inj G
      exact H.toL _ (by kernel_rfl)

set_option maxHeartbeats 4000000 in
theorem armillaryref02_Ceil.calls (a0 : Int) (a1 : Int) (r : Int) (w : World) (G : armillaryref02_Ceil a0 a1 = some r) :
    Calls Tryd.prog 26 #[.int .i64 a0, .int .i64 a1] w fun e w' => e = .returned (.int .i64 r) ∧ Below w.heap.size w w' := by
  refine k_enter (args := [.int .i64 a0, .int .i64 a1]) 10 Tryd.func26 rfl (by kernel_rfl) (by kernel_rfl) fun a H => ?_
  unfold armillaryref02_Ceil at G
  refine k_seq ?_
  refine k_reg mixed H (.cons [4] (ok_val (fun ν1 => .int .i64 0) 4) <| .nil) (by kernel_rfl) fun ν1 a w' H => ?_
  replace H := H.toL [(0, .slot true (.int .i64 a0)), (1, .slot true (.int .i64 a1)), (4, .slot true (.int .i64 0))] (by kernel_rfl)
  refine k_seq ?_
  replace G := bnd G; obtain ⟨t3, ht3, G⟩ := G
  refine k_reg mixed H (.cons [5] (ok_val (fun ν2 => .int .i64 a0) 5) <|
      .cons [6] (ok_val (fun ν2 => .int .i64 (w_i64 (0 - a0))) 6) <|
      .cons [7] (ok_val (fun ν2 => .int .i64 a1) 7) <|
      .cons [8] (ok_callv 25 (fun ν2 => #[.int .i64 (w_i64 (0 - a0)), .int .i64 a1]) (.int .i64 t3) 8 [] (fun _ w _ => armillaryref02_Floor.calls (w_i64 (0 - a0)) a1 t3 w ht3)) <|
      .cons [9] (ok_val (fun ν2 => .int .i64 (w_i64 (0 - t3))) 9) <|
      .cons [4] (ok_val (fun ν2 => .int .i64 (w_i64 (0 - t3))) 4) <| .nil) (by kernel_rfl) fun ν2 a w' H => ?_
  replace H := H.toL [(4, .slot true (.int .i64 (w_i64 (0 - t3))))] (by kernel_rfl)
  refine k_ret ?_
  obtain rfl := Option.some.inj G
  exact k_done0 H _ (by kernel_rfl) (by kernel_rfl)

set_option maxHeartbeats 4000000 in
theorem armillarylaw02_contains.calls (a0 : TInterval) (a1 : Int) (a2 : Int) (r : Bool) (w : World) (G : armillarylaw02_contains a0 a1 a2 = some r) :
    Calls Tryd.prog 19 #[.agg #[.int .i64 a0.Lo, .int .i64 a0.Hi], .int .i64 a1, .int .i64 a2] w fun e w' => e = .returned (.bool r) ∧ Below w.heap.size w w' := by
  refine k_enter (args := [.agg #[.int .i64 a0.Lo, .int .i64 a0.Hi], .int .i64 a1, .int .i64 a2]) 25 Tryd.func19 rfl (by kernel_rfl) (by kernel_rfl) fun a H => ?_
  unfold armillarylaw02_contains at G
  refine k_seq ?_
  refine k_reg mixed H (.cons [3, 25] (ok_new (fun b => .pointer (some ⟨b, 0, none⟩)) (fun ν1 => [.int .i64 a0.Lo, .int .i64 a0.Hi]) 23 3 25) <|
      .cons [6] (ok_val (fun ν1 => .bool false) 6) <| .nil) (by kernel_rfl) fun ν1 a w' H => ?_
  replace H := H.toL [(1, .slot true (.int .i64 a1)), (2, .slot true (.int .i64 a2)), (3, .slot true (.pointer (some ⟨((ν1 0).n 0), 0, none⟩))), (6, .slot true (.bool false)), (25, .blk ((ν1 0).n 0) [.int .i64 a0.Lo, .int .i64 a0.Hi] 23)] (by kernel_rfl)
  refine k_seq ?_
  replace G := bnd G; obtain ⟨t3, ht3, G⟩ := G
  replace G := bnd G; obtain ⟨t4, ht4, G⟩ := G
  replace G := bnd G; obtain ⟨t5, ht5, G⟩ := G
  refine k_reg mixed H (.cons [7] (ok_ld (fun ν2 => .agg #[.int .i64 a0.Lo, .int .i64 a0.Hi]) 7 25 0 2 (fun ν2 => ((ν1 0).n 0)) (fun ν2 => [.int .i64 a0.Lo, .int .i64 a0.Hi]) 23) <|
      .cons [8] (ok_callv 13 (fun ν2 => #[.agg #[.int .i64 a0.Lo, .int .i64 a0.Hi]]) (.bool t3) 8 [] (fun _ w _ => armillaryref02_IsEntire.calls a0 t3 w ht3)) <|
      .cons [9] (ok_val (fun ν2 => .bool t3) 9) <|
      .cons [10] (ok_valg (fun ν2 => .int .i64 a1) (fun ν2 => (t3 == false)) [true] 10) <|
      .cons [11] (ok_valg (fun ν2 => .int .i64 a2) (fun ν2 => (t3 == false)) [true] 11) <|
      .cons [12] (ok_call 25 (fun ν2 => #[.int .i64 a1, .int .i64 a2]) (.int .i64 t4) (fun ν2 => (t3 == false)) [true, false, false] 12 [] (fun _ w hg _ => armillaryref02_Floor.calls a1 a2 t4 w (ifp ht4 hg))) <|
      .cons [13] (ok_valg (fun ν2 => .pointer (some ⟨((ν1 0).n 0), 0, none⟩)) (fun ν2 => (t3 == false)) [true] 13) <|
      .cons [14] (ok_ldg (fun ν2 => .int .i64 a0.Lo) (fun ν2 => (t3 == false)) [false] 14 25 0 1 (fun ν2 => ((ν1 0).n 0)) (fun ν2 => [.int .i64 a0.Lo, .int .i64 a0.Hi]) 23) <|
      .cons [15] (ok_valg (fun ν2 => .bool (decide (t4 ≥ a0.Lo))) (fun ν2 => (t3 == false)) [false, false] 15) <|
      .cons [16] (ok_valg (fun ν2 => .bool (decide (t4 ≥ a0.Lo))) (fun ν2 => (t3 == false)) [false] 16) <|
      .cons [17] (ok_valg (fun ν2 => .int .i64 a1) (fun ν2 => ((t3 == false) && ((decide (t4 ≥ a0.Lo)) == true))) [true] 17) <|
      .cons [18] (ok_valg (fun ν2 => .int .i64 a2) (fun ν2 => ((t3 == false) && ((decide (t4 ≥ a0.Lo)) == true))) [true] 18) <|
      .cons [19] (ok_call 26 (fun ν2 => #[.int .i64 a1, .int .i64 a2]) (.int .i64 t5) (fun ν2 => ((t3 == false) && ((decide (t4 ≥ a0.Lo)) == true))) [true, false, false] 19 [] (fun _ w hg _ => armillaryref02_Ceil.calls a1 a2 t5 w (ifp ht5 hg))) <|
      .cons [20] (ok_valg (fun ν2 => .pointer (some ⟨((ν1 0).n 0), 1, none⟩)) (fun ν2 => ((t3 == false) && ((decide (t4 ≥ a0.Lo)) == true))) [true] 20) <|
      .cons [21] (ok_ldg (fun ν2 => .int .i64 a0.Hi) (fun ν2 => ((t3 == false) && ((decide (t4 ≥ a0.Lo)) == true))) [false] 21 25 1 1 (fun ν2 => ((ν1 0).n 0)) (fun ν2 => [.int .i64 a0.Lo, .int .i64 a0.Hi]) 23) <|
      .cons [22] (ok_valg (fun ν2 => .bool (decide (t5 ≤ a0.Hi))) (fun ν2 => ((t3 == false) && ((decide (t4 ≥ a0.Lo)) == true))) [false, false] 22) <|
      .cons [23] (ok_and 16 22 (fun ν2 => (t3 == false)) (fun ν2 => (t3 == false)) (fun ν2 => decide (t4 ≥ a0.Lo)) (fun ν2 => decide (t5 ≤ a0.Hi)) 23) <|
      .cons [24] (ok_or 9 23 (fun ν2 => true) (fun ν2 => true) (fun ν2 => t3) (fun ν2 => ((decide (t4 ≥ a0.Lo)) && (decide (t5 ≤ a0.Hi)))) 24) <|
      .cons [6] (ok_val (fun ν2 => .bool (t3 || ((decide (t4 ≥ a0.Lo)) && (decide (t5 ≤ a0.Hi))))) 6) <| .nil) (by kernel_rfl) fun ν2 a w' H => ?_
  replace H := H.toL [(6, .slot true (.bool (t3 || ((decide (t4 ≥ a0.Lo)) && (decide (t5 ≤ a0.Hi))))))] (by kernel_rfl)
  refine k_ret ?_
  obtain rfl := Option.some.inj G
  exact k_done0 H _ (by kernel_rfl) (by kernel_rfl)

set_option maxHeartbeats 4000000 in
theorem armillaryref02_New.calls (a0 : Int) (a1 : Int) (r : TInterval) (w : World) (G : armillaryref02_New a0 a1 = some r) :
    Calls Tryd.prog 55 #[.int .i64 a0, .int .i64 a1] w fun e w' => e = .returned (.agg #[.int .i64 r.Lo, .int .i64 r.Hi]) ∧ Below w.heap.size w w' := by
  refine k_enter (args := [.int .i64 a0, .int .i64 a1]) 17 Tryd.func55 rfl (by kernel_rfl) (by kernel_rfl) fun a H => ?_
  unfold armillaryref02_New at G
  refine k_seq ?_
  refine k_reg mixed H (.cons [4, 17] (ok_new (fun b => .pointer (some ⟨b, 0, none⟩)) (fun ν1 => [.int .i64 0, .int .i64 0]) 23 4 17) <| .nil) (by kernel_rfl) fun ν1 a w' H => ?_
  replace H := H.toL [(0, .slot true (.int .i64 a0)), (1, .slot true (.int .i64 a1)), (4, .slot true (.pointer (some ⟨((ν1 0).n 0), 0, none⟩))), (17, .blk ((ν1 0).n 0) [.int .i64 0, .int .i64 0] 23)] (by kernel_rfl)
  refine k_seq ?_
  refine k_seq ?_
  replace G := bnd G; obtain ⟨t3, ht3, G⟩ := G
  replace G := bnd G; obtain ⟨t4, ht4, G⟩ := G
  refine k_reg mixed H (.cons [5] (ok_val (fun ν2 => .int .i64 a0) 5) <|
      .cons [6] (ok_callv 73 (fun ν2 => #[.int .i64 a0]) (.bool t3) 6 [] (fun _ w _ => armillaryref02_Number.calls a0 t3 w ht3)) <|
      .cons [7] (ok_val (fun ν2 => .bool (!t3)) 7) <|
      .cons [8] (ok_val (fun ν2 => .bool (!t3)) 8) <|
      .cons [9] (ok_valg (fun ν2 => .int .i64 a1) (fun ν2 => ((!t3) == false)) [true] 9) <|
      .cons [10] (ok_call 73 (fun ν2 => #[.int .i64 a1]) (.bool t4) (fun ν2 => ((!t3) == false)) [true, false] 10 [] (fun _ w hg _ => armillaryref02_Number.calls a1 t4 w (ifp ht4 hg))) <|
      .cons [11] (ok_valg (fun ν2 => .bool (!t4)) (fun ν2 => ((!t3) == false)) [false] 11) <|
      .cons [12] (ok_or 8 11 (fun ν2 => true) (fun ν2 => true) (fun ν2 => (!t3)) (fun ν2 => (!t4)) 12) <| .nil) (by kernel_rfl) fun ν2 a w' H => ?_
  replace H := H.toL [(0, .slot true (.int .i64 a0)), (1, .slot true (.int .i64 a1)), (4, .slot true (.pointer (some ⟨((ν1 0).n 0), 0, none⟩))), (12, .slot true (.bool ((!t3) || (!t4)))), (17, .blk ((ν1 0).n 0) [.int .i64 0, .int .i64 0] 23)] (by kernel_rfl)
  refine k_cond H (by kernel_rfl) (t := ((!t3) || (!t4))) (by kernel_rfl) (fun c8 => ?_) (fun c8 => ?_)
  · rw [if_pos c8] at G
    refine k_seq ?_
    replace G := bnd G; obtain ⟨t6, ht6, G⟩ := G
    refine k_reg mixed H (.cons [13] (ok_callv 51 (fun ν5 => #[]) (.agg #[.int .i64 t6.Lo, .int .i64 t6.Hi]) 13 [] (fun _ w _ => armillaryref02_Entire.calls  t6 w ht6)) <|
      .cons [17] (ok_as (u' := fun ν5 => [(17, .blk ((ν1 0).n 0) [.int .i64 t6.Lo, .int .i64 t6.Hi] 23)]) (ok_store 17 0 (fun ν5 => ((ν1 0).n 0)) (fun ν5 => [.int .i64 0, .int .i64 0]) (fun ν5 => [.int .i64 t6.Lo, .int .i64 t6.Hi]) 23) (fun _ => by kernel_rfl)) <| .nil) (by kernel_rfl) fun ν5 a w' H => ?_
    replace H := H.toL [(0, .slot true (.int .i64 a0)), (1, .slot true (.int .i64 a1)), (4, .slot true (.pointer (some ⟨((ν1 0).n 0), 0, none⟩))), (17, .blk ((ν1 0).n 0) [.int .i64 t6.Lo, .int .i64 t6.Hi] 23)] (by kernel_rfl)
    refine k_ret ?_
    obtain rfl := Option.some.inj G
    exact k_done1 H _ 17 ((ν1 0).n 0) [.int .i64 t6.Lo, .int .i64 t6.Hi] 23 0 2 (by kernel_rfl) (by kernel_rfl) (by kernel_rfl) (by kernel_rfl)
  · rw [if_neg (nt c8)] at G
    refine k_skip ?_
    refine k_seq ?_
    refine k_reg mixed H (.cons [14] (ok_val (fun ν7 => .int .i64 a0) 14) <|
      .cons [15] (ok_val (fun ν7 => .int .i64 a1) 15) <|
      .cons [16] (ok_val (fun ν7 => .agg #[.int .i64 a0, .int .i64 a1]) 16) <|
      .cons [17] (ok_as (u' := fun ν7 => [(17, .blk ((ν1 0).n 0) [.int .i64 a0, .int .i64 a1] 23)]) (ok_store 17 0 (fun ν7 => ((ν1 0).n 0)) (fun ν7 => [.int .i64 0, .int .i64 0]) (fun ν7 => [.int .i64 a0, .int .i64 a1]) 23) (fun _ => by kernel_rfl)) <| .nil) (by kernel_rfl) fun ν7 a w' H => ?_
    replace H := H.toL [(4, .slot true (.pointer (some ⟨((ν1 0).n 0), 0, none⟩))), (17, .blk ((ν1 0).n 0) [.int .i64 a0, .int .i64 a1] 23)] (by kernel_rfl)
    refine k_ret ?_
    obtain rfl := Option.some.inj G
    exact k_done1 H _ 17 ((ν1 0).n 0) [.int .i64 a0, .int .i64 a1] 23 0 2 (by kernel_rfl) (by kernel_rfl) (by kernel_rfl) (by kernel_rfl)

set_option maxHeartbeats 4000000 in
theorem armillarylaw02_widen.calls (a0 : TInterval) (a1 : Int) (a2 : Int) (r : TInterval) (w : World) (G : armillarylaw02_widen a0 a1 a2 = some r) :
    Calls Tryd.prog 27 #[.agg #[.int .i64 a0.Lo, .int .i64 a0.Hi], .int .u32 a1, .int .u32 a2] w fun e w' => e = .returned (.agg #[.int .i64 r.Lo, .int .i64 r.Hi]) ∧ Below w.heap.size w w' := by
  refine k_enter (args := [.agg #[.int .i64 a0.Lo, .int .i64 a0.Hi], .int .u32 a1, .int .u32 a2]) 23 Tryd.func27 rfl (by kernel_rfl) (by kernel_rfl) fun a H => ?_
  unfold armillarylaw02_widen at G
  refine k_seq ?_
  refine k_reg mixed H (.cons [3, 23] (ok_new (fun b => .pointer (some ⟨b, 0, none⟩)) (fun ν1 => [.int .i64 a0.Lo, .int .i64 a0.Hi]) 23 3 23) <|
      .cons [6, 24] (ok_new (fun b => .pointer (some ⟨b, 0, none⟩)) (fun ν1 => [.int .i64 0, .int .i64 0]) 23 6 24) <| .nil) (by kernel_rfl) fun ν1 a w' H => ?_
  replace H := H.toL [(1, .slot true (.int .u32 a1)), (2, .slot true (.int .u32 a2)), (3, .slot true (.pointer (some ⟨((ν1 0).n 0), 0, none⟩))), (6, .slot true (.pointer (some ⟨((ν1 1).n 0), 0, none⟩))), (23, .blk ((ν1 0).n 0) [.int .i64 a0.Lo, .int .i64 a0.Hi] 23), (24, .blk ((ν1 1).n 0) [.int .i64 0, .int .i64 0] 23)] (by kernel_rfl)
  refine k_seq ?_
  refine k_seq ?_
  replace G := bnd G; obtain ⟨t3, ht3, G⟩ := G
  refine k_reg mixed H (.cons [7] (ok_ld (fun ν2 => .agg #[.int .i64 a0.Lo, .int .i64 a0.Hi]) 7 23 0 2 (fun ν2 => ((ν1 0).n 0)) (fun ν2 => [.int .i64 a0.Lo, .int .i64 a0.Hi]) 23) <|
      .cons [8] (ok_callv 13 (fun ν2 => #[.agg #[.int .i64 a0.Lo, .int .i64 a0.Hi]]) (.bool t3) 8 [] (fun _ w _ => armillaryref02_IsEntire.calls a0 t3 w ht3)) <| .nil) (by kernel_rfl) fun ν2 a w' H => ?_
  replace H := H.toL [(1, .slot true (.int .u32 a1)), (2, .slot true (.int .u32 a2)), (3, .slot true (.pointer (some ⟨((ν1 0).n 0), 0, none⟩))), (6, .slot true (.pointer (some ⟨((ν1 1).n 0), 0, none⟩))), (8, .slot true (.bool t3)), (23, .blk ((ν1 0).n 0) [.int .i64 a0.Lo, .int .i64 a0.Hi] 23), (24, .blk ((ν1 1).n 0) [.int .i64 0, .int .i64 0] 23)] (by kernel_rfl)
  refine k_cond H (by kernel_rfl) (t := t3) (by kernel_rfl) (fun c7 => ?_) (fun c7 => ?_)
  · rw [if_pos c7] at G
    refine k_seq ?_
    refine k_reg mixed H (.cons [9] (ok_ld (fun ν4 => .agg #[.int .i64 a0.Lo, .int .i64 a0.Hi]) 9 23 0 2 (fun ν4 => ((ν1 0).n 0)) (fun ν4 => [.int .i64 a0.Lo, .int .i64 a0.Hi]) 23) <|
      .cons [24] (ok_as (u' := fun ν4 => [(24, .blk ((ν1 1).n 0) [.int .i64 a0.Lo, .int .i64 a0.Hi] 23)]) (ok_store 24 0 (fun ν4 => ((ν1 1).n 0)) (fun ν4 => [.int .i64 0, .int .i64 0]) (fun ν4 => [.int .i64 a0.Lo, .int .i64 a0.Hi]) 23) (fun _ => by kernel_rfl)) <| .nil) (by kernel_rfl) fun ν4 a w' H => ?_
    replace H := H.toL [(1, .slot true (.int .u32 a1)), (2, .slot true (.int .u32 a2)), (3, .slot true (.pointer (some ⟨((ν1 0).n 0), 0, none⟩))), (6, .slot true (.pointer (some ⟨((ν1 1).n 0), 0, none⟩))), (23, .blk ((ν1 0).n 0) [.int .i64 a0.Lo, .int .i64 a0.Hi] 23), (24, .blk ((ν1 1).n 0) [.int .i64 a0.Lo, .int .i64 a0.Hi] 23)] (by kernel_rfl)
    refine k_ret ?_
    obtain rfl := Option.some.inj G
    exact k_done1 H _ 24 ((ν1 1).n 0) [.int .i64 a0.Lo, .int .i64 a0.Hi] 23 0 2 (by kernel_rfl) (by kernel_rfl) (by kernel_rfl) (by kernel_rfl)
  · rw [if_neg (nt c7)] at G
    refine k_skip ?_
    refine k_seq ?_
    replace G := bnd G; obtain ⟨t6, ht6, G⟩ := G
    refine k_reg mixed H (.cons [10] (ok_val (fun ν5 => .pointer (some ⟨((ν1 0).n 0), 0, none⟩)) 10) <|
      .cons [11] (ok_ld (fun ν5 => .int .i64 a0.Lo) 11 23 0 1 (fun ν5 => ((ν1 0).n 0)) (fun ν5 => [.int .i64 a0.Lo, .int .i64 a0.Hi]) 23) <|
      .cons [12] (ok_val (fun ν5 => .int .u32 a1) 12) <|
      .cons [13] (ok_val (fun ν5 => .int .u32 (Int.tmod a1 99991)) 13) <|
      .cons [14] (ok_val (fun ν5 => .int .i64 (w_i64 (Int.tmod a1 99991))) 14) <|
      .cons [15] (ok_val (fun ν5 => .int .i64 (w_i64 (a0.Lo - (w_i64 (Int.tmod a1 99991))))) 15) <|
      .cons [16] (ok_val (fun ν5 => .pointer (some ⟨((ν1 0).n 0), 1, none⟩)) 16) <|
      .cons [17] (ok_ld (fun ν5 => .int .i64 a0.Hi) 17 23 1 1 (fun ν5 => ((ν1 0).n 0)) (fun ν5 => [.int .i64 a0.Lo, .int .i64 a0.Hi]) 23) <|
      .cons [18] (ok_val (fun ν5 => .int .u32 a2) 18) <|
      .cons [19] (ok_val (fun ν5 => .int .u32 (Int.tmod a2 99991)) 19) <|
      .cons [20] (ok_val (fun ν5 => .int .i64 (w_i64 (Int.tmod a2 99991))) 20) <|
      .cons [21] (ok_val (fun ν5 => .int .i64 (w_i64 (a0.Hi + (w_i64 (Int.tmod a2 99991))))) 21) <|
      .cons [22] (ok_callv 55 (fun ν5 => #[.int .i64 (w_i64 (a0.Lo - (w_i64 (Int.tmod a1 99991)))), .int .i64 (w_i64 (a0.Hi + (w_i64 (Int.tmod a2 99991))))]) (.agg #[.int .i64 t6.Lo, .int .i64 t6.Hi]) 22 [] (fun _ w _ => armillaryref02_New.calls (w_i64 (a0.Lo - (w_i64 (Int.tmod a1 99991)))) (w_i64 (a0.Hi + (w_i64 (Int.tmod a2 99991)))) t6 w ht6)) <|
      .cons [24] (ok_as (u' := fun ν5 => [(24, .blk ((ν1 1).n 0) [.int .i64 t6.Lo, .int .i64 t6.Hi] 23)]) (ok_store 24 0 (fun ν5 => ((ν1 1).n 0)) (fun ν5 => [.int .i64 0, .int .i64 0]) (fun ν5 => [.int .i64 t6.Lo, .int .i64 t6.Hi]) 23) (fun _ => by kernel_rfl)) <| .nil) (by kernel_rfl) fun ν5 a w' H => ?_
    replace H := H.toL [(6, .slot true (.pointer (some ⟨((ν1 1).n 0), 0, none⟩))), (24, .blk ((ν1 1).n 0) [.int .i64 t6.Lo, .int .i64 t6.Hi] 23)] (by kernel_rfl)
    refine k_ret ?_
    obtain rfl := Option.some.inj G
    exact k_done1 H _ 24 ((ν1 1).n 0) [.int .i64 t6.Lo, .int .i64 t6.Hi] 23 0 2 (by kernel_rfl) (by kernel_rfl) (by kernel_rfl) (by kernel_rfl)

set_option maxHeartbeats 4000000 in
theorem armillaryref02_Contains.calls (a0 : TInterval) (a1 : Int) (r : Bool) (w : World) (G : armillaryref02_Contains a0 a1 = some r) :
    Calls Tryd.prog 40 #[.agg #[.int .i64 a0.Lo, .int .i64 a0.Hi], .int .i64 a1] w fun e w' => e = .returned (.bool r) ∧ Below w.heap.size w w' := by
  refine k_enter (args := [.agg #[.int .i64 a0.Lo, .int .i64 a0.Hi], .int .i64 a1]) 19 Tryd.func40 rfl (by kernel_rfl) (by kernel_rfl) fun a H => ?_
  unfold armillaryref02_Contains at G
  refine k_seq ?_
  refine k_reg mixed H (.cons [2, 19] (ok_new (fun b => .pointer (some ⟨b, 0, none⟩)) (fun ν1 => [.int .i64 a0.Lo, .int .i64 a0.Hi]) 23 2 19) <|
      .cons [4] (ok_val (fun ν1 => .bool false) 4) <| .nil) (by kernel_rfl) fun ν1 a w' H => ?_
  replace H := H.toL [(1, .slot true (.int .i64 a1)), (2, .slot true (.pointer (some ⟨((ν1 0).n 0), 0, none⟩))), (4, .slot true (.bool false)), (19, .blk ((ν1 0).n 0) [.int .i64 a0.Lo, .int .i64 a0.Hi] 23)] (by kernel_rfl)
  refine k_seq ?_
  replace G := bnd G; obtain ⟨t3, ht3, G⟩ := G
  refine k_reg mixed H (.cons [5] (ok_ld (fun ν2 => .agg #[.int .i64 a0.Lo, .int .i64 a0.Hi]) 5 19 0 2 (fun ν2 => ((ν1 0).n 0)) (fun ν2 => [.int .i64 a0.Lo, .int .i64 a0.Hi]) 23) <|
      .cons [6] (ok_callv 13 (fun ν2 => #[.agg #[.int .i64 a0.Lo, .int .i64 a0.Hi]]) (.bool t3) 6 [] (fun _ w _ => armillaryref02_IsEntire.calls a0 t3 w ht3)) <|
      .cons [7] (ok_val (fun ν2 => .bool t3) 7) <|
      .cons [8] (ok_valg (fun ν2 => .pointer (some ⟨((ν1 0).n 0), 0, none⟩)) (fun ν2 => (t3 == false)) [true] 8) <|
      .cons [9] (ok_ldg (fun ν2 => .int .i64 a0.Lo) (fun ν2 => (t3 == false)) [false] 9 19 0 1 (fun ν2 => ((ν1 0).n 0)) (fun ν2 => [.int .i64 a0.Lo, .int .i64 a0.Hi]) 23) <|
      .cons [10] (ok_valg (fun ν2 => .int .i64 a1) (fun ν2 => (t3 == false)) [true] 10) <|
      .cons [11] (ok_valg (fun ν2 => .bool (decide (a0.Lo ≤ a1))) (fun ν2 => (t3 == false)) [false, false] 11) <|
      .cons [12] (ok_valg (fun ν2 => .bool (decide (a0.Lo ≤ a1))) (fun ν2 => (t3 == false)) [false] 12) <|
      .cons [13] (ok_valg (fun ν2 => .int .i64 a1) (fun ν2 => ((t3 == false) && ((decide (a0.Lo ≤ a1)) == true))) [true] 13) <|
      .cons [14] (ok_valg (fun ν2 => .pointer (some ⟨((ν1 0).n 0), 1, none⟩)) (fun ν2 => ((t3 == false) && ((decide (a0.Lo ≤ a1)) == true))) [true] 14) <|
      .cons [15] (ok_ldg (fun ν2 => .int .i64 a0.Hi) (fun ν2 => ((t3 == false) && ((decide (a0.Lo ≤ a1)) == true))) [false] 15 19 1 1 (fun ν2 => ((ν1 0).n 0)) (fun ν2 => [.int .i64 a0.Lo, .int .i64 a0.Hi]) 23) <|
      .cons [16] (ok_valg (fun ν2 => .bool (decide (a1 ≤ a0.Hi))) (fun ν2 => ((t3 == false) && ((decide (a0.Lo ≤ a1)) == true))) [false, false] 16) <|
      .cons [17] (ok_and 12 16 (fun ν2 => (t3 == false)) (fun ν2 => (t3 == false)) (fun ν2 => decide (a0.Lo ≤ a1)) (fun ν2 => decide (a1 ≤ a0.Hi)) 17) <|
      .cons [18] (ok_or 7 17 (fun ν2 => true) (fun ν2 => true) (fun ν2 => t3) (fun ν2 => ((decide (a0.Lo ≤ a1)) && (decide (a1 ≤ a0.Hi)))) 18) <|
      .cons [4] (ok_val (fun ν2 => .bool (t3 || ((decide (a0.Lo ≤ a1)) && (decide (a1 ≤ a0.Hi))))) 4) <| .nil) (by kernel_rfl) fun ν2 a w' H => ?_
  replace H := H.toL [(4, .slot true (.bool (t3 || ((decide (a0.Lo ≤ a1)) && (decide (a1 ≤ a0.Hi))))))] (by kernel_rfl)
  refine k_ret ?_
  obtain rfl := Option.some.inj G
  exact k_done0 H _ (by kernel_rfl) (by kernel_rfl)

set_option maxHeartbeats 4000000 in
theorem armillaryref02_Root.calls (k0 : Nat) (a0 : Int) (r : Int) (w : World) (G : armillaryref02_Root k0 a0 = some r) :
    Calls Tryd.prog 74 #[.int .i64 a0] w fun e w' => e = .returned (.int .i64 r) ∧ Below w.heap.size w w' := by
  refine k_enter (args := [.int .i64 a0]) 22 Tryd.func74 rfl (by kernel_rfl) (by kernel_rfl) fun a H => ?_
  unfold armillaryref02_Root at G
  refine k_seq ?_
  refine k_reg mixed H (.cons [2] (ok_val (fun ν1 => .int .i64 0) 2) <| .nil) (by kernel_rfl) fun ν1 a w' H => ?_
  replace H := H.toL [(0, .slot true (.int .i64 a0)), (2, .slot true (.int .i64 0))] (by kernel_rfl)
  refine k_seq ?_
  refine k_reg mixed H (.cons [3] (ok_val (fun ν2 => .int .i64 0) 3) <| .nil) (by kernel_rfl) fun ν2 a w' H => ?_
  replace H := H.toL [(0, .slot true (.int .i64 a0)), (2, .slot true (.int .i64 0)), (3, .slot true (.int .i64 0))] (by kernel_rfl)
  refine k_seq ?_
  replace G := bnd G; obtain ⟨j4, hj4, G⟩ := G
  refine k_join (fun a w' => Rep w.heap.size w 22 (ofL [(2, .slot true (.int .i64 0)), (3, .slot true (.int .i64 j4))]) a w') ?_ ?_
  · clear H; intro a w' H
    refine k_seq ?_
    refine k_reg mixed H (.cons [21] (ok_val (fun ν5 => .int .i64 j4) 21) <|
      .cons [2] (ok_val (fun ν5 => .int .i64 j4) 2) <| .nil) (by kernel_rfl) fun ν5 a w' H => ?_
    replace H := H.toL [(2, .slot true (.int .i64 j4))] (by kernel_rfl)
    refine k_ret ?_
    obtain rfl := Option.some.inj G
    exact k_done0 H _ (by kernel_rfl) (by kernel_rfl)
  · clear G; replace G := hj4; clear hj4
    refine k_seq ?_
    refine k_reg mixed H (.cons [4] (ok_val (fun ν6 => .int .i64 1073741824) 4) <| .nil) (by kernel_rfl) fun ν6 a w' H => ?_
    replace H := H.toL [(0, .slot true (.int .i64 a0)), (2, .slot true (.int .i64 0)), (3, .slot true (.int .i64 0)), (4, .slot true (.int .i64 1073741824))] (by kernel_rfl)
    refine k_block ?_
    refine k_loopJ (fun m a w' => ∃ x7 : Int, ∃ x8 : Int, armillaryref02_Root.l9 k0 a0 m x7 x8 = some j4 ∧ Rep w.heap.size w 22 (ofL [(0, .slot true (.int .i64 a0)), (2, .slot true (.int .i64 0)), (3, .slot true (.int .i64 x7)), (4, .slot true (.int .i64 x8))]) a w') k0 ⟨_, _, G, H.toL _ (by kernel_rfl)⟩ ?_
    clear G H
    rintro (_ | k) a w' ⟨x7, x8, G, H⟩
    · exact absurd G (by unfold armillaryref02_Root.l9; exact fun h => by cases h)
    · unfold armillaryref02_Root.l9 at G
      refine k_seq ?_
      refine k_seq ?_
      refine k_reg mixed H (.cons [5] (ok_val (fun ν10 => .int .i64 x8) 5) <|
      .cons [6] (ok_val (fun ν10 => .bool (decide (x8 > 0))) 6) <| .nil) (by kernel_rfl) fun ν10 a w' H => ?_
      replace H := H.toL [(0, .slot true (.int .i64 a0)), (2, .slot true (.int .i64 0)), (3, .slot true (.int .i64 x7)), (4, .slot true (.int .i64 x8)), (5, .slot true (.int .i64 x8)), (6, .slot true (.bool (decide (x8 > 0))))] (by kernel_rfl)
      refine k_cond H (by kernel_rfl) (t := decide (x8 > 0)) (by kernel_rfl) (fun c17 => ?_) (fun c17 => ?_)
      · rw [if_pos c17] at G
        refine k_skip ?_
        refine k_seq ?_
        replace G := bnd G; obtain ⟨j12, hj12, G⟩ := G
        refine k_join (fun a w' => Rep w.heap.size w 22 (ofL [(0, .slot true (.int .i64 a0)), (2, .slot true (.int .i64 0)), (3, .slot true (.int .i64 j12)), (4, .slot true (.int .i64 x8)), (5, .slot true (.int .i64 x8)), (6, .slot true (.bool (decide (x8 > 0)))), (9, .slot true (.int .i64 x7)), (10, .slot true (.int .i64 x8)), (11, .slot true (.int .i64 (w_i64 (x7 + x8)))), (12, .slot true (.int .i64 x7)), (13, .slot true (.int .i64 x8)), (14, .slot true (.int .i64 (w_i64 (x7 + x8)))), (15, .slot true (.int .i64 (w_i64 ((w_i64 (x7 + x8)) * (w_i64 (x7 + x8)))))), (16, .slot true (.int .i64 a0)), (17, .slot true (.bool (decide ((w_i64 ((w_i64 (x7 + x8)) * (w_i64 (x7 + x8)))) ≤ a0))))]) a w') ?_ ?_
        · clear H; intro a w' H
          refine k_reg mixed H (.cons [7] (ok_val (fun ν13 => .int .i64 x8) 7) <|
      .cons [8] (ok_val (fun ν13 => .int .i64 (w_i64 (Int.tdiv x8 2))) 8) <|
      .cons [4] (ok_val (fun ν13 => .int .i64 (w_i64 (Int.tdiv x8 2))) 4) <| .nil) (by kernel_rfl) fun ν13 a w' H => ?_
          replace H := H.toL [(0, .slot true (.int .i64 a0)), (2, .slot true (.int .i64 0)), (3, .slot true (.int .i64 j12)), (4, .slot true (.int .i64 (w_i64 (Int.tdiv x8 2)))), (5, .slot true (.int .i64 x8)), (6, .slot true (.bool (decide (x8 > 0)))), (7, .slot true (.int .i64 x8)), (8, .slot true (.int .i64 (w_i64 (Int.tdiv x8 2)))), (9, .slot true (.int .i64 x7)), (10, .slot true (.int .i64 x8)), (11, .slot true (.int .i64 (w_i64 (x7 + x8)))), (12, .slot true (.int .i64 x7)), (13, .slot true (.int .i64 x8)), (14, .slot true (.int .i64 (w_i64 (x7 + x8)))), (15, .slot true (.int .i64 (w_i64 ((w_i64 (x7 + x8)) * (w_i64 (x7 + x8)))))), (16, .slot true (.int .i64 a0)), (17, .slot true (.bool (decide ((w_i64 ((w_i64 (x7 + x8)) * (w_i64 (x7 + x8)))) ≤ a0))))] (by kernel_rfl)
          exact ⟨k, Nat.lt_succ_self k, _, _, G, H.toL _ (by kernel_rfl)⟩
        · clear G; replace G := hj12; clear hj12
          refine k_block ?_
          refine k_seq ?_
          refine k_reg mixed H (.cons [9] (ok_val (fun ν14 => .int .i64 x7) 9) <|
      .cons [10] (ok_val (fun ν14 => .int .i64 x8) 10) <|
      .cons [11] (ok_val (fun ν14 => .int .i64 (w_i64 (x7 + x8))) 11) <|
      .cons [12] (ok_val (fun ν14 => .int .i64 x7) 12) <|
      .cons [13] (ok_val (fun ν14 => .int .i64 x8) 13) <|
      .cons [14] (ok_val (fun ν14 => .int .i64 (w_i64 (x7 + x8))) 14) <|
      .cons [15] (ok_val (fun ν14 => .int .i64 (w_i64 ((w_i64 (x7 + x8)) * (w_i64 (x7 + x8))))) 15) <|
      .cons [16] (ok_val (fun ν14 => .int .i64 a0) 16) <|
      .cons [17] (ok_val (fun ν14 => .bool (decide ((w_i64 ((w_i64 (x7 + x8)) * (w_i64 (x7 + x8)))) ≤ a0))) 17) <| .nil) (by kernel_rfl) fun ν14 a w' H => ?_
          replace H := H.toL [(0, .slot true (.int .i64 a0)), (2, .slot true (.int .i64 0)), (3, .slot true (.int .i64 x7)), (4, .slot true (.int .i64 x8)), (5, .slot true (.int .i64 x8)), (6, .slot true (.bool (decide (x8 > 0)))), (9, .slot true (.int .i64 x7)), (10, .slot true (.int .i64 x8)), (11, .slot true (.int .i64 (w_i64 (x7 + x8)))), (12, .slot true (.int .i64 x7)), (13, .slot true (.int .i64 x8)), (14, .slot true (.int .i64 (w_i64 (x7 + x8)))), (15, .slot true (.int .i64 (w_i64 ((w_i64 (x7 + x8)) * (w_i64 (x7 + x8)))))), (16, .slot true (.int .i64 a0)), (17, .slot true (.bool (decide ((w_i64 ((w_i64 (x7 + x8)) * (w_i64 (x7 + x8)))) ≤ a0))))] (by kernel_rfl)
          refine k_cond H (by kernel_rfl) (t := decide ((w_i64 ((w_i64 (x7 + x8)) * (w_i64 (x7 + x8)))) ≤ a0)) (by kernel_rfl) (fun c16 => ?_) (fun c16 => ?_)
          · rw [if_pos c16] at G
            refine k_reg mixed H (.cons [18] (ok_val (fun ν15 => .int .i64 x7) 18) <|
      .cons [19] (ok_val (fun ν15 => .int .i64 x8) 19) <|
      .cons [20] (ok_val (fun ν15 => .int .i64 (w_i64 (x7 + x8))) 20) <|
      .cons [3] (ok_val (fun ν15 => .int .i64 (w_i64 (x7 + x8))) 3) <| .nil) (by kernel_rfl) fun ν15 a w' H => ?_
            replace H := H.toL [(0, .slot true (.int .i64 a0)), (2, .slot true (.int .i64 0)), (3, .slot true (.int .i64 (w_i64 (x7 + x8)))), (4, .slot true (.int .i64 x8)), (5, .slot true (.int .i64 x8)), (6, .slot true (.bool (decide (x8 > 0)))), (9, .slot true (.int .i64 x7)), (10, .slot true (.int .i64 x8)), (11, .slot true (.int .i64 (w_i64 (x7 + x8)))), (12, .slot true (.int .i64 x7)), (13, .slot true (.int .i64 x8)), (14, .slot true (.int .i64 (w_i64 (x7 + x8)))), (15, .slot true (.int .i64 (w_i64 ((w_i64 (x7 + x8)) * (w_i64 (x7 + x8)))))), (16, .slot true (.int .i64 a0)), (17, .slot true (.bool (decide ((w_i64 ((w_i64 (x7 + x8)) * (w_i64 (x7 + x8)))) ≤ a0)))), (18, .slot true (.int .i64 x7)), (19, .slot true (.int .i64 x8)), (20, .slot true (.int .i64 (w_i64 (x7 + x8))))] (by kernel_rfl)
            obtain rfl := Option.some.inj G
            exact H.toL _ (by kernel_rfl)
          · rw [if_neg (nt c16)] at G
            refine k_skip ?_
            obtain rfl := Option.some.inj G
            exact H.toL _ (by kernel_rfl)
      · rw [if_neg (nt c17)] at G
        refine k_exit rfl ?_
        obtain rfl := Option.some.inj G
        exact H.toL _ (by kernel_rfl)

set_option maxHeartbeats 4000000 in
theorem armillaryref02_Sqrt.calls (k0 : Nat) (a0 : TInterval) (r : TInterval × Bool) (w : World) (G : armillaryref02_Sqrt k0 a0 = some r) :
    Calls Tryd.prog 41 #[.agg #[.int .i64 a0.Lo, .int .i64 a0.Hi]] w fun e w' => e = .returned (.tuple #[.agg #[.int .i64 r.1.Lo, .int .i64 r.1.Hi], .bool r.2]) ∧ Below w.heap.size w w' := by
  refine k_enter (args := [.agg #[.int .i64 a0.Lo, .int .i64 a0.Hi]]) 34 Tryd.func41 rfl (by kernel_rfl) (by kernel_rfl) fun a H => ?_
  unfold armillaryref02_Sqrt at G
  refine k_seq ?_
  refine k_reg mixed H (.cons [1, 34] (ok_new (fun b => .pointer (some ⟨b, 0, none⟩)) (fun ν1 => [.int .i64 a0.Lo, .int .i64 a0.Hi]) 23 1 34) <|
      .cons [2, 35] (ok_new (fun b => .pointer (some ⟨b, 0, none⟩)) (fun ν1 => [.int .i64 0, .int .i64 0]) 23 2 35) <|
      .cons [3] (ok_val (fun ν1 => .bool false) 3) <| .nil) (by kernel_rfl) fun ν1 a w' H => ?_
  replace H := H.toL [(1, .slot true (.pointer (some ⟨((ν1 0).n 0), 0, none⟩))), (2, .slot true (.pointer (some ⟨((ν1 1).n 0), 0, none⟩))), (3, .slot true (.bool false)), (34, .blk ((ν1 0).n 0) [.int .i64 a0.Lo, .int .i64 a0.Hi] 23), (35, .blk ((ν1 1).n 0) [.int .i64 0, .int .i64 0] 23)] (by kernel_rfl)
  refine k_seq ?_
  refine k_seq ?_
  replace G := bnd G; obtain ⟨t3, ht3, G⟩ := G
  refine k_reg mixed H (.cons [6] (ok_ld (fun ν2 => .agg #[.int .i64 a0.Lo, .int .i64 a0.Hi]) 6 34 0 2 (fun ν2 => ((ν1 0).n 0)) (fun ν2 => [.int .i64 a0.Lo, .int .i64 a0.Hi]) 23) <|
      .cons [7] (ok_callv 13 (fun ν2 => #[.agg #[.int .i64 a0.Lo, .int .i64 a0.Hi]]) (.bool t3) 7 [] (fun _ w _ => armillaryref02_IsEntire.calls a0 t3 w ht3)) <| .nil) (by kernel_rfl) fun ν2 a w' H => ?_
  replace H := H.toL [(1, .slot true (.pointer (some ⟨((ν1 0).n 0), 0, none⟩))), (2, .slot true (.pointer (some ⟨((ν1 1).n 0), 0, none⟩))), (3, .slot true (.bool false)), (7, .slot true (.bool t3)), (34, .blk ((ν1 0).n 0) [.int .i64 a0.Lo, .int .i64 a0.Hi] 23), (35, .blk ((ν1 1).n 0) [.int .i64 0, .int .i64 0] 23)] (by kernel_rfl)
  refine k_cond H (by kernel_rfl) (t := t3) (by kernel_rfl) (fun c18 => ?_) (fun c18 => ?_)
  · rw [if_pos c18] at G
    refine k_seq ?_
    refine k_reg mixed H (.cons [8] (ok_ld (fun ν4 => .agg #[.int .i64 a0.Lo, .int .i64 a0.Hi]) 8 34 0 2 (fun ν4 => ((ν1 0).n 0)) (fun ν4 => [.int .i64 a0.Lo, .int .i64 a0.Hi]) 23) <|
      .cons [35] (ok_as (u' := fun ν4 => [(35, .blk ((ν1 1).n 0) [.int .i64 a0.Lo, .int .i64 a0.Hi] 23)]) (ok_store 35 0 (fun ν4 => ((ν1 1).n 0)) (fun ν4 => [.int .i64 0, .int .i64 0]) (fun ν4 => [.int .i64 a0.Lo, .int .i64 a0.Hi]) 23) (fun _ => by kernel_rfl)) <|
      .cons [3] (ok_val (fun ν4 => .bool true) 3) <| .nil) (by kernel_rfl) fun ν4 a w' H => ?_
    replace H := H.toL [(1, .slot true (.pointer (some ⟨((ν1 0).n 0), 0, none⟩))), (2, .slot true (.pointer (some ⟨((ν1 1).n 0), 0, none⟩))), (3, .slot true (.bool true)), (34, .blk ((ν1 0).n 0) [.int .i64 a0.Lo, .int .i64 a0.Hi] 23), (35, .blk ((ν1 1).n 0) [.int .i64 a0.Lo, .int .i64 a0.Hi] 23)] (by kernel_rfl)
    refine k_ret ?_
    obtain rfl := Option.some.inj G
    exact k_done1 H _ 35 ((ν1 1).n 0) [.int .i64 a0.Lo, .int .i64 a0.Hi] 23 0 2 (by kernel_rfl) (by kernel_rfl) (by kernel_rfl) (by kernel_rfl)
  · rw [if_neg (nt c18)] at G
    refine k_skip ?_
    refine k_seq ?_
    refine k_seq ?_
    refine k_reg mixed H (.cons [9] (ok_val (fun ν5 => .pointer (some ⟨((ν1 0).n 0), 1, none⟩)) 9) <|
      .cons [10] (ok_ld (fun ν5 => .int .i64 a0.Hi) 10 34 1 1 (fun ν5 => ((ν1 0).n 0)) (fun ν5 => [.int .i64 a0.Lo, .int .i64 a0.Hi]) 23) <|
      .cons [11] (ok_val (fun ν5 => .bool (decide (a0.Hi < 0))) 11) <| .nil) (by kernel_rfl) fun ν5 a w' H => ?_
    replace H := H.toL [(1, .slot true (.pointer (some ⟨((ν1 0).n 0), 0, none⟩))), (2, .slot true (.pointer (some ⟨((ν1 1).n 0), 0, none⟩))), (3, .slot true (.bool false)), (11, .slot true (.bool (decide (a0.Hi < 0)))), (34, .blk ((ν1 0).n 0) [.int .i64 a0.Lo, .int .i64 a0.Hi] 23), (35, .blk ((ν1 1).n 0) [.int .i64 0, .int .i64 0] 23)] (by kernel_rfl)
    refine k_cond H (by kernel_rfl) (t := decide (a0.Hi < 0)) (by kernel_rfl) (fun c17 => ?_) (fun c17 => ?_)
    · rw [if_pos c17] at G
      refine k_seq ?_
      refine k_reg mixed H (.cons [12] (ok_val (fun ν6 => .agg #[.int .i64 0, .int .i64 0]) 12) <|
      .cons [35] (ok_as (u' := fun ν6 => [(35, .blk ((ν1 1).n 0) [.int .i64 0, .int .i64 0] 23)]) (ok_store 35 0 (fun ν6 => ((ν1 1).n 0)) (fun ν6 => [.int .i64 0, .int .i64 0]) (fun ν6 => [.int .i64 0, .int .i64 0]) 23) (fun _ => by kernel_rfl)) <|
      .cons [3] (ok_val (fun ν6 => .bool false) 3) <| .nil) (by kernel_rfl) fun ν6 a w' H => ?_
      replace H := H.toL [(1, .slot true (.pointer (some ⟨((ν1 0).n 0), 0, none⟩))), (2, .slot true (.pointer (some ⟨((ν1 1).n 0), 0, none⟩))), (3, .slot true (.bool false)), (34, .blk ((ν1 0).n 0) [.int .i64 a0.Lo, .int .i64 a0.Hi] 23), (35, .blk ((ν1 1).n 0) [.int .i64 0, .int .i64 0] 23)] (by kernel_rfl)
      refine k_ret ?_
      obtain rfl := Option.some.inj G
      exact k_done1 H _ 35 ((ν1 1).n 0) [.int .i64 0, .int .i64 0] 23 0 2 (by kernel_rfl) (by kernel_rfl) (by kernel_rfl) (by kernel_rfl)
    · rw [if_neg (nt c17)] at G
      refine k_skip ?_
      refine k_seq ?_
      replace G := bnd G; obtain ⟨t8, ht8, G⟩ := G
      replace G := bnd G; obtain ⟨t9, ht9, G⟩ := G
      refine k_reg mixed H (.cons [13] (ok_val (fun ν7 => .pointer (some ⟨((ν1 0).n 0), 0, none⟩)) 13) <|
      .cons [14] (ok_ld (fun ν7 => .int .i64 a0.Lo) 14 34 0 1 (fun ν7 => ((ν1 0).n 0)) (fun ν7 => [.int .i64 a0.Lo, .int .i64 a0.Hi]) 23) <|
      .cons [15] (ok_val (fun ν7 => .int .i64 (mx a0.Lo 0)) 15) <|
      .cons [16] (ok_val (fun ν7 => .int .i64 (w_i64 ((mx a0.Lo 0) * 65536))) 16) <|
      .cons [17] (ok_callv 74 (fun ν7 => #[.int .i64 (w_i64 ((mx a0.Lo 0) * 65536))]) (.int .i64 t8) 17 [] (fun _ w _ => armillaryref02_Root.calls k0 (w_i64 ((mx a0.Lo 0) * 65536)) t8 w ht8)) <|
      .cons [18] (ok_val (fun ν7 => .pointer (some ⟨((ν1 0).n 0), 1, none⟩)) 18) <|
      .cons [19] (ok_ld (fun ν7 => .int .i64 a0.Hi) 19 34 1 1 (fun ν7 => ((ν1 0).n 0)) (fun ν7 => [.int .i64 a0.Lo, .int .i64 a0.Hi]) 23) <|
      .cons [20] (ok_val (fun ν7 => .int .i64 (w_i64 (a0.Hi * 65536))) 20) <|
      .cons [21] (ok_callv 74 (fun ν7 => #[.int .i64 (w_i64 (a0.Hi * 65536))]) (.int .i64 t9) 21 [] (fun _ w _ => armillaryref02_Root.calls k0 (w_i64 (a0.Hi * 65536)) t9 w ht9)) <|
      .cons [4] (ok_val (fun ν7 => .int .i64 t8) 4) <|
      .cons [5] (ok_val (fun ν7 => .int .i64 t9) 5) <| .nil) (by kernel_rfl) fun ν7 a w' H => ?_
      replace H := H.toL [(1, .slot true (.pointer (some ⟨((ν1 0).n 0), 0, none⟩))), (2, .slot true (.pointer (some ⟨((ν1 1).n 0), 0, none⟩))), (3, .slot true (.bool false)), (4, .slot true (.int .i64 t8)), (5, .slot true (.int .i64 t9)), (34, .blk ((ν1 0).n 0) [.int .i64 a0.Lo, .int .i64 a0.Hi] 23), (35, .blk ((ν1 1).n 0) [.int .i64 0, .int .i64 0] 23)] (by kernel_rfl)
      refine k_seq ?_
      replace G := bnd G; obtain ⟨j11, hj11, G⟩ := G
      refine k_join (fun a w' => Rep w.heap.size w 34 (ofL [(2, .slot true (.pointer (some ⟨((ν1 1).n 0), 0, none⟩))), (3, .slot true (.bool false)), (4, .slot true (.int .i64 t8)), (5, .slot true (.int .i64 j11)), (35, .blk ((ν1 1).n 0) [.int .i64 0, .int .i64 0] 23)]) a w') ?_ ?_
      · clear H; intro a w' H
        refine k_seq ?_
        replace G := bnd G; obtain ⟨t13, ht13, G⟩ := G
        refine k_reg mixed H (.cons [31] (ok_val (fun ν12 => .int .i64 t8) 31) <|
      .cons [32] (ok_val (fun ν12 => .int .i64 j11) 32) <|
      .cons [33] (ok_callv 55 (fun ν12 => #[.int .i64 t8, .int .i64 j11]) (.agg #[.int .i64 t13.Lo, .int .i64 t13.Hi]) 33 [] (fun _ w _ => armillaryref02_New.calls t8 j11 t13 w ht13)) <|
      .cons [35] (ok_as (u' := fun ν12 => [(35, .blk ((ν1 1).n 0) [.int .i64 t13.Lo, .int .i64 t13.Hi] 23)]) (ok_store 35 0 (fun ν12 => ((ν1 1).n 0)) (fun ν12 => [.int .i64 0, .int .i64 0]) (fun ν12 => [.int .i64 t13.Lo, .int .i64 t13.Hi]) 23) (fun _ => by kernel_rfl)) <|
      .cons [3] (ok_val (fun ν12 => .bool true) 3) <| .nil) (by kernel_rfl) fun ν12 a w' H => ?_
        replace H := H.toL [(2, .slot true (.pointer (some ⟨((ν1 1).n 0), 0, none⟩))), (3, .slot true (.bool true)), (35, .blk ((ν1 1).n 0) [.int .i64 t13.Lo, .int .i64 t13.Hi] 23)] (by kernel_rfl)
        refine k_ret ?_
        obtain rfl := Option.some.inj G
        exact k_done1 H _ 35 ((ν1 1).n 0) [.int .i64 t13.Lo, .int .i64 t13.Hi] 23 0 2 (by kernel_rfl) (by kernel_rfl) (by kernel_rfl) (by kernel_rfl)
      · clear G; replace G := hj11; clear hj11
        refine k_seq ?_
        refine k_reg mixed H (.cons [22] (ok_val (fun ν14 => .int .i64 t9) 22) <|
      .cons [23] (ok_val (fun ν14 => .int .i64 t9) 23) <|
      .cons [24] (ok_val (fun ν14 => .int .i64 (w_i64 (t9 * t9))) 24) <|
      .cons [25] (ok_val (fun ν14 => .pointer (some ⟨((ν1 0).n 0), 1, none⟩)) 25) <|
      .cons [26] (ok_ld (fun ν14 => .int .i64 a0.Hi) 26 34 1 1 (fun ν14 => ((ν1 0).n 0)) (fun ν14 => [.int .i64 a0.Lo, .int .i64 a0.Hi]) 23) <|
      .cons [27] (ok_val (fun ν14 => .int .i64 (w_i64 (a0.Hi * 65536))) 27) <|
      .cons [28] (ok_val (fun ν14 => .bool (decide ((w_i64 (t9 * t9)) < (w_i64 (a0.Hi * 65536))))) 28) <| .nil) (by kernel_rfl) fun ν14 a w' H => ?_
        replace H := H.toL [(2, .slot true (.pointer (some ⟨((ν1 1).n 0), 0, none⟩))), (3, .slot true (.bool false)), (4, .slot true (.int .i64 t8)), (5, .slot true (.int .i64 t9)), (28, .slot true (.bool (decide ((w_i64 (t9 * t9)) < (w_i64 (a0.Hi * 65536)))))), (35, .blk ((ν1 1).n 0) [.int .i64 0, .int .i64 0] 23)] (by kernel_rfl)
        refine k_cond H (by kernel_rfl) (t := decide ((w_i64 (t9 * t9)) < (w_i64 (a0.Hi * 65536)))) (by kernel_rfl) (fun c16 => ?_) (fun c16 => ?_)
        · rw [if_pos c16] at G
          refine k_reg mixed H (.cons [29] (ok_val (fun ν15 => .int .i64 t9) 29) <|
      .cons [30] (ok_val (fun ν15 => .int .i64 (w_i64 (t9 + 1))) 30) <|
      .cons [5] (ok_val (fun ν15 => .int .i64 (w_i64 (t9 + 1))) 5) <| .nil) (by kernel_rfl) fun ν15 a w' H => ?_
          replace H := H.toL [(2, .slot true (.pointer (some ⟨((ν1 1).n 0), 0, none⟩))), (3, .slot true (.bool false)), (4, .slot true (.int .i64 t8)), (5, .slot true (.int .i64 (w_i64 (t9 + 1)))), (35, .blk ((ν1 1).n 0) [.int .i64 0, .int .i64 0] 23)] (by kernel_rfl)
          obtain rfl := Option.some.inj G
          exact H.toL _ (by kernel_rfl)
        · rw [if_neg (nt c16)] at G
          refine k_skip ?_
          obtain rfl := Option.some.inj G
          exact H.toL _ (by kernel_rfl)

set_option maxHeartbeats 4000000 in
theorem armillaryref02_Intersect.calls (a0 : TInterval) (a1 : TInterval) (r : TInterval × Bool) (w : World) (G : armillaryref02_Intersect a0 a1 = some r) :
    Calls Tryd.prog 42 #[.agg #[.int .i64 a0.Lo, .int .i64 a0.Hi], .agg #[.int .i64 a1.Lo, .int .i64 a1.Hi]] w fun e w' => e = .returned (.tuple #[.agg #[.int .i64 r.1.Lo, .int .i64 r.1.Hi], .bool r.2]) ∧ Below w.heap.size w w' := by
  refine k_enter (args := [.agg #[.int .i64 a0.Lo, .int .i64 a0.Hi], .agg #[.int .i64 a1.Lo, .int .i64 a1.Hi]]) 25 Tryd.func42 rfl (by kernel_rfl) (by kernel_rfl) fun a H => ?_
  unfold armillaryref02_Intersect at G
  refine k_seq ?_
  refine k_reg mixed H (.cons [2, 25] (ok_new (fun b => .pointer (some ⟨b, 0, none⟩)) (fun ν1 => [.int .i64 a0.Lo, .int .i64 a0.Hi]) 23 2 25) <|
      .cons [3, 26] (ok_new (fun b => .pointer (some ⟨b, 0, none⟩)) (fun ν1 => [.int .i64 a1.Lo, .int .i64 a1.Hi]) 23 3 26) <|
      .cons [4, 27] (ok_new (fun b => .pointer (some ⟨b, 0, none⟩)) (fun ν1 => [.int .i64 0, .int .i64 0]) 23 4 27) <|
      .cons [5] (ok_val (fun ν1 => .bool false) 5) <| .nil) (by kernel_rfl) fun ν1 a w' H => ?_
  replace H := H.toL [(2, .slot true (.pointer (some ⟨((ν1 0).n 0), 0, none⟩))), (3, .slot true (.pointer (some ⟨((ν1 1).n 0), 0, none⟩))), (4, .slot true (.pointer (some ⟨((ν1 2).n 0), 0, none⟩))), (5, .slot true (.bool false)), (25, .blk ((ν1 0).n 0) [.int .i64 a0.Lo, .int .i64 a0.Hi] 23), (26, .blk ((ν1 1).n 0) [.int .i64 a1.Lo, .int .i64 a1.Hi] 23), (27, .blk ((ν1 2).n 0) [.int .i64 0, .int .i64 0] 23)] (by kernel_rfl)
  refine k_seq ?_
  refine k_reg mixed H (.cons [7] (ok_val (fun ν2 => .pointer (some ⟨((ν1 0).n 0), 0, none⟩)) 7) <|
      .cons [8] (ok_ld (fun ν2 => .int .i64 a0.Lo) 8 25 0 1 (fun ν2 => ((ν1 0).n 0)) (fun ν2 => [.int .i64 a0.Lo, .int .i64 a0.Hi]) 23) <|
      .cons [9] (ok_val (fun ν2 => .pointer (some ⟨((ν1 1).n 0), 0, none⟩)) 9) <|
      .cons [10] (ok_ld (fun ν2 => .int .i64 a1.Lo) 10 26 0 1 (fun ν2 => ((ν1 1).n 0)) (fun ν2 => [.int .i64 a1.Lo, .int .i64 a1.Hi]) 23) <|
      .cons [11] (ok_val (fun ν2 => .int .i64 (mx a0.Lo a1.Lo)) 11) <|
      .cons [12] (ok_val (fun ν2 => .pointer (some ⟨((ν1 0).n 0), 1, none⟩)) 12) <|
      .cons [13] (ok_ld (fun ν2 => .int .i64 a0.Hi) 13 25 1 1 (fun ν2 => ((ν1 0).n 0)) (fun ν2 => [.int .i64 a0.Lo, .int .i64 a0.Hi]) 23) <|
      .cons [14] (ok_val (fun ν2 => .pointer (some ⟨((ν1 1).n 0), 1, none⟩)) 14) <|
      .cons [15] (ok_ld (fun ν2 => .int .i64 a1.Hi) 15 26 1 1 (fun ν2 => ((ν1 1).n 0)) (fun ν2 => [.int .i64 a1.Lo, .int .i64 a1.Hi]) 23) <|
      .cons [16] (ok_val (fun ν2 => .int .i64 (mn a0.Hi a1.Hi)) 16) <|
      .cons [17] (ok_val (fun ν2 => .agg #[.int .i64 (mx a0.Lo a1.Lo), .int .i64 (mn a0.Hi a1.Hi)]) 17) <|
      .cons [6, 28] (ok_new (fun b => .pointer (some ⟨b, 0, none⟩)) (fun ν2 => [.int .i64 0, .int .i64 0]) 23 6 28) <|
      .cons [28] (ok_as (u' := fun ν2 => [(28, .blk ((ν2 11).n 0) [.int .i64 (mx a0.Lo a1.Lo), .int .i64 (mn a0.Hi a1.Hi)] 23)]) (ok_store 28 0 (fun ν2 => ((ν2 11).n 0)) (fun ν2 => [.int .i64 0, .int .i64 0]) (fun ν2 => [.int .i64 (mx a0.Lo a1.Lo), .int .i64 (mn a0.Hi a1.Hi)]) 23) (fun _ => by kernel_rfl)) <| .nil) (by kernel_rfl) fun ν2 a w' H => ?_
  replace H := H.toL [(4, .slot true (.pointer (some ⟨((ν1 2).n 0), 0, none⟩))), (5, .slot true (.bool false)), (6, .slot true (.pointer (some ⟨((ν2 11).n 0), 0, none⟩))), (27, .blk ((ν1 2).n 0) [.int .i64 0, .int .i64 0] 23), (28, .blk ((ν2 11).n 0) [.int .i64 (mx a0.Lo a1.Lo), .int .i64 (mn a0.Hi a1.Hi)] 23)] (by kernel_rfl)
  refine k_seq ?_
  refine k_seq ?_
  refine k_reg mixed H (.cons [18] (ok_val (fun ν3 => .pointer (some ⟨((ν2 11).n 0), 0, none⟩)) 18) <|
      .cons [19] (ok_ld (fun ν3 => .int .i64 (mx a0.Lo a1.Lo)) 19 28 0 1 (fun ν3 => ((ν2 11).n 0)) (fun ν3 => [.int .i64 (mx a0.Lo a1.Lo), .int .i64 (mn a0.Hi a1.Hi)]) 23) <|
      .cons [20] (ok_val (fun ν3 => .pointer (some ⟨((ν2 11).n 0), 1, none⟩)) 20) <|
      .cons [21] (ok_ld (fun ν3 => .int .i64 (mn a0.Hi a1.Hi)) 21 28 1 1 (fun ν3 => ((ν2 11).n 0)) (fun ν3 => [.int .i64 (mx a0.Lo a1.Lo), .int .i64 (mn a0.Hi a1.Hi)]) 23) <|
      .cons [22] (ok_val (fun ν3 => .bool (decide ((mx a0.Lo a1.Lo) > (mn a0.Hi a1.Hi)))) 22) <| .nil) (by kernel_rfl) fun ν3 a w' H => ?_
  replace H := H.toL [(4, .slot true (.pointer (some ⟨((ν1 2).n 0), 0, none⟩))), (5, .slot true (.bool false)), (6, .slot true (.pointer (some ⟨((ν2 11).n 0), 0, none⟩))), (22, .slot true (.bool (decide ((mx a0.Lo a1.Lo) > (mn a0.Hi a1.Hi))))), (27, .blk ((ν1 2).n 0) [.int .i64 0, .int .i64 0] 23), (28, .blk ((ν2 11).n 0) [.int .i64 (mx a0.Lo a1.Lo), .int .i64 (mn a0.Hi a1.Hi)] 23)] (by kernel_rfl)
  refine k_cond H (by kernel_rfl) (t := decide ((mx a0.Lo a1.Lo) > (mn a0.Hi a1.Hi))) (by kernel_rfl) (fun c6 => ?_) (fun c6 => ?_)
  · rw [if_pos c6] at G
    refine k_seq ?_
    refine k_reg mixed H (.cons [23] (ok_val (fun ν4 => .agg #[.int .i64 0, .int .i64 0]) 23) <|
      .cons [27] (ok_as (u' := fun ν4 => [(27, .blk ((ν1 2).n 0) [.int .i64 0, .int .i64 0] 23)]) (ok_store 27 0 (fun ν4 => ((ν1 2).n 0)) (fun ν4 => [.int .i64 0, .int .i64 0]) (fun ν4 => [.int .i64 0, .int .i64 0]) 23) (fun _ => by kernel_rfl)) <|
      .cons [5] (ok_val (fun ν4 => .bool false) 5) <| .nil) (by kernel_rfl) fun ν4 a w' H => ?_
    replace H := H.toL [(4, .slot true (.pointer (some ⟨((ν1 2).n 0), 0, none⟩))), (5, .slot true (.bool false)), (6, .slot true (.pointer (some ⟨((ν2 11).n 0), 0, none⟩))), (27, .blk ((ν1 2).n 0) [.int .i64 0, .int .i64 0] 23), (28, .blk ((ν2 11).n 0) [.int .i64 (mx a0.Lo a1.Lo), .int .i64 (mn a0.Hi a1.Hi)] 23)] (by kernel_rfl)
    refine k_ret ?_
    obtain rfl := Option.some.inj G
    exact k_done1 H _ 27 ((ν1 2).n 0) [.int .i64 0, .int .i64 0] 23 0 2 (by kernel_rfl) (by kernel_rfl) (by kernel_rfl) (by kernel_rfl)
  · rw [if_neg (nt c6)] at G
    refine k_skip ?_
    refine k_seq ?_
    refine k_reg mixed H (.cons [24] (ok_ld (fun ν5 => .agg #[.int .i64 (mx a0.Lo a1.Lo), .int .i64 (mn a0.Hi a1.Hi)]) 24 28 0 2 (fun ν5 => ((ν2 11).n 0)) (fun ν5 => [.int .i64 (mx a0.Lo a1.Lo), .int .i64 (mn a0.Hi a1.Hi)]) 23) <|
      .cons [27] (ok_as (u' := fun ν5 => [(27, .blk ((ν1 2).n 0) [.int .i64 (mx a0.Lo a1.Lo), .int .i64 (mn a0.Hi a1.Hi)] 23)]) (ok_store 27 0 (fun ν5 => ((ν1 2).n 0)) (fun ν5 => [.int .i64 0, .int .i64 0]) (fun ν5 => [.int .i64 (mx a0.Lo a1.Lo), .int .i64 (mn a0.Hi a1.Hi)]) 23) (fun _ => by kernel_rfl)) <|
      .cons [5] (ok_val (fun ν5 => .bool true) 5) <| .nil) (by kernel_rfl) fun ν5 a w' H => ?_
    replace H := H.toL [(4, .slot true (.pointer (some ⟨((ν1 2).n 0), 0, none⟩))), (5, .slot true (.bool true)), (27, .blk ((ν1 2).n 0) [.int .i64 (mx a0.Lo a1.Lo), .int .i64 (mn a0.Hi a1.Hi)] 23)] (by kernel_rfl)
    refine k_ret ?_
    obtain rfl := Option.some.inj G
    exact k_done1 H _ 27 ((ν1 2).n 0) [.int .i64 (mx a0.Lo a1.Lo), .int .i64 (mn a0.Hi a1.Hi)] 23 0 2 (by kernel_rfl) (by kernel_rfl) (by kernel_rfl) (by kernel_rfl)

set_option maxHeartbeats 4000000 in
theorem armillaryref02_MulRatio.calls (a0 : TInterval) (a1 : Int) (a2 : Int) (r : TInterval) (w : World) (G : armillaryref02_MulRatio a0 a1 a2 = some r) :
    Calls Tryd.prog 43 #[.agg #[.int .i64 a0.Lo, .int .i64 a0.Hi], .int .i64 a1, .int .i64 a2] w fun e w' => e = .returned (.agg #[.int .i64 r.Lo, .int .i64 r.Hi]) ∧ Below w.heap.size w w' := by
  refine k_enter (args := [.agg #[.int .i64 a0.Lo, .int .i64 a0.Hi], .int .i64 a1, .int .i64 a2]) 37 Tryd.func43 rfl (by kernel_rfl) (by kernel_rfl) fun a H => ?_
  unfold armillaryref02_MulRatio at G
  refine k_seq ?_
  refine k_reg mixed H (.cons [3, 37] (ok_new (fun b => .pointer (some ⟨b, 0, none⟩)) (fun ν1 => [.int .i64 a0.Lo, .int .i64 a0.Hi]) 23 3 37) <|
      .cons [6, 38] (ok_new (fun b => .pointer (some ⟨b, 0, none⟩)) (fun ν1 => [.int .i64 0, .int .i64 0]) 23 6 38) <| .nil) (by kernel_rfl) fun ν1 a w' H => ?_
  replace H := H.toL [(1, .slot true (.int .i64 a1)), (2, .slot true (.int .i64 a2)), (3, .slot true (.pointer (some ⟨((ν1 0).n 0), 0, none⟩))), (6, .slot true (.pointer (some ⟨((ν1 1).n 0), 0, none⟩))), (37, .blk ((ν1 0).n 0) [.int .i64 a0.Lo, .int .i64 a0.Hi] 23), (38, .blk ((ν1 1).n 0) [.int .i64 0, .int .i64 0] 23)] (by kernel_rfl)
  refine k_seq ?_
  refine k_seq ?_
  replace G := bnd G; obtain ⟨t3, ht3, G⟩ := G
  refine k_reg mixed H (.cons [9] (ok_ld (fun ν2 => .agg #[.int .i64 a0.Lo, .int .i64 a0.Hi]) 9 37 0 2 (fun ν2 => ((ν1 0).n 0)) (fun ν2 => [.int .i64 a0.Lo, .int .i64 a0.Hi]) 23) <|
      .cons [10] (ok_callv 13 (fun ν2 => #[.agg #[.int .i64 a0.Lo, .int .i64 a0.Hi]]) (.bool t3) 10 [] (fun _ w _ => armillaryref02_IsEntire.calls a0 t3 w ht3)) <| .nil) (by kernel_rfl) fun ν2 a w' H => ?_
  replace H := H.toL [(1, .slot true (.int .i64 a1)), (2, .slot true (.int .i64 a2)), (3, .slot true (.pointer (some ⟨((ν1 0).n 0), 0, none⟩))), (6, .slot true (.pointer (some ⟨((ν1 1).n 0), 0, none⟩))), (10, .slot true (.bool t3)), (37, .blk ((ν1 0).n 0) [.int .i64 a0.Lo, .int .i64 a0.Hi] 23), (38, .blk ((ν1 1).n 0) [.int .i64 0, .int .i64 0] 23)] (by kernel_rfl)
  refine k_cond H (by kernel_rfl) (t := t3) (by kernel_rfl) (fun c10 => ?_) (fun c10 => ?_)
  · rw [if_pos c10] at G
    refine k_seq ?_
    refine k_reg mixed H (.cons [11] (ok_ld (fun ν4 => .agg #[.int .i64 a0.Lo, .int .i64 a0.Hi]) 11 37 0 2 (fun ν4 => ((ν1 0).n 0)) (fun ν4 => [.int .i64 a0.Lo, .int .i64 a0.Hi]) 23) <|
      .cons [38] (ok_as (u' := fun ν4 => [(38, .blk ((ν1 1).n 0) [.int .i64 a0.Lo, .int .i64 a0.Hi] 23)]) (ok_store 38 0 (fun ν4 => ((ν1 1).n 0)) (fun ν4 => [.int .i64 0, .int .i64 0]) (fun ν4 => [.int .i64 a0.Lo, .int .i64 a0.Hi]) 23) (fun _ => by kernel_rfl)) <| .nil) (by kernel_rfl) fun ν4 a w' H => ?_
    replace H := H.toL [(1, .slot true (.int .i64 a1)), (2, .slot true (.int .i64 a2)), (3, .slot true (.pointer (some ⟨((ν1 0).n 0), 0, none⟩))), (6, .slot true (.pointer (some ⟨((ν1 1).n 0), 0, none⟩))), (37, .blk ((ν1 0).n 0) [.int .i64 a0.Lo, .int .i64 a0.Hi] 23), (38, .blk ((ν1 1).n 0) [.int .i64 a0.Lo, .int .i64 a0.Hi] 23)] (by kernel_rfl)
    refine k_ret ?_
    obtain rfl := Option.some.inj G
    exact k_done1 H _ 38 ((ν1 1).n 0) [.int .i64 a0.Lo, .int .i64 a0.Hi] 23 0 2 (by kernel_rfl) (by kernel_rfl) (by kernel_rfl) (by kernel_rfl)
  · rw [if_neg (nt c10)] at G
    refine k_skip ?_
    refine k_seq ?_
    refine k_reg mixed H (.cons [12] (ok_val (fun ν5 => .pointer (some ⟨((ν1 0).n 0), 0, none⟩)) 12) <|
      .cons [13] (ok_ld (fun ν5 => .int .i64 a0.Lo) 13 37 0 1 (fun ν5 => ((ν1 0).n 0)) (fun ν5 => [.int .i64 a0.Lo, .int .i64 a0.Hi]) 23) <|
      .cons [14] (ok_val (fun ν5 => .int .i64 a1) 14) <|
      .cons [15] (ok_val (fun ν5 => .int .i64 (w_i64 (a0.Lo * a1))) 15) <|
      .cons [16] (ok_val (fun ν5 => .pointer (some ⟨((ν1 0).n 0), 1, none⟩)) 16) <|
      .cons [17] (ok_ld (fun ν5 => .int .i64 a0.Hi) 17 37 1 1 (fun ν5 => ((ν1 0).n 0)) (fun ν5 => [.int .i64 a0.Lo, .int .i64 a0.Hi]) 23) <|
      .cons [18] (ok_val (fun ν5 => .int .i64 a1) 18) <|
      .cons [19] (ok_val (fun ν5 => .int .i64 (w_i64 (a0.Hi * a1))) 19) <|
      .cons [20] (ok_val (fun ν5 => .int .i64 (mn (w_i64 (a0.Lo * a1)) (w_i64 (a0.Hi * a1)))) 20) <|
      .cons [21] (ok_val (fun ν5 => .pointer (some ⟨((ν1 0).n 0), 0, none⟩)) 21) <|
      .cons [22] (ok_ld (fun ν5 => .int .i64 a0.Lo) 22 37 0 1 (fun ν5 => ((ν1 0).n 0)) (fun ν5 => [.int .i64 a0.Lo, .int .i64 a0.Hi]) 23) <|
      .cons [23] (ok_val (fun ν5 => .int .i64 a1) 23) <|
      .cons [24] (ok_val (fun ν5 => .int .i64 (w_i64 (a0.Lo * a1))) 24) <|
      .cons [25] (ok_val (fun ν5 => .pointer (some ⟨((ν1 0).n 0), 1, none⟩)) 25) <|
      .cons [26] (ok_ld (fun ν5 => .int .i64 a0.Hi) 26 37 1 1 (fun ν5 => ((ν1 0).n 0)) (fun ν5 => [.int .i64 a0.Lo, .int .i64 a0.Hi]) 23) <|
      .cons [27] (ok_val (fun ν5 => .int .i64 a1) 27) <|
      .cons [28] (ok_val (fun ν5 => .int .i64 (w_i64 (a0.Hi * a1))) 28) <|
      .cons [29] (ok_val (fun ν5 => .int .i64 (mx (w_i64 (a0.Lo * a1)) (w_i64 (a0.Hi * a1)))) 29) <|
      .cons [7] (ok_val (fun ν5 => .int .i64 (mn (w_i64 (a0.Lo * a1)) (w_i64 (a0.Hi * a1)))) 7) <|
      .cons [8] (ok_val (fun ν5 => .int .i64 (mx (w_i64 (a0.Lo * a1)) (w_i64 (a0.Hi * a1)))) 8) <| .nil) (by kernel_rfl) fun ν5 a w' H => ?_
    replace H := H.toL [(2, .slot true (.int .i64 a2)), (6, .slot true (.pointer (some ⟨((ν1 1).n 0), 0, none⟩))), (7, .slot true (.int .i64 (mn (w_i64 (a0.Lo * a1)) (w_i64 (a0.Hi * a1))))), (8, .slot true (.int .i64 (mx (w_i64 (a0.Lo * a1)) (w_i64 (a0.Hi * a1))))), (38, .blk ((ν1 1).n 0) [.int .i64 0, .int .i64 0] 23)] (by kernel_rfl)
    refine k_seq ?_
    replace G := bnd G; obtain ⟨t7, ht7, G⟩ := G
    replace G := bnd G; obtain ⟨t8, ht8, G⟩ := G
    replace G := bnd G; obtain ⟨t9, ht9, G⟩ := G
    refine k_reg mixed H (.cons [30] (ok_val (fun ν6 => .int .i64 (mn (w_i64 (a0.Lo * a1)) (w_i64 (a0.Hi * a1)))) 30) <|
      .cons [31] (ok_val (fun ν6 => .int .i64 a2) 31) <|
      .cons [32] (ok_callv 25 (fun ν6 => #[.int .i64 (mn (w_i64 (a0.Lo * a1)) (w_i64 (a0.Hi * a1))), .int .i64 a2]) (.int .i64 t7) 32 [] (fun _ w _ => armillaryref02_Floor.calls (mn (w_i64 (a0.Lo * a1)) (w_i64 (a0.Hi * a1))) a2 t7 w ht7)) <|
      .cons [33] (ok_val (fun ν6 => .int .i64 (mx (w_i64 (a0.Lo * a1)) (w_i64 (a0.Hi * a1)))) 33) <|
      .cons [34] (ok_val (fun ν6 => .int .i64 a2) 34) <|
      .cons [35] (ok_callv 26 (fun ν6 => #[.int .i64 (mx (w_i64 (a0.Lo * a1)) (w_i64 (a0.Hi * a1))), .int .i64 a2]) (.int .i64 t8) 35 [] (fun _ w _ => armillaryref02_Ceil.calls (mx (w_i64 (a0.Lo * a1)) (w_i64 (a0.Hi * a1))) a2 t8 w ht8)) <|
      .cons [36] (ok_callv 55 (fun ν6 => #[.int .i64 t7, .int .i64 t8]) (.agg #[.int .i64 t9.Lo, .int .i64 t9.Hi]) 36 [] (fun _ w _ => armillaryref02_New.calls t7 t8 t9 w ht9)) <|
      .cons [38] (ok_as (u' := fun ν6 => [(38, .blk ((ν1 1).n 0) [.int .i64 t9.Lo, .int .i64 t9.Hi] 23)]) (ok_store 38 0 (fun ν6 => ((ν1 1).n 0)) (fun ν6 => [.int .i64 0, .int .i64 0]) (fun ν6 => [.int .i64 t9.Lo, .int .i64 t9.Hi]) 23) (fun _ => by kernel_rfl)) <| .nil) (by kernel_rfl) fun ν6 a w' H => ?_
    replace H := H.toL [(6, .slot true (.pointer (some ⟨((ν1 1).n 0), 0, none⟩))), (38, .blk ((ν1 1).n 0) [.int .i64 t9.Lo, .int .i64 t9.Hi] 23)] (by kernel_rfl)
    refine k_ret ?_
    obtain rfl := Option.some.inj G
    exact k_done1 H _ 38 ((ν1 1).n 0) [.int .i64 t9.Lo, .int .i64 t9.Hi] 23 0 2 (by kernel_rfl) (by kernel_rfl) (by kernel_rfl) (by kernel_rfl)

set_option maxHeartbeats 4000000 in
theorem armillaryref02_Hull.calls (a0 : TInterval) (a1 : TInterval) (r : TInterval) (w : World) (G : armillaryref02_Hull a0 a1 = some r) :
    Calls Tryd.prog 44 #[.agg #[.int .i64 a0.Lo, .int .i64 a0.Hi], .agg #[.int .i64 a1.Lo, .int .i64 a1.Hi]] w fun e w' => e = .returned (.agg #[.int .i64 r.Lo, .int .i64 r.Hi]) ∧ Below w.heap.size w w' := by
  refine k_enter (args := [.agg #[.int .i64 a0.Lo, .int .i64 a0.Hi], .agg #[.int .i64 a1.Lo, .int .i64 a1.Hi]]) 16 Tryd.func44 rfl (by kernel_rfl) (by kernel_rfl) fun a H => ?_
  unfold armillaryref02_Hull at G
  refine k_seq ?_
  refine k_reg mixed H (.cons [2, 16] (ok_new (fun b => .pointer (some ⟨b, 0, none⟩)) (fun ν1 => [.int .i64 a0.Lo, .int .i64 a0.Hi]) 23 2 16) <|
      .cons [3, 17] (ok_new (fun b => .pointer (some ⟨b, 0, none⟩)) (fun ν1 => [.int .i64 a1.Lo, .int .i64 a1.Hi]) 23 3 17) <|
      .cons [4, 18] (ok_new (fun b => .pointer (some ⟨b, 0, none⟩)) (fun ν1 => [.int .i64 0, .int .i64 0]) 23 4 18) <| .nil) (by kernel_rfl) fun ν1 a w' H => ?_
  replace H := H.toL [(2, .slot true (.pointer (some ⟨((ν1 0).n 0), 0, none⟩))), (3, .slot true (.pointer (some ⟨((ν1 1).n 0), 0, none⟩))), (4, .slot true (.pointer (some ⟨((ν1 2).n 0), 0, none⟩))), (16, .blk ((ν1 0).n 0) [.int .i64 a0.Lo, .int .i64 a0.Hi] 23), (17, .blk ((ν1 1).n 0) [.int .i64 a1.Lo, .int .i64 a1.Hi] 23), (18, .blk ((ν1 2).n 0) [.int .i64 0, .int .i64 0] 23)] (by kernel_rfl)
  refine k_seq ?_
  refine k_reg mixed H (.cons [5] (ok_val (fun ν2 => .pointer (some ⟨((ν1 0).n 0), 0, none⟩)) 5) <|
      .cons [6] (ok_ld (fun ν2 => .int .i64 a0.Lo) 6 16 0 1 (fun ν2 => ((ν1 0).n 0)) (fun ν2 => [.int .i64 a0.Lo, .int .i64 a0.Hi]) 23) <|
      .cons [7] (ok_val (fun ν2 => .pointer (some ⟨((ν1 1).n 0), 0, none⟩)) 7) <|
      .cons [8] (ok_ld (fun ν2 => .int .i64 a1.Lo) 8 17 0 1 (fun ν2 => ((ν1 1).n 0)) (fun ν2 => [.int .i64 a1.Lo, .int .i64 a1.Hi]) 23) <|
      .cons [9] (ok_val (fun ν2 => .int .i64 (mn a0.Lo a1.Lo)) 9) <|
      .cons [10] (ok_val (fun ν2 => .pointer (some ⟨((ν1 0).n 0), 1, none⟩)) 10) <|
      .cons [11] (ok_ld (fun ν2 => .int .i64 a0.Hi) 11 16 1 1 (fun ν2 => ((ν1 0).n 0)) (fun ν2 => [.int .i64 a0.Lo, .int .i64 a0.Hi]) 23) <|
      .cons [12] (ok_val (fun ν2 => .pointer (some ⟨((ν1 1).n 0), 1, none⟩)) 12) <|
      .cons [13] (ok_ld (fun ν2 => .int .i64 a1.Hi) 13 17 1 1 (fun ν2 => ((ν1 1).n 0)) (fun ν2 => [.int .i64 a1.Lo, .int .i64 a1.Hi]) 23) <|
      .cons [14] (ok_val (fun ν2 => .int .i64 (mx a0.Hi a1.Hi)) 14) <|
      .cons [15] (ok_val (fun ν2 => .agg #[.int .i64 (mn a0.Lo a1.Lo), .int .i64 (mx a0.Hi a1.Hi)]) 15) <|
      .cons [18] (ok_as (u' := fun ν2 => [(18, .blk ((ν1 2).n 0) [.int .i64 (mn a0.Lo a1.Lo), .int .i64 (mx a0.Hi a1.Hi)] 23)]) (ok_store 18 0 (fun ν2 => ((ν1 2).n 0)) (fun ν2 => [.int .i64 0, .int .i64 0]) (fun ν2 => [.int .i64 (mn a0.Lo a1.Lo), .int .i64 (mx a0.Hi a1.Hi)]) 23) (fun _ => by kernel_rfl)) <| .nil) (by kernel_rfl) fun ν2 a w' H => ?_
  replace H := H.toL [(4, .slot true (.pointer (some ⟨((ν1 2).n 0), 0, none⟩))), (18, .blk ((ν1 2).n 0) [.int .i64 (mn a0.Lo a1.Lo), .int .i64 (mx a0.Hi a1.Hi)] 23)] (by kernel_rfl)
  refine k_ret ?_
  obtain rfl := Option.some.inj G
  exact k_done1 H _ 18 ((ν1 2).n 0) [.int .i64 (mn a0.Lo a1.Lo), .int .i64 (mx a0.Hi a1.Hi)] 23 0 2 (by kernel_rfl) (by kernel_rfl) (by kernel_rfl) (by kernel_rfl)

set_option maxHeartbeats 4000000 in
theorem armillaryref02_Subset.calls (a0 : TInterval) (a1 : TInterval) (r : Bool) (w : World) (G : armillaryref02_Subset a0 a1 = some r) :
    Calls Tryd.prog 45 #[.agg #[.int .i64 a0.Lo, .int .i64 a0.Hi], .agg #[.int .i64 a1.Lo, .int .i64 a1.Hi]] w fun e w' => e = .returned (.bool r) ∧ Below w.heap.size w w' := by
  refine k_enter (args := [.agg #[.int .i64 a0.Lo, .int .i64 a0.Hi], .agg #[.int .i64 a1.Lo, .int .i64 a1.Hi]]) 17 Tryd.func45 rfl (by kernel_rfl) (by kernel_rfl) fun a H => ?_
  unfold armillaryref02_Subset at G
  refine k_seq ?_
  refine k_reg mixed H (.cons [2, 17] (ok_new (fun b => .pointer (some ⟨b, 0, none⟩)) (fun ν1 => [.int .i64 a0.Lo, .int .i64 a0.Hi]) 23 2 17) <|
      .cons [3, 18] (ok_new (fun b => .pointer (some ⟨b, 0, none⟩)) (fun ν1 => [.int .i64 a1.Lo, .int .i64 a1.Hi]) 23 3 18) <|
      .cons [4] (ok_val (fun ν1 => .bool false) 4) <| .nil) (by kernel_rfl) fun ν1 a w' H => ?_
  replace H := H.toL [(2, .slot true (.pointer (some ⟨((ν1 0).n 0), 0, none⟩))), (3, .slot true (.pointer (some ⟨((ν1 1).n 0), 0, none⟩))), (4, .slot true (.bool false)), (17, .blk ((ν1 0).n 0) [.int .i64 a0.Lo, .int .i64 a0.Hi] 23), (18, .blk ((ν1 1).n 0) [.int .i64 a1.Lo, .int .i64 a1.Hi] 23)] (by kernel_rfl)
  refine k_seq ?_
  refine k_reg mixed H (.cons [5] (ok_val (fun ν2 => .pointer (some ⟨((ν1 1).n 0), 0, none⟩)) 5) <|
      .cons [6] (ok_ld (fun ν2 => .int .i64 a1.Lo) 6 18 0 1 (fun ν2 => ((ν1 1).n 0)) (fun ν2 => [.int .i64 a1.Lo, .int .i64 a1.Hi]) 23) <|
      .cons [7] (ok_val (fun ν2 => .pointer (some ⟨((ν1 0).n 0), 0, none⟩)) 7) <|
      .cons [8] (ok_ld (fun ν2 => .int .i64 a0.Lo) 8 17 0 1 (fun ν2 => ((ν1 0).n 0)) (fun ν2 => [.int .i64 a0.Lo, .int .i64 a0.Hi]) 23) <|
      .cons [9] (ok_val (fun ν2 => .bool (decide (a1.Lo ≤ a0.Lo))) 9) <|
      .cons [10] (ok_val (fun ν2 => .bool (decide (a1.Lo ≤ a0.Lo))) 10) <|
      .cons [11] (ok_valg (fun ν2 => .pointer (some ⟨((ν1 0).n 0), 1, none⟩)) (fun ν2 => ((decide (a1.Lo ≤ a0.Lo)) == true)) [true] 11) <|
      .cons [12] (ok_ldg (fun ν2 => .int .i64 a0.Hi) (fun ν2 => ((decide (a1.Lo ≤ a0.Lo)) == true)) [false] 12 17 1 1 (fun ν2 => ((ν1 0).n 0)) (fun ν2 => [.int .i64 a0.Lo, .int .i64 a0.Hi]) 23) <|
      .cons [13] (ok_valg (fun ν2 => .pointer (some ⟨((ν1 1).n 0), 1, none⟩)) (fun ν2 => ((decide (a1.Lo ≤ a0.Lo)) == true)) [true] 13) <|
      .cons [14] (ok_ldg (fun ν2 => .int .i64 a1.Hi) (fun ν2 => ((decide (a1.Lo ≤ a0.Lo)) == true)) [false] 14 18 1 1 (fun ν2 => ((ν1 1).n 0)) (fun ν2 => [.int .i64 a1.Lo, .int .i64 a1.Hi]) 23) <|
      .cons [15] (ok_valg (fun ν2 => .bool (decide (a0.Hi ≤ a1.Hi))) (fun ν2 => ((decide (a1.Lo ≤ a0.Lo)) == true)) [false, false] 15) <|
      .cons [16] (ok_and 10 15 (fun ν2 => true) (fun ν2 => true) (fun ν2 => decide (a1.Lo ≤ a0.Lo)) (fun ν2 => decide (a0.Hi ≤ a1.Hi)) 16) <|
      .cons [4] (ok_val (fun ν2 => .bool ((decide (a1.Lo ≤ a0.Lo)) && (decide (a0.Hi ≤ a1.Hi)))) 4) <| .nil) (by kernel_rfl) fun ν2 a w' H => ?_
  replace H := H.toL [(4, .slot true (.bool ((decide (a1.Lo ≤ a0.Lo)) && (decide (a0.Hi ≤ a1.Hi)))))] (by kernel_rfl)
  refine k_ret ?_
  obtain rfl := Option.some.inj G
  exact k_done0 H _ (by kernel_rfl) (by kernel_rfl)

set_option maxHeartbeats 4000000 in
theorem armillaryref02_Mid.calls (a0 : TInterval) (r : Int) (w : World) (G : armillaryref02_Mid a0 = some r) :
    Calls Tryd.prog 46 #[.agg #[.int .i64 a0.Lo, .int .i64 a0.Hi]] w fun e w' => e = .returned (.int .i64 r) ∧ Below w.heap.size w w' := by
  refine k_enter (args := [.agg #[.int .i64 a0.Lo, .int .i64 a0.Hi]]) 9 Tryd.func46 rfl (by kernel_rfl) (by kernel_rfl) fun a H => ?_
  unfold armillaryref02_Mid at G
  refine k_seq ?_
  refine k_reg mixed H (.cons [1, 9] (ok_new (fun b => .pointer (some ⟨b, 0, none⟩)) (fun ν1 => [.int .i64 a0.Lo, .int .i64 a0.Hi]) 23 1 9) <|
      .cons [2] (ok_val (fun ν1 => .int .i64 0) 2) <| .nil) (by kernel_rfl) fun ν1 a w' H => ?_
  replace H := H.toL [(1, .slot true (.pointer (some ⟨((ν1 0).n 0), 0, none⟩))), (2, .slot true (.int .i64 0)), (9, .blk ((ν1 0).n 0) [.int .i64 a0.Lo, .int .i64 a0.Hi] 23)] (by kernel_rfl)
  refine k_seq ?_
  replace G := bnd G; obtain ⟨t3, ht3, G⟩ := G
  refine k_reg mixed H (.cons [3] (ok_val (fun ν2 => .pointer (some ⟨((ν1 0).n 0), 0, none⟩)) 3) <|
      .cons [4] (ok_ld (fun ν2 => .int .i64 a0.Lo) 4 9 0 1 (fun ν2 => ((ν1 0).n 0)) (fun ν2 => [.int .i64 a0.Lo, .int .i64 a0.Hi]) 23) <|
      .cons [5] (ok_val (fun ν2 => .pointer (some ⟨((ν1 0).n 0), 1, none⟩)) 5) <|
      .cons [6] (ok_ld (fun ν2 => .int .i64 a0.Hi) 6 9 1 1 (fun ν2 => ((ν1 0).n 0)) (fun ν2 => [.int .i64 a0.Lo, .int .i64 a0.Hi]) 23) <|
      .cons [7] (ok_val (fun ν2 => .int .i64 (w_i64 (a0.Lo + a0.Hi))) 7) <|
      .cons [8] (ok_callv 25 (fun ν2 => #[.int .i64 (w_i64 (a0.Lo + a0.Hi)), .int .i64 2]) (.int .i64 t3) 8 [] (fun _ w _ => armillaryref02_Floor.calls (w_i64 (a0.Lo + a0.Hi)) 2 t3 w ht3)) <|
      .cons [2] (ok_val (fun ν2 => .int .i64 t3) 2) <| .nil) (by kernel_rfl) fun ν2 a w' H => ?_
  replace H := H.toL [(2, .slot true (.int .i64 t3))] (by kernel_rfl)
  refine k_ret ?_
  obtain rfl := Option.some.inj G
  exact k_done0 H _ (by kernel_rfl) (by kernel_rfl)

set_option maxHeartbeats 4000000 in
theorem armillaryref02_Width.calls (a0 : TInterval) (r : Int) (w : World) (G : armillaryref02_Width a0 = some r) :
    Calls Tryd.prog 47 #[.agg #[.int .i64 a0.Lo, .int .i64 a0.Hi]] w fun e w' => e = .returned (.int .i64 r) ∧ Below w.heap.size w w' := by
  refine k_enter (args := [.agg #[.int .i64 a0.Lo, .int .i64 a0.Hi]]) 8 Tryd.func47 rfl (by kernel_rfl) (by kernel_rfl) fun a H => ?_
  unfold armillaryref02_Width at G
  refine k_seq ?_
  refine k_reg mixed H (.cons [1, 8] (ok_new (fun b => .pointer (some ⟨b, 0, none⟩)) (fun ν1 => [.int .i64 a0.Lo, .int .i64 a0.Hi]) 23 1 8) <|
      .cons [2] (ok_val (fun ν1 => .int .i64 0) 2) <| .nil) (by kernel_rfl) fun ν1 a w' H => ?_
  replace H := H.toL [(1, .slot true (.pointer (some ⟨((ν1 0).n 0), 0, none⟩))), (2, .slot true (.int .i64 0)), (8, .blk ((ν1 0).n 0) [.int .i64 a0.Lo, .int .i64 a0.Hi] 23)] (by kernel_rfl)
  refine k_seq ?_
  refine k_reg mixed H (.cons [3] (ok_val (fun ν2 => .pointer (some ⟨((ν1 0).n 0), 1, none⟩)) 3) <|
      .cons [4] (ok_ld (fun ν2 => .int .i64 a0.Hi) 4 8 1 1 (fun ν2 => ((ν1 0).n 0)) (fun ν2 => [.int .i64 a0.Lo, .int .i64 a0.Hi]) 23) <|
      .cons [5] (ok_val (fun ν2 => .pointer (some ⟨((ν1 0).n 0), 0, none⟩)) 5) <|
      .cons [6] (ok_ld (fun ν2 => .int .i64 a0.Lo) 6 8 0 1 (fun ν2 => ((ν1 0).n 0)) (fun ν2 => [.int .i64 a0.Lo, .int .i64 a0.Hi]) 23) <|
      .cons [7] (ok_val (fun ν2 => .int .i64 (w_i64 (a0.Hi - a0.Lo))) 7) <|
      .cons [2] (ok_val (fun ν2 => .int .i64 (w_i64 (a0.Hi - a0.Lo))) 2) <| .nil) (by kernel_rfl) fun ν2 a w' H => ?_
  replace H := H.toL [(2, .slot true (.int .i64 (w_i64 (a0.Hi - a0.Lo))))] (by kernel_rfl)
  refine k_ret ?_
  obtain rfl := Option.some.inj G
  exact k_done0 H _ (by kernel_rfl) (by kernel_rfl)

set_option maxHeartbeats 4000000 in
theorem armillaryref02_Mag.calls (a0 : TInterval) (r : Int) (w : World) (G : armillaryref02_Mag a0 = some r) :
    Calls Tryd.prog 48 #[.agg #[.int .i64 a0.Lo, .int .i64 a0.Hi]] w fun e w' => e = .returned (.int .i64 r) ∧ Below w.heap.size w w' := by
  refine k_enter (args := [.agg #[.int .i64 a0.Lo, .int .i64 a0.Hi]]) 16 Tryd.func48 rfl (by kernel_rfl) (by kernel_rfl) fun a H => ?_
  unfold armillaryref02_Mag at G
  refine k_seq ?_
  refine k_reg mixed H (.cons [1, 16] (ok_new (fun b => .pointer (some ⟨b, 0, none⟩)) (fun ν1 => [.int .i64 a0.Lo, .int .i64 a0.Hi]) 23 1 16) <|
      .cons [2] (ok_val (fun ν1 => .int .i64 0) 2) <| .nil) (by kernel_rfl) fun ν1 a w' H => ?_
  replace H := H.toL [(1, .slot true (.pointer (some ⟨((ν1 0).n 0), 0, none⟩))), (2, .slot true (.int .i64 0)), (16, .blk ((ν1 0).n 0) [.int .i64 a0.Lo, .int .i64 a0.Hi] 23)] (by kernel_rfl)
  refine k_seq ?_
  refine k_reg mixed H (.cons [3] (ok_val (fun ν2 => .pointer (some ⟨((ν1 0).n 0), 0, none⟩)) 3) <|
      .cons [4] (ok_ld (fun ν2 => .int .i64 a0.Lo) 4 16 0 1 (fun ν2 => ((ν1 0).n 0)) (fun ν2 => [.int .i64 a0.Lo, .int .i64 a0.Hi]) 23) <|
      .cons [5] (ok_val (fun ν2 => .pointer (some ⟨((ν1 0).n 0), 0, none⟩)) 5) <|
      .cons [6] (ok_ld (fun ν2 => .int .i64 a0.Lo) 6 16 0 1 (fun ν2 => ((ν1 0).n 0)) (fun ν2 => [.int .i64 a0.Lo, .int .i64 a0.Hi]) 23) <|
      .cons [7] (ok_val (fun ν2 => .int .i64 (w_i64 (0 - a0.Lo))) 7) <|
      .cons [8] (ok_val (fun ν2 => .int .i64 (mx a0.Lo (w_i64 (0 - a0.Lo)))) 8) <|
      .cons [9] (ok_val (fun ν2 => .pointer (some ⟨((ν1 0).n 0), 1, none⟩)) 9) <|
      .cons [10] (ok_ld (fun ν2 => .int .i64 a0.Hi) 10 16 1 1 (fun ν2 => ((ν1 0).n 0)) (fun ν2 => [.int .i64 a0.Lo, .int .i64 a0.Hi]) 23) <|
      .cons [11] (ok_val (fun ν2 => .pointer (some ⟨((ν1 0).n 0), 1, none⟩)) 11) <|
      .cons [12] (ok_ld (fun ν2 => .int .i64 a0.Hi) 12 16 1 1 (fun ν2 => ((ν1 0).n 0)) (fun ν2 => [.int .i64 a0.Lo, .int .i64 a0.Hi]) 23) <|
      .cons [13] (ok_val (fun ν2 => .int .i64 (w_i64 (0 - a0.Hi))) 13) <|
      .cons [14] (ok_val (fun ν2 => .int .i64 (mx a0.Hi (w_i64 (0 - a0.Hi)))) 14) <|
      .cons [15] (ok_val (fun ν2 => .int .i64 (mx (mx a0.Lo (w_i64 (0 - a0.Lo))) (mx a0.Hi (w_i64 (0 - a0.Hi))))) 15) <|
      .cons [2] (ok_val (fun ν2 => .int .i64 (mx (mx a0.Lo (w_i64 (0 - a0.Lo))) (mx a0.Hi (w_i64 (0 - a0.Hi))))) 2) <| .nil) (by kernel_rfl) fun ν2 a w' H => ?_
  replace H := H.toL [(2, .slot true (.int .i64 (mx (mx a0.Lo (w_i64 (0 - a0.Lo))) (mx a0.Hi (w_i64 (0 - a0.Hi))))))] (by kernel_rfl)
  refine k_ret ?_
  obtain rfl := Option.some.inj G
  exact k_done0 H _ (by kernel_rfl) (by kernel_rfl)

set_option maxHeartbeats 4000000 in
theorem armillaryref02_Sign.calls (a0 : TInterval) (r : Int) (w : World) (G : armillaryref02_Sign a0 = some r) :
    Calls Tryd.prog 49 #[.agg #[.int .i64 a0.Lo, .int .i64 a0.Hi]] w fun e w' => e = .returned (.int .i64 r) ∧ Below w.heap.size w w' := by
  refine k_enter (args := [.agg #[.int .i64 a0.Lo, .int .i64 a0.Hi]]) 9 Tryd.func49 rfl (by kernel_rfl) (by kernel_rfl) fun a H => ?_
  unfold armillaryref02_Sign at G
  refine k_seq ?_
  refine k_reg mixed H (.cons [1, 9] (ok_new (fun b => .pointer (some ⟨b, 0, none⟩)) (fun ν1 => [.int .i64 a0.Lo, .int .i64 a0.Hi]) 23 1 9) <|
      .cons [2] (ok_val (fun ν1 => .int .i64 0) 2) <| .nil) (by kernel_rfl) fun ν1 a w' H => ?_
  replace H := H.toL [(1, .slot true (.pointer (some ⟨((ν1 0).n 0), 0, none⟩))), (2, .slot true (.int .i64 0)), (9, .blk ((ν1 0).n 0) [.int .i64 a0.Lo, .int .i64 a0.Hi] 23)] (by kernel_rfl)
  refine k_seq ?_
  refine k_seq ?_
  refine k_reg mixed H (.cons [3] (ok_val (fun ν2 => .pointer (some ⟨((ν1 0).n 0), 0, none⟩)) 3) <|
      .cons [4] (ok_ld (fun ν2 => .int .i64 a0.Lo) 4 9 0 1 (fun ν2 => ((ν1 0).n 0)) (fun ν2 => [.int .i64 a0.Lo, .int .i64 a0.Hi]) 23) <|
      .cons [5] (ok_val (fun ν2 => .bool (decide (a0.Lo > 0))) 5) <| .nil) (by kernel_rfl) fun ν2 a w' H => ?_
  replace H := H.toL [(1, .slot true (.pointer (some ⟨((ν1 0).n 0), 0, none⟩))), (2, .slot true (.int .i64 0)), (5, .slot true (.bool (decide (a0.Lo > 0)))), (9, .blk ((ν1 0).n 0) [.int .i64 a0.Lo, .int .i64 a0.Hi] 23)] (by kernel_rfl)
  refine k_cond H (by kernel_rfl) (t := decide (a0.Lo > 0)) (by kernel_rfl) (fun c8 => ?_) (fun c8 => ?_)
  · rw [if_pos c8] at G
    refine k_seq ?_
    refine k_reg mixed H (.cons [2] (ok_val (fun ν3 => .int .i64 1) 2) <| .nil) (by kernel_rfl) fun ν3 a w' H => ?_
    replace H := H.toL [(1, .slot true (.pointer (some ⟨((ν1 0).n 0), 0, none⟩))), (2, .slot true (.int .i64 1)), (9, .blk ((ν1 0).n 0) [.int .i64 a0.Lo, .int .i64 a0.Hi] 23)] (by kernel_rfl)
    refine k_ret ?_
    obtain rfl := Option.some.inj G
    exact k_done0 H _ (by kernel_rfl) (by kernel_rfl)
  · rw [if_neg (nt c8)] at G
    refine k_skip ?_
    refine k_seq ?_
    refine k_seq ?_
    refine k_reg mixed H (.cons [6] (ok_val (fun ν4 => .pointer (some ⟨((ν1 0).n 0), 1, none⟩)) 6) <|
      .cons [7] (ok_ld (fun ν4 => .int .i64 a0.Hi) 7 9 1 1 (fun ν4 => ((ν1 0).n 0)) (fun ν4 => [.int .i64 a0.Lo, .int .i64 a0.Hi]) 23) <|
      .cons [8] (ok_val (fun ν4 => .bool (decide (a0.Hi < 0))) 8) <| .nil) (by kernel_rfl) fun ν4 a w' H => ?_
    replace H := H.toL [(2, .slot true (.int .i64 0)), (8, .slot true (.bool (decide (a0.Hi < 0))))] (by kernel_rfl)
    refine k_cond H (by kernel_rfl) (t := decide (a0.Hi < 0)) (by kernel_rfl) (fun c7 => ?_) (fun c7 => ?_)
    · rw [if_pos c7] at G
      refine k_seq ?_
      refine k_reg mixed H (.cons [2] (ok_val (fun ν5 => .int .i64 (-1)) 2) <| .nil) (by kernel_rfl) fun ν5 a w' H => ?_
      replace H := H.toL [(2, .slot true (.int .i64 (-1)))] (by kernel_rfl)
      refine k_ret ?_
      obtain rfl := Option.some.inj G
      exact k_done0 H _ (by kernel_rfl) (by kernel_rfl)
    · rw [if_neg (nt c7)] at G
      refine k_skip ?_
      refine k_seq ?_
      refine k_reg mixed H (.cons [2] (ok_val (fun ν6 => .int .i64 0) 2) <| .nil) (by kernel_rfl) fun ν6 a w' H => ?_
      replace H := H.toL [(2, .slot true (.int .i64 0))] (by kernel_rfl)
      refine k_ret ?_
      obtain rfl := Option.some.inj G
      exact k_done0 H _ (by kernel_rfl) (by kernel_rfl)

set_option maxHeartbeats 4000000 in
theorem interval_Point.calls (a0 : Int) (r : TInterval) (w : World) (G : interval_Point a0 = some r) :
    Calls Tryd.prog 52 #[.int .i64 a0] w fun e w' => e = .returned (.agg #[.int .i64 r.Lo, .int .i64 r.Hi]) ∧ Below w.heap.size w w' := by
  refine k_enter (args := [.int .i64 a0]) 6 Tryd.func52 rfl (by kernel_rfl) (by kernel_rfl) fun a H => ?_
  unfold interval_Point at G
  refine k_seq ?_
  refine k_reg mixed H (.cons [2, 6] (ok_new (fun b => .pointer (some ⟨b, 0, none⟩)) (fun ν1 => [.int .i64 0, .int .i64 0]) 23 2 6) <| .nil) (by kernel_rfl) fun ν1 a w' H => ?_
  replace H := H.toL [(0, .slot true (.int .i64 a0)), (2, .slot true (.pointer (some ⟨((ν1 0).n 0), 0, none⟩))), (6, .blk ((ν1 0).n 0) [.int .i64 0, .int .i64 0] 23)] (by kernel_rfl)
  refine k_seq ?_
  replace G := bnd G; obtain ⟨t3, ht3, G⟩ := G
  refine k_reg mixed H (.cons [3] (ok_val (fun ν2 => .int .i64 a0) 3) <|
      .cons [4] (ok_val (fun ν2 => .int .i64 a0) 4) <|
      .cons [5] (ok_callv 54 (fun ν2 => #[.int .i64 a0, .int .i64 a0]) (.agg #[.int .i64 t3.Lo, .int .i64 t3.Hi]) 5 [] (fun _ w _ => interval_New.calls a0 a0 t3 w ht3)) <|
      .cons [6] (ok_as (u' := fun ν2 => [(6, .blk ((ν1 0).n 0) [.int .i64 t3.Lo, .int .i64 t3.Hi] 23)]) (ok_store 6 0 (fun ν2 => ((ν1 0).n 0)) (fun ν2 => [.int .i64 0, .int .i64 0]) (fun ν2 => [.int .i64 t3.Lo, .int .i64 t3.Hi]) 23) (fun _ => by kernel_rfl)) <| .nil) (by kernel_rfl) fun ν2 a w' H => ?_
  replace H := H.toL [(2, .slot true (.pointer (some ⟨((ν1 0).n 0), 0, none⟩))), (6, .blk ((ν1 0).n 0) [.int .i64 t3.Lo, .int .i64 t3.Hi] 23)] (by kernel_rfl)
  refine k_ret ?_
  obtain rfl := Option.some.inj G
  exact k_done1 H _ 6 ((ν1 0).n 0) [.int .i64 t3.Lo, .int .i64 t3.Hi] 23 0 2 (by kernel_rfl) (by kernel_rfl) (by kernel_rfl) (by kernel_rfl)

set_option maxHeartbeats 4000000 in
theorem armillaryref02_Point.calls (a0 : Int) (r : TInterval) (w : World) (G : armillaryref02_Point a0 = some r) :
    Calls Tryd.prog 53 #[.int .i64 a0] w fun e w' => e = .returned (.agg #[.int .i64 r.Lo, .int .i64 r.Hi]) ∧ Below w.heap.size w w' := by
  refine k_enter (args := [.int .i64 a0]) 6 Tryd.func53 rfl (by kernel_rfl) (by kernel_rfl) fun a H => ?_
  unfold armillaryref02_Point at G
  refine k_seq ?_
  refine k_reg mixed H (.cons [2, 6] (ok_new (fun b => .pointer (some ⟨b, 0, none⟩)) (fun ν1 => [.int .i64 0, .int .i64 0]) 23 2 6) <| .nil) (by kernel_rfl) fun ν1 a w' H => ?_
  replace H := H.toL [(0, .slot true (.int .i64 a0)), (2, .slot true (.pointer (some ⟨((ν1 0).n 0), 0, none⟩))), (6, .blk ((ν1 0).n 0) [.int .i64 0, .int .i64 0] 23)] (by kernel_rfl)
  refine k_seq ?_
  replace G := bnd G; obtain ⟨t3, ht3, G⟩ := G
  refine k_reg mixed H (.cons [3] (ok_val (fun ν2 => .int .i64 a0) 3) <|
      .cons [4] (ok_val (fun ν2 => .int .i64 a0) 4) <|
      .cons [5] (ok_callv 55 (fun ν2 => #[.int .i64 a0, .int .i64 a0]) (.agg #[.int .i64 t3.Lo, .int .i64 t3.Hi]) 5 [] (fun _ w _ => armillaryref02_New.calls a0 a0 t3 w ht3)) <|
      .cons [6] (ok_as (u' := fun ν2 => [(6, .blk ((ν1 0).n 0) [.int .i64 t3.Lo, .int .i64 t3.Hi] 23)]) (ok_store 6 0 (fun ν2 => ((ν1 0).n 0)) (fun ν2 => [.int .i64 0, .int .i64 0]) (fun ν2 => [.int .i64 t3.Lo, .int .i64 t3.Hi]) 23) (fun _ => by kernel_rfl)) <| .nil) (by kernel_rfl) fun ν2 a w' H => ?_
  replace H := H.toL [(2, .slot true (.pointer (some ⟨((ν1 0).n 0), 0, none⟩))), (6, .blk ((ν1 0).n 0) [.int .i64 t3.Lo, .int .i64 t3.Hi] 23)] (by kernel_rfl)
  refine k_ret ?_
  obtain rfl := Option.some.inj G
  exact k_done1 H _ 6 ((ν1 0).n 0) [.int .i64 t3.Lo, .int .i64 t3.Hi] 23 0 2 (by kernel_rfl) (by kernel_rfl) (by kernel_rfl) (by kernel_rfl)

set_option maxHeartbeats 4000000 in
theorem armillaryref02_Add.calls (a0 : TInterval) (a1 : TInterval) (r : TInterval) (w : World) (G : armillaryref02_Add a0 a1 = some r) :
    Calls Tryd.prog 56 #[.agg #[.int .i64 a0.Lo, .int .i64 a0.Hi], .agg #[.int .i64 a1.Lo, .int .i64 a1.Hi]] w fun e w' => e = .returned (.agg #[.int .i64 r.Lo, .int .i64 r.Hi]) ∧ Below w.heap.size w w' := by
  refine k_enter (args := [.agg #[.int .i64 a0.Lo, .int .i64 a0.Hi], .agg #[.int .i64 a1.Lo, .int .i64 a1.Hi]]) 23 Tryd.func56 rfl (by kernel_rfl) (by kernel_rfl) fun a H => ?_
  unfold armillaryref02_Add at G
  refine k_seq ?_
  refine k_reg mixed H (.cons [2, 23] (ok_new (fun b => .pointer (some ⟨b, 0, none⟩)) (fun ν1 => [.int .i64 a0.Lo, .int .i64 a0.Hi]) 23 2 23) <|
      .cons [3, 24] (ok_new (fun b => .pointer (some ⟨b, 0, none⟩)) (fun ν1 => [.int .i64 a1.Lo, .int .i64 a1.Hi]) 23 3 24) <|
      .cons [4, 25] (ok_new (fun b => .pointer (some ⟨b, 0, none⟩)) (fun ν1 => [.int .i64 0, .int .i64 0]) 23 4 25) <| .nil) (by kernel_rfl) fun ν1 a w' H => ?_
  replace H := H.toL [(2, .slot true (.pointer (some ⟨((ν1 0).n 0), 0, none⟩))), (3, .slot true (.pointer (some ⟨((ν1 1).n 0), 0, none⟩))), (4, .slot true (.pointer (some ⟨((ν1 2).n 0), 0, none⟩))), (23, .blk ((ν1 0).n 0) [.int .i64 a0.Lo, .int .i64 a0.Hi] 23), (24, .blk ((ν1 1).n 0) [.int .i64 a1.Lo, .int .i64 a1.Hi] 23), (25, .blk ((ν1 2).n 0) [.int .i64 0, .int .i64 0] 23)] (by kernel_rfl)
  refine k_seq ?_
  refine k_seq ?_
  replace G := bnd G; obtain ⟨t3, ht3, G⟩ := G
  replace G := bnd G; obtain ⟨t4, ht4, G⟩ := G
  refine k_reg mixed H (.cons [5] (ok_ld (fun ν2 => .agg #[.int .i64 a0.Lo, .int .i64 a0.Hi]) 5 23 0 2 (fun ν2 => ((ν1 0).n 0)) (fun ν2 => [.int .i64 a0.Lo, .int .i64 a0.Hi]) 23) <|
      .cons [6] (ok_callv 13 (fun ν2 => #[.agg #[.int .i64 a0.Lo, .int .i64 a0.Hi]]) (.bool t3) 6 [] (fun _ w _ => armillaryref02_IsEntire.calls a0 t3 w ht3)) <|
      .cons [7] (ok_val (fun ν2 => .bool t3) 7) <|
      .cons [8] (ok_ldg (fun ν2 => .agg #[.int .i64 a1.Lo, .int .i64 a1.Hi]) (fun ν2 => (t3 == false)) [true] 8 24 0 2 (fun ν2 => ((ν1 1).n 0)) (fun ν2 => [.int .i64 a1.Lo, .int .i64 a1.Hi]) 23) <|
      .cons [9] (ok_call 13 (fun ν2 => #[.agg #[.int .i64 a1.Lo, .int .i64 a1.Hi]]) (.bool t4) (fun ν2 => (t3 == false)) [true, false] 9 [] (fun _ w hg _ => armillaryref02_IsEntire.calls a1 t4 w (ifp ht4 hg))) <|
      .cons [10] (ok_or 7 9 (fun ν2 => true) (fun ν2 => true) (fun ν2 => t3) (fun ν2 => t4) 10) <| .nil) (by kernel_rfl) fun ν2 a w' H => ?_
  replace H := H.toL [(2, .slot true (.pointer (some ⟨((ν1 0).n 0), 0, none⟩))), (3, .slot true (.pointer (some ⟨((ν1 1).n 0), 0, none⟩))), (4, .slot true (.pointer (some ⟨((ν1 2).n 0), 0, none⟩))), (10, .slot true (.bool (t3 || t4))), (23, .blk ((ν1 0).n 0) [.int .i64 a0.Lo, .int .i64 a0.Hi] 23), (24, .blk ((ν1 1).n 0) [.int .i64 a1.Lo, .int .i64 a1.Hi] 23), (25, .blk ((ν1 2).n 0) [.int .i64 0, .int .i64 0] 23)] (by kernel_rfl)
  refine k_cond H (by kernel_rfl) (t := (t3 || t4)) (by kernel_rfl) (fun c9 => ?_) (fun c9 => ?_)
  · rw [if_pos c9] at G
    refine k_seq ?_
    replace G := bnd G; obtain ⟨t6, ht6, G⟩ := G
    refine k_reg mixed H (.cons [11] (ok_callv 51 (fun ν5 => #[]) (.agg #[.int .i64 t6.Lo, .int .i64 t6.Hi]) 11 [] (fun _ w _ => armillaryref02_Entire.calls  t6 w ht6)) <|
      .cons [25] (ok_as (u' := fun ν5 => [(25, .blk ((ν1 2).n 0) [.int .i64 t6.Lo, .int .i64 t6.Hi] 23)]) (ok_store 25 0 (fun ν5 => ((ν1 2).n 0)) (fun ν5 => [.int .i64 0, .int .i64 0]) (fun ν5 => [.int .i64 t6.Lo, .int .i64 t6.Hi]) 23) (fun _ => by kernel_rfl)) <| .nil) (by kernel_rfl) fun ν5 a w' H => ?_
    replace H := H.toL [(2, .slot true (.pointer (some ⟨((ν1 0).n 0), 0, none⟩))), (3, .slot true (.pointer (some ⟨((ν1 1).n 0), 0, none⟩))), (4, .slot true (.pointer (some ⟨((ν1 2).n 0), 0, none⟩))), (23, .blk ((ν1 0).n 0) [.int .i64 a0.Lo, .int .i64 a0.Hi] 23), (24, .blk ((ν1 1).n 0) [.int .i64 a1.Lo, .int .i64 a1.Hi] 23), (25, .blk ((ν1 2).n 0) [.int .i64 t6.Lo, .int .i64 t6.Hi] 23)] (by kernel_rfl)
    refine k_ret ?_
    obtain rfl := Option.some.inj G
    exact k_done1 H _ 25 ((ν1 2).n 0) [.int .i64 t6.Lo, .int .i64 t6.Hi] 23 0 2 (by kernel_rfl) (by kernel_rfl) (by kernel_rfl) (by kernel_rfl)
  · rw [if_neg (nt c9)] at G
    refine k_skip ?_
    refine k_seq ?_
    replace G := bnd G; obtain ⟨t8, ht8, G⟩ := G
    refine k_reg mixed H (.cons [12] (ok_val (fun ν7 => .pointer (some ⟨((ν1 0).n 0), 0, none⟩)) 12) <|
      .cons [13] (ok_ld (fun ν7 => .int .i64 a0.Lo) 13 23 0 1 (fun ν7 => ((ν1 0).n 0)) (fun ν7 => [.int .i64 a0.Lo, .int .i64 a0.Hi]) 23) <|
      .cons [14] (ok_val (fun ν7 => .pointer (some ⟨((ν1 1).n 0), 0, none⟩)) 14) <|
      .cons [15] (ok_ld (fun ν7 => .int .i64 a1.Lo) 15 24 0 1 (fun ν7 => ((ν1 1).n 0)) (fun ν7 => [.int .i64 a1.Lo, .int .i64 a1.Hi]) 23) <|
      .cons [16] (ok_val (fun ν7 => .int .i64 (w_i64 (a0.Lo + a1.Lo))) 16) <|
      .cons [17] (ok_val (fun ν7 => .pointer (some ⟨((ν1 0).n 0), 1, none⟩)) 17) <|
      .cons [18] (ok_ld (fun ν7 => .int .i64 a0.Hi) 18 23 1 1 (fun ν7 => ((ν1 0).n 0)) (fun ν7 => [.int .i64 a0.Lo, .int .i64 a0.Hi]) 23) <|
      .cons [19] (ok_val (fun ν7 => .pointer (some ⟨((ν1 1).n 0), 1, none⟩)) 19) <|
      .cons [20] (ok_ld (fun ν7 => .int .i64 a1.Hi) 20 24 1 1 (fun ν7 => ((ν1 1).n 0)) (fun ν7 => [.int .i64 a1.Lo, .int .i64 a1.Hi]) 23) <|
      .cons [21] (ok_val (fun ν7 => .int .i64 (w_i64 (a0.Hi + a1.Hi))) 21) <|
      .cons [22] (ok_callv 55 (fun ν7 => #[.int .i64 (w_i64 (a0.Lo + a1.Lo)), .int .i64 (w_i64 (a0.Hi + a1.Hi))]) (.agg #[.int .i64 t8.Lo, .int .i64 t8.Hi]) 22 [] (fun _ w _ => armillaryref02_New.calls (w_i64 (a0.Lo + a1.Lo)) (w_i64 (a0.Hi + a1.Hi)) t8 w ht8)) <|
      .cons [25] (ok_as (u' := fun ν7 => [(25, .blk ((ν1 2).n 0) [.int .i64 t8.Lo, .int .i64 t8.Hi] 23)]) (ok_store 25 0 (fun ν7 => ((ν1 2).n 0)) (fun ν7 => [.int .i64 0, .int .i64 0]) (fun ν7 => [.int .i64 t8.Lo, .int .i64 t8.Hi]) 23) (fun _ => by kernel_rfl)) <| .nil) (by kernel_rfl) fun ν7 a w' H => ?_
    replace H := H.toL [(4, .slot true (.pointer (some ⟨((ν1 2).n 0), 0, none⟩))), (25, .blk ((ν1 2).n 0) [.int .i64 t8.Lo, .int .i64 t8.Hi] 23)] (by kernel_rfl)
    refine k_ret ?_
    obtain rfl := Option.some.inj G
    exact k_done1 H _ 25 ((ν1 2).n 0) [.int .i64 t8.Lo, .int .i64 t8.Hi] 23 0 2 (by kernel_rfl) (by kernel_rfl) (by kernel_rfl) (by kernel_rfl)

set_option maxHeartbeats 4000000 in
theorem armillaryref02_Neg.calls (a0 : TInterval) (r : TInterval) (w : World) (G : armillaryref02_Neg a0 = some r) :
    Calls Tryd.prog 58 #[.agg #[.int .i64 a0.Lo, .int .i64 a0.Hi]] w fun e w' => e = .returned (.agg #[.int .i64 r.Lo, .int .i64 r.Hi]) ∧ Below w.heap.size w w' := by
  refine k_enter (args := [.agg #[.int .i64 a0.Lo, .int .i64 a0.Hi]]) 10 Tryd.func58 rfl (by kernel_rfl) (by kernel_rfl) fun a H => ?_
  unfold armillaryref02_Neg at G
  refine k_seq ?_
  refine k_reg mixed H (.cons [1, 10] (ok_new (fun b => .pointer (some ⟨b, 0, none⟩)) (fun ν1 => [.int .i64 a0.Lo, .int .i64 a0.Hi]) 23 1 10) <|
      .cons [2, 11] (ok_new (fun b => .pointer (some ⟨b, 0, none⟩)) (fun ν1 => [.int .i64 0, .int .i64 0]) 23 2 11) <| .nil) (by kernel_rfl) fun ν1 a w' H => ?_
  replace H := H.toL [(1, .slot true (.pointer (some ⟨((ν1 0).n 0), 0, none⟩))), (2, .slot true (.pointer (some ⟨((ν1 1).n 0), 0, none⟩))), (10, .blk ((ν1 0).n 0) [.int .i64 a0.Lo, .int .i64 a0.Hi] 23), (11, .blk ((ν1 1).n 0) [.int .i64 0, .int .i64 0] 23)] (by kernel_rfl)
  refine k_seq ?_
  refine k_reg mixed H (.cons [3] (ok_val (fun ν2 => .pointer (some ⟨((ν1 0).n 0), 1, none⟩)) 3) <|
      .cons [4] (ok_ld (fun ν2 => .int .i64 a0.Hi) 4 10 1 1 (fun ν2 => ((ν1 0).n 0)) (fun ν2 => [.int .i64 a0.Lo, .int .i64 a0.Hi]) 23) <|
      .cons [5] (ok_val (fun ν2 => .int .i64 (w_i64 (0 - a0.Hi))) 5) <|
      .cons [6] (ok_val (fun ν2 => .pointer (some ⟨((ν1 0).n 0), 0, none⟩)) 6) <|
      .cons [7] (ok_ld (fun ν2 => .int .i64 a0.Lo) 7 10 0 1 (fun ν2 => ((ν1 0).n 0)) (fun ν2 => [.int .i64 a0.Lo, .int .i64 a0.Hi]) 23) <|
      .cons [8] (ok_val (fun ν2 => .int .i64 (w_i64 (0 - a0.Lo))) 8) <|
      .cons [9] (ok_val (fun ν2 => .agg #[.int .i64 (w_i64 (0 - a0.Hi)), .int .i64 (w_i64 (0 - a0.Lo))]) 9) <|
      .cons [11] (ok_as (u' := fun ν2 => [(11, .blk ((ν1 1).n 0) [.int .i64 (w_i64 (0 - a0.Hi)), .int .i64 (w_i64 (0 - a0.Lo))] 23)]) (ok_store 11 0 (fun ν2 => ((ν1 1).n 0)) (fun ν2 => [.int .i64 0, .int .i64 0]) (fun ν2 => [.int .i64 (w_i64 (0 - a0.Hi)), .int .i64 (w_i64 (0 - a0.Lo))]) 23) (fun _ => by kernel_rfl)) <| .nil) (by kernel_rfl) fun ν2 a w' H => ?_
  replace H := H.toL [(2, .slot true (.pointer (some ⟨((ν1 1).n 0), 0, none⟩))), (11, .blk ((ν1 1).n 0) [.int .i64 (w_i64 (0 - a0.Hi)), .int .i64 (w_i64 (0 - a0.Lo))] 23)] (by kernel_rfl)
  refine k_ret ?_
  obtain rfl := Option.some.inj G
  exact k_done1 H _ 11 ((ν1 1).n 0) [.int .i64 (w_i64 (0 - a0.Hi)), .int .i64 (w_i64 (0 - a0.Lo))] 23 0 2 (by kernel_rfl) (by kernel_rfl) (by kernel_rfl) (by kernel_rfl)

set_option maxHeartbeats 4000000 in
theorem armillaryref02_Sub.calls (a0 : TInterval) (a1 : TInterval) (r : TInterval) (w : World) (G : armillaryref02_Sub a0 a1 = some r) :
    Calls Tryd.prog 57 #[.agg #[.int .i64 a0.Lo, .int .i64 a0.Hi], .agg #[.int .i64 a1.Lo, .int .i64 a1.Hi]] w fun e w' => e = .returned (.agg #[.int .i64 r.Lo, .int .i64 r.Hi]) ∧ Below w.heap.size w w' := by
  refine k_enter (args := [.agg #[.int .i64 a0.Lo, .int .i64 a0.Hi], .agg #[.int .i64 a1.Lo, .int .i64 a1.Hi]]) 9 Tryd.func57 rfl (by kernel_rfl) (by kernel_rfl) fun a H => ?_
  unfold armillaryref02_Sub at G
  refine k_seq ?_
  refine k_reg mixed H (.cons [2, 9] (ok_new (fun b => .pointer (some ⟨b, 0, none⟩)) (fun ν1 => [.int .i64 a0.Lo, .int .i64 a0.Hi]) 23 2 9) <|
      .cons [3, 10] (ok_new (fun b => .pointer (some ⟨b, 0, none⟩)) (fun ν1 => [.int .i64 a1.Lo, .int .i64 a1.Hi]) 23 3 10) <|
      .cons [4, 11] (ok_new (fun b => .pointer (some ⟨b, 0, none⟩)) (fun ν1 => [.int .i64 0, .int .i64 0]) 23 4 11) <| .nil) (by kernel_rfl) fun ν1 a w' H => ?_
  replace H := H.toL [(2, .slot true (.pointer (some ⟨((ν1 0).n 0), 0, none⟩))), (3, .slot true (.pointer (some ⟨((ν1 1).n 0), 0, none⟩))), (4, .slot true (.pointer (some ⟨((ν1 2).n 0), 0, none⟩))), (9, .blk ((ν1 0).n 0) [.int .i64 a0.Lo, .int .i64 a0.Hi] 23), (10, .blk ((ν1 1).n 0) [.int .i64 a1.Lo, .int .i64 a1.Hi] 23), (11, .blk ((ν1 2).n 0) [.int .i64 0, .int .i64 0] 23)] (by kernel_rfl)
  refine k_seq ?_
  replace G := bnd G; obtain ⟨t3, ht3, G⟩ := G
  replace G := bnd G; obtain ⟨t4, ht4, G⟩ := G
  refine k_reg mixed H (.cons [5] (ok_ld (fun ν2 => .agg #[.int .i64 a0.Lo, .int .i64 a0.Hi]) 5 9 0 2 (fun ν2 => ((ν1 0).n 0)) (fun ν2 => [.int .i64 a0.Lo, .int .i64 a0.Hi]) 23) <|
      .cons [6] (ok_ld (fun ν2 => .agg #[.int .i64 a1.Lo, .int .i64 a1.Hi]) 6 10 0 2 (fun ν2 => ((ν1 1).n 0)) (fun ν2 => [.int .i64 a1.Lo, .int .i64 a1.Hi]) 23) <|
      .cons [7] (ok_callv 58 (fun ν2 => #[.agg #[.int .i64 a1.Lo, .int .i64 a1.Hi]]) (.agg #[.int .i64 t3.Lo, .int .i64 t3.Hi]) 7 [] (fun _ w _ => armillaryref02_Neg.calls a1 t3 w ht3)) <|
      .cons [8] (ok_callv 56 (fun ν2 => #[.agg #[.int .i64 a0.Lo, .int .i64 a0.Hi], .agg #[.int .i64 t3.Lo, .int .i64 t3.Hi]]) (.agg #[.int .i64 t4.Lo, .int .i64 t4.Hi]) 8 [] (fun _ w _ => armillaryref02_Add.calls a0 t3 t4 w ht4)) <|
      .cons [11] (ok_as (u' := fun ν2 => [(11, .blk ((ν1 2).n 0) [.int .i64 t4.Lo, .int .i64 t4.Hi] 23)]) (ok_store 11 0 (fun ν2 => ((ν1 2).n 0)) (fun ν2 => [.int .i64 0, .int .i64 0]) (fun ν2 => [.int .i64 t4.Lo, .int .i64 t4.Hi]) 23) (fun _ => by kernel_rfl)) <| .nil) (by kernel_rfl) fun ν2 a w' H => ?_
  replace H := H.toL [(4, .slot true (.pointer (some ⟨((ν1 2).n 0), 0, none⟩))), (11, .blk ((ν1 2).n 0) [.int .i64 t4.Lo, .int .i64 t4.Hi] 23)] (by kernel_rfl)
  refine k_ret ?_
  obtain rfl := Option.some.inj G
  exact k_done1 H _ 11 ((ν1 2).n 0) [.int .i64 t4.Lo, .int .i64 t4.Hi] 23 0 2 (by kernel_rfl) (by kernel_rfl) (by kernel_rfl) (by kernel_rfl)

set_option maxHeartbeats 4000000 in
theorem armillaryref02_Mul.calls (k0 : Nat) (a0 : TInterval) (a1 : TInterval) (r : TInterval) (w : World) (G : armillaryref02_Mul k0 a0 a1 = some r) :
    Calls Tryd.prog 59 #[.agg #[.int .i64 a0.Lo, .int .i64 a0.Hi], .agg #[.int .i64 a1.Lo, .int .i64 a1.Hi]] w fun e w' => e = .returned (.agg #[.int .i64 r.Lo, .int .i64 r.Hi]) ∧ Below w.heap.size w w' := by
  refine k_enter (args := [.agg #[.int .i64 a0.Lo, .int .i64 a0.Hi], .agg #[.int .i64 a1.Lo, .int .i64 a1.Hi]]) 64 Tryd.func59 rfl (by kernel_rfl) (by kernel_rfl) fun a H => ?_
  unfold armillaryref02_Mul at G
  refine k_seq ?_
  refine k_reg mixed H (.cons [2, 64] (ok_new (fun b => .pointer (some ⟨b, 0, none⟩)) (fun ν1 => [.int .i64 a0.Lo, .int .i64 a0.Hi]) 23 2 64) <|
      .cons [3, 65] (ok_new (fun b => .pointer (some ⟨b, 0, none⟩)) (fun ν1 => [.int .i64 a1.Lo, .int .i64 a1.Hi]) 23 3 65) <|
      .cons [4, 66] (ok_new (fun b => .pointer (some ⟨b, 0, none⟩)) (fun ν1 => [.int .i64 0, .int .i64 0]) 23 4 66) <| .nil) (by kernel_rfl) fun ν1 a w' H => ?_
  replace H := H.toL [(2, .slot true (.pointer (some ⟨((ν1 0).n 0), 0, none⟩))), (3, .slot true (.pointer (some ⟨((ν1 1).n 0), 0, none⟩))), (4, .slot true (.pointer (some ⟨((ν1 2).n 0), 0, none⟩))), (64, .blk ((ν1 0).n 0) [.int .i64 a0.Lo, .int .i64 a0.Hi] 23), (65, .blk ((ν1 1).n 0) [.int .i64 a1.Lo, .int .i64 a1.Hi] 23), (66, .blk ((ν1 2).n 0) [.int .i64 0, .int .i64 0] 23)] (by kernel_rfl)
  refine k_seq ?_
  refine k_seq ?_
  replace G := bnd G; obtain ⟨t3, ht3, G⟩ := G
  replace G := bnd G; obtain ⟨t4, ht4, G⟩ := G
  refine k_reg mixed H (.cons [9] (ok_ld (fun ν2 => .agg #[.int .i64 a0.Lo, .int .i64 a0.Hi]) 9 64 0 2 (fun ν2 => ((ν1 0).n 0)) (fun ν2 => [.int .i64 a0.Lo, .int .i64 a0.Hi]) 23) <|
      .cons [10] (ok_callv 13 (fun ν2 => #[.agg #[.int .i64 a0.Lo, .int .i64 a0.Hi]]) (.bool t3) 10 [] (fun _ w _ => armillaryref02_IsEntire.calls a0 t3 w ht3)) <|
      .cons [11] (ok_val (fun ν2 => .bool t3) 11) <|
      .cons [12] (ok_ldg (fun ν2 => .agg #[.int .i64 a1.Lo, .int .i64 a1.Hi]) (fun ν2 => (t3 == false)) [true] 12 65 0 2 (fun ν2 => ((ν1 1).n 0)) (fun ν2 => [.int .i64 a1.Lo, .int .i64 a1.Hi]) 23) <|
      .cons [13] (ok_call 13 (fun ν2 => #[.agg #[.int .i64 a1.Lo, .int .i64 a1.Hi]]) (.bool t4) (fun ν2 => (t3 == false)) [true, false] 13 [] (fun _ w hg _ => armillaryref02_IsEntire.calls a1 t4 w (ifp ht4 hg))) <|
      .cons [14] (ok_or 11 13 (fun ν2 => true) (fun ν2 => true) (fun ν2 => t3) (fun ν2 => t4) 14) <| .nil) (by kernel_rfl) fun ν2 a w' H => ?_
  replace H := H.toL [(2, .slot true (.pointer (some ⟨((ν1 0).n 0), 0, none⟩))), (3, .slot true (.pointer (some ⟨((ν1 1).n 0), 0, none⟩))), (4, .slot true (.pointer (some ⟨((ν1 2).n 0), 0, none⟩))), (14, .slot true (.bool (t3 || t4))), (64, .blk ((ν1 0).n 0) [.int .i64 a0.Lo, .int .i64 a0.Hi] 23), (65, .blk ((ν1 1).n 0) [.int .i64 a1.Lo, .int .i64 a1.Hi] 23), (66, .blk ((ν1 2).n 0) [.int .i64 0, .int .i64 0] 23)] (by kernel_rfl)
  refine k_cond H (by kernel_rfl) (t := (t3 || t4)) (by kernel_rfl) (fun c30 => ?_) (fun c30 => ?_)
  · rw [if_pos c30] at G
    refine k_seq ?_
    replace G := bnd G; obtain ⟨t6, ht6, G⟩ := G
    refine k_reg mixed H (.cons [15] (ok_callv 51 (fun ν5 => #[]) (.agg #[.int .i64 t6.Lo, .int .i64 t6.Hi]) 15 [] (fun _ w _ => armillaryref02_Entire.calls  t6 w ht6)) <|
      .cons [66] (ok_as (u' := fun ν5 => [(66, .blk ((ν1 2).n 0) [.int .i64 t6.Lo, .int .i64 t6.Hi] 23)]) (ok_store 66 0 (fun ν5 => ((ν1 2).n 0)) (fun ν5 => [.int .i64 0, .int .i64 0]) (fun ν5 => [.int .i64 t6.Lo, .int .i64 t6.Hi]) 23) (fun _ => by kernel_rfl)) <| .nil) (by kernel_rfl) fun ν5 a w' H => ?_
    replace H := H.toL [(2, .slot true (.pointer (some ⟨((ν1 0).n 0), 0, none⟩))), (3, .slot true (.pointer (some ⟨((ν1 1).n 0), 0, none⟩))), (4, .slot true (.pointer (some ⟨((ν1 2).n 0), 0, none⟩))), (64, .blk ((ν1 0).n 0) [.int .i64 a0.Lo, .int .i64 a0.Hi] 23), (65, .blk ((ν1 1).n 0) [.int .i64 a1.Lo, .int .i64 a1.Hi] 23), (66, .blk ((ν1 2).n 0) [.int .i64 t6.Lo, .int .i64 t6.Hi] 23)] (by kernel_rfl)
    refine k_ret ?_
    obtain rfl := Option.some.inj G
    exact k_done1 H _ 66 ((ν1 2).n 0) [.int .i64 t6.Lo, .int .i64 t6.Hi] 23 0 2 (by kernel_rfl) (by kernel_rfl) (by kernel_rfl) (by kernel_rfl)
  · rw [if_neg (nt c30)] at G
    refine k_skip ?_
    refine k_seq ?_
    refine k_reg mixed H (.cons [16] (ok_val (fun ν7 => .pointer (some ⟨((ν1 0).n 0), 0, none⟩)) 16) <|
      .cons [17] (ok_ld (fun ν7 => .int .i64 a0.Lo) 17 64 0 1 (fun ν7 => ((ν1 0).n 0)) (fun ν7 => [.int .i64 a0.Lo, .int .i64 a0.Hi]) 23) <|
      .cons [18] (ok_val (fun ν7 => .pointer (some ⟨((ν1 1).n 0), 0, none⟩)) 18) <|
      .cons [19] (ok_ld (fun ν7 => .int .i64 a1.Lo) 19 65 0 1 (fun ν7 => ((ν1 1).n 0)) (fun ν7 => [.int .i64 a1.Lo, .int .i64 a1.Hi]) 23) <|
      .cons [20] (ok_val (fun ν7 => .int .i64 (w_i64 (a0.Lo * a1.Lo))) 20) <|
      .cons [21] (ok_val (fun ν7 => .pointer (some ⟨((ν1 0).n 0), 0, none⟩)) 21) <|
      .cons [22] (ok_ld (fun ν7 => .int .i64 a0.Lo) 22 64 0 1 (fun ν7 => ((ν1 0).n 0)) (fun ν7 => [.int .i64 a0.Lo, .int .i64 a0.Hi]) 23) <|
      .cons [23] (ok_val (fun ν7 => .pointer (some ⟨((ν1 1).n 0), 1, none⟩)) 23) <|
      .cons [24] (ok_ld (fun ν7 => .int .i64 a1.Hi) 24 65 1 1 (fun ν7 => ((ν1 1).n 0)) (fun ν7 => [.int .i64 a1.Lo, .int .i64 a1.Hi]) 23) <|
      .cons [25] (ok_val (fun ν7 => .int .i64 (w_i64 (a0.Lo * a1.Hi))) 25) <|
      .cons [26] (ok_val (fun ν7 => .pointer (some ⟨((ν1 0).n 0), 1, none⟩)) 26) <|
      .cons [27] (ok_ld (fun ν7 => .int .i64 a0.Hi) 27 64 1 1 (fun ν7 => ((ν1 0).n 0)) (fun ν7 => [.int .i64 a0.Lo, .int .i64 a0.Hi]) 23) <|
      .cons [28] (ok_val (fun ν7 => .pointer (some ⟨((ν1 1).n 0), 0, none⟩)) 28) <|
      .cons [29] (ok_ld (fun ν7 => .int .i64 a1.Lo) 29 65 0 1 (fun ν7 => ((ν1 1).n 0)) (fun ν7 => [.int .i64 a1.Lo, .int .i64 a1.Hi]) 23) <|
      .cons [30] (ok_val (fun ν7 => .int .i64 (w_i64 (a0.Hi * a1.Lo))) 30) <|
      .cons [31] (ok_val (fun ν7 => .pointer (some ⟨((ν1 0).n 0), 1, none⟩)) 31) <|
      .cons [32] (ok_ld (fun ν7 => .int .i64 a0.Hi) 32 64 1 1 (fun ν7 => ((ν1 0).n 0)) (fun ν7 => [.int .i64 a0.Lo, .int .i64 a0.Hi]) 23) <|
      .cons [33] (ok_val (fun ν7 => .pointer (some ⟨((ν1 1).n 0), 1, none⟩)) 33) <|
      .cons [34] (ok_ld (fun ν7 => .int .i64 a1.Hi) 34 65 1 1 (fun ν7 => ((ν1 1).n 0)) (fun ν7 => [.int .i64 a1.Lo, .int .i64 a1.Hi]) 23) <|
      .cons [35] (ok_val (fun ν7 => .int .i64 (w_i64 (a0.Hi * a1.Hi))) 35) <|
      .cons [36, 67] (ok_new (fun b => .slice (some ⟨b, 0, none⟩) 4 4) (fun ν7 => [.int .i64 (w_i64 (a0.Lo * a1.Lo)), .int .i64 (w_i64 (a0.Lo * a1.Hi)), .int .i64 (w_i64 (a0.Hi * a1.Lo)), .int .i64 (w_i64 (a0.Hi * a1.Hi))]) 2 36 67) <|
      .cons [5] (ok_val (fun ν7 => .slice (some ⟨((ν7 20).n 0), 0, none⟩) 4 4) 5) <| .nil) (by kernel_rfl) fun ν7 a w' H => ?_
    replace H := H.toL [(4, .slot true (.pointer (some ⟨((ν1 2).n 0), 0, none⟩))), (5, .slot true (.slice (some ⟨((ν7 20).n 0), 0, none⟩) 4 4)), (66, .blk ((ν1 2).n 0) [.int .i64 0, .int .i64 0] 23), (67, .blk ((ν7 20).n 0) [.int .i64 (w_i64 (a0.Lo * a1.Lo)), .int .i64 (w_i64 (a0.Lo * a1.Hi)), .int .i64 (w_i64 (a0.Hi * a1.Lo)), .int .i64 (w_i64 (a0.Hi * a1.Hi))] 2)] (by kernel_rfl)
    refine k_seq ?_
    refine k_reg mixed H (.cons [37] (ok_val (fun ν8 => .slice (some ⟨((ν7 20).n 0), 0, none⟩) 4 4) 37) <|
      .cons [38] (ok_val (fun ν8 => .pointer (some ⟨((ν7 20).n 0), 0, none⟩)) 38) <|
      .cons [39] (ok_ld (fun ν8 => .int .i64 (w_i64 (a0.Lo * a1.Lo))) 39 67 0 1 (fun ν8 => ((ν7 20).n 0)) (fun ν8 => [.int .i64 (w_i64 (a0.Lo * a1.Lo)), .int .i64 (w_i64 (a0.Lo * a1.Hi)), .int .i64 (w_i64 (a0.Hi * a1.Lo)), .int .i64 (w_i64 (a0.Hi * a1.Hi))]) 2) <|
      .cons [40] (ok_val (fun ν8 => .slice (some ⟨((ν7 20).n 0), 0, none⟩) 4 4) 40) <|
      .cons [41] (ok_val (fun ν8 => .pointer (some ⟨((ν7 20).n 0), 0, none⟩)) 41) <|
      .cons [42] (ok_ld (fun ν8 => .int .i64 (w_i64 (a0.Lo * a1.Lo))) 42 67 0 1 (fun ν8 => ((ν7 20).n 0)) (fun ν8 => [.int .i64 (w_i64 (a0.Lo * a1.Lo)), .int .i64 (w_i64 (a0.Lo * a1.Hi)), .int .i64 (w_i64 (a0.Hi * a1.Lo)), .int .i64 (w_i64 (a0.Hi * a1.Hi))]) 2) <|
      .cons [6] (ok_val (fun ν8 => .int .i64 (w_i64 (a0.Lo * a1.Lo))) 6) <|
      .cons [7] (ok_val (fun ν8 => .int .i64 (w_i64 (a0.Lo * a1.Lo))) 7) <| .nil) (by kernel_rfl) fun ν8 a w' H => ?_
    replace H := H.toL [(4, .slot true (.pointer (some ⟨((ν1 2).n 0), 0, none⟩))), (5, .slot true (.slice (some ⟨((ν7 20).n 0), 0, none⟩) 4 4)), (6, .slot true (.int .i64 (w_i64 (a0.Lo * a1.Lo)))), (7, .slot true (.int .i64 (w_i64 (a0.Lo * a1.Lo)))), (66, .blk ((ν1 2).n 0) [.int .i64 0, .int .i64 0] 23), (67, .blk ((ν7 20).n 0) [.int .i64 (w_i64 (a0.Lo * a1.Lo)), .int .i64 (w_i64 (a0.Lo * a1.Hi)), .int .i64 (w_i64 (a0.Hi * a1.Lo)), .int .i64 (w_i64 (a0.Hi * a1.Hi))] 2)] (by kernel_rfl)
    refine k_seq ?_
    replace G := bnd G; obtain ⟨j11, hj11, G⟩ := G
    refine k_join (fun a w' => Rep w.heap.size w 64 (ofL [(4, .slot true (.pointer (some ⟨((ν1 2).n 0), 0, none⟩))), (6, .slot true (.int .i64 j11.1)), (7, .slot true (.int .i64 j11.2)), (66, .blk ((ν1 2).n 0) [.int .i64 0, .int .i64 0] 23)]) a w') ?_ ?_
    · clear H; intro a w' H
      refine k_seq ?_
      replace G := bnd G; obtain ⟨t13, ht13, G⟩ := G
      replace G := bnd G; obtain ⟨t14, ht14, G⟩ := G
      replace G := bnd G; obtain ⟨t15, ht15, G⟩ := G
      refine k_reg mixed H (.cons [59] (ok_val (fun ν12 => .int .i64 j11.1) 59) <|
      .cons [60] (ok_callv 25 (fun ν12 => #[.int .i64 j11.1, .int .i64 65536]) (.int .i64 t13) 60 [] (fun _ w _ => armillaryref02_Floor.calls j11.1 65536 t13 w ht13)) <|
      .cons [61] (ok_val (fun ν12 => .int .i64 j11.2) 61) <|
      .cons [62] (ok_callv 26 (fun ν12 => #[.int .i64 j11.2, .int .i64 65536]) (.int .i64 t14) 62 [] (fun _ w _ => armillaryref02_Ceil.calls j11.2 65536 t14 w ht14)) <|
      .cons [63] (ok_callv 55 (fun ν12 => #[.int .i64 t13, .int .i64 t14]) (.agg #[.int .i64 t15.Lo, .int .i64 t15.Hi]) 63 [] (fun _ w _ => armillaryref02_New.calls t13 t14 t15 w ht15)) <|
      .cons [66] (ok_as (u' := fun ν12 => [(66, .blk ((ν1 2).n 0) [.int .i64 t15.Lo, .int .i64 t15.Hi] 23)]) (ok_store 66 0 (fun ν12 => ((ν1 2).n 0)) (fun ν12 => [.int .i64 0, .int .i64 0]) (fun ν12 => [.int .i64 t15.Lo, .int .i64 t15.Hi]) 23) (fun _ => by kernel_rfl)) <| .nil) (by kernel_rfl) fun ν12 a w' H => ?_
      replace H := H.toL [(4, .slot true (.pointer (some ⟨((ν1 2).n 0), 0, none⟩))), (66, .blk ((ν1 2).n 0) [.int .i64 t15.Lo, .int .i64 t15.Hi] 23)] (by kernel_rfl)
      refine k_ret ?_
      obtain rfl := Option.some.inj G
      exact k_done1 H _ 66 ((ν1 2).n 0) [.int .i64 t15.Lo, .int .i64 t15.Hi] 23 0 2 (by kernel_rfl) (by kernel_rfl) (by kernel_rfl) (by kernel_rfl)
    · clear G; replace G := hj11; clear hj11
      refine k_seq ?_
      refine k_reg mixed H (.cons [8] (ok_val (fun ν16 => .int .i64 1) 8) <| .nil) (by kernel_rfl) fun ν16 a w' H => ?_
      replace H := H.toL [(4, .slot true (.pointer (some ⟨((ν1 2).n 0), 0, none⟩))), (5, .slot true (.slice (some ⟨((ν7 20).n 0), 0, none⟩) 4 4)), (6, .slot true (.int .i64 (w_i64 (a0.Lo * a1.Lo)))), (7, .slot true (.int .i64 (w_i64 (a0.Lo * a1.Lo)))), (8, .slot true (.int .i64 1)), (66, .blk ((ν1 2).n 0) [.int .i64 0, .int .i64 0] 23), (67, .blk ((ν7 20).n 0) [.int .i64 (w_i64 (a0.Lo * a1.Lo)), .int .i64 (w_i64 (a0.Lo * a1.Hi)), .int .i64 (w_i64 (a0.Hi * a1.Lo)), .int .i64 (w_i64 (a0.Hi * a1.Hi))] 2)] (by kernel_rfl)
      refine k_block ?_
      refine k_loopJ (fun m a w' => ∃ x17 : Int, ∃ x18 : Int, ∃ x19 : Int, armillaryref02_Mul.l20 k0 a0 a1 t3 t4 m x17 x18 x19 = some j11 ∧ Rep w.heap.size w 64 (ofL [(4, .slot true (.pointer (some ⟨((ν1 2).n 0), 0, none⟩))), (5, .slot true (.slice (some ⟨((ν7 20).n 0), 0, none⟩) 4 4)), (6, .slot true (.int .i64 x17)), (7, .slot true (.int .i64 x18)), (8, .slot true (.int .i64 x19)), (66, .blk ((ν1 2).n 0) [.int .i64 0, .int .i64 0] 23), (67, .blk ((ν7 20).n 0) [.int .i64 (w_i64 (a0.Lo * a1.Lo)), .int .i64 (w_i64 (a0.Lo * a1.Hi)), .int .i64 (w_i64 (a0.Hi * a1.Lo)), .int .i64 (w_i64 (a0.Hi * a1.Hi))] 2)]) a w') k0 ⟨_, _, _, G, H.toL _ (by kernel_rfl)⟩ ?_
      clear G H
      rintro (_ | k) a w' ⟨x17, x18, x19, G, H⟩
      · exact absurd G (by unfold armillaryref02_Mul.l20; exact fun h => by cases h)
      · unfold armillaryref02_Mul.l20 at G
        refine k_seq ?_
        refine k_seq ?_
        refine k_reg mixed H (.cons [43] (ok_val (fun ν21 => .int .i64 x19) 43) <|
      .cons [44] (ok_val (fun ν21 => .bool (decide (x19 < 4))) 44) <| .nil) (by kernel_rfl) fun ν21 a w' H => ?_
        replace H := H.toL [(4, .slot true (.pointer (some ⟨((ν1 2).n 0), 0, none⟩))), (5, .slot true (.slice (some ⟨((ν7 20).n 0), 0, none⟩) 4 4)), (6, .slot true (.int .i64 x17)), (7, .slot true (.int .i64 x18)), (8, .slot true (.int .i64 x19)), (43, .slot true (.int .i64 x19)), (44, .slot true (.bool (decide (x19 < 4)))), (66, .blk ((ν1 2).n 0) [.int .i64 0, .int .i64 0] 23), (67, .blk ((ν7 20).n 0) [.int .i64 (w_i64 (a0.Lo * a1.Lo)), .int .i64 (w_i64 (a0.Lo * a1.Hi)), .int .i64 (w_i64 (a0.Hi * a1.Lo)), .int .i64 (w_i64 (a0.Hi * a1.Hi))] 2)] (by kernel_rfl)
        refine k_cond H (by kernel_rfl) (t := decide (x19 < 4)) (by kernel_rfl) (fun c29 => ?_) (fun c29 => ?_)
        · rw [if_pos c29] at G
          refine k_skip ?_
          refine k_seq ?_
          refine k_block ?_
          refine k_seq ?_
          replace G := gd G; obtain ⟨b23, G⟩ := G
          replace G := bnd G; obtain ⟨t24, ht24, G⟩ := G
          refine k_reg mixed H (.cons [47] (ok_val (fun ν22 => .int .i64 x17) 47) <|
      .cons [48] (ok_val (fun ν22 => .slice (some ⟨((ν7 20).n 0), 0, none⟩) 4 4) 48) <|
      .cons [49] (ok_val (fun ν22 => .int .i64 x19) 49) <|
      .cons [50] (ok_val (fun ν22 => .pointer (some ⟨((ν7 20).n 0), (0 + x19.toNat * 1), none⟩)) 50 (hv := fun _ _ => run_of (by kernel_rfl) (run_indexAddr (t := 40) (b := ((ν7 20).n 0)) (o := 0) (len := 4) (cap := 4) (k := .i64) (i := x19) (sz := 1) (by kernel_rfl) (by kernel_rfl) b23))) <|
      .cons [51] (ok_lds (fun ν22 => .int .i64 t24) 51 67 (fun ν22 => (0 + x19.toNat * 1)) (fun ν22 => ((ν7 20).n 0)) (fun ν22 => [.int .i64 (w_i64 (a0.Lo * a1.Lo)), .int .i64 (w_i64 (a0.Lo * a1.Hi)), .int .i64 (w_i64 (a0.Hi * a1.Lo)), .int .i64 (w_i64 (a0.Hi * a1.Hi))]) 2 (fun ν22 => elt_int ht24)) <|
      .cons [52] (ok_val (fun ν22 => .int .i64 (mn x17 t24)) 52) <|
      .cons [6] (ok_val (fun ν22 => .int .i64 (mn x17 t24)) 6) <| .nil) (by kernel_rfl) fun ν22 a w' H => ?_
          replace H := H.toL [(4, .slot true (.pointer (some ⟨((ν1 2).n 0), 0, none⟩))), (5, .slot true (.slice (some ⟨((ν7 20).n 0), 0, none⟩) 4 4)), (6, .slot true (.int .i64 (mn x17 t24))), (7, .slot true (.int .i64 x18)), (8, .slot true (.int .i64 x19)), (43, .slot true (.int .i64 x19)), (44, .slot true (.bool (decide (x19 < 4)))), (47, .slot true (.int .i64 x17)), (48, .slot true (.slice (some ⟨((ν7 20).n 0), 0, none⟩) 4 4)), (49, .slot true (.int .i64 x19)), (50, .slot true (.pointer (some ⟨((ν7 20).n 0), (0 + x19.toNat * 1), none⟩))), (51, .slot true (.int .i64 t24)), (52, .slot true (.int .i64 (mn x17 t24))), (66, .blk ((ν1 2).n 0) [.int .i64 0, .int .i64 0] 23), (67, .blk ((ν7 20).n 0) [.int .i64 (w_i64 (a0.Lo * a1.Lo)), .int .i64 (w_i64 (a0.Lo * a1.Hi)), .int .i64 (w_i64 (a0.Hi * a1.Lo)), .int .i64 (w_i64 (a0.Hi * a1.Hi))] 2)] (by kernel_rfl)
          replace G := gd G; obtain ⟨b26, G⟩ := G
          replace G := bnd G; obtain ⟨t27, ht27, G⟩ := G
          refine k_reg mixed H (.cons [53] (ok_val (fun ν25 => .int .i64 x18) 53) <|
      .cons [54] (ok_val (fun ν25 => .slice (some ⟨((ν7 20).n 0), 0, none⟩) 4 4) 54) <|
      .cons [55] (ok_val (fun ν25 => .int .i64 x19) 55) <|
      .cons [56] (ok_val (fun ν25 => .pointer (some ⟨((ν7 20).n 0), (0 + x19.toNat * 1), none⟩)) 56 (hv := fun _ _ => run_of (by kernel_rfl) (run_indexAddr (t := 40) (b := ((ν7 20).n 0)) (o := 0) (len := 4) (cap := 4) (k := .i64) (i := x19) (sz := 1) (by kernel_rfl) (by kernel_rfl) b26))) <|
      .cons [57] (ok_lds (fun ν25 => .int .i64 t27) 57 67 (fun ν25 => (0 + x19.toNat * 1)) (fun ν25 => ((ν7 20).n 0)) (fun ν25 => [.int .i64 (w_i64 (a0.Lo * a1.Lo)), .int .i64 (w_i64 (a0.Lo * a1.Hi)), .int .i64 (w_i64 (a0.Hi * a1.Lo)), .int .i64 (w_i64 (a0.Hi * a1.Hi))]) 2 (fun ν25 => elt_int ht27)) <|
      .cons [58] (ok_val (fun ν25 => .int .i64 (mx x18 t27)) 58) <|
      .cons [7] (ok_val (fun ν25 => .int .i64 (mx x18 t27)) 7) <| .nil) (by kernel_rfl) fun ν25 a w' H => ?_
          replace H := H.toL [(4, .slot true (.pointer (some ⟨((ν1 2).n 0), 0, none⟩))), (5, .slot true (.slice (some ⟨((ν7 20).n 0), 0, none⟩) 4 4)), (6, .slot true (.int .i64 (mn x17 t24))), (7, .slot true (.int .i64 (mx x18 t27))), (8, .slot true (.int .i64 x19)), (43, .slot true (.int .i64 x19)), (44, .slot true (.bool (decide (x19 < 4)))), (47, .slot true (.int .i64 x17)), (48, .slot true (.slice (some ⟨((ν7 20).n 0), 0, none⟩) 4 4)), (49, .slot true (.int .i64 x19)), (50, .slot true (.pointer (some ⟨((ν7 20).n 0), (0 + x19.toNat * 1), none⟩))), (51, .slot true (.int .i64 t24)), (52, .slot true (.int .i64 (mn x17 t24))), (53, .slot true (.int .i64 x18)), (54, .slot true (.slice (some ⟨((ν7 20).n 0), 0, none⟩) 4 4)), (55, .slot true (.int .i64 x19)), (56, .slot true (.pointer (some ⟨((ν7 20).n 0), (0 + x19.toNat * 1), none⟩))), (57, .slot true (.int .i64 t27)), (58, .slot true (.int .i64 (mx x18 t27))), (66, .blk ((ν1 2).n 0) [.int .i64 0, .int .i64 0] 23), (67, .blk ((ν7 20).n 0) [.int .i64 (w_i64 (a0.Lo * a1.Lo)), .int .i64 (w_i64 (a0.Lo * a1.Hi)), .int .i64 (w_i64 (a0.Hi * a1.Lo)), .int .i64 (w_i64 (a0.Hi * a1.Hi))] 2)] (by kernel_rfl)
          refine k_reg mixed H (.cons [45] (ok_val (fun ν28 => .int .i64 x19) 45) <|
      .cons [46] (ok_val (fun ν28 => .int .i64 (w_i64 (x19 + 1))) 46) <|
      .cons [8] (ok_val (fun ν28 => .int .i64 (w_i64 (x19 + 1))) 8) <| .nil) (by kernel_rfl) fun ν28 a w' H => ?_
          replace H := H.toL [(4, .slot true (.pointer (some ⟨((ν1 2).n 0), 0, none⟩))), (5, .slot true (.slice (some ⟨((ν7 20).n 0), 0, none⟩) 4 4)), (6, .slot true (.int .i64 (mn x17 t24))), (7, .slot true (.int .i64 (mx x18 t27))), (8, .slot true (.int .i64 (w_i64 (x19 + 1)))), (43, .slot true (.int .i64 x19)), (44, .slot true (.bool (decide (x19 < 4)))), (45, .slot true (.int .i64 x19)), (46, .slot true (.int .i64 (w_i64 (x19 + 1)))), (47, .slot true (.int .i64 x17)), (48, .slot true (.slice (some ⟨((ν7 20).n 0), 0, none⟩) 4 4)), (49, .slot true (.int .i64 x19)), (50, .slot true (.pointer (some ⟨((ν7 20).n 0), (0 + x19.toNat * 1), none⟩))), (51, .slot true (.int .i64 t24)), (52, .slot true (.int .i64 (mn x17 t24))), (53, .slot true (.int .i64 x18)), (54, .slot true (.slice (some ⟨((ν7 20).n 0), 0, none⟩) 4 4)), (55, .slot true (.int .i64 x19)), (56, .slot true (.pointer (some ⟨((ν7 20).n 0), (0 + x19.toNat * 1), none⟩))), (57, .slot true (.int .i64 t27)), (58, .slot true (.int .i64 (mx x18 t27))), (66, .blk ((ν1 2).n 0) [.int .i64 0, .int .i64 0] 23), (67, .blk ((ν7 20).n 0) [.int .i64 (w_i64 (a0.Lo * a1.Lo)), .int .i64 (w_i64 (a0.Lo * a1.Hi)), .int .i64 (w_i64 (a0.Hi * a1.Lo)), .int .i64 (w_i64 (a0.Hi * a1.Hi))] 2)] (by kernel_rfl)
          exact ⟨k, Nat.lt_succ_self k, _, _, _, G, H.toL _ (by kernel_rfl)⟩
        · rw [if_neg (nt c29)] at G
          refine k_exit rfl ?_
          obtain rfl := Option.some.inj G
          exact H.toL _ (by kernel_rfl)

set_option maxHeartbeats 4000000 in
theorem armillaryref02_Square.calls (a0 : TInterval) (r : TInterval) (w : World) (G : armillaryref02_Square a0 = some r) :
    Calls Tryd.prog 60 #[.agg #[.int .i64 a0.Lo, .int .i64 a0.Hi]] w fun e w' => e = .returned (.agg #[.int .i64 r.Lo, .int .i64 r.Hi]) ∧ Below w.heap.size w w' := by
  refine k_enter (args := [.agg #[.int .i64 a0.Lo, .int .i64 a0.Hi]]) 43 Tryd.func60 rfl (by kernel_rfl) (by kernel_rfl) fun a H => ?_
  unfold armillaryref02_Square at G
  refine k_seq ?_
  refine k_reg mixed H (.cons [1, 43] (ok_new (fun b => .pointer (some ⟨b, 0, none⟩)) (fun ν1 => [.int .i64 a0.Lo, .int .i64 a0.Hi]) 23 1 43) <|
      .cons [2, 44] (ok_new (fun b => .pointer (some ⟨b, 0, none⟩)) (fun ν1 => [.int .i64 0, .int .i64 0]) 23 2 44) <| .nil) (by kernel_rfl) fun ν1 a w' H => ?_
  replace H := H.toL [(1, .slot true (.pointer (some ⟨((ν1 0).n 0), 0, none⟩))), (2, .slot true (.pointer (some ⟨((ν1 1).n 0), 0, none⟩))), (43, .blk ((ν1 0).n 0) [.int .i64 a0.Lo, .int .i64 a0.Hi] 23), (44, .blk ((ν1 1).n 0) [.int .i64 0, .int .i64 0] 23)] (by kernel_rfl)
  refine k_seq ?_
  refine k_seq ?_
  replace G := bnd G; obtain ⟨t3, ht3, G⟩ := G
  refine k_reg mixed H (.cons [5] (ok_ld (fun ν2 => .agg #[.int .i64 a0.Lo, .int .i64 a0.Hi]) 5 43 0 2 (fun ν2 => ((ν1 0).n 0)) (fun ν2 => [.int .i64 a0.Lo, .int .i64 a0.Hi]) 23) <|
      .cons [6] (ok_callv 13 (fun ν2 => #[.agg #[.int .i64 a0.Lo, .int .i64 a0.Hi]]) (.bool t3) 6 [] (fun _ w _ => armillaryref02_IsEntire.calls a0 t3 w ht3)) <| .nil) (by kernel_rfl) fun ν2 a w' H => ?_
  replace H := H.toL [(1, .slot true (.pointer (some ⟨((ν1 0).n 0), 0, none⟩))), (2, .slot true (.pointer (some ⟨((ν1 1).n 0), 0, none⟩))), (6, .slot true (.bool t3)), (43, .blk ((ν1 0).n 0) [.int .i64 a0.Lo, .int .i64 a0.Hi] 23), (44, .blk ((ν1 1).n 0) [.int .i64 0, .int .i64 0] 23)] (by kernel_rfl)
  refine k_cond H (by kernel_rfl) (t := t3) (by kernel_rfl) (fun c16 => ?_) (fun c16 => ?_)
  · rw [if_pos c16] at G
    refine k_seq ?_
    replace G := bnd G; obtain ⟨t5, ht5, G⟩ := G
    refine k_reg mixed H (.cons [7] (ok_callv 51 (fun ν4 => #[]) (.agg #[.int .i64 t5.Lo, .int .i64 t5.Hi]) 7 [] (fun _ w _ => armillaryref02_Entire.calls  t5 w ht5)) <|
      .cons [44] (ok_as (u' := fun ν4 => [(44, .blk ((ν1 1).n 0) [.int .i64 t5.Lo, .int .i64 t5.Hi] 23)]) (ok_store 44 0 (fun ν4 => ((ν1 1).n 0)) (fun ν4 => [.int .i64 0, .int .i64 0]) (fun ν4 => [.int .i64 t5.Lo, .int .i64 t5.Hi]) 23) (fun _ => by kernel_rfl)) <| .nil) (by kernel_rfl) fun ν4 a w' H => ?_
    replace H := H.toL [(1, .slot true (.pointer (some ⟨((ν1 0).n 0), 0, none⟩))), (2, .slot true (.pointer (some ⟨((ν1 1).n 0), 0, none⟩))), (43, .blk ((ν1 0).n 0) [.int .i64 a0.Lo, .int .i64 a0.Hi] 23), (44, .blk ((ν1 1).n 0) [.int .i64 t5.Lo, .int .i64 t5.Hi] 23)] (by kernel_rfl)
    refine k_ret ?_
    obtain rfl := Option.some.inj G
    exact k_done1 H _ 44 ((ν1 1).n 0) [.int .i64 t5.Lo, .int .i64 t5.Hi] 23 0 2 (by kernel_rfl) (by kernel_rfl) (by kernel_rfl) (by kernel_rfl)
  · rw [if_neg (nt c16)] at G
    refine k_skip ?_
    refine k_seq ?_
    refine k_reg mixed H (.cons [8] (ok_val (fun ν6 => .pointer (some ⟨((ν1 0).n 0), 0, none⟩)) 8) <|
      .cons [9] (ok_ld (fun ν6 => .int .i64 a0.Lo) 9 43 0 1 (fun ν6 => ((ν1 0).n 0)) (fun ν6 => [.int .i64 a0.Lo, .int .i64 a0.Hi]) 23) <|
      .cons [10] (ok_val (fun ν6 => .pointer (some ⟨((ν1 0).n 0), 0, none⟩)) 10) <|
      .cons [11] (ok_ld (fun ν6 => .int .i64 a0.Lo) 11 43 0 1 (fun ν6 => ((ν1 0).n 0)) (fun ν6 => [.int .i64 a0.Lo, .int .i64 a0.Hi]) 23) <|
      .cons [12] (ok_val (fun ν6 => .int .i64 (w_i64 (a0.Lo * a0.Lo))) 12) <|
      .cons [13] (ok_val (fun ν6 => .pointer (some ⟨((ν1 0).n 0), 1, none⟩)) 13) <|
      .cons [14] (ok_ld (fun ν6 => .int .i64 a0.Hi) 14 43 1 1 (fun ν6 => ((ν1 0).n 0)) (fun ν6 => [.int .i64 a0.Lo, .int .i64 a0.Hi]) 23) <|
      .cons [15] (ok_val (fun ν6 => .pointer (some ⟨((ν1 0).n 0), 1, none⟩)) 15) <|
      .cons [16] (ok_ld (fun ν6 => .int .i64 a0.Hi) 16 43 1 1 (fun ν6 => ((ν1 0).n 0)) (fun ν6 => [.int .i64 a0.Lo, .int .i64 a0.Hi]) 23) <|
      .cons [17] (ok_val (fun ν6 => .int .i64 (w_i64 (a0.Hi * a0.Hi))) 17) <|
      .cons [18] (ok_val (fun ν6 => .int .i64 (mn (w_i64 (a0.Lo * a0.Lo)) (w_i64 (a0.Hi * a0.Hi)))) 18) <|
      .cons [19] (ok_val (fun ν6 => .pointer (some ⟨((ν1 0).n 0), 0, none⟩)) 19) <|
      .cons [20] (ok_ld (fun ν6 => .int .i64 a0.Lo) 20 43 0 1 (fun ν6 => ((ν1 0).n 0)) (fun ν6 => [.int .i64 a0.Lo, .int .i64 a0.Hi]) 23) <|
      .cons [21] (ok_val (fun ν6 => .pointer (some ⟨((ν1 0).n 0), 0, none⟩)) 21) <|
      .cons [22] (ok_ld (fun ν6 => .int .i64 a0.Lo) 22 43 0 1 (fun ν6 => ((ν1 0).n 0)) (fun ν6 => [.int .i64 a0.Lo, .int .i64 a0.Hi]) 23) <|
      .cons [23] (ok_val (fun ν6 => .int .i64 (w_i64 (a0.Lo * a0.Lo))) 23) <|
      .cons [24] (ok_val (fun ν6 => .pointer (some ⟨((ν1 0).n 0), 1, none⟩)) 24) <|
      .cons [25] (ok_ld (fun ν6 => .int .i64 a0.Hi) 25 43 1 1 (fun ν6 => ((ν1 0).n 0)) (fun ν6 => [.int .i64 a0.Lo, .int .i64 a0.Hi]) 23) <|
      .cons [26] (ok_val (fun ν6 => .pointer (some ⟨((ν1 0).n 0), 1, none⟩)) 26) <|
      .cons [27] (ok_ld (fun ν6 => .int .i64 a0.Hi) 27 43 1 1 (fun ν6 => ((ν1 0).n 0)) (fun ν6 => [.int .i64 a0.Lo, .int .i64 a0.Hi]) 23) <|
      .cons [28] (ok_val (fun ν6 => .int .i64 (w_i64 (a0.Hi * a0.Hi))) 28) <|
      .cons [29] (ok_val (fun ν6 => .int .i64 (mx (w_i64 (a0.Lo * a0.Lo)) (w_i64 (a0.Hi * a0.Hi)))) 29) <|
      .cons [3] (ok_val (fun ν6 => .int .i64 (mn (w_i64 (a0.Lo * a0.Lo)) (w_i64 (a0.Hi * a0.Hi)))) 3) <|
      .cons [4] (ok_val (fun ν6 => .int .i64 (mx (w_i64 (a0.Lo * a0.Lo)) (w_i64 (a0.Hi * a0.Hi)))) 4) <| .nil) (by kernel_rfl) fun ν6 a w' H => ?_
    replace H := H.toL [(1, .slot true (.pointer (some ⟨((ν1 0).n 0), 0, none⟩))), (2, .slot true (.pointer (some ⟨((ν1 1).n 0), 0, none⟩))), (3, .slot true (.int .i64 (mn (w_i64 (a0.Lo * a0.Lo)) (w_i64 (a0.Hi * a0.Hi))))), (4, .slot true (.int .i64 (mx (w_i64 (a0.Lo * a0.Lo)) (w_i64 (a0.Hi * a0.Hi))))), (43, .blk ((ν1 0).n 0) [.int .i64 a0.Lo, .int .i64 a0.Hi] 23), (44, .blk ((ν1 1).n 0) [.int .i64 0, .int .i64 0] 23)] (by kernel_rfl)
    refine k_seq ?_
    replace G := bnd G; obtain ⟨j8, hj8, G⟩ := G
    refine k_join (fun a w' => Rep w.heap.size w 43 (ofL [(2, .slot true (.pointer (some ⟨((ν1 1).n 0), 0, none⟩))), (3, .slot true (.int .i64 j8)), (4, .slot true (.int .i64 (mx (w_i64 (a0.Lo * a0.Lo)) (w_i64 (a0.Hi * a0.Hi))))), (44, .blk ((ν1 1).n 0) [.int .i64 0, .int .i64 0] 23)]) a w') ?_ ?_
    · clear H; intro a w' H
      refine k_seq ?_
      replace G := bnd G; obtain ⟨t10, ht10, G⟩ := G
      replace G := bnd G; obtain ⟨t11, ht11, G⟩ := G
      replace G := bnd G; obtain ⟨t12, ht12, G⟩ := G
      refine k_reg mixed H (.cons [38] (ok_val (fun ν9 => .int .i64 j8) 38) <|
      .cons [39] (ok_callv 25 (fun ν9 => #[.int .i64 j8, .int .i64 65536]) (.int .i64 t10) 39 [] (fun _ w _ => armillaryref02_Floor.calls j8 65536 t10 w ht10)) <|
      .cons [40] (ok_val (fun ν9 => .int .i64 (mx (w_i64 (a0.Lo * a0.Lo)) (w_i64 (a0.Hi * a0.Hi)))) 40) <|
      .cons [41] (ok_callv 26 (fun ν9 => #[.int .i64 (mx (w_i64 (a0.Lo * a0.Lo)) (w_i64 (a0.Hi * a0.Hi))), .int .i64 65536]) (.int .i64 t11) 41 [] (fun _ w _ => armillaryref02_Ceil.calls (mx (w_i64 (a0.Lo * a0.Lo)) (w_i64 (a0.Hi * a0.Hi))) 65536 t11 w ht11)) <|
      .cons [42] (ok_callv 55 (fun ν9 => #[.int .i64 t10, .int .i64 t11]) (.agg #[.int .i64 t12.Lo, .int .i64 t12.Hi]) 42 [] (fun _ w _ => armillaryref02_New.calls t10 t11 t12 w ht12)) <|
      .cons [44] (ok_as (u' := fun ν9 => [(44, .blk ((ν1 1).n 0) [.int .i64 t12.Lo, .int .i64 t12.Hi] 23)]) (ok_store 44 0 (fun ν9 => ((ν1 1).n 0)) (fun ν9 => [.int .i64 0, .int .i64 0]) (fun ν9 => [.int .i64 t12.Lo, .int .i64 t12.Hi]) 23) (fun _ => by kernel_rfl)) <| .nil) (by kernel_rfl) fun ν9 a w' H => ?_
      replace H := H.toL [(2, .slot true (.pointer (some ⟨((ν1 1).n 0), 0, none⟩))), (44, .blk ((ν1 1).n 0) [.int .i64 t12.Lo, .int .i64 t12.Hi] 23)] (by kernel_rfl)
      refine k_ret ?_
      obtain rfl := Option.some.inj G
      exact k_done1 H _ 44 ((ν1 1).n 0) [.int .i64 t12.Lo, .int .i64 t12.Hi] 23 0 2 (by kernel_rfl) (by kernel_rfl) (by kernel_rfl) (by kernel_rfl)
    · clear G; replace G := hj8; clear hj8
      refine k_seq ?_
      refine k_reg mixed H (.cons [30] (ok_val (fun ν13 => .pointer (some ⟨((ν1 0).n 0), 0, none⟩)) 30) <|
      .cons [31] (ok_ld (fun ν13 => .int .i64 a0.Lo) 31 43 0 1 (fun ν13 => ((ν1 0).n 0)) (fun ν13 => [.int .i64 a0.Lo, .int .i64 a0.Hi]) 23) <|
      .cons [32] (ok_val (fun ν13 => .bool (decide (a0.Lo ≤ 0))) 32) <|
      .cons [33] (ok_val (fun ν13 => .bool (decide (a0.Lo ≤ 0))) 33) <|
      .cons [34] (ok_valg (fun ν13 => .pointer (some ⟨((ν1 0).n 0), 1, none⟩)) (fun ν13 => ((decide (a0.Lo ≤ 0)) == true)) [true] 34) <|
      .cons [35] (ok_ldg (fun ν13 => .int .i64 a0.Hi) (fun ν13 => ((decide (a0.Lo ≤ 0)) == true)) [false] 35 43 1 1 (fun ν13 => ((ν1 0).n 0)) (fun ν13 => [.int .i64 a0.Lo, .int .i64 a0.Hi]) 23) <|
      .cons [36] (ok_valg (fun ν13 => .bool (decide (a0.Hi ≥ 0))) (fun ν13 => ((decide (a0.Lo ≤ 0)) == true)) [false, true] 36) <|
      .cons [37] (ok_and 33 36 (fun ν13 => true) (fun ν13 => true) (fun ν13 => decide (a0.Lo ≤ 0)) (fun ν13 => decide (a0.Hi ≥ 0)) 37) <| .nil) (by kernel_rfl) fun ν13 a w' H => ?_
      replace H := H.toL [(2, .slot true (.pointer (some ⟨((ν1 1).n 0), 0, none⟩))), (3, .slot true (.int .i64 (mn (w_i64 (a0.Lo * a0.Lo)) (w_i64 (a0.Hi * a0.Hi))))), (4, .slot true (.int .i64 (mx (w_i64 (a0.Lo * a0.Lo)) (w_i64 (a0.Hi * a0.Hi))))), (37, .slot true (.bool ((decide (a0.Lo ≤ 0)) && (decide (a0.Hi ≥ 0))))), (44, .blk ((ν1 1).n 0) [.int .i64 0, .int .i64 0] 23)] (by kernel_rfl)
      refine k_cond H (by kernel_rfl) (t := ((decide (a0.Lo ≤ 0)) && (decide (a0.Hi ≥ 0)))) (by kernel_rfl) (fun c15 => ?_) (fun c15 => ?_)
      · rw [if_pos c15] at G
        refine k_reg mixed H (.cons [3] (ok_val (fun ν14 => .int .i64 0) 3) <| .nil) (by kernel_rfl) fun ν14 a w' H => ?_
        replace H := H.toL [(2, .slot true (.pointer (some ⟨((ν1 1).n 0), 0, none⟩))), (3, .slot true (.int .i64 0)), (4, .slot true (.int .i64 (mx (w_i64 (a0.Lo * a0.Lo)) (w_i64 (a0.Hi * a0.Hi))))), (44, .blk ((ν1 1).n 0) [.int .i64 0, .int .i64 0] 23)] (by kernel_rfl)
        obtain rfl := Option.some.inj G
        exact H.toL _ (by kernel_rfl)
      · rw [if_neg (nt c15)] at G
        refine k_skip ?_
        obtain rfl := Option.some.inj G
        exact H.toL _ (by kernel_rfl)

end Go.Proofs.YtmjnbhigomjjnaaDoor
