/- Each function of the program answers as the plain Lean function of its name (part 0). Printed by a program of this session. -/
import Derived.Test.YtpmgpcklieincaaGreatDoorEn
set_option linter.unusedVariables false
set_option linter.unusedSimpArgs false
set_option maxRecDepth 100000
set_option maxHeartbeats 4000000
namespace Go.Proofs.YtpmgpcklieincaaGreatDoor
open Go Go.RowKit Go.Sx Go.Proofs
theorem series_intervals.calls (w : World) : Calls Tryz.prog 120 #[] w fun e w' => e = .returned (.agg #[.func (.func 130) #[] #[], .func (.func 110) #[] #[], .func (.func 90) #[] #[], .func (.func 92) #[] #[], .func (.func 127) #[] #[], .func (.func 91) #[] #[], .func (.func 131) #[] #[], .func (.func 132) #[] #[], .func (.func 133) #[] #[]]) ∧ Below w.heap.size w w' := by
  refine k_enter (args := []) 2 Tryz.func120 rfl (by kernel_rfl) (by kernel_rfl) fun a H => ?_
  refine k_seq ?_
  refine k_reg mixed H (.cons [0, 2] (ok_new (fun b => .pointer (some ⟨b, 0, none⟩)) (fun ν => [.nilFunc, .nilFunc, .nilFunc, .nilFunc, .nilFunc, .nilFunc, .nilFunc, .nilFunc, .nilFunc]) 215 0 2) <| .nil) (by kernel_rfl) fun ν1 a w' H => ?_
  replace H := H.toL [(0, .slot true (.pointer (some ⟨(ν1 0).n 0, 0, none⟩))), (2, .blk ((ν1 0).n 0) [.nilFunc, .nilFunc, .nilFunc, .nilFunc, .nilFunc, .nilFunc, .nilFunc, .nilFunc, .nilFunc] 215)] (by kernel_rfl)
  refine k_seq ?_
  refine k_reg mixed H (.cons [1] (ok_val (fun ν => .agg #[.func (.func 130) #[] #[], .func (.func 110) #[] #[], .func (.func 90) #[] #[], .func (.func 92) #[] #[], .func (.func 127) #[] #[], .func (.func 91) #[] #[], .func (.func 131) #[] #[], .func (.func 132) #[] #[], .func (.func 133) #[] #[]]) 1) <| .cons [2] (ok_store 2 0 (fun ν => (ν1 0).n 0) (fun ν => [.nilFunc, .nilFunc, .nilFunc, .nilFunc, .nilFunc, .nilFunc, .nilFunc, .nilFunc, .nilFunc]) (fun ν => [.func (.func 130) #[] #[], .func (.func 110) #[] #[], .func (.func 90) #[] #[], .func (.func 92) #[] #[], .func (.func 127) #[] #[], .func (.func 91) #[] #[], .func (.func 131) #[] #[], .func (.func 132) #[] #[], .func (.func 133) #[] #[]]) 215) <| .nil) (by kernel_rfl) fun ν2 a w' H => ?_
  replace H := H.toL [(0, .slot true (.pointer (some ⟨(ν1 0).n 0, 0, none⟩))), (2, .blk ((ν1 0).n 0) [.func (.func 130) #[] #[], .func (.func 110) #[] #[], .func (.func 90) #[] #[], .func (.func 92) #[] #[], .func (.func 127) #[] #[], .func (.func 91) #[] #[], .func (.func 131) #[] #[], .func (.func 132) #[] #[], .func (.func 133) #[] #[]] 215)] (by kernel_rfl)
  refine k_ret ?_
  exact k_done1 H _ 2 ((ν1 0).n 0) [.func (.func 130) #[] #[], .func (.func 110) #[] #[], .func (.func 90) #[] #[], .func (.func 92) #[] #[], .func (.func 127) #[] #[], .func (.func 91) #[] #[], .func (.func 131) #[] #[], .func (.func 132) #[] #[], .func (.func 133) #[] #[]] 215 0 9 (by kernel_rfl) (by kernel_rfl) (by kernel_rfl) (by kernel_rfl)
theorem step_restrictTo.calls (a0 : List TInterval) (p_a0 : Option Addr) (n_p_a0 c_a0 : Nat) (w : World) : Calls Tryz.prog 101 #[.slice p_a0 n_p_a0 c_a0] w fun e w' => ∃ b1, e = .returned (.func (.func 122) #[] #[.pointer (some ⟨b1, 0, none⟩)]) ∧ Below w.heap.size w w' ∧ w.heap.size ≤ b1 ∧ w'.heap[b1]? = some (.cells [.slice p_a0 n_p_a0 c_a0].toArray 48 (0, 0)) := by
  refine k_enter (args := [.slice p_a0 n_p_a0 c_a0]) 4 Tryz.func101 rfl (by kernel_rfl) (by kernel_rfl) fun a H => ?_
  refine k_seq ?_
  refine k_reg mixed H (.cons [1, 4] (ok_new (fun b => .pointer (some ⟨b, 0, none⟩)) (fun _ => [.slice p_a0 n_p_a0 c_a0]) 48 1 4) <|
    .cons [2] (ok_val (fun _ => .nilFunc) 2) <| .nil) (by kernel_rfl) fun ν1 a w1 H => ?_
  obtain ⟨b1, hb1⟩ : ∃ b, (ν1 0).n 0 = b := ⟨_, rfl⟩
  replace H := H.toL [(1, .slot true (.pointer (some ⟨(ν1 0).n 0, 0, none⟩))), (4, .blk ((ν1 0).n 0) [.slice p_a0 n_p_a0 c_a0] 48)] (by kernel_rfl)
  rw [hb1] at H
  refine k_seq ?_
  refine k_reg mixed H (.cons [3] (ok_val (fun _ => .func (.func 122) #[] #[.pointer (some ⟨b1, 0, none⟩)]) 3) <| .cons [2] (ok_val (fun _ => .func (.func 122) #[] #[.pointer (some ⟨b1, 0, none⟩)]) 2) <| .nil) (by kernel_rfl) fun ν2 a w2 H => ?_
  replace H := H.toL [(2, .slot true (.func (.func 122) #[] #[.pointer (some ⟨b1, 0, none⟩)])), (4, .blk b1 [.slice p_a0 n_p_a0 c_a0] 48)] (by kernel_rfl)
  refine k_ret ?_
  exact ⟨H.defers, _, run_results H (.func (.func 122) #[] #[.pointer (some ⟨b1, 0, none⟩)]) [] (by kernel_rfl) (by simp) (by kernel_rfl), b1, rfl, H.below, H.ge 4 b1 trivial rfl, H.holds 4⟩
theorem control_candidates.calls (a0 : TStepControl) (a1 : Int) (w : World) : Calls Tryz.prog 55 #[.agg #[.int .i64 a0.Order, .int .i64 a0.First, .int .i64 a0.Least, .int .i64 a0.Most, .int .i64 a0.Wide], .int .i64 a1] w fun e w' => ∃ b1 b2, e = .returned (.func (.func 76) #[] #[.pointer (some ⟨b2, 0, none⟩), .pointer (some ⟨b1, 0, none⟩)]) ∧ Below w.heap.size w w' ∧ w.heap.size ≤ b1 ∧ w.heap.size ≤ b2 ∧ b1 ≠ b2 ∧ w'.heap[b1]? = some (.cells [.int .i64 a0.Order, .int .i64 a0.First, .int .i64 a0.Least, .int .i64 a0.Most, .int .i64 a0.Wide].toArray 27 (0, 0)) ∧ w'.heap[b2]? = some (.cells [.int .i64 a1].toArray 2 (0, 0)) := by
  refine k_enter (args := [.agg #[.int .i64 a0.Order, .int .i64 a0.First, .int .i64 a0.Least, .int .i64 a0.Most, .int .i64 a0.Wide], .int .i64 a1]) 6 Tryz.func55 rfl (by kernel_rfl) (by kernel_rfl) fun a H => ?_
  refine k_seq ?_
  refine k_reg mixed H (.cons [2, 6] (ok_new (fun b => .pointer (some ⟨b, 0, none⟩)) (fun _ => [.int .i64 a0.Order, .int .i64 a0.First, .int .i64 a0.Least, .int .i64 a0.Most, .int .i64 a0.Wide]) 27 2 6) <|
    .cons [3, 7] (ok_new (fun b => .pointer (some ⟨b, 0, none⟩)) (fun _ => [.int .i64 a1]) 2 3 7) <|
    .cons [4] (ok_val (fun _ => .nilFunc) 4) <| .nil) (by kernel_rfl) fun ν1 a w1 H => ?_
  obtain ⟨b1, hb1⟩ : ∃ b, (ν1 0).n 0 = b := ⟨_, rfl⟩
  obtain ⟨b2, hb2⟩ : ∃ b, (ν1 1).n 0 = b := ⟨_, rfl⟩
  replace H := H.toL [(2, .slot true (.pointer (some ⟨(ν1 0).n 0, 0, none⟩))), (3, .slot true (.pointer (some ⟨(ν1 1).n 0, 0, none⟩))), (6, .blk ((ν1 0).n 0) [.int .i64 a0.Order, .int .i64 a0.First, .int .i64 a0.Least, .int .i64 a0.Most, .int .i64 a0.Wide] 27), (7, .blk ((ν1 1).n 0) [.int .i64 a1] 2)] (by kernel_rfl)
  rw [hb1, hb2] at H
  refine k_seq ?_
  refine k_reg mixed H (.cons [5] (ok_val (fun _ => .func (.func 76) #[] #[.pointer (some ⟨b2, 0, none⟩), .pointer (some ⟨b1, 0, none⟩)]) 5) <| .cons [4] (ok_val (fun _ => .func (.func 76) #[] #[.pointer (some ⟨b2, 0, none⟩), .pointer (some ⟨b1, 0, none⟩)]) 4) <| .nil) (by kernel_rfl) fun ν2 a w2 H => ?_
  replace H := H.toL [(4, .slot true (.func (.func 76) #[] #[.pointer (some ⟨b2, 0, none⟩), .pointer (some ⟨b1, 0, none⟩)])), (6, .blk b1 [.int .i64 a0.Order, .int .i64 a0.First, .int .i64 a0.Least, .int .i64 a0.Most, .int .i64 a0.Wide] 27), (7, .blk b2 [.int .i64 a1] 2)] (by kernel_rfl)
  refine k_ret ?_
  exact ⟨H.defers, _, run_results H (.func (.func 76) #[] #[.pointer (some ⟨b2, 0, none⟩), .pointer (some ⟨b1, 0, none⟩)]) [] (by kernel_rfl) (by simp) (by kernel_rfl), b1, b2, rfl, H.below, H.ge 6 b1 trivial rfl, H.ge 7 b2 trivial rfl, fun e => H.disj 6 7 b1 (by decide) trivial rfl e, H.holds 6, H.holds 7⟩
theorem picard_candidates.calls (a0 : TTape) (p_a0_L : Option Addr) (n_p_a0_L c_a0_L : Nat) (p_a0_Out : Option Addr) (n_p_a0_Out c_a0_Out : Nat) (a1 : List TInterval) (p_a1 : Option Addr) (n_p_a1 c_a1 : Nat) (a2 : TTimeStep) (w : World) : Calls Tryz.prog 95 #[.agg #[.int .i64 a0.N, .slice p_a0_L n_p_a0_L c_a0_L, .slice p_a0_Out n_p_a0_Out c_a0_Out], .slice p_a1 n_p_a1 c_a1, .agg #[.int .i64 a2.T, .int .i64 a2.H]] w fun e w' => ∃ b1 b2 b3, e = .returned (.func (.func 111) #[] #[.pointer (some ⟨b2, 0, none⟩), .pointer (some ⟨b1, 0, none⟩), .pointer (some ⟨b3, 0, none⟩)]) ∧ Below w.heap.size w w' ∧ w.heap.size ≤ b1 ∧ w.heap.size ≤ b2 ∧ w.heap.size ≤ b3 ∧ b1 ≠ b2 ∧ b1 ≠ b3 ∧ b2 ≠ b3 ∧ w'.heap[b1]? = some (.cells [.int .i64 a0.N, .slice p_a0_L n_p_a0_L c_a0_L, .slice p_a0_Out n_p_a0_Out c_a0_Out].toArray 38 (0, 0)) ∧ w'.heap[b2]? = some (.cells [.slice p_a1 n_p_a1 c_a1].toArray 48 (0, 0)) ∧ w'.heap[b3]? = some (.cells [.int .i64 a2.T, .int .i64 a2.H].toArray 53 (0, 0)) := by
  refine k_enter (args := [.agg #[.int .i64 a0.N, .slice p_a0_L n_p_a0_L c_a0_L, .slice p_a0_Out n_p_a0_Out c_a0_Out], .slice p_a1 n_p_a1 c_a1, .agg #[.int .i64 a2.T, .int .i64 a2.H]]) 8 Tryz.func95 rfl (by kernel_rfl) (by kernel_rfl) fun a H => ?_
  refine k_seq ?_
  refine k_reg mixed H (.cons [3, 8] (ok_new (fun b => .pointer (some ⟨b, 0, none⟩)) (fun _ => [.int .i64 a0.N, .slice p_a0_L n_p_a0_L c_a0_L, .slice p_a0_Out n_p_a0_Out c_a0_Out]) 38 3 8) <|
    .cons [4, 9] (ok_new (fun b => .pointer (some ⟨b, 0, none⟩)) (fun _ => [.slice p_a1 n_p_a1 c_a1]) 48 4 9) <|
    .cons [5, 10] (ok_new (fun b => .pointer (some ⟨b, 0, none⟩)) (fun _ => [.int .i64 a2.T, .int .i64 a2.H]) 53 5 10) <|
    .cons [6] (ok_val (fun _ => .nilFunc) 6) <| .nil) (by kernel_rfl) fun ν1 a w1 H => ?_
  obtain ⟨b1, hb1⟩ : ∃ b, (ν1 0).n 0 = b := ⟨_, rfl⟩
  obtain ⟨b2, hb2⟩ : ∃ b, (ν1 1).n 0 = b := ⟨_, rfl⟩
  obtain ⟨b3, hb3⟩ : ∃ b, (ν1 2).n 0 = b := ⟨_, rfl⟩
  replace H := H.toL [(3, .slot true (.pointer (some ⟨(ν1 0).n 0, 0, none⟩))), (4, .slot true (.pointer (some ⟨(ν1 1).n 0, 0, none⟩))), (5, .slot true (.pointer (some ⟨(ν1 2).n 0, 0, none⟩))), (8, .blk ((ν1 0).n 0) [.int .i64 a0.N, .slice p_a0_L n_p_a0_L c_a0_L, .slice p_a0_Out n_p_a0_Out c_a0_Out] 38), (9, .blk ((ν1 1).n 0) [.slice p_a1 n_p_a1 c_a1] 48), (10, .blk ((ν1 2).n 0) [.int .i64 a2.T, .int .i64 a2.H] 53)] (by kernel_rfl)
  rw [hb1, hb2, hb3] at H
  refine k_seq ?_
  refine k_reg mixed H (.cons [7] (ok_val (fun _ => .func (.func 111) #[] #[.pointer (some ⟨b2, 0, none⟩), .pointer (some ⟨b1, 0, none⟩), .pointer (some ⟨b3, 0, none⟩)]) 7) <| .cons [6] (ok_val (fun _ => .func (.func 111) #[] #[.pointer (some ⟨b2, 0, none⟩), .pointer (some ⟨b1, 0, none⟩), .pointer (some ⟨b3, 0, none⟩)]) 6) <| .nil) (by kernel_rfl) fun ν2 a w2 H => ?_
  replace H := H.toL [(6, .slot true (.func (.func 111) #[] #[.pointer (some ⟨b2, 0, none⟩), .pointer (some ⟨b1, 0, none⟩), .pointer (some ⟨b3, 0, none⟩)])), (8, .blk b1 [.int .i64 a0.N, .slice p_a0_L n_p_a0_L c_a0_L, .slice p_a0_Out n_p_a0_Out c_a0_Out] 38), (9, .blk b2 [.slice p_a1 n_p_a1 c_a1] 48), (10, .blk b3 [.int .i64 a2.T, .int .i64 a2.H] 53)] (by kernel_rfl)
  refine k_ret ?_
  exact ⟨H.defers, _, run_results H (.func (.func 111) #[] #[.pointer (some ⟨b2, 0, none⟩), .pointer (some ⟨b1, 0, none⟩), .pointer (some ⟨b3, 0, none⟩)]) [] (by kernel_rfl) (by simp) (by kernel_rfl), b1, b2, b3, rfl, H.below, H.ge 8 b1 trivial rfl, H.ge 9 b2 trivial rfl, H.ge 10 b3 trivial rfl, fun e => H.disj 8 9 b1 (by decide) trivial rfl e, fun e => H.disj 8 10 b1 (by decide) trivial rfl e, fun e => H.disj 9 10 b2 (by decide) trivial rfl e, H.holds 8, H.holds 9, H.holds 10⟩
theorem box_pairs.calls (a0 : List TInterval) (p_a0 : Option Addr) (n_p_a0 c_a0 : Nat) (a1 : List TInterval) (p_a1 : Option Addr) (n_p_a1 c_a1 : Nat) (w : World) : Calls Tryz.prog 43 #[.slice p_a0 n_p_a0 c_a0, .slice p_a1 n_p_a1 c_a1] w fun e w' => ∃ b1 b2, e = .returned (.func (.func 66) #[] #[.pointer (some ⟨b1, 0, none⟩), .pointer (some ⟨b2, 0, none⟩)]) ∧ Below w.heap.size w w' ∧ w.heap.size ≤ b1 ∧ w.heap.size ≤ b2 ∧ b1 ≠ b2 ∧ w'.heap[b1]? = some (.cells [.slice p_a0 n_p_a0 c_a0].toArray 48 (0, 0)) ∧ w'.heap[b2]? = some (.cells [.slice p_a1 n_p_a1 c_a1].toArray 48 (0, 0)) := by
  refine k_enter (args := [.slice p_a0 n_p_a0 c_a0, .slice p_a1 n_p_a1 c_a1]) 6 Tryz.func43 rfl (by kernel_rfl) (by kernel_rfl) fun a H => ?_
  refine k_seq ?_
  refine k_reg mixed H (.cons [2, 6] (ok_new (fun b => .pointer (some ⟨b, 0, none⟩)) (fun _ => [.slice p_a0 n_p_a0 c_a0]) 48 2 6) <|
    .cons [3, 7] (ok_new (fun b => .pointer (some ⟨b, 0, none⟩)) (fun _ => [.slice p_a1 n_p_a1 c_a1]) 48 3 7) <|
    .cons [4] (ok_val (fun _ => .nilFunc) 4) <| .nil) (by kernel_rfl) fun ν1 a w1 H => ?_
  obtain ⟨b1, hb1⟩ : ∃ b, (ν1 0).n 0 = b := ⟨_, rfl⟩
  obtain ⟨b2, hb2⟩ : ∃ b, (ν1 1).n 0 = b := ⟨_, rfl⟩
  replace H := H.toL [(2, .slot true (.pointer (some ⟨(ν1 0).n 0, 0, none⟩))), (3, .slot true (.pointer (some ⟨(ν1 1).n 0, 0, none⟩))), (6, .blk ((ν1 0).n 0) [.slice p_a0 n_p_a0 c_a0] 48), (7, .blk ((ν1 1).n 0) [.slice p_a1 n_p_a1 c_a1] 48)] (by kernel_rfl)
  rw [hb1, hb2] at H
  refine k_seq ?_
  refine k_reg mixed H (.cons [5] (ok_val (fun _ => .func (.func 66) #[] #[.pointer (some ⟨b1, 0, none⟩), .pointer (some ⟨b2, 0, none⟩)]) 5) <| .cons [4] (ok_val (fun _ => .func (.func 66) #[] #[.pointer (some ⟨b1, 0, none⟩), .pointer (some ⟨b2, 0, none⟩)]) 4) <| .nil) (by kernel_rfl) fun ν2 a w2 H => ?_
  replace H := H.toL [(4, .slot true (.func (.func 66) #[] #[.pointer (some ⟨b1, 0, none⟩), .pointer (some ⟨b2, 0, none⟩)])), (6, .blk b1 [.slice p_a0 n_p_a0 c_a0] 48), (7, .blk b2 [.slice p_a1 n_p_a1 c_a1] 48)] (by kernel_rfl)
  refine k_ret ?_
  exact ⟨H.defers, _, run_results H (.func (.func 66) #[] #[.pointer (some ⟨b1, 0, none⟩), .pointer (some ⟨b2, 0, none⟩)]) [] (by kernel_rfl) (by simp) (by kernel_rfl), b1, b2, rfl, H.below, H.ge 6 b1 trivial rfl, H.ge 7 b2 trivial rfl, fun e => H.disj 6 7 b1 (by decide) trivial rfl e, H.holds 6, H.holds 7⟩
theorem approach_overlaps.calls (a0 : List TSegment) (p_a0 : Option Addr) (n_p_a0 c_a0 : Nat) (a1 : List TSegment) (p_a1 : Option Addr) (n_p_a1 c_a1 : Nat) (w : World) : Calls Tryz.prog 71 #[.slice p_a0 n_p_a0 c_a0, .slice p_a1 n_p_a1 c_a1] w fun e w' => ∃ b1 b2, e = .returned (.func (.func 86) #[] #[.pointer (some ⟨b1, 0, none⟩), .pointer (some ⟨b2, 0, none⟩)]) ∧ Below w.heap.size w w' ∧ w.heap.size ≤ b1 ∧ w.heap.size ≤ b2 ∧ b1 ≠ b2 ∧ w'.heap[b1]? = some (.cells [.slice p_a0 n_p_a0 c_a0].toArray 31 (0, 0)) ∧ w'.heap[b2]? = some (.cells [.slice p_a1 n_p_a1 c_a1].toArray 31 (0, 0)) := by
  refine k_enter (args := [.slice p_a0 n_p_a0 c_a0, .slice p_a1 n_p_a1 c_a1]) 6 Tryz.func71 rfl (by kernel_rfl) (by kernel_rfl) fun a H => ?_
  refine k_seq ?_
  refine k_reg mixed H (.cons [2, 6] (ok_new (fun b => .pointer (some ⟨b, 0, none⟩)) (fun _ => [.slice p_a0 n_p_a0 c_a0]) 31 2 6) <|
    .cons [3, 7] (ok_new (fun b => .pointer (some ⟨b, 0, none⟩)) (fun _ => [.slice p_a1 n_p_a1 c_a1]) 31 3 7) <|
    .cons [4] (ok_val (fun _ => .nilFunc) 4) <| .nil) (by kernel_rfl) fun ν1 a w1 H => ?_
  obtain ⟨b1, hb1⟩ : ∃ b, (ν1 0).n 0 = b := ⟨_, rfl⟩
  obtain ⟨b2, hb2⟩ : ∃ b, (ν1 1).n 0 = b := ⟨_, rfl⟩
  replace H := H.toL [(2, .slot true (.pointer (some ⟨(ν1 0).n 0, 0, none⟩))), (3, .slot true (.pointer (some ⟨(ν1 1).n 0, 0, none⟩))), (6, .blk ((ν1 0).n 0) [.slice p_a0 n_p_a0 c_a0] 31), (7, .blk ((ν1 1).n 0) [.slice p_a1 n_p_a1 c_a1] 31)] (by kernel_rfl)
  rw [hb1, hb2] at H
  refine k_seq ?_
  refine k_reg mixed H (.cons [5] (ok_val (fun _ => .func (.func 86) #[] #[.pointer (some ⟨b1, 0, none⟩), .pointer (some ⟨b2, 0, none⟩)]) 5) <| .cons [4] (ok_val (fun _ => .func (.func 86) #[] #[.pointer (some ⟨b1, 0, none⟩), .pointer (some ⟨b2, 0, none⟩)]) 4) <| .nil) (by kernel_rfl) fun ν2 a w2 H => ?_
  replace H := H.toL [(4, .slot true (.func (.func 86) #[] #[.pointer (some ⟨b1, 0, none⟩), .pointer (some ⟨b2, 0, none⟩)])), (6, .blk b1 [.slice p_a0 n_p_a0 c_a0] 31), (7, .blk b2 [.slice p_a1 n_p_a1 c_a1] 31)] (by kernel_rfl)
  refine k_ret ?_
  exact ⟨H.defers, _, run_results H (.func (.func 86) #[] #[.pointer (some ⟨b1, 0, none⟩), .pointer (some ⟨b2, 0, none⟩)]) [] (by kernel_rfl) (by simp) (by kernel_rfl), b1, b2, rfl, H.below, H.ge 6 b1 trivial rfl, H.ge 7 b2 trivial rfl, fun e => H.disj 6 7 b1 (by decide) trivial rfl e, H.holds 6, H.holds 7⟩
theorem approach_close.calls (a0 : List TSegment) (p_a0 : Option Addr) (n_p_a0 c_a0 : Nat) (a1 : List TSegment) (p_a1 : Option Addr) (n_p_a1 c_a1 : Nat) (a2 : TSeparation) (w : World) : Calls Tryz.prog 52 #[.slice p_a0 n_p_a0 c_a0, .slice p_a1 n_p_a1 c_a1, .agg #[.int .i64 a2.Pos, .int .i64 a2.D]] w fun e w' => ∃ b1 b2 b3, e = .returned (.func (.func 70) #[] #[.pointer (some ⟨b1, 0, none⟩), .pointer (some ⟨b2, 0, none⟩), .pointer (some ⟨b3, 0, none⟩)]) ∧ Below w.heap.size w w' ∧ w.heap.size ≤ b1 ∧ w.heap.size ≤ b2 ∧ w.heap.size ≤ b3 ∧ b1 ≠ b2 ∧ b1 ≠ b3 ∧ b2 ≠ b3 ∧ w'.heap[b1]? = some (.cells [.slice p_a0 n_p_a0 c_a0].toArray 31 (0, 0)) ∧ w'.heap[b2]? = some (.cells [.slice p_a1 n_p_a1 c_a1].toArray 31 (0, 0)) ∧ w'.heap[b3]? = some (.cells [.int .i64 a2.Pos, .int .i64 a2.D].toArray 86 (0, 0)) := by
  refine k_enter (args := [.slice p_a0 n_p_a0 c_a0, .slice p_a1 n_p_a1 c_a1, .agg #[.int .i64 a2.Pos, .int .i64 a2.D]]) 8 Tryz.func52 rfl (by kernel_rfl) (by kernel_rfl) fun a H => ?_
  refine k_seq ?_
  refine k_reg mixed H (.cons [3, 8] (ok_new (fun b => .pointer (some ⟨b, 0, none⟩)) (fun _ => [.slice p_a0 n_p_a0 c_a0]) 31 3 8) <|
    .cons [4, 9] (ok_new (fun b => .pointer (some ⟨b, 0, none⟩)) (fun _ => [.slice p_a1 n_p_a1 c_a1]) 31 4 9) <|
    .cons [5, 10] (ok_new (fun b => .pointer (some ⟨b, 0, none⟩)) (fun _ => [.int .i64 a2.Pos, .int .i64 a2.D]) 86 5 10) <|
    .cons [6] (ok_val (fun _ => .nilFunc) 6) <| .nil) (by kernel_rfl) fun ν1 a w1 H => ?_
  obtain ⟨b1, hb1⟩ : ∃ b, (ν1 0).n 0 = b := ⟨_, rfl⟩
  obtain ⟨b2, hb2⟩ : ∃ b, (ν1 1).n 0 = b := ⟨_, rfl⟩
  obtain ⟨b3, hb3⟩ : ∃ b, (ν1 2).n 0 = b := ⟨_, rfl⟩
  replace H := H.toL [(3, .slot true (.pointer (some ⟨(ν1 0).n 0, 0, none⟩))), (4, .slot true (.pointer (some ⟨(ν1 1).n 0, 0, none⟩))), (5, .slot true (.pointer (some ⟨(ν1 2).n 0, 0, none⟩))), (8, .blk ((ν1 0).n 0) [.slice p_a0 n_p_a0 c_a0] 31), (9, .blk ((ν1 1).n 0) [.slice p_a1 n_p_a1 c_a1] 31), (10, .blk ((ν1 2).n 0) [.int .i64 a2.Pos, .int .i64 a2.D] 86)] (by kernel_rfl)
  rw [hb1, hb2, hb3] at H
  refine k_seq ?_
  refine k_reg mixed H (.cons [7] (ok_val (fun _ => .func (.func 70) #[] #[.pointer (some ⟨b1, 0, none⟩), .pointer (some ⟨b2, 0, none⟩), .pointer (some ⟨b3, 0, none⟩)]) 7) <| .cons [6] (ok_val (fun _ => .func (.func 70) #[] #[.pointer (some ⟨b1, 0, none⟩), .pointer (some ⟨b2, 0, none⟩), .pointer (some ⟨b3, 0, none⟩)]) 6) <| .nil) (by kernel_rfl) fun ν2 a w2 H => ?_
  replace H := H.toL [(6, .slot true (.func (.func 70) #[] #[.pointer (some ⟨b1, 0, none⟩), .pointer (some ⟨b2, 0, none⟩), .pointer (some ⟨b3, 0, none⟩)])), (8, .blk b1 [.slice p_a0 n_p_a0 c_a0] 31), (9, .blk b2 [.slice p_a1 n_p_a1 c_a1] 31), (10, .blk b3 [.int .i64 a2.Pos, .int .i64 a2.D] 86)] (by kernel_rfl)
  refine k_ret ?_
  exact ⟨H.defers, _, run_results H (.func (.func 70) #[] #[.pointer (some ⟨b1, 0, none⟩), .pointer (some ⟨b2, 0, none⟩), .pointer (some ⟨b3, 0, none⟩)]) [] (by kernel_rfl) (by simp) (by kernel_rfl), b1, b2, b3, rfl, H.below, H.ge 8 b1 trivial rfl, H.ge 9 b2 trivial rfl, H.ge 10 b3 trivial rfl, fun e => H.disj 8 9 b1 (by decide) trivial rfl e, fun e => H.disj 8 10 b1 (by decide) trivial rfl e, fun e => H.disj 9 10 b2 (by decide) trivial rfl e, H.holds 8, H.holds 9, H.holds 10⟩
abbrev enI (x : TInterval) : Value := .agg #[.int .i64 x.Lo, .int .i64 x.Hi]
def pairsF (wc : World) (J : World → Prop) (bb b : Nat) (pb : Option Addr) (cb : Nat) (bv : List TInterval) (x : TInterval) (w : World) : Prop :=
  (Below 0 wc w → J w) ∧ w.heap[bb]? = some (.cells [.slice pb bv.length cb].toArray 48 (0, 0)) ∧ RowAt w 2 pb bv.length (bv.flatMap en_TInterval) ∧ w.heap[b]? = some (.cells [.int .i64 x.Lo, .int .i64 x.Hi].toArray 46 (0, 0))
abbrev pairsK (n : Nat) (wc : World) (J : World → Prop) (bb b : Nat) (pb : Option Addr) (cb : Nat) (bv : List TInterval) (x : TInterval) : KV := .fact (· < n) (pairsF wc J bb b pb cb bv x)
theorem pairsK_of {n : Nat} {wc : World} {J : World → Prop} {bb b : Nat} {pb : Option Addr} {cb : Nat} {bv : List TInterval} {x : TInterval} {w : World} (h : (pairsK n wc J bb b pb cb bv x).holds w) : pairsF wc J bb b pb cb bv x w := h w (agree.refl _ _)
theorem box_pairs_1.iter (av bv : List TInterval) (hlen : av.length ≤ bv.length) (hbd : av.length < 1000000) (ba bb : Nat) (pa pb : Option Addr) (ca cb l : Nat) (J : List (TInterval × TInterval) → World → Prop) (JX : World → Prop)
    (hJ : ∀ r W W', J r W → Below W.heap.size W W' → J r W') (hJX : ∀ W W', JX W → Below W.heap.size W W' → JX W')
    (hF : ∀ r W, J r W → W.heap[ba]? = some (.cells [.slice pa av.length ca].toArray 48 (0, 0)) ∧ W.heap[bb]? = some (.cells [.slice pb bv.length cb].toArray 48 (0, 0)) ∧ RowAt W 2 pa av.length (av.flatMap en_TInterval) ∧ RowAt W 2 pb bv.length (bv.flatMap en_TInterval))
    (wc : World) (hJc : ∀ r W, J r W → Below 0 wc W) (hXc : ∀ W, JX W → Below 0 wc W)
    (hY : ∀ x rest W, J (x :: rest) W → YieldAt (WF none) 0 Tryz.prog l #[enI x.1, enI x.2] W fun e W' => (e = .returned (.bool true) ∧ J rest W') ∨ (e = .returned (.bool false) ∧ JX W'))
    (W : World) (h0 : J (av.zip bv) W) :
    CallsIn (WF none) 0 Tryz.prog 66 #[.func (.yield l) #[] #[], .pointer (some ⟨ba, 0, none⟩), .pointer (some ⟨bb, 0, none⟩)] W fun e W' => (∃ v, e = .returned v) ∧ (J [] W' ∨ JX W') := by
  refine y_enter (args := [.func (.yield l) #[] #[], .pointer (some ⟨ba, 0, none⟩), .pointer (some ⟨bb, 0, none⟩)]) 22 Tryz.func66 rfl (by kernel_rfl) (by kernel_rfl) fun a H => ?_
  have hf0 := hF _ _ h0
  replace H := H.again W (Below.refl _ _) (Nat.le_refl _) [(22, bxK ba [.slice pa av.length ca] 48)] (by
    intro x hx
    simp only [List.mem_cons, List.not_mem_nil, or_false] at hx
    subst hx
    exact bx_fact hf0.1 22)
  refine r_seq ?_
  refine r_reg mixed H (.cons [6] (ok_ldK (fun _ => .slice pa av.length ca) 6 22 (bxK ba [.slice pa av.length ca] 48) ba 0 1 [.slice pa av.length ca] (fun w h => bx_of h)) <|
    .cons [7] (ok_val (fun _ => .int .i64 (av.length : Int)) 7) <|
    .cons [8] (ok_val (fun _ => .int .i64 0) 8) <| .nil) (by kernel_rfl) (by kernel_rfl) fun ν1 a w H => ?_
  have hj := hJ _ _ _ h0 H.below
  replace H := (H.restart w (hJc _ _ hj) (Nat.zero_le _)).toL [(0, .slot true (.func (.yield l) #[] #[])), (2, .slot true (.pointer (some ⟨bb, 0, none⟩))), (6, .slot true (.slice pa av.length ca)), (7, .slot true (.int .i64 (av.length : Int))), (8, .slot true (.int .i64 ((0 : Nat) : Int)))] (by kernel_rfl)
  refine r_block ?_
  refine r_loopJ (fun m a w => ∃ i : Nat, m = av.length - i ∧ i ≤ av.length ∧ J ((av.zip bv).drop i) w ∧ Rep 0 wc 22 (ofL [(0, .slot true (.func (.yield l) #[] #[])), (2, .slot true (.pointer (some ⟨bb, 0, none⟩))), (6, .slot true (.slice pa av.length ca)), (7, .slot true (.int .i64 (av.length : Int))), (8, .slot true (.int .i64 (i : Int)))]) a w) av.length ⟨0, by omega, by omega, hj, H⟩ ?_
  clear H hj hf0
  rintro m a w ⟨i, rfl, hi, hj, H⟩
  obtain ⟨hA, hB, hRA, hRB⟩ := hF _ _ hj
  replace H := H.again w (Below.refl w.heap.size w) (Nat.le_refl _) [(24, rdK 2 pa av.length (av.flatMap en_TInterval))] (by
    intro x hx
    simp only [List.mem_cons, List.not_mem_nil, or_false] at hx
    subst hx
    exact rd_fact hRA (by decide) 24)
  refine r_seq ?_
  refine r_reg mixed H (.cons [9] (ok_val (fun _ => .bool (decide ((i : Int) < (av.length : Int)))) 9) <| .nil) (by kernel_rfl) (by kernel_rfl) fun ν2 a w1 H => ?_
  replace H := H.toL [(0, .slot true (.func (.yield l) #[] #[])), (2, .slot true (.pointer (some ⟨bb, 0, none⟩))), (6, .slot true (.slice pa av.length ca)), (7, .slot true (.int .i64 (av.length : Int))), (8, .slot true (.int .i64 (i : Int))), (9, .slot true (.bool (decide ((i : Int) < (av.length : Int))))), (24, rdK 2 pa av.length (av.flatMap en_TInterval))] (by kernel_rfl)
  refine r_seq ?_
  refine r_cond H (by kernel_rfl) (t := decide ((i : Int) < (av.length : Int))) (by kernel_rfl) (fun c => ?_) (fun c => ?_)
  rotate_left
  · have hlt : ¬ ((i : Int) < (av.length : Int)) := of_decide_eq_false c
    refine r_exit rfl ?_
    refine ⟨H.defers, _, run_results H (.tuple #[]) [] (by kernel_rfl) (by simp) (by kernel_rfl), ⟨_, rfl⟩, .inl ?_⟩
    have := hJ _ _ _ hj H.below
    rw [List.drop_eq_nil_of_le (by rw [List.length_zip]; omega)] at this
    exact this
  have hlt : (i : Int) < (av.length : Int) := of_decide_eq_true c
  have hlt' : i < av.length := by omega
  obtain ⟨x, hx⟩ : ∃ x, av[((i : Int)).toNat]? = some x := ⟨av[i], by simp [hlt']⟩
  obtain ⟨y, hy⟩ : ∃ y, bv[((i : Int)).toNat]? = some y := ⟨bv[i], by simp [show i < bv.length by omega]⟩
  have hdrop : (av.zip bv).drop i = (x, y) :: (av.zip bv).drop (i + 1) := by
    have hz : i < (av.zip bv).length := by rw [List.length_zip]; omega
    rw [List.drop_eq_getElem_cons hz]
    congr 1
    have e1 : av[i]? = some x := by simpa using hx
    have e2 : bv[i]? = some y := by simpa using hy
    rw [List.getElem_zip]
    rw [List.getElem?_eq_getElem hlt'] at e1
    rw [List.getElem?_eq_getElem (show i < bv.length by omega)] at e2
    injection e1 with e1
    injection e2 with e2
    rw [e1, e2]
  refine r_skip ?_
  refine r_seq ?_
  refine r_block ?_
  refine r_seq ?_
  refine r_reg mixed H (.cons [10] (ok_val (fun _ => .int .i64 (i : Int)) 10) <|
    .cons [11] (ok_valL [24] (fun _ => [rdK 2 pa av.length (av.flatMap en_TInterval)]) (fun _ => .pointer (some ⟨hdB pa, hdO pa + (i : Int).toNat * 2, none⟩)) (fun _ => true) [true, true] 11 (fun _ w hg hF => run_of (by kernel_rfl) (run_ix (t := 48) (p := pa) (n := av.length) (cap := ca) (k := .i64) (i := (i : Int)) (sz := 2) (by kernel_rfl) (by kernel_rfl) (rd_of hF.1) ⟨by omega, hlt⟩))) <|
    .cons [12] (ok_valL [24] (fun _ => [rdK 2 pa av.length (av.flatMap en_TInterval)]) (fun _ => .agg #[.int .i64 x.Lo, .int .i64 x.Hi]) (fun _ => true) [true] 12 (fun _ w hg hF => ld_of (vs := [.int .i64 x.Lo, .int .i64 x.Hi]) (b := hdB pa) (off := hdO pa + (i : Int).toNat * 2 + 0) (m := 2) (by kernel_rfl) (el_cells (rd_of hF.1) en_TInterval_len hx 0 2 rfl))) <|
    .cons [5, 26] (ok_new (fun b => .pointer (some ⟨b, 0, none⟩)) (fun _ => [.int .i64 0, .int .i64 0]) 46 5 26) <|
    .cons [4] (ok_val (fun _ => .int .i64 (i : Int)) 4) <|
    .cons [26] (ok_as (u' := fun ν => [(26, .blk ((ν 3).n 0) [.int .i64 x.Lo, .int .i64 x.Hi] 46)]) (ok_store 26 0 (fun ν => (ν 3).n 0) (fun _ => [.int .i64 0, .int .i64 0]) (fun _ => [.int .i64 x.Lo, .int .i64 x.Hi]) 46) (fun _ => by kernel_rfl)) <| .nil) (by kernel_rfl) (by kernel_rfl) fun ν3 a w2 H => ?_
  replace H := H.toL [(0, .slot true (.func (.yield l) #[] #[])), (2, .slot true (.pointer (some ⟨bb, 0, none⟩))), (4, .slot true (.int .i64 (i : Int))), (5, .slot true (.pointer (some ⟨(ν3 3).n 0, 0, none⟩))), (6, .slot true (.slice pa av.length ca)), (7, .slot true (.int .i64 (av.length : Int))), (8, .slot true (.int .i64 (i : Int))), (26, .blk ((ν3 3).n 0) [.int .i64 x.Lo, .int .i64 x.Hi] 46)] (by kernel_rfl)
  obtain ⟨b, hb⟩ : ∃ b, (ν3 3).n 0 = b := ⟨_, rfl⟩
  rw [hb] at H
  have hx2 : (KV.blk b [.int .i64 x.Lo, .int .i64 x.Hi] 46).holds w2 := H.holds 26
  have hj2 := hJ _ _ _ hj H.below
  obtain ⟨_, hB2, _, hRB2⟩ := hF _ _ hj2
  have hlb : ∀ {b : Nat} {o : Obj}, w2.heap[b]? = some o → b < w2.heap.size := fun h => (Array.getElem?_eq_some_iff.1 h).1
  have hgk : (pairsK w2.heap.size wc (J ((av.zip bv).drop i)) bb b pb cb bv x).holds w2 := by
    intro w' ha
    refine ⟨fun hb' => ?_, (ha bb (hlb hB2)).trans hB2, hRB2.agree fun k hk => ha k (hRB2.inb (by decide) k hk), (ha b (hlb hx2)).trans hx2⟩
    exact jK_of (w0 := wc) (fun W' h => hJ _ _ _ hj2 h) (hJc _ _ hj2) w' ha hb'
  replace H := (H.again w2 (hJc _ _ hj2) (Nat.zero_le _) [(30, pairsK w2.heap.size wc (J ((av.zip bv).drop i)) bb b pb cb bv x)] (by
    intro z hz
    simp only [List.mem_cons, List.not_mem_nil, or_false] at hz
    subst hz
    exact ⟨⟨_, _, rfl⟩, hgk, fun k hk => hk⟩)).toL [(0, .slot true (.func (.yield l) #[] #[])), (2, .slot true (.pointer (some ⟨bb, 0, none⟩))), (4, .slot true (.int .i64 (i : Int))), (5, .slot true (.pointer (some ⟨b, 0, none⟩))), (6, .slot true (.slice pa av.length ca)), (7, .slot true (.int .i64 (av.length : Int))), (8, .slot true (.int .i64 (i : Int))), (30, pairsK w2.heap.size wc (J ((av.zip bv).drop i)) bb b pb cb bv x)] (by kernel_rfl)
  refine r_seq ?_
  refine r_of (y_reg (Rp := RepO 30 0 wc 22) mixed ⟨H, only_ofL _ (by kernel_rfl)⟩ (.cons [13] (oki (ok_val (fun _ => .func (.yield l) #[] #[]) 13)) <|
    .cons [14] (oki (ok_ldK (fun _ => .agg #[.int .i64 x.Lo, .int .i64 x.Hi]) 14 30 (pairsK w2.heap.size wc (J ((av.zip bv).drop i)) bb b pb cb bv x) b 0 2 [.int .i64 x.Lo, .int .i64 x.Hi] (fun w h => ⟨_, _, (pairsK_of h).2.2.2⟩))) <|
    .cons [15] (oki (ok_ldK (fun _ => .slice pb bv.length cb) 15 30 (pairsK w2.heap.size wc (J ((av.zip bv).drop i)) bb b pb cb bv x) bb 0 1 [.slice pb bv.length cb] (fun w h => ⟨_, _, (pairsK_of h).2.1⟩))) <|
    .cons [16] (oki (ok_val (fun _ => .int .i64 (i : Int)) 16)) <|
    .cons [17] (oki (ok_valL [30] (fun _ => [pairsK w2.heap.size wc (J ((av.zip bv).drop i)) bb b pb cb bv x]) (fun _ => .pointer (some ⟨hdB pb, hdO pb + (i : Int).toNat * 2, none⟩)) (fun _ => true) [true, true] 17 (fun _ w hg hF => run_of (by kernel_rfl) (run_ix (t := 48) (p := pb) (n := bv.length) (cap := cb) (k := .i64) (i := (i : Int)) (sz := 2) (by kernel_rfl) (by kernel_rfl) (pairsK_of hF.1).2.2.1 ⟨by omega, by omega⟩)))) <|
    .cons [18] (oki (ok_valL [30] (fun _ => [pairsK w2.heap.size wc (J ((av.zip bv).drop i)) bb b pb cb bv x]) (fun _ => .agg #[.int .i64 y.Lo, .int .i64 y.Hi]) (fun _ => true) [true] 18 (fun _ w hg hF => ld_of (vs := [.int .i64 y.Lo, .int .i64 y.Hi]) (b := hdB pb) (off := hdO pb + (i : Int).toNat * 2 + 0) (m := 2) (by kernel_rfl) (el_cells (pairsK_of hF.1).2.2.1 en_TInterval_len hy 0 2 rfl)))) <|
    .cons [19, 30] (ok_yield (w0 := wc) 30 (pairsK w2.heap.size wc (J ((av.zip bv).drop i)) bb b pb cb bv x) l (fun _ => #[enI x, enI y]) (J ((av.zip bv).drop i)) (J ((av.zip bv).drop (i + 1))) JX 19
      (by intro _; kernel_rfl) (fun w h hb' => (pairsK_of h).1 hb') (fun _ W1 h1 => hY (x, y) _ W1 (by rw [← hdrop]; exact h1)) (fun W1 W2 h1 h2 => hJ _ _ _ h1 h2) hJX (fun W1 h1 => hJc _ _ h1) hXc) <|
    .cons [20] (oki (ok_val (fun ν => .bool (!(decide ((ν 6).n 0 = 1)))) 20)) <| .nil) (by kernel_rfl) repO_drew fun ν4 a w3 H => ?_)
  have hk30 := H.1.holds 30
  replace hk30 : (bif decide ((ν4 6).n 0 = 1) then jK ((ν4 6).n 1) wc (J ((av.zip bv).drop (i + 1))) else jK ((ν4 6).n 1) wc JX).holds w3 := hk30
  have hbel := H.1.below
  replace H := H.1.toL [(0, .slot true (.func (.yield l) #[] #[])), (2, .slot true (.pointer (some ⟨bb, 0, none⟩))), (6, .slot true (.slice pa av.length ca)), (7, .slot true (.int .i64 (av.length : Int))), (8, .slot true (.int .i64 (i : Int))), (20, .slot true (.bool (!(decide ((ν4 6).n 0 = 1)))))] (by kernel_rfl)
  refine r_cond H (by kernel_rfl) (t := !(decide ((ν4 6).n 0 = 1))) (by kernel_rfl) (fun c => ?_) (fun c => ?_)
  · refine r_ret ?_
    have hn : decide ((ν4 6).n 0 = 1) = false := by simpa using c
    rw [hn] at hk30
    exact ⟨H.defers, _, run_results H (.tuple #[]) [] (by kernel_rfl) (by simp) (by kernel_rfl), ⟨_, rfl⟩, .inr (hk30 w3 (agree.refl _ _) hbel)⟩
  · refine r_skip ?_
    have hn : decide ((ν4 6).n 0 = 1) = true := by simpa using c
    rw [hn] at hk30
    have hj3 : J ((av.zip bv).drop (i + 1)) w3 := hk30 w3 (agree.refl _ _) hbel
    replace H := H.restart w3 (Below.refl w3.heap.size w3) (Nat.le_refl _)
    have hw : IntKind.wrap .i64 ((i : Int) + 1) = ((i + 1 : Nat) : Int) := by
      have : (i : Int) < 1000000 := by omega
      simp [IntKind.wrap, IntKind.bits, IntKind.signed]
      omega
    refine r_reg mixed H (.cons [21] (ok_val (fun _ => .int .i64 (IntKind.wrap .i64 ((i : Int) + 1))) 21) <|
      .cons [8] (ok_val (fun _ => .int .i64 (IntKind.wrap .i64 ((i : Int) + 1))) 8) <| .nil) (by kernel_rfl) (by kernel_rfl) fun ν5 a w4 H => ?_
    have hj4 := hJ _ _ _ hj3 H.below
    replace H := (H.restart w4 (hJc _ _ hj4) (Nat.zero_le _)).toL [(0, .slot true (.func (.yield l) #[] #[])), (2, .slot true (.pointer (some ⟨bb, 0, none⟩))), (6, .slot true (.slice pa av.length ca)), (7, .slot true (.int .i64 (av.length : Int))), (8, .slot true (.int .i64 (IntKind.wrap .i64 ((i : Int) + 1))))] (by kernel_rfl)
    rw [hw] at H
    exact ⟨av.length - (i + 1), by omega, i + 1, rfl, by omega, hj4, H⟩
def pairsFx (ba bb : Nat) (pa pb : Option Addr) (ca cb : Nat) (av bv : List TInterval) (W : World) : Prop :=
  W.heap[ba]? = some (.cells [.slice pa av.length ca].toArray 48 (0, 0)) ∧ W.heap[bb]? = some (.cells [.slice pb bv.length cb].toArray 48 (0, 0)) ∧ RowAt W 2 pa av.length (av.flatMap en_TInterval) ∧ RowAt W 2 pb bv.length (bv.flatMap en_TInterval)
theorem box_pairs_1.ok (av bv : List TInterval) (hlen : av.length ≤ bv.length) (hbd : av.length < 1000000) (ba bb : Nat) (pa pb : Option Addr) (ca cb : Nat) :
    IterOK Tryz.prog 66 #[.pointer (some ⟨ba, 0, none⟩), .pointer (some ⟨bb, 0, none⟩)] (fun x : TInterval × TInterval => #[enI x.1, enI x.2]) (av.zip bv) (pairsFx ba bb pa pb ca cb av bv) :=
  fun l J JX hJ hJX hF wc hJc hXc hY W h0 => box_pairs_1.iter av bv hlen hbd ba bb pa pb ca cb l J JX hJ hJX hF wc hJc hXc hY W h0
theorem box_pairs_1.one {av bv : List TInterval} {x y : TInterval} (ha : av = [x]) (hb : bv[0]? = some y) (ba bb : Nat) (pa pb : Option Addr) (ca cb lo : Nat) : IterO Tryz.prog 66 #[.pointer (some ⟨ba, 0, none⟩), .pointer (some ⟨bb, 0, none⟩)] (fun _ : Unit => #[enI x, enI y]) (fun _ => []) (pairsFx ba bb pa pb ca cb av bv) true lo := by
  have h := box_pairs_1.ok av bv (by subst ha; cases bv with | nil => cases hb | cons _ _ => simp) (by subst ha; show 1 < 1000000; decide) ba bb pa pb ca cb
  rw [zip_one ha hb] at h
  exact iterO_of_list (encs := fun z : TInterval × TInterval => #[enI z.1, enI z.2]) (x := (x, y)) lo h
def candF (wc : World) (J : World → Prop) (bh : Nat) (h : Int) (w : World) : Prop := (Below 0 wc w → J w) ∧ w.heap[bh]? = some (.cells [.int .i64 h].toArray 2 (0, 0))
abbrev candK (n : Nat) (wc : World) (J : World → Prop) (bh : Nat) (h : Int) : KV := .fact (· < n) (candF wc J bh h)
theorem candK_of {n : Nat} {wc : World} {J : World → Prop} {bh : Nat} {h : Int} {w : World} (H : (candK n wc J bh h).holds w) : candF wc J bh h w := H w (agree.refl _ _)
theorem control_candidates_1.one (h : Int) (bh bc lo : Nat) : IterO Tryz.prog 76 #[.pointer (some ⟨bh, 0, none⟩), .pointer (some ⟨bc, 0, none⟩)] (fun _ : Unit => #[.int .i64 h]) (fun _ => []) (fun W => W.heap[bh]? = some (.cells [.int .i64 h].toArray 2 (0, 0))) false lo := by
  intro l J JT JX hJ hJT hJX hF hFT htr wc hJc hTc hXc base _ hY W h0 hb
  refine y_enter (args := [.func (.yield l) #[] #[], .pointer (some ⟨bh, 0, none⟩), .pointer (some ⟨bc, 0, none⟩)]) 18 Tryz.func76 rfl (by kernel_rfl) (by kernel_rfl) fun a H => ?_
  refine r_seq ?_
  refine r_reg mixed H (.cons [4] (ok_val (fun _ => .int .i64 0) 4) <| .nil) (by kernel_rfl) (by kernel_rfl) fun ν1 a w1 H => ?_
  have hj : J w1 := hJ _ _ h0 H.below
  replace H := (H.restart w1 (hJc _ hj) (Nat.zero_le _)).toL [(0, .slot true (.func (.yield l) #[] #[])), (1, .slot true (.pointer (some ⟨bh, 0, none⟩))), (4, .slot true (.int .i64 0))] (by kernel_rfl)
  refine r_block ?_
  refine r_loopJ (fun m a w => m = 1 ∧ J w ∧ Rep 0 wc 18 (ofL [(0, .slot true (.func (.yield l) #[] #[])), (1, .slot true (.pointer (some ⟨bh, 0, none⟩))), (4, .slot true (.int .i64 0))]) a w) 1 ⟨rfl, hj, H⟩ ?_
  clear H hj
  rintro m a w2 ⟨rfl, hj, H⟩
  have hgk : (candK w2.heap.size wc J bh h).holds w2 := by
    intro w' ha
    have hlt : bh < w2.heap.size := (Array.getElem?_eq_some_iff.1 (hF _ hj)).1
    refine ⟨fun hb' => ?_, (ha bh hlt).trans (hF _ hj)⟩
    exact jK_of (w0 := wc) (fun W' h => hJ _ _ hj h) (hJc _ hj) w' ha hb'
  replace H := (H.again w2 (hJc _ hj) (Nat.zero_le _) [(20, candK w2.heap.size wc J bh h)] (by
    intro z hz
    simp only [List.mem_cons, List.not_mem_nil, or_false] at hz
    subst hz
    exact ⟨⟨_, _, rfl⟩, hgk, fun k hk => hk⟩)).toL [(0, .slot true (.func (.yield l) #[] #[])), (1, .slot true (.pointer (some ⟨bh, 0, none⟩))), (4, .slot true (.int .i64 0)), (20, candK w2.heap.size wc J bh h)] (by kernel_rfl)
  refine r_seq ?_
  refine r_seq ?_
  refine r_of (y_regI (Rp := RepO 20 0 wc 18) ⟨H, only_ofL _ (by kernel_rfl)⟩ (.cons [5] (oki (ok_val (fun _ => .int .i64 0) 5)) <|
    .cons [6] (oki (ok_val (fun _ => .bool true) 6)) <|
    .cons [7] (oki (ok_val (fun _ => .bool true) 7)) <|
    .cons [8] (oki (ok_gd (ok_val (fun _ => .func (.yield l) #[] #[]) 8) (by intro _; kernel_rfl))) <|
    .cons [9] (oki (ok_gd (ok_ldK (fun _ => .int .i64 h) 9 20 (candK w2.heap.size wc J bh h) bh 0 1 [.int .i64 h] (fun w h => ⟨_, _, (candK_of h).2⟩)) (by intro _; kernel_rfl))) <|
    .cons [10, 20] (ok_yieldG (w0 := wc) 20 (candK w2.heap.size wc J bh h) l (fun _ => #[.int .i64 h]) J JT JX 10
      (by intro _; kernel_rfl) (fun w h hb' => (candK_of h).1 hb') (fun _ W1 h1 => hY () W1 h1 (fun z hz => by cases hz)) hJT hJX hTc hXc) <|
    .cons [11] (oki (ok_pickK (fun ν => .bool (decide ((ν 5).n 0 = 1))) 11)) <| .nil) fun ν4 a w3 H => ?_)
  have hk20 := H.1.holds 20
  replace hk20 : (bif decide ((ν4 5).n 0 = 1) then jK ((ν4 5).n 1) wc JT else jK ((ν4 5).n 1) wc JX).holds w3 := hk20
  have hbel := H.1.below
  replace H := H.1.toL [(11, .slot true (.bool (decide ((ν4 5).n 0 = 1))))] (by kernel_rfl)
  refine r_cond H (by kernel_rfl) (t := decide ((ν4 5).n 0 = 1)) (by kernel_rfl) (fun c => ?_) (fun c => ?_)
  · rw [c] at hk20
    exact absurd (hk20 w3 (agree.refl _ _) hbel) (htr rfl w3)
  · refine r_exit rfl ?_
    rw [c] at hk20
    exact ⟨H.defers, _, run_results H (.tuple #[]) [] (by kernel_rfl) (by simp) (by kernel_rfl), ⟨_, rfl⟩, .inr (hk20 w3 (agree.refl _ _) hbel)⟩
theorem approach_minimum.calls (w : World) : Calls Tryz.prog 73 #[] w fun e w' => ∃ b1, e = .returned (.func (.func 89) #[] #[.pointer (some ⟨b1, 0, none⟩)]) ∧ Below w.heap.size w w' ∧ w.heap.size ≤ b1 ∧ w'.heap[b1]? = some (.cells [.int .i64 2147483648, .int .i64 2147483648].toArray 46 (0, 0)) := by
  refine k_enter (args := []) 4 Tryz.func73 rfl (by kernel_rfl) (by kernel_rfl) fun a H => ?_
  refine k_seq ?_
  refine k_reg mixed H (.cons [0] (ok_val (fun _ => .nilFunc) 0) <| .nil) (by kernel_rfl) fun ν1 a w1 H => ?_
  replace H := H.toL [(0, .slot true .nilFunc)] (by kernel_rfl)
  refine k_seq ?_
  refine k_reg mixed H (.cons [2] (ok_val (fun _ => .agg #[.int .i64 2147483648, .int .i64 2147483648]) 2) <|
    .cons [1, 4] (ok_new (fun b => .pointer (some ⟨b, 0, none⟩)) (fun _ => [.int .i64 0, .int .i64 0]) 46 1 4) <|
    .cons [4] (ok_store 4 0 (fun ν => (ν 1).n 0) (fun ν => [.int .i64 0, .int .i64 0]) (fun ν => [.int .i64 2147483648, .int .i64 2147483648]) 46) <| .nil) (by kernel_rfl) fun ν2 a w2 H => ?_
  obtain ⟨b1, hb1⟩ : ∃ b, (ν2 1).n 0 = b := ⟨_, rfl⟩
  replace H := H.toL [(0, .slot true .nilFunc), (1, .slot true (.pointer (some ⟨(ν2 1).n 0, 0, none⟩))), (4, .blk ((ν2 1).n 0) [.int .i64 2147483648, .int .i64 2147483648] 46)] (by kernel_rfl)
  rw [hb1] at H
  refine k_seq ?_
  refine k_reg mixed H (.cons [3] (ok_val (fun _ => .func (.func 89) #[] #[.pointer (some ⟨b1, 0, none⟩)]) 3) <| .cons [0] (ok_val (fun _ => .func (.func 89) #[] #[.pointer (some ⟨b1, 0, none⟩)]) 0) <| .nil) (by kernel_rfl) fun ν3 a w3 H => ?_
  replace H := H.toL [(0, .slot true (.func (.func 89) #[] #[.pointer (some ⟨b1, 0, none⟩)])), (4, .blk b1 [.int .i64 2147483648, .int .i64 2147483648] 46)] (by kernel_rfl)
  refine k_ret ?_
  exact ⟨H.defers, _, run_results H (.func (.func 89) #[] #[.pointer (some ⟨b1, 0, none⟩)]) [] (by kernel_rfl) (by simp) (by kernel_rfl), b1, rfl, H.below, H.ge 4 b1 trivial rfl, H.holds 4⟩
theorem control_Valid.calls (a0 : TStepControl) (r : Bool) (w : World) (G : control_Valid a0 = some r) :
  Calls Tryz.prog 30 #[.agg #[vI a0.Order, vI a0.First, vI a0.Least, vI a0.Most, vI a0.Wide]] w fun e w' => e = .returned (.bool r) ∧ Below w.heap.size w w' := by
 refine k_enter (args := [.agg #[vI a0.Order, vI a0.First, vI a0.Least, vI a0.Most, vI a0.Wide]]) 47 Tryz.func30 rfl (by kernel_rfl) (by kernel_rfl) fun a H => ?_
 unfold control_Valid at G
 refine k_srk mixed H (.cons [1, 47] (ok_new (fun b => vP b 0) (fun u1 => [vI a0.Order, vI a0.First, vI a0.Least, vI a0.Most, vI a0.Wide]) 27 1 47) <|
 .v 2 (.bool false) <| .nil) [1, 47] fun u1 a w' H => ?_
 obtain ⟨z3, hz3, G⟩ := bnd G
 replace hz3 := Option.some.inj hz3
 refine k_srk mixed H (.v 4 (vP ((u1 0).n 0) 2) <|
 .cons [5] (ok_ldc (vI a0.Least) 5 47 2 1 ((u1 0).n 0) [vI a0.Order, vI a0.First, vI a0.Least, vI a0.Most, vI a0.Wide] 27) <|
 .v 6 (.bool (decide (1 ≤ a0.Least))) <|
 .v 7 (.bool (decide (1 ≤ a0.Least))) <|
 .cons [8] (ok_valg (fun u2 => vP ((u1 0).n 0) 2) (fun u2 => ((decide (1 ≤ a0.Least)) == true)) [true] 8) <|
 .cons [9] (ok_ldg (fun u2 => vI a0.Least) (fun u2 => ((decide (1 ≤ a0.Least)) == true)) [false] 9 47 2 1 (fun u2 => ((u1 0).n 0)) (fun u2 => [vI a0.Order, vI a0.First, vI a0.Least, vI a0.Most, vI a0.Wide]) 27) <|
 .cons [10] (ok_valg (fun u2 => vP ((u1 0).n 0) 1) (fun u2 => ((decide (1 ≤ a0.Least)) == true)) [true] 10) <|
 .cons [11] (ok_ldg (fun u2 => vI a0.First) (fun u2 => ((decide (1 ≤ a0.Least)) == true)) [false] 11 47 1 1 (fun u2 => ((u1 0).n 0)) (fun u2 => [vI a0.Order, vI a0.First, vI a0.Least, vI a0.Most, vI a0.Wide]) 27) <|
 .cons [12] (ok_valg (fun u2 => .bool (decide (a0.Least ≤ a0.First))) (fun u2 => ((decide (1 ≤ a0.Least)) == true)) [false, false] 12) <|
 .cons [13] (ok_and 7 12 (fun u2 => true) (fun u2 => true) (fun u2 => decide (1 ≤ a0.Least)) (fun u2 => decide (a0.Least ≤ a0.First)) 13) <|
 .v 14 (.bool ((decide (1 ≤ a0.Least)) && (decide (a0.Least ≤ a0.First)))) <|
 .cons [15] (ok_valg (fun u2 => vP ((u1 0).n 0) 1) (fun u2 => (((decide (1 ≤ a0.Least)) && (decide (a0.Least ≤ a0.First))) == true)) [true] 15) <|
 .cons [16] (ok_ldg (fun u2 => vI a0.First) (fun u2 => (((decide (1 ≤ a0.Least)) && (decide (a0.Least ≤ a0.First))) == true)) [false] 16 47 1 1 (fun u2 => ((u1 0).n 0)) (fun u2 => [vI a0.Order, vI a0.First, vI a0.Least, vI a0.Most, vI a0.Wide]) 27) <|
 .cons [17] (ok_valg (fun u2 => vP ((u1 0).n 0) 3) (fun u2 => (((decide (1 ≤ a0.Least)) && (decide (a0.Least ≤ a0.First))) == true)) [true] 17) <|
 .cons [18] (ok_ldg (fun u2 => vI a0.Most) (fun u2 => (((decide (1 ≤ a0.Least)) && (decide (a0.Least ≤ a0.First))) == true)) [false] 18 47 3 1 (fun u2 => ((u1 0).n 0)) (fun u2 => [vI a0.Order, vI a0.First, vI a0.Least, vI a0.Most, vI a0.Wide]) 27) <|
 .cons [19] (ok_valg (fun u2 => .bool (decide (a0.First ≤ a0.Most))) (fun u2 => (((decide (1 ≤ a0.Least)) && (decide (a0.Least ≤ a0.First))) == true)) [false, false] 19) <|
 .cons [20] (ok_and 14 19 (fun u2 => true) (fun u2 => true) (fun u2 => ((decide (1 ≤ a0.Least)) && (decide (a0.Least ≤ a0.First)))) (fun u2 => decide (a0.First ≤ a0.Most)) 20) <|
 .cons [21] (ok_as (u' := fun u2 => [(21, sB z3)]) (ok_val (fun u2 => .bool (((decide (1 ≤ a0.Least)) && (decide (a0.Least ≤ a0.First))) && (decide (a0.First ≤ a0.Most)))) 21) (fun _ => by rw [← hz3])) <|
 .cons [22] (ok_valg (fun u2 => vP ((u1 0).n 0) 3) (fun u2 => (z3 == true)) [true] 22) <|
 .cons [23] (ok_ldg (fun u2 => vI a0.Most) (fun u2 => (z3 == true)) [false] 23 47 3 1 (fun u2 => ((u1 0).n 0)) (fun u2 => [vI a0.Order, vI a0.First, vI a0.Least, vI a0.Most, vI a0.Wide]) 27) <|
 .cons [24] (ok_valg (fun u2 => .bool (decide (a0.Most < 2147483648))) (fun u2 => (z3 == true)) [false, true] 24) <|
 .cons [25] (ok_and 21 24 (fun u2 => true) (fun u2 => true) (fun u2 => z3) (fun u2 => decide (a0.Most < 2147483648)) 25) <|
 .v 3 (.bool (z3 && (decide (a0.Most < 2147483648)))) <| .nil) [1, 3, 47] fun u2 a w' H => ?_
 obtain ⟨z5, hz5, G⟩ := bnd G
 replace hz5 := Option.some.inj hz5
 refine k_srk mixed H (.v 26 (vP ((u1 0).n 0) 0) <|
 .cons [27] (ok_ldc (vI a0.Order) 27 47 0 1 ((u1 0).n 0) [vI a0.Order, vI a0.First, vI a0.Least, vI a0.Most, vI a0.Wide] 27) <|
 .v 28 (.bool (decide (a0.Order ≥ 1))) <|
 .v 29 (.bool (decide (a0.Order ≥ 1))) <|
 .cons [30] (ok_valg (fun u4 => vP ((u1 0).n 0) 0) (fun u4 => ((decide (a0.Order ≥ 1)) == true)) [true] 30) <|
 .cons [31] (ok_ldg (fun u4 => vI a0.Order) (fun u4 => ((decide (a0.Order ≥ 1)) == true)) [false] 31 47 0 1 (fun u4 => ((u1 0).n 0)) (fun u4 => [vI a0.Order, vI a0.First, vI a0.Least, vI a0.Most, vI a0.Wide]) 27) <|
 .cons [32] (ok_valg (fun u4 => .bool (decide (a0.Order < 8))) (fun u4 => ((decide (a0.Order ≥ 1)) == true)) [false, true] 32) <|
 .cons [33] (ok_and 29 32 (fun u4 => true) (fun u4 => true) (fun u4 => decide (a0.Order ≥ 1)) (fun u4 => decide (a0.Order < 8)) 33) <|
 .v 34 (.bool ((decide (a0.Order ≥ 1)) && (decide (a0.Order < 8)))) <|
 .cons [35] (ok_valg (fun u4 => .bool (z3 && (decide (a0.Most < 2147483648)))) (fun u4 => (((decide (a0.Order ≥ 1)) && (decide (a0.Order < 8))) == true)) [true] 35) <|
 .cons [36] (ok_and 34 35 (fun u4 => true) (fun u4 => true) (fun u4 => ((decide (a0.Order ≥ 1)) && (decide (a0.Order < 8)))) (fun u4 => (z3 && (decide (a0.Most < 2147483648)))) 36) <|
 .cons [37] (ok_as (u' := fun u4 => [(37, sB z5)]) (ok_val (fun u4 => .bool (((decide (a0.Order ≥ 1)) && (decide (a0.Order < 8))) && (z3 && (decide (a0.Most < 2147483648))))) 37) (fun _ => by rw [← hz5])) <|
 .cons [38] (ok_valg (fun u4 => vP ((u1 0).n 0) 4) (fun u4 => (z5 == true)) [true] 38) <|
 .cons [39] (ok_ldg (fun u4 => vI a0.Wide) (fun u4 => (z5 == true)) [false] 39 47 4 1 (fun u4 => ((u1 0).n 0)) (fun u4 => [vI a0.Order, vI a0.First, vI a0.Least, vI a0.Most, vI a0.Wide]) 27) <|
 .cons [40] (ok_valg (fun u4 => .bool (decide (a0.Wide ≥ 1))) (fun u4 => (z5 == true)) [false, true] 40) <|
 .cons [41] (ok_and 37 40 (fun u4 => true) (fun u4 => true) (fun u4 => z5) (fun u4 => decide (a0.Wide ≥ 1)) 41) <|
 .v 42 (.bool (z5 && (decide (a0.Wide ≥ 1)))) <|
 .cons [43] (ok_valg (fun u4 => vP ((u1 0).n 0) 4) (fun u4 => ((z5 && (decide (a0.Wide ≥ 1))) == true)) [true] 43) <|
 .cons [44] (ok_ldg (fun u4 => vI a0.Wide) (fun u4 => ((z5 && (decide (a0.Wide ≥ 1))) == true)) [false] 44 47 4 1 (fun u4 => ((u1 0).n 0)) (fun u4 => [vI a0.Order, vI a0.First, vI a0.Least, vI a0.Most, vI a0.Wide]) 27) <|
 .cons [45] (ok_valg (fun u4 => .bool (decide (a0.Wide < 2147483648))) (fun u4 => ((z5 && (decide (a0.Wide ≥ 1))) == true)) [false, true] 45) <|
 .cons [46] (ok_and 42 45 (fun u4 => true) (fun u4 => true) (fun u4 => (z5 && (decide (a0.Wide ≥ 1)))) (fun u4 => decide (a0.Wide < 2147483648)) 46) <|
 .v 2 (.bool ((z5 && (decide (a0.Wide ≥ 1))) && (decide (a0.Wide < 2147483648)))) <| .nil) [2] fun u4 a w' H => ?_
 refine k_ret ?_
 obtain rfl := sj G
 exact k_done0 H _ (by kernel_rfl) (by kernel_rfl)
theorem fixed_Valid.calls (a0 : Int) (r : Bool) (w : World) (G : fixed_Valid a0 = some r) :
  Calls Tryz.prog 31 #[vI a0] w fun e w' => e = .returned (.bool r) ∧ Below w.heap.size w w' := by
 refine k_enter (args := [vI a0]) 9 Tryz.func31 rfl (by kernel_rfl) (by kernel_rfl) fun a H => ?_
 unfold fixed_Valid at G
 refine k_srk mixed H (.v 2 (.bool false) <| .nil) [0] fun u1 a w' H => ?_
 refine k_srk mixed H (.v 3 (vI a0) <|
 .v 4 (.bool (decide ((-2147483648) < a0))) <|
 .v 5 (.bool (decide ((-2147483648) < a0))) <|
 .cons [6] (ok_valg (fun u2 => vI a0) (fun u2 => ((decide ((-2147483648) < a0)) == true)) [true] 6) <|
 .cons [7] (ok_valg (fun u2 => .bool (decide (a0 < 2147483648))) (fun u2 => ((decide ((-2147483648) < a0)) == true)) [false, true] 7) <|
 .cons [8] (ok_and 5 7 (fun u2 => true) (fun u2 => true) (fun u2 => decide ((-2147483648) < a0)) (fun u2 => decide (a0 < 2147483648)) 8) <|
 .v 2 (.bool ((decide ((-2147483648) < a0)) && (decide (a0 < 2147483648)))) <| .nil) [2] fun u2 a w' H => ?_
 refine k_ret ?_
 obtain rfl := sj G
 exact k_done0 H _ (by kernel_rfl) (by kernel_rfl)
theorem control_Initial.calls (a0 : TStepControl) (a1 : Int) (r : Int) (w : World) (G : control_Initial a0 a1 = some r) :
  Calls Tryz.prog 32 #[.agg #[vI a0.Order, vI a0.First, vI a0.Least, vI a0.Most, vI a0.Wide], vI a1] w fun e w' => e = .returned (vI r) ∧ Below w.heap.size w w' := by
 refine k_enter (args := [.agg #[vI a0.Order, vI a0.First, vI a0.Least, vI a0.Most, vI a0.Wide], vI a1]) 9 Tryz.func32 rfl (by kernel_rfl) (by kernel_rfl) fun a H => ?_
 unfold control_Initial at G
 refine k_srk mixed H (.cons [2, 9] (ok_new (fun b => vP b 0) (fun u1 => [vI a0.Order, vI a0.First, vI a0.Least, vI a0.Most, vI a0.Wide]) 27 2 9) <|
 .v 4 (vI 0) <| .nil) [1, 2, 9] fun u1 a w' H => ?_
 refine k_srk mixed H (.v 5 (vP ((u1 0).n 0) 1) <|
 .cons [6] (ok_ldc (vI a0.First) 6 9 1 1 ((u1 0).n 0) [vI a0.Order, vI a0.First, vI a0.Least, vI a0.Most, vI a0.Wide] 27) <|
 .v 7 (vI a1) <|
 .v 8 (vI (mn a0.First a1)) <|
 .v 4 (vI (mn a0.First a1)) <| .nil) [4] fun u2 a w' H => ?_
 refine k_ret ?_
 obtain rfl := sj G
 exact k_done0 H _ (by kernel_rfl) (by kernel_rfl)
theorem interval_Entire.calls (r : TInterval) (w : World) (G : interval_Entire = some r) :
  Calls Tryz.prog 48 #[] w fun e w' => e = .returned (.agg #[vI r.Lo, vI r.Hi]) ∧ Below w.heap.size w w' := by
 refine k_enter (args := []) 2 Tryz.func48 rfl (by kernel_rfl) (by kernel_rfl) fun a H => ?_
 unfold interval_Entire at G
 refine k_srk mixed H (.cons [0, 2] (ok_new (fun b => vP b 0) (fun u1 => [vI 0, vI 0]) 46 0 2) <| .nil) [0, 2] fun u1 a w' H => ?_
 refine k_srk mixed H (.v 1 (.agg #[vI (-2147483648), vI 2147483648]) <|
 .cons [2] (ok_stc 2 0 ((u1 0).n 0) [vI 0, vI 0] [vI (-2147483648), vI 2147483648] 46 [vI (-2147483648), vI 2147483648]) <| .nil) [0, 2] fun u2 a w' H => ?_
 refine k_ret ?_
 obtain rfl := sj G
 exact k_done1 H _ 2 ((u1 0).n 0) [vI (-2147483648), vI 2147483648] 46 0 2 (by kernel_rfl) (by kernel_rfl) (by kernel_rfl) (by kernel_rfl)
theorem interval_New.calls (a0 : Int) (a1 : Int) (r : TInterval) (w : World) (G : interval_New a0 a1 = some r) :
  Calls Tryz.prog 68 #[vI a0, vI a1] w fun e w' => e = .returned (.agg #[vI r.Lo, vI r.Hi]) ∧ Below w.heap.size w w' := by
 refine k_enter (args := [vI a0, vI a1]) 23 Tryz.func68 rfl (by kernel_rfl) (by kernel_rfl) fun a H => ?_
 unfold interval_New at G
 refine k_srk mixed H (.cons [4, 23] (ok_new (fun b => vP b 0) (fun u1 => [vI 0, vI 0]) 46 4 23) <| .nil) [0, 1, 4, 23] fun u1 a w' H => ?_
 refine k_seq ?_
 obtain ⟨z3, hz3, G⟩ := bnd G
 replace hz3 := Option.some.inj hz3
 refine k_srk mixed H (.v 5 (vI a0) <|
 .v 6 (.bool (decide (a0 ≤ (-2147483648)))) <|
 .v 7 (.bool (decide (a0 ≤ (-2147483648)))) <|
 .cons [8] (ok_valg (fun u2 => vI a1) (fun u2 => ((decide (a0 ≤ (-2147483648))) == false)) [true] 8) <|
 .cons [9] (ok_valg (fun u2 => .bool (decide (a1 ≥ 2147483648))) (fun u2 => ((decide (a0 ≤ (-2147483648))) == false)) [false, true] 9) <|
 .cons [10] (ok_or 7 9 (fun u2 => true) (fun u2 => true) (fun u2 => decide (a0 ≤ (-2147483648))) (fun u2 => decide (a1 ≥ 2147483648)) 10) <|
 .v 11 (.bool ((decide (a0 ≤ (-2147483648))) || (decide (a1 ≥ 2147483648)))) <|
 .cons [12] (ok_valg (fun u2 => vI a0) (fun u2 => (((decide (a0 ≤ (-2147483648))) || (decide (a1 ≥ 2147483648))) == false)) [true] 12) <|
 .cons [13] (ok_valg (fun u2 => .bool (decide (a0 ≥ 2147483648))) (fun u2 => (((decide (a0 ≤ (-2147483648))) || (decide (a1 ≥ 2147483648))) == false)) [false, true] 13) <|
 .cons [14] (ok_or 11 13 (fun u2 => true) (fun u2 => true) (fun u2 => ((decide (a0 ≤ (-2147483648))) || (decide (a1 ≥ 2147483648)))) (fun u2 => decide (a0 ≥ 2147483648)) 14) <|
 .cons [15] (ok_as (u' := fun u2 => [(15, sB z3)]) (ok_val (fun u2 => .bool (((decide (a0 ≤ (-2147483648))) || (decide (a1 ≥ 2147483648))) || (decide (a0 ≥ 2147483648)))) 15) (fun _ => by rw [← hz3])) <|
 .cons [16] (ok_valg (fun u2 => vI a1) (fun u2 => (z3 == false)) [true] 16) <|
 .cons [17] (ok_valg (fun u2 => .bool (decide (a1 ≤ (-2147483648)))) (fun u2 => (z3 == false)) [false, true] 17) <|
 .cons [18] (ok_or 15 17 (fun u2 => true) (fun u2 => true) (fun u2 => z3) (fun u2 => decide (a1 ≤ (-2147483648))) 18) <| .nil) [0, 1, 4, 18, 23] fun u2 a w' H => ?_
 refine k_cnd H (z3 || (decide (a1 ≤ (-2147483648)))) (fun c7 => ?_) fun c7 => ?_
 ·rw [if_pos c7] at G
  obtain ⟨t5, ht5, G⟩ := bnd G
  refine k_srk mixed H (.cons [19] (ok_callv 48 _ _ 19 [] (fun u4 w _ => interval_Entire.calls   t5 w  ht5)) <|
 .cons [23] (ok_stc 23 0 ((u1 0).n 0) [vI 0, vI 0] [vI t5.Lo, vI t5.Hi] 46 [vI t5.Lo, vI t5.Hi]) <| .nil) [4, 23] fun u4 a w' H => ?_
  refine k_ret ?_
  obtain rfl := sj G
  exact k_done1 H _ 23 ((u1 0).n 0) [vI t5.Lo, vI t5.Hi] 46 0 2 (by kernel_rfl) (by kernel_rfl) (by kernel_rfl) (by kernel_rfl)
 ·rw [if_neg (nt c7)] at G
  refine k_skip ?_
  refine k_srk mixed H (.v 20 (vI a0) <|
 .v 21 (vI a1) <|
 .v 22 (.agg #[vI a0, vI a1]) <|
 .cons [23] (ok_stc 23 0 ((u1 0).n 0) [vI 0, vI 0] [vI a0, vI a1] 46 [vI a0, vI a1]) <| .nil) [4, 23] fun u6 a w' H => ?_
  refine k_ret ?_
  obtain rfl := sj G
  exact k_done1 H _ 23 ((u1 0).n 0) [vI a0, vI a1] 46 0 2 (by kernel_rfl) (by kernel_rfl) (by kernel_rfl) (by kernel_rfl)
theorem interval_IsEntire.calls (a0 : TInterval) (r : Bool) (w : World) (G : interval_IsEntire a0 = some r) :
  Calls Tryz.prog 21 #[.agg #[vI a0.Lo, vI a0.Hi]] w fun e w' => e = .returned (.bool r) ∧ Below w.heap.size w w' := by
 refine k_enter (args := [.agg #[vI a0.Lo, vI a0.Hi]]) 6 Tryz.func21 rfl (by kernel_rfl) (by kernel_rfl) fun a H => ?_
 unfold interval_IsEntire at G
 refine k_srk mixed H (.cons [1, 6] (ok_new (fun b => vP b 0) (fun u1 => [vI a0.Lo, vI a0.Hi]) 46 1 6) <|
 .v 2 (.bool false) <| .nil) [1, 6] fun u1 a w' H => ?_
 obtain ⟨t3, ht3, G⟩ := bnd G
 refine k_srk mixed H (.cons [3] (ok_ldc (.agg #[vI a0.Lo, vI a0.Hi]) 3 6 0 2 ((u1 0).n 0) [vI a0.Lo, vI a0.Hi] 46) <|
 .cons [4] (ok_callv 48 _ _ 4 [] (fun u2 w _ => interval_Entire.calls   t3 w  ht3)) <|
 .cons [5] (ok_val (fun u2 => .bool ((a0.Lo == t3.Lo) && ((a0.Hi == t3.Hi) && true))) 5 (hv := fun _ _ => run_of (by kernel_rfl) (run_eql_agg (t := 46) (x := (.tmp 3)) (y := (.tmp 4)) (xs := #[vI a0.Lo, vI a0.Hi]) (ys := #[vI t3.Lo, vI t3.Hi]) (b := ((a0.Lo == t3.Lo) && ((a0.Hi == t3.Hi) && true))) (by kernel_rfl) (by kernel_rfl)))) <|
 .v 2 (.bool ((a0.Lo == t3.Lo) && ((a0.Hi == t3.Hi) && true))) <| .nil) [2] fun u2 a w' H => ?_
 refine k_ret ?_
 obtain rfl := sj G
 exact k_done0 H _ (by kernel_rfl) (by kernel_rfl)
theorem interval_Add.calls (a0 : TInterval) (a1 : TInterval) (r : TInterval) (w : World) (G : interval_Add a0 a1 = some r) :
  Calls Tryz.prog 90 #[.agg #[vI a0.Lo, vI a0.Hi], .agg #[vI a1.Lo, vI a1.Hi]] w fun e w' => e = .returned (.agg #[vI r.Lo, vI r.Hi]) ∧ Below w.heap.size w w' := by
 refine k_enter (args := [.agg #[vI a0.Lo, vI a0.Hi], .agg #[vI a1.Lo, vI a1.Hi]]) 23 Tryz.func90 rfl (by kernel_rfl) (by kernel_rfl) fun a H => ?_
 unfold interval_Add at G
 refine k_srk mixed H (.cons [2, 23] (ok_new (fun b => vP b 0) (fun u1 => [vI a0.Lo, vI a0.Hi]) 46 2 23) <|
 .cons [3, 24] (ok_new (fun b => vP b 0) (fun u1 => [vI a1.Lo, vI a1.Hi]) 46 3 24) <|
 .cons [4, 25] (ok_new (fun b => vP b 0) (fun u1 => [vI 0, vI 0]) 46 4 25) <| .nil) [2, 3, 4, 23, 24, 25] fun u1 a w' H => ?_
 refine k_seq ?_
 obtain ⟨t3, ht3, G⟩ := bnd G
 obtain ⟨t4, ht4, G⟩ := bnd G
 refine k_srk mixed H (.cons [5] (ok_ldc (.agg #[vI a0.Lo, vI a0.Hi]) 5 23 0 2 ((u1 0).n 0) [vI a0.Lo, vI a0.Hi] 46) <|
 .cons [6] (ok_callv 21 _ _ 6 [] (fun u2 w _ => interval_IsEntire.calls a0  t3 w  ht3)) <|
 .v 7 (.bool t3) <|
 .cons [8] (ok_ldg (fun u2 => .agg #[vI a1.Lo, vI a1.Hi]) (fun u2 => (t3 == false)) [true] 8 24 0 2 (fun u2 => ((u1 1).n 0)) (fun u2 => [vI a1.Lo, vI a1.Hi]) 46) <|
 .cons [9] (ok_call 21 (fun u2 => #[.agg #[vI a1.Lo, vI a1.Hi]]) (.bool t4) (fun u2 => (t3 == false)) [true, false] 9 [] (fun u2 w hg _ => interval_IsEntire.calls a1  t4 w  (ifp ht4 hg))) <|
 .cons [10] (ok_or 7 9 (fun u2 => true) (fun u2 => true) (fun u2 => t3) (fun u2 => t4) 10) <| .nil) [2, 3, 4, 10, 23, 24, 25] fun u2 a w' H => ?_
 refine k_cnd H (t3 || t4) (fun c9 => ?_) fun c9 => ?_
 ·rw [if_pos c9] at G
  obtain ⟨t6, ht6, G⟩ := bnd G
  refine k_srk mixed H (.cons [11] (ok_callv 48 _ _ 11 [] (fun u5 w _ => interval_Entire.calls   t6 w  ht6)) <|
 .cons [25] (ok_stc 25 0 ((u1 2).n 0) [vI 0, vI 0] [vI t6.Lo, vI t6.Hi] 46 [vI t6.Lo, vI t6.Hi]) <| .nil) [4, 25] fun u5 a w' H => ?_
  refine k_ret ?_
  obtain rfl := sj G
  exact k_done1 H _ 25 ((u1 2).n 0) [vI t6.Lo, vI t6.Hi] 46 0 2 (by kernel_rfl) (by kernel_rfl) (by kernel_rfl) (by kernel_rfl)
 ·rw [if_neg (nt c9)] at G
  refine k_skip ?_
  obtain ⟨t8, ht8, G⟩ := bnd G
  refine k_srk mixed H (.v 12 (vP ((u1 0).n 0) 0) <|
 .cons [13] (ok_ldc (vI a0.Lo) 13 23 0 1 ((u1 0).n 0) [vI a0.Lo, vI a0.Hi] 46) <|
 .v 14 (vP ((u1 1).n 0) 0) <|
 .cons [15] (ok_ldc (vI a1.Lo) 15 24 0 1 ((u1 1).n 0) [vI a1.Lo, vI a1.Hi] 46) <|
 .v 16 (vI (w_i64 (a0.Lo + a1.Lo))) <|
 .v 17 (vP ((u1 0).n 0) 1) <|
 .cons [18] (ok_ldc (vI a0.Hi) 18 23 1 1 ((u1 0).n 0) [vI a0.Lo, vI a0.Hi] 46) <|
 .v 19 (vP ((u1 1).n 0) 1) <|
 .cons [20] (ok_ldc (vI a1.Hi) 20 24 1 1 ((u1 1).n 0) [vI a1.Lo, vI a1.Hi] 46) <|
 .v 21 (vI (w_i64 (a0.Hi + a1.Hi))) <|
 .cons [22] (ok_callv 68 _ _ 22 [] (fun u7 w _ => interval_New.calls (w_i64 (a0.Lo + a1.Lo)) (w_i64 (a0.Hi + a1.Hi))  t8 w  ht8)) <|
 .cons [25] (ok_stc 25 0 ((u1 2).n 0) [vI 0, vI 0] [vI t8.Lo, vI t8.Hi] 46 [vI t8.Lo, vI t8.Hi]) <| .nil) [4, 25] fun u7 a w' H => ?_
  refine k_ret ?_
  obtain rfl := sj G
  exact k_done1 H _ 25 ((u1 2).n 0) [vI t8.Lo, vI t8.Hi] 46 0 2 (by kernel_rfl) (by kernel_rfl) (by kernel_rfl) (by kernel_rfl)
theorem fixed_divide_1.calls (a0 : Int) (r : Int) (w : World) (G : fixed_divide_1 a0 = some r) :
  Calls Tryz.prog 94 #[vI a0] w fun e w' => e = .returned (vI r) ∧ Below w.heap.size w w' := by
 refine k_enter (args := [vI a0]) 5 Tryz.func94 rfl (by kernel_rfl) (by kernel_rfl) fun a H => ?_
 unfold fixed_divide_1 at G
 refine k_srk mixed H (.v 2 (vI 0) <| .nil) [0] fun u1 a w' H => ?_
 refine k_srk mixed H (.v 3 (vI a0) <|
 .v 4 (vI (mn a0 1)) <|
 .v 2 (vI (mn a0 1)) <| .nil) [2] fun u2 a w' H => ?_
 refine k_ret ?_
 obtain rfl := sj G
 exact k_done0 H _ (by kernel_rfl) (by kernel_rfl)
theorem fixed_floorCeil_int64_s94.calls (a0 : Int) (a1 : Int) (r : Int × Int) (w : World) (G : fixed_floorCeil_int64_s94 a0 a1 = some r) :
  Calls Tryz.prog 93 #[vI a0, vI a1, .func (.func 94) #[] #[]] w fun e w' => e = .returned (.tuple #[vI r.1, vI r.2]) ∧ Below w.heap.size w w' := by
 refine k_enter (args := [vI a0, vI a1, .func (.func 94) #[] #[]]) 29 Tryz.func93 rfl (by kernel_rfl) (by kernel_rfl) fun a H => ?_
 unfold fixed_floorCeil_int64_s94 at G
 refine k_srk mixed H (.v 6 (vI 0) <|
 .v 7 (vI 0) <| .nil) [0, 1, 2] fun u1 a w' H => ?_
 refine k_seq ?_
 replace G := gd G; obtain ⟨n3, G⟩ := G
 replace G := gd G; obtain ⟨n4, G⟩ := G
 refine k_rk mixed H (.v 10 (vI a0) <|
 .v 11 (vI a1) <|
 .cons [12] (ok_val (fun u2 => vI (w_i64 (Int.tdiv a0 a1))) 12 (hv := fun _ _ => run_of (by kernel_rfl) (run_quo (k := .i64) (x := a0) (y := a1) n3))) <|
 .v 13 (vI a0) <|
 .v 14 (vI a1) <|
 .cons [15] (ok_val (fun u2 => vI (Int.tmod a0 a1)) 15 (hv := fun _ _ => run_of (by kernel_rfl) (run_rem (k := .i64) (x := a0) (y := a1) n4))) <|
 .v 8 (vI (w_i64 (Int.tdiv a0 a1))) <|
 .v 9 (vI (Int.tmod a0 a1)) <| .nil) [1, 2, 8, 9] fun u2 a w' H => ?_
 refine k_seq ?_
 obtain ⟨j7, hj7, G⟩ := bnd G
 refine k_join (fun a w' => RL w 29 [(2, .slot true (.func (.func 94) #[] #[])), (8, sI j7.1), (9, sI j7.2)] a w') ?_ ?_
 ·clear H; intro a w' H
  obtain ⟨t9, ht9, G⟩ := bnd G
  refine k_srk mixed H (.v 23 (vI j7.1) <|
 .v 24 (vI j7.1) <|
 .v 25 (.func (.func 94) #[] #[]) <|
 .v 26 (vI j7.2) <|
 .cons [27] (ok_callv 94 _ _ 27 [] (fun u8 w _ => fixed_divide_1.calls j7.2  t9 w  ht9)) <|
 .v 28 (vI (w_i64 (j7.1 + t9))) <|
 .v 6 (vI j7.1) <|
 .v 7 (vI (w_i64 (j7.1 + t9))) <| .nil) [6, 7] fun u8 a w' H => ?_
  refine k_ret ?_
  obtain rfl := sj G
  exact k_done0 H _ (by kernel_rfl) (by kernel_rfl)
 ·clear G; replace G := hj7; clear hj7
  refine k_srk mixed H (.v 16 (vI (Int.tmod a0 a1)) <|
 .v 17 (.bool (decide ((Int.tmod a0 a1) < 0))) <| .nil) [1, 2, 8, 9, 17] fun u10 a w' H => ?_
  refine k_cnd H (decide ((Int.tmod a0 a1) < 0)) (fun c12 => ?_) fun c12 => ?_
  ·rw [if_pos c12] at G
   refine k_rk mixed H (.v 18 (vI (w_i64 (Int.tdiv a0 a1))) <|
 .v 19 (vI (w_i64 ((w_i64 (Int.tdiv a0 a1)) - 1))) <|
 .v 20 (vI (Int.tmod a0 a1)) <|
 .v 21 (vI a1) <|
 .v 22 (vI (w_i64 ((Int.tmod a0 a1) + a1))) <|
 .v 8 (vI (w_i64 ((w_i64 (Int.tdiv a0 a1)) - 1))) <|
 .v 9 (vI (w_i64 ((Int.tmod a0 a1) + a1))) <| .nil) [2, 8, 9] fun u11 a w' H => ?_
   obtain rfl := sj G
   exact H.toM _
  ·rw [if_neg (nt c12)] at G
   refine k_skip ?_
   obtain rfl := sj G
   exact H.toM _
theorem fixed_divide.calls (a0 : Int) (a1 : Int) (r : Int × Int) (w : World) (G : fixed_divide a0 a1 = some r) :
  Calls Tryz.prog 75 #[vI a0, vI a1] w fun e w' => e = .returned (.tuple #[vI r.1, vI r.2]) ∧ Below w.heap.size w w' := by
 refine k_enter (args := [vI a0, vI a1]) 17 Tryz.func75 rfl (by kernel_rfl) (by kernel_rfl) fun a H => ?_
 unfold fixed_divide at G
 refine k_srk mixed H (.v 4 (vI 0) <|
 .v 5 (vI 0) <| .nil) [0, 1] fun u1 a w' H => ?_
 refine k_seq ?_
 obtain ⟨j4, hj4, G⟩ := bnd G
 refine k_join (fun a w' => RL w 17 [(0, sI j4.1), (1, sI j4.2)] a w') ?_ ?_
 ·clear H; intro a w' H
  obtain ⟨t6, ht6, G⟩ := bnd G
  refine k_srk mixed H (.v 12 (vI j4.1) <|
 .v 13 (vI j4.2) <|
 .cons [14] (ok_callv 93 _ _ 14 [] (fun u5 w _ => fixed_floorCeil_int64_s94.calls j4.1 j4.2  t6 w  ht6)) <|
 .v 15 (vI t6.1) <|
 .v 16 (vI t6.2) <|
 .v 4 (vI t6.1) <|
 .v 5 (vI t6.2) <| .nil) [4, 5] fun u5 a w' H => ?_
  refine k_ret ?_
  obtain rfl := sj G
  exact k_done0 H _ (by kernel_rfl) (by kernel_rfl)
 ·clear G; replace G := hj4; clear hj4
  refine k_srk mixed H (.v 6 (vI a1) <|
 .v 7 (.bool (decide (a1 < 0))) <| .nil) [0, 1, 7] fun u7 a w' H => ?_
  refine k_cnd H (decide (a1 < 0)) (fun c9 => ?_) fun c9 => ?_
  ·rw [if_pos c9] at G
   refine k_rk mixed H (.v 8 (vI a0) <|
 .v 9 (vI (w_i64 (0 - a0))) <|
 .v 10 (vI a1) <|
 .v 11 (vI (w_i64 (0 - a1))) <|
 .v 0 (vI (w_i64 (0 - a0))) <|
 .v 1 (vI (w_i64 (0 - a1))) <| .nil) [0, 1] fun u8 a w' H => ?_
   obtain rfl := sj G
   exact H.toM _
  ·rw [if_neg (nt c9)] at G
   refine k_skip ?_
   obtain rfl := sj G
   exact H.toM _
theorem fixed_Mul.calls (a0 : Int) (a1 : Int) (r : Int × Int) (w : World) (G : fixed_Mul a0 a1 = some r) :
  Calls Tryz.prog 54 #[vI a0, vI a1] w fun e w' => e = .returned (.tuple #[vI r.1, vI r.2]) ∧ Below w.heap.size w w' := by
 refine k_enter (args := [vI a0, vI a1]) 12 Tryz.func54 rfl (by kernel_rfl) (by kernel_rfl) fun a H => ?_
 unfold fixed_Mul at G
 refine k_srk mixed H (.v 4 (vI 0) <|
 .v 5 (vI 0) <| .nil) [0, 1] fun u1 a w' H => ?_
 obtain ⟨t3, ht3, G⟩ := bnd G
 refine k_srk mixed H (.v 6 (vI a0) <|
 .v 7 (vI a1) <|
 .v 8 (vI (w_i64 (a0 * a1))) <|
 .cons [9] (ok_callv 75 _ _ 9 [] (fun u2 w _ => fixed_divide.calls (w_i64 (a0 * a1)) 65536  t3 w  ht3)) <|
 .v 10 (vI t3.1) <|
 .v 11 (vI t3.2) <|
 .v 4 (vI t3.1) <|
 .v 5 (vI t3.2) <| .nil) [4, 5] fun u2 a w' H => ?_
 refine k_ret ?_
 obtain rfl := sj G
 exact k_done0 H _ (by kernel_rfl) (by kernel_rfl)
theorem interval_Mag.calls (a0 : TInterval) (r : Int) (w : World) (G : interval_Mag a0 = some r) :
  Calls Tryz.prog 109 #[.agg #[vI a0.Lo, vI a0.Hi]] w fun e w' => e = .returned (vI r) ∧ Below w.heap.size w w' := by
 refine k_enter (args := [.agg #[vI a0.Lo, vI a0.Hi]]) 9 Tryz.func109 rfl (by kernel_rfl) (by kernel_rfl) fun a H => ?_
 unfold interval_Mag at G
 refine k_srk mixed H (.cons [1, 9] (ok_new (fun b => vP b 0) (fun u1 => [vI a0.Lo, vI a0.Hi]) 46 1 9) <|
 .v 2 (vI 0) <| .nil) [1, 9] fun u1 a w' H => ?_
 refine k_srk mixed H (.v 3 (vP ((u1 0).n 0) 1) <|
 .cons [4] (ok_ldc (vI a0.Hi) 4 9 1 1 ((u1 0).n 0) [vI a0.Lo, vI a0.Hi] 46) <|
 .v 5 (vP ((u1 0).n 0) 0) <|
 .cons [6] (ok_ldc (vI a0.Lo) 6 9 0 1 ((u1 0).n 0) [vI a0.Lo, vI a0.Hi] 46) <|
 .v 7 (vI (w_i64 (0 - a0.Lo))) <|
 .v 8 (vI (mx a0.Hi (w_i64 (0 - a0.Lo)))) <|
 .v 2 (vI (mx a0.Hi (w_i64 (0 - a0.Lo)))) <| .nil) [2] fun u2 a w' H => ?_
 refine k_ret ?_
 obtain rfl := sj G
 exact k_done0 H _ (by kernel_rfl) (by kernel_rfl)
theorem interval_Square.calls (a0 : TInterval) (r : TInterval) (w : World) (G : interval_Square a0 = some r) :
  Calls Tryz.prog 91 #[.agg #[vI a0.Lo, vI a0.Hi]] w fun e w' => e = .returned (.agg #[vI r.Lo, vI r.Hi]) ∧ Below w.heap.size w w' := by
 refine k_enter (args := [.agg #[vI a0.Lo, vI a0.Hi]]) 35 Tryz.func91 rfl (by kernel_rfl) (by kernel_rfl) fun a H => ?_
 unfold interval_Square at G
 refine k_srk mixed H (.cons [1, 35] (ok_new (fun b => vP b 0) (fun u1 => [vI a0.Lo, vI a0.Hi]) 46 1 35) <|
 .cons [2, 36] (ok_new (fun b => vP b 0) (fun u1 => [vI 0, vI 0]) 46 2 36) <| .nil) [1, 2, 35, 36] fun u1 a w' H => ?_
 refine k_seq ?_
 obtain ⟨t3, ht3, G⟩ := bnd G
 refine k_srk mixed H (.cons [9] (ok_ldc (.agg #[vI a0.Lo, vI a0.Hi]) 9 35 0 2 ((u1 0).n 0) [vI a0.Lo, vI a0.Hi] 46) <|
 .cons [10] (ok_callv 21 _ _ 10 [] (fun u2 w _ => interval_IsEntire.calls a0  t3 w  ht3)) <| .nil) [1, 2, 10, 35, 36] fun u2 a w' H => ?_
 refine k_cnd H t3 (fun c13 => ?_) fun c13 => ?_
 ·rw [if_pos c13] at G
  refine k_srk mixed H (.cons [11] (ok_ldc (.agg #[vI a0.Lo, vI a0.Hi]) 11 35 0 2 ((u1 0).n 0) [vI a0.Lo, vI a0.Hi] 46) <|
 .cons [36] (ok_stc 36 0 ((u1 1).n 0) [vI 0, vI 0] [vI a0.Lo, vI a0.Hi] 46 [vI a0.Lo, vI a0.Hi]) <| .nil) [2, 36] fun u4 a w' H => ?_
  refine k_ret ?_
  obtain rfl := sj G
  exact k_done1 H _ 36 ((u1 1).n 0) [vI a0.Lo, vI a0.Hi] 46 0 2 (by kernel_rfl) (by kernel_rfl) (by kernel_rfl) (by kernel_rfl)
 ·rw [if_neg (nt c13)] at G
  refine k_skip ?_
  obtain ⟨t6, ht6, G⟩ := bnd G
  refine k_srk mixed H (.v 12 (vP ((u1 0).n 0) 0) <|
 .cons [13] (ok_ldc (vI a0.Lo) 13 35 0 1 ((u1 0).n 0) [vI a0.Lo, vI a0.Hi] 46) <|
 .v 14 (vP ((u1 0).n 0) 1) <|
 .cons [15] (ok_ldc (vI a0.Hi) 15 35 1 1 ((u1 0).n 0) [vI a0.Lo, vI a0.Hi] 46) <|
 .v 16 (vI (w_i64 (0 - a0.Hi))) <|
 .v 17 (vI (mx (mx a0.Lo (w_i64 (0 - a0.Hi))) 0)) <|
 .cons [18] (ok_ldc (.agg #[vI a0.Lo, vI a0.Hi]) 18 35 0 2 ((u1 0).n 0) [vI a0.Lo, vI a0.Hi] 46) <|
 .cons [19] (ok_callv 109 _ _ 19 [] (fun u5 w _ => interval_Mag.calls a0  t6 w  ht6)) <|
 .v 3 (vI (mx (mx a0.Lo (w_i64 (0 - a0.Hi))) 0)) <|
 .v 4 (vI t6) <| .nil) [2, 3, 4, 36] fun u5 a w' H => ?_
  obtain ⟨t8, ht8, G⟩ := bnd G
  refine k_srk mixed H (.v 21 (vI (mx (mx a0.Lo (w_i64 (0 - a0.Hi))) 0)) <|
 .v 22 (vI (mx (mx a0.Lo (w_i64 (0 - a0.Hi))) 0)) <|
 .cons [23] (ok_callv 54 _ _ 23 [] (fun u7 w _ => fixed_Mul.calls (mx (mx a0.Lo (w_i64 (0 - a0.Hi))) 0) (mx (mx a0.Lo (w_i64 (0 - a0.Hi))) 0)  t8 w  ht8)) <|
 .v 20 (.tuple #[vI t8.1, vI t8.2]) <|
 .v 24 (vI t8.1) <|
 .v 25 (vI t8.2) <|
 .v 5 (vI t8.1) <|
 .v 6 (vI t8.2) <| .nil) [2, 4, 5, 36] fun u7 a w' H => ?_
  obtain ⟨t10, ht10, G⟩ := bnd G
  refine k_srk mixed H (.v 27 (vI t6) <|
 .v 28 (vI t6) <|
 .cons [29] (ok_callv 54 _ _ 29 [] (fun u9 w _ => fixed_Mul.calls t6 t6  t10 w  ht10)) <|
 .v 26 (.tuple #[vI t10.1, vI t10.2]) <|
 .v 30 (vI t10.1) <|
 .v 31 (vI t10.2) <|
 .v 7 (vI t10.1) <|
 .v 8 (vI t10.2) <| .nil) [2, 5, 8, 36] fun u9 a w' H => ?_
  obtain ⟨t12, ht12, G⟩ := bnd G
  refine k_srk mixed H (.v 32 (vI t8.1) <|
 .v 33 (vI t10.2) <|
 .cons [34] (ok_callv 68 _ _ 34 [] (fun u11 w _ => interval_New.calls t8.1 t10.2  t12 w  ht12)) <|
 .cons [36] (ok_stc 36 0 ((u1 1).n 0) [vI 0, vI 0] [vI t12.Lo, vI t12.Hi] 46 [vI t12.Lo, vI t12.Hi]) <| .nil) [2, 36] fun u11 a w' H => ?_
  refine k_ret ?_
  obtain rfl := sj G
  exact k_done1 H _ 36 ((u1 1).n 0) [vI t12.Lo, vI t12.Hi] 46 0 2 (by kernel_rfl) (by kernel_rfl) (by kernel_rfl) (by kernel_rfl)
theorem interval_Neg.calls (a0 : TInterval) (r : TInterval) (w : World) (G : interval_Neg a0 = some r) :
  Calls Tryz.prog 110 #[.agg #[vI a0.Lo, vI a0.Hi]] w fun e w' => e = .returned (.agg #[vI r.Lo, vI r.Hi]) ∧ Below w.heap.size w w' := by
 refine k_enter (args := [.agg #[vI a0.Lo, vI a0.Hi]]) 10 Tryz.func110 rfl (by kernel_rfl) (by kernel_rfl) fun a H => ?_
 unfold interval_Neg at G
 refine k_srk mixed H (.cons [1, 10] (ok_new (fun b => vP b 0) (fun u1 => [vI a0.Lo, vI a0.Hi]) 46 1 10) <|
 .cons [2, 11] (ok_new (fun b => vP b 0) (fun u1 => [vI 0, vI 0]) 46 2 11) <| .nil) [1, 2, 10, 11] fun u1 a w' H => ?_
 refine k_srk mixed H (.v 3 (vP ((u1 0).n 0) 1) <|
 .cons [4] (ok_ldc (vI a0.Hi) 4 10 1 1 ((u1 0).n 0) [vI a0.Lo, vI a0.Hi] 46) <|
 .v 5 (vI (w_i64 (0 - a0.Hi))) <|
 .v 6 (vP ((u1 0).n 0) 0) <|
 .cons [7] (ok_ldc (vI a0.Lo) 7 10 0 1 ((u1 0).n 0) [vI a0.Lo, vI a0.Hi] 46) <|
 .v 8 (vI (w_i64 (0 - a0.Lo))) <|
 .v 9 (.agg #[vI (w_i64 (0 - a0.Hi)), vI (w_i64 (0 - a0.Lo))]) <|
 .cons [11] (ok_stc 11 0 ((u1 1).n 0) [vI 0, vI 0] [vI (w_i64 (0 - a0.Hi)), vI (w_i64 (0 - a0.Lo))] 46 [vI (w_i64 (0 - a0.Hi)), vI (w_i64 (0 - a0.Lo))]) <| .nil) [2, 11] fun u2 a w' H => ?_
 refine k_ret ?_
 obtain rfl := sj G
 exact k_done1 H _ 11 ((u1 1).n 0) [vI (w_i64 (0 - a0.Hi)), vI (w_i64 (0 - a0.Lo))] 46 0 2 (by kernel_rfl) (by kernel_rfl) (by kernel_rfl) (by kernel_rfl)
theorem interval_Sub.calls (a0 : TInterval) (a1 : TInterval) (r : TInterval) (w : World) (G : interval_Sub a0 a1 = some r) :
  Calls Tryz.prog 92 #[.agg #[vI a0.Lo, vI a0.Hi], .agg #[vI a1.Lo, vI a1.Hi]] w fun e w' => e = .returned (.agg #[vI r.Lo, vI r.Hi]) ∧ Below w.heap.size w w' := by
 refine k_enter (args := [.agg #[vI a0.Lo, vI a0.Hi], .agg #[vI a1.Lo, vI a1.Hi]]) 9 Tryz.func92 rfl (by kernel_rfl) (by kernel_rfl) fun a H => ?_
 unfold interval_Sub at G
 refine k_srk mixed H (.cons [2, 9] (ok_new (fun b => vP b 0) (fun u1 => [vI a0.Lo, vI a0.Hi]) 46 2 9) <|
 .cons [3, 10] (ok_new (fun b => vP b 0) (fun u1 => [vI a1.Lo, vI a1.Hi]) 46 3 10) <|
 .cons [4, 11] (ok_new (fun b => vP b 0) (fun u1 => [vI 0, vI 0]) 46 4 11) <| .nil) [2, 3, 4, 9, 10, 11] fun u1 a w' H => ?_
 obtain ⟨t3, ht3, G⟩ := bnd G
 obtain ⟨t4, ht4, G⟩ := bnd G
 refine k_srk mixed H (.cons [5] (ok_ldc (.agg #[vI a0.Lo, vI a0.Hi]) 5 9 0 2 ((u1 0).n 0) [vI a0.Lo, vI a0.Hi] 46) <|
 .cons [6] (ok_ldc (.agg #[vI a1.Lo, vI a1.Hi]) 6 10 0 2 ((u1 1).n 0) [vI a1.Lo, vI a1.Hi] 46) <|
 .cons [7] (ok_callv 110 _ _ 7 [] (fun u2 w _ => interval_Neg.calls a1  t3 w  ht3)) <|
 .cons [8] (ok_callv 90 _ _ 8 [] (fun u2 w _ => interval_Add.calls a0 t3  t4 w  ht4)) <|
 .cons [11] (ok_stc 11 0 ((u1 2).n 0) [vI 0, vI 0] [vI t4.Lo, vI t4.Hi] 46 [vI t4.Lo, vI t4.Hi]) <| .nil) [4, 11] fun u2 a w' H => ?_
 refine k_ret ?_
 obtain rfl := sj G
 exact k_done1 H _ 11 ((u1 2).n 0) [vI t4.Lo, vI t4.Hi] 46 0 2 (by kernel_rfl) (by kernel_rfl) (by kernel_rfl) (by kernel_rfl)
theorem interval_side.calls (a0 : TInterval) (r : Int) (w : World) (G : interval_side a0 = some r) :
  Calls Tryz.prog 136 #[.agg #[vI a0.Lo, vI a0.Hi]] w fun e w' => e = .returned (vI r) ∧ Below w.heap.size w w' := by
 refine k_enter (args := [.agg #[vI a0.Lo, vI a0.Hi]]) 11 Tryz.func136 rfl (by kernel_rfl) (by kernel_rfl) fun a H => ?_
 unfold interval_side at G
 refine k_srk mixed H (.cons [1, 11] (ok_new (fun b => vP b 0) (fun u1 => [vI a0.Lo, vI a0.Hi]) 46 1 11) <|
 .v 2 (vI 0) <| .nil) [1, 11] fun u1 a w' H => ?_
 refine k_seq ?_
 refine k_block ?_
 refine k_srk mixed H (.v 4 (vP ((u1 0).n 0) 1) <|
 .cons [5] (ok_ldc (vI a0.Hi) 5 11 1 1 ((u1 0).n 0) [vI a0.Lo, vI a0.Hi] 46) <|
 .v 6 (.bool (decide (a0.Hi ≤ 0))) <|
 .v 3 (.bool (decide (a0.Hi ≤ 0))) <| .nil) [1, 3, 11] fun u2 a w' H => ?_
 refine k_cnd H (decide (a0.Hi ≤ 0)) (fun c8 => ?_) fun c8 => ?_
 ·rw [if_pos c8] at G
  refine k_srk mixed H (.v 2 (vI 0) <| .nil) [2] fun u3 a w' H => ?_
  refine k_ret ?_
  obtain rfl := sj G
  exact k_done0 H _ (by kernel_rfl) (by kernel_rfl)
 ·rw [if_neg (nt c8)] at G
  refine k_srk mixed H (.v 8 (vP ((u1 0).n 0) 0) <|
 .cons [9] (ok_ldc (vI a0.Lo) 9 11 0 1 ((u1 0).n 0) [vI a0.Lo, vI a0.Hi] 46) <|
 .v 10 (.bool (decide (a0.Lo ≥ 0))) <|
 .v 7 (.bool (decide (a0.Lo ≥ 0))) <| .nil) [7] fun u4 a w' H => ?_
  refine k_cnd H (decide (a0.Lo ≥ 0)) (fun c7 => ?_) fun c7 => ?_
  ·rw [if_pos c7] at G
   refine k_srk mixed H (.v 2 (vI 2) <| .nil) [2] fun u5 a w' H => ?_
   refine k_ret ?_
   obtain rfl := sj G
   exact k_done0 H _ (by kernel_rfl) (by kernel_rfl)
  ·rw [if_neg (nt c7)] at G
   refine k_skip ?_
   refine k_srk mixed H (.v 2 (vI 1) <| .nil) [2] fun u6 a w' H => ?_
   refine k_ret ?_
   obtain rfl := sj G
   exact k_done0 H _ (by kernel_rfl) (by kernel_rfl)
theorem interval_hh.calls (a0 : TInterval) (a1 : TInterval) (r : Int × Int) (w : World) (G : interval_hh a0 a1 = some r) :
  Calls Tryz.prog 178 #[.agg #[vI a0.Lo, vI a0.Hi], .agg #[vI a1.Lo, vI a1.Hi]] w fun e w' => e = .returned (.tuple #[vI r.1, vI r.2]) ∧ Below w.heap.size w w' := by
 refine k_enter (args := [.agg #[vI a0.Lo, vI a0.Hi], .agg #[vI a1.Lo, vI a1.Hi]]) 10 Tryz.func178 rfl (by kernel_rfl) (by kernel_rfl) fun a H => ?_
 unfold interval_hh at G
 refine k_srk mixed H (.cons [2, 10] (ok_new (fun b => vP b 0) (fun u1 => [vI a0.Lo, vI a0.Hi]) 46 2 10) <|
 .cons [3, 11] (ok_new (fun b => vP b 0) (fun u1 => [vI a1.Lo, vI a1.Hi]) 46 3 11) <|
 .v 4 (vI 0) <|
 .v 5 (vI 0) <| .nil) [2, 3, 10, 11] fun u1 a w' H => ?_
 refine k_srk mixed H (.v 6 (vP ((u1 0).n 0) 1) <|
 .cons [7] (ok_ldc (vI a0.Hi) 7 10 1 1 ((u1 0).n 0) [vI a0.Lo, vI a0.Hi] 46) <|
 .v 8 (vP ((u1 1).n 0) 1) <|
 .cons [9] (ok_ldc (vI a1.Hi) 9 11 1 1 ((u1 1).n 0) [vI a1.Lo, vI a1.Hi] 46) <|
 .v 4 (vI a0.Hi) <|
 .v 5 (vI a1.Hi) <| .nil) [4, 5] fun u2 a w' H => ?_
 refine k_ret ?_
 obtain rfl := sj G
 exact k_done0 H _ (by kernel_rfl) (by kernel_rfl)
theorem interval_ll.calls (a0 : TInterval) (a1 : TInterval) (r : Int × Int) (w : World) (G : interval_ll a0 a1 = some r) :
  Calls Tryz.prog 179 #[.agg #[vI a0.Lo, vI a0.Hi], .agg #[vI a1.Lo, vI a1.Hi]] w fun e w' => e = .returned (.tuple #[vI r.1, vI r.2]) ∧ Below w.heap.size w w' := by
 refine k_enter (args := [.agg #[vI a0.Lo, vI a0.Hi], .agg #[vI a1.Lo, vI a1.Hi]]) 10 Tryz.func179 rfl (by kernel_rfl) (by kernel_rfl) fun a H => ?_
 unfold interval_ll at G
 refine k_srk mixed H (.cons [2, 10] (ok_new (fun b => vP b 0) (fun u1 => [vI a0.Lo, vI a0.Hi]) 46 2 10) <|
 .cons [3, 11] (ok_new (fun b => vP b 0) (fun u1 => [vI a1.Lo, vI a1.Hi]) 46 3 11) <|
 .v 4 (vI 0) <|
 .v 5 (vI 0) <| .nil) [2, 3, 10, 11] fun u1 a w' H => ?_
 refine k_srk mixed H (.v 6 (vP ((u1 0).n 0) 0) <|
 .cons [7] (ok_ldc (vI a0.Lo) 7 10 0 1 ((u1 0).n 0) [vI a0.Lo, vI a0.Hi] 46) <|
 .v 8 (vP ((u1 1).n 0) 0) <|
 .cons [9] (ok_ldc (vI a1.Lo) 9 11 0 1 ((u1 1).n 0) [vI a1.Lo, vI a1.Hi] 46) <|
 .v 4 (vI a0.Lo) <|
 .v 5 (vI a1.Lo) <| .nil) [4, 5] fun u2 a w' H => ?_
 refine k_ret ?_
 obtain rfl := sj G
 exact k_done0 H _ (by kernel_rfl) (by kernel_rfl)
theorem interval_lh.calls (a0 : TInterval) (a1 : TInterval) (r : Int × Int) (w : World) (G : interval_lh a0 a1 = some r) :
  Calls Tryz.prog 180 #[.agg #[vI a0.Lo, vI a0.Hi], .agg #[vI a1.Lo, vI a1.Hi]] w fun e w' => e = .returned (.tuple #[vI r.1, vI r.2]) ∧ Below w.heap.size w w' := by
 refine k_enter (args := [.agg #[vI a0.Lo, vI a0.Hi], .agg #[vI a1.Lo, vI a1.Hi]]) 10 Tryz.func180 rfl (by kernel_rfl) (by kernel_rfl) fun a H => ?_
 unfold interval_lh at G
 refine k_srk mixed H (.cons [2, 10] (ok_new (fun b => vP b 0) (fun u1 => [vI a0.Lo, vI a0.Hi]) 46 2 10) <|
 .cons [3, 11] (ok_new (fun b => vP b 0) (fun u1 => [vI a1.Lo, vI a1.Hi]) 46 3 11) <|
 .v 4 (vI 0) <|
 .v 5 (vI 0) <| .nil) [2, 3, 10, 11] fun u1 a w' H => ?_
 refine k_srk mixed H (.v 6 (vP ((u1 0).n 0) 0) <|
 .cons [7] (ok_ldc (vI a0.Lo) 7 10 0 1 ((u1 0).n 0) [vI a0.Lo, vI a0.Hi] 46) <|
 .v 8 (vP ((u1 1).n 0) 1) <|
 .cons [9] (ok_ldc (vI a1.Hi) 9 11 1 1 ((u1 1).n 0) [vI a1.Lo, vI a1.Hi] 46) <|
 .v 4 (vI a0.Lo) <|
 .v 5 (vI a1.Hi) <| .nil) [4, 5] fun u2 a w' H => ?_
 refine k_ret ?_
 obtain rfl := sj G
 exact k_done0 H _ (by kernel_rfl) (by kernel_rfl)
theorem interval_hl.calls (a0 : TInterval) (a1 : TInterval) (r : Int × Int) (w : World) (G : interval_hl a0 a1 = some r) :
  Calls Tryz.prog 181 #[.agg #[vI a0.Lo, vI a0.Hi], .agg #[vI a1.Lo, vI a1.Hi]] w fun e w' => e = .returned (.tuple #[vI r.1, vI r.2]) ∧ Below w.heap.size w w' := by
 refine k_enter (args := [.agg #[vI a0.Lo, vI a0.Hi], .agg #[vI a1.Lo, vI a1.Hi]]) 10 Tryz.func181 rfl (by kernel_rfl) (by kernel_rfl) fun a H => ?_
 unfold interval_hl at G
 refine k_srk mixed H (.cons [2, 10] (ok_new (fun b => vP b 0) (fun u1 => [vI a0.Lo, vI a0.Hi]) 46 2 10) <|
 .cons [3, 11] (ok_new (fun b => vP b 0) (fun u1 => [vI a1.Lo, vI a1.Hi]) 46 3 11) <|
 .v 4 (vI 0) <|
 .v 5 (vI 0) <| .nil) [2, 3, 10, 11] fun u1 a w' H => ?_
 refine k_srk mixed H (.v 6 (vP ((u1 0).n 0) 1) <|
 .cons [7] (ok_ldc (vI a0.Hi) 7 10 1 1 ((u1 0).n 0) [vI a0.Lo, vI a0.Hi] 46) <|
 .v 8 (vP ((u1 1).n 0) 0) <|
 .cons [9] (ok_ldc (vI a1.Lo) 9 11 0 1 ((u1 1).n 0) [vI a1.Lo, vI a1.Hi] 46) <|
 .v 4 (vI a0.Hi) <|
 .v 5 (vI a1.Lo) <| .nil) [4, 5] fun u2 a w' H => ?_
 refine k_ret ?_
 obtain rfl := sj G
 exact k_done0 H _ (by kernel_rfl) (by kernel_rfl)
theorem interval_Mul.calls (a0 : TInterval) (a1 : TInterval) (r : TInterval) (w : World) (hg : Glob w) (G : interval_Mul a0 a1 = some r) :
  Calls Tryz.prog 127 #[.agg #[vI a0.Lo, vI a0.Hi], .agg #[vI a1.Lo, vI a1.Hi]] w fun e w' => e = .returned (.agg #[vI r.Lo, vI r.Hi]) ∧ Below w.heap.size w w' := by
 refine k_enterG (args := [.agg #[vI a0.Lo, vI a0.Hi], .agg #[vI a1.Lo, vI a1.Hi]]) 106 999999 globFp Glob (glob_local hg) (glob_in hg) Tryz.func127 rfl (by kernel_rfl) (by kernel_rfl) fun a H => ?_
 unfold interval_Mul at G
 refine k_srk mixed H (.cons [2, 106] (ok_new (fun b => vP b 0) (fun u1 => [vI a0.Lo, vI a0.Hi]) 46 2 106) <|
 .cons [3, 107] (ok_new (fun b => vP b 0) (fun u1 => [vI a1.Lo, vI a1.Hi]) 46 3 107) <|
 .cons [4, 108] (ok_new (fun b => vP b 0) (fun u1 => [vI 0, vI 0]) 46 4 108) <| .nil) [2, 3, 4, 106, 107, 108, 999999] fun u1 a w' H => ?_
 refine k_seq ?_
 replace G := bnd G; obtain ⟨t3, ht3, G⟩ := G
 replace G := bnd G; obtain ⟨t4, ht4, G⟩ := G
 refine k_srk mixed H (.cons [20] (ok_ldc (.agg #[vI a0.Lo, vI a0.Hi]) 20 106 0 2 ((u1 0).n 0) [vI a0.Lo, vI a0.Hi] 46) <|
 .cons [21] (ok_callv 21 _ _ 21 [] (fun u2 w _ => interval_IsEntire.calls a0  t3 w  ht3)) <|
 .v 22 (.bool t3) <|
 .cons [23] (ok_ldg (fun u2 => .agg #[vI a1.Lo, vI a1.Hi]) (fun u2 => (t3 == false)) [true] 23 107 0 2 (fun u2 => ((u1 1).n 0)) (fun u2 => [vI a1.Lo, vI a1.Hi]) 46) <|
 .cons [24] (ok_call 21 (fun u2 => #[.agg #[vI a1.Lo, vI a1.Hi]]) (.bool t4) (fun u2 => (t3 == false)) [true, false] 24 [] (fun u2 w hg _ => interval_IsEntire.calls a1  t4 w  (ifp ht4 hg))) <|
 .cons [25] (ok_or 22 24 (fun u2 => true) (fun u2 => true) (fun u2 => t3) (fun u2 => t4) 25) <| .nil) [2, 3, 4, 25, 106, 107, 108, 999999] fun u2 a w' H => ?_
 refine k_cnd H (t3 || t4) (fun c107 => ?_) fun c107 => ?_
 ·rw [if_pos c107] at G
  replace G := bnd G; obtain ⟨t6, ht6, G⟩ := G
  refine k_srk mixed H (.cons [26] (ok_callv 48 _ _ 26 [] (fun u5 w _ => interval_Entire.calls   t6 w  ht6)) <|
 .cons [108] (ok_stc 108 0 ((u1 2).n 0) [vI 0, vI 0] [vI t6.Lo, vI t6.Hi] 46 [vI t6.Lo, vI t6.Hi]) <| .nil) [4, 108, 999999] fun u5 a w' H => ?_
  refine k_ret ?_
  obtain rfl := sj G
  exact k_done1 H _ 108 ((u1 2).n 0) [vI t6.Lo, vI t6.Hi] 46 0 2 (by kernel_rfl) (by kernel_rfl) (by kernel_rfl) (by kernel_rfl)
 ·rw [if_neg (nt c107)] at G
  refine k_skip ?_
  replace G := bnd G; obtain ⟨t8, ht8, G⟩ := G
  replace G := bnd G; obtain ⟨t9, ht9, G⟩ := G
  refine k_srk mixed H (.cons [27] (ok_ldc (.agg #[vI a0.Lo, vI a0.Hi]) 27 106 0 2 ((u1 0).n 0) [vI a0.Lo, vI a0.Hi] 46) <|
 .cons [28] (ok_callv 136 _ _ 28 [] (fun u7 w _ => interval_side.calls a0  t8 w  ht8)) <|
 .cons [29] (ok_ldc (.agg #[vI a1.Lo, vI a1.Hi]) 29 107 0 2 ((u1 1).n 0) [vI a1.Lo, vI a1.Hi] 46) <|
 .cons [30] (ok_callv 136 _ _ 30 [] (fun u7 w _ => interval_side.calls a1  t9 w  ht9)) <|
 .v 5 (vI t8) <|
 .v 6 (vI t9) <| .nil) [2, 3, 4, 5, 6, 106, 107, 108, 999999] fun u7 a w' H => ?_
  refine k_seq ?_
  refine k_srk mixed H (.v 31 (vI t8) <|
 .v 32 (.bool (t8 == 1)) <|
 .v 33 (.bool (t8 == 1)) <|
 .cons [34] (ok_valg (fun u10 => vI t9) (fun u10 => ((t8 == 1) == true)) [true] 34) <|
 .cons [35] (ok_valg (fun u10 => .bool (t9 == 1)) (fun u10 => ((t8 == 1) == true)) [false, true] 35) <|
 .cons [36] (ok_and 33 35 (fun u10 => true) (fun u10 => true) (fun u10 => (t8 == 1)) (fun u10 => (t9 == 1)) 36) <| .nil) [2, 3, 4, 5, 6, 36, 106, 107, 108, 999999] fun u10 a w' H => ?_
  refine k_cnd H ((t8 == 1) && (t9 == 1)) (fun c106 => ?_) fun c106 => ?_
  ·rw [if_pos c106] at G
   replace G := bnd G; obtain ⟨t12, ht12, G⟩ := G
   refine k_srk mixed H (.v 38 (vP ((u1 0).n 0) 0) <|
 .cons [39] (ok_ldc (vI a0.Lo) 39 106 0 1 ((u1 0).n 0) [vI a0.Lo, vI a0.Hi] 46) <|
 .v 40 (vP ((u1 1).n 0) 1) <|
 .cons [41] (ok_ldc (vI a1.Hi) 41 107 1 1 ((u1 1).n 0) [vI a1.Lo, vI a1.Hi] 46) <|
 .cons [42] (ok_callv 54 _ _ 42 [] (fun u11 w _ => fixed_Mul.calls a0.Lo a1.Hi  t12 w  ht12)) <|
 .v 37 (.tuple #[vI t12.1, vI t12.2]) <|
 .v 43 (vI t12.1) <|
 .v 44 (vI t12.2) <|
 .v 7 (vI t12.1) <|
 .v 8 (vI t12.2) <| .nil) [2, 3, 4, 7, 106, 107, 108, 999999] fun u11 a w' H => ?_
   replace G := bnd G; obtain ⟨t14, ht14, G⟩ := G
   refine k_srk mixed H (.v 46 (vP ((u1 0).n 0) 1) <|
 .cons [47] (ok_ldc (vI a0.Hi) 47 106 1 1 ((u1 0).n 0) [vI a0.Lo, vI a0.Hi] 46) <|
 .v 48 (vP ((u1 1).n 0) 0) <|
 .cons [49] (ok_ldc (vI a1.Lo) 49 107 0 1 ((u1 1).n 0) [vI a1.Lo, vI a1.Hi] 46) <|
 .cons [50] (ok_callv 54 _ _ 50 [] (fun u13 w _ => fixed_Mul.calls a0.Hi a1.Lo  t14 w  ht14)) <|
 .v 45 (.tuple #[vI t14.1, vI t14.2]) <|
 .v 51 (vI t14.1) <|
 .v 52 (vI t14.2) <|
 .v 9 (vI t14.1) <|
 .v 10 (vI t14.2) <| .nil) [2, 3, 4, 7, 9, 106, 107, 108, 999999] fun u13 a w' H => ?_
   replace G := bnd G; obtain ⟨t16, ht16, G⟩ := G
   refine k_srk mixed H (.v 54 (vP ((u1 0).n 0) 0) <|
 .cons [55] (ok_ldc (vI a0.Lo) 55 106 0 1 ((u1 0).n 0) [vI a0.Lo, vI a0.Hi] 46) <|
 .v 56 (vP ((u1 1).n 0) 0) <|
 .cons [57] (ok_ldc (vI a1.Lo) 57 107 0 1 ((u1 1).n 0) [vI a1.Lo, vI a1.Hi] 46) <|
 .cons [58] (ok_callv 54 _ _ 58 [] (fun u15 w _ => fixed_Mul.calls a0.Lo a1.Lo  t16 w  ht16)) <|
 .v 53 (.tuple #[vI t16.1, vI t16.2]) <|
 .v 59 (vI t16.1) <|
 .v 60 (vI t16.2) <|
 .v 11 (vI t16.1) <|
 .v 12 (vI t16.2) <| .nil) [2, 3, 4, 7, 9, 12, 106, 107, 108, 999999] fun u15 a w' H => ?_
   replace G := bnd G; obtain ⟨t18, ht18, G⟩ := G
   refine k_srg mixed H (.v 62 (vP ((u1 0).n 0) 1) <|
 .cons [63] (ok_ldc (vI a0.Hi) 63 106 1 1 ((u1 0).n 0) [vI a0.Lo, vI a0.Hi] 46) <|
 .v 64 (vP ((u1 1).n 0) 1) <|
 .cons [65] (ok_ldc (vI a1.Hi) 65 107 1 1 ((u1 1).n 0) [vI a1.Lo, vI a1.Hi] 46) <|
 .cons [66] (ok_callv 54 _ _ 66 [] (fun u17 w _ => fixed_Mul.calls a0.Hi a1.Hi  t18 w  ht18)) <|
 .v 61 (.tuple #[vI t18.1, vI t18.2]) <|
 .v 67 (vI t18.1) <|
 .v 68 (vI t18.2) <|
 .v 13 (vI t18.1) <|
 .v 14 (vI t18.2) <| .nil) fun u17 a w' H => ?_
   replace H := H.toM [(4, (sP ((u1 2).n 0) 0)), (7, sI t12.1), (9, sI t14.1), (12, sI t16.2), (14, sI t18.2), (108, .blk ((u1 2).n 0) [vI 0, vI 0] 46), (999999, gk)]
   replace G := bnd G; obtain ⟨t20, ht20, G⟩ := G
   refine k_srk mixed H (.v 69 (vI t12.1) <|
 .v 70 (vI t14.1) <|
 .v 71 (vI (mn t12.1 t14.1)) <|
 .v 72 (vI t16.2) <|
 .v 73 (vI t18.2) <|
 .v 74 (vI (mx t16.2 t18.2)) <|
 .cons [75] (ok_callv 68 _ _ 75 [] (fun u19 w _ => interval_New.calls (mn t12.1 t14.1) (mx t16.2 t18.2)  t20 w  ht20)) <|
 .cons [108] (ok_stc 108 0 ((u1 2).n 0) [vI 0, vI 0] [vI t20.Lo, vI t20.Hi] 46 [vI t20.Lo, vI t20.Hi]) <| .nil) [4, 108, 999999] fun u19 a w' H => ?_
   refine k_ret ?_
   obtain rfl := sj G
   exact k_done1 H _ 108 ((u1 2).n 0) [vI t20.Lo, vI t20.Hi] 46 0 2 (by kernel_rfl) (by kernel_rfl) (by kernel_rfl) (by kernel_rfl)
  ·rw [if_neg (nt c106)] at G
   refine k_skip ?_
   refine k_seq ?_
   by_cases c103 : t8 = 0
   ·rw [if_pos c103] at G; subst c103
    by_cases c48 : t9 = 0
    ·rw [if_pos c48] at G; subst c48
     refine k_rk mixed H (.v 76 (vI 0) <|
 .v 77 (vI 0) <|
 .v 78 (vP 0 0) <|
 .v 79 (vP 0 0) <|
 .cons [80] (ok_ldK (fun u21 => .agg #[.func (.func 178) #[] #[], .func (.func 179) #[] #[]]) 80 999999 gk 0 0 2 gTab0 (fun w h => (glob_of h).tab0)) <|
 .cons [15, 109] (ok_new (fun b => vP b 0) (fun u21 => [.nilFunc, .nilFunc]) 226 15 109) <|
 .cons [109] (ok_as (u' := fun u21 => [(109, .blk ((u21 5).n 0) [.func (.func 178) #[] #[], .func (.func 179) #[] #[]] 226)]) (ok_store 109 0 (fun u21 => ((u21 5).n 0)) (fun u21 => [.nilFunc, .nilFunc]) (fun u21 => [.func (.func 178) #[] #[], .func (.func 179) #[] #[]]) 226) (fun _ => by kernel_rfl)) <| .nil) [2, 3, 4, 15, 106, 107, 108, 109, 999999] fun u21 a w' H => ?_
     replace G := bnd G; obtain ⟨t23, ht23, G⟩ := G
     replace G := bnd G; obtain ⟨t24, ht24, G⟩ := G
     refine k_srk mixed H (.v 82 (vP ((u21 5).n 0) 0) <|
 .cons [83] (ok_ldc (.func (.func 178) #[] #[]) 83 109 0 1 ((u21 5).n 0) [.func (.func 178) #[] #[], .func (.func 179) #[] #[]] 226) <|
 .cons [84] (ok_ldc (.agg #[vI a0.Lo, vI a0.Hi]) 84 106 0 2 ((u1 0).n 0) [vI a0.Lo, vI a0.Hi] 46) <|
 .cons [85] (ok_ldc (.agg #[vI a1.Lo, vI a1.Hi]) 85 107 0 2 ((u1 1).n 0) [vI a1.Lo, vI a1.Hi] 46) <|
 .cons [86] (ok_callv 178 _ _ 86 [] (fun u22 w _ => interval_hh.calls a0 a1  t23 w  ht23)) <|
 .v 87 (vI t23.1) <|
 .v 88 (vI t23.2) <|
 .cons [89] (ok_callv 54 _ _ 89 [] (fun u22 w _ => fixed_Mul.calls t23.1 t23.2  t24 w  ht24)) <|
 .v 81 (.tuple #[vI t24.1, vI t24.2]) <|
 .v 90 (vI t24.1) <|
 .v 91 (vI t24.2) <|
 .v 16 (vI t24.1) <|
 .v 17 (vI t24.2) <| .nil) [2, 3, 4, 15, 16, 106, 107, 108, 109, 999999] fun u22 a w' H => ?_
     replace G := bnd G; obtain ⟨t26, ht26, G⟩ := G
     replace G := bnd G; obtain ⟨t27, ht27, G⟩ := G
     refine k_srk mixed H (.v 93 (vP ((u21 5).n 0) 1) <|
 .cons [94] (ok_ldc (.func (.func 179) #[] #[]) 94 109 1 1 ((u21 5).n 0) [.func (.func 178) #[] #[], .func (.func 179) #[] #[]] 226) <|
 .cons [95] (ok_ldc (.agg #[vI a0.Lo, vI a0.Hi]) 95 106 0 2 ((u1 0).n 0) [vI a0.Lo, vI a0.Hi] 46) <|
 .cons [96] (ok_ldc (.agg #[vI a1.Lo, vI a1.Hi]) 96 107 0 2 ((u1 1).n 0) [vI a1.Lo, vI a1.Hi] 46) <|
 .cons [97] (ok_callv 179 _ _ 97 [] (fun u25 w _ => interval_ll.calls a0 a1  t26 w  ht26)) <|
 .v 98 (vI t26.1) <|
 .v 99 (vI t26.2) <|
 .cons [100] (ok_callv 54 _ _ 100 [] (fun u25 w _ => fixed_Mul.calls t26.1 t26.2  t27 w  ht27)) <|
 .v 92 (.tuple #[vI t27.1, vI t27.2]) <|
 .v 101 (vI t27.1) <|
 .v 102 (vI t27.2) <|
 .v 18 (vI t27.1) <|
 .v 19 (vI t27.2) <| .nil) [4, 16, 19, 108, 999999] fun u25 a w' H => ?_
     replace G := bnd G; obtain ⟨t29, ht29, G⟩ := G
     refine k_srk mixed H (.v 103 (vI t24.1) <|
 .v 104 (vI t27.2) <|
 .cons [105] (ok_callv 68 _ _ 105 [] (fun u28 w _ => interval_New.calls t24.1 t27.2  t29 w  ht29)) <|
 .cons [108] (ok_stc 108 0 ((u1 2).n 0) [vI 0, vI 0] [vI t29.Lo, vI t29.Hi] 46 [vI t29.Lo, vI t29.Hi]) <| .nil) [4, 108, 999999] fun u28 a w' H => ?_
     refine k_ret ?_
     obtain rfl := sj G
     exact k_done1 H _ 108 ((u1 2).n 0) [vI t29.Lo, vI t29.Hi] 46 0 2 (by kernel_rfl) (by kernel_rfl) (by kernel_rfl) (by kernel_rfl)
    rw [if_neg c48] at G
    by_cases c49 : t9 = 1
    ·rw [if_pos c49] at G; subst c49
     refine k_rk mixed H (.v 76 (vI 0) <|
 .v 77 (vI 1) <|
 .v 78 (vP 0 0) <|
 .v 79 (vP 0 2) <|
 .cons [80] (ok_ldK (fun u30 => .agg #[.func (.func 180) #[] #[], .func (.func 179) #[] #[]]) 80 999999 gk 0 2 2 gTab0 (fun w h => (glob_of h).tab0)) <|
 .cons [15, 110] (ok_new (fun b => vP b 0) (fun u30 => [.nilFunc, .nilFunc]) 226 15 110) <|
 .cons [110] (ok_as (u' := fun u30 => [(110, .blk ((u30 5).n 0) [.func (.func 180) #[] #[], .func (.func 179) #[] #[]] 226)]) (ok_store 110 0 (fun u30 => ((u30 5).n 0)) (fun u30 => [.nilFunc, .nilFunc]) (fun u30 => [.func (.func 180) #[] #[], .func (.func 179) #[] #[]]) 226) (fun _ => by kernel_rfl)) <| .nil) [2, 3, 4, 15, 106, 107, 108, 110, 999999] fun u30 a w' H => ?_
     replace G := bnd G; obtain ⟨t32, ht32, G⟩ := G
     replace G := bnd G; obtain ⟨t33, ht33, G⟩ := G
     refine k_srk mixed H (.v 82 (vP ((u30 5).n 0) 0) <|
 .cons [83] (ok_ldc (.func (.func 180) #[] #[]) 83 110 0 1 ((u30 5).n 0) [.func (.func 180) #[] #[], .func (.func 179) #[] #[]] 226) <|
 .cons [84] (ok_ldc (.agg #[vI a0.Lo, vI a0.Hi]) 84 106 0 2 ((u1 0).n 0) [vI a0.Lo, vI a0.Hi] 46) <|
 .cons [85] (ok_ldc (.agg #[vI a1.Lo, vI a1.Hi]) 85 107 0 2 ((u1 1).n 0) [vI a1.Lo, vI a1.Hi] 46) <|
 .cons [86] (ok_callv 180 _ _ 86 [] (fun u31 w _ => interval_lh.calls a0 a1  t32 w  ht32)) <|
 .v 87 (vI t32.1) <|
 .v 88 (vI t32.2) <|
 .cons [89] (ok_callv 54 _ _ 89 [] (fun u31 w _ => fixed_Mul.calls t32.1 t32.2  t33 w  ht33)) <|
 .v 81 (.tuple #[vI t33.1, vI t33.2]) <|
 .v 90 (vI t33.1) <|
 .v 91 (vI t33.2) <|
 .v 16 (vI t33.1) <|
 .v 17 (vI t33.2) <| .nil) [2, 3, 4, 15, 16, 106, 107, 108, 110, 999999] fun u31 a w' H => ?_
     replace G := bnd G; obtain ⟨t35, ht35, G⟩ := G
     replace G := bnd G; obtain ⟨t36, ht36, G⟩ := G
     refine k_srk mixed H (.v 93 (vP ((u30 5).n 0) 1) <|
 .cons [94] (ok_ldc (.func (.func 179) #[] #[]) 94 110 1 1 ((u30 5).n 0) [.func (.func 180) #[] #[], .func (.func 179) #[] #[]] 226) <|
 .cons [95] (ok_ldc (.agg #[vI a0.Lo, vI a0.Hi]) 95 106 0 2 ((u1 0).n 0) [vI a0.Lo, vI a0.Hi] 46) <|
 .cons [96] (ok_ldc (.agg #[vI a1.Lo, vI a1.Hi]) 96 107 0 2 ((u1 1).n 0) [vI a1.Lo, vI a1.Hi] 46) <|
 .cons [97] (ok_callv 179 _ _ 97 [] (fun u34 w _ => interval_ll.calls a0 a1  t35 w  ht35)) <|
 .v 98 (vI t35.1) <|
 .v 99 (vI t35.2) <|
 .cons [100] (ok_callv 54 _ _ 100 [] (fun u34 w _ => fixed_Mul.calls t35.1 t35.2  t36 w  ht36)) <|
 .v 92 (.tuple #[vI t36.1, vI t36.2]) <|
 .v 101 (vI t36.1) <|
 .v 102 (vI t36.2) <|
 .v 18 (vI t36.1) <|
 .v 19 (vI t36.2) <| .nil) [4, 16, 19, 108, 999999] fun u34 a w' H => ?_
     replace G := bnd G; obtain ⟨t38, ht38, G⟩ := G
     refine k_srg mixed H (.v 103 (vI t33.1) <|
 .v 104 (vI t36.2) <|
 .cons [105] (ok_callv 68 _ _ 105 [] (fun u37 w _ => interval_New.calls t33.1 t36.2  t38 w  ht38)) <|
 .cons [108] (ok_stc 108 0 ((u1 2).n 0) [vI 0, vI 0] [vI t38.Lo, vI t38.Hi] 46 [vI t38.Lo, vI t38.Hi]) <| .nil) fun u37 a w' H => ?_
     replace H := H.toM [(4, (sP ((u1 2).n 0) 0)), (108, .blk ((u1 2).n 0) [vI t38.Lo, vI t38.Hi] 46), (999999, gk)]
     refine k_ret ?_
     obtain rfl := sj G
     exact k_done1 H _ 108 ((u1 2).n 0) [vI t38.Lo, vI t38.Hi] 46 0 2 (by kernel_rfl) (by kernel_rfl) (by kernel_rfl) (by kernel_rfl)
    rw [if_neg c49] at G
    by_cases c50 : t9 = 2
    ·rw [if_pos c50] at G; subst c50
     refine k_rk mixed H (.v 76 (vI 0) <|
 .v 77 (vI 2) <|
 .v 78 (vP 0 0) <|
 .v 79 (vP 0 4) <|
 .cons [80] (ok_ldK (fun u39 => .agg #[.func (.func 180) #[] #[], .func (.func 181) #[] #[]]) 80 999999 gk 0 4 2 gTab0 (fun w h => (glob_of h).tab0)) <|
 .cons [15, 111] (ok_new (fun b => vP b 0) (fun u39 => [.nilFunc, .nilFunc]) 226 15 111) <|
 .cons [111] (ok_as (u' := fun u39 => [(111, .blk ((u39 5).n 0) [.func (.func 180) #[] #[], .func (.func 181) #[] #[]] 226)]) (ok_store 111 0 (fun u39 => ((u39 5).n 0)) (fun u39 => [.nilFunc, .nilFunc]) (fun u39 => [.func (.func 180) #[] #[], .func (.func 181) #[] #[]]) 226) (fun _ => by kernel_rfl)) <| .nil) [2, 3, 4, 15, 106, 107, 108, 111, 999999] fun u39 a w' H => ?_
     replace G := bnd G; obtain ⟨t41, ht41, G⟩ := G
     replace G := bnd G; obtain ⟨t42, ht42, G⟩ := G
     refine k_srk mixed H (.v 82 (vP ((u39 5).n 0) 0) <|
 .cons [83] (ok_ldc (.func (.func 180) #[] #[]) 83 111 0 1 ((u39 5).n 0) [.func (.func 180) #[] #[], .func (.func 181) #[] #[]] 226) <|
 .cons [84] (ok_ldc (.agg #[vI a0.Lo, vI a0.Hi]) 84 106 0 2 ((u1 0).n 0) [vI a0.Lo, vI a0.Hi] 46) <|
 .cons [85] (ok_ldc (.agg #[vI a1.Lo, vI a1.Hi]) 85 107 0 2 ((u1 1).n 0) [vI a1.Lo, vI a1.Hi] 46) <|
 .cons [86] (ok_callv 180 _ _ 86 [] (fun u40 w _ => interval_lh.calls a0 a1  t41 w  ht41)) <|
 .v 87 (vI t41.1) <|
 .v 88 (vI t41.2) <|
 .cons [89] (ok_callv 54 _ _ 89 [] (fun u40 w _ => fixed_Mul.calls t41.1 t41.2  t42 w  ht42)) <|
 .v 81 (.tuple #[vI t42.1, vI t42.2]) <|
 .v 90 (vI t42.1) <|
 .v 91 (vI t42.2) <|
 .v 16 (vI t42.1) <|
 .v 17 (vI t42.2) <| .nil) [2, 3, 4, 15, 16, 106, 107, 108, 111, 999999] fun u40 a w' H => ?_
     replace G := bnd G; obtain ⟨t44, ht44, G⟩ := G
     replace G := bnd G; obtain ⟨t45, ht45, G⟩ := G
     refine k_srk mixed H (.v 93 (vP ((u39 5).n 0) 1) <|
 .cons [94] (ok_ldc (.func (.func 181) #[] #[]) 94 111 1 1 ((u39 5).n 0) [.func (.func 180) #[] #[], .func (.func 181) #[] #[]] 226) <|
 .cons [95] (ok_ldc (.agg #[vI a0.Lo, vI a0.Hi]) 95 106 0 2 ((u1 0).n 0) [vI a0.Lo, vI a0.Hi] 46) <|
 .cons [96] (ok_ldc (.agg #[vI a1.Lo, vI a1.Hi]) 96 107 0 2 ((u1 1).n 0) [vI a1.Lo, vI a1.Hi] 46) <|
 .cons [97] (ok_callv 181 _ _ 97 [] (fun u43 w _ => interval_hl.calls a0 a1  t44 w  ht44)) <|
 .v 98 (vI t44.1) <|
 .v 99 (vI t44.2) <|
 .cons [100] (ok_callv 54 _ _ 100 [] (fun u43 w _ => fixed_Mul.calls t44.1 t44.2  t45 w  ht45)) <|
 .v 92 (.tuple #[vI t45.1, vI t45.2]) <|
 .v 101 (vI t45.1) <|
 .v 102 (vI t45.2) <|
 .v 18 (vI t45.1) <|
 .v 19 (vI t45.2) <| .nil) [4, 16, 19, 108, 999999] fun u43 a w' H => ?_
     replace G := bnd G; obtain ⟨t47, ht47, G⟩ := G
     refine k_srk mixed H (.v 103 (vI t42.1) <|
 .v 104 (vI t45.2) <|
 .cons [105] (ok_callv 68 _ _ 105 [] (fun u46 w _ => interval_New.calls t42.1 t45.2  t47 w  ht47)) <|
 .cons [108] (ok_stc 108 0 ((u1 2).n 0) [vI 0, vI 0] [vI t47.Lo, vI t47.Hi] 46 [vI t47.Lo, vI t47.Hi]) <| .nil) [4, 108, 999999] fun u46 a w' H => ?_
     refine k_ret ?_
     obtain rfl := sj G
     exact k_done1 H _ 108 ((u1 2).n 0) [vI t47.Lo, vI t47.Hi] 46 0 2 (by kernel_rfl) (by kernel_rfl) (by kernel_rfl) (by kernel_rfl)
    rw [if_neg c50] at G
    cases G
   rw [if_neg c103] at G
   by_cases c104 : t8 = 1
   ·rw [if_pos c104] at G; subst c104
    by_cases c70 : t9 = 0
    ·rw [if_pos c70] at G; subst c70
     refine k_rk mixed H (.v 76 (vI 1) <|
 .v 77 (vI 0) <|
 .v 78 (vP 0 6) <|
 .v 79 (vP 0 6) <|
 .cons [80] (ok_ldK (fun u51 => .agg #[.func (.func 181) #[] #[], .func (.func 179) #[] #[]]) 80 999999 gk 0 6 2 gTab0 (fun w h => (glob_of h).tab0)) <|
 .cons [15, 112] (ok_new (fun b => vP b 0) (fun u51 => [.nilFunc, .nilFunc]) 226 15 112) <|
 .cons [112] (ok_as (u' := fun u51 => [(112, .blk ((u51 5).n 0) [.func (.func 181) #[] #[], .func (.func 179) #[] #[]] 226)]) (ok_store 112 0 (fun u51 => ((u51 5).n 0)) (fun u51 => [.nilFunc, .nilFunc]) (fun u51 => [.func (.func 181) #[] #[], .func (.func 179) #[] #[]]) 226) (fun _ => by kernel_rfl)) <| .nil) [2, 3, 4, 15, 106, 107, 108, 112, 999999] fun u51 a w' H => ?_
     replace G := bnd G; obtain ⟨t53, ht53, G⟩ := G
     replace G := bnd G; obtain ⟨t54, ht54, G⟩ := G
     refine k_srk mixed H (.v 82 (vP ((u51 5).n 0) 0) <|
 .cons [83] (ok_ldc (.func (.func 181) #[] #[]) 83 112 0 1 ((u51 5).n 0) [.func (.func 181) #[] #[], .func (.func 179) #[] #[]] 226) <|
 .cons [84] (ok_ldc (.agg #[vI a0.Lo, vI a0.Hi]) 84 106 0 2 ((u1 0).n 0) [vI a0.Lo, vI a0.Hi] 46) <|
 .cons [85] (ok_ldc (.agg #[vI a1.Lo, vI a1.Hi]) 85 107 0 2 ((u1 1).n 0) [vI a1.Lo, vI a1.Hi] 46) <|
 .cons [86] (ok_callv 181 _ _ 86 [] (fun u52 w _ => interval_hl.calls a0 a1  t53 w  ht53)) <|
 .v 87 (vI t53.1) <|
 .v 88 (vI t53.2) <|
 .cons [89] (ok_callv 54 _ _ 89 [] (fun u52 w _ => fixed_Mul.calls t53.1 t53.2  t54 w  ht54)) <|
 .v 81 (.tuple #[vI t54.1, vI t54.2]) <|
 .v 90 (vI t54.1) <|
 .v 91 (vI t54.2) <|
 .v 16 (vI t54.1) <|
 .v 17 (vI t54.2) <| .nil) [2, 3, 4, 15, 16, 106, 107, 108, 112, 999999] fun u52 a w' H => ?_
     replace G := bnd G; obtain ⟨t56, ht56, G⟩ := G
     replace G := bnd G; obtain ⟨t57, ht57, G⟩ := G
     refine k_srk mixed H (.v 93 (vP ((u51 5).n 0) 1) <|
 .cons [94] (ok_ldc (.func (.func 179) #[] #[]) 94 112 1 1 ((u51 5).n 0) [.func (.func 181) #[] #[], .func (.func 179) #[] #[]] 226) <|
 .cons [95] (ok_ldc (.agg #[vI a0.Lo, vI a0.Hi]) 95 106 0 2 ((u1 0).n 0) [vI a0.Lo, vI a0.Hi] 46) <|
 .cons [96] (ok_ldc (.agg #[vI a1.Lo, vI a1.Hi]) 96 107 0 2 ((u1 1).n 0) [vI a1.Lo, vI a1.Hi] 46) <|
 .cons [97] (ok_callv 179 _ _ 97 [] (fun u55 w _ => interval_ll.calls a0 a1  t56 w  ht56)) <|
 .v 98 (vI t56.1) <|
 .v 99 (vI t56.2) <|
 .cons [100] (ok_callv 54 _ _ 100 [] (fun u55 w _ => fixed_Mul.calls t56.1 t56.2  t57 w  ht57)) <|
 .v 92 (.tuple #[vI t57.1, vI t57.2]) <|
 .v 101 (vI t57.1) <|
 .v 102 (vI t57.2) <|
 .v 18 (vI t57.1) <|
 .v 19 (vI t57.2) <| .nil) [4, 16, 19, 108, 999999] fun u55 a w' H => ?_
     replace G := bnd G; obtain ⟨t59, ht59, G⟩ := G
     refine k_srk mixed H (.v 103 (vI t54.1) <|
 .v 104 (vI t57.2) <|
 .cons [105] (ok_callv 68 _ _ 105 [] (fun u58 w _ => interval_New.calls t54.1 t57.2  t59 w  ht59)) <|
 .cons [108] (ok_stc 108 0 ((u1 2).n 0) [vI 0, vI 0] [vI t59.Lo, vI t59.Hi] 46 [vI t59.Lo, vI t59.Hi]) <| .nil) [4, 108, 999999] fun u58 a w' H => ?_
     refine k_ret ?_
     obtain rfl := sj G
     exact k_done1 H _ 108 ((u1 2).n 0) [vI t59.Lo, vI t59.Hi] 46 0 2 (by kernel_rfl) (by kernel_rfl) (by kernel_rfl) (by kernel_rfl)
    rw [if_neg c70] at G
    by_cases c71 : t9 = 1
    ·rw [if_pos c71] at G; subst c71
     refine k_rg mixed H (.v 76 (vI 1) <|
 .v 77 (vI 1) <|
 .v 78 (vP 0 6) <|
 .v 79 (vP 0 8) <|
 .cons [80] (ok_ldK (fun u60 => .agg #[.nilFunc, .nilFunc]) 80 999999 gk 0 8 2 gTab0 (fun w h => (glob_of h).tab0)) <|
 .cons [15, 113] (ok_new (fun b => vP b 0) (fun u60 => [.nilFunc, .nilFunc]) 226 15 113) <|
 .cons [113] (ok_as (u' := fun u60 => [(113, .blk ((u60 5).n 0) [.nilFunc, .nilFunc] 226)]) (ok_store 113 0 (fun u60 => ((u60 5).n 0)) (fun u60 => [.nilFunc, .nilFunc]) (fun u60 => [.nilFunc, .nilFunc]) 226) (fun _ => by kernel_rfl)) <| .nil) fun u60 a w' H => ?_
     replace H := H.toM [(2, (sP ((u1 0).n 0) 0)), (3, (sP ((u1 1).n 0) 0)), (4, (sP ((u1 2).n 0) 0)), (15, (sP ((u60 5).n 0) 0)), (106, .blk ((u1 0).n 0) [vI a0.Lo, vI a0.Hi] 46), (107, .blk ((u1 1).n 0) [vI a1.Lo, vI a1.Hi] 46), (108, .blk ((u1 2).n 0) [vI 0, vI 0] 46), (113, .blk ((u60 5).n 0) [.nilFunc, .nilFunc] 226), (999999, gk)]
     refine k_seq ?_
     cases G
    rw [if_neg c71] at G
    by_cases c72 : t9 = 2
    ·rw [if_pos c72] at G; subst c72
     refine k_rk mixed H (.v 76 (vI 1) <|
 .v 77 (vI 2) <|
 .v 78 (vP 0 6) <|
 .v 79 (vP 0 10) <|
 .cons [80] (ok_ldK (fun u61 => .agg #[.func (.func 180) #[] #[], .func (.func 178) #[] #[]]) 80 999999 gk 0 10 2 gTab0 (fun w h => (glob_of h).tab0)) <|
 .cons [15, 114] (ok_new (fun b => vP b 0) (fun u61 => [.nilFunc, .nilFunc]) 226 15 114) <|
 .cons [114] (ok_as (u' := fun u61 => [(114, .blk ((u61 5).n 0) [.func (.func 180) #[] #[], .func (.func 178) #[] #[]] 226)]) (ok_store 114 0 (fun u61 => ((u61 5).n 0)) (fun u61 => [.nilFunc, .nilFunc]) (fun u61 => [.func (.func 180) #[] #[], .func (.func 178) #[] #[]]) 226) (fun _ => by kernel_rfl)) <| .nil) [2, 3, 4, 15, 106, 107, 108, 114, 999999] fun u61 a w' H => ?_
     replace G := bnd G; obtain ⟨t63, ht63, G⟩ := G
     replace G := bnd G; obtain ⟨t64, ht64, G⟩ := G
     refine k_srk mixed H (.v 82 (vP ((u61 5).n 0) 0) <|
 .cons [83] (ok_ldc (.func (.func 180) #[] #[]) 83 114 0 1 ((u61 5).n 0) [.func (.func 180) #[] #[], .func (.func 178) #[] #[]] 226) <|
 .cons [84] (ok_ldc (.agg #[vI a0.Lo, vI a0.Hi]) 84 106 0 2 ((u1 0).n 0) [vI a0.Lo, vI a0.Hi] 46) <|
 .cons [85] (ok_ldc (.agg #[vI a1.Lo, vI a1.Hi]) 85 107 0 2 ((u1 1).n 0) [vI a1.Lo, vI a1.Hi] 46) <|
 .cons [86] (ok_callv 180 _ _ 86 [] (fun u62 w _ => interval_lh.calls a0 a1  t63 w  ht63)) <|
 .v 87 (vI t63.1) <|
 .v 88 (vI t63.2) <|
 .cons [89] (ok_callv 54 _ _ 89 [] (fun u62 w _ => fixed_Mul.calls t63.1 t63.2  t64 w  ht64)) <|
 .v 81 (.tuple #[vI t64.1, vI t64.2]) <|
 .v 90 (vI t64.1) <|
 .v 91 (vI t64.2) <|
 .v 16 (vI t64.1) <|
 .v 17 (vI t64.2) <| .nil) [2, 3, 4, 15, 16, 106, 107, 108, 114, 999999] fun u62 a w' H => ?_
     replace G := bnd G; obtain ⟨t66, ht66, G⟩ := G
     replace G := bnd G; obtain ⟨t67, ht67, G⟩ := G
     refine k_srk mixed H (.v 93 (vP ((u61 5).n 0) 1) <|
 .cons [94] (ok_ldc (.func (.func 178) #[] #[]) 94 114 1 1 ((u61 5).n 0) [.func (.func 180) #[] #[], .func (.func 178) #[] #[]] 226) <|
 .cons [95] (ok_ldc (.agg #[vI a0.Lo, vI a0.Hi]) 95 106 0 2 ((u1 0).n 0) [vI a0.Lo, vI a0.Hi] 46) <|
 .cons [96] (ok_ldc (.agg #[vI a1.Lo, vI a1.Hi]) 96 107 0 2 ((u1 1).n 0) [vI a1.Lo, vI a1.Hi] 46) <|
 .cons [97] (ok_callv 178 _ _ 97 [] (fun u65 w _ => interval_hh.calls a0 a1  t66 w  ht66)) <|
 .v 98 (vI t66.1) <|
 .v 99 (vI t66.2) <|
 .cons [100] (ok_callv 54 _ _ 100 [] (fun u65 w _ => fixed_Mul.calls t66.1 t66.2  t67 w  ht67)) <|
 .v 92 (.tuple #[vI t67.1, vI t67.2]) <|
 .v 101 (vI t67.1) <|
 .v 102 (vI t67.2) <|
 .v 18 (vI t67.1) <|
 .v 19 (vI t67.2) <| .nil) [4, 16, 19, 108, 999999] fun u65 a w' H => ?_
     replace G := bnd G; obtain ⟨t69, ht69, G⟩ := G
     refine k_srk mixed H (.v 103 (vI t64.1) <|
 .v 104 (vI t67.2) <|
 .cons [105] (ok_callv 68 _ _ 105 [] (fun u68 w _ => interval_New.calls t64.1 t67.2  t69 w  ht69)) <|
 .cons [108] (ok_stc 108 0 ((u1 2).n 0) [vI 0, vI 0] [vI t69.Lo, vI t69.Hi] 46 [vI t69.Lo, vI t69.Hi]) <| .nil) [4, 108, 999999] fun u68 a w' H => ?_
     refine k_ret ?_
     obtain rfl := sj G
     exact k_done1 H _ 108 ((u1 2).n 0) [vI t69.Lo, vI t69.Hi] 46 0 2 (by kernel_rfl) (by kernel_rfl) (by kernel_rfl) (by kernel_rfl)
    rw [if_neg c72] at G
    cases G
   rw [if_neg c104] at G
   by_cases c105 : t8 = 2
   ·rw [if_pos c105] at G; subst c105
    by_cases c100 : t9 = 0
    ·rw [if_pos c100] at G; subst c100
     refine k_rk mixed H (.v 76 (vI 2) <|
 .v 77 (vI 0) <|
 .v 78 (vP 0 12) <|
 .v 79 (vP 0 12) <|
 .cons [80] (ok_ldK (fun u73 => .agg #[.func (.func 181) #[] #[], .func (.func 180) #[] #[]]) 80 999999 gk 0 12 2 gTab0 (fun w h => (glob_of h).tab0)) <|
 .cons [15, 115] (ok_new (fun b => vP b 0) (fun u73 => [.nilFunc, .nilFunc]) 226 15 115) <|
 .cons [115] (ok_as (u' := fun u73 => [(115, .blk ((u73 5).n 0) [.func (.func 181) #[] #[], .func (.func 180) #[] #[]] 226)]) (ok_store 115 0 (fun u73 => ((u73 5).n 0)) (fun u73 => [.nilFunc, .nilFunc]) (fun u73 => [.func (.func 181) #[] #[], .func (.func 180) #[] #[]]) 226) (fun _ => by kernel_rfl)) <| .nil) [2, 3, 4, 15, 106, 107, 108, 115, 999999] fun u73 a w' H => ?_
     replace G := bnd G; obtain ⟨t75, ht75, G⟩ := G
     replace G := bnd G; obtain ⟨t76, ht76, G⟩ := G
     refine k_srk mixed H (.v 82 (vP ((u73 5).n 0) 0) <|
 .cons [83] (ok_ldc (.func (.func 181) #[] #[]) 83 115 0 1 ((u73 5).n 0) [.func (.func 181) #[] #[], .func (.func 180) #[] #[]] 226) <|
 .cons [84] (ok_ldc (.agg #[vI a0.Lo, vI a0.Hi]) 84 106 0 2 ((u1 0).n 0) [vI a0.Lo, vI a0.Hi] 46) <|
 .cons [85] (ok_ldc (.agg #[vI a1.Lo, vI a1.Hi]) 85 107 0 2 ((u1 1).n 0) [vI a1.Lo, vI a1.Hi] 46) <|
 .cons [86] (ok_callv 181 _ _ 86 [] (fun u74 w _ => interval_hl.calls a0 a1  t75 w  ht75)) <|
 .v 87 (vI t75.1) <|
 .v 88 (vI t75.2) <|
 .cons [89] (ok_callv 54 _ _ 89 [] (fun u74 w _ => fixed_Mul.calls t75.1 t75.2  t76 w  ht76)) <|
 .v 81 (.tuple #[vI t76.1, vI t76.2]) <|
 .v 90 (vI t76.1) <|
 .v 91 (vI t76.2) <|
 .v 16 (vI t76.1) <|
 .v 17 (vI t76.2) <| .nil) [2, 3, 4, 15, 16, 106, 107, 108, 115, 999999] fun u74 a w' H => ?_
     replace G := bnd G; obtain ⟨t78, ht78, G⟩ := G
     replace G := bnd G; obtain ⟨t79, ht79, G⟩ := G
     refine k_srk mixed H (.v 93 (vP ((u73 5).n 0) 1) <|
 .cons [94] (ok_ldc (.func (.func 180) #[] #[]) 94 115 1 1 ((u73 5).n 0) [.func (.func 181) #[] #[], .func (.func 180) #[] #[]] 226) <|
 .cons [95] (ok_ldc (.agg #[vI a0.Lo, vI a0.Hi]) 95 106 0 2 ((u1 0).n 0) [vI a0.Lo, vI a0.Hi] 46) <|
 .cons [96] (ok_ldc (.agg #[vI a1.Lo, vI a1.Hi]) 96 107 0 2 ((u1 1).n 0) [vI a1.Lo, vI a1.Hi] 46) <|
 .cons [97] (ok_callv 180 _ _ 97 [] (fun u77 w _ => interval_lh.calls a0 a1  t78 w  ht78)) <|
 .v 98 (vI t78.1) <|
 .v 99 (vI t78.2) <|
 .cons [100] (ok_callv 54 _ _ 100 [] (fun u77 w _ => fixed_Mul.calls t78.1 t78.2  t79 w  ht79)) <|
 .v 92 (.tuple #[vI t79.1, vI t79.2]) <|
 .v 101 (vI t79.1) <|
 .v 102 (vI t79.2) <|
 .v 18 (vI t79.1) <|
 .v 19 (vI t79.2) <| .nil) [4, 16, 19, 108, 999999] fun u77 a w' H => ?_
     replace G := bnd G; obtain ⟨t81, ht81, G⟩ := G
     refine k_srk mixed H (.v 103 (vI t76.1) <|
 .v 104 (vI t79.2) <|
 .cons [105] (ok_callv 68 _ _ 105 [] (fun u80 w _ => interval_New.calls t76.1 t79.2  t81 w  ht81)) <|
 .cons [108] (ok_stc 108 0 ((u1 2).n 0) [vI 0, vI 0] [vI t81.Lo, vI t81.Hi] 46 [vI t81.Lo, vI t81.Hi]) <| .nil) [4, 108, 999999] fun u80 a w' H => ?_
     refine k_ret ?_
     obtain rfl := sj G
     exact k_done1 H _ 108 ((u1 2).n 0) [vI t81.Lo, vI t81.Hi] 46 0 2 (by kernel_rfl) (by kernel_rfl) (by kernel_rfl) (by kernel_rfl)
    rw [if_neg c100] at G
    by_cases c101 : t9 = 1
    ·rw [if_pos c101] at G; subst c101
     refine k_rg mixed H (.v 76 (vI 2) <|
 .v 77 (vI 1) <|
 .v 78 (vP 0 12) <|
 .v 79 (vP 0 14) <|
 .cons [80] (ok_ldK (fun u82 => .agg #[.func (.func 181) #[] #[], .func (.func 178) #[] #[]]) 80 999999 gk 0 14 2 gTab0 (fun w h => (glob_of h).tab0)) <|
 .cons [15, 116] (ok_new (fun b => vP b 0) (fun u82 => [.nilFunc, .nilFunc]) 226 15 116) <|
 .cons [116] (ok_as (u' := fun u82 => [(116, .blk ((u82 5).n 0) [.func (.func 181) #[] #[], .func (.func 178) #[] #[]] 226)]) (ok_store 116 0 (fun u82 => ((u82 5).n 0)) (fun u82 => [.nilFunc, .nilFunc]) (fun u82 => [.func (.func 181) #[] #[], .func (.func 178) #[] #[]]) 226) (fun _ => by kernel_rfl)) <| .nil) fun u82 a w' H => ?_
     replace H := H.toM [(2, (sP ((u1 0).n 0) 0)), (3, (sP ((u1 1).n 0) 0)), (4, (sP ((u1 2).n 0) 0)), (15, (sP ((u82 5).n 0) 0)), (106, .blk ((u1 0).n 0) [vI a0.Lo, vI a0.Hi] 46), (107, .blk ((u1 1).n 0) [vI a1.Lo, vI a1.Hi] 46), (108, .blk ((u1 2).n 0) [vI 0, vI 0] 46), (116, .blk ((u82 5).n 0) [.func (.func 181) #[] #[], .func (.func 178) #[] #[]] 226), (999999, gk)]
     replace G := bnd G; obtain ⟨t84, ht84, G⟩ := G
     replace G := bnd G; obtain ⟨t85, ht85, G⟩ := G
     refine k_srk mixed H (.v 82 (vP ((u82 5).n 0) 0) <|
 .cons [83] (ok_ldc (.func (.func 181) #[] #[]) 83 116 0 1 ((u82 5).n 0) [.func (.func 181) #[] #[], .func (.func 178) #[] #[]] 226) <|
 .cons [84] (ok_ldc (.agg #[vI a0.Lo, vI a0.Hi]) 84 106 0 2 ((u1 0).n 0) [vI a0.Lo, vI a0.Hi] 46) <|
 .cons [85] (ok_ldc (.agg #[vI a1.Lo, vI a1.Hi]) 85 107 0 2 ((u1 1).n 0) [vI a1.Lo, vI a1.Hi] 46) <|
 .cons [86] (ok_callv 181 _ _ 86 [] (fun u83 w _ => interval_hl.calls a0 a1  t84 w  ht84)) <|
 .v 87 (vI t84.1) <|
 .v 88 (vI t84.2) <|
 .cons [89] (ok_callv 54 _ _ 89 [] (fun u83 w _ => fixed_Mul.calls t84.1 t84.2  t85 w  ht85)) <|
 .v 81 (.tuple #[vI t85.1, vI t85.2]) <|
 .v 90 (vI t85.1) <|
 .v 91 (vI t85.2) <|
 .v 16 (vI t85.1) <|
 .v 17 (vI t85.2) <| .nil) [2, 3, 4, 15, 16, 106, 107, 108, 116, 999999] fun u83 a w' H => ?_
     replace G := bnd G; obtain ⟨t87, ht87, G⟩ := G
     replace G := bnd G; obtain ⟨t88, ht88, G⟩ := G
     refine k_srk mixed H (.v 93 (vP ((u82 5).n 0) 1) <|
 .cons [94] (ok_ldc (.func (.func 178) #[] #[]) 94 116 1 1 ((u82 5).n 0) [.func (.func 181) #[] #[], .func (.func 178) #[] #[]] 226) <|
 .cons [95] (ok_ldc (.agg #[vI a0.Lo, vI a0.Hi]) 95 106 0 2 ((u1 0).n 0) [vI a0.Lo, vI a0.Hi] 46) <|
 .cons [96] (ok_ldc (.agg #[vI a1.Lo, vI a1.Hi]) 96 107 0 2 ((u1 1).n 0) [vI a1.Lo, vI a1.Hi] 46) <|
 .cons [97] (ok_callv 178 _ _ 97 [] (fun u86 w _ => interval_hh.calls a0 a1  t87 w  ht87)) <|
 .v 98 (vI t87.1) <|
 .v 99 (vI t87.2) <|
 .cons [100] (ok_callv 54 _ _ 100 [] (fun u86 w _ => fixed_Mul.calls t87.1 t87.2  t88 w  ht88)) <|
 .v 92 (.tuple #[vI t88.1, vI t88.2]) <|
 .v 101 (vI t88.1) <|
 .v 102 (vI t88.2) <|
 .v 18 (vI t88.1) <|
 .v 19 (vI t88.2) <| .nil) [4, 16, 19, 108, 999999] fun u86 a w' H => ?_
     replace G := bnd G; obtain ⟨t90, ht90, G⟩ := G
     refine k_srk mixed H (.v 103 (vI t85.1) <|
 .v 104 (vI t88.2) <|
 .cons [105] (ok_callv 68 _ _ 105 [] (fun u89 w _ => interval_New.calls t85.1 t88.2  t90 w  ht90)) <|
 .cons [108] (ok_stc 108 0 ((u1 2).n 0) [vI 0, vI 0] [vI t90.Lo, vI t90.Hi] 46 [vI t90.Lo, vI t90.Hi]) <| .nil) [4, 108, 999999] fun u89 a w' H => ?_
     refine k_ret ?_
     obtain rfl := sj G
     exact k_done1 H _ 108 ((u1 2).n 0) [vI t90.Lo, vI t90.Hi] 46 0 2 (by kernel_rfl) (by kernel_rfl) (by kernel_rfl) (by kernel_rfl)
    rw [if_neg c101] at G
    by_cases c102 : t9 = 2
    ·rw [if_pos c102] at G; subst c102
     refine k_rk mixed H (.v 76 (vI 2) <|
 .v 77 (vI 2) <|
 .v 78 (vP 0 12) <|
 .v 79 (vP 0 16) <|
 .cons [80] (ok_ldK (fun u91 => .agg #[.func (.func 179) #[] #[], .func (.func 178) #[] #[]]) 80 999999 gk 0 16 2 gTab0 (fun w h => (glob_of h).tab0)) <|
 .cons [15, 117] (ok_new (fun b => vP b 0) (fun u91 => [.nilFunc, .nilFunc]) 226 15 117) <|
 .cons [117] (ok_as (u' := fun u91 => [(117, .blk ((u91 5).n 0) [.func (.func 179) #[] #[], .func (.func 178) #[] #[]] 226)]) (ok_store 117 0 (fun u91 => ((u91 5).n 0)) (fun u91 => [.nilFunc, .nilFunc]) (fun u91 => [.func (.func 179) #[] #[], .func (.func 178) #[] #[]]) 226) (fun _ => by kernel_rfl)) <| .nil) [2, 3, 4, 15, 106, 107, 108, 117, 999999] fun u91 a w' H => ?_
     replace G := bnd G; obtain ⟨t93, ht93, G⟩ := G
     replace G := bnd G; obtain ⟨t94, ht94, G⟩ := G
     refine k_srk mixed H (.v 82 (vP ((u91 5).n 0) 0) <|
 .cons [83] (ok_ldc (.func (.func 179) #[] #[]) 83 117 0 1 ((u91 5).n 0) [.func (.func 179) #[] #[], .func (.func 178) #[] #[]] 226) <|
 .cons [84] (ok_ldc (.agg #[vI a0.Lo, vI a0.Hi]) 84 106 0 2 ((u1 0).n 0) [vI a0.Lo, vI a0.Hi] 46) <|
 .cons [85] (ok_ldc (.agg #[vI a1.Lo, vI a1.Hi]) 85 107 0 2 ((u1 1).n 0) [vI a1.Lo, vI a1.Hi] 46) <|
 .cons [86] (ok_callv 179 _ _ 86 [] (fun u92 w _ => interval_ll.calls a0 a1  t93 w  ht93)) <|
 .v 87 (vI t93.1) <|
 .v 88 (vI t93.2) <|
 .cons [89] (ok_callv 54 _ _ 89 [] (fun u92 w _ => fixed_Mul.calls t93.1 t93.2  t94 w  ht94)) <|
 .v 81 (.tuple #[vI t94.1, vI t94.2]) <|
 .v 90 (vI t94.1) <|
 .v 91 (vI t94.2) <|
 .v 16 (vI t94.1) <|
 .v 17 (vI t94.2) <| .nil) [2, 3, 4, 15, 16, 106, 107, 108, 117, 999999] fun u92 a w' H => ?_
     replace G := bnd G; obtain ⟨t96, ht96, G⟩ := G
     replace G := bnd G; obtain ⟨t97, ht97, G⟩ := G
     refine k_srk mixed H (.v 93 (vP ((u91 5).n 0) 1) <|
 .cons [94] (ok_ldc (.func (.func 178) #[] #[]) 94 117 1 1 ((u91 5).n 0) [.func (.func 179) #[] #[], .func (.func 178) #[] #[]] 226) <|
 .cons [95] (ok_ldc (.agg #[vI a0.Lo, vI a0.Hi]) 95 106 0 2 ((u1 0).n 0) [vI a0.Lo, vI a0.Hi] 46) <|
 .cons [96] (ok_ldc (.agg #[vI a1.Lo, vI a1.Hi]) 96 107 0 2 ((u1 1).n 0) [vI a1.Lo, vI a1.Hi] 46) <|
 .cons [97] (ok_callv 178 _ _ 97 [] (fun u95 w _ => interval_hh.calls a0 a1  t96 w  ht96)) <|
 .v 98 (vI t96.1) <|
 .v 99 (vI t96.2) <|
 .cons [100] (ok_callv 54 _ _ 100 [] (fun u95 w _ => fixed_Mul.calls t96.1 t96.2  t97 w  ht97)) <|
 .v 92 (.tuple #[vI t97.1, vI t97.2]) <|
 .v 101 (vI t97.1) <|
 .v 102 (vI t97.2) <|
 .v 18 (vI t97.1) <|
 .v 19 (vI t97.2) <| .nil) [4, 16, 19, 108, 999999] fun u95 a w' H => ?_
     replace G := bnd G; obtain ⟨t99, ht99, G⟩ := G
     refine k_srk mixed H (.v 103 (vI t94.1) <|
 .v 104 (vI t97.2) <|
 .cons [105] (ok_callv 68 _ _ 105 [] (fun u98 w _ => interval_New.calls t94.1 t97.2  t99 w  ht99)) <|
 .cons [108] (ok_stc 108 0 ((u1 2).n 0) [vI 0, vI 0] [vI t99.Lo, vI t99.Hi] 46 [vI t99.Lo, vI t99.Hi]) <| .nil) [4, 108, 999999] fun u98 a w' H => ?_
     refine k_ret ?_
     obtain rfl := sj G
     exact k_done1 H _ 108 ((u1 2).n 0) [vI t99.Lo, vI t99.Hi] 46 0 2 (by kernel_rfl) (by kernel_rfl) (by kernel_rfl) (by kernel_rfl)
    rw [if_neg c102] at G
    cases G
   rw [if_neg c105] at G
   cases G
theorem interval_Contains.calls (a0 : TInterval) (a1 : Int) (r : Bool) (w : World) (G : interval_Contains a0 a1 = some r) :
  Calls Tryz.prog 143 #[.agg #[vI a0.Lo, vI a0.Hi], vI a1] w fun e w' => e = .returned (.bool r) ∧ Below w.heap.size w w' := by
 refine k_enter (args := [.agg #[vI a0.Lo, vI a0.Hi], vI a1]) 19 Tryz.func143 rfl (by kernel_rfl) (by kernel_rfl) fun a H => ?_
 unfold interval_Contains at G
 refine k_srk mixed H (.cons [2, 19] (ok_new (fun b => vP b 0) (fun u1 => [vI a0.Lo, vI a0.Hi]) 46 2 19) <|
 .v 4 (.bool false) <| .nil) [1, 2, 19] fun u1 a w' H => ?_
 obtain ⟨t3, ht3, G⟩ := bnd G
 refine k_srk mixed H (.cons [5] (ok_ldc (.agg #[vI a0.Lo, vI a0.Hi]) 5 19 0 2 ((u1 0).n 0) [vI a0.Lo, vI a0.Hi] 46) <|
 .cons [6] (ok_callv 21 _ _ 6 [] (fun u2 w _ => interval_IsEntire.calls a0  t3 w  ht3)) <|
 .v 7 (.bool t3) <|
 .cons [8] (ok_valg (fun u2 => vP ((u1 0).n 0) 0) (fun u2 => (t3 == false)) [true] 8) <|
 .cons [9] (ok_ldg (fun u2 => vI a0.Lo) (fun u2 => (t3 == false)) [false] 9 19 0 1 (fun u2 => ((u1 0).n 0)) (fun u2 => [vI a0.Lo, vI a0.Hi]) 46) <|
 .cons [10] (ok_valg (fun u2 => vI a1) (fun u2 => (t3 == false)) [true] 10) <|
 .cons [11] (ok_valg (fun u2 => .bool (decide (a0.Lo ≤ a1))) (fun u2 => (t3 == false)) [false, false] 11) <|
 .cons [12] (ok_valg (fun u2 => .bool (decide (a0.Lo ≤ a1))) (fun u2 => (t3 == false)) [false] 12) <|
 .cons [13] (ok_valg (fun u2 => vI a1) (fun u2 => ((t3 == false) && ((decide (a0.Lo ≤ a1)) == true))) [true] 13) <|
 .cons [14] (ok_valg (fun u2 => vP ((u1 0).n 0) 1) (fun u2 => ((t3 == false) && ((decide (a0.Lo ≤ a1)) == true))) [true] 14) <|
 .cons [15] (ok_ldg (fun u2 => vI a0.Hi) (fun u2 => ((t3 == false) && ((decide (a0.Lo ≤ a1)) == true))) [false] 15 19 1 1 (fun u2 => ((u1 0).n 0)) (fun u2 => [vI a0.Lo, vI a0.Hi]) 46) <|
 .cons [16] (ok_valg (fun u2 => .bool (decide (a1 ≤ a0.Hi))) (fun u2 => ((t3 == false) && ((decide (a0.Lo ≤ a1)) == true))) [false, false] 16) <|
 .cons [17] (ok_and 12 16 (fun u2 => (t3 == false)) (fun u2 => (t3 == false)) (fun u2 => decide (a0.Lo ≤ a1)) (fun u2 => decide (a1 ≤ a0.Hi)) 17) <|
 .cons [18] (ok_or 7 17 (fun u2 => true) (fun u2 => true) (fun u2 => t3) (fun u2 => ((decide (a0.Lo ≤ a1)) && (decide (a1 ≤ a0.Hi)))) 18) <|
 .v 4 (.bool (t3 || ((decide (a0.Lo ≤ a1)) && (decide (a1 ≤ a0.Hi))))) <| .nil) [4] fun u2 a w' H => ?_
 refine k_ret ?_
 obtain rfl := sj G
 exact k_done0 H _ (by kernel_rfl) (by kernel_rfl)
theorem interval_pick_int.calls (a0 : Bool) (a1 : Int) (a2 : Int) (r : Int) (w : World) (G : interval_pick_int a0 a1 a2 = some r) :
  Calls Tryz.prog 144 #[.bool a0, vI a1, vI a2] w fun e w' => e = .returned (vI r) ∧ Below w.heap.size w w' := by
 refine k_enter (args := [.bool a0, vI a1, vI a2]) 10 Tryz.func144 rfl (by kernel_rfl) (by kernel_rfl) fun a H => ?_
 unfold interval_pick_int at G
 refine k_srk mixed H (.v 6 (vI 0) <| .nil) [0, 1, 2] fun u1 a w' H => ?_
 refine k_seq ?_
 refine k_srk mixed H (.v 7 (.bool a0) <| .nil) [1, 2, 7] fun u2 a w' H => ?_
 refine k_cnd H a0 (fun c5 => ?_) fun c5 => ?_
 ·rw [if_pos c5] at G
  refine k_srk mixed H (.v 8 (vI a1) <|
 .v 6 (vI a1) <| .nil) [6] fun u3 a w' H => ?_
  refine k_ret ?_
  obtain rfl := sj G
  exact k_done0 H _ (by kernel_rfl) (by kernel_rfl)
 ·rw [if_neg (nt c5)] at G
  refine k_skip ?_
  refine k_srk mixed H (.v 9 (vI a2) <|
 .v 6 (vI a2) <| .nil) [6] fun u4 a w' H => ?_
  refine k_ret ?_
  obtain rfl := sj G
  exact k_done0 H _ (by kernel_rfl) (by kernel_rfl)
theorem fixed_Div.calls (a0 : Int) (a1 : Int) (r : Int × Int × Int) (w : World) (G : fixed_Div a0 a1 = some r) :
  Calls Tryz.prog 145 #[vI a0, vI a1] w fun e w' => e = .returned (.tuple #[vI r.1, vI r.2.1, vI r.2.2]) ∧ Below w.heap.size w w' := by
 refine k_enter (args := [vI a0, vI a1]) 20 Tryz.func145 rfl (by kernel_rfl) (by kernel_rfl) fun a H => ?_
 unfold fixed_Div at G
 refine k_srk mixed H (.v 4 (vI 0) <|
 .v 5 (vI 0) <|
 .v 6 (vI 0) <| .nil) [0, 1] fun u1 a w' H => ?_
 refine k_seq ?_
 refine k_srk mixed H (.v 9 (vI a1) <|
 .v 10 (.bool (a1 == 0)) <| .nil) [0, 1, 10] fun u2 a w' H => ?_
 refine k_cnd H (a1 == 0) (fun c7 => ?_) fun c7 => ?_
 ·rw [if_pos c7] at G
  refine k_srk mixed H (.v 4 (vI 0) <|
 .v 5 (vI 0) <|
 .v 6 (vI 3) <| .nil) [4, 5, 6] fun u3 a w' H => ?_
  refine k_ret ?_
  obtain rfl := sj G
  exact k_done0 H _ (by kernel_rfl) (by kernel_rfl)
 ·rw [if_neg (nt c7)] at G
  refine k_skip ?_
  obtain ⟨t5, ht5, G⟩ := bnd G
  refine k_srk mixed H (.v 12 (vI a0) <|
 .v 13 (vI (w_i64 (a0 * 65536))) <|
 .v 14 (vI a1) <|
 .cons [15] (ok_callv 75 _ _ 15 [] (fun u4 w _ => fixed_divide.calls (w_i64 (a0 * 65536)) a1  t5 w  ht5)) <|
 .v 11 (.tuple #[vI t5.1, vI t5.2]) <|
 .v 16 (vI t5.1) <|
 .v 17 (vI t5.2) <|
 .v 7 (vI t5.1) <|
 .v 8 (vI t5.2) <| .nil) [7, 8] fun u4 a w' H => ?_
  refine k_srk mixed H (.v 18 (vI t5.1) <|
 .v 19 (vI t5.2) <|
 .v 4 (vI t5.1) <|
 .v 5 (vI t5.2) <|
 .v 6 (vI 0) <| .nil) [4, 5, 6] fun u6 a w' H => ?_
  refine k_ret ?_
  obtain rfl := sj G
  exact k_done0 H _ (by kernel_rfl) (by kernel_rfl)
theorem interval_Div.calls (a0 : TInterval) (a1 : TInterval) (r : TInterval) (w : World) (hg : Glob w) (G : interval_Div a0 a1 = some r) :
  Calls Tryz.prog 137 #[.agg #[vI a0.Lo, vI a0.Hi], .agg #[vI a1.Lo, vI a1.Hi]] w fun e w' => e = .returned (.agg #[vI r.Lo, vI r.Hi]) ∧ Below w.heap.size w w' := by
 refine k_enterG (args := [.agg #[vI a0.Lo, vI a0.Hi], .agg #[vI a1.Lo, vI a1.Hi]]) 59 999999 globFp Glob (glob_local hg) (glob_in hg) Tryz.func137 rfl (by kernel_rfl) (by kernel_rfl) fun a H => ?_
 unfold interval_Div at G
 refine k_srk mixed H (.cons [2, 59] (ok_new (fun b => vP b 0) (fun u1 => [vI a0.Lo, vI a0.Hi]) 46 2 59) <|
 .cons [3, 60] (ok_new (fun b => vP b 0) (fun u1 => [vI a1.Lo, vI a1.Hi]) 46 3 60) <|
 .cons [4, 61] (ok_new (fun b => vP b 0) (fun u1 => [vI 0, vI 0]) 46 4 61) <| .nil) [2, 3, 4, 59, 60, 61, 999999] fun u1 a w' H => ?_
 refine k_seq ?_
 replace G := bnd G; obtain ⟨t3, ht3, G⟩ := G
 replace G := bnd G; obtain ⟨t4, ht4, G⟩ := G
 replace G := bnd G; obtain ⟨t5, ht5, G⟩ := G
 refine k_srk mixed H (.cons [12] (ok_ldc (.agg #[vI a0.Lo, vI a0.Hi]) 12 59 0 2 ((u1 0).n 0) [vI a0.Lo, vI a0.Hi] 46) <|
 .cons [13] (ok_callv 21 _ _ 13 [] (fun u2 w _ => interval_IsEntire.calls a0  t3 w  ht3)) <|
 .v 14 (.bool t3) <|
 .cons [15] (ok_ldg (fun u2 => .agg #[vI a1.Lo, vI a1.Hi]) (fun u2 => (t3 == false)) [true] 15 60 0 2 (fun u2 => ((u1 1).n 0)) (fun u2 => [vI a1.Lo, vI a1.Hi]) 46) <|
 .cons [16] (ok_call 21 (fun u2 => #[.agg #[vI a1.Lo, vI a1.Hi]]) (.bool t4) (fun u2 => (t3 == false)) [true, false] 16 [] (fun u2 w hg _ => interval_IsEntire.calls a1  t4 w  (ifp ht4 hg))) <|
 .cons [17] (ok_or 14 16 (fun u2 => true) (fun u2 => true) (fun u2 => t3) (fun u2 => t4) 17) <|
 .v 18 (.bool (t3 || t4)) <|
 .cons [19] (ok_ldg (fun u2 => .agg #[vI a1.Lo, vI a1.Hi]) (fun u2 => ((t3 || t4) == false)) [true] 19 60 0 2 (fun u2 => ((u1 1).n 0)) (fun u2 => [vI a1.Lo, vI a1.Hi]) 46) <|
 .cons [20] (ok_call 143 (fun u2 => #[.agg #[vI a1.Lo, vI a1.Hi], vI 0]) (.bool t5) (fun u2 => ((t3 || t4) == false)) [true, false, true] 20 [] (fun u2 w hg _ => interval_Contains.calls a1 0  t5 w  (ifp ht5 hg))) <|
 .cons [21] (ok_or 18 20 (fun u2 => true) (fun u2 => true) (fun u2 => (t3 || t4)) (fun u2 => t5) 21) <| .nil) [2, 3, 4, 21, 59, 60, 61, 999999] fun u2 a w' H => ?_
 refine k_cnd H ((t3 || t4) || t5) (fun c24 => ?_) fun c24 => ?_
 ·rw [if_pos c24] at G
  replace G := bnd G; obtain ⟨t7, ht7, G⟩ := G
  refine k_srk mixed H (.cons [22] (ok_callv 48 _ _ 22 [] (fun u6 w _ => interval_Entire.calls   t7 w  ht7)) <|
 .cons [61] (ok_stc 61 0 ((u1 2).n 0) [vI 0, vI 0] [vI t7.Lo, vI t7.Hi] 46 [vI t7.Lo, vI t7.Hi]) <| .nil) [4, 61, 999999] fun u6 a w' H => ?_
  refine k_ret ?_
  obtain rfl := sj G
  exact k_done1 H _ 61 ((u1 2).n 0) [vI t7.Lo, vI t7.Hi] 46 0 2 (by kernel_rfl) (by kernel_rfl) (by kernel_rfl) (by kernel_rfl)
 ·rw [if_neg (nt c24)] at G
  refine k_skip ?_
  refine k_seq ?_
  replace G := bnd G; obtain ⟨t9, ht9, G⟩ := G
  by_cases c21 : t9 = 0
  ·rw [if_pos c21] at G; subst c21
   replace G := bnd G; obtain ⟨t10, ht10, G⟩ := G
   by_cases c19 : t10 = 0
   ·rw [if_pos c19] at G; subst c19
    refine k_rk mixed H (.cons [23] (ok_ldc (.agg #[vI a0.Lo, vI a0.Hi]) 23 59 0 2 ((u1 0).n 0) [vI a0.Lo, vI a0.Hi] 46) <|
 .cons [24] (ok_callv 136 _ _ 24 [] (fun u8 w _ => interval_side.calls a0  0 w  ht9)) <|
 .v 25 (vP ((u1 1).n 0) 0) <|
 .cons [26] (ok_ldc (vI a1.Lo) 26 60 0 1 ((u1 1).n 0) [vI a1.Lo, vI a1.Hi] 46) <|
 .v 27 (.bool (decide (a1.Lo > 0))) <|
 .cons [28] (ok_callv 144 _ _ 28 [] (fun u8 w _ => interval_pick_int.calls (decide (a1.Lo > 0)) 1 0  0 w  ht10)) <|
 .v 29 (vP 2 0) <|
 .v 30 (vP 2 0) <|
 .cons [31] (ok_ldK (fun u8 => .agg #[.func (.func 181) #[] #[], .func (.func 180) #[] #[]]) 31 999999 gk 2 0 2 gTab2 (fun w h => (glob_of h).tab2)) <|
 .cons [5, 62] (ok_new (fun b => vP b 0) (fun u8 => [.nilFunc, .nilFunc]) 226 5 62) <|
 .cons [62] (ok_as (u' := fun u8 => [(62, .blk ((u8 9).n 0) [.func (.func 181) #[] #[], .func (.func 180) #[] #[]] 226)]) (ok_store 62 0 (fun u8 => ((u8 9).n 0)) (fun u8 => [.nilFunc, .nilFunc]) (fun u8 => [.func (.func 181) #[] #[], .func (.func 180) #[] #[]]) 226) (fun _ => by kernel_rfl)) <| .nil) [2, 3, 4, 5, 59, 60, 61, 62, 999999] fun u8 a w' H => ?_
    replace G := bnd G; obtain ⟨t12, ht12, G⟩ := G
    replace G := bnd G; obtain ⟨t13, ht13, G⟩ := G
    refine k_srk mixed H (.v 33 (vP ((u8 9).n 0) 0) <|
 .cons [34] (ok_ldc (.func (.func 181) #[] #[]) 34 62 0 1 ((u8 9).n 0) [.func (.func 181) #[] #[], .func (.func 180) #[] #[]] 226) <|
 .cons [35] (ok_ldc (.agg #[vI a0.Lo, vI a0.Hi]) 35 59 0 2 ((u1 0).n 0) [vI a0.Lo, vI a0.Hi] 46) <|
 .cons [36] (ok_ldc (.agg #[vI a1.Lo, vI a1.Hi]) 36 60 0 2 ((u1 1).n 0) [vI a1.Lo, vI a1.Hi] 46) <|
 .cons [37] (ok_callv 181 _ _ 37 [] (fun u11 w _ => interval_hl.calls a0 a1  t12 w  ht12)) <|
 .v 38 (vI t12.1) <|
 .v 39 (vI t12.2) <|
 .cons [40] (ok_callv 145 _ _ 40 [] (fun u11 w _ => fixed_Div.calls t12.1 t12.2  t13 w  ht13)) <|
 .v 32 (.tuple #[vI t13.1, vI t13.2.1, vI t13.2.2]) <|
 .v 41 (vI t13.1) <|
 .v 42 (vI t13.2.1) <|
 .v 43 (vI t13.2.2) <|
 .v 6 (vI t13.1) <|
 .v 7 (vI t13.2.1) <|
 .v 8 (vI t13.2.2) <| .nil) [2, 3, 4, 5, 6, 59, 60, 61, 62, 999999] fun u11 a w' H => ?_
    replace G := bnd G; obtain ⟨t15, ht15, G⟩ := G
    replace G := bnd G; obtain ⟨t16, ht16, G⟩ := G
    refine k_srk mixed H (.v 45 (vP ((u8 9).n 0) 1) <|
 .cons [46] (ok_ldc (.func (.func 180) #[] #[]) 46 62 1 1 ((u8 9).n 0) [.func (.func 181) #[] #[], .func (.func 180) #[] #[]] 226) <|
 .cons [47] (ok_ldc (.agg #[vI a0.Lo, vI a0.Hi]) 47 59 0 2 ((u1 0).n 0) [vI a0.Lo, vI a0.Hi] 46) <|
 .cons [48] (ok_ldc (.agg #[vI a1.Lo, vI a1.Hi]) 48 60 0 2 ((u1 1).n 0) [vI a1.Lo, vI a1.Hi] 46) <|
 .cons [49] (ok_callv 180 _ _ 49 [] (fun u14 w _ => interval_lh.calls a0 a1  t15 w  ht15)) <|
 .v 50 (vI t15.1) <|
 .v 51 (vI t15.2) <|
 .cons [52] (ok_callv 145 _ _ 52 [] (fun u14 w _ => fixed_Div.calls t15.1 t15.2  t16 w  ht16)) <|
 .v 44 (.tuple #[vI t16.1, vI t16.2.1, vI t16.2.2]) <|
 .v 53 (vI t16.1) <|
 .v 54 (vI t16.2.1) <|
 .v 55 (vI t16.2.2) <|
 .v 9 (vI t16.1) <|
 .v 10 (vI t16.2.1) <|
 .v 11 (vI t16.2.2) <| .nil) [4, 6, 10, 61, 999999] fun u14 a w' H => ?_
    replace G := bnd G; obtain ⟨t18, ht18, G⟩ := G
    refine k_srk mixed H (.v 56 (vI t13.1) <|
 .v 57 (vI t16.2.1) <|
 .cons [58] (ok_callv 68 _ _ 58 [] (fun u17 w _ => interval_New.calls t13.1 t16.2.1  t18 w  ht18)) <|
 .cons [61] (ok_stc 61 0 ((u1 2).n 0) [vI 0, vI 0] [vI t18.Lo, vI t18.Hi] 46 [vI t18.Lo, vI t18.Hi]) <| .nil) [4, 61, 999999] fun u17 a w' H => ?_
    refine k_ret ?_
    obtain rfl := sj G
    exact k_done1 H _ 61 ((u1 2).n 0) [vI t18.Lo, vI t18.Hi] 46 0 2 (by kernel_rfl) (by kernel_rfl) (by kernel_rfl) (by kernel_rfl)
   rw [if_neg c19] at G
   by_cases c20 : t10 = 1
   ·rw [if_pos c20] at G; subst c20
    refine k_rk mixed H (.cons [23] (ok_ldc (.agg #[vI a0.Lo, vI a0.Hi]) 23 59 0 2 ((u1 0).n 0) [vI a0.Lo, vI a0.Hi] 46) <|
 .cons [24] (ok_callv 136 _ _ 24 [] (fun u8 w _ => interval_side.calls a0  0 w  ht9)) <|
 .v 25 (vP ((u1 1).n 0) 0) <|
 .cons [26] (ok_ldc (vI a1.Lo) 26 60 0 1 ((u1 1).n 0) [vI a1.Lo, vI a1.Hi] 46) <|
 .v 27 (.bool (decide (a1.Lo > 0))) <|
 .cons [28] (ok_callv 144 _ _ 28 [] (fun u8 w _ => interval_pick_int.calls (decide (a1.Lo > 0)) 1 0  1 w  ht10)) <|
 .v 29 (vP 2 0) <|
 .v 30 (vP 2 2) <|
 .cons [31] (ok_ldK (fun u8 => .agg #[.func (.func 179) #[] #[], .func (.func 178) #[] #[]]) 31 999999 gk 2 2 2 gTab2 (fun w h => (glob_of h).tab2)) <|
 .cons [5, 62] (ok_new (fun b => vP b 0) (fun u8 => [.nilFunc, .nilFunc]) 226 5 62) <|
 .cons [62] (ok_as (u' := fun u8 => [(62, .blk ((u8 9).n 0) [.func (.func 179) #[] #[], .func (.func 178) #[] #[]] 226)]) (ok_store 62 0 (fun u8 => ((u8 9).n 0)) (fun u8 => [.nilFunc, .nilFunc]) (fun u8 => [.func (.func 179) #[] #[], .func (.func 178) #[] #[]]) 226) (fun _ => by kernel_rfl)) <| .nil) [2, 3, 4, 5, 59, 60, 61, 62, 999999] fun u8 a w' H => ?_
    replace G := bnd G; obtain ⟨t12, ht12, G⟩ := G
    replace G := bnd G; obtain ⟨t13, ht13, G⟩ := G
    refine k_srg mixed H (.v 33 (vP ((u8 9).n 0) 0) <|
 .cons [34] (ok_ldc (.func (.func 179) #[] #[]) 34 62 0 1 ((u8 9).n 0) [.func (.func 179) #[] #[], .func (.func 178) #[] #[]] 226) <|
 .cons [35] (ok_ldc (.agg #[vI a0.Lo, vI a0.Hi]) 35 59 0 2 ((u1 0).n 0) [vI a0.Lo, vI a0.Hi] 46) <|
 .cons [36] (ok_ldc (.agg #[vI a1.Lo, vI a1.Hi]) 36 60 0 2 ((u1 1).n 0) [vI a1.Lo, vI a1.Hi] 46) <|
 .cons [37] (ok_callv 179 _ _ 37 [] (fun u11 w _ => interval_ll.calls a0 a1  t12 w  ht12)) <|
 .v 38 (vI t12.1) <|
 .v 39 (vI t12.2) <|
 .cons [40] (ok_callv 145 _ _ 40 [] (fun u11 w _ => fixed_Div.calls t12.1 t12.2  t13 w  ht13)) <|
 .v 32 (.tuple #[vI t13.1, vI t13.2.1, vI t13.2.2]) <|
 .v 41 (vI t13.1) <|
 .v 42 (vI t13.2.1) <|
 .v 43 (vI t13.2.2) <|
 .v 6 (vI t13.1) <|
 .v 7 (vI t13.2.1) <|
 .v 8 (vI t13.2.2) <| .nil) fun u11 a w' H => ?_
    replace H := H.toM [(2, (sP ((u1 0).n 0) 0)), (3, (sP ((u1 1).n 0) 0)), (4, (sP ((u1 2).n 0) 0)), (5, (sP ((u8 9).n 0) 0)), (6, sI t13.1), (59, .blk ((u1 0).n 0) [vI a0.Lo, vI a0.Hi] 46), (60, .blk ((u1 1).n 0) [vI a1.Lo, vI a1.Hi] 46), (61, .blk ((u1 2).n 0) [vI 0, vI 0] 46), (62, .blk ((u8 9).n 0) [.func (.func 179) #[] #[], .func (.func 178) #[] #[]] 226), (999999, gk)]
    replace G := bnd G; obtain ⟨t15, ht15, G⟩ := G
    replace G := bnd G; obtain ⟨t16, ht16, G⟩ := G
    refine k_srk mixed H (.v 45 (vP ((u8 9).n 0) 1) <|
 .cons [46] (ok_ldc (.func (.func 178) #[] #[]) 46 62 1 1 ((u8 9).n 0) [.func (.func 179) #[] #[], .func (.func 178) #[] #[]] 226) <|
 .cons [47] (ok_ldc (.agg #[vI a0.Lo, vI a0.Hi]) 47 59 0 2 ((u1 0).n 0) [vI a0.Lo, vI a0.Hi] 46) <|
 .cons [48] (ok_ldc (.agg #[vI a1.Lo, vI a1.Hi]) 48 60 0 2 ((u1 1).n 0) [vI a1.Lo, vI a1.Hi] 46) <|
 .cons [49] (ok_callv 178 _ _ 49 [] (fun u14 w _ => interval_hh.calls a0 a1  t15 w  ht15)) <|
 .v 50 (vI t15.1) <|
 .v 51 (vI t15.2) <|
 .cons [52] (ok_callv 145 _ _ 52 [] (fun u14 w _ => fixed_Div.calls t15.1 t15.2  t16 w  ht16)) <|
 .v 44 (.tuple #[vI t16.1, vI t16.2.1, vI t16.2.2]) <|
 .v 53 (vI t16.1) <|
 .v 54 (vI t16.2.1) <|
 .v 55 (vI t16.2.2) <|
 .v 9 (vI t16.1) <|
 .v 10 (vI t16.2.1) <|
 .v 11 (vI t16.2.2) <| .nil) [4, 6, 10, 61, 999999] fun u14 a w' H => ?_
    replace G := bnd G; obtain ⟨t18, ht18, G⟩ := G
    refine k_srk mixed H (.v 56 (vI t13.1) <|
 .v 57 (vI t16.2.1) <|
 .cons [58] (ok_callv 68 _ _ 58 [] (fun u17 w _ => interval_New.calls t13.1 t16.2.1  t18 w  ht18)) <|
 .cons [61] (ok_stc 61 0 ((u1 2).n 0) [vI 0, vI 0] [vI t18.Lo, vI t18.Hi] 46 [vI t18.Lo, vI t18.Hi]) <| .nil) [4, 61, 999999] fun u17 a w' H => ?_
    refine k_ret ?_
    obtain rfl := sj G
    exact k_done1 H _ 61 ((u1 2).n 0) [vI t18.Lo, vI t18.Hi] 46 0 2 (by kernel_rfl) (by kernel_rfl) (by kernel_rfl) (by kernel_rfl)
   rw [if_neg c20] at G
   cases G
  rw [if_neg c21] at G
  by_cases c22 : t9 = 1
  ·rw [if_pos c22] at G; subst c22
   replace G := bnd G; obtain ⟨t10, ht10, G⟩ := G
   by_cases c19 : t10 = 0
   ·rw [if_pos c19] at G; subst c19
    refine k_rk mixed H (.cons [23] (ok_ldc (.agg #[vI a0.Lo, vI a0.Hi]) 23 59 0 2 ((u1 0).n 0) [vI a0.Lo, vI a0.Hi] 46) <|
 .cons [24] (ok_callv 136 _ _ 24 [] (fun u8 w _ => interval_side.calls a0  1 w  ht9)) <|
 .v 25 (vP ((u1 1).n 0) 0) <|
 .cons [26] (ok_ldc (vI a1.Lo) 26 60 0 1 ((u1 1).n 0) [vI a1.Lo, vI a1.Hi] 46) <|
 .v 27 (.bool (decide (a1.Lo > 0))) <|
 .cons [28] (ok_callv 144 _ _ 28 [] (fun u8 w _ => interval_pick_int.calls (decide (a1.Lo > 0)) 1 0  0 w  ht10)) <|
 .v 29 (vP 2 4) <|
 .v 30 (vP 2 4) <|
 .cons [31] (ok_ldK (fun u8 => .agg #[.func (.func 178) #[] #[], .func (.func 180) #[] #[]]) 31 999999 gk 2 4 2 gTab2 (fun w h => (glob_of h).tab2)) <|
 .cons [5, 62] (ok_new (fun b => vP b 0) (fun u8 => [.nilFunc, .nilFunc]) 226 5 62) <|
 .cons [62] (ok_as (u' := fun u8 => [(62, .blk ((u8 9).n 0) [.func (.func 178) #[] #[], .func (.func 180) #[] #[]] 226)]) (ok_store 62 0 (fun u8 => ((u8 9).n 0)) (fun u8 => [.nilFunc, .nilFunc]) (fun u8 => [.func (.func 178) #[] #[], .func (.func 180) #[] #[]]) 226) (fun _ => by kernel_rfl)) <| .nil) [2, 3, 4, 5, 59, 60, 61, 62, 999999] fun u8 a w' H => ?_
    replace G := bnd G; obtain ⟨t12, ht12, G⟩ := G
    replace G := bnd G; obtain ⟨t13, ht13, G⟩ := G
    refine k_srk mixed H (.v 33 (vP ((u8 9).n 0) 0) <|
 .cons [34] (ok_ldc (.func (.func 178) #[] #[]) 34 62 0 1 ((u8 9).n 0) [.func (.func 178) #[] #[], .func (.func 180) #[] #[]] 226) <|
 .cons [35] (ok_ldc (.agg #[vI a0.Lo, vI a0.Hi]) 35 59 0 2 ((u1 0).n 0) [vI a0.Lo, vI a0.Hi] 46) <|
 .cons [36] (ok_ldc (.agg #[vI a1.Lo, vI a1.Hi]) 36 60 0 2 ((u1 1).n 0) [vI a1.Lo, vI a1.Hi] 46) <|
 .cons [37] (ok_callv 178 _ _ 37 [] (fun u11 w _ => interval_hh.calls a0 a1  t12 w  ht12)) <|
 .v 38 (vI t12.1) <|
 .v 39 (vI t12.2) <|
 .cons [40] (ok_callv 145 _ _ 40 [] (fun u11 w _ => fixed_Div.calls t12.1 t12.2  t13 w  ht13)) <|
 .v 32 (.tuple #[vI t13.1, vI t13.2.1, vI t13.2.2]) <|
 .v 41 (vI t13.1) <|
 .v 42 (vI t13.2.1) <|
 .v 43 (vI t13.2.2) <|
 .v 6 (vI t13.1) <|
 .v 7 (vI t13.2.1) <|
 .v 8 (vI t13.2.2) <| .nil) [2, 3, 4, 5, 6, 59, 60, 61, 62, 999999] fun u11 a w' H => ?_
    replace G := bnd G; obtain ⟨t15, ht15, G⟩ := G
    replace G := bnd G; obtain ⟨t16, ht16, G⟩ := G
    refine k_srk mixed H (.v 45 (vP ((u8 9).n 0) 1) <|
 .cons [46] (ok_ldc (.func (.func 180) #[] #[]) 46 62 1 1 ((u8 9).n 0) [.func (.func 178) #[] #[], .func (.func 180) #[] #[]] 226) <|
 .cons [47] (ok_ldc (.agg #[vI a0.Lo, vI a0.Hi]) 47 59 0 2 ((u1 0).n 0) [vI a0.Lo, vI a0.Hi] 46) <|
 .cons [48] (ok_ldc (.agg #[vI a1.Lo, vI a1.Hi]) 48 60 0 2 ((u1 1).n 0) [vI a1.Lo, vI a1.Hi] 46) <|
 .cons [49] (ok_callv 180 _ _ 49 [] (fun u14 w _ => interval_lh.calls a0 a1  t15 w  ht15)) <|
 .v 50 (vI t15.1) <|
 .v 51 (vI t15.2) <|
 .cons [52] (ok_callv 145 _ _ 52 [] (fun u14 w _ => fixed_Div.calls t15.1 t15.2  t16 w  ht16)) <|
 .v 44 (.tuple #[vI t16.1, vI t16.2.1, vI t16.2.2]) <|
 .v 53 (vI t16.1) <|
 .v 54 (vI t16.2.1) <|
 .v 55 (vI t16.2.2) <|
 .v 9 (vI t16.1) <|
 .v 10 (vI t16.2.1) <|
 .v 11 (vI t16.2.2) <| .nil) [4, 6, 10, 61, 999999] fun u14 a w' H => ?_
    replace G := bnd G; obtain ⟨t18, ht18, G⟩ := G
    refine k_srk mixed H (.v 56 (vI t13.1) <|
 .v 57 (vI t16.2.1) <|
 .cons [58] (ok_callv 68 _ _ 58 [] (fun u17 w _ => interval_New.calls t13.1 t16.2.1  t18 w  ht18)) <|
 .cons [61] (ok_stc 61 0 ((u1 2).n 0) [vI 0, vI 0] [vI t18.Lo, vI t18.Hi] 46 [vI t18.Lo, vI t18.Hi]) <| .nil) [4, 61, 999999] fun u17 a w' H => ?_
    refine k_ret ?_
    obtain rfl := sj G
    exact k_done1 H _ 61 ((u1 2).n 0) [vI t18.Lo, vI t18.Hi] 46 0 2 (by kernel_rfl) (by kernel_rfl) (by kernel_rfl) (by kernel_rfl)
   rw [if_neg c19] at G
   by_cases c20 : t10 = 1
   ·rw [if_pos c20] at G; subst c20
    refine k_rk mixed H (.cons [23] (ok_ldc (.agg #[vI a0.Lo, vI a0.Hi]) 23 59 0 2 ((u1 0).n 0) [vI a0.Lo, vI a0.Hi] 46) <|
 .cons [24] (ok_callv 136 _ _ 24 [] (fun u8 w _ => interval_side.calls a0  1 w  ht9)) <|
 .v 25 (vP ((u1 1).n 0) 0) <|
 .cons [26] (ok_ldc (vI a1.Lo) 26 60 0 1 ((u1 1).n 0) [vI a1.Lo, vI a1.Hi] 46) <|
 .v 27 (.bool (decide (a1.Lo > 0))) <|
 .cons [28] (ok_callv 144 _ _ 28 [] (fun u8 w _ => interval_pick_int.calls (decide (a1.Lo > 0)) 1 0  1 w  ht10)) <|
 .v 29 (vP 2 4) <|
 .v 30 (vP 2 6) <|
 .cons [31] (ok_ldK (fun u8 => .agg #[.func (.func 179) #[] #[], .func (.func 181) #[] #[]]) 31 999999 gk 2 6 2 gTab2 (fun w h => (glob_of h).tab2)) <|
 .cons [5, 62] (ok_new (fun b => vP b 0) (fun u8 => [.nilFunc, .nilFunc]) 226 5 62) <|
 .cons [62] (ok_as (u' := fun u8 => [(62, .blk ((u8 9).n 0) [.func (.func 179) #[] #[], .func (.func 181) #[] #[]] 226)]) (ok_store 62 0 (fun u8 => ((u8 9).n 0)) (fun u8 => [.nilFunc, .nilFunc]) (fun u8 => [.func (.func 179) #[] #[], .func (.func 181) #[] #[]]) 226) (fun _ => by kernel_rfl)) <| .nil) [2, 3, 4, 5, 59, 60, 61, 62, 999999] fun u8 a w' H => ?_
    replace G := bnd G; obtain ⟨t12, ht12, G⟩ := G
    replace G := bnd G; obtain ⟨t13, ht13, G⟩ := G
    refine k_srk mixed H (.v 33 (vP ((u8 9).n 0) 0) <|
 .cons [34] (ok_ldc (.func (.func 179) #[] #[]) 34 62 0 1 ((u8 9).n 0) [.func (.func 179) #[] #[], .func (.func 181) #[] #[]] 226) <|
 .cons [35] (ok_ldc (.agg #[vI a0.Lo, vI a0.Hi]) 35 59 0 2 ((u1 0).n 0) [vI a0.Lo, vI a0.Hi] 46) <|
 .cons [36] (ok_ldc (.agg #[vI a1.Lo, vI a1.Hi]) 36 60 0 2 ((u1 1).n 0) [vI a1.Lo, vI a1.Hi] 46) <|
 .cons [37] (ok_callv 179 _ _ 37 [] (fun u11 w _ => interval_ll.calls a0 a1  t12 w  ht12)) <|
 .v 38 (vI t12.1) <|
 .v 39 (vI t12.2) <|
 .cons [40] (ok_callv 145 _ _ 40 [] (fun u11 w _ => fixed_Div.calls t12.1 t12.2  t13 w  ht13)) <|
 .v 32 (.tuple #[vI t13.1, vI t13.2.1, vI t13.2.2]) <|
 .v 41 (vI t13.1) <|
 .v 42 (vI t13.2.1) <|
 .v 43 (vI t13.2.2) <|
 .v 6 (vI t13.1) <|
 .v 7 (vI t13.2.1) <|
 .v 8 (vI t13.2.2) <| .nil) [2, 3, 4, 5, 6, 59, 60, 61, 62, 999999] fun u11 a w' H => ?_
    replace G := bnd G; obtain ⟨t15, ht15, G⟩ := G
    replace G := bnd G; obtain ⟨t16, ht16, G⟩ := G
    refine k_srg mixed H (.v 45 (vP ((u8 9).n 0) 1) <|
 .cons [46] (ok_ldc (.func (.func 181) #[] #[]) 46 62 1 1 ((u8 9).n 0) [.func (.func 179) #[] #[], .func (.func 181) #[] #[]] 226) <|
 .cons [47] (ok_ldc (.agg #[vI a0.Lo, vI a0.Hi]) 47 59 0 2 ((u1 0).n 0) [vI a0.Lo, vI a0.Hi] 46) <|
 .cons [48] (ok_ldc (.agg #[vI a1.Lo, vI a1.Hi]) 48 60 0 2 ((u1 1).n 0) [vI a1.Lo, vI a1.Hi] 46) <|
 .cons [49] (ok_callv 181 _ _ 49 [] (fun u14 w _ => interval_hl.calls a0 a1  t15 w  ht15)) <|
 .v 50 (vI t15.1) <|
 .v 51 (vI t15.2) <|
 .cons [52] (ok_callv 145 _ _ 52 [] (fun u14 w _ => fixed_Div.calls t15.1 t15.2  t16 w  ht16)) <|
 .v 44 (.tuple #[vI t16.1, vI t16.2.1, vI t16.2.2]) <|
 .v 53 (vI t16.1) <|
 .v 54 (vI t16.2.1) <|
 .v 55 (vI t16.2.2) <|
 .v 9 (vI t16.1) <|
 .v 10 (vI t16.2.1) <|
 .v 11 (vI t16.2.2) <| .nil) fun u14 a w' H => ?_
    replace H := H.toM [(4, (sP ((u1 2).n 0) 0)), (6, sI t13.1), (10, sI t16.2.1), (61, .blk ((u1 2).n 0) [vI 0, vI 0] 46), (999999, gk)]
    replace G := bnd G; obtain ⟨t18, ht18, G⟩ := G
    refine k_srk mixed H (.v 56 (vI t13.1) <|
 .v 57 (vI t16.2.1) <|
 .cons [58] (ok_callv 68 _ _ 58 [] (fun u17 w _ => interval_New.calls t13.1 t16.2.1  t18 w  ht18)) <|
 .cons [61] (ok_stc 61 0 ((u1 2).n 0) [vI 0, vI 0] [vI t18.Lo, vI t18.Hi] 46 [vI t18.Lo, vI t18.Hi]) <| .nil) [4, 61, 999999] fun u17 a w' H => ?_
    refine k_ret ?_
    obtain rfl := sj G
    exact k_done1 H _ 61 ((u1 2).n 0) [vI t18.Lo, vI t18.Hi] 46 0 2 (by kernel_rfl) (by kernel_rfl) (by kernel_rfl) (by kernel_rfl)
   rw [if_neg c20] at G
   cases G
  rw [if_neg c22] at G
  by_cases c23 : t9 = 2
  ·rw [if_pos c23] at G; subst c23
   replace G := bnd G; obtain ⟨t10, ht10, G⟩ := G
   by_cases c19 : t10 = 0
   ·rw [if_pos c19] at G; subst c19
    refine k_rk mixed H (.cons [23] (ok_ldc (.agg #[vI a0.Lo, vI a0.Hi]) 23 59 0 2 ((u1 0).n 0) [vI a0.Lo, vI a0.Hi] 46) <|
 .cons [24] (ok_callv 136 _ _ 24 [] (fun u8 w _ => interval_side.calls a0  2 w  ht9)) <|
 .v 25 (vP ((u1 1).n 0) 0) <|
 .cons [26] (ok_ldc (vI a1.Lo) 26 60 0 1 ((u1 1).n 0) [vI a1.Lo, vI a1.Hi] 46) <|
 .v 27 (.bool (decide (a1.Lo > 0))) <|
 .cons [28] (ok_callv 144 _ _ 28 [] (fun u8 w _ => interval_pick_int.calls (decide (a1.Lo > 0)) 1 0  0 w  ht10)) <|
 .v 29 (vP 2 8) <|
 .v 30 (vP 2 8) <|
 .cons [31] (ok_ldK (fun u8 => .agg #[.func (.func 178) #[] #[], .func (.func 179) #[] #[]]) 31 999999 gk 2 8 2 gTab2 (fun w h => (glob_of h).tab2)) <|
 .cons [5, 62] (ok_new (fun b => vP b 0) (fun u8 => [.nilFunc, .nilFunc]) 226 5 62) <|
 .cons [62] (ok_as (u' := fun u8 => [(62, .blk ((u8 9).n 0) [.func (.func 178) #[] #[], .func (.func 179) #[] #[]] 226)]) (ok_store 62 0 (fun u8 => ((u8 9).n 0)) (fun u8 => [.nilFunc, .nilFunc]) (fun u8 => [.func (.func 178) #[] #[], .func (.func 179) #[] #[]]) 226) (fun _ => by kernel_rfl)) <| .nil) [2, 3, 4, 5, 59, 60, 61, 62, 999999] fun u8 a w' H => ?_
    replace G := bnd G; obtain ⟨t12, ht12, G⟩ := G
    replace G := bnd G; obtain ⟨t13, ht13, G⟩ := G
    refine k_srk mixed H (.v 33 (vP ((u8 9).n 0) 0) <|
 .cons [34] (ok_ldc (.func (.func 178) #[] #[]) 34 62 0 1 ((u8 9).n 0) [.func (.func 178) #[] #[], .func (.func 179) #[] #[]] 226) <|
 .cons [35] (ok_ldc (.agg #[vI a0.Lo, vI a0.Hi]) 35 59 0 2 ((u1 0).n 0) [vI a0.Lo, vI a0.Hi] 46) <|
 .cons [36] (ok_ldc (.agg #[vI a1.Lo, vI a1.Hi]) 36 60 0 2 ((u1 1).n 0) [vI a1.Lo, vI a1.Hi] 46) <|
 .cons [37] (ok_callv 178 _ _ 37 [] (fun u11 w _ => interval_hh.calls a0 a1  t12 w  ht12)) <|
 .v 38 (vI t12.1) <|
 .v 39 (vI t12.2) <|
 .cons [40] (ok_callv 145 _ _ 40 [] (fun u11 w _ => fixed_Div.calls t12.1 t12.2  t13 w  ht13)) <|
 .v 32 (.tuple #[vI t13.1, vI t13.2.1, vI t13.2.2]) <|
 .v 41 (vI t13.1) <|
 .v 42 (vI t13.2.1) <|
 .v 43 (vI t13.2.2) <|
 .v 6 (vI t13.1) <|
 .v 7 (vI t13.2.1) <|
 .v 8 (vI t13.2.2) <| .nil) [2, 3, 4, 5, 6, 59, 60, 61, 62, 999999] fun u11 a w' H => ?_
    replace G := bnd G; obtain ⟨t15, ht15, G⟩ := G
    replace G := bnd G; obtain ⟨t16, ht16, G⟩ := G
    refine k_srk mixed H (.v 45 (vP ((u8 9).n 0) 1) <|
 .cons [46] (ok_ldc (.func (.func 179) #[] #[]) 46 62 1 1 ((u8 9).n 0) [.func (.func 178) #[] #[], .func (.func 179) #[] #[]] 226) <|
 .cons [47] (ok_ldc (.agg #[vI a0.Lo, vI a0.Hi]) 47 59 0 2 ((u1 0).n 0) [vI a0.Lo, vI a0.Hi] 46) <|
 .cons [48] (ok_ldc (.agg #[vI a1.Lo, vI a1.Hi]) 48 60 0 2 ((u1 1).n 0) [vI a1.Lo, vI a1.Hi] 46) <|
 .cons [49] (ok_callv 179 _ _ 49 [] (fun u14 w _ => interval_ll.calls a0 a1  t15 w  ht15)) <|
 .v 50 (vI t15.1) <|
 .v 51 (vI t15.2) <|
 .cons [52] (ok_callv 145 _ _ 52 [] (fun u14 w _ => fixed_Div.calls t15.1 t15.2  t16 w  ht16)) <|
 .v 44 (.tuple #[vI t16.1, vI t16.2.1, vI t16.2.2]) <|
 .v 53 (vI t16.1) <|
 .v 54 (vI t16.2.1) <|
 .v 55 (vI t16.2.2) <|
 .v 9 (vI t16.1) <|
 .v 10 (vI t16.2.1) <|
 .v 11 (vI t16.2.2) <| .nil) [4, 6, 10, 61, 999999] fun u14 a w' H => ?_
    replace G := bnd G; obtain ⟨t18, ht18, G⟩ := G
    refine k_srk mixed H (.v 56 (vI t13.1) <|
 .v 57 (vI t16.2.1) <|
 .cons [58] (ok_callv 68 _ _ 58 [] (fun u17 w _ => interval_New.calls t13.1 t16.2.1  t18 w  ht18)) <|
 .cons [61] (ok_stc 61 0 ((u1 2).n 0) [vI 0, vI 0] [vI t18.Lo, vI t18.Hi] 46 [vI t18.Lo, vI t18.Hi]) <| .nil) [4, 61, 999999] fun u17 a w' H => ?_
    refine k_ret ?_
    obtain rfl := sj G
    exact k_done1 H _ 61 ((u1 2).n 0) [vI t18.Lo, vI t18.Hi] 46 0 2 (by kernel_rfl) (by kernel_rfl) (by kernel_rfl) (by kernel_rfl)
   rw [if_neg c19] at G
   by_cases c20 : t10 = 1
   ·rw [if_pos c20] at G; subst c20
    refine k_rk mixed H (.cons [23] (ok_ldc (.agg #[vI a0.Lo, vI a0.Hi]) 23 59 0 2 ((u1 0).n 0) [vI a0.Lo, vI a0.Hi] 46) <|
 .cons [24] (ok_callv 136 _ _ 24 [] (fun u8 w _ => interval_side.calls a0  2 w  ht9)) <|
 .v 25 (vP ((u1 1).n 0) 0) <|
 .cons [26] (ok_ldc (vI a1.Lo) 26 60 0 1 ((u1 1).n 0) [vI a1.Lo, vI a1.Hi] 46) <|
 .v 27 (.bool (decide (a1.Lo > 0))) <|
 .cons [28] (ok_callv 144 _ _ 28 [] (fun u8 w _ => interval_pick_int.calls (decide (a1.Lo > 0)) 1 0  1 w  ht10)) <|
 .v 29 (vP 2 8) <|
 .v 30 (vP 2 10) <|
 .cons [31] (ok_ldK (fun u8 => .agg #[.func (.func 180) #[] #[], .func (.func 181) #[] #[]]) 31 999999 gk 2 10 2 gTab2 (fun w h => (glob_of h).tab2)) <|
 .cons [5, 62] (ok_new (fun b => vP b 0) (fun u8 => [.nilFunc, .nilFunc]) 226 5 62) <|
 .cons [62] (ok_as (u' := fun u8 => [(62, .blk ((u8 9).n 0) [.func (.func 180) #[] #[], .func (.func 181) #[] #[]] 226)]) (ok_store 62 0 (fun u8 => ((u8 9).n 0)) (fun u8 => [.nilFunc, .nilFunc]) (fun u8 => [.func (.func 180) #[] #[], .func (.func 181) #[] #[]]) 226) (fun _ => by kernel_rfl)) <| .nil) [2, 3, 4, 5, 59, 60, 61, 62, 999999] fun u8 a w' H => ?_
    replace G := bnd G; obtain ⟨t12, ht12, G⟩ := G
    replace G := bnd G; obtain ⟨t13, ht13, G⟩ := G
    refine k_srk mixed H (.v 33 (vP ((u8 9).n 0) 0) <|
 .cons [34] (ok_ldc (.func (.func 180) #[] #[]) 34 62 0 1 ((u8 9).n 0) [.func (.func 180) #[] #[], .func (.func 181) #[] #[]] 226) <|
 .cons [35] (ok_ldc (.agg #[vI a0.Lo, vI a0.Hi]) 35 59 0 2 ((u1 0).n 0) [vI a0.Lo, vI a0.Hi] 46) <|
 .cons [36] (ok_ldc (.agg #[vI a1.Lo, vI a1.Hi]) 36 60 0 2 ((u1 1).n 0) [vI a1.Lo, vI a1.Hi] 46) <|
 .cons [37] (ok_callv 180 _ _ 37 [] (fun u11 w _ => interval_lh.calls a0 a1  t12 w  ht12)) <|
 .v 38 (vI t12.1) <|
 .v 39 (vI t12.2) <|
 .cons [40] (ok_callv 145 _ _ 40 [] (fun u11 w _ => fixed_Div.calls t12.1 t12.2  t13 w  ht13)) <|
 .v 32 (.tuple #[vI t13.1, vI t13.2.1, vI t13.2.2]) <|
 .v 41 (vI t13.1) <|
 .v 42 (vI t13.2.1) <|
 .v 43 (vI t13.2.2) <|
 .v 6 (vI t13.1) <|
 .v 7 (vI t13.2.1) <|
 .v 8 (vI t13.2.2) <| .nil) [2, 3, 4, 5, 6, 59, 60, 61, 62, 999999] fun u11 a w' H => ?_
    replace G := bnd G; obtain ⟨t15, ht15, G⟩ := G
    replace G := bnd G; obtain ⟨t16, ht16, G⟩ := G
    refine k_srk mixed H (.v 45 (vP ((u8 9).n 0) 1) <|
 .cons [46] (ok_ldc (.func (.func 181) #[] #[]) 46 62 1 1 ((u8 9).n 0) [.func (.func 180) #[] #[], .func (.func 181) #[] #[]] 226) <|
 .cons [47] (ok_ldc (.agg #[vI a0.Lo, vI a0.Hi]) 47 59 0 2 ((u1 0).n 0) [vI a0.Lo, vI a0.Hi] 46) <|
 .cons [48] (ok_ldc (.agg #[vI a1.Lo, vI a1.Hi]) 48 60 0 2 ((u1 1).n 0) [vI a1.Lo, vI a1.Hi] 46) <|
 .cons [49] (ok_callv 181 _ _ 49 [] (fun u14 w _ => interval_hl.calls a0 a1  t15 w  ht15)) <|
 .v 50 (vI t15.1) <|
 .v 51 (vI t15.2) <|
 .cons [52] (ok_callv 145 _ _ 52 [] (fun u14 w _ => fixed_Div.calls t15.1 t15.2  t16 w  ht16)) <|
 .v 44 (.tuple #[vI t16.1, vI t16.2.1, vI t16.2.2]) <|
 .v 53 (vI t16.1) <|
 .v 54 (vI t16.2.1) <|
 .v 55 (vI t16.2.2) <|
 .v 9 (vI t16.1) <|
 .v 10 (vI t16.2.1) <|
 .v 11 (vI t16.2.2) <| .nil) [4, 6, 10, 61, 999999] fun u14 a w' H => ?_
    replace G := bnd G; obtain ⟨t18, ht18, G⟩ := G
    refine k_srg mixed H (.v 56 (vI t13.1) <|
 .v 57 (vI t16.2.1) <|
 .cons [58] (ok_callv 68 _ _ 58 [] (fun u17 w _ => interval_New.calls t13.1 t16.2.1  t18 w  ht18)) <|
 .cons [61] (ok_stc 61 0 ((u1 2).n 0) [vI 0, vI 0] [vI t18.Lo, vI t18.Hi] 46 [vI t18.Lo, vI t18.Hi]) <| .nil) fun u17 a w' H => ?_
    replace H := H.toM [(4, (sP ((u1 2).n 0) 0)), (61, .blk ((u1 2).n 0) [vI t18.Lo, vI t18.Hi] 46), (999999, gk)]
    refine k_ret ?_
    obtain rfl := sj G
    exact k_done1 H _ 61 ((u1 2).n 0) [vI t18.Lo, vI t18.Hi] 46 0 2 (by kernel_rfl) (by kernel_rfl) (by kernel_rfl) (by kernel_rfl)
   rw [if_neg c20] at G
   cases G
  rw [if_neg c23] at G
  cases G
theorem bits_Len64.calls (a0 : Int) (r : Int) (w : World) (G : bits_Len64 a0 = some r) :
  Calls Tryz.prog 147 #[.int .u64 a0] w fun e w' => e = .returned (vI r) ∧ Below w.heap.size w w' := by
 refine k_enter (args := [.int .u64 a0]) 25 Tryz.func147 rfl (by kernel_rfl) (by kernel_rfl) fun a H => ?_
 unfold bits_Len64 at G
 refine k_srk mixed H (.v 2 (vI 0) <| .nil) [0, 2] fun u1 a w' H => ?_
 refine k_seq ?_
 obtain ⟨j4, hj4, G⟩ := bnd G
 refine k_join (fun a w' => RL w 25 [(0, .slot true (.int .u64 j4.1)), (2, sI j4.2)] a w') ?_ ?_
 ·clear H; intro a w' H
  refine k_seq ?_
  obtain ⟨j7, hj7, G⟩ := bnd G
  refine k_join (fun a w' => RL w 25 [(0, .slot true (.int .u64 j7.1)), (2, sI j7.2)] a w') ?_ ?_
  ·clear H; intro a w' H
   refine k_seq ?_
   obtain ⟨j10, hj10, G⟩ := bnd G
   refine k_join (fun a w' => RL w 25 [(0, .slot true (.int .u64 j10.1)), (2, sI j10.2)] a w') ?_ ?_
   ·clear H; intro a w' H
    obtain ⟨t12, ht12, G⟩ := bnd G
    refine k_srk mixed H (.v 19 (vI j10.2) <|
 .v 20 (.int .u64 j10.1) <|
 .v 21 (.int .u8 (w_u8 j10.1)) <|
 .cons [22] (ok_val (fun u11 => .int .u8 t12) 22 (hv := fun _ _ => run_of (by kernel_rfl) (run_index_str (t := 9) (s := (⟨#[0, 1, 2, 2, 3, 3, 3, 3, 4, 4, 4, 4, 4, 4, 4, 4, 5, 5, 5, 5, 5, 5, 5, 5, 5, 5, 5, 5, 5, 5, 5, 5, 6, 6, 6, 6, 6, 6, 6, 6, 6, 6, 6, 6, 6, 6, 6, 6, 6, 6, 6, 6, 6, 6, 6, 6, 6, 6, 6, 6, 6, 6, 6, 6, 7, 7, 7, 7, 7, 7, 7, 7, 7, 7, 7, 7, 7, 7, 7, 7, 7, 7, 7, 7, 7, 7, 7, 7, 7, 7, 7, 7, 7, 7, 7, 7, 7, 7, 7, 7, 7, 7, 7, 7, 7, 7, 7, 7, 7, 7, 7, 7, 7, 7, 7, 7, 7, 7, 7, 7, 7, 7, 7, 7, 7, 7, 7, 7, 8, 8, 8, 8, 8, 8, 8, 8, 8, 8, 8, 8, 8, 8, 8, 8, 8, 8, 8, 8, 8, 8, 8, 8, 8, 8, 8, 8, 8, 8, 8, 8, 8, 8, 8, 8, 8, 8, 8, 8, 8, 8, 8, 8, 8, 8, 8, 8, 8, 8, 8, 8, 8, 8, 8, 8, 8, 8, 8, 8, 8, 8, 8, 8, 8, 8, 8, 8, 8, 8, 8, 8, 8, 8, 8, 8, 8, 8, 8, 8, 8, 8, 8, 8, 8, 8, 8, 8, 8, 8, 8, 8, 8, 8, 8, 8, 8, 8, 8, 8, 8, 8, 8, 8, 8, 8, 8, 8, 8, 8, 8, 8, 8, 8, 8, 8, 8, 8, 8, 8, 8, 8, 8, 8, 8, 8, 8, 8]⟩ : ByteArray)) (k := .u8) (i := w_u8 j10.1) (by kernel_rfl) ht12))) <|
 .v 23 (vI (w_i64 t12)) <|
 .v 24 (vI (w_i64 (j10.2 + (w_i64 t12)))) <|
 .v 2 (vI (w_i64 (j10.2 + (w_i64 t12)))) <| .nil) [2] fun u11 a w' H => ?_
    refine k_ret ?_
    obtain rfl := sj G
    exact k_done0 H _ (by kernel_rfl) (by kernel_rfl)
   ·clear G; replace G := hj10; clear hj10
    refine k_srk mixed H (.v 13 (.int .u64 j7.1) <|
 .v 14 (.bool (decide (j7.1 ≥ 256))) <| .nil) [0, 2, 14] fun u13 a w' H => ?_
    refine k_cnd H (decide (j7.1 ≥ 256)) (fun c16 => ?_) fun c16 => ?_
    ·rw [if_pos c16] at G
     refine k_srk mixed H (.v 15 (.int .u64 j7.1) <|
 .v 16 (.int .u64 (Int.fdiv j7.1 256)) <|
 .v 0 (.int .u64 (Int.fdiv j7.1 256)) <| .nil) [0, 2] fun u14 a w' H => ?_
     refine k_rk mixed H (.v 17 (vI j7.2) <|
 .v 18 (vI (w_i64 (j7.2 + 8))) <|
 .v 2 (vI (w_i64 (j7.2 + 8))) <| .nil) [0, 2] fun u15 a w' H => ?_
     obtain rfl := sj G
     exact H.toM _
    ·rw [if_neg (nt c16)] at G
     refine k_skip ?_
     obtain rfl := sj G
     exact H.toM _
  ·clear G; replace G := hj7; clear hj7
   refine k_srk mixed H (.v 7 (.int .u64 j4.1) <|
 .v 8 (.bool (decide (j4.1 ≥ 65536))) <| .nil) [0, 2, 8] fun u17 a w' H => ?_
   refine k_cnd H (decide (j4.1 ≥ 65536)) (fun c20 => ?_) fun c20 => ?_
   ·rw [if_pos c20] at G
    refine k_srk mixed H (.v 9 (.int .u64 j4.1) <|
 .v 10 (.int .u64 (Int.fdiv j4.1 65536)) <|
 .v 0 (.int .u64 (Int.fdiv j4.1 65536)) <| .nil) [0, 2] fun u18 a w' H => ?_
    refine k_rk mixed H (.v 11 (vI j4.2) <|
 .v 12 (vI (w_i64 (j4.2 + 16))) <|
 .v 2 (vI (w_i64 (j4.2 + 16))) <| .nil) [0, 2] fun u19 a w' H => ?_
    obtain rfl := sj G
    exact H.toM _
   ·rw [if_neg (nt c20)] at G
    refine k_skip ?_
    obtain rfl := sj G
    exact H.toM _
 ·clear G; replace G := hj4; clear hj4
  refine k_srk mixed H (.v 3 (.int .u64 a0) <|
 .v 4 (.bool (decide (a0 ≥ 4294967296))) <| .nil) [0, 2, 4] fun u21 a w' H => ?_
  refine k_cnd H (decide (a0 ≥ 4294967296)) (fun c24 => ?_) fun c24 => ?_
  ·rw [if_pos c24] at G
   refine k_srg mixed H (.v 5 (.int .u64 a0) <|
 .v 6 (.int .u64 (Int.fdiv a0 4294967296)) <|
 .v 0 (.int .u64 (Int.fdiv a0 4294967296)) <| .nil) fun u22 a w' H => ?_
   replace H := H.toM [(0, .slot true (.int .u64 (Int.fdiv a0 4294967296)))]
   refine k_rk mixed H (.v 2 (vI 32) <| .nil) [0, 2] fun u23 a w' H => ?_
   obtain rfl := sj G
   exact H.toM _
  ·rw [if_neg (nt c24)] at G
   refine k_skip ?_
   obtain rfl := sj G
   exact H.toM _
theorem fixed_Sqrt.calls (k0 : Nat) (a0 : Int) (r : Int × Int × Int) (w : World) (G : fixed_Sqrt k0 a0 = some r) :
  Calls Tryz.prog 146 #[vI a0] w fun e w' => e = .returned (.tuple #[vI r.1, vI r.2.1, vI r.2.2]) ∧ Below w.heap.size w w' := by
 refine k_enter (args := [vI a0]) 40 Tryz.func146 rfl (by kernel_rfl) (by kernel_rfl) fun a H => ?_
 unfold fixed_Sqrt at G
 refine k_srk mixed H (.v 2 (vI 0) <|
 .v 3 (vI 0) <|
 .v 4 (vI 0) <| .nil) [0] fun u1 a w' H => ?_
 refine k_scope ?_
 refine k_seq ?_
 refine k_srk mixed H (.v 8 (vI a0) <|
 .v 9 (.bool (decide (a0 < 0))) <| .nil) [0, 9] fun u2 a w' H => ?_
 refine k_cnd H (decide (a0 < 0)) (fun c25 => ?_) fun c25 => ?_
 ·rw [if_pos c25] at G
  refine k_srk mixed H (.v 2 (vI 0) <|
 .v 3 (vI 0) <|
 .v 4 (vI 4) <| .nil) [2, 3, 4] fun u3 a w' H => ?_
  refine k_ret ?_
  obtain rfl := sj G
  exact k_done0 H _ (by kernel_rfl) (by kernel_rfl)
 ·rw [if_neg (nt c25)] at G
  refine k_skip ?_
  refine k_srk mixed H (.v 10 (vI a0) <|
 .v 11 (vI (w_i64 (a0 * 65536))) <|
 .v 5 (vI (w_i64 (a0 * 65536))) <| .nil) [5] fun u4 a w' H => ?_
  refine k_seq ?_
  refine k_srk mixed H (.v 12 (vI (w_i64 (a0 * 65536))) <|
 .v 13 (.bool ((w_i64 (a0 * 65536)) == 0)) <| .nil) [5, 13] fun u5 a w' H => ?_
  refine k_cnd H ((w_i64 (a0 * 65536)) == 0) (fun c24 => ?_) fun c24 => ?_
  ·rw [if_pos c24] at G
   refine k_srk mixed H (.v 2 (vI 0) <|
 .v 3 (vI 0) <|
 .v 4 (vI 0) <| .nil) [2, 3, 4] fun u6 a w' H => ?_
   refine k_ret ?_
   obtain rfl := sj G
   exact k_done0 H _ (by kernel_rfl) (by kernel_rfl)
  ·rw [if_neg (nt c24)] at G
   refine k_skip ?_
   refine k_seq ?_
   obtain ⟨t8, ht8, G⟩ := bnd G
   replace G := gd G; obtain ⟨n9, G⟩ := G
   refine k_rk mixed H (.v 14 (vI (w_i64 (a0 * 65536))) <|
 .v 15 (.int .u64 (w_u64 (w_i64 (a0 * 65536)))) <|
 .cons [16] (ok_callv 147 _ _ 16 [] (fun u7 w _ => bits_Len64.calls (w_u64 (w_i64 (a0 * 65536)))  t8 w  ht8)) <|
 .v 17 (vI (w_i64 (t8 + 1))) <|
 .v 18 (vI (w_i64 (Int.tdiv (w_i64 (t8 + 1)) 2))) <|
 .cons [19] (ok_val (fun u7 => vI (w_i64 (1 * 2 ^ (min (w_i64 (Int.tdiv (w_i64 (t8 + 1)) 2)).toNat 64)))) 19 (hv := fun _ _ => run_of (by kernel_rfl) (run_shl (k := .i64) (yk := .i64) (x := 1) (y := w_i64 (Int.tdiv (w_i64 (t8 + 1)) 2)) n9))) <|
 .v 6 (vI (w_i64 (1 * 2 ^ (min (w_i64 (Int.tdiv (w_i64 (t8 + 1)) 2)).toNat 64)))) <| .nil) [5, 6] fun u7 a w' H => ?_
   refine k_seq ?_
   refine k_label ?_
   refine k_seq ?_
   obtain ⟨j11, hj11, G⟩ := bnd G
   refine k_join (fun a w' => RL w 40 [(5, (sI (w_i64 (a0 * 65536)))), (6, sI j11)] a w') ?_ ?_
   ·clear H; intro a w' H
    refine k_seq ?_
    refine k_srk mixed H (.v 30 (vI j11) <|
 .v 31 (vI j11) <|
 .v 32 (vI (w_i64 (j11 * j11))) <|
 .v 33 (vI (w_i64 (a0 * 65536))) <|
 .v 34 (.bool (decide ((w_i64 (j11 * j11)) < (w_i64 (a0 * 65536))))) <| .nil) [6, 34] fun u12 a w' H => ?_
    refine k_cnd H (decide ((w_i64 (j11 * j11)) < (w_i64 (a0 * 65536)))) (fun c15 => ?_) fun c15 => ?_
    ·rw [if_pos c15] at G
     refine k_srk mixed H (.v 35 (vI j11) <|
 .v 36 (vI j11) <|
 .v 37 (vI (w_i64 (j11 + 1))) <|
 .v 2 (vI j11) <|
 .v 3 (vI (w_i64 (j11 + 1))) <|
 .v 4 (vI 0) <| .nil) [2, 3, 4] fun u13 a w' H => ?_
     refine k_ret ?_
     obtain rfl := sj G
     exact k_done0 H _ (by kernel_rfl) (by kernel_rfl)
    ·rw [if_neg (nt c15)] at G
     refine k_skip ?_
     refine k_srk mixed H (.v 38 (vI j11) <|
 .v 39 (vI j11) <|
 .v 2 (vI j11) <|
 .v 3 (vI j11) <|
 .v 4 (vI 0) <| .nil) [2, 3, 4] fun u14 a w' H => ?_
     refine k_ret ?_
     obtain rfl := sj G
     exact k_done0 H _ (by kernel_rfl) (by kernel_rfl)
   ·clear G; replace G := hj11; clear hj11
    refine k_block ?_
    refine k_loopJ (fun m a w' => ∃ x16 : Int, fixed_Sqrt.l17 k0 a0 t8 m x16 = some j11 ∧ RL w 40 [(5, (sI (w_i64 (a0 * 65536)))), (6, sI x16)] a w') k0 ⟨_, G, H.toM _⟩ ?_
    clear G H
    rintro (_ | k) a w' ⟨x16, G, H⟩
    ·exact absurd G (by unfold fixed_Sqrt.l17; exact fun h => by cases h)
    ·unfold fixed_Sqrt.l17 at G
     refine k_block ?_
     refine k_seq ?_
     replace G := gd G; obtain ⟨n19, G⟩ := G
     refine k_rk mixed H (.v 20 (vI x16) <|
 .v 21 (vI (w_i64 (a0 * 65536))) <|
 .v 22 (vI x16) <|
 .cons [23] (ok_val (fun u18 => vI (w_i64 (Int.tdiv (w_i64 (a0 * 65536)) x16))) 23 (hv := fun _ _ => run_of (by kernel_rfl) (run_quo (k := .i64) (x := w_i64 (a0 * 65536)) (y := x16) n19))) <|
 .v 24 (vI (w_i64 (x16 + (w_i64 (Int.tdiv (w_i64 (a0 * 65536)) x16))))) <|
 .v 25 (vI (w_i64 (Int.tdiv (w_i64 (x16 + (w_i64 (Int.tdiv (w_i64 (a0 * 65536)) x16)))) 2))) <|
 .v 7 (vI (w_i64 (Int.tdiv (w_i64 (x16 + (w_i64 (Int.tdiv (w_i64 (a0 * 65536)) x16)))) 2))) <| .nil) [5, 6, 7] fun u18 a w' H => ?_
     refine k_seq ?_
     obtain ⟨z21, hz21, G⟩ := bnd G
     replace hz21 := Option.some.inj hz21
     refine k_srk mixed H (.v 26 (vI (w_i64 (Int.tdiv (w_i64 (x16 + (w_i64 (Int.tdiv (w_i64 (a0 * 65536)) x16)))) 2))) <|
 .v 27 (vI x16) <|
 .cons [28] (ok_as (u' := fun u20 => [(28, sB z21)]) (ok_val (fun u20 => .bool (decide ((w_i64 (Int.tdiv (w_i64 (x16 + (w_i64 (Int.tdiv (w_i64 (a0 * 65536)) x16)))) 2)) ≥ x16))) 28) (fun _ => by rw [← hz21])) <| .nil) [5, 6, 7, 28] fun u20 a w' H => ?_
     refine k_cnd H z21 (fun c23 => ?_) fun c23 => ?_
     ·rw [if_pos c23] at G
      refine k_exit rfl ?_
      obtain rfl := sj G
      exact H.toM _
     ·rw [if_neg (nt c23)] at G
      refine k_skip ?_
      refine k_rk mixed H (.v 29 (vI (w_i64 (Int.tdiv (w_i64 (x16 + (w_i64 (Int.tdiv (w_i64 (a0 * 65536)) x16)))) 2))) <|
 .v 6 (vI (w_i64 (Int.tdiv (w_i64 (x16 + (w_i64 (Int.tdiv (w_i64 (a0 * 65536)) x16)))) 2))) <| .nil) [5, 6] fun u22 a w' H => ?_
      exact ⟨k, Nat.lt_succ_self k, _, G, H.toM _⟩
theorem interval_Sqrt.calls (k0 : Nat) (a0 : TInterval) (r : TInterval × Bool) (w : World) (G : interval_Sqrt k0 a0 = some r) :
  Calls Tryz.prog 138 #[.agg #[vI a0.Lo, vI a0.Hi]] w fun e w' => e = .returned (.tuple #[.agg #[vI r.1.Lo, vI r.1.Hi], .bool r.2]) ∧ Below w.heap.size w w' := by
 refine k_enter (args := [.agg #[vI a0.Lo, vI a0.Hi]]) 37 Tryz.func138 rfl (by kernel_rfl) (by kernel_rfl) fun a H => ?_
 unfold interval_Sqrt at G
 refine k_srk mixed H (.cons [1, 37] (ok_new (fun b => vP b 0) (fun u1 => [vI a0.Lo, vI a0.Hi]) 46 1 37) <|
 .cons [2, 38] (ok_new (fun b => vP b 0) (fun u1 => [vI 0, vI 0]) 46 2 38) <|
 .v 3 (.bool false) <| .nil) [1, 2, 37, 38] fun u1 a w' H => ?_
 refine k_seq ?_
 refine k_block ?_
 obtain ⟨t3, ht3, G⟩ := bnd G
 refine k_srk mixed H (.cons [11] (ok_ldc (.agg #[vI a0.Lo, vI a0.Hi]) 11 37 0 2 ((u1 0).n 0) [vI a0.Lo, vI a0.Hi] 46) <|
 .cons [12] (ok_callv 21 _ _ 12 [] (fun u2 w _ => interval_IsEntire.calls a0  t3 w  ht3)) <|
 .v 10 (.bool t3) <| .nil) [1, 2, 10, 37, 38] fun u2 a w' H => ?_
 refine k_cnd H t3 (fun c14 => ?_) fun c14 => ?_
 ·rw [if_pos c14] at G
  refine k_srk mixed H (.cons [13] (ok_ldc (.agg #[vI a0.Lo, vI a0.Hi]) 13 37 0 2 ((u1 0).n 0) [vI a0.Lo, vI a0.Hi] 46) <|
 .cons [38] (ok_stc 38 0 ((u1 1).n 0) [vI 0, vI 0] [vI a0.Lo, vI a0.Hi] 46 [vI a0.Lo, vI a0.Hi]) <|
 .v 3 (.bool true) <| .nil) [2, 3, 38] fun u4 a w' H => ?_
  refine k_ret ?_
  obtain rfl := sj G
  exact k_done1 H _ 38 ((u1 1).n 0) [vI a0.Lo, vI a0.Hi] 46 0 2 (by kernel_rfl) (by kernel_rfl) (by kernel_rfl) (by kernel_rfl)
 ·rw [if_neg (nt c14)] at G
  refine k_srk mixed H (.v 15 (vP ((u1 0).n 0) 1) <|
 .cons [16] (ok_ldc (vI a0.Hi) 16 37 1 1 ((u1 0).n 0) [vI a0.Lo, vI a0.Hi] 46) <|
 .v 17 (.bool (decide (a0.Hi < 0))) <|
 .v 14 (.bool (decide (a0.Hi < 0))) <| .nil) [1, 2, 14, 37, 38] fun u5 a w' H => ?_
  refine k_cnd H (decide (a0.Hi < 0)) (fun c13 => ?_) fun c13 => ?_
  ·rw [if_pos c13] at G
   refine k_srk mixed H (.v 18 (.agg #[vI 0, vI 0]) <|
 .cons [38] (ok_stc 38 0 ((u1 1).n 0) [vI 0, vI 0] [vI 0, vI 0] 46 [vI 0, vI 0]) <|
 .v 3 (.bool false) <| .nil) [2, 3, 38] fun u6 a w' H => ?_
   refine k_ret ?_
   obtain rfl := sj G
   exact k_done1 H _ 38 ((u1 1).n 0) [vI 0, vI 0] 46 0 2 (by kernel_rfl) (by kernel_rfl) (by kernel_rfl) (by kernel_rfl)
  ·rw [if_neg (nt c13)] at G
   refine k_skip ?_
   obtain ⟨t8, ht8, G⟩ := bnd G
   refine k_srk mixed H (.v 20 (vP ((u1 0).n 0) 0) <|
 .cons [21] (ok_ldc (vI a0.Lo) 21 37 0 1 ((u1 0).n 0) [vI a0.Lo, vI a0.Hi] 46) <|
 .v 22 (vI (mx a0.Lo 0)) <|
 .cons [23] (ok_callv 146 _ _ 23 [] (fun u7 w _ => fixed_Sqrt.calls k0 (mx a0.Lo 0)  t8 w  ht8)) <|
 .v 19 (.tuple #[vI t8.1, vI t8.2.1, vI t8.2.2]) <|
 .v 24 (vI t8.1) <|
 .v 25 (vI t8.2.1) <|
 .v 26 (vI t8.2.2) <|
 .v 4 (vI t8.1) <|
 .v 5 (vI t8.2.1) <|
 .v 6 (vI t8.2.2) <| .nil) [1, 2, 4, 37, 38] fun u7 a w' H => ?_
   obtain ⟨t10, ht10, G⟩ := bnd G
   refine k_srk mixed H (.v 28 (vP ((u1 0).n 0) 1) <|
 .cons [29] (ok_ldc (vI a0.Hi) 29 37 1 1 ((u1 0).n 0) [vI a0.Lo, vI a0.Hi] 46) <|
 .cons [30] (ok_callv 146 _ _ 30 [] (fun u9 w _ => fixed_Sqrt.calls k0 a0.Hi  t10 w  ht10)) <|
 .v 27 (.tuple #[vI t10.1, vI t10.2.1, vI t10.2.2]) <|
 .v 31 (vI t10.1) <|
 .v 32 (vI t10.2.1) <|
 .v 33 (vI t10.2.2) <|
 .v 7 (vI t10.1) <|
 .v 8 (vI t10.2.1) <|
 .v 9 (vI t10.2.2) <| .nil) [2, 4, 8, 38] fun u9 a w' H => ?_
   obtain ⟨t12, ht12, G⟩ := bnd G
   refine k_srk mixed H (.v 34 (vI t8.1) <|
 .v 35 (vI t10.2.1) <|
 .cons [36] (ok_callv 68 _ _ 36 [] (fun u11 w _ => interval_New.calls t8.1 t10.2.1  t12 w  ht12)) <|
 .cons [38] (ok_stc 38 0 ((u1 1).n 0) [vI 0, vI 0] [vI t12.Lo, vI t12.Hi] 46 [vI t12.Lo, vI t12.Hi]) <|
 .v 3 (.bool true) <| .nil) [2, 3, 38] fun u11 a w' H => ?_
   refine k_ret ?_
   obtain rfl := sj G
   exact k_done1 H _ 38 ((u1 1).n 0) [vI t12.Lo, vI t12.Hi] 46 0 2 (by kernel_rfl) (by kernel_rfl) (by kernel_rfl) (by kernel_rfl)
theorem tape_root.calls (k0 : Nat) (a0 : TInterval) (r : TInterval) (w : World) (G : tape_root k0 a0 = some r) :
  Calls Tryz.prog 182 #[.agg #[vI a0.Lo, vI a0.Hi]] w fun e w' => e = .returned (.agg #[vI r.Lo, vI r.Hi]) ∧ Below w.heap.size w w' := by
 refine k_enter (args := [.agg #[vI a0.Lo, vI a0.Hi]]) 15 Tryz.func182 rfl (by kernel_rfl) (by kernel_rfl) fun a H => ?_
 unfold tape_root at G
 refine k_srk mixed H (.cons [1, 15] (ok_new (fun b => vP b 0) (fun u1 => [vI a0.Lo, vI a0.Hi]) 46 1 15) <|
 .cons [2, 16] (ok_new (fun b => vP b 0) (fun u1 => [vI 0, vI 0]) 46 2 16) <| .nil) [1, 2, 15, 16] fun u1 a w' H => ?_
 refine k_seq ?_
 refine k_srk mixed H (.v 5 (vP ((u1 0).n 0) 0) <|
 .cons [6] (ok_ldc (vI a0.Lo) 6 15 0 1 ((u1 0).n 0) [vI a0.Lo, vI a0.Hi] 46) <|
 .v 7 (.bool (decide (a0.Lo < 0))) <| .nil) [1, 2, 7, 15, 16] fun u2 a w' H => ?_
 refine k_cnd H (decide (a0.Lo < 0)) (fun c8 => ?_) fun c8 => ?_
 ·rw [if_pos c8] at G
  obtain ⟨t4, ht4, G⟩ := bnd G
  refine k_srk mixed H (.cons [8] (ok_callv 48 _ _ 8 [] (fun u3 w _ => interval_Entire.calls   t4 w  ht4)) <|
 .cons [16] (ok_stc 16 0 ((u1 1).n 0) [vI 0, vI 0] [vI t4.Lo, vI t4.Hi] 46 [vI t4.Lo, vI t4.Hi]) <| .nil) [2, 16] fun u3 a w' H => ?_
  refine k_ret ?_
  obtain rfl := sj G
  exact k_done1 H _ 16 ((u1 1).n 0) [vI t4.Lo, vI t4.Hi] 46 0 2 (by kernel_rfl) (by kernel_rfl) (by kernel_rfl) (by kernel_rfl)
 ·rw [if_neg (nt c8)] at G
  refine k_skip ?_
  obtain ⟨t6, ht6, G⟩ := bnd G
  refine k_srk mixed H (.cons [10] (ok_ldc (.agg #[vI a0.Lo, vI a0.Hi]) 10 15 0 2 ((u1 0).n 0) [vI a0.Lo, vI a0.Hi] 46) <|
 .cons [11] (ok_callv 138 _ _ 11 [] (fun u5 w _ => interval_Sqrt.calls k0 a0  t6 w  ht6)) <|
 .v 9 (.tuple #[.agg #[vI t6.1.Lo, vI t6.1.Hi], .bool t6.2]) <|
 .v 12 (.agg #[vI t6.1.Lo, vI t6.1.Hi]) <|
 .v 13 (.bool t6.2) <|
 .cons [3, 17] (ok_new (fun b => vP b 0) (fun u5 => [vI 0, vI 0]) 46 3 17) <|
 .cons [17] (ok_as (u' := fun u5 => [(17, .blk ((u5 5).n 0) [vI t6.1.Lo, vI t6.1.Hi] 46)]) (ok_store 17 0 (fun u5 => ((u5 5).n 0)) (fun u5 => [vI 0, vI 0]) (fun u5 => [vI t6.1.Lo, vI t6.1.Hi]) 46) (fun _ => by kernel_rfl)) <|
 .v 4 (.bool t6.2) <| .nil) [2, 3, 16, 17] fun u5 a w' H => ?_
  refine k_srk mixed H (.cons [14] (ok_ldc (.agg #[vI t6.1.Lo, vI t6.1.Hi]) 14 17 0 2 ((u5 5).n 0) [vI t6.1.Lo, vI t6.1.Hi] 46) <|
 .cons [16] (ok_stc 16 0 ((u1 1).n 0) [vI 0, vI 0] [vI t6.1.Lo, vI t6.1.Hi] 46 [vI t6.1.Lo, vI t6.1.Hi]) <| .nil) [2, 16] fun u7 a w' H => ?_
  refine k_ret ?_
  obtain rfl := sj G
  exact k_done1 H _ 16 ((u1 1).n 0) [vI t6.1.Lo, vI t6.1.Hi] 46 0 2 (by kernel_rfl) (by kernel_rfl) (by kernel_rfl) (by kernel_rfl)
end Go.Proofs.YtpmgpcklieincaaGreatDoor
