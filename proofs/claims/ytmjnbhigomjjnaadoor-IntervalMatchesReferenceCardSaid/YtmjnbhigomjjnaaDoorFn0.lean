/- Each function of the program answers as the plain Lean function of its name (part 0). Printed by a program of this session. -/
import Derived.Test.YtmjnbhigomjjnaaDoorSxLast
import Derived.Test.YtmjnbhigomjjnaaDoorDefs
import Derived.Test.YtmjnbhigomjjnaaDoorProg
set_option linter.unusedVariables false
set_option maxRecDepth 100000
namespace Go.Proofs.YtmjnbhigomjjnaaDoor
open Go Go.RowKit Go.Sx Go.Proofs
theorem mixed : Tryd.prog.follows .mixedOrders = true := by kernel_rfl
def gTab0 : List Value := [.func (.func 96) #[] #[], .func (.func 97) #[] #[], .func (.func 98) #[] #[], .func (.func 97) #[] #[], .func (.func 98) #[] #[], .func (.func 99) #[] #[], .func (.func 99) #[] #[], .func (.func 97) #[] #[], .nilFunc, .nilFunc, .func (.func 98) #[] #[], .func (.func 96) #[] #[], .func (.func 99) #[] #[], .func (.func 98) #[] #[], .func (.func 99) #[] #[], .func (.func 96) #[] #[], .func (.func 97) #[] #[], .func (.func 96) #[] #[]]
def gTab1 : List Value := [.func (.func 99) #[] #[], .func (.func 98) #[] #[], .func (.func 97) #[] #[], .func (.func 96) #[] #[], .func (.func 96) #[] #[], .func (.func 98) #[] #[], .func (.func 97) #[] #[], .func (.func 99) #[] #[], .func (.func 96) #[] #[], .func (.func 97) #[] #[], .func (.func 98) #[] #[], .func (.func 99) #[] #[]]
structure Glob (w : World) : Prop where
  tab0 : ∃ e fz, w.heap[0]? = some (.cells gTab0.toArray e fz)
  tab1 : ∃ e fz, w.heap[1]? = some (.cells gTab1.toArray e fz)
def globFp (i : Nat) : Prop := i < 2
def gk : KV := .fact globFp Glob
theorem glob_of {w : World} (h : gk.holds w) : Glob w := h w (agree.refl _ _)
theorem glob_local {w : World} (h : Glob w) (w' : World) (ha : agree globFp w w') : Glob w' := ⟨by obtain ⟨e, fz, he⟩ := h.tab0; exact ⟨e, fz, (ha 0 (show 0 < 2 by decide)).trans he⟩, by obtain ⟨e, fz, he⟩ := h.tab1; exact ⟨e, fz, (ha 1 (show 1 < 2 by decide)).trans he⟩⟩
theorem glob_in {w : World} (h : Glob w) (i : Nat) (hi : globFp i) : i < w.heap.size := by
  obtain ⟨e, fz, he⟩ := h.tab1
  have h1 := (Array.getElem?_eq_some_iff.1 he).1
  have h2 : i < 2 := hi
  omega

set_option maxHeartbeats 4000000 in
theorem interval_Entire.calls (r : TInterval) (w : World) (G : interval_Entire = some r) :
    Calls Tryd.prog 50 #[] w fun e w' => e = .returned (.agg #[.int .i64 r.Lo, .int .i64 r.Hi]) ∧ Below w.heap.size w w' := by
  refine k_enter (args := []) 2 Tryd.func50 rfl (by kernel_rfl) (by kernel_rfl) fun a H => ?_
  unfold interval_Entire at G
  refine k_seq ?_
  refine k_reg mixed H (.cons [0, 2] (ok_new (fun b => .pointer (some ⟨b, 0, none⟩)) (fun ν1 => [.int .i64 0, .int .i64 0]) 23 0 2) <| .nil) (by kernel_rfl) fun ν1 a w' H => ?_
  replace H := H.toL [(0, .slot true (.pointer (some ⟨((ν1 0).n 0), 0, none⟩))), (2, .blk ((ν1 0).n 0) [.int .i64 0, .int .i64 0] 23)] (by kernel_rfl)
  refine k_seq ?_
  refine k_reg mixed H (.cons [1] (ok_val (fun ν2 => .agg #[.int .i64 (-2147483648), .int .i64 2147483648]) 1) <|
      .cons [2] (ok_as (u' := fun ν2 => [(2, .blk ((ν1 0).n 0) [.int .i64 (-2147483648), .int .i64 2147483648] 23)]) (ok_store 2 0 (fun ν2 => ((ν1 0).n 0)) (fun ν2 => [.int .i64 0, .int .i64 0]) (fun ν2 => [.int .i64 (-2147483648), .int .i64 2147483648]) 23) (fun _ => by kernel_rfl)) <| .nil) (by kernel_rfl) fun ν2 a w' H => ?_
  replace H := H.toL [(0, .slot true (.pointer (some ⟨((ν1 0).n 0), 0, none⟩))), (2, .blk ((ν1 0).n 0) [.int .i64 (-2147483648), .int .i64 2147483648] 23)] (by kernel_rfl)
  refine k_ret ?_
  obtain rfl := Option.some.inj G
  exact k_done1 H _ 2 ((ν1 0).n 0) [.int .i64 (-2147483648), .int .i64 2147483648] 23 0 2 (by kernel_rfl) (by kernel_rfl) (by kernel_rfl) (by kernel_rfl)

set_option maxHeartbeats 4000000 in
theorem interval_IsEntire.calls (a0 : TInterval) (r : Bool) (w : World) (G : interval_IsEntire a0 = some r) :
    Calls Tryd.prog 38 #[.agg #[.int .i64 a0.Lo, .int .i64 a0.Hi]] w fun e w' => e = .returned (.bool r) ∧ Below w.heap.size w w' := by
  refine k_enter (args := [.agg #[.int .i64 a0.Lo, .int .i64 a0.Hi]]) 6 Tryd.func38 rfl (by kernel_rfl) (by kernel_rfl) fun a H => ?_
  unfold interval_IsEntire at G
  refine k_seq ?_
  refine k_reg mixed H (.cons [1, 6] (ok_new (fun b => .pointer (some ⟨b, 0, none⟩)) (fun ν1 => [.int .i64 a0.Lo, .int .i64 a0.Hi]) 23 1 6) <|
      .cons [2] (ok_val (fun ν1 => .bool false) 2) <| .nil) (by kernel_rfl) fun ν1 a w' H => ?_
  replace H := H.toL [(1, .slot true (.pointer (some ⟨((ν1 0).n 0), 0, none⟩))), (2, .slot true (.bool false)), (6, .blk ((ν1 0).n 0) [.int .i64 a0.Lo, .int .i64 a0.Hi] 23)] (by kernel_rfl)
  refine k_seq ?_
  replace G := bnd G; obtain ⟨t3, ht3, G⟩ := G
  refine k_reg mixed H (.cons [3] (ok_ld (fun ν2 => .agg #[.int .i64 a0.Lo, .int .i64 a0.Hi]) 3 6 0 2 (fun ν2 => ((ν1 0).n 0)) (fun ν2 => [.int .i64 a0.Lo, .int .i64 a0.Hi]) 23) <|
      .cons [4] (ok_callv 50 (fun ν2 => #[]) (.agg #[.int .i64 t3.Lo, .int .i64 t3.Hi]) 4 [] (fun _ w _ => interval_Entire.calls  t3 w ht3)) <|
      .cons [5] (ok_val (fun ν2 => .bool ((a0.Lo == t3.Lo) && ((a0.Hi == t3.Hi) && true))) 5 (hv := fun _ _ => run_of (by kernel_rfl) (run_eql_agg (t := 23) (x := (.tmp 3)) (y := (.tmp 4)) (xs := #[.int .i64 a0.Lo, .int .i64 a0.Hi]) (ys := #[.int .i64 t3.Lo, .int .i64 t3.Hi]) (b := ((a0.Lo == t3.Lo) && ((a0.Hi == t3.Hi) && true))) (by kernel_rfl) (by kernel_rfl)))) <|
      .cons [2] (ok_val (fun ν2 => .bool ((a0.Lo == t3.Lo) && ((a0.Hi == t3.Hi) && true))) 2) <| .nil) (by kernel_rfl) fun ν2 a w' H => ?_
  replace H := H.toL [(2, .slot true (.bool ((a0.Lo == t3.Lo) && ((a0.Hi == t3.Hi) && true))))] (by kernel_rfl)
  refine k_ret ?_
  obtain rfl := Option.some.inj G
  exact k_done0 H _ (by kernel_rfl) (by kernel_rfl)

set_option maxHeartbeats 4000000 in
theorem interval_New.calls (a0 : Int) (a1 : Int) (r : TInterval) (w : World) (G : interval_New a0 a1 = some r) :
    Calls Tryd.prog 54 #[.int .i64 a0, .int .i64 a1] w fun e w' => e = .returned (.agg #[.int .i64 r.Lo, .int .i64 r.Hi]) ∧ Below w.heap.size w w' := by
  refine k_enter (args := [.int .i64 a0, .int .i64 a1]) 23 Tryd.func54 rfl (by kernel_rfl) (by kernel_rfl) fun a H => ?_
  unfold interval_New at G
  refine k_seq ?_
  refine k_reg mixed H (.cons [4, 23] (ok_new (fun b => .pointer (some ⟨b, 0, none⟩)) (fun ν1 => [.int .i64 0, .int .i64 0]) 23 4 23) <| .nil) (by kernel_rfl) fun ν1 a w' H => ?_
  replace H := H.toL [(0, .slot true (.int .i64 a0)), (1, .slot true (.int .i64 a1)), (4, .slot true (.pointer (some ⟨((ν1 0).n 0), 0, none⟩))), (23, .blk ((ν1 0).n 0) [.int .i64 0, .int .i64 0] 23)] (by kernel_rfl)
  refine k_seq ?_
  refine k_seq ?_
  replace G := bnd G; obtain ⟨z3, hz3, G⟩ := G
  replace hz3 := Option.some.inj hz3
  refine k_reg mixed H (.cons [5] (ok_val (fun ν2 => .int .i64 a0) 5) <|
      .cons [6] (ok_val (fun ν2 => .bool (decide (a0 ≤ (-2147483648)))) 6) <|
      .cons [7] (ok_val (fun ν2 => .bool (decide (a0 ≤ (-2147483648)))) 7) <|
      .cons [8] (ok_valg (fun ν2 => .int .i64 a1) (fun ν2 => ((decide (a0 ≤ (-2147483648))) == false)) [true] 8) <|
      .cons [9] (ok_valg (fun ν2 => .bool (decide (a1 ≥ 2147483648))) (fun ν2 => ((decide (a0 ≤ (-2147483648))) == false)) [false, true] 9) <|
      .cons [10] (ok_or 7 9 (fun ν2 => true) (fun ν2 => true) (fun ν2 => decide (a0 ≤ (-2147483648))) (fun ν2 => decide (a1 ≥ 2147483648)) 10) <|
      .cons [11] (ok_val (fun ν2 => .bool ((decide (a0 ≤ (-2147483648))) || (decide (a1 ≥ 2147483648)))) 11) <|
      .cons [12] (ok_valg (fun ν2 => .int .i64 a0) (fun ν2 => (((decide (a0 ≤ (-2147483648))) || (decide (a1 ≥ 2147483648))) == false)) [true] 12) <|
      .cons [13] (ok_valg (fun ν2 => .bool (decide (a0 ≥ 2147483648))) (fun ν2 => (((decide (a0 ≤ (-2147483648))) || (decide (a1 ≥ 2147483648))) == false)) [false, true] 13) <|
      .cons [14] (ok_or 11 13 (fun ν2 => true) (fun ν2 => true) (fun ν2 => ((decide (a0 ≤ (-2147483648))) || (decide (a1 ≥ 2147483648)))) (fun ν2 => decide (a0 ≥ 2147483648)) 14) <|
      .cons [15] (ok_as (u' := fun ν2 => [(15, .slot true (.bool z3))]) (ok_val (fun ν2 => .bool (((decide (a0 ≤ (-2147483648))) || (decide (a1 ≥ 2147483648))) || (decide (a0 ≥ 2147483648)))) 15) (fun _ => by rw [← hz3])) <|
      .cons [16] (ok_valg (fun ν2 => .int .i64 a1) (fun ν2 => (z3 == false)) [true] 16) <|
      .cons [17] (ok_valg (fun ν2 => .bool (decide (a1 ≤ (-2147483648)))) (fun ν2 => (z3 == false)) [false, true] 17) <|
      .cons [18] (ok_or 15 17 (fun ν2 => true) (fun ν2 => true) (fun ν2 => z3) (fun ν2 => decide (a1 ≤ (-2147483648))) 18) <| .nil) (by kernel_rfl) fun ν2 a w' H => ?_
  replace H := H.toL [(0, .slot true (.int .i64 a0)), (1, .slot true (.int .i64 a1)), (4, .slot true (.pointer (some ⟨((ν1 0).n 0), 0, none⟩))), (18, .slot true (.bool (z3 || (decide (a1 ≤ (-2147483648)))))), (23, .blk ((ν1 0).n 0) [.int .i64 0, .int .i64 0] 23)] (by kernel_rfl)
  refine k_cond H (by kernel_rfl) (t := (z3 || (decide (a1 ≤ (-2147483648))))) (by kernel_rfl) (fun c7 => ?_) (fun c7 => ?_)
  · rw [if_pos c7] at G
    refine k_seq ?_
    replace G := bnd G; obtain ⟨t5, ht5, G⟩ := G
    refine k_reg mixed H (.cons [19] (ok_callv 50 (fun ν4 => #[]) (.agg #[.int .i64 t5.Lo, .int .i64 t5.Hi]) 19 [] (fun _ w _ => interval_Entire.calls  t5 w ht5)) <|
      .cons [23] (ok_as (u' := fun ν4 => [(23, .blk ((ν1 0).n 0) [.int .i64 t5.Lo, .int .i64 t5.Hi] 23)]) (ok_store 23 0 (fun ν4 => ((ν1 0).n 0)) (fun ν4 => [.int .i64 0, .int .i64 0]) (fun ν4 => [.int .i64 t5.Lo, .int .i64 t5.Hi]) 23) (fun _ => by kernel_rfl)) <| .nil) (by kernel_rfl) fun ν4 a w' H => ?_
    replace H := H.toL [(0, .slot true (.int .i64 a0)), (1, .slot true (.int .i64 a1)), (4, .slot true (.pointer (some ⟨((ν1 0).n 0), 0, none⟩))), (23, .blk ((ν1 0).n 0) [.int .i64 t5.Lo, .int .i64 t5.Hi] 23)] (by kernel_rfl)
    refine k_ret ?_
    obtain rfl := Option.some.inj G
    exact k_done1 H _ 23 ((ν1 0).n 0) [.int .i64 t5.Lo, .int .i64 t5.Hi] 23 0 2 (by kernel_rfl) (by kernel_rfl) (by kernel_rfl) (by kernel_rfl)
  · rw [if_neg (nt c7)] at G
    refine k_skip ?_
    refine k_seq ?_
    refine k_reg mixed H (.cons [20] (ok_val (fun ν6 => .int .i64 a0) 20) <|
      .cons [21] (ok_val (fun ν6 => .int .i64 a1) 21) <|
      .cons [22] (ok_val (fun ν6 => .agg #[.int .i64 a0, .int .i64 a1]) 22) <|
      .cons [23] (ok_as (u' := fun ν6 => [(23, .blk ((ν1 0).n 0) [.int .i64 a0, .int .i64 a1] 23)]) (ok_store 23 0 (fun ν6 => ((ν1 0).n 0)) (fun ν6 => [.int .i64 0, .int .i64 0]) (fun ν6 => [.int .i64 a0, .int .i64 a1]) 23) (fun _ => by kernel_rfl)) <| .nil) (by kernel_rfl) fun ν6 a w' H => ?_
    replace H := H.toL [(4, .slot true (.pointer (some ⟨((ν1 0).n 0), 0, none⟩))), (23, .blk ((ν1 0).n 0) [.int .i64 a0, .int .i64 a1] 23)] (by kernel_rfl)
    refine k_ret ?_
    obtain rfl := Option.some.inj G
    exact k_done1 H _ 23 ((ν1 0).n 0) [.int .i64 a0, .int .i64 a1] 23 0 2 (by kernel_rfl) (by kernel_rfl) (by kernel_rfl) (by kernel_rfl)

set_option maxHeartbeats 4000000 in
theorem interval_Add.calls (a0 : TInterval) (a1 : TInterval) (r : TInterval) (w : World) (G : interval_Add a0 a1 = some r) :
    Calls Tryd.prog 14 #[.agg #[.int .i64 a0.Lo, .int .i64 a0.Hi], .agg #[.int .i64 a1.Lo, .int .i64 a1.Hi]] w fun e w' => e = .returned (.agg #[.int .i64 r.Lo, .int .i64 r.Hi]) ∧ Below w.heap.size w w' := by
  refine k_enter (args := [.agg #[.int .i64 a0.Lo, .int .i64 a0.Hi], .agg #[.int .i64 a1.Lo, .int .i64 a1.Hi]]) 23 Tryd.func14 rfl (by kernel_rfl) (by kernel_rfl) fun a H => ?_
  unfold interval_Add at G
  refine k_seq ?_
  refine k_reg mixed H (.cons [2, 23] (ok_new (fun b => .pointer (some ⟨b, 0, none⟩)) (fun ν1 => [.int .i64 a0.Lo, .int .i64 a0.Hi]) 23 2 23) <|
      .cons [3, 24] (ok_new (fun b => .pointer (some ⟨b, 0, none⟩)) (fun ν1 => [.int .i64 a1.Lo, .int .i64 a1.Hi]) 23 3 24) <|
      .cons [4, 25] (ok_new (fun b => .pointer (some ⟨b, 0, none⟩)) (fun ν1 => [.int .i64 0, .int .i64 0]) 23 4 25) <| .nil) (by kernel_rfl) fun ν1 a w' H => ?_
  replace H := H.toL [(2, .slot true (.pointer (some ⟨((ν1 0).n 0), 0, none⟩))), (3, .slot true (.pointer (some ⟨((ν1 1).n 0), 0, none⟩))), (4, .slot true (.pointer (some ⟨((ν1 2).n 0), 0, none⟩))), (23, .blk ((ν1 0).n 0) [.int .i64 a0.Lo, .int .i64 a0.Hi] 23), (24, .blk ((ν1 1).n 0) [.int .i64 a1.Lo, .int .i64 a1.Hi] 23), (25, .blk ((ν1 2).n 0) [.int .i64 0, .int .i64 0] 23)] (by kernel_rfl)
  refine k_seq ?_
  refine k_seq ?_
  replace G := bnd G; obtain ⟨t3, ht3, G⟩ := G
  replace G := bnd G; obtain ⟨t4, ht4, G⟩ := G
  refine k_reg mixed H (.cons [5] (ok_ld (fun ν2 => .agg #[.int .i64 a0.Lo, .int .i64 a0.Hi]) 5 23 0 2 (fun ν2 => ((ν1 0).n 0)) (fun ν2 => [.int .i64 a0.Lo, .int .i64 a0.Hi]) 23) <|
      .cons [6] (ok_callv 38 (fun ν2 => #[.agg #[.int .i64 a0.Lo, .int .i64 a0.Hi]]) (.bool t3) 6 [] (fun _ w _ => interval_IsEntire.calls a0 t3 w ht3)) <|
      .cons [7] (ok_val (fun ν2 => .bool t3) 7) <|
      .cons [8] (ok_ldg (fun ν2 => .agg #[.int .i64 a1.Lo, .int .i64 a1.Hi]) (fun ν2 => (t3 == false)) [true] 8 24 0 2 (fun ν2 => ((ν1 1).n 0)) (fun ν2 => [.int .i64 a1.Lo, .int .i64 a1.Hi]) 23) <|
      .cons [9] (ok_call 38 (fun ν2 => #[.agg #[.int .i64 a1.Lo, .int .i64 a1.Hi]]) (.bool t4) (fun ν2 => (t3 == false)) [true, false] 9 [] (fun _ w hg _ => interval_IsEntire.calls a1 t4 w (ifp ht4 hg))) <|
      .cons [10] (ok_or 7 9 (fun ν2 => true) (fun ν2 => true) (fun ν2 => t3) (fun ν2 => t4) 10) <| .nil) (by kernel_rfl) fun ν2 a w' H => ?_
  replace H := H.toL [(2, .slot true (.pointer (some ⟨((ν1 0).n 0), 0, none⟩))), (3, .slot true (.pointer (some ⟨((ν1 1).n 0), 0, none⟩))), (4, .slot true (.pointer (some ⟨((ν1 2).n 0), 0, none⟩))), (10, .slot true (.bool (t3 || t4))), (23, .blk ((ν1 0).n 0) [.int .i64 a0.Lo, .int .i64 a0.Hi] 23), (24, .blk ((ν1 1).n 0) [.int .i64 a1.Lo, .int .i64 a1.Hi] 23), (25, .blk ((ν1 2).n 0) [.int .i64 0, .int .i64 0] 23)] (by kernel_rfl)
  refine k_cond H (by kernel_rfl) (t := (t3 || t4)) (by kernel_rfl) (fun c9 => ?_) (fun c9 => ?_)
  · rw [if_pos c9] at G
    refine k_seq ?_
    replace G := bnd G; obtain ⟨t6, ht6, G⟩ := G
    refine k_reg mixed H (.cons [11] (ok_callv 50 (fun ν5 => #[]) (.agg #[.int .i64 t6.Lo, .int .i64 t6.Hi]) 11 [] (fun _ w _ => interval_Entire.calls  t6 w ht6)) <|
      .cons [25] (ok_as (u' := fun ν5 => [(25, .blk ((ν1 2).n 0) [.int .i64 t6.Lo, .int .i64 t6.Hi] 23)]) (ok_store 25 0 (fun ν5 => ((ν1 2).n 0)) (fun ν5 => [.int .i64 0, .int .i64 0]) (fun ν5 => [.int .i64 t6.Lo, .int .i64 t6.Hi]) 23) (fun _ => by kernel_rfl)) <| .nil) (by kernel_rfl) fun ν5 a w' H => ?_
    replace H := H.toL [(2, .slot true (.pointer (some ⟨((ν1 0).n 0), 0, none⟩))), (3, .slot true (.pointer (some ⟨((ν1 1).n 0), 0, none⟩))), (4, .slot true (.pointer (some ⟨((ν1 2).n 0), 0, none⟩))), (23, .blk ((ν1 0).n 0) [.int .i64 a0.Lo, .int .i64 a0.Hi] 23), (24, .blk ((ν1 1).n 0) [.int .i64 a1.Lo, .int .i64 a1.Hi] 23), (25, .blk ((ν1 2).n 0) [.int .i64 t6.Lo, .int .i64 t6.Hi] 23)] (by kernel_rfl)
    refine k_ret ?_
    obtain rfl := Option.some.inj G
    exact k_done1 H _ 25 ((ν1 2).n 0) [.int .i64 t6.Lo, .int .i64 t6.Hi] 23 0 2 (by kernel_rfl) (by kernel_rfl) (by kernel_rfl) (by kernel_rfl)
  · rw [if_neg (nt c9)] at G
    refine k_skip ?_
    refine k_seq ?_
    replace G := bnd G; obtain ⟨t8, ht8, G⟩ := G
    refine k_reg mixed H (.cons [12] (ok_val (fun ν7 => .pointer (some ⟨((ν1 0).n 0), 0, none⟩)) 12) <|
      .cons [13] (ok_ld (fun ν7 => .int .i64 a0.Lo) 13 23 0 1 (fun ν7 => ((ν1 0).n 0)) (fun ν7 => [.int .i64 a0.Lo, .int .i64 a0.Hi]) 23) <|
      .cons [14] (ok_val (fun ν7 => .pointer (some ⟨((ν1 1).n 0), 0, none⟩)) 14) <|
      .cons [15] (ok_ld (fun ν7 => .int .i64 a1.Lo) 15 24 0 1 (fun ν7 => ((ν1 1).n 0)) (fun ν7 => [.int .i64 a1.Lo, .int .i64 a1.Hi]) 23) <|
      .cons [16] (ok_val (fun ν7 => .int .i64 (w_i64 (a0.Lo + a1.Lo))) 16) <|
      .cons [17] (ok_val (fun ν7 => .pointer (some ⟨((ν1 0).n 0), 1, none⟩)) 17) <|
      .cons [18] (ok_ld (fun ν7 => .int .i64 a0.Hi) 18 23 1 1 (fun ν7 => ((ν1 0).n 0)) (fun ν7 => [.int .i64 a0.Lo, .int .i64 a0.Hi]) 23) <|
      .cons [19] (ok_val (fun ν7 => .pointer (some ⟨((ν1 1).n 0), 1, none⟩)) 19) <|
      .cons [20] (ok_ld (fun ν7 => .int .i64 a1.Hi) 20 24 1 1 (fun ν7 => ((ν1 1).n 0)) (fun ν7 => [.int .i64 a1.Lo, .int .i64 a1.Hi]) 23) <|
      .cons [21] (ok_val (fun ν7 => .int .i64 (w_i64 (a0.Hi + a1.Hi))) 21) <|
      .cons [22] (ok_callv 54 (fun ν7 => #[.int .i64 (w_i64 (a0.Lo + a1.Lo)), .int .i64 (w_i64 (a0.Hi + a1.Hi))]) (.agg #[.int .i64 t8.Lo, .int .i64 t8.Hi]) 22 [] (fun _ w _ => interval_New.calls (w_i64 (a0.Lo + a1.Lo)) (w_i64 (a0.Hi + a1.Hi)) t8 w ht8)) <|
      .cons [25] (ok_as (u' := fun ν7 => [(25, .blk ((ν1 2).n 0) [.int .i64 t8.Lo, .int .i64 t8.Hi] 23)]) (ok_store 25 0 (fun ν7 => ((ν1 2).n 0)) (fun ν7 => [.int .i64 0, .int .i64 0]) (fun ν7 => [.int .i64 t8.Lo, .int .i64 t8.Hi]) 23) (fun _ => by kernel_rfl)) <| .nil) (by kernel_rfl) fun ν7 a w' H => ?_
    replace H := H.toL [(4, .slot true (.pointer (some ⟨((ν1 2).n 0), 0, none⟩))), (25, .blk ((ν1 2).n 0) [.int .i64 t8.Lo, .int .i64 t8.Hi] 23)] (by kernel_rfl)
    refine k_ret ?_
    obtain rfl := Option.some.inj G
    exact k_done1 H _ 25 ((ν1 2).n 0) [.int .i64 t8.Lo, .int .i64 t8.Hi] 23 0 2 (by kernel_rfl) (by kernel_rfl) (by kernel_rfl) (by kernel_rfl)

set_option maxHeartbeats 4000000 in
theorem interval_side.calls (a0 : TInterval) (r : Int) (w : World) (G : interval_side a0 = some r) :
    Calls Tryd.prog 64 #[.agg #[.int .i64 a0.Lo, .int .i64 a0.Hi]] w fun e w' => e = .returned (.int .i64 r) ∧ Below w.heap.size w w' := by
  refine k_enter (args := [.agg #[.int .i64 a0.Lo, .int .i64 a0.Hi]]) 11 Tryd.func64 rfl (by kernel_rfl) (by kernel_rfl) fun a H => ?_
  unfold interval_side at G
  refine k_seq ?_
  refine k_reg mixed H (.cons [1, 11] (ok_new (fun b => .pointer (some ⟨b, 0, none⟩)) (fun ν1 => [.int .i64 a0.Lo, .int .i64 a0.Hi]) 23 1 11) <|
      .cons [2] (ok_val (fun ν1 => .int .i64 0) 2) <| .nil) (by kernel_rfl) fun ν1 a w' H => ?_
  replace H := H.toL [(1, .slot true (.pointer (some ⟨((ν1 0).n 0), 0, none⟩))), (2, .slot true (.int .i64 0)), (11, .blk ((ν1 0).n 0) [.int .i64 a0.Lo, .int .i64 a0.Hi] 23)] (by kernel_rfl)
  refine k_seq ?_
  refine k_block ?_
  refine k_seq ?_
  refine k_reg mixed H (.cons [4] (ok_val (fun ν2 => .pointer (some ⟨((ν1 0).n 0), 1, none⟩)) 4) <|
      .cons [5] (ok_ld (fun ν2 => .int .i64 a0.Hi) 5 11 1 1 (fun ν2 => ((ν1 0).n 0)) (fun ν2 => [.int .i64 a0.Lo, .int .i64 a0.Hi]) 23) <|
      .cons [6] (ok_val (fun ν2 => .bool (decide (a0.Hi ≤ 0))) 6) <|
      .cons [3] (ok_val (fun ν2 => .bool (decide (a0.Hi ≤ 0))) 3) <| .nil) (by kernel_rfl) fun ν2 a w' H => ?_
  replace H := H.toL [(1, .slot true (.pointer (some ⟨((ν1 0).n 0), 0, none⟩))), (2, .slot true (.int .i64 0)), (3, .slot true (.bool (decide (a0.Hi ≤ 0)))), (11, .blk ((ν1 0).n 0) [.int .i64 a0.Lo, .int .i64 a0.Hi] 23)] (by kernel_rfl)
  refine k_cond H (by kernel_rfl) (t := decide (a0.Hi ≤ 0)) (by kernel_rfl) (fun c8 => ?_) (fun c8 => ?_)
  · rw [if_pos c8] at G
    refine k_seq ?_
    refine k_reg mixed H (.cons [2] (ok_val (fun ν3 => .int .i64 0) 2) <| .nil) (by kernel_rfl) fun ν3 a w' H => ?_
    replace H := H.toL [(2, .slot true (.int .i64 0))] (by kernel_rfl)
    refine k_ret ?_
    obtain rfl := Option.some.inj G
    exact k_done0 H _ (by kernel_rfl) (by kernel_rfl)
  · rw [if_neg (nt c8)] at G
    refine k_seq ?_
    refine k_reg mixed H (.cons [8] (ok_val (fun ν4 => .pointer (some ⟨((ν1 0).n 0), 0, none⟩)) 8) <|
      .cons [9] (ok_ld (fun ν4 => .int .i64 a0.Lo) 9 11 0 1 (fun ν4 => ((ν1 0).n 0)) (fun ν4 => [.int .i64 a0.Lo, .int .i64 a0.Hi]) 23) <|
      .cons [10] (ok_val (fun ν4 => .bool (decide (a0.Lo ≥ 0))) 10) <|
      .cons [7] (ok_val (fun ν4 => .bool (decide (a0.Lo ≥ 0))) 7) <| .nil) (by kernel_rfl) fun ν4 a w' H => ?_
    replace H := H.toL [(2, .slot true (.int .i64 0)), (7, .slot true (.bool (decide (a0.Lo ≥ 0))))] (by kernel_rfl)
    refine k_cond H (by kernel_rfl) (t := decide (a0.Lo ≥ 0)) (by kernel_rfl) (fun c7 => ?_) (fun c7 => ?_)
    · rw [if_pos c7] at G
      refine k_seq ?_
      refine k_reg mixed H (.cons [2] (ok_val (fun ν5 => .int .i64 2) 2) <| .nil) (by kernel_rfl) fun ν5 a w' H => ?_
      replace H := H.toL [(2, .slot true (.int .i64 2))] (by kernel_rfl)
      refine k_ret ?_
      obtain rfl := Option.some.inj G
      exact k_done0 H _ (by kernel_rfl) (by kernel_rfl)
    · rw [if_neg (nt c7)] at G
      refine k_skip ?_
      refine k_seq ?_
      refine k_reg mixed H (.cons [2] (ok_val (fun ν6 => .int .i64 1) 2) <| .nil) (by kernel_rfl) fun ν6 a w' H => ?_
      replace H := H.toL [(2, .slot true (.int .i64 1))] (by kernel_rfl)
      refine k_ret ?_
      obtain rfl := Option.some.inj G
      exact k_done0 H _ (by kernel_rfl) (by kernel_rfl)

set_option maxHeartbeats 4000000 in
theorem fixed_divide_1.calls (a0 : Int) (r : Int) (w : World) (G : fixed_divide_1 a0 = some r) :
    Calls Tryd.prog 78 #[.int .i64 a0] w fun e w' => e = .returned (.int .i64 r) ∧ Below w.heap.size w w' := by
  refine k_enter (args := [.int .i64 a0]) 5 Tryd.func78 rfl (by kernel_rfl) (by kernel_rfl) fun a H => ?_
  unfold fixed_divide_1 at G
  refine k_seq ?_
  refine k_reg mixed H (.cons [2] (ok_val (fun ν1 => .int .i64 0) 2) <| .nil) (by kernel_rfl) fun ν1 a w' H => ?_
  replace H := H.toL [(0, .slot true (.int .i64 a0)), (2, .slot true (.int .i64 0))] (by kernel_rfl)
  refine k_seq ?_
  refine k_reg mixed H (.cons [3] (ok_val (fun ν2 => .int .i64 a0) 3) <|
      .cons [4] (ok_val (fun ν2 => .int .i64 (mn a0 1)) 4) <|
      .cons [2] (ok_val (fun ν2 => .int .i64 (mn a0 1)) 2) <| .nil) (by kernel_rfl) fun ν2 a w' H => ?_
  replace H := H.toL [(2, .slot true (.int .i64 (mn a0 1)))] (by kernel_rfl)
  refine k_ret ?_
  obtain rfl := Option.some.inj G
  exact k_done0 H _ (by kernel_rfl) (by kernel_rfl)

set_option maxHeartbeats 4000000 in
theorem fixed_floorCeil_int64_s78.calls (a0 : Int) (a1 : Int) (r : Int × Int) (w : World) (G : fixed_floorCeil_int64_s78 a0 a1 = some r) :
    Calls Tryd.prog 77 #[.int .i64 a0, .int .i64 a1, .func (.func 78) #[] #[]] w fun e w' => e = .returned (.tuple #[.int .i64 r.1, .int .i64 r.2]) ∧ Below w.heap.size w w' := by
  refine k_enter (args := [.int .i64 a0, .int .i64 a1, .func (.func 78) #[] #[]]) 29 Tryd.func77 rfl (by kernel_rfl) (by kernel_rfl) fun a H => ?_
  unfold fixed_floorCeil_int64_s78 at G
  refine k_seq ?_
  refine k_reg mixed H (.cons [6] (ok_val (fun ν1 => .int .i64 0) 6) <|
      .cons [7] (ok_val (fun ν1 => .int .i64 0) 7) <| .nil) (by kernel_rfl) fun ν1 a w' H => ?_
  replace H := H.toL [(0, .slot true (.int .i64 a0)), (1, .slot true (.int .i64 a1)), (2, .slot true (.func (.func 78) #[] #[])), (6, .slot true (.int .i64 0)), (7, .slot true (.int .i64 0))] (by kernel_rfl)
  refine k_seq ?_
  replace G := gd G; obtain ⟨n3, G⟩ := G
  replace G := gd G; obtain ⟨n4, G⟩ := G
  refine k_reg mixed H (.cons [10] (ok_val (fun ν2 => .int .i64 a0) 10) <|
      .cons [11] (ok_val (fun ν2 => .int .i64 a1) 11) <|
      .cons [12] (ok_val (fun ν2 => .int .i64 (w_i64 (Int.tdiv a0 a1))) 12 (hv := fun _ _ => run_of (by kernel_rfl) (run_quo (k := .i64) (x := a0) (y := a1) n3))) <|
      .cons [13] (ok_val (fun ν2 => .int .i64 a0) 13) <|
      .cons [14] (ok_val (fun ν2 => .int .i64 a1) 14) <|
      .cons [15] (ok_val (fun ν2 => .int .i64 (Int.tmod a0 a1)) 15 (hv := fun _ _ => run_of (by kernel_rfl) (run_rem (k := .i64) (x := a0) (y := a1) n4))) <|
      .cons [8] (ok_val (fun ν2 => .int .i64 (w_i64 (Int.tdiv a0 a1))) 8) <|
      .cons [9] (ok_val (fun ν2 => .int .i64 (Int.tmod a0 a1)) 9) <| .nil) (by kernel_rfl) fun ν2 a w' H => ?_
  replace H := H.toL [(1, .slot true (.int .i64 a1)), (2, .slot true (.func (.func 78) #[] #[])), (6, .slot true (.int .i64 0)), (7, .slot true (.int .i64 0)), (8, .slot true (.int .i64 (w_i64 (Int.tdiv a0 a1)))), (9, .slot true (.int .i64 (Int.tmod a0 a1)))] (by kernel_rfl)
  refine k_seq ?_
  replace G := bnd G; obtain ⟨j7, hj7, G⟩ := G
  refine k_join (fun a w' => Rep w.heap.size w 29 (ofL [(2, .slot true (.func (.func 78) #[] #[])), (6, .slot true (.int .i64 0)), (7, .slot true (.int .i64 0)), (8, .slot true (.int .i64 j7.1)), (9, .slot true (.int .i64 j7.2))]) a w') ?_ ?_
  · clear H; intro a w' H
    refine k_seq ?_
    replace G := bnd G; obtain ⟨t9, ht9, G⟩ := G
    refine k_reg mixed H (.cons [23] (ok_val (fun ν8 => .int .i64 j7.1) 23) <|
      .cons [24] (ok_val (fun ν8 => .int .i64 j7.1) 24) <|
      .cons [25] (ok_val (fun ν8 => .func (.func 78) #[] #[]) 25) <|
      .cons [26] (ok_val (fun ν8 => .int .i64 j7.2) 26) <|
      .cons [27] (ok_callv 78 (fun ν8 => #[.int .i64 j7.2]) (.int .i64 t9) 27 [] (fun _ w _ => fixed_divide_1.calls j7.2 t9 w ht9)) <|
      .cons [28] (ok_val (fun ν8 => .int .i64 (w_i64 (j7.1 + t9))) 28) <|
      .cons [6] (ok_val (fun ν8 => .int .i64 j7.1) 6) <|
      .cons [7] (ok_val (fun ν8 => .int .i64 (w_i64 (j7.1 + t9))) 7) <| .nil) (by kernel_rfl) fun ν8 a w' H => ?_
    replace H := H.toL [(6, .slot true (.int .i64 j7.1)), (7, .slot true (.int .i64 (w_i64 (j7.1 + t9))))] (by kernel_rfl)
    refine k_ret ?_
    obtain rfl := Option.some.inj G
    exact k_done0 H _ (by kernel_rfl) (by kernel_rfl)
  · clear G; replace G := hj7; clear hj7
    refine k_seq ?_
    refine k_reg mixed H (.cons [16] (ok_val (fun ν10 => .int .i64 (Int.tmod a0 a1)) 16) <|
      .cons [17] (ok_val (fun ν10 => .bool (decide ((Int.tmod a0 a1) < 0))) 17) <| .nil) (by kernel_rfl) fun ν10 a w' H => ?_
    replace H := H.toL [(1, .slot true (.int .i64 a1)), (2, .slot true (.func (.func 78) #[] #[])), (6, .slot true (.int .i64 0)), (7, .slot true (.int .i64 0)), (8, .slot true (.int .i64 (w_i64 (Int.tdiv a0 a1)))), (9, .slot true (.int .i64 (Int.tmod a0 a1))), (17, .slot true (.bool (decide ((Int.tmod a0 a1) < 0))))] (by kernel_rfl)
    refine k_cond H (by kernel_rfl) (t := decide ((Int.tmod a0 a1) < 0)) (by kernel_rfl) (fun c12 => ?_) (fun c12 => ?_)
    · rw [if_pos c12] at G
      refine k_reg mixed H (.cons [18] (ok_val (fun ν11 => .int .i64 (w_i64 (Int.tdiv a0 a1))) 18) <|
      .cons [19] (ok_val (fun ν11 => .int .i64 (w_i64 ((w_i64 (Int.tdiv a0 a1)) - 1))) 19) <|
      .cons [20] (ok_val (fun ν11 => .int .i64 (Int.tmod a0 a1)) 20) <|
      .cons [21] (ok_val (fun ν11 => .int .i64 a1) 21) <|
      .cons [22] (ok_val (fun ν11 => .int .i64 (w_i64 ((Int.tmod a0 a1) + a1))) 22) <|
      .cons [8] (ok_val (fun ν11 => .int .i64 (w_i64 ((w_i64 (Int.tdiv a0 a1)) - 1))) 8) <|
      .cons [9] (ok_val (fun ν11 => .int .i64 (w_i64 ((Int.tmod a0 a1) + a1))) 9) <| .nil) (by kernel_rfl) fun ν11 a w' H => ?_
      replace H := H.toL [(2, .slot true (.func (.func 78) #[] #[])), (6, .slot true (.int .i64 0)), (7, .slot true (.int .i64 0)), (8, .slot true (.int .i64 (w_i64 ((w_i64 (Int.tdiv a0 a1)) - 1)))), (9, .slot true (.int .i64 (w_i64 ((Int.tmod a0 a1) + a1))))] (by kernel_rfl)
      obtain rfl := Option.some.inj G
      exact H.toL _ (by kernel_rfl)
    · rw [if_neg (nt c12)] at G
      refine k_skip ?_
      obtain rfl := Option.some.inj G
      exact H.toL _ (by kernel_rfl)

set_option maxHeartbeats 4000000 in
theorem fixed_divide.calls (a0 : Int) (a1 : Int) (r : Int × Int) (w : World) (G : fixed_divide a0 a1 = some r) :
    Calls Tryd.prog 75 #[.int .i64 a0, .int .i64 a1] w fun e w' => e = .returned (.tuple #[.int .i64 r.1, .int .i64 r.2]) ∧ Below w.heap.size w w' := by
  refine k_enter (args := [.int .i64 a0, .int .i64 a1]) 17 Tryd.func75 rfl (by kernel_rfl) (by kernel_rfl) fun a H => ?_
  unfold fixed_divide at G
  refine k_seq ?_
  refine k_reg mixed H (.cons [4] (ok_val (fun ν1 => .int .i64 0) 4) <|
      .cons [5] (ok_val (fun ν1 => .int .i64 0) 5) <| .nil) (by kernel_rfl) fun ν1 a w' H => ?_
  replace H := H.toL [(0, .slot true (.int .i64 a0)), (1, .slot true (.int .i64 a1)), (4, .slot true (.int .i64 0)), (5, .slot true (.int .i64 0))] (by kernel_rfl)
  refine k_seq ?_
  replace G := bnd G; obtain ⟨j4, hj4, G⟩ := G
  refine k_join (fun a w' => Rep w.heap.size w 17 (ofL [(0, .slot true (.int .i64 j4.1)), (1, .slot true (.int .i64 j4.2)), (4, .slot true (.int .i64 0)), (5, .slot true (.int .i64 0))]) a w') ?_ ?_
  · clear H; intro a w' H
    refine k_seq ?_
    replace G := bnd G; obtain ⟨t6, ht6, G⟩ := G
    refine k_reg mixed H (.cons [12] (ok_val (fun ν5 => .int .i64 j4.1) 12) <|
      .cons [13] (ok_val (fun ν5 => .int .i64 j4.2) 13) <|
      .cons [14] (ok_callv 77 (fun ν5 => #[.int .i64 j4.1, .int .i64 j4.2, .func (.func 78) #[] #[]]) (.tuple #[.int .i64 t6.1, .int .i64 t6.2]) 14 [] (fun _ w _ => fixed_floorCeil_int64_s78.calls j4.1 j4.2 t6 w ht6)) <|
      .cons [15] (ok_val (fun ν5 => .int .i64 t6.1) 15) <|
      .cons [16] (ok_val (fun ν5 => .int .i64 t6.2) 16) <|
      .cons [4] (ok_val (fun ν5 => .int .i64 t6.1) 4) <|
      .cons [5] (ok_val (fun ν5 => .int .i64 t6.2) 5) <| .nil) (by kernel_rfl) fun ν5 a w' H => ?_
    replace H := H.toL [(4, .slot true (.int .i64 t6.1)), (5, .slot true (.int .i64 t6.2))] (by kernel_rfl)
    refine k_ret ?_
    obtain rfl := Option.some.inj G
    exact k_done0 H _ (by kernel_rfl) (by kernel_rfl)
  · clear G; replace G := hj4; clear hj4
    refine k_seq ?_
    refine k_reg mixed H (.cons [6] (ok_val (fun ν7 => .int .i64 a1) 6) <|
      .cons [7] (ok_val (fun ν7 => .bool (decide (a1 < 0))) 7) <| .nil) (by kernel_rfl) fun ν7 a w' H => ?_
    replace H := H.toL [(0, .slot true (.int .i64 a0)), (1, .slot true (.int .i64 a1)), (4, .slot true (.int .i64 0)), (5, .slot true (.int .i64 0)), (7, .slot true (.bool (decide (a1 < 0))))] (by kernel_rfl)
    refine k_cond H (by kernel_rfl) (t := decide (a1 < 0)) (by kernel_rfl) (fun c9 => ?_) (fun c9 => ?_)
    · rw [if_pos c9] at G
      refine k_reg mixed H (.cons [8] (ok_val (fun ν8 => .int .i64 a0) 8) <|
      .cons [9] (ok_val (fun ν8 => .int .i64 (w_i64 (0 - a0))) 9) <|
      .cons [10] (ok_val (fun ν8 => .int .i64 a1) 10) <|
      .cons [11] (ok_val (fun ν8 => .int .i64 (w_i64 (0 - a1))) 11) <|
      .cons [0] (ok_val (fun ν8 => .int .i64 (w_i64 (0 - a0))) 0) <|
      .cons [1] (ok_val (fun ν8 => .int .i64 (w_i64 (0 - a1))) 1) <| .nil) (by kernel_rfl) fun ν8 a w' H => ?_
      replace H := H.toL [(0, .slot true (.int .i64 (w_i64 (0 - a0)))), (1, .slot true (.int .i64 (w_i64 (0 - a1)))), (4, .slot true (.int .i64 0)), (5, .slot true (.int .i64 0))] (by kernel_rfl)
      obtain rfl := Option.some.inj G
      exact H.toL _ (by kernel_rfl)
    · rw [if_neg (nt c9)] at G
      refine k_skip ?_
      obtain rfl := Option.some.inj G
      exact H.toL _ (by kernel_rfl)

set_option maxHeartbeats 4000000 in
theorem fixed_Mul.calls (a0 : Int) (a1 : Int) (r : Int × Int) (w : World) (G : fixed_Mul a0 a1 = some r) :
    Calls Tryd.prog 65 #[.int .i64 a0, .int .i64 a1] w fun e w' => e = .returned (.tuple #[.int .i64 r.1, .int .i64 r.2]) ∧ Below w.heap.size w w' := by
  refine k_enter (args := [.int .i64 a0, .int .i64 a1]) 12 Tryd.func65 rfl (by kernel_rfl) (by kernel_rfl) fun a H => ?_
  unfold fixed_Mul at G
  refine k_seq ?_
  refine k_reg mixed H (.cons [4] (ok_val (fun ν1 => .int .i64 0) 4) <|
      .cons [5] (ok_val (fun ν1 => .int .i64 0) 5) <| .nil) (by kernel_rfl) fun ν1 a w' H => ?_
  replace H := H.toL [(0, .slot true (.int .i64 a0)), (1, .slot true (.int .i64 a1)), (4, .slot true (.int .i64 0)), (5, .slot true (.int .i64 0))] (by kernel_rfl)
  refine k_seq ?_
  replace G := bnd G; obtain ⟨t3, ht3, G⟩ := G
  refine k_reg mixed H (.cons [6] (ok_val (fun ν2 => .int .i64 a0) 6) <|
      .cons [7] (ok_val (fun ν2 => .int .i64 a1) 7) <|
      .cons [8] (ok_val (fun ν2 => .int .i64 (w_i64 (a0 * a1))) 8) <|
      .cons [9] (ok_callv 75 (fun ν2 => #[.int .i64 (w_i64 (a0 * a1)), .int .i64 65536]) (.tuple #[.int .i64 t3.1, .int .i64 t3.2]) 9 [] (fun _ w _ => fixed_divide.calls (w_i64 (a0 * a1)) 65536 t3 w ht3)) <|
      .cons [10] (ok_val (fun ν2 => .int .i64 t3.1) 10) <|
      .cons [11] (ok_val (fun ν2 => .int .i64 t3.2) 11) <|
      .cons [4] (ok_val (fun ν2 => .int .i64 t3.1) 4) <|
      .cons [5] (ok_val (fun ν2 => .int .i64 t3.2) 5) <| .nil) (by kernel_rfl) fun ν2 a w' H => ?_
  replace H := H.toL [(4, .slot true (.int .i64 t3.1)), (5, .slot true (.int .i64 t3.2))] (by kernel_rfl)
  refine k_ret ?_
  obtain rfl := Option.some.inj G
  exact k_done0 H _ (by kernel_rfl) (by kernel_rfl)

set_option maxHeartbeats 4000000 in
theorem interval_hh.calls (a0 : TInterval) (a1 : TInterval) (r : Int × Int) (w : World) (G : interval_hh a0 a1 = some r) :
    Calls Tryd.prog 96 #[.agg #[.int .i64 a0.Lo, .int .i64 a0.Hi], .agg #[.int .i64 a1.Lo, .int .i64 a1.Hi]] w fun e w' => e = .returned (.tuple #[.int .i64 r.1, .int .i64 r.2]) ∧ Below w.heap.size w w' := by
  refine k_enter (args := [.agg #[.int .i64 a0.Lo, .int .i64 a0.Hi], .agg #[.int .i64 a1.Lo, .int .i64 a1.Hi]]) 10 Tryd.func96 rfl (by kernel_rfl) (by kernel_rfl) fun a H => ?_
  unfold interval_hh at G
  refine k_seq ?_
  refine k_reg mixed H (.cons [2, 10] (ok_new (fun b => .pointer (some ⟨b, 0, none⟩)) (fun ν1 => [.int .i64 a0.Lo, .int .i64 a0.Hi]) 23 2 10) <|
      .cons [3, 11] (ok_new (fun b => .pointer (some ⟨b, 0, none⟩)) (fun ν1 => [.int .i64 a1.Lo, .int .i64 a1.Hi]) 23 3 11) <|
      .cons [4] (ok_val (fun ν1 => .int .i64 0) 4) <|
      .cons [5] (ok_val (fun ν1 => .int .i64 0) 5) <| .nil) (by kernel_rfl) fun ν1 a w' H => ?_
  replace H := H.toL [(2, .slot true (.pointer (some ⟨((ν1 0).n 0), 0, none⟩))), (3, .slot true (.pointer (some ⟨((ν1 1).n 0), 0, none⟩))), (4, .slot true (.int .i64 0)), (5, .slot true (.int .i64 0)), (10, .blk ((ν1 0).n 0) [.int .i64 a0.Lo, .int .i64 a0.Hi] 23), (11, .blk ((ν1 1).n 0) [.int .i64 a1.Lo, .int .i64 a1.Hi] 23)] (by kernel_rfl)
  refine k_seq ?_
  refine k_reg mixed H (.cons [6] (ok_val (fun ν2 => .pointer (some ⟨((ν1 0).n 0), 1, none⟩)) 6) <|
      .cons [7] (ok_ld (fun ν2 => .int .i64 a0.Hi) 7 10 1 1 (fun ν2 => ((ν1 0).n 0)) (fun ν2 => [.int .i64 a0.Lo, .int .i64 a0.Hi]) 23) <|
      .cons [8] (ok_val (fun ν2 => .pointer (some ⟨((ν1 1).n 0), 1, none⟩)) 8) <|
      .cons [9] (ok_ld (fun ν2 => .int .i64 a1.Hi) 9 11 1 1 (fun ν2 => ((ν1 1).n 0)) (fun ν2 => [.int .i64 a1.Lo, .int .i64 a1.Hi]) 23) <|
      .cons [4] (ok_val (fun ν2 => .int .i64 a0.Hi) 4) <|
      .cons [5] (ok_val (fun ν2 => .int .i64 a1.Hi) 5) <| .nil) (by kernel_rfl) fun ν2 a w' H => ?_
  replace H := H.toL [(4, .slot true (.int .i64 a0.Hi)), (5, .slot true (.int .i64 a1.Hi))] (by kernel_rfl)
  refine k_ret ?_
  obtain rfl := Option.some.inj G
  exact k_done0 H _ (by kernel_rfl) (by kernel_rfl)

set_option maxHeartbeats 4000000 in
theorem interval_ll.calls (a0 : TInterval) (a1 : TInterval) (r : Int × Int) (w : World) (G : interval_ll a0 a1 = some r) :
    Calls Tryd.prog 97 #[.agg #[.int .i64 a0.Lo, .int .i64 a0.Hi], .agg #[.int .i64 a1.Lo, .int .i64 a1.Hi]] w fun e w' => e = .returned (.tuple #[.int .i64 r.1, .int .i64 r.2]) ∧ Below w.heap.size w w' := by
  refine k_enter (args := [.agg #[.int .i64 a0.Lo, .int .i64 a0.Hi], .agg #[.int .i64 a1.Lo, .int .i64 a1.Hi]]) 10 Tryd.func97 rfl (by kernel_rfl) (by kernel_rfl) fun a H => ?_
  unfold interval_ll at G
  refine k_seq ?_
  refine k_reg mixed H (.cons [2, 10] (ok_new (fun b => .pointer (some ⟨b, 0, none⟩)) (fun ν1 => [.int .i64 a0.Lo, .int .i64 a0.Hi]) 23 2 10) <|
      .cons [3, 11] (ok_new (fun b => .pointer (some ⟨b, 0, none⟩)) (fun ν1 => [.int .i64 a1.Lo, .int .i64 a1.Hi]) 23 3 11) <|
      .cons [4] (ok_val (fun ν1 => .int .i64 0) 4) <|
      .cons [5] (ok_val (fun ν1 => .int .i64 0) 5) <| .nil) (by kernel_rfl) fun ν1 a w' H => ?_
  replace H := H.toL [(2, .slot true (.pointer (some ⟨((ν1 0).n 0), 0, none⟩))), (3, .slot true (.pointer (some ⟨((ν1 1).n 0), 0, none⟩))), (4, .slot true (.int .i64 0)), (5, .slot true (.int .i64 0)), (10, .blk ((ν1 0).n 0) [.int .i64 a0.Lo, .int .i64 a0.Hi] 23), (11, .blk ((ν1 1).n 0) [.int .i64 a1.Lo, .int .i64 a1.Hi] 23)] (by kernel_rfl)
  refine k_seq ?_
  refine k_reg mixed H (.cons [6] (ok_val (fun ν2 => .pointer (some ⟨((ν1 0).n 0), 0, none⟩)) 6) <|
      .cons [7] (ok_ld (fun ν2 => .int .i64 a0.Lo) 7 10 0 1 (fun ν2 => ((ν1 0).n 0)) (fun ν2 => [.int .i64 a0.Lo, .int .i64 a0.Hi]) 23) <|
      .cons [8] (ok_val (fun ν2 => .pointer (some ⟨((ν1 1).n 0), 0, none⟩)) 8) <|
      .cons [9] (ok_ld (fun ν2 => .int .i64 a1.Lo) 9 11 0 1 (fun ν2 => ((ν1 1).n 0)) (fun ν2 => [.int .i64 a1.Lo, .int .i64 a1.Hi]) 23) <|
      .cons [4] (ok_val (fun ν2 => .int .i64 a0.Lo) 4) <|
      .cons [5] (ok_val (fun ν2 => .int .i64 a1.Lo) 5) <| .nil) (by kernel_rfl) fun ν2 a w' H => ?_
  replace H := H.toL [(4, .slot true (.int .i64 a0.Lo)), (5, .slot true (.int .i64 a1.Lo))] (by kernel_rfl)
  refine k_ret ?_
  obtain rfl := Option.some.inj G
  exact k_done0 H _ (by kernel_rfl) (by kernel_rfl)

set_option maxHeartbeats 4000000 in
theorem interval_lh.calls (a0 : TInterval) (a1 : TInterval) (r : Int × Int) (w : World) (G : interval_lh a0 a1 = some r) :
    Calls Tryd.prog 98 #[.agg #[.int .i64 a0.Lo, .int .i64 a0.Hi], .agg #[.int .i64 a1.Lo, .int .i64 a1.Hi]] w fun e w' => e = .returned (.tuple #[.int .i64 r.1, .int .i64 r.2]) ∧ Below w.heap.size w w' := by
  refine k_enter (args := [.agg #[.int .i64 a0.Lo, .int .i64 a0.Hi], .agg #[.int .i64 a1.Lo, .int .i64 a1.Hi]]) 10 Tryd.func98 rfl (by kernel_rfl) (by kernel_rfl) fun a H => ?_
  unfold interval_lh at G
  refine k_seq ?_
  refine k_reg mixed H (.cons [2, 10] (ok_new (fun b => .pointer (some ⟨b, 0, none⟩)) (fun ν1 => [.int .i64 a0.Lo, .int .i64 a0.Hi]) 23 2 10) <|
      .cons [3, 11] (ok_new (fun b => .pointer (some ⟨b, 0, none⟩)) (fun ν1 => [.int .i64 a1.Lo, .int .i64 a1.Hi]) 23 3 11) <|
      .cons [4] (ok_val (fun ν1 => .int .i64 0) 4) <|
      .cons [5] (ok_val (fun ν1 => .int .i64 0) 5) <| .nil) (by kernel_rfl) fun ν1 a w' H => ?_
  replace H := H.toL [(2, .slot true (.pointer (some ⟨((ν1 0).n 0), 0, none⟩))), (3, .slot true (.pointer (some ⟨((ν1 1).n 0), 0, none⟩))), (4, .slot true (.int .i64 0)), (5, .slot true (.int .i64 0)), (10, .blk ((ν1 0).n 0) [.int .i64 a0.Lo, .int .i64 a0.Hi] 23), (11, .blk ((ν1 1).n 0) [.int .i64 a1.Lo, .int .i64 a1.Hi] 23)] (by kernel_rfl)
  refine k_seq ?_
  refine k_reg mixed H (.cons [6] (ok_val (fun ν2 => .pointer (some ⟨((ν1 0).n 0), 0, none⟩)) 6) <|
      .cons [7] (ok_ld (fun ν2 => .int .i64 a0.Lo) 7 10 0 1 (fun ν2 => ((ν1 0).n 0)) (fun ν2 => [.int .i64 a0.Lo, .int .i64 a0.Hi]) 23) <|
      .cons [8] (ok_val (fun ν2 => .pointer (some ⟨((ν1 1).n 0), 1, none⟩)) 8) <|
      .cons [9] (ok_ld (fun ν2 => .int .i64 a1.Hi) 9 11 1 1 (fun ν2 => ((ν1 1).n 0)) (fun ν2 => [.int .i64 a1.Lo, .int .i64 a1.Hi]) 23) <|
      .cons [4] (ok_val (fun ν2 => .int .i64 a0.Lo) 4) <|
      .cons [5] (ok_val (fun ν2 => .int .i64 a1.Hi) 5) <| .nil) (by kernel_rfl) fun ν2 a w' H => ?_
  replace H := H.toL [(4, .slot true (.int .i64 a0.Lo)), (5, .slot true (.int .i64 a1.Hi))] (by kernel_rfl)
  refine k_ret ?_
  obtain rfl := Option.some.inj G
  exact k_done0 H _ (by kernel_rfl) (by kernel_rfl)

set_option maxHeartbeats 4000000 in
theorem interval_hl.calls (a0 : TInterval) (a1 : TInterval) (r : Int × Int) (w : World) (G : interval_hl a0 a1 = some r) :
    Calls Tryd.prog 99 #[.agg #[.int .i64 a0.Lo, .int .i64 a0.Hi], .agg #[.int .i64 a1.Lo, .int .i64 a1.Hi]] w fun e w' => e = .returned (.tuple #[.int .i64 r.1, .int .i64 r.2]) ∧ Below w.heap.size w w' := by
  refine k_enter (args := [.agg #[.int .i64 a0.Lo, .int .i64 a0.Hi], .agg #[.int .i64 a1.Lo, .int .i64 a1.Hi]]) 10 Tryd.func99 rfl (by kernel_rfl) (by kernel_rfl) fun a H => ?_
  unfold interval_hl at G
  refine k_seq ?_
  refine k_reg mixed H (.cons [2, 10] (ok_new (fun b => .pointer (some ⟨b, 0, none⟩)) (fun ν1 => [.int .i64 a0.Lo, .int .i64 a0.Hi]) 23 2 10) <|
      .cons [3, 11] (ok_new (fun b => .pointer (some ⟨b, 0, none⟩)) (fun ν1 => [.int .i64 a1.Lo, .int .i64 a1.Hi]) 23 3 11) <|
      .cons [4] (ok_val (fun ν1 => .int .i64 0) 4) <|
      .cons [5] (ok_val (fun ν1 => .int .i64 0) 5) <| .nil) (by kernel_rfl) fun ν1 a w' H => ?_
  replace H := H.toL [(2, .slot true (.pointer (some ⟨((ν1 0).n 0), 0, none⟩))), (3, .slot true (.pointer (some ⟨((ν1 1).n 0), 0, none⟩))), (4, .slot true (.int .i64 0)), (5, .slot true (.int .i64 0)), (10, .blk ((ν1 0).n 0) [.int .i64 a0.Lo, .int .i64 a0.Hi] 23), (11, .blk ((ν1 1).n 0) [.int .i64 a1.Lo, .int .i64 a1.Hi] 23)] (by kernel_rfl)
  refine k_seq ?_
  refine k_reg mixed H (.cons [6] (ok_val (fun ν2 => .pointer (some ⟨((ν1 0).n 0), 1, none⟩)) 6) <|
      .cons [7] (ok_ld (fun ν2 => .int .i64 a0.Hi) 7 10 1 1 (fun ν2 => ((ν1 0).n 0)) (fun ν2 => [.int .i64 a0.Lo, .int .i64 a0.Hi]) 23) <|
      .cons [8] (ok_val (fun ν2 => .pointer (some ⟨((ν1 1).n 0), 0, none⟩)) 8) <|
      .cons [9] (ok_ld (fun ν2 => .int .i64 a1.Lo) 9 11 0 1 (fun ν2 => ((ν1 1).n 0)) (fun ν2 => [.int .i64 a1.Lo, .int .i64 a1.Hi]) 23) <|
      .cons [4] (ok_val (fun ν2 => .int .i64 a0.Hi) 4) <|
      .cons [5] (ok_val (fun ν2 => .int .i64 a1.Lo) 5) <| .nil) (by kernel_rfl) fun ν2 a w' H => ?_
  replace H := H.toL [(4, .slot true (.int .i64 a0.Hi)), (5, .slot true (.int .i64 a1.Lo))] (by kernel_rfl)
  refine k_ret ?_
  obtain rfl := Option.some.inj G
  exact k_done0 H _ (by kernel_rfl) (by kernel_rfl)

set_option maxHeartbeats 4000000 in
theorem interval_Mul.calls (a0 : TInterval) (a1 : TInterval) (r : TInterval) (w : World) (hg : Glob w) (G : interval_Mul a0 a1 = some r) :
    Calls Tryd.prog 15 #[.agg #[.int .i64 a0.Lo, .int .i64 a0.Hi], .agg #[.int .i64 a1.Lo, .int .i64 a1.Hi]] w fun e w' => e = .returned (.agg #[.int .i64 r.Lo, .int .i64 r.Hi]) ∧ Below w.heap.size w w' := by
  refine k_enterG (args := [.agg #[.int .i64 a0.Lo, .int .i64 a0.Hi], .agg #[.int .i64 a1.Lo, .int .i64 a1.Hi]]) 106 999999 globFp Glob (glob_local hg) (glob_in hg) Tryd.func15 rfl (by kernel_rfl) (by kernel_rfl) fun a H => ?_
  unfold interval_Mul at G
  refine k_seq ?_
  refine k_reg mixed H (.cons [2, 106] (ok_new (fun b => .pointer (some ⟨b, 0, none⟩)) (fun ν1 => [.int .i64 a0.Lo, .int .i64 a0.Hi]) 23 2 106) <|
      .cons [3, 107] (ok_new (fun b => .pointer (some ⟨b, 0, none⟩)) (fun ν1 => [.int .i64 a1.Lo, .int .i64 a1.Hi]) 23 3 107) <|
      .cons [4, 108] (ok_new (fun b => .pointer (some ⟨b, 0, none⟩)) (fun ν1 => [.int .i64 0, .int .i64 0]) 23 4 108) <| .nil) (by kernel_rfl) fun ν1 a w' H => ?_
  replace H := H.toL [(2, .slot true (.pointer (some ⟨((ν1 0).n 0), 0, none⟩))), (3, .slot true (.pointer (some ⟨((ν1 1).n 0), 0, none⟩))), (4, .slot true (.pointer (some ⟨((ν1 2).n 0), 0, none⟩))), (106, .blk ((ν1 0).n 0) [.int .i64 a0.Lo, .int .i64 a0.Hi] 23), (107, .blk ((ν1 1).n 0) [.int .i64 a1.Lo, .int .i64 a1.Hi] 23), (108, .blk ((ν1 2).n 0) [.int .i64 0, .int .i64 0] 23), (999999, gk)] (by kernel_rfl)
  refine k_seq ?_
  refine k_seq ?_
  replace G := bnd G; obtain ⟨t3, ht3, G⟩ := G
  replace G := bnd G; obtain ⟨t4, ht4, G⟩ := G
  refine k_reg mixed H (.cons [20] (ok_ld (fun ν2 => .agg #[.int .i64 a0.Lo, .int .i64 a0.Hi]) 20 106 0 2 (fun ν2 => ((ν1 0).n 0)) (fun ν2 => [.int .i64 a0.Lo, .int .i64 a0.Hi]) 23) <|
      .cons [21] (ok_callv 38 (fun ν2 => #[.agg #[.int .i64 a0.Lo, .int .i64 a0.Hi]]) (.bool t3) 21 [] (fun _ w _ => interval_IsEntire.calls a0 t3 w ht3)) <|
      .cons [22] (ok_val (fun ν2 => .bool t3) 22) <|
      .cons [23] (ok_ldg (fun ν2 => .agg #[.int .i64 a1.Lo, .int .i64 a1.Hi]) (fun ν2 => (t3 == false)) [true] 23 107 0 2 (fun ν2 => ((ν1 1).n 0)) (fun ν2 => [.int .i64 a1.Lo, .int .i64 a1.Hi]) 23) <|
      .cons [24] (ok_call 38 (fun ν2 => #[.agg #[.int .i64 a1.Lo, .int .i64 a1.Hi]]) (.bool t4) (fun ν2 => (t3 == false)) [true, false] 24 [] (fun _ w hg _ => interval_IsEntire.calls a1 t4 w (ifp ht4 hg))) <|
      .cons [25] (ok_or 22 24 (fun ν2 => true) (fun ν2 => true) (fun ν2 => t3) (fun ν2 => t4) 25) <| .nil) (by kernel_rfl) fun ν2 a w' H => ?_
  replace H := H.toL [(2, .slot true (.pointer (some ⟨((ν1 0).n 0), 0, none⟩))), (3, .slot true (.pointer (some ⟨((ν1 1).n 0), 0, none⟩))), (4, .slot true (.pointer (some ⟨((ν1 2).n 0), 0, none⟩))), (25, .slot true (.bool (t3 || t4))), (106, .blk ((ν1 0).n 0) [.int .i64 a0.Lo, .int .i64 a0.Hi] 23), (107, .blk ((ν1 1).n 0) [.int .i64 a1.Lo, .int .i64 a1.Hi] 23), (108, .blk ((ν1 2).n 0) [.int .i64 0, .int .i64 0] 23), (999999, gk)] (by kernel_rfl)
  refine k_cond H (by kernel_rfl) (t := (t3 || t4)) (by kernel_rfl) (fun c107 => ?_) (fun c107 => ?_)
  · rw [if_pos c107] at G
    refine k_seq ?_
    replace G := bnd G; obtain ⟨t6, ht6, G⟩ := G
    refine k_reg mixed H (.cons [26] (ok_callv 50 (fun ν5 => #[]) (.agg #[.int .i64 t6.Lo, .int .i64 t6.Hi]) 26 [] (fun _ w _ => interval_Entire.calls  t6 w ht6)) <|
      .cons [108] (ok_as (u' := fun ν5 => [(108, .blk ((ν1 2).n 0) [.int .i64 t6.Lo, .int .i64 t6.Hi] 23)]) (ok_store 108 0 (fun ν5 => ((ν1 2).n 0)) (fun ν5 => [.int .i64 0, .int .i64 0]) (fun ν5 => [.int .i64 t6.Lo, .int .i64 t6.Hi]) 23) (fun _ => by kernel_rfl)) <| .nil) (by kernel_rfl) fun ν5 a w' H => ?_
    replace H := H.toL [(2, .slot true (.pointer (some ⟨((ν1 0).n 0), 0, none⟩))), (3, .slot true (.pointer (some ⟨((ν1 1).n 0), 0, none⟩))), (4, .slot true (.pointer (some ⟨((ν1 2).n 0), 0, none⟩))), (106, .blk ((ν1 0).n 0) [.int .i64 a0.Lo, .int .i64 a0.Hi] 23), (107, .blk ((ν1 1).n 0) [.int .i64 a1.Lo, .int .i64 a1.Hi] 23), (108, .blk ((ν1 2).n 0) [.int .i64 t6.Lo, .int .i64 t6.Hi] 23), (999999, gk)] (by kernel_rfl)
    refine k_ret ?_
    obtain rfl := Option.some.inj G
    exact k_done1 H _ 108 ((ν1 2).n 0) [.int .i64 t6.Lo, .int .i64 t6.Hi] 23 0 2 (by kernel_rfl) (by kernel_rfl) (by kernel_rfl) (by kernel_rfl)
  · rw [if_neg (nt c107)] at G
    refine k_skip ?_
    refine k_seq ?_
    replace G := bnd G; obtain ⟨t8, ht8, G⟩ := G
    replace G := bnd G; obtain ⟨t9, ht9, G⟩ := G
    refine k_reg mixed H (.cons [27] (ok_ld (fun ν7 => .agg #[.int .i64 a0.Lo, .int .i64 a0.Hi]) 27 106 0 2 (fun ν7 => ((ν1 0).n 0)) (fun ν7 => [.int .i64 a0.Lo, .int .i64 a0.Hi]) 23) <|
      .cons [28] (ok_callv 64 (fun ν7 => #[.agg #[.int .i64 a0.Lo, .int .i64 a0.Hi]]) (.int .i64 t8) 28 [] (fun _ w _ => interval_side.calls a0 t8 w ht8)) <|
      .cons [29] (ok_ld (fun ν7 => .agg #[.int .i64 a1.Lo, .int .i64 a1.Hi]) 29 107 0 2 (fun ν7 => ((ν1 1).n 0)) (fun ν7 => [.int .i64 a1.Lo, .int .i64 a1.Hi]) 23) <|
      .cons [30] (ok_callv 64 (fun ν7 => #[.agg #[.int .i64 a1.Lo, .int .i64 a1.Hi]]) (.int .i64 t9) 30 [] (fun _ w _ => interval_side.calls a1 t9 w ht9)) <|
      .cons [5] (ok_val (fun ν7 => .int .i64 t8) 5) <|
      .cons [6] (ok_val (fun ν7 => .int .i64 t9) 6) <| .nil) (by kernel_rfl) fun ν7 a w' H => ?_
    replace H := H.toL [(2, .slot true (.pointer (some ⟨((ν1 0).n 0), 0, none⟩))), (3, .slot true (.pointer (some ⟨((ν1 1).n 0), 0, none⟩))), (4, .slot true (.pointer (some ⟨((ν1 2).n 0), 0, none⟩))), (5, .slot true (.int .i64 t8)), (6, .slot true (.int .i64 t9)), (106, .blk ((ν1 0).n 0) [.int .i64 a0.Lo, .int .i64 a0.Hi] 23), (107, .blk ((ν1 1).n 0) [.int .i64 a1.Lo, .int .i64 a1.Hi] 23), (108, .blk ((ν1 2).n 0) [.int .i64 0, .int .i64 0] 23), (999999, gk)] (by kernel_rfl)
    refine k_seq ?_
    refine k_seq ?_
    refine k_reg mixed H (.cons [31] (ok_val (fun ν10 => .int .i64 t8) 31) <|
      .cons [32] (ok_val (fun ν10 => .bool (t8 == 1)) 32) <|
      .cons [33] (ok_val (fun ν10 => .bool (t8 == 1)) 33) <|
      .cons [34] (ok_valg (fun ν10 => .int .i64 t9) (fun ν10 => ((t8 == 1) == true)) [true] 34) <|
      .cons [35] (ok_valg (fun ν10 => .bool (t9 == 1)) (fun ν10 => ((t8 == 1) == true)) [false, true] 35) <|
      .cons [36] (ok_and 33 35 (fun ν10 => true) (fun ν10 => true) (fun ν10 => (t8 == 1)) (fun ν10 => (t9 == 1)) 36) <| .nil) (by kernel_rfl) fun ν10 a w' H => ?_
    replace H := H.toL [(2, .slot true (.pointer (some ⟨((ν1 0).n 0), 0, none⟩))), (3, .slot true (.pointer (some ⟨((ν1 1).n 0), 0, none⟩))), (4, .slot true (.pointer (some ⟨((ν1 2).n 0), 0, none⟩))), (5, .slot true (.int .i64 t8)), (6, .slot true (.int .i64 t9)), (36, .slot true (.bool ((t8 == 1) && (t9 == 1)))), (106, .blk ((ν1 0).n 0) [.int .i64 a0.Lo, .int .i64 a0.Hi] 23), (107, .blk ((ν1 1).n 0) [.int .i64 a1.Lo, .int .i64 a1.Hi] 23), (108, .blk ((ν1 2).n 0) [.int .i64 0, .int .i64 0] 23), (999999, gk)] (by kernel_rfl)
    refine k_cond H (by kernel_rfl) (t := ((t8 == 1) && (t9 == 1))) (by kernel_rfl) (fun c106 => ?_) (fun c106 => ?_)
    · rw [if_pos c106] at G
      refine k_seq ?_
      replace G := bnd G; obtain ⟨t12, ht12, G⟩ := G
      refine k_reg mixed H (.cons [38] (ok_val (fun ν11 => .pointer (some ⟨((ν1 0).n 0), 0, none⟩)) 38) <|
      .cons [39] (ok_ld (fun ν11 => .int .i64 a0.Lo) 39 106 0 1 (fun ν11 => ((ν1 0).n 0)) (fun ν11 => [.int .i64 a0.Lo, .int .i64 a0.Hi]) 23) <|
      .cons [40] (ok_val (fun ν11 => .pointer (some ⟨((ν1 1).n 0), 1, none⟩)) 40) <|
      .cons [41] (ok_ld (fun ν11 => .int .i64 a1.Hi) 41 107 1 1 (fun ν11 => ((ν1 1).n 0)) (fun ν11 => [.int .i64 a1.Lo, .int .i64 a1.Hi]) 23) <|
      .cons [42] (ok_callv 65 (fun ν11 => #[.int .i64 a0.Lo, .int .i64 a1.Hi]) (.tuple #[.int .i64 t12.1, .int .i64 t12.2]) 42 [] (fun _ w _ => fixed_Mul.calls a0.Lo a1.Hi t12 w ht12)) <|
      .cons [37] (ok_val (fun ν11 => .tuple #[.int .i64 t12.1, .int .i64 t12.2]) 37) <|
      .cons [43] (ok_val (fun ν11 => .int .i64 t12.1) 43) <|
      .cons [44] (ok_val (fun ν11 => .int .i64 t12.2) 44) <|
      .cons [7] (ok_val (fun ν11 => .int .i64 t12.1) 7) <|
      .cons [8] (ok_val (fun ν11 => .int .i64 t12.2) 8) <| .nil) (by kernel_rfl) fun ν11 a w' H => ?_
      replace H := H.toL [(2, .slot true (.pointer (some ⟨((ν1 0).n 0), 0, none⟩))), (3, .slot true (.pointer (some ⟨((ν1 1).n 0), 0, none⟩))), (4, .slot true (.pointer (some ⟨((ν1 2).n 0), 0, none⟩))), (5, .slot true (.int .i64 t8)), (6, .slot true (.int .i64 t9)), (7, .slot true (.int .i64 t12.1)), (106, .blk ((ν1 0).n 0) [.int .i64 a0.Lo, .int .i64 a0.Hi] 23), (107, .blk ((ν1 1).n 0) [.int .i64 a1.Lo, .int .i64 a1.Hi] 23), (108, .blk ((ν1 2).n 0) [.int .i64 0, .int .i64 0] 23), (999999, gk)] (by kernel_rfl)
      refine k_seq ?_
      replace G := bnd G; obtain ⟨t14, ht14, G⟩ := G
      refine k_reg mixed H (.cons [46] (ok_val (fun ν13 => .pointer (some ⟨((ν1 0).n 0), 1, none⟩)) 46) <|
      .cons [47] (ok_ld (fun ν13 => .int .i64 a0.Hi) 47 106 1 1 (fun ν13 => ((ν1 0).n 0)) (fun ν13 => [.int .i64 a0.Lo, .int .i64 a0.Hi]) 23) <|
      .cons [48] (ok_val (fun ν13 => .pointer (some ⟨((ν1 1).n 0), 0, none⟩)) 48) <|
      .cons [49] (ok_ld (fun ν13 => .int .i64 a1.Lo) 49 107 0 1 (fun ν13 => ((ν1 1).n 0)) (fun ν13 => [.int .i64 a1.Lo, .int .i64 a1.Hi]) 23) <|
      .cons [50] (ok_callv 65 (fun ν13 => #[.int .i64 a0.Hi, .int .i64 a1.Lo]) (.tuple #[.int .i64 t14.1, .int .i64 t14.2]) 50 [] (fun _ w _ => fixed_Mul.calls a0.Hi a1.Lo t14 w ht14)) <|
      .cons [45] (ok_val (fun ν13 => .tuple #[.int .i64 t14.1, .int .i64 t14.2]) 45) <|
      .cons [51] (ok_val (fun ν13 => .int .i64 t14.1) 51) <|
      .cons [52] (ok_val (fun ν13 => .int .i64 t14.2) 52) <|
      .cons [9] (ok_val (fun ν13 => .int .i64 t14.1) 9) <|
      .cons [10] (ok_val (fun ν13 => .int .i64 t14.2) 10) <| .nil) (by kernel_rfl) fun ν13 a w' H => ?_
      replace H := H.toL [(2, .slot true (.pointer (some ⟨((ν1 0).n 0), 0, none⟩))), (3, .slot true (.pointer (some ⟨((ν1 1).n 0), 0, none⟩))), (4, .slot true (.pointer (some ⟨((ν1 2).n 0), 0, none⟩))), (5, .slot true (.int .i64 t8)), (6, .slot true (.int .i64 t9)), (7, .slot true (.int .i64 t12.1)), (9, .slot true (.int .i64 t14.1)), (106, .blk ((ν1 0).n 0) [.int .i64 a0.Lo, .int .i64 a0.Hi] 23), (107, .blk ((ν1 1).n 0) [.int .i64 a1.Lo, .int .i64 a1.Hi] 23), (108, .blk ((ν1 2).n 0) [.int .i64 0, .int .i64 0] 23), (999999, gk)] (by kernel_rfl)
      refine k_seq ?_
      replace G := bnd G; obtain ⟨t16, ht16, G⟩ := G
      refine k_reg mixed H (.cons [54] (ok_val (fun ν15 => .pointer (some ⟨((ν1 0).n 0), 0, none⟩)) 54) <|
      .cons [55] (ok_ld (fun ν15 => .int .i64 a0.Lo) 55 106 0 1 (fun ν15 => ((ν1 0).n 0)) (fun ν15 => [.int .i64 a0.Lo, .int .i64 a0.Hi]) 23) <|
      .cons [56] (ok_val (fun ν15 => .pointer (some ⟨((ν1 1).n 0), 0, none⟩)) 56) <|
      .cons [57] (ok_ld (fun ν15 => .int .i64 a1.Lo) 57 107 0 1 (fun ν15 => ((ν1 1).n 0)) (fun ν15 => [.int .i64 a1.Lo, .int .i64 a1.Hi]) 23) <|
      .cons [58] (ok_callv 65 (fun ν15 => #[.int .i64 a0.Lo, .int .i64 a1.Lo]) (.tuple #[.int .i64 t16.1, .int .i64 t16.2]) 58 [] (fun _ w _ => fixed_Mul.calls a0.Lo a1.Lo t16 w ht16)) <|
      .cons [53] (ok_val (fun ν15 => .tuple #[.int .i64 t16.1, .int .i64 t16.2]) 53) <|
      .cons [59] (ok_val (fun ν15 => .int .i64 t16.1) 59) <|
      .cons [60] (ok_val (fun ν15 => .int .i64 t16.2) 60) <|
      .cons [11] (ok_val (fun ν15 => .int .i64 t16.1) 11) <|
      .cons [12] (ok_val (fun ν15 => .int .i64 t16.2) 12) <| .nil) (by kernel_rfl) fun ν15 a w' H => ?_
      replace H := H.toL [(2, .slot true (.pointer (some ⟨((ν1 0).n 0), 0, none⟩))), (3, .slot true (.pointer (some ⟨((ν1 1).n 0), 0, none⟩))), (4, .slot true (.pointer (some ⟨((ν1 2).n 0), 0, none⟩))), (5, .slot true (.int .i64 t8)), (6, .slot true (.int .i64 t9)), (7, .slot true (.int .i64 t12.1)), (9, .slot true (.int .i64 t14.1)), (12, .slot true (.int .i64 t16.2)), (106, .blk ((ν1 0).n 0) [.int .i64 a0.Lo, .int .i64 a0.Hi] 23), (107, .blk ((ν1 1).n 0) [.int .i64 a1.Lo, .int .i64 a1.Hi] 23), (108, .blk ((ν1 2).n 0) [.int .i64 0, .int .i64 0] 23), (999999, gk)] (by kernel_rfl)
      refine k_seq ?_
      replace G := bnd G; obtain ⟨t18, ht18, G⟩ := G
      refine k_reg mixed H (.cons [62] (ok_val (fun ν17 => .pointer (some ⟨((ν1 0).n 0), 1, none⟩)) 62) <|
      .cons [63] (ok_ld (fun ν17 => .int .i64 a0.Hi) 63 106 1 1 (fun ν17 => ((ν1 0).n 0)) (fun ν17 => [.int .i64 a0.Lo, .int .i64 a0.Hi]) 23) <|
      .cons [64] (ok_val (fun ν17 => .pointer (some ⟨((ν1 1).n 0), 1, none⟩)) 64) <|
      .cons [65] (ok_ld (fun ν17 => .int .i64 a1.Hi) 65 107 1 1 (fun ν17 => ((ν1 1).n 0)) (fun ν17 => [.int .i64 a1.Lo, .int .i64 a1.Hi]) 23) <|
      .cons [66] (ok_callv 65 (fun ν17 => #[.int .i64 a0.Hi, .int .i64 a1.Hi]) (.tuple #[.int .i64 t18.1, .int .i64 t18.2]) 66 [] (fun _ w _ => fixed_Mul.calls a0.Hi a1.Hi t18 w ht18)) <|
      .cons [61] (ok_val (fun ν17 => .tuple #[.int .i64 t18.1, .int .i64 t18.2]) 61) <|
      .cons [67] (ok_val (fun ν17 => .int .i64 t18.1) 67) <|
      .cons [68] (ok_val (fun ν17 => .int .i64 t18.2) 68) <|
      .cons [13] (ok_val (fun ν17 => .int .i64 t18.1) 13) <|
      .cons [14] (ok_val (fun ν17 => .int .i64 t18.2) 14) <| .nil) (by kernel_rfl) fun ν17 a w' H => ?_
      replace H := H.toL [(2, .slot true (.pointer (some ⟨((ν1 0).n 0), 0, none⟩))), (3, .slot true (.pointer (some ⟨((ν1 1).n 0), 0, none⟩))), (4, .slot true (.pointer (some ⟨((ν1 2).n 0), 0, none⟩))), (5, .slot true (.int .i64 t8)), (6, .slot true (.int .i64 t9)), (7, .slot true (.int .i64 t12.1)), (9, .slot true (.int .i64 t14.1)), (12, .slot true (.int .i64 t16.2)), (14, .slot true (.int .i64 t18.2)), (106, .blk ((ν1 0).n 0) [.int .i64 a0.Lo, .int .i64 a0.Hi] 23), (107, .blk ((ν1 1).n 0) [.int .i64 a1.Lo, .int .i64 a1.Hi] 23), (108, .blk ((ν1 2).n 0) [.int .i64 0, .int .i64 0] 23), (999999, gk)] (by kernel_rfl)
      refine k_seq ?_
      replace G := bnd G; obtain ⟨t20, ht20, G⟩ := G
      refine k_reg mixed H (.cons [69] (ok_val (fun ν19 => .int .i64 t12.1) 69) <|
      .cons [70] (ok_val (fun ν19 => .int .i64 t14.1) 70) <|
      .cons [71] (ok_val (fun ν19 => .int .i64 (mn t12.1 t14.1)) 71) <|
      .cons [72] (ok_val (fun ν19 => .int .i64 t16.2) 72) <|
      .cons [73] (ok_val (fun ν19 => .int .i64 t18.2) 73) <|
      .cons [74] (ok_val (fun ν19 => .int .i64 (mx t16.2 t18.2)) 74) <|
      .cons [75] (ok_callv 54 (fun ν19 => #[.int .i64 (mn t12.1 t14.1), .int .i64 (mx t16.2 t18.2)]) (.agg #[.int .i64 t20.Lo, .int .i64 t20.Hi]) 75 [] (fun _ w _ => interval_New.calls (mn t12.1 t14.1) (mx t16.2 t18.2) t20 w ht20)) <|
      .cons [108] (ok_as (u' := fun ν19 => [(108, .blk ((ν1 2).n 0) [.int .i64 t20.Lo, .int .i64 t20.Hi] 23)]) (ok_store 108 0 (fun ν19 => ((ν1 2).n 0)) (fun ν19 => [.int .i64 0, .int .i64 0]) (fun ν19 => [.int .i64 t20.Lo, .int .i64 t20.Hi]) 23) (fun _ => by kernel_rfl)) <| .nil) (by kernel_rfl) fun ν19 a w' H => ?_
      replace H := H.toL [(2, .slot true (.pointer (some ⟨((ν1 0).n 0), 0, none⟩))), (3, .slot true (.pointer (some ⟨((ν1 1).n 0), 0, none⟩))), (4, .slot true (.pointer (some ⟨((ν1 2).n 0), 0, none⟩))), (5, .slot true (.int .i64 t8)), (6, .slot true (.int .i64 t9)), (106, .blk ((ν1 0).n 0) [.int .i64 a0.Lo, .int .i64 a0.Hi] 23), (107, .blk ((ν1 1).n 0) [.int .i64 a1.Lo, .int .i64 a1.Hi] 23), (108, .blk ((ν1 2).n 0) [.int .i64 t20.Lo, .int .i64 t20.Hi] 23), (999999, gk)] (by kernel_rfl)
      refine k_ret ?_
      obtain rfl := Option.some.inj G
      exact k_done1 H _ 108 ((ν1 2).n 0) [.int .i64 t20.Lo, .int .i64 t20.Hi] 23 0 2 (by kernel_rfl) (by kernel_rfl) (by kernel_rfl) (by kernel_rfl)
    · rw [if_neg (nt c106)] at G
      refine k_skip ?_
      refine k_seq ?_
      by_cases c103 : t8 = 0
      · rw [if_pos c103] at G; subst c103
        by_cases c48 : t9 = 0
        · rw [if_pos c48] at G; subst c48
          refine k_reg mixed H (.cons [76] (ok_val (fun ν21 => .int .i64 0) 76) <|
      .cons [77] (ok_val (fun ν21 => .int .i64 0) 77) <|
      .cons [78] (ok_val (fun ν21 => .pointer (some ⟨0, 0, none⟩)) 78) <|
      .cons [79] (ok_val (fun ν21 => .pointer (some ⟨0, 0, none⟩)) 79) <|
      .cons [80] (ok_ldK (fun ν21 => .agg #[.func (.func 96) #[] #[], .func (.func 97) #[] #[]]) 80 999999 gk 0 0 2 gTab0 (fun w h => (glob_of h).tab0)) <|
      .cons [15, 109] (ok_new (fun b => .pointer (some ⟨b, 0, none⟩)) (fun ν21 => [.nilFunc, .nilFunc]) 61 15 109) <|
      .cons [109] (ok_as (u' := fun ν21 => [(109, .blk ((ν21 5).n 0) [.func (.func 96) #[] #[], .func (.func 97) #[] #[]] 61)]) (ok_store 109 0 (fun ν21 => ((ν21 5).n 0)) (fun ν21 => [.nilFunc, .nilFunc]) (fun ν21 => [.func (.func 96) #[] #[], .func (.func 97) #[] #[]]) 61) (fun _ => by kernel_rfl)) <| .nil) (by kernel_rfl) fun ν21 a w' H => ?_
          replace H := H.toL [(2, .slot true (.pointer (some ⟨((ν1 0).n 0), 0, none⟩))), (3, .slot true (.pointer (some ⟨((ν1 1).n 0), 0, none⟩))), (4, .slot true (.pointer (some ⟨((ν1 2).n 0), 0, none⟩))), (15, .slot true (.pointer (some ⟨((ν21 5).n 0), 0, none⟩))), (106, .blk ((ν1 0).n 0) [.int .i64 a0.Lo, .int .i64 a0.Hi] 23), (107, .blk ((ν1 1).n 0) [.int .i64 a1.Lo, .int .i64 a1.Hi] 23), (108, .blk ((ν1 2).n 0) [.int .i64 0, .int .i64 0] 23), (109, .blk ((ν21 5).n 0) [.func (.func 96) #[] #[], .func (.func 97) #[] #[]] 61), (999999, gk)] (by kernel_rfl)
          refine k_seq ?_
          replace G := bnd G; obtain ⟨t23, ht23, G⟩ := G
          replace G := bnd G; obtain ⟨t24, ht24, G⟩ := G
          refine k_reg mixed H (.cons [82] (ok_val (fun ν22 => .pointer (some ⟨((ν21 5).n 0), 0, none⟩)) 82) <|
      .cons [83] (ok_ld (fun ν22 => .func (.func 96) #[] #[]) 83 109 0 1 (fun ν22 => ((ν21 5).n 0)) (fun ν22 => [.func (.func 96) #[] #[], .func (.func 97) #[] #[]]) 61) <|
      .cons [84] (ok_ld (fun ν22 => .agg #[.int .i64 a0.Lo, .int .i64 a0.Hi]) 84 106 0 2 (fun ν22 => ((ν1 0).n 0)) (fun ν22 => [.int .i64 a0.Lo, .int .i64 a0.Hi]) 23) <|
      .cons [85] (ok_ld (fun ν22 => .agg #[.int .i64 a1.Lo, .int .i64 a1.Hi]) 85 107 0 2 (fun ν22 => ((ν1 1).n 0)) (fun ν22 => [.int .i64 a1.Lo, .int .i64 a1.Hi]) 23) <|
      .cons [86] (ok_callv 96 (fun ν22 => #[.agg #[.int .i64 a0.Lo, .int .i64 a0.Hi], .agg #[.int .i64 a1.Lo, .int .i64 a1.Hi]]) (.tuple #[.int .i64 t23.1, .int .i64 t23.2]) 86 [] (fun _ w _ => interval_hh.calls a0 a1 t23 w ht23)) <|
      .cons [87] (ok_val (fun ν22 => .int .i64 t23.1) 87) <|
      .cons [88] (ok_val (fun ν22 => .int .i64 t23.2) 88) <|
      .cons [89] (ok_callv 65 (fun ν22 => #[.int .i64 t23.1, .int .i64 t23.2]) (.tuple #[.int .i64 t24.1, .int .i64 t24.2]) 89 [] (fun _ w _ => fixed_Mul.calls t23.1 t23.2 t24 w ht24)) <|
      .cons [81] (ok_val (fun ν22 => .tuple #[.int .i64 t24.1, .int .i64 t24.2]) 81) <|
      .cons [90] (ok_val (fun ν22 => .int .i64 t24.1) 90) <|
      .cons [91] (ok_val (fun ν22 => .int .i64 t24.2) 91) <|
      .cons [16] (ok_val (fun ν22 => .int .i64 t24.1) 16) <|
      .cons [17] (ok_val (fun ν22 => .int .i64 t24.2) 17) <| .nil) (by kernel_rfl) fun ν22 a w' H => ?_
          replace H := H.toL [(2, .slot true (.pointer (some ⟨((ν1 0).n 0), 0, none⟩))), (3, .slot true (.pointer (some ⟨((ν1 1).n 0), 0, none⟩))), (4, .slot true (.pointer (some ⟨((ν1 2).n 0), 0, none⟩))), (15, .slot true (.pointer (some ⟨((ν21 5).n 0), 0, none⟩))), (16, .slot true (.int .i64 t24.1)), (106, .blk ((ν1 0).n 0) [.int .i64 a0.Lo, .int .i64 a0.Hi] 23), (107, .blk ((ν1 1).n 0) [.int .i64 a1.Lo, .int .i64 a1.Hi] 23), (108, .blk ((ν1 2).n 0) [.int .i64 0, .int .i64 0] 23), (109, .blk ((ν21 5).n 0) [.func (.func 96) #[] #[], .func (.func 97) #[] #[]] 61), (999999, gk)] (by kernel_rfl)
          refine k_seq ?_
          replace G := bnd G; obtain ⟨t26, ht26, G⟩ := G
          replace G := bnd G; obtain ⟨t27, ht27, G⟩ := G
          refine k_reg mixed H (.cons [93] (ok_val (fun ν25 => .pointer (some ⟨((ν21 5).n 0), 1, none⟩)) 93) <|
      .cons [94] (ok_ld (fun ν25 => .func (.func 97) #[] #[]) 94 109 1 1 (fun ν25 => ((ν21 5).n 0)) (fun ν25 => [.func (.func 96) #[] #[], .func (.func 97) #[] #[]]) 61) <|
      .cons [95] (ok_ld (fun ν25 => .agg #[.int .i64 a0.Lo, .int .i64 a0.Hi]) 95 106 0 2 (fun ν25 => ((ν1 0).n 0)) (fun ν25 => [.int .i64 a0.Lo, .int .i64 a0.Hi]) 23) <|
      .cons [96] (ok_ld (fun ν25 => .agg #[.int .i64 a1.Lo, .int .i64 a1.Hi]) 96 107 0 2 (fun ν25 => ((ν1 1).n 0)) (fun ν25 => [.int .i64 a1.Lo, .int .i64 a1.Hi]) 23) <|
      .cons [97] (ok_callv 97 (fun ν25 => #[.agg #[.int .i64 a0.Lo, .int .i64 a0.Hi], .agg #[.int .i64 a1.Lo, .int .i64 a1.Hi]]) (.tuple #[.int .i64 t26.1, .int .i64 t26.2]) 97 [] (fun _ w _ => interval_ll.calls a0 a1 t26 w ht26)) <|
      .cons [98] (ok_val (fun ν25 => .int .i64 t26.1) 98) <|
      .cons [99] (ok_val (fun ν25 => .int .i64 t26.2) 99) <|
      .cons [100] (ok_callv 65 (fun ν25 => #[.int .i64 t26.1, .int .i64 t26.2]) (.tuple #[.int .i64 t27.1, .int .i64 t27.2]) 100 [] (fun _ w _ => fixed_Mul.calls t26.1 t26.2 t27 w ht27)) <|
      .cons [92] (ok_val (fun ν25 => .tuple #[.int .i64 t27.1, .int .i64 t27.2]) 92) <|
      .cons [101] (ok_val (fun ν25 => .int .i64 t27.1) 101) <|
      .cons [102] (ok_val (fun ν25 => .int .i64 t27.2) 102) <|
      .cons [18] (ok_val (fun ν25 => .int .i64 t27.1) 18) <|
      .cons [19] (ok_val (fun ν25 => .int .i64 t27.2) 19) <| .nil) (by kernel_rfl) fun ν25 a w' H => ?_
          replace H := H.toL [(4, .slot true (.pointer (some ⟨((ν1 2).n 0), 0, none⟩))), (16, .slot true (.int .i64 t24.1)), (19, .slot true (.int .i64 t27.2)), (108, .blk ((ν1 2).n 0) [.int .i64 0, .int .i64 0] 23), (999999, gk)] (by kernel_rfl)
          refine k_seq ?_
          replace G := bnd G; obtain ⟨t29, ht29, G⟩ := G
          refine k_reg mixed H (.cons [103] (ok_val (fun ν28 => .int .i64 t24.1) 103) <|
      .cons [104] (ok_val (fun ν28 => .int .i64 t27.2) 104) <|
      .cons [105] (ok_callv 54 (fun ν28 => #[.int .i64 t24.1, .int .i64 t27.2]) (.agg #[.int .i64 t29.Lo, .int .i64 t29.Hi]) 105 [] (fun _ w _ => interval_New.calls t24.1 t27.2 t29 w ht29)) <|
      .cons [108] (ok_as (u' := fun ν28 => [(108, .blk ((ν1 2).n 0) [.int .i64 t29.Lo, .int .i64 t29.Hi] 23)]) (ok_store 108 0 (fun ν28 => ((ν1 2).n 0)) (fun ν28 => [.int .i64 0, .int .i64 0]) (fun ν28 => [.int .i64 t29.Lo, .int .i64 t29.Hi]) 23) (fun _ => by kernel_rfl)) <| .nil) (by kernel_rfl) fun ν28 a w' H => ?_
          replace H := H.toL [(4, .slot true (.pointer (some ⟨((ν1 2).n 0), 0, none⟩))), (108, .blk ((ν1 2).n 0) [.int .i64 t29.Lo, .int .i64 t29.Hi] 23), (999999, gk)] (by kernel_rfl)
          refine k_ret ?_
          obtain rfl := Option.some.inj G
          exact k_done1 H _ 108 ((ν1 2).n 0) [.int .i64 t29.Lo, .int .i64 t29.Hi] 23 0 2 (by kernel_rfl) (by kernel_rfl) (by kernel_rfl) (by kernel_rfl)
        rw [if_neg c48] at G
        by_cases c49 : t9 = 1
        · rw [if_pos c49] at G; subst c49
          refine k_reg mixed H (.cons [76] (ok_val (fun ν30 => .int .i64 0) 76) <|
      .cons [77] (ok_val (fun ν30 => .int .i64 1) 77) <|
      .cons [78] (ok_val (fun ν30 => .pointer (some ⟨0, 0, none⟩)) 78) <|
      .cons [79] (ok_val (fun ν30 => .pointer (some ⟨0, 2, none⟩)) 79) <|
      .cons [80] (ok_ldK (fun ν30 => .agg #[.func (.func 98) #[] #[], .func (.func 97) #[] #[]]) 80 999999 gk 0 2 2 gTab0 (fun w h => (glob_of h).tab0)) <|
      .cons [15, 110] (ok_new (fun b => .pointer (some ⟨b, 0, none⟩)) (fun ν30 => [.nilFunc, .nilFunc]) 61 15 110) <|
      .cons [110] (ok_as (u' := fun ν30 => [(110, .blk ((ν30 5).n 0) [.func (.func 98) #[] #[], .func (.func 97) #[] #[]] 61)]) (ok_store 110 0 (fun ν30 => ((ν30 5).n 0)) (fun ν30 => [.nilFunc, .nilFunc]) (fun ν30 => [.func (.func 98) #[] #[], .func (.func 97) #[] #[]]) 61) (fun _ => by kernel_rfl)) <| .nil) (by kernel_rfl) fun ν30 a w' H => ?_
          replace H := H.toL [(2, .slot true (.pointer (some ⟨((ν1 0).n 0), 0, none⟩))), (3, .slot true (.pointer (some ⟨((ν1 1).n 0), 0, none⟩))), (4, .slot true (.pointer (some ⟨((ν1 2).n 0), 0, none⟩))), (15, .slot true (.pointer (some ⟨((ν30 5).n 0), 0, none⟩))), (106, .blk ((ν1 0).n 0) [.int .i64 a0.Lo, .int .i64 a0.Hi] 23), (107, .blk ((ν1 1).n 0) [.int .i64 a1.Lo, .int .i64 a1.Hi] 23), (108, .blk ((ν1 2).n 0) [.int .i64 0, .int .i64 0] 23), (110, .blk ((ν30 5).n 0) [.func (.func 98) #[] #[], .func (.func 97) #[] #[]] 61), (999999, gk)] (by kernel_rfl)
          refine k_seq ?_
          replace G := bnd G; obtain ⟨t32, ht32, G⟩ := G
          replace G := bnd G; obtain ⟨t33, ht33, G⟩ := G
          refine k_reg mixed H (.cons [82] (ok_val (fun ν31 => .pointer (some ⟨((ν30 5).n 0), 0, none⟩)) 82) <|
      .cons [83] (ok_ld (fun ν31 => .func (.func 98) #[] #[]) 83 110 0 1 (fun ν31 => ((ν30 5).n 0)) (fun ν31 => [.func (.func 98) #[] #[], .func (.func 97) #[] #[]]) 61) <|
      .cons [84] (ok_ld (fun ν31 => .agg #[.int .i64 a0.Lo, .int .i64 a0.Hi]) 84 106 0 2 (fun ν31 => ((ν1 0).n 0)) (fun ν31 => [.int .i64 a0.Lo, .int .i64 a0.Hi]) 23) <|
      .cons [85] (ok_ld (fun ν31 => .agg #[.int .i64 a1.Lo, .int .i64 a1.Hi]) 85 107 0 2 (fun ν31 => ((ν1 1).n 0)) (fun ν31 => [.int .i64 a1.Lo, .int .i64 a1.Hi]) 23) <|
      .cons [86] (ok_callv 98 (fun ν31 => #[.agg #[.int .i64 a0.Lo, .int .i64 a0.Hi], .agg #[.int .i64 a1.Lo, .int .i64 a1.Hi]]) (.tuple #[.int .i64 t32.1, .int .i64 t32.2]) 86 [] (fun _ w _ => interval_lh.calls a0 a1 t32 w ht32)) <|
      .cons [87] (ok_val (fun ν31 => .int .i64 t32.1) 87) <|
      .cons [88] (ok_val (fun ν31 => .int .i64 t32.2) 88) <|
      .cons [89] (ok_callv 65 (fun ν31 => #[.int .i64 t32.1, .int .i64 t32.2]) (.tuple #[.int .i64 t33.1, .int .i64 t33.2]) 89 [] (fun _ w _ => fixed_Mul.calls t32.1 t32.2 t33 w ht33)) <|
      .cons [81] (ok_val (fun ν31 => .tuple #[.int .i64 t33.1, .int .i64 t33.2]) 81) <|
      .cons [90] (ok_val (fun ν31 => .int .i64 t33.1) 90) <|
      .cons [91] (ok_val (fun ν31 => .int .i64 t33.2) 91) <|
      .cons [16] (ok_val (fun ν31 => .int .i64 t33.1) 16) <|
      .cons [17] (ok_val (fun ν31 => .int .i64 t33.2) 17) <| .nil) (by kernel_rfl) fun ν31 a w' H => ?_
          replace H := H.toL [(2, .slot true (.pointer (some ⟨((ν1 0).n 0), 0, none⟩))), (3, .slot true (.pointer (some ⟨((ν1 1).n 0), 0, none⟩))), (4, .slot true (.pointer (some ⟨((ν1 2).n 0), 0, none⟩))), (15, .slot true (.pointer (some ⟨((ν30 5).n 0), 0, none⟩))), (16, .slot true (.int .i64 t33.1)), (106, .blk ((ν1 0).n 0) [.int .i64 a0.Lo, .int .i64 a0.Hi] 23), (107, .blk ((ν1 1).n 0) [.int .i64 a1.Lo, .int .i64 a1.Hi] 23), (108, .blk ((ν1 2).n 0) [.int .i64 0, .int .i64 0] 23), (110, .blk ((ν30 5).n 0) [.func (.func 98) #[] #[], .func (.func 97) #[] #[]] 61), (999999, gk)] (by kernel_rfl)
          refine k_seq ?_
          replace G := bnd G; obtain ⟨t35, ht35, G⟩ := G
          replace G := bnd G; obtain ⟨t36, ht36, G⟩ := G
          refine k_reg mixed H (.cons [93] (ok_val (fun ν34 => .pointer (some ⟨((ν30 5).n 0), 1, none⟩)) 93) <|
      .cons [94] (ok_ld (fun ν34 => .func (.func 97) #[] #[]) 94 110 1 1 (fun ν34 => ((ν30 5).n 0)) (fun ν34 => [.func (.func 98) #[] #[], .func (.func 97) #[] #[]]) 61) <|
      .cons [95] (ok_ld (fun ν34 => .agg #[.int .i64 a0.Lo, .int .i64 a0.Hi]) 95 106 0 2 (fun ν34 => ((ν1 0).n 0)) (fun ν34 => [.int .i64 a0.Lo, .int .i64 a0.Hi]) 23) <|
      .cons [96] (ok_ld (fun ν34 => .agg #[.int .i64 a1.Lo, .int .i64 a1.Hi]) 96 107 0 2 (fun ν34 => ((ν1 1).n 0)) (fun ν34 => [.int .i64 a1.Lo, .int .i64 a1.Hi]) 23) <|
      .cons [97] (ok_callv 97 (fun ν34 => #[.agg #[.int .i64 a0.Lo, .int .i64 a0.Hi], .agg #[.int .i64 a1.Lo, .int .i64 a1.Hi]]) (.tuple #[.int .i64 t35.1, .int .i64 t35.2]) 97 [] (fun _ w _ => interval_ll.calls a0 a1 t35 w ht35)) <|
      .cons [98] (ok_val (fun ν34 => .int .i64 t35.1) 98) <|
      .cons [99] (ok_val (fun ν34 => .int .i64 t35.2) 99) <|
      .cons [100] (ok_callv 65 (fun ν34 => #[.int .i64 t35.1, .int .i64 t35.2]) (.tuple #[.int .i64 t36.1, .int .i64 t36.2]) 100 [] (fun _ w _ => fixed_Mul.calls t35.1 t35.2 t36 w ht36)) <|
      .cons [92] (ok_val (fun ν34 => .tuple #[.int .i64 t36.1, .int .i64 t36.2]) 92) <|
      .cons [101] (ok_val (fun ν34 => .int .i64 t36.1) 101) <|
      .cons [102] (ok_val (fun ν34 => .int .i64 t36.2) 102) <|
      .cons [18] (ok_val (fun ν34 => .int .i64 t36.1) 18) <|
      .cons [19] (ok_val (fun ν34 => .int .i64 t36.2) 19) <| .nil) (by kernel_rfl) fun ν34 a w' H => ?_
          replace H := H.toL [(4, .slot true (.pointer (some ⟨((ν1 2).n 0), 0, none⟩))), (16, .slot true (.int .i64 t33.1)), (19, .slot true (.int .i64 t36.2)), (108, .blk ((ν1 2).n 0) [.int .i64 0, .int .i64 0] 23), (999999, gk)] (by kernel_rfl)
          refine k_seq ?_
          replace G := bnd G; obtain ⟨t38, ht38, G⟩ := G
          refine k_reg mixed H (.cons [103] (ok_val (fun ν37 => .int .i64 t33.1) 103) <|
      .cons [104] (ok_val (fun ν37 => .int .i64 t36.2) 104) <|
      .cons [105] (ok_callv 54 (fun ν37 => #[.int .i64 t33.1, .int .i64 t36.2]) (.agg #[.int .i64 t38.Lo, .int .i64 t38.Hi]) 105 [] (fun _ w _ => interval_New.calls t33.1 t36.2 t38 w ht38)) <|
      .cons [108] (ok_as (u' := fun ν37 => [(108, .blk ((ν1 2).n 0) [.int .i64 t38.Lo, .int .i64 t38.Hi] 23)]) (ok_store 108 0 (fun ν37 => ((ν1 2).n 0)) (fun ν37 => [.int .i64 0, .int .i64 0]) (fun ν37 => [.int .i64 t38.Lo, .int .i64 t38.Hi]) 23) (fun _ => by kernel_rfl)) <| .nil) (by kernel_rfl) fun ν37 a w' H => ?_
          replace H := H.toL [(4, .slot true (.pointer (some ⟨((ν1 2).n 0), 0, none⟩))), (108, .blk ((ν1 2).n 0) [.int .i64 t38.Lo, .int .i64 t38.Hi] 23), (999999, gk)] (by kernel_rfl)
          refine k_ret ?_
          obtain rfl := Option.some.inj G
          exact k_done1 H _ 108 ((ν1 2).n 0) [.int .i64 t38.Lo, .int .i64 t38.Hi] 23 0 2 (by kernel_rfl) (by kernel_rfl) (by kernel_rfl) (by kernel_rfl)
        rw [if_neg c49] at G
        by_cases c50 : t9 = 2
        · rw [if_pos c50] at G; subst c50
          refine k_reg mixed H (.cons [76] (ok_val (fun ν39 => .int .i64 0) 76) <|
      .cons [77] (ok_val (fun ν39 => .int .i64 2) 77) <|
      .cons [78] (ok_val (fun ν39 => .pointer (some ⟨0, 0, none⟩)) 78) <|
      .cons [79] (ok_val (fun ν39 => .pointer (some ⟨0, 4, none⟩)) 79) <|
      .cons [80] (ok_ldK (fun ν39 => .agg #[.func (.func 98) #[] #[], .func (.func 99) #[] #[]]) 80 999999 gk 0 4 2 gTab0 (fun w h => (glob_of h).tab0)) <|
      .cons [15, 111] (ok_new (fun b => .pointer (some ⟨b, 0, none⟩)) (fun ν39 => [.nilFunc, .nilFunc]) 61 15 111) <|
      .cons [111] (ok_as (u' := fun ν39 => [(111, .blk ((ν39 5).n 0) [.func (.func 98) #[] #[], .func (.func 99) #[] #[]] 61)]) (ok_store 111 0 (fun ν39 => ((ν39 5).n 0)) (fun ν39 => [.nilFunc, .nilFunc]) (fun ν39 => [.func (.func 98) #[] #[], .func (.func 99) #[] #[]]) 61) (fun _ => by kernel_rfl)) <| .nil) (by kernel_rfl) fun ν39 a w' H => ?_
          replace H := H.toL [(2, .slot true (.pointer (some ⟨((ν1 0).n 0), 0, none⟩))), (3, .slot true (.pointer (some ⟨((ν1 1).n 0), 0, none⟩))), (4, .slot true (.pointer (some ⟨((ν1 2).n 0), 0, none⟩))), (15, .slot true (.pointer (some ⟨((ν39 5).n 0), 0, none⟩))), (106, .blk ((ν1 0).n 0) [.int .i64 a0.Lo, .int .i64 a0.Hi] 23), (107, .blk ((ν1 1).n 0) [.int .i64 a1.Lo, .int .i64 a1.Hi] 23), (108, .blk ((ν1 2).n 0) [.int .i64 0, .int .i64 0] 23), (111, .blk ((ν39 5).n 0) [.func (.func 98) #[] #[], .func (.func 99) #[] #[]] 61), (999999, gk)] (by kernel_rfl)
          refine k_seq ?_
          replace G := bnd G; obtain ⟨t41, ht41, G⟩ := G
          replace G := bnd G; obtain ⟨t42, ht42, G⟩ := G
          refine k_reg mixed H (.cons [82] (ok_val (fun ν40 => .pointer (some ⟨((ν39 5).n 0), 0, none⟩)) 82) <|
      .cons [83] (ok_ld (fun ν40 => .func (.func 98) #[] #[]) 83 111 0 1 (fun ν40 => ((ν39 5).n 0)) (fun ν40 => [.func (.func 98) #[] #[], .func (.func 99) #[] #[]]) 61) <|
      .cons [84] (ok_ld (fun ν40 => .agg #[.int .i64 a0.Lo, .int .i64 a0.Hi]) 84 106 0 2 (fun ν40 => ((ν1 0).n 0)) (fun ν40 => [.int .i64 a0.Lo, .int .i64 a0.Hi]) 23) <|
      .cons [85] (ok_ld (fun ν40 => .agg #[.int .i64 a1.Lo, .int .i64 a1.Hi]) 85 107 0 2 (fun ν40 => ((ν1 1).n 0)) (fun ν40 => [.int .i64 a1.Lo, .int .i64 a1.Hi]) 23) <|
      .cons [86] (ok_callv 98 (fun ν40 => #[.agg #[.int .i64 a0.Lo, .int .i64 a0.Hi], .agg #[.int .i64 a1.Lo, .int .i64 a1.Hi]]) (.tuple #[.int .i64 t41.1, .int .i64 t41.2]) 86 [] (fun _ w _ => interval_lh.calls a0 a1 t41 w ht41)) <|
      .cons [87] (ok_val (fun ν40 => .int .i64 t41.1) 87) <|
      .cons [88] (ok_val (fun ν40 => .int .i64 t41.2) 88) <|
      .cons [89] (ok_callv 65 (fun ν40 => #[.int .i64 t41.1, .int .i64 t41.2]) (.tuple #[.int .i64 t42.1, .int .i64 t42.2]) 89 [] (fun _ w _ => fixed_Mul.calls t41.1 t41.2 t42 w ht42)) <|
      .cons [81] (ok_val (fun ν40 => .tuple #[.int .i64 t42.1, .int .i64 t42.2]) 81) <|
      .cons [90] (ok_val (fun ν40 => .int .i64 t42.1) 90) <|
      .cons [91] (ok_val (fun ν40 => .int .i64 t42.2) 91) <|
      .cons [16] (ok_val (fun ν40 => .int .i64 t42.1) 16) <|
      .cons [17] (ok_val (fun ν40 => .int .i64 t42.2) 17) <| .nil) (by kernel_rfl) fun ν40 a w' H => ?_
          replace H := H.toL [(2, .slot true (.pointer (some ⟨((ν1 0).n 0), 0, none⟩))), (3, .slot true (.pointer (some ⟨((ν1 1).n 0), 0, none⟩))), (4, .slot true (.pointer (some ⟨((ν1 2).n 0), 0, none⟩))), (15, .slot true (.pointer (some ⟨((ν39 5).n 0), 0, none⟩))), (16, .slot true (.int .i64 t42.1)), (106, .blk ((ν1 0).n 0) [.int .i64 a0.Lo, .int .i64 a0.Hi] 23), (107, .blk ((ν1 1).n 0) [.int .i64 a1.Lo, .int .i64 a1.Hi] 23), (108, .blk ((ν1 2).n 0) [.int .i64 0, .int .i64 0] 23), (111, .blk ((ν39 5).n 0) [.func (.func 98) #[] #[], .func (.func 99) #[] #[]] 61), (999999, gk)] (by kernel_rfl)
          refine k_seq ?_
          replace G := bnd G; obtain ⟨t44, ht44, G⟩ := G
          replace G := bnd G; obtain ⟨t45, ht45, G⟩ := G
          refine k_reg mixed H (.cons [93] (ok_val (fun ν43 => .pointer (some ⟨((ν39 5).n 0), 1, none⟩)) 93) <|
      .cons [94] (ok_ld (fun ν43 => .func (.func 99) #[] #[]) 94 111 1 1 (fun ν43 => ((ν39 5).n 0)) (fun ν43 => [.func (.func 98) #[] #[], .func (.func 99) #[] #[]]) 61) <|
      .cons [95] (ok_ld (fun ν43 => .agg #[.int .i64 a0.Lo, .int .i64 a0.Hi]) 95 106 0 2 (fun ν43 => ((ν1 0).n 0)) (fun ν43 => [.int .i64 a0.Lo, .int .i64 a0.Hi]) 23) <|
      .cons [96] (ok_ld (fun ν43 => .agg #[.int .i64 a1.Lo, .int .i64 a1.Hi]) 96 107 0 2 (fun ν43 => ((ν1 1).n 0)) (fun ν43 => [.int .i64 a1.Lo, .int .i64 a1.Hi]) 23) <|
      .cons [97] (ok_callv 99 (fun ν43 => #[.agg #[.int .i64 a0.Lo, .int .i64 a0.Hi], .agg #[.int .i64 a1.Lo, .int .i64 a1.Hi]]) (.tuple #[.int .i64 t44.1, .int .i64 t44.2]) 97 [] (fun _ w _ => interval_hl.calls a0 a1 t44 w ht44)) <|
      .cons [98] (ok_val (fun ν43 => .int .i64 t44.1) 98) <|
      .cons [99] (ok_val (fun ν43 => .int .i64 t44.2) 99) <|
      .cons [100] (ok_callv 65 (fun ν43 => #[.int .i64 t44.1, .int .i64 t44.2]) (.tuple #[.int .i64 t45.1, .int .i64 t45.2]) 100 [] (fun _ w _ => fixed_Mul.calls t44.1 t44.2 t45 w ht45)) <|
      .cons [92] (ok_val (fun ν43 => .tuple #[.int .i64 t45.1, .int .i64 t45.2]) 92) <|
      .cons [101] (ok_val (fun ν43 => .int .i64 t45.1) 101) <|
      .cons [102] (ok_val (fun ν43 => .int .i64 t45.2) 102) <|
      .cons [18] (ok_val (fun ν43 => .int .i64 t45.1) 18) <|
      .cons [19] (ok_val (fun ν43 => .int .i64 t45.2) 19) <| .nil) (by kernel_rfl) fun ν43 a w' H => ?_
          replace H := H.toL [(4, .slot true (.pointer (some ⟨((ν1 2).n 0), 0, none⟩))), (16, .slot true (.int .i64 t42.1)), (19, .slot true (.int .i64 t45.2)), (108, .blk ((ν1 2).n 0) [.int .i64 0, .int .i64 0] 23), (999999, gk)] (by kernel_rfl)
          refine k_seq ?_
          replace G := bnd G; obtain ⟨t47, ht47, G⟩ := G
          refine k_reg mixed H (.cons [103] (ok_val (fun ν46 => .int .i64 t42.1) 103) <|
      .cons [104] (ok_val (fun ν46 => .int .i64 t45.2) 104) <|
      .cons [105] (ok_callv 54 (fun ν46 => #[.int .i64 t42.1, .int .i64 t45.2]) (.agg #[.int .i64 t47.Lo, .int .i64 t47.Hi]) 105 [] (fun _ w _ => interval_New.calls t42.1 t45.2 t47 w ht47)) <|
      .cons [108] (ok_as (u' := fun ν46 => [(108, .blk ((ν1 2).n 0) [.int .i64 t47.Lo, .int .i64 t47.Hi] 23)]) (ok_store 108 0 (fun ν46 => ((ν1 2).n 0)) (fun ν46 => [.int .i64 0, .int .i64 0]) (fun ν46 => [.int .i64 t47.Lo, .int .i64 t47.Hi]) 23) (fun _ => by kernel_rfl)) <| .nil) (by kernel_rfl) fun ν46 a w' H => ?_
          replace H := H.toL [(4, .slot true (.pointer (some ⟨((ν1 2).n 0), 0, none⟩))), (108, .blk ((ν1 2).n 0) [.int .i64 t47.Lo, .int .i64 t47.Hi] 23), (999999, gk)] (by kernel_rfl)
          refine k_ret ?_
          obtain rfl := Option.some.inj G
          exact k_done1 H _ 108 ((ν1 2).n 0) [.int .i64 t47.Lo, .int .i64 t47.Hi] 23 0 2 (by kernel_rfl) (by kernel_rfl) (by kernel_rfl) (by kernel_rfl)
        rw [if_neg c50] at G
        cases G
      rw [if_neg c103] at G
      by_cases c104 : t8 = 1
      · rw [if_pos c104] at G; subst c104
        by_cases c70 : t9 = 0
        · rw [if_pos c70] at G; subst c70
          refine k_reg mixed H (.cons [76] (ok_val (fun ν51 => .int .i64 1) 76) <|
      .cons [77] (ok_val (fun ν51 => .int .i64 0) 77) <|
      .cons [78] (ok_val (fun ν51 => .pointer (some ⟨0, 6, none⟩)) 78) <|
      .cons [79] (ok_val (fun ν51 => .pointer (some ⟨0, 6, none⟩)) 79) <|
      .cons [80] (ok_ldK (fun ν51 => .agg #[.func (.func 99) #[] #[], .func (.func 97) #[] #[]]) 80 999999 gk 0 6 2 gTab0 (fun w h => (glob_of h).tab0)) <|
      .cons [15, 112] (ok_new (fun b => .pointer (some ⟨b, 0, none⟩)) (fun ν51 => [.nilFunc, .nilFunc]) 61 15 112) <|
      .cons [112] (ok_as (u' := fun ν51 => [(112, .blk ((ν51 5).n 0) [.func (.func 99) #[] #[], .func (.func 97) #[] #[]] 61)]) (ok_store 112 0 (fun ν51 => ((ν51 5).n 0)) (fun ν51 => [.nilFunc, .nilFunc]) (fun ν51 => [.func (.func 99) #[] #[], .func (.func 97) #[] #[]]) 61) (fun _ => by kernel_rfl)) <| .nil) (by kernel_rfl) fun ν51 a w' H => ?_
          replace H := H.toL [(2, .slot true (.pointer (some ⟨((ν1 0).n 0), 0, none⟩))), (3, .slot true (.pointer (some ⟨((ν1 1).n 0), 0, none⟩))), (4, .slot true (.pointer (some ⟨((ν1 2).n 0), 0, none⟩))), (15, .slot true (.pointer (some ⟨((ν51 5).n 0), 0, none⟩))), (106, .blk ((ν1 0).n 0) [.int .i64 a0.Lo, .int .i64 a0.Hi] 23), (107, .blk ((ν1 1).n 0) [.int .i64 a1.Lo, .int .i64 a1.Hi] 23), (108, .blk ((ν1 2).n 0) [.int .i64 0, .int .i64 0] 23), (112, .blk ((ν51 5).n 0) [.func (.func 99) #[] #[], .func (.func 97) #[] #[]] 61), (999999, gk)] (by kernel_rfl)
          refine k_seq ?_
          replace G := bnd G; obtain ⟨t53, ht53, G⟩ := G
          replace G := bnd G; obtain ⟨t54, ht54, G⟩ := G
          refine k_reg mixed H (.cons [82] (ok_val (fun ν52 => .pointer (some ⟨((ν51 5).n 0), 0, none⟩)) 82) <|
      .cons [83] (ok_ld (fun ν52 => .func (.func 99) #[] #[]) 83 112 0 1 (fun ν52 => ((ν51 5).n 0)) (fun ν52 => [.func (.func 99) #[] #[], .func (.func 97) #[] #[]]) 61) <|
      .cons [84] (ok_ld (fun ν52 => .agg #[.int .i64 a0.Lo, .int .i64 a0.Hi]) 84 106 0 2 (fun ν52 => ((ν1 0).n 0)) (fun ν52 => [.int .i64 a0.Lo, .int .i64 a0.Hi]) 23) <|
      .cons [85] (ok_ld (fun ν52 => .agg #[.int .i64 a1.Lo, .int .i64 a1.Hi]) 85 107 0 2 (fun ν52 => ((ν1 1).n 0)) (fun ν52 => [.int .i64 a1.Lo, .int .i64 a1.Hi]) 23) <|
      .cons [86] (ok_callv 99 (fun ν52 => #[.agg #[.int .i64 a0.Lo, .int .i64 a0.Hi], .agg #[.int .i64 a1.Lo, .int .i64 a1.Hi]]) (.tuple #[.int .i64 t53.1, .int .i64 t53.2]) 86 [] (fun _ w _ => interval_hl.calls a0 a1 t53 w ht53)) <|
      .cons [87] (ok_val (fun ν52 => .int .i64 t53.1) 87) <|
      .cons [88] (ok_val (fun ν52 => .int .i64 t53.2) 88) <|
      .cons [89] (ok_callv 65 (fun ν52 => #[.int .i64 t53.1, .int .i64 t53.2]) (.tuple #[.int .i64 t54.1, .int .i64 t54.2]) 89 [] (fun _ w _ => fixed_Mul.calls t53.1 t53.2 t54 w ht54)) <|
      .cons [81] (ok_val (fun ν52 => .tuple #[.int .i64 t54.1, .int .i64 t54.2]) 81) <|
      .cons [90] (ok_val (fun ν52 => .int .i64 t54.1) 90) <|
      .cons [91] (ok_val (fun ν52 => .int .i64 t54.2) 91) <|
      .cons [16] (ok_val (fun ν52 => .int .i64 t54.1) 16) <|
      .cons [17] (ok_val (fun ν52 => .int .i64 t54.2) 17) <| .nil) (by kernel_rfl) fun ν52 a w' H => ?_
          replace H := H.toL [(2, .slot true (.pointer (some ⟨((ν1 0).n 0), 0, none⟩))), (3, .slot true (.pointer (some ⟨((ν1 1).n 0), 0, none⟩))), (4, .slot true (.pointer (some ⟨((ν1 2).n 0), 0, none⟩))), (15, .slot true (.pointer (some ⟨((ν51 5).n 0), 0, none⟩))), (16, .slot true (.int .i64 t54.1)), (106, .blk ((ν1 0).n 0) [.int .i64 a0.Lo, .int .i64 a0.Hi] 23), (107, .blk ((ν1 1).n 0) [.int .i64 a1.Lo, .int .i64 a1.Hi] 23), (108, .blk ((ν1 2).n 0) [.int .i64 0, .int .i64 0] 23), (112, .blk ((ν51 5).n 0) [.func (.func 99) #[] #[], .func (.func 97) #[] #[]] 61), (999999, gk)] (by kernel_rfl)
          refine k_seq ?_
          replace G := bnd G; obtain ⟨t56, ht56, G⟩ := G
          replace G := bnd G; obtain ⟨t57, ht57, G⟩ := G
          refine k_reg mixed H (.cons [93] (ok_val (fun ν55 => .pointer (some ⟨((ν51 5).n 0), 1, none⟩)) 93) <|
      .cons [94] (ok_ld (fun ν55 => .func (.func 97) #[] #[]) 94 112 1 1 (fun ν55 => ((ν51 5).n 0)) (fun ν55 => [.func (.func 99) #[] #[], .func (.func 97) #[] #[]]) 61) <|
      .cons [95] (ok_ld (fun ν55 => .agg #[.int .i64 a0.Lo, .int .i64 a0.Hi]) 95 106 0 2 (fun ν55 => ((ν1 0).n 0)) (fun ν55 => [.int .i64 a0.Lo, .int .i64 a0.Hi]) 23) <|
      .cons [96] (ok_ld (fun ν55 => .agg #[.int .i64 a1.Lo, .int .i64 a1.Hi]) 96 107 0 2 (fun ν55 => ((ν1 1).n 0)) (fun ν55 => [.int .i64 a1.Lo, .int .i64 a1.Hi]) 23) <|
      .cons [97] (ok_callv 97 (fun ν55 => #[.agg #[.int .i64 a0.Lo, .int .i64 a0.Hi], .agg #[.int .i64 a1.Lo, .int .i64 a1.Hi]]) (.tuple #[.int .i64 t56.1, .int .i64 t56.2]) 97 [] (fun _ w _ => interval_ll.calls a0 a1 t56 w ht56)) <|
      .cons [98] (ok_val (fun ν55 => .int .i64 t56.1) 98) <|
      .cons [99] (ok_val (fun ν55 => .int .i64 t56.2) 99) <|
      .cons [100] (ok_callv 65 (fun ν55 => #[.int .i64 t56.1, .int .i64 t56.2]) (.tuple #[.int .i64 t57.1, .int .i64 t57.2]) 100 [] (fun _ w _ => fixed_Mul.calls t56.1 t56.2 t57 w ht57)) <|
      .cons [92] (ok_val (fun ν55 => .tuple #[.int .i64 t57.1, .int .i64 t57.2]) 92) <|
      .cons [101] (ok_val (fun ν55 => .int .i64 t57.1) 101) <|
      .cons [102] (ok_val (fun ν55 => .int .i64 t57.2) 102) <|
      .cons [18] (ok_val (fun ν55 => .int .i64 t57.1) 18) <|
      .cons [19] (ok_val (fun ν55 => .int .i64 t57.2) 19) <| .nil) (by kernel_rfl) fun ν55 a w' H => ?_
          replace H := H.toL [(4, .slot true (.pointer (some ⟨((ν1 2).n 0), 0, none⟩))), (16, .slot true (.int .i64 t54.1)), (19, .slot true (.int .i64 t57.2)), (108, .blk ((ν1 2).n 0) [.int .i64 0, .int .i64 0] 23), (999999, gk)] (by kernel_rfl)
          refine k_seq ?_
          replace G := bnd G; obtain ⟨t59, ht59, G⟩ := G
          refine k_reg mixed H (.cons [103] (ok_val (fun ν58 => .int .i64 t54.1) 103) <|
      .cons [104] (ok_val (fun ν58 => .int .i64 t57.2) 104) <|
      .cons [105] (ok_callv 54 (fun ν58 => #[.int .i64 t54.1, .int .i64 t57.2]) (.agg #[.int .i64 t59.Lo, .int .i64 t59.Hi]) 105 [] (fun _ w _ => interval_New.calls t54.1 t57.2 t59 w ht59)) <|
      .cons [108] (ok_as (u' := fun ν58 => [(108, .blk ((ν1 2).n 0) [.int .i64 t59.Lo, .int .i64 t59.Hi] 23)]) (ok_store 108 0 (fun ν58 => ((ν1 2).n 0)) (fun ν58 => [.int .i64 0, .int .i64 0]) (fun ν58 => [.int .i64 t59.Lo, .int .i64 t59.Hi]) 23) (fun _ => by kernel_rfl)) <| .nil) (by kernel_rfl) fun ν58 a w' H => ?_
          replace H := H.toL [(4, .slot true (.pointer (some ⟨((ν1 2).n 0), 0, none⟩))), (108, .blk ((ν1 2).n 0) [.int .i64 t59.Lo, .int .i64 t59.Hi] 23), (999999, gk)] (by kernel_rfl)
          refine k_ret ?_
          obtain rfl := Option.some.inj G
          exact k_done1 H _ 108 ((ν1 2).n 0) [.int .i64 t59.Lo, .int .i64 t59.Hi] 23 0 2 (by kernel_rfl) (by kernel_rfl) (by kernel_rfl) (by kernel_rfl)
        rw [if_neg c70] at G
        by_cases c71 : t9 = 1
        · rw [if_pos c71] at G; subst c71
          refine k_reg mixed H (.cons [76] (ok_val (fun ν60 => .int .i64 1) 76) <|
      .cons [77] (ok_val (fun ν60 => .int .i64 1) 77) <|
      .cons [78] (ok_val (fun ν60 => .pointer (some ⟨0, 6, none⟩)) 78) <|
      .cons [79] (ok_val (fun ν60 => .pointer (some ⟨0, 8, none⟩)) 79) <|
      .cons [80] (ok_ldK (fun ν60 => .agg #[.nilFunc, .nilFunc]) 80 999999 gk 0 8 2 gTab0 (fun w h => (glob_of h).tab0)) <|
      .cons [15, 113] (ok_new (fun b => .pointer (some ⟨b, 0, none⟩)) (fun ν60 => [.nilFunc, .nilFunc]) 61 15 113) <|
      .cons [113] (ok_as (u' := fun ν60 => [(113, .blk ((ν60 5).n 0) [.nilFunc, .nilFunc] 61)]) (ok_store 113 0 (fun ν60 => ((ν60 5).n 0)) (fun ν60 => [.nilFunc, .nilFunc]) (fun ν60 => [.nilFunc, .nilFunc]) 61) (fun _ => by kernel_rfl)) <| .nil) (by kernel_rfl) fun ν60 a w' H => ?_
          replace H := H.toL [(2, .slot true (.pointer (some ⟨((ν1 0).n 0), 0, none⟩))), (3, .slot true (.pointer (some ⟨((ν1 1).n 0), 0, none⟩))), (4, .slot true (.pointer (some ⟨((ν1 2).n 0), 0, none⟩))), (15, .slot true (.pointer (some ⟨((ν60 5).n 0), 0, none⟩))), (106, .blk ((ν1 0).n 0) [.int .i64 a0.Lo, .int .i64 a0.Hi] 23), (107, .blk ((ν1 1).n 0) [.int .i64 a1.Lo, .int .i64 a1.Hi] 23), (108, .blk ((ν1 2).n 0) [.int .i64 0, .int .i64 0] 23), (113, .blk ((ν60 5).n 0) [.nilFunc, .nilFunc] 61), (999999, gk)] (by kernel_rfl)
          refine k_seq ?_
          cases G
        rw [if_neg c71] at G
        by_cases c72 : t9 = 2
        · rw [if_pos c72] at G; subst c72
          refine k_reg mixed H (.cons [76] (ok_val (fun ν61 => .int .i64 1) 76) <|
      .cons [77] (ok_val (fun ν61 => .int .i64 2) 77) <|
      .cons [78] (ok_val (fun ν61 => .pointer (some ⟨0, 6, none⟩)) 78) <|
      .cons [79] (ok_val (fun ν61 => .pointer (some ⟨0, 10, none⟩)) 79) <|
      .cons [80] (ok_ldK (fun ν61 => .agg #[.func (.func 98) #[] #[], .func (.func 96) #[] #[]]) 80 999999 gk 0 10 2 gTab0 (fun w h => (glob_of h).tab0)) <|
      .cons [15, 114] (ok_new (fun b => .pointer (some ⟨b, 0, none⟩)) (fun ν61 => [.nilFunc, .nilFunc]) 61 15 114) <|
      .cons [114] (ok_as (u' := fun ν61 => [(114, .blk ((ν61 5).n 0) [.func (.func 98) #[] #[], .func (.func 96) #[] #[]] 61)]) (ok_store 114 0 (fun ν61 => ((ν61 5).n 0)) (fun ν61 => [.nilFunc, .nilFunc]) (fun ν61 => [.func (.func 98) #[] #[], .func (.func 96) #[] #[]]) 61) (fun _ => by kernel_rfl)) <| .nil) (by kernel_rfl) fun ν61 a w' H => ?_
          replace H := H.toL [(2, .slot true (.pointer (some ⟨((ν1 0).n 0), 0, none⟩))), (3, .slot true (.pointer (some ⟨((ν1 1).n 0), 0, none⟩))), (4, .slot true (.pointer (some ⟨((ν1 2).n 0), 0, none⟩))), (15, .slot true (.pointer (some ⟨((ν61 5).n 0), 0, none⟩))), (106, .blk ((ν1 0).n 0) [.int .i64 a0.Lo, .int .i64 a0.Hi] 23), (107, .blk ((ν1 1).n 0) [.int .i64 a1.Lo, .int .i64 a1.Hi] 23), (108, .blk ((ν1 2).n 0) [.int .i64 0, .int .i64 0] 23), (114, .blk ((ν61 5).n 0) [.func (.func 98) #[] #[], .func (.func 96) #[] #[]] 61), (999999, gk)] (by kernel_rfl)
          refine k_seq ?_
          replace G := bnd G; obtain ⟨t63, ht63, G⟩ := G
          replace G := bnd G; obtain ⟨t64, ht64, G⟩ := G
          refine k_reg mixed H (.cons [82] (ok_val (fun ν62 => .pointer (some ⟨((ν61 5).n 0), 0, none⟩)) 82) <|
      .cons [83] (ok_ld (fun ν62 => .func (.func 98) #[] #[]) 83 114 0 1 (fun ν62 => ((ν61 5).n 0)) (fun ν62 => [.func (.func 98) #[] #[], .func (.func 96) #[] #[]]) 61) <|
      .cons [84] (ok_ld (fun ν62 => .agg #[.int .i64 a0.Lo, .int .i64 a0.Hi]) 84 106 0 2 (fun ν62 => ((ν1 0).n 0)) (fun ν62 => [.int .i64 a0.Lo, .int .i64 a0.Hi]) 23) <|
      .cons [85] (ok_ld (fun ν62 => .agg #[.int .i64 a1.Lo, .int .i64 a1.Hi]) 85 107 0 2 (fun ν62 => ((ν1 1).n 0)) (fun ν62 => [.int .i64 a1.Lo, .int .i64 a1.Hi]) 23) <|
      .cons [86] (ok_callv 98 (fun ν62 => #[.agg #[.int .i64 a0.Lo, .int .i64 a0.Hi], .agg #[.int .i64 a1.Lo, .int .i64 a1.Hi]]) (.tuple #[.int .i64 t63.1, .int .i64 t63.2]) 86 [] (fun _ w _ => interval_lh.calls a0 a1 t63 w ht63)) <|
      .cons [87] (ok_val (fun ν62 => .int .i64 t63.1) 87) <|
      .cons [88] (ok_val (fun ν62 => .int .i64 t63.2) 88) <|
      .cons [89] (ok_callv 65 (fun ν62 => #[.int .i64 t63.1, .int .i64 t63.2]) (.tuple #[.int .i64 t64.1, .int .i64 t64.2]) 89 [] (fun _ w _ => fixed_Mul.calls t63.1 t63.2 t64 w ht64)) <|
      .cons [81] (ok_val (fun ν62 => .tuple #[.int .i64 t64.1, .int .i64 t64.2]) 81) <|
      .cons [90] (ok_val (fun ν62 => .int .i64 t64.1) 90) <|
      .cons [91] (ok_val (fun ν62 => .int .i64 t64.2) 91) <|
      .cons [16] (ok_val (fun ν62 => .int .i64 t64.1) 16) <|
      .cons [17] (ok_val (fun ν62 => .int .i64 t64.2) 17) <| .nil) (by kernel_rfl) fun ν62 a w' H => ?_
          replace H := H.toL [(2, .slot true (.pointer (some ⟨((ν1 0).n 0), 0, none⟩))), (3, .slot true (.pointer (some ⟨((ν1 1).n 0), 0, none⟩))), (4, .slot true (.pointer (some ⟨((ν1 2).n 0), 0, none⟩))), (15, .slot true (.pointer (some ⟨((ν61 5).n 0), 0, none⟩))), (16, .slot true (.int .i64 t64.1)), (106, .blk ((ν1 0).n 0) [.int .i64 a0.Lo, .int .i64 a0.Hi] 23), (107, .blk ((ν1 1).n 0) [.int .i64 a1.Lo, .int .i64 a1.Hi] 23), (108, .blk ((ν1 2).n 0) [.int .i64 0, .int .i64 0] 23), (114, .blk ((ν61 5).n 0) [.func (.func 98) #[] #[], .func (.func 96) #[] #[]] 61), (999999, gk)] (by kernel_rfl)
          refine k_seq ?_
          replace G := bnd G; obtain ⟨t66, ht66, G⟩ := G
          replace G := bnd G; obtain ⟨t67, ht67, G⟩ := G
          refine k_reg mixed H (.cons [93] (ok_val (fun ν65 => .pointer (some ⟨((ν61 5).n 0), 1, none⟩)) 93) <|
      .cons [94] (ok_ld (fun ν65 => .func (.func 96) #[] #[]) 94 114 1 1 (fun ν65 => ((ν61 5).n 0)) (fun ν65 => [.func (.func 98) #[] #[], .func (.func 96) #[] #[]]) 61) <|
      .cons [95] (ok_ld (fun ν65 => .agg #[.int .i64 a0.Lo, .int .i64 a0.Hi]) 95 106 0 2 (fun ν65 => ((ν1 0).n 0)) (fun ν65 => [.int .i64 a0.Lo, .int .i64 a0.Hi]) 23) <|
      .cons [96] (ok_ld (fun ν65 => .agg #[.int .i64 a1.Lo, .int .i64 a1.Hi]) 96 107 0 2 (fun ν65 => ((ν1 1).n 0)) (fun ν65 => [.int .i64 a1.Lo, .int .i64 a1.Hi]) 23) <|
      .cons [97] (ok_callv 96 (fun ν65 => #[.agg #[.int .i64 a0.Lo, .int .i64 a0.Hi], .agg #[.int .i64 a1.Lo, .int .i64 a1.Hi]]) (.tuple #[.int .i64 t66.1, .int .i64 t66.2]) 97 [] (fun _ w _ => interval_hh.calls a0 a1 t66 w ht66)) <|
      .cons [98] (ok_val (fun ν65 => .int .i64 t66.1) 98) <|
      .cons [99] (ok_val (fun ν65 => .int .i64 t66.2) 99) <|
      .cons [100] (ok_callv 65 (fun ν65 => #[.int .i64 t66.1, .int .i64 t66.2]) (.tuple #[.int .i64 t67.1, .int .i64 t67.2]) 100 [] (fun _ w _ => fixed_Mul.calls t66.1 t66.2 t67 w ht67)) <|
      .cons [92] (ok_val (fun ν65 => .tuple #[.int .i64 t67.1, .int .i64 t67.2]) 92) <|
      .cons [101] (ok_val (fun ν65 => .int .i64 t67.1) 101) <|
      .cons [102] (ok_val (fun ν65 => .int .i64 t67.2) 102) <|
      .cons [18] (ok_val (fun ν65 => .int .i64 t67.1) 18) <|
      .cons [19] (ok_val (fun ν65 => .int .i64 t67.2) 19) <| .nil) (by kernel_rfl) fun ν65 a w' H => ?_
          replace H := H.toL [(4, .slot true (.pointer (some ⟨((ν1 2).n 0), 0, none⟩))), (16, .slot true (.int .i64 t64.1)), (19, .slot true (.int .i64 t67.2)), (108, .blk ((ν1 2).n 0) [.int .i64 0, .int .i64 0] 23), (999999, gk)] (by kernel_rfl)
          refine k_seq ?_
          replace G := bnd G; obtain ⟨t69, ht69, G⟩ := G
          refine k_reg mixed H (.cons [103] (ok_val (fun ν68 => .int .i64 t64.1) 103) <|
      .cons [104] (ok_val (fun ν68 => .int .i64 t67.2) 104) <|
      .cons [105] (ok_callv 54 (fun ν68 => #[.int .i64 t64.1, .int .i64 t67.2]) (.agg #[.int .i64 t69.Lo, .int .i64 t69.Hi]) 105 [] (fun _ w _ => interval_New.calls t64.1 t67.2 t69 w ht69)) <|
      .cons [108] (ok_as (u' := fun ν68 => [(108, .blk ((ν1 2).n 0) [.int .i64 t69.Lo, .int .i64 t69.Hi] 23)]) (ok_store 108 0 (fun ν68 => ((ν1 2).n 0)) (fun ν68 => [.int .i64 0, .int .i64 0]) (fun ν68 => [.int .i64 t69.Lo, .int .i64 t69.Hi]) 23) (fun _ => by kernel_rfl)) <| .nil) (by kernel_rfl) fun ν68 a w' H => ?_
          replace H := H.toL [(4, .slot true (.pointer (some ⟨((ν1 2).n 0), 0, none⟩))), (108, .blk ((ν1 2).n 0) [.int .i64 t69.Lo, .int .i64 t69.Hi] 23), (999999, gk)] (by kernel_rfl)
          refine k_ret ?_
          obtain rfl := Option.some.inj G
          exact k_done1 H _ 108 ((ν1 2).n 0) [.int .i64 t69.Lo, .int .i64 t69.Hi] 23 0 2 (by kernel_rfl) (by kernel_rfl) (by kernel_rfl) (by kernel_rfl)
        rw [if_neg c72] at G
        cases G
      rw [if_neg c104] at G
      by_cases c105 : t8 = 2
      · rw [if_pos c105] at G; subst c105
        by_cases c100 : t9 = 0
        · rw [if_pos c100] at G; subst c100
          refine k_reg mixed H (.cons [76] (ok_val (fun ν73 => .int .i64 2) 76) <|
      .cons [77] (ok_val (fun ν73 => .int .i64 0) 77) <|
      .cons [78] (ok_val (fun ν73 => .pointer (some ⟨0, 12, none⟩)) 78) <|
      .cons [79] (ok_val (fun ν73 => .pointer (some ⟨0, 12, none⟩)) 79) <|
      .cons [80] (ok_ldK (fun ν73 => .agg #[.func (.func 99) #[] #[], .func (.func 98) #[] #[]]) 80 999999 gk 0 12 2 gTab0 (fun w h => (glob_of h).tab0)) <|
      .cons [15, 115] (ok_new (fun b => .pointer (some ⟨b, 0, none⟩)) (fun ν73 => [.nilFunc, .nilFunc]) 61 15 115) <|
      .cons [115] (ok_as (u' := fun ν73 => [(115, .blk ((ν73 5).n 0) [.func (.func 99) #[] #[], .func (.func 98) #[] #[]] 61)]) (ok_store 115 0 (fun ν73 => ((ν73 5).n 0)) (fun ν73 => [.nilFunc, .nilFunc]) (fun ν73 => [.func (.func 99) #[] #[], .func (.func 98) #[] #[]]) 61) (fun _ => by kernel_rfl)) <| .nil) (by kernel_rfl) fun ν73 a w' H => ?_
          replace H := H.toL [(2, .slot true (.pointer (some ⟨((ν1 0).n 0), 0, none⟩))), (3, .slot true (.pointer (some ⟨((ν1 1).n 0), 0, none⟩))), (4, .slot true (.pointer (some ⟨((ν1 2).n 0), 0, none⟩))), (15, .slot true (.pointer (some ⟨((ν73 5).n 0), 0, none⟩))), (106, .blk ((ν1 0).n 0) [.int .i64 a0.Lo, .int .i64 a0.Hi] 23), (107, .blk ((ν1 1).n 0) [.int .i64 a1.Lo, .int .i64 a1.Hi] 23), (108, .blk ((ν1 2).n 0) [.int .i64 0, .int .i64 0] 23), (115, .blk ((ν73 5).n 0) [.func (.func 99) #[] #[], .func (.func 98) #[] #[]] 61), (999999, gk)] (by kernel_rfl)
          refine k_seq ?_
          replace G := bnd G; obtain ⟨t75, ht75, G⟩ := G
          replace G := bnd G; obtain ⟨t76, ht76, G⟩ := G
          refine k_reg mixed H (.cons [82] (ok_val (fun ν74 => .pointer (some ⟨((ν73 5).n 0), 0, none⟩)) 82) <|
      .cons [83] (ok_ld (fun ν74 => .func (.func 99) #[] #[]) 83 115 0 1 (fun ν74 => ((ν73 5).n 0)) (fun ν74 => [.func (.func 99) #[] #[], .func (.func 98) #[] #[]]) 61) <|
      .cons [84] (ok_ld (fun ν74 => .agg #[.int .i64 a0.Lo, .int .i64 a0.Hi]) 84 106 0 2 (fun ν74 => ((ν1 0).n 0)) (fun ν74 => [.int .i64 a0.Lo, .int .i64 a0.Hi]) 23) <|
      .cons [85] (ok_ld (fun ν74 => .agg #[.int .i64 a1.Lo, .int .i64 a1.Hi]) 85 107 0 2 (fun ν74 => ((ν1 1).n 0)) (fun ν74 => [.int .i64 a1.Lo, .int .i64 a1.Hi]) 23) <|
      .cons [86] (ok_callv 99 (fun ν74 => #[.agg #[.int .i64 a0.Lo, .int .i64 a0.Hi], .agg #[.int .i64 a1.Lo, .int .i64 a1.Hi]]) (.tuple #[.int .i64 t75.1, .int .i64 t75.2]) 86 [] (fun _ w _ => interval_hl.calls a0 a1 t75 w ht75)) <|
      .cons [87] (ok_val (fun ν74 => .int .i64 t75.1) 87) <|
      .cons [88] (ok_val (fun ν74 => .int .i64 t75.2) 88) <|
      .cons [89] (ok_callv 65 (fun ν74 => #[.int .i64 t75.1, .int .i64 t75.2]) (.tuple #[.int .i64 t76.1, .int .i64 t76.2]) 89 [] (fun _ w _ => fixed_Mul.calls t75.1 t75.2 t76 w ht76)) <|
      .cons [81] (ok_val (fun ν74 => .tuple #[.int .i64 t76.1, .int .i64 t76.2]) 81) <|
      .cons [90] (ok_val (fun ν74 => .int .i64 t76.1) 90) <|
      .cons [91] (ok_val (fun ν74 => .int .i64 t76.2) 91) <|
      .cons [16] (ok_val (fun ν74 => .int .i64 t76.1) 16) <|
      .cons [17] (ok_val (fun ν74 => .int .i64 t76.2) 17) <| .nil) (by kernel_rfl) fun ν74 a w' H => ?_
          replace H := H.toL [(2, .slot true (.pointer (some ⟨((ν1 0).n 0), 0, none⟩))), (3, .slot true (.pointer (some ⟨((ν1 1).n 0), 0, none⟩))), (4, .slot true (.pointer (some ⟨((ν1 2).n 0), 0, none⟩))), (15, .slot true (.pointer (some ⟨((ν73 5).n 0), 0, none⟩))), (16, .slot true (.int .i64 t76.1)), (106, .blk ((ν1 0).n 0) [.int .i64 a0.Lo, .int .i64 a0.Hi] 23), (107, .blk ((ν1 1).n 0) [.int .i64 a1.Lo, .int .i64 a1.Hi] 23), (108, .blk ((ν1 2).n 0) [.int .i64 0, .int .i64 0] 23), (115, .blk ((ν73 5).n 0) [.func (.func 99) #[] #[], .func (.func 98) #[] #[]] 61), (999999, gk)] (by kernel_rfl)
          refine k_seq ?_
          replace G := bnd G; obtain ⟨t78, ht78, G⟩ := G
          replace G := bnd G; obtain ⟨t79, ht79, G⟩ := G
          refine k_reg mixed H (.cons [93] (ok_val (fun ν77 => .pointer (some ⟨((ν73 5).n 0), 1, none⟩)) 93) <|
      .cons [94] (ok_ld (fun ν77 => .func (.func 98) #[] #[]) 94 115 1 1 (fun ν77 => ((ν73 5).n 0)) (fun ν77 => [.func (.func 99) #[] #[], .func (.func 98) #[] #[]]) 61) <|
      .cons [95] (ok_ld (fun ν77 => .agg #[.int .i64 a0.Lo, .int .i64 a0.Hi]) 95 106 0 2 (fun ν77 => ((ν1 0).n 0)) (fun ν77 => [.int .i64 a0.Lo, .int .i64 a0.Hi]) 23) <|
      .cons [96] (ok_ld (fun ν77 => .agg #[.int .i64 a1.Lo, .int .i64 a1.Hi]) 96 107 0 2 (fun ν77 => ((ν1 1).n 0)) (fun ν77 => [.int .i64 a1.Lo, .int .i64 a1.Hi]) 23) <|
      .cons [97] (ok_callv 98 (fun ν77 => #[.agg #[.int .i64 a0.Lo, .int .i64 a0.Hi], .agg #[.int .i64 a1.Lo, .int .i64 a1.Hi]]) (.tuple #[.int .i64 t78.1, .int .i64 t78.2]) 97 [] (fun _ w _ => interval_lh.calls a0 a1 t78 w ht78)) <|
      .cons [98] (ok_val (fun ν77 => .int .i64 t78.1) 98) <|
      .cons [99] (ok_val (fun ν77 => .int .i64 t78.2) 99) <|
      .cons [100] (ok_callv 65 (fun ν77 => #[.int .i64 t78.1, .int .i64 t78.2]) (.tuple #[.int .i64 t79.1, .int .i64 t79.2]) 100 [] (fun _ w _ => fixed_Mul.calls t78.1 t78.2 t79 w ht79)) <|
      .cons [92] (ok_val (fun ν77 => .tuple #[.int .i64 t79.1, .int .i64 t79.2]) 92) <|
      .cons [101] (ok_val (fun ν77 => .int .i64 t79.1) 101) <|
      .cons [102] (ok_val (fun ν77 => .int .i64 t79.2) 102) <|
      .cons [18] (ok_val (fun ν77 => .int .i64 t79.1) 18) <|
      .cons [19] (ok_val (fun ν77 => .int .i64 t79.2) 19) <| .nil) (by kernel_rfl) fun ν77 a w' H => ?_
          replace H := H.toL [(4, .slot true (.pointer (some ⟨((ν1 2).n 0), 0, none⟩))), (16, .slot true (.int .i64 t76.1)), (19, .slot true (.int .i64 t79.2)), (108, .blk ((ν1 2).n 0) [.int .i64 0, .int .i64 0] 23), (999999, gk)] (by kernel_rfl)
          refine k_seq ?_
          replace G := bnd G; obtain ⟨t81, ht81, G⟩ := G
          refine k_reg mixed H (.cons [103] (ok_val (fun ν80 => .int .i64 t76.1) 103) <|
      .cons [104] (ok_val (fun ν80 => .int .i64 t79.2) 104) <|
      .cons [105] (ok_callv 54 (fun ν80 => #[.int .i64 t76.1, .int .i64 t79.2]) (.agg #[.int .i64 t81.Lo, .int .i64 t81.Hi]) 105 [] (fun _ w _ => interval_New.calls t76.1 t79.2 t81 w ht81)) <|
      .cons [108] (ok_as (u' := fun ν80 => [(108, .blk ((ν1 2).n 0) [.int .i64 t81.Lo, .int .i64 t81.Hi] 23)]) (ok_store 108 0 (fun ν80 => ((ν1 2).n 0)) (fun ν80 => [.int .i64 0, .int .i64 0]) (fun ν80 => [.int .i64 t81.Lo, .int .i64 t81.Hi]) 23) (fun _ => by kernel_rfl)) <| .nil) (by kernel_rfl) fun ν80 a w' H => ?_
          replace H := H.toL [(4, .slot true (.pointer (some ⟨((ν1 2).n 0), 0, none⟩))), (108, .blk ((ν1 2).n 0) [.int .i64 t81.Lo, .int .i64 t81.Hi] 23), (999999, gk)] (by kernel_rfl)
          refine k_ret ?_
          obtain rfl := Option.some.inj G
          exact k_done1 H _ 108 ((ν1 2).n 0) [.int .i64 t81.Lo, .int .i64 t81.Hi] 23 0 2 (by kernel_rfl) (by kernel_rfl) (by kernel_rfl) (by kernel_rfl)
        rw [if_neg c100] at G
        by_cases c101 : t9 = 1
        · rw [if_pos c101] at G; subst c101
          refine k_reg mixed H (.cons [76] (ok_val (fun ν82 => .int .i64 2) 76) <|
      .cons [77] (ok_val (fun ν82 => .int .i64 1) 77) <|
      .cons [78] (ok_val (fun ν82 => .pointer (some ⟨0, 12, none⟩)) 78) <|
      .cons [79] (ok_val (fun ν82 => .pointer (some ⟨0, 14, none⟩)) 79) <|
      .cons [80] (ok_ldK (fun ν82 => .agg #[.func (.func 99) #[] #[], .func (.func 96) #[] #[]]) 80 999999 gk 0 14 2 gTab0 (fun w h => (glob_of h).tab0)) <|
      .cons [15, 116] (ok_new (fun b => .pointer (some ⟨b, 0, none⟩)) (fun ν82 => [.nilFunc, .nilFunc]) 61 15 116) <|
      .cons [116] (ok_as (u' := fun ν82 => [(116, .blk ((ν82 5).n 0) [.func (.func 99) #[] #[], .func (.func 96) #[] #[]] 61)]) (ok_store 116 0 (fun ν82 => ((ν82 5).n 0)) (fun ν82 => [.nilFunc, .nilFunc]) (fun ν82 => [.func (.func 99) #[] #[], .func (.func 96) #[] #[]]) 61) (fun _ => by kernel_rfl)) <| .nil) (by kernel_rfl) fun ν82 a w' H => ?_
          replace H := H.toL [(2, .slot true (.pointer (some ⟨((ν1 0).n 0), 0, none⟩))), (3, .slot true (.pointer (some ⟨((ν1 1).n 0), 0, none⟩))), (4, .slot true (.pointer (some ⟨((ν1 2).n 0), 0, none⟩))), (15, .slot true (.pointer (some ⟨((ν82 5).n 0), 0, none⟩))), (106, .blk ((ν1 0).n 0) [.int .i64 a0.Lo, .int .i64 a0.Hi] 23), (107, .blk ((ν1 1).n 0) [.int .i64 a1.Lo, .int .i64 a1.Hi] 23), (108, .blk ((ν1 2).n 0) [.int .i64 0, .int .i64 0] 23), (116, .blk ((ν82 5).n 0) [.func (.func 99) #[] #[], .func (.func 96) #[] #[]] 61), (999999, gk)] (by kernel_rfl)
          refine k_seq ?_
          replace G := bnd G; obtain ⟨t84, ht84, G⟩ := G
          replace G := bnd G; obtain ⟨t85, ht85, G⟩ := G
          refine k_reg mixed H (.cons [82] (ok_val (fun ν83 => .pointer (some ⟨((ν82 5).n 0), 0, none⟩)) 82) <|
      .cons [83] (ok_ld (fun ν83 => .func (.func 99) #[] #[]) 83 116 0 1 (fun ν83 => ((ν82 5).n 0)) (fun ν83 => [.func (.func 99) #[] #[], .func (.func 96) #[] #[]]) 61) <|
      .cons [84] (ok_ld (fun ν83 => .agg #[.int .i64 a0.Lo, .int .i64 a0.Hi]) 84 106 0 2 (fun ν83 => ((ν1 0).n 0)) (fun ν83 => [.int .i64 a0.Lo, .int .i64 a0.Hi]) 23) <|
      .cons [85] (ok_ld (fun ν83 => .agg #[.int .i64 a1.Lo, .int .i64 a1.Hi]) 85 107 0 2 (fun ν83 => ((ν1 1).n 0)) (fun ν83 => [.int .i64 a1.Lo, .int .i64 a1.Hi]) 23) <|
      .cons [86] (ok_callv 99 (fun ν83 => #[.agg #[.int .i64 a0.Lo, .int .i64 a0.Hi], .agg #[.int .i64 a1.Lo, .int .i64 a1.Hi]]) (.tuple #[.int .i64 t84.1, .int .i64 t84.2]) 86 [] (fun _ w _ => interval_hl.calls a0 a1 t84 w ht84)) <|
      .cons [87] (ok_val (fun ν83 => .int .i64 t84.1) 87) <|
      .cons [88] (ok_val (fun ν83 => .int .i64 t84.2) 88) <|
      .cons [89] (ok_callv 65 (fun ν83 => #[.int .i64 t84.1, .int .i64 t84.2]) (.tuple #[.int .i64 t85.1, .int .i64 t85.2]) 89 [] (fun _ w _ => fixed_Mul.calls t84.1 t84.2 t85 w ht85)) <|
      .cons [81] (ok_val (fun ν83 => .tuple #[.int .i64 t85.1, .int .i64 t85.2]) 81) <|
      .cons [90] (ok_val (fun ν83 => .int .i64 t85.1) 90) <|
      .cons [91] (ok_val (fun ν83 => .int .i64 t85.2) 91) <|
      .cons [16] (ok_val (fun ν83 => .int .i64 t85.1) 16) <|
      .cons [17] (ok_val (fun ν83 => .int .i64 t85.2) 17) <| .nil) (by kernel_rfl) fun ν83 a w' H => ?_
          replace H := H.toL [(2, .slot true (.pointer (some ⟨((ν1 0).n 0), 0, none⟩))), (3, .slot true (.pointer (some ⟨((ν1 1).n 0), 0, none⟩))), (4, .slot true (.pointer (some ⟨((ν1 2).n 0), 0, none⟩))), (15, .slot true (.pointer (some ⟨((ν82 5).n 0), 0, none⟩))), (16, .slot true (.int .i64 t85.1)), (106, .blk ((ν1 0).n 0) [.int .i64 a0.Lo, .int .i64 a0.Hi] 23), (107, .blk ((ν1 1).n 0) [.int .i64 a1.Lo, .int .i64 a1.Hi] 23), (108, .blk ((ν1 2).n 0) [.int .i64 0, .int .i64 0] 23), (116, .blk ((ν82 5).n 0) [.func (.func 99) #[] #[], .func (.func 96) #[] #[]] 61), (999999, gk)] (by kernel_rfl)
          refine k_seq ?_
          replace G := bnd G; obtain ⟨t87, ht87, G⟩ := G
          replace G := bnd G; obtain ⟨t88, ht88, G⟩ := G
          refine k_reg mixed H (.cons [93] (ok_val (fun ν86 => .pointer (some ⟨((ν82 5).n 0), 1, none⟩)) 93) <|
      .cons [94] (ok_ld (fun ν86 => .func (.func 96) #[] #[]) 94 116 1 1 (fun ν86 => ((ν82 5).n 0)) (fun ν86 => [.func (.func 99) #[] #[], .func (.func 96) #[] #[]]) 61) <|
      .cons [95] (ok_ld (fun ν86 => .agg #[.int .i64 a0.Lo, .int .i64 a0.Hi]) 95 106 0 2 (fun ν86 => ((ν1 0).n 0)) (fun ν86 => [.int .i64 a0.Lo, .int .i64 a0.Hi]) 23) <|
      .cons [96] (ok_ld (fun ν86 => .agg #[.int .i64 a1.Lo, .int .i64 a1.Hi]) 96 107 0 2 (fun ν86 => ((ν1 1).n 0)) (fun ν86 => [.int .i64 a1.Lo, .int .i64 a1.Hi]) 23) <|
      .cons [97] (ok_callv 96 (fun ν86 => #[.agg #[.int .i64 a0.Lo, .int .i64 a0.Hi], .agg #[.int .i64 a1.Lo, .int .i64 a1.Hi]]) (.tuple #[.int .i64 t87.1, .int .i64 t87.2]) 97 [] (fun _ w _ => interval_hh.calls a0 a1 t87 w ht87)) <|
      .cons [98] (ok_val (fun ν86 => .int .i64 t87.1) 98) <|
      .cons [99] (ok_val (fun ν86 => .int .i64 t87.2) 99) <|
      .cons [100] (ok_callv 65 (fun ν86 => #[.int .i64 t87.1, .int .i64 t87.2]) (.tuple #[.int .i64 t88.1, .int .i64 t88.2]) 100 [] (fun _ w _ => fixed_Mul.calls t87.1 t87.2 t88 w ht88)) <|
      .cons [92] (ok_val (fun ν86 => .tuple #[.int .i64 t88.1, .int .i64 t88.2]) 92) <|
      .cons [101] (ok_val (fun ν86 => .int .i64 t88.1) 101) <|
      .cons [102] (ok_val (fun ν86 => .int .i64 t88.2) 102) <|
      .cons [18] (ok_val (fun ν86 => .int .i64 t88.1) 18) <|
      .cons [19] (ok_val (fun ν86 => .int .i64 t88.2) 19) <| .nil) (by kernel_rfl) fun ν86 a w' H => ?_
          replace H := H.toL [(4, .slot true (.pointer (some ⟨((ν1 2).n 0), 0, none⟩))), (16, .slot true (.int .i64 t85.1)), (19, .slot true (.int .i64 t88.2)), (108, .blk ((ν1 2).n 0) [.int .i64 0, .int .i64 0] 23), (999999, gk)] (by kernel_rfl)
          refine k_seq ?_
          replace G := bnd G; obtain ⟨t90, ht90, G⟩ := G
          refine k_reg mixed H (.cons [103] (ok_val (fun ν89 => .int .i64 t85.1) 103) <|
      .cons [104] (ok_val (fun ν89 => .int .i64 t88.2) 104) <|
      .cons [105] (ok_callv 54 (fun ν89 => #[.int .i64 t85.1, .int .i64 t88.2]) (.agg #[.int .i64 t90.Lo, .int .i64 t90.Hi]) 105 [] (fun _ w _ => interval_New.calls t85.1 t88.2 t90 w ht90)) <|
      .cons [108] (ok_as (u' := fun ν89 => [(108, .blk ((ν1 2).n 0) [.int .i64 t90.Lo, .int .i64 t90.Hi] 23)]) (ok_store 108 0 (fun ν89 => ((ν1 2).n 0)) (fun ν89 => [.int .i64 0, .int .i64 0]) (fun ν89 => [.int .i64 t90.Lo, .int .i64 t90.Hi]) 23) (fun _ => by kernel_rfl)) <| .nil) (by kernel_rfl) fun ν89 a w' H => ?_
          replace H := H.toL [(4, .slot true (.pointer (some ⟨((ν1 2).n 0), 0, none⟩))), (108, .blk ((ν1 2).n 0) [.int .i64 t90.Lo, .int .i64 t90.Hi] 23), (999999, gk)] (by kernel_rfl)
          refine k_ret ?_
          obtain rfl := Option.some.inj G
          exact k_done1 H _ 108 ((ν1 2).n 0) [.int .i64 t90.Lo, .int .i64 t90.Hi] 23 0 2 (by kernel_rfl) (by kernel_rfl) (by kernel_rfl) (by kernel_rfl)
        rw [if_neg c101] at G
        by_cases c102 : t9 = 2
        · rw [if_pos c102] at G; subst c102
          refine k_reg mixed H (.cons [76] (ok_val (fun ν91 => .int .i64 2) 76) <|
      .cons [77] (ok_val (fun ν91 => .int .i64 2) 77) <|
      .cons [78] (ok_val (fun ν91 => .pointer (some ⟨0, 12, none⟩)) 78) <|
      .cons [79] (ok_val (fun ν91 => .pointer (some ⟨0, 16, none⟩)) 79) <|
      .cons [80] (ok_ldK (fun ν91 => .agg #[.func (.func 97) #[] #[], .func (.func 96) #[] #[]]) 80 999999 gk 0 16 2 gTab0 (fun w h => (glob_of h).tab0)) <|
      .cons [15, 117] (ok_new (fun b => .pointer (some ⟨b, 0, none⟩)) (fun ν91 => [.nilFunc, .nilFunc]) 61 15 117) <|
      .cons [117] (ok_as (u' := fun ν91 => [(117, .blk ((ν91 5).n 0) [.func (.func 97) #[] #[], .func (.func 96) #[] #[]] 61)]) (ok_store 117 0 (fun ν91 => ((ν91 5).n 0)) (fun ν91 => [.nilFunc, .nilFunc]) (fun ν91 => [.func (.func 97) #[] #[], .func (.func 96) #[] #[]]) 61) (fun _ => by kernel_rfl)) <| .nil) (by kernel_rfl) fun ν91 a w' H => ?_
          replace H := H.toL [(2, .slot true (.pointer (some ⟨((ν1 0).n 0), 0, none⟩))), (3, .slot true (.pointer (some ⟨((ν1 1).n 0), 0, none⟩))), (4, .slot true (.pointer (some ⟨((ν1 2).n 0), 0, none⟩))), (15, .slot true (.pointer (some ⟨((ν91 5).n 0), 0, none⟩))), (106, .blk ((ν1 0).n 0) [.int .i64 a0.Lo, .int .i64 a0.Hi] 23), (107, .blk ((ν1 1).n 0) [.int .i64 a1.Lo, .int .i64 a1.Hi] 23), (108, .blk ((ν1 2).n 0) [.int .i64 0, .int .i64 0] 23), (117, .blk ((ν91 5).n 0) [.func (.func 97) #[] #[], .func (.func 96) #[] #[]] 61), (999999, gk)] (by kernel_rfl)
          refine k_seq ?_
          replace G := bnd G; obtain ⟨t93, ht93, G⟩ := G
          replace G := bnd G; obtain ⟨t94, ht94, G⟩ := G
          refine k_reg mixed H (.cons [82] (ok_val (fun ν92 => .pointer (some ⟨((ν91 5).n 0), 0, none⟩)) 82) <|
      .cons [83] (ok_ld (fun ν92 => .func (.func 97) #[] #[]) 83 117 0 1 (fun ν92 => ((ν91 5).n 0)) (fun ν92 => [.func (.func 97) #[] #[], .func (.func 96) #[] #[]]) 61) <|
      .cons [84] (ok_ld (fun ν92 => .agg #[.int .i64 a0.Lo, .int .i64 a0.Hi]) 84 106 0 2 (fun ν92 => ((ν1 0).n 0)) (fun ν92 => [.int .i64 a0.Lo, .int .i64 a0.Hi]) 23) <|
      .cons [85] (ok_ld (fun ν92 => .agg #[.int .i64 a1.Lo, .int .i64 a1.Hi]) 85 107 0 2 (fun ν92 => ((ν1 1).n 0)) (fun ν92 => [.int .i64 a1.Lo, .int .i64 a1.Hi]) 23) <|
      .cons [86] (ok_callv 97 (fun ν92 => #[.agg #[.int .i64 a0.Lo, .int .i64 a0.Hi], .agg #[.int .i64 a1.Lo, .int .i64 a1.Hi]]) (.tuple #[.int .i64 t93.1, .int .i64 t93.2]) 86 [] (fun _ w _ => interval_ll.calls a0 a1 t93 w ht93)) <|
      .cons [87] (ok_val (fun ν92 => .int .i64 t93.1) 87) <|
      .cons [88] (ok_val (fun ν92 => .int .i64 t93.2) 88) <|
      .cons [89] (ok_callv 65 (fun ν92 => #[.int .i64 t93.1, .int .i64 t93.2]) (.tuple #[.int .i64 t94.1, .int .i64 t94.2]) 89 [] (fun _ w _ => fixed_Mul.calls t93.1 t93.2 t94 w ht94)) <|
      .cons [81] (ok_val (fun ν92 => .tuple #[.int .i64 t94.1, .int .i64 t94.2]) 81) <|
      .cons [90] (ok_val (fun ν92 => .int .i64 t94.1) 90) <|
      .cons [91] (ok_val (fun ν92 => .int .i64 t94.2) 91) <|
      .cons [16] (ok_val (fun ν92 => .int .i64 t94.1) 16) <|
      .cons [17] (ok_val (fun ν92 => .int .i64 t94.2) 17) <| .nil) (by kernel_rfl) fun ν92 a w' H => ?_
          replace H := H.toL [(2, .slot true (.pointer (some ⟨((ν1 0).n 0), 0, none⟩))), (3, .slot true (.pointer (some ⟨((ν1 1).n 0), 0, none⟩))), (4, .slot true (.pointer (some ⟨((ν1 2).n 0), 0, none⟩))), (15, .slot true (.pointer (some ⟨((ν91 5).n 0), 0, none⟩))), (16, .slot true (.int .i64 t94.1)), (106, .blk ((ν1 0).n 0) [.int .i64 a0.Lo, .int .i64 a0.Hi] 23), (107, .blk ((ν1 1).n 0) [.int .i64 a1.Lo, .int .i64 a1.Hi] 23), (108, .blk ((ν1 2).n 0) [.int .i64 0, .int .i64 0] 23), (117, .blk ((ν91 5).n 0) [.func (.func 97) #[] #[], .func (.func 96) #[] #[]] 61), (999999, gk)] (by kernel_rfl)
          refine k_seq ?_
          replace G := bnd G; obtain ⟨t96, ht96, G⟩ := G
          replace G := bnd G; obtain ⟨t97, ht97, G⟩ := G
          refine k_reg mixed H (.cons [93] (ok_val (fun ν95 => .pointer (some ⟨((ν91 5).n 0), 1, none⟩)) 93) <|
      .cons [94] (ok_ld (fun ν95 => .func (.func 96) #[] #[]) 94 117 1 1 (fun ν95 => ((ν91 5).n 0)) (fun ν95 => [.func (.func 97) #[] #[], .func (.func 96) #[] #[]]) 61) <|
      .cons [95] (ok_ld (fun ν95 => .agg #[.int .i64 a0.Lo, .int .i64 a0.Hi]) 95 106 0 2 (fun ν95 => ((ν1 0).n 0)) (fun ν95 => [.int .i64 a0.Lo, .int .i64 a0.Hi]) 23) <|
      .cons [96] (ok_ld (fun ν95 => .agg #[.int .i64 a1.Lo, .int .i64 a1.Hi]) 96 107 0 2 (fun ν95 => ((ν1 1).n 0)) (fun ν95 => [.int .i64 a1.Lo, .int .i64 a1.Hi]) 23) <|
      .cons [97] (ok_callv 96 (fun ν95 => #[.agg #[.int .i64 a0.Lo, .int .i64 a0.Hi], .agg #[.int .i64 a1.Lo, .int .i64 a1.Hi]]) (.tuple #[.int .i64 t96.1, .int .i64 t96.2]) 97 [] (fun _ w _ => interval_hh.calls a0 a1 t96 w ht96)) <|
      .cons [98] (ok_val (fun ν95 => .int .i64 t96.1) 98) <|
      .cons [99] (ok_val (fun ν95 => .int .i64 t96.2) 99) <|
      .cons [100] (ok_callv 65 (fun ν95 => #[.int .i64 t96.1, .int .i64 t96.2]) (.tuple #[.int .i64 t97.1, .int .i64 t97.2]) 100 [] (fun _ w _ => fixed_Mul.calls t96.1 t96.2 t97 w ht97)) <|
      .cons [92] (ok_val (fun ν95 => .tuple #[.int .i64 t97.1, .int .i64 t97.2]) 92) <|
      .cons [101] (ok_val (fun ν95 => .int .i64 t97.1) 101) <|
      .cons [102] (ok_val (fun ν95 => .int .i64 t97.2) 102) <|
      .cons [18] (ok_val (fun ν95 => .int .i64 t97.1) 18) <|
      .cons [19] (ok_val (fun ν95 => .int .i64 t97.2) 19) <| .nil) (by kernel_rfl) fun ν95 a w' H => ?_
          replace H := H.toL [(4, .slot true (.pointer (some ⟨((ν1 2).n 0), 0, none⟩))), (16, .slot true (.int .i64 t94.1)), (19, .slot true (.int .i64 t97.2)), (108, .blk ((ν1 2).n 0) [.int .i64 0, .int .i64 0] 23), (999999, gk)] (by kernel_rfl)
          refine k_seq ?_
          replace G := bnd G; obtain ⟨t99, ht99, G⟩ := G
          refine k_reg mixed H (.cons [103] (ok_val (fun ν98 => .int .i64 t94.1) 103) <|
      .cons [104] (ok_val (fun ν98 => .int .i64 t97.2) 104) <|
      .cons [105] (ok_callv 54 (fun ν98 => #[.int .i64 t94.1, .int .i64 t97.2]) (.agg #[.int .i64 t99.Lo, .int .i64 t99.Hi]) 105 [] (fun _ w _ => interval_New.calls t94.1 t97.2 t99 w ht99)) <|
      .cons [108] (ok_as (u' := fun ν98 => [(108, .blk ((ν1 2).n 0) [.int .i64 t99.Lo, .int .i64 t99.Hi] 23)]) (ok_store 108 0 (fun ν98 => ((ν1 2).n 0)) (fun ν98 => [.int .i64 0, .int .i64 0]) (fun ν98 => [.int .i64 t99.Lo, .int .i64 t99.Hi]) 23) (fun _ => by kernel_rfl)) <| .nil) (by kernel_rfl) fun ν98 a w' H => ?_
          replace H := H.toL [(4, .slot true (.pointer (some ⟨((ν1 2).n 0), 0, none⟩))), (108, .blk ((ν1 2).n 0) [.int .i64 t99.Lo, .int .i64 t99.Hi] 23), (999999, gk)] (by kernel_rfl)
          refine k_ret ?_
          obtain rfl := Option.some.inj G
          exact k_done1 H _ 108 ((ν1 2).n 0) [.int .i64 t99.Lo, .int .i64 t99.Hi] 23 0 2 (by kernel_rfl) (by kernel_rfl) (by kernel_rfl) (by kernel_rfl)
        rw [if_neg c102] at G
        cases G
      rw [if_neg c105] at G
      cases G

set_option maxHeartbeats 4000000 in
theorem interval_Contains.calls (a0 : TInterval) (a1 : Int) (r : Bool) (w : World) (G : interval_Contains a0 a1 = some r) :
    Calls Tryd.prog 33 #[.agg #[.int .i64 a0.Lo, .int .i64 a0.Hi], .int .i64 a1] w fun e w' => e = .returned (.bool r) ∧ Below w.heap.size w w' := by
  refine k_enter (args := [.agg #[.int .i64 a0.Lo, .int .i64 a0.Hi], .int .i64 a1]) 19 Tryd.func33 rfl (by kernel_rfl) (by kernel_rfl) fun a H => ?_
  unfold interval_Contains at G
  refine k_seq ?_
  refine k_reg mixed H (.cons [2, 19] (ok_new (fun b => .pointer (some ⟨b, 0, none⟩)) (fun ν1 => [.int .i64 a0.Lo, .int .i64 a0.Hi]) 23 2 19) <|
      .cons [4] (ok_val (fun ν1 => .bool false) 4) <| .nil) (by kernel_rfl) fun ν1 a w' H => ?_
  replace H := H.toL [(1, .slot true (.int .i64 a1)), (2, .slot true (.pointer (some ⟨((ν1 0).n 0), 0, none⟩))), (4, .slot true (.bool false)), (19, .blk ((ν1 0).n 0) [.int .i64 a0.Lo, .int .i64 a0.Hi] 23)] (by kernel_rfl)
  refine k_seq ?_
  replace G := bnd G; obtain ⟨t3, ht3, G⟩ := G
  refine k_reg mixed H (.cons [5] (ok_ld (fun ν2 => .agg #[.int .i64 a0.Lo, .int .i64 a0.Hi]) 5 19 0 2 (fun ν2 => ((ν1 0).n 0)) (fun ν2 => [.int .i64 a0.Lo, .int .i64 a0.Hi]) 23) <|
      .cons [6] (ok_callv 38 (fun ν2 => #[.agg #[.int .i64 a0.Lo, .int .i64 a0.Hi]]) (.bool t3) 6 [] (fun _ w _ => interval_IsEntire.calls a0 t3 w ht3)) <|
      .cons [7] (ok_val (fun ν2 => .bool t3) 7) <|
      .cons [8] (ok_valg (fun ν2 => .pointer (some ⟨((ν1 0).n 0), 0, none⟩)) (fun ν2 => (t3 == false)) [true] 8) <|
      .cons [9] (ok_ldg (fun ν2 => .int .i64 a0.Lo) (fun ν2 => (t3 == false)) [false] 9 19 0 1 (fun ν2 => ((ν1 0).n 0)) (fun ν2 => [.int .i64 a0.Lo, .int .i64 a0.Hi]) 23) <|
      .cons [10] (ok_valg (fun ν2 => .int .i64 a1) (fun ν2 => (t3 == false)) [true] 10) <|
      .cons [11] (ok_valg (fun ν2 => .bool (decide (a0.Lo ≤ a1))) (fun ν2 => (t3 == false)) [false, false] 11) <|
      .cons [12] (ok_valg (fun ν2 => .bool (decide (a0.Lo ≤ a1))) (fun ν2 => (t3 == false)) [false] 12) <|
      .cons [13] (ok_valg (fun ν2 => .int .i64 a1) (fun ν2 => ((t3 == false) && ((decide (a0.Lo ≤ a1)) == true))) [true] 13) <|
      .cons [14] (ok_valg (fun ν2 => .pointer (some ⟨((ν1 0).n 0), 1, none⟩)) (fun ν2 => ((t3 == false) && ((decide (a0.Lo ≤ a1)) == true))) [true] 14) <|
      .cons [15] (ok_ldg (fun ν2 => .int .i64 a0.Hi) (fun ν2 => ((t3 == false) && ((decide (a0.Lo ≤ a1)) == true))) [false] 15 19 1 1 (fun ν2 => ((ν1 0).n 0)) (fun ν2 => [.int .i64 a0.Lo, .int .i64 a0.Hi]) 23) <|
      .cons [16] (ok_valg (fun ν2 => .bool (decide (a1 ≤ a0.Hi))) (fun ν2 => ((t3 == false) && ((decide (a0.Lo ≤ a1)) == true))) [false, false] 16) <|
      .cons [17] (ok_and 12 16 (fun ν2 => (t3 == false)) (fun ν2 => (t3 == false)) (fun ν2 => decide (a0.Lo ≤ a1)) (fun ν2 => decide (a1 ≤ a0.Hi)) 17) <|
      .cons [18] (ok_or 7 17 (fun ν2 => true) (fun ν2 => true) (fun ν2 => t3) (fun ν2 => ((decide (a0.Lo ≤ a1)) && (decide (a1 ≤ a0.Hi)))) 18) <|
      .cons [4] (ok_val (fun ν2 => .bool (t3 || ((decide (a0.Lo ≤ a1)) && (decide (a1 ≤ a0.Hi))))) 4) <| .nil) (by kernel_rfl) fun ν2 a w' H => ?_
  replace H := H.toL [(4, .slot true (.bool (t3 || ((decide (a0.Lo ≤ a1)) && (decide (a1 ≤ a0.Hi))))))] (by kernel_rfl)
  refine k_ret ?_
  obtain rfl := Option.some.inj G
  exact k_done0 H _ (by kernel_rfl) (by kernel_rfl)

set_option maxHeartbeats 4000000 in
theorem interval_pick_int.calls (a0 : Bool) (a1 : Int) (a2 : Int) (r : Int) (w : World) (G : interval_pick_int a0 a1 a2 = some r) :
    Calls Tryd.prog 66 #[.bool a0, .int .i64 a1, .int .i64 a2] w fun e w' => e = .returned (.int .i64 r) ∧ Below w.heap.size w w' := by
  refine k_enter (args := [.bool a0, .int .i64 a1, .int .i64 a2]) 10 Tryd.func66 rfl (by kernel_rfl) (by kernel_rfl) fun a H => ?_
  unfold interval_pick_int at G
  refine k_seq ?_
  refine k_reg mixed H (.cons [6] (ok_val (fun ν1 => .int .i64 0) 6) <| .nil) (by kernel_rfl) fun ν1 a w' H => ?_
  replace H := H.toL [(0, .slot true (.bool a0)), (1, .slot true (.int .i64 a1)), (2, .slot true (.int .i64 a2)), (6, .slot true (.int .i64 0))] (by kernel_rfl)
  refine k_seq ?_
  refine k_seq ?_
  refine k_reg mixed H (.cons [7] (ok_val (fun ν2 => .bool a0) 7) <| .nil) (by kernel_rfl) fun ν2 a w' H => ?_
  replace H := H.toL [(1, .slot true (.int .i64 a1)), (2, .slot true (.int .i64 a2)), (6, .slot true (.int .i64 0)), (7, .slot true (.bool a0))] (by kernel_rfl)
  refine k_cond H (by kernel_rfl) (t := a0) (by kernel_rfl) (fun c5 => ?_) (fun c5 => ?_)
  · rw [if_pos c5] at G
    refine k_seq ?_
    refine k_reg mixed H (.cons [8] (ok_val (fun ν3 => .int .i64 a1) 8) <|
      .cons [6] (ok_val (fun ν3 => .int .i64 a1) 6) <| .nil) (by kernel_rfl) fun ν3 a w' H => ?_
    replace H := H.toL [(2, .slot true (.int .i64 a2)), (6, .slot true (.int .i64 a1))] (by kernel_rfl)
    refine k_ret ?_
    obtain rfl := Option.some.inj G
    exact k_done0 H _ (by kernel_rfl) (by kernel_rfl)
  · rw [if_neg (nt c5)] at G
    refine k_skip ?_
    refine k_seq ?_
    refine k_reg mixed H (.cons [9] (ok_val (fun ν4 => .int .i64 a2) 9) <|
      .cons [6] (ok_val (fun ν4 => .int .i64 a2) 6) <| .nil) (by kernel_rfl) fun ν4 a w' H => ?_
    replace H := H.toL [(6, .slot true (.int .i64 a2))] (by kernel_rfl)
    refine k_ret ?_
    obtain rfl := Option.some.inj G
    exact k_done0 H _ (by kernel_rfl) (by kernel_rfl)

set_option maxHeartbeats 4000000 in
theorem fixed_Div.calls (a0 : Int) (a1 : Int) (r : Int × Int × Int) (w : World) (G : fixed_Div a0 a1 = some r) :
    Calls Tryd.prog 67 #[.int .i64 a0, .int .i64 a1] w fun e w' => e = .returned (.tuple #[.int .i64 r.1, .int .i64 r.2.1, .int .i64 r.2.2]) ∧ Below w.heap.size w w' := by
  refine k_enter (args := [.int .i64 a0, .int .i64 a1]) 20 Tryd.func67 rfl (by kernel_rfl) (by kernel_rfl) fun a H => ?_
  unfold fixed_Div at G
  refine k_seq ?_
  refine k_reg mixed H (.cons [4] (ok_val (fun ν1 => .int .i64 0) 4) <|
      .cons [5] (ok_val (fun ν1 => .int .i64 0) 5) <|
      .cons [6] (ok_val (fun ν1 => .int .i64 0) 6) <| .nil) (by kernel_rfl) fun ν1 a w' H => ?_
  replace H := H.toL [(0, .slot true (.int .i64 a0)), (1, .slot true (.int .i64 a1)), (4, .slot true (.int .i64 0)), (5, .slot true (.int .i64 0)), (6, .slot true (.int .i64 0))] (by kernel_rfl)
  refine k_seq ?_
  refine k_seq ?_
  refine k_reg mixed H (.cons [9] (ok_val (fun ν2 => .int .i64 a1) 9) <|
      .cons [10] (ok_val (fun ν2 => .bool (a1 == 0)) 10) <| .nil) (by kernel_rfl) fun ν2 a w' H => ?_
  replace H := H.toL [(0, .slot true (.int .i64 a0)), (1, .slot true (.int .i64 a1)), (4, .slot true (.int .i64 0)), (5, .slot true (.int .i64 0)), (6, .slot true (.int .i64 0)), (10, .slot true (.bool (a1 == 0)))] (by kernel_rfl)
  refine k_cond H (by kernel_rfl) (t := (a1 == 0)) (by kernel_rfl) (fun c7 => ?_) (fun c7 => ?_)
  · rw [if_pos c7] at G
    refine k_seq ?_
    refine k_reg mixed H (.cons [4] (ok_val (fun ν3 => .int .i64 0) 4) <|
      .cons [5] (ok_val (fun ν3 => .int .i64 0) 5) <|
      .cons [6] (ok_val (fun ν3 => .int .i64 3) 6) <| .nil) (by kernel_rfl) fun ν3 a w' H => ?_
    replace H := H.toL [(0, .slot true (.int .i64 a0)), (1, .slot true (.int .i64 a1)), (4, .slot true (.int .i64 0)), (5, .slot true (.int .i64 0)), (6, .slot true (.int .i64 3))] (by kernel_rfl)
    refine k_ret ?_
    obtain rfl := Option.some.inj G
    exact k_done0 H _ (by kernel_rfl) (by kernel_rfl)
  · rw [if_neg (nt c7)] at G
    refine k_skip ?_
    refine k_seq ?_
    replace G := bnd G; obtain ⟨t5, ht5, G⟩ := G
    refine k_reg mixed H (.cons [12] (ok_val (fun ν4 => .int .i64 a0) 12) <|
      .cons [13] (ok_val (fun ν4 => .int .i64 (w_i64 (a0 * 65536))) 13) <|
      .cons [14] (ok_val (fun ν4 => .int .i64 a1) 14) <|
      .cons [15] (ok_callv 75 (fun ν4 => #[.int .i64 (w_i64 (a0 * 65536)), .int .i64 a1]) (.tuple #[.int .i64 t5.1, .int .i64 t5.2]) 15 [] (fun _ w _ => fixed_divide.calls (w_i64 (a0 * 65536)) a1 t5 w ht5)) <|
      .cons [11] (ok_val (fun ν4 => .tuple #[.int .i64 t5.1, .int .i64 t5.2]) 11) <|
      .cons [16] (ok_val (fun ν4 => .int .i64 t5.1) 16) <|
      .cons [17] (ok_val (fun ν4 => .int .i64 t5.2) 17) <|
      .cons [7] (ok_val (fun ν4 => .int .i64 t5.1) 7) <|
      .cons [8] (ok_val (fun ν4 => .int .i64 t5.2) 8) <| .nil) (by kernel_rfl) fun ν4 a w' H => ?_
    replace H := H.toL [(4, .slot true (.int .i64 0)), (5, .slot true (.int .i64 0)), (6, .slot true (.int .i64 0)), (7, .slot true (.int .i64 t5.1)), (8, .slot true (.int .i64 t5.2))] (by kernel_rfl)
    refine k_seq ?_
    refine k_reg mixed H (.cons [18] (ok_val (fun ν6 => .int .i64 t5.1) 18) <|
      .cons [19] (ok_val (fun ν6 => .int .i64 t5.2) 19) <|
      .cons [4] (ok_val (fun ν6 => .int .i64 t5.1) 4) <|
      .cons [5] (ok_val (fun ν6 => .int .i64 t5.2) 5) <|
      .cons [6] (ok_val (fun ν6 => .int .i64 0) 6) <| .nil) (by kernel_rfl) fun ν6 a w' H => ?_
    replace H := H.toL [(4, .slot true (.int .i64 t5.1)), (5, .slot true (.int .i64 t5.2)), (6, .slot true (.int .i64 0))] (by kernel_rfl)
    refine k_ret ?_
    obtain rfl := Option.some.inj G
    exact k_done0 H _ (by kernel_rfl) (by kernel_rfl)

set_option maxHeartbeats 4000000 in
theorem interval_Div.calls (a0 : TInterval) (a1 : TInterval) (r : TInterval) (w : World) (hg : Glob w) (G : interval_Div a0 a1 = some r) :
    Calls Tryd.prog 16 #[.agg #[.int .i64 a0.Lo, .int .i64 a0.Hi], .agg #[.int .i64 a1.Lo, .int .i64 a1.Hi]] w fun e w' => e = .returned (.agg #[.int .i64 r.Lo, .int .i64 r.Hi]) ∧ Below w.heap.size w w' := by
  refine k_enterG (args := [.agg #[.int .i64 a0.Lo, .int .i64 a0.Hi], .agg #[.int .i64 a1.Lo, .int .i64 a1.Hi]]) 59 999999 globFp Glob (glob_local hg) (glob_in hg) Tryd.func16 rfl (by kernel_rfl) (by kernel_rfl) fun a H => ?_
  unfold interval_Div at G
  refine k_seq ?_
  refine k_reg mixed H (.cons [2, 59] (ok_new (fun b => .pointer (some ⟨b, 0, none⟩)) (fun ν1 => [.int .i64 a0.Lo, .int .i64 a0.Hi]) 23 2 59) <|
      .cons [3, 60] (ok_new (fun b => .pointer (some ⟨b, 0, none⟩)) (fun ν1 => [.int .i64 a1.Lo, .int .i64 a1.Hi]) 23 3 60) <|
      .cons [4, 61] (ok_new (fun b => .pointer (some ⟨b, 0, none⟩)) (fun ν1 => [.int .i64 0, .int .i64 0]) 23 4 61) <| .nil) (by kernel_rfl) fun ν1 a w' H => ?_
  replace H := H.toL [(2, .slot true (.pointer (some ⟨((ν1 0).n 0), 0, none⟩))), (3, .slot true (.pointer (some ⟨((ν1 1).n 0), 0, none⟩))), (4, .slot true (.pointer (some ⟨((ν1 2).n 0), 0, none⟩))), (59, .blk ((ν1 0).n 0) [.int .i64 a0.Lo, .int .i64 a0.Hi] 23), (60, .blk ((ν1 1).n 0) [.int .i64 a1.Lo, .int .i64 a1.Hi] 23), (61, .blk ((ν1 2).n 0) [.int .i64 0, .int .i64 0] 23), (999999, gk)] (by kernel_rfl)
  refine k_seq ?_
  refine k_seq ?_
  replace G := bnd G; obtain ⟨t3, ht3, G⟩ := G
  replace G := bnd G; obtain ⟨t4, ht4, G⟩ := G
  replace G := bnd G; obtain ⟨t5, ht5, G⟩ := G
  refine k_reg mixed H (.cons [12] (ok_ld (fun ν2 => .agg #[.int .i64 a0.Lo, .int .i64 a0.Hi]) 12 59 0 2 (fun ν2 => ((ν1 0).n 0)) (fun ν2 => [.int .i64 a0.Lo, .int .i64 a0.Hi]) 23) <|
      .cons [13] (ok_callv 38 (fun ν2 => #[.agg #[.int .i64 a0.Lo, .int .i64 a0.Hi]]) (.bool t3) 13 [] (fun _ w _ => interval_IsEntire.calls a0 t3 w ht3)) <|
      .cons [14] (ok_val (fun ν2 => .bool t3) 14) <|
      .cons [15] (ok_ldg (fun ν2 => .agg #[.int .i64 a1.Lo, .int .i64 a1.Hi]) (fun ν2 => (t3 == false)) [true] 15 60 0 2 (fun ν2 => ((ν1 1).n 0)) (fun ν2 => [.int .i64 a1.Lo, .int .i64 a1.Hi]) 23) <|
      .cons [16] (ok_call 38 (fun ν2 => #[.agg #[.int .i64 a1.Lo, .int .i64 a1.Hi]]) (.bool t4) (fun ν2 => (t3 == false)) [true, false] 16 [] (fun _ w hg _ => interval_IsEntire.calls a1 t4 w (ifp ht4 hg))) <|
      .cons [17] (ok_or 14 16 (fun ν2 => true) (fun ν2 => true) (fun ν2 => t3) (fun ν2 => t4) 17) <|
      .cons [18] (ok_val (fun ν2 => .bool (t3 || t4)) 18) <|
      .cons [19] (ok_ldg (fun ν2 => .agg #[.int .i64 a1.Lo, .int .i64 a1.Hi]) (fun ν2 => ((t3 || t4) == false)) [true] 19 60 0 2 (fun ν2 => ((ν1 1).n 0)) (fun ν2 => [.int .i64 a1.Lo, .int .i64 a1.Hi]) 23) <|
      .cons [20] (ok_call 33 (fun ν2 => #[.agg #[.int .i64 a1.Lo, .int .i64 a1.Hi], .int .i64 0]) (.bool t5) (fun ν2 => ((t3 || t4) == false)) [true, false, true] 20 [] (fun _ w hg _ => interval_Contains.calls a1 0 t5 w (ifp ht5 hg))) <|
      .cons [21] (ok_or 18 20 (fun ν2 => true) (fun ν2 => true) (fun ν2 => (t3 || t4)) (fun ν2 => t5) 21) <| .nil) (by kernel_rfl) fun ν2 a w' H => ?_
  replace H := H.toL [(2, .slot true (.pointer (some ⟨((ν1 0).n 0), 0, none⟩))), (3, .slot true (.pointer (some ⟨((ν1 1).n 0), 0, none⟩))), (4, .slot true (.pointer (some ⟨((ν1 2).n 0), 0, none⟩))), (21, .slot true (.bool ((t3 || t4) || t5))), (59, .blk ((ν1 0).n 0) [.int .i64 a0.Lo, .int .i64 a0.Hi] 23), (60, .blk ((ν1 1).n 0) [.int .i64 a1.Lo, .int .i64 a1.Hi] 23), (61, .blk ((ν1 2).n 0) [.int .i64 0, .int .i64 0] 23), (999999, gk)] (by kernel_rfl)
  refine k_cond H (by kernel_rfl) (t := ((t3 || t4) || t5)) (by kernel_rfl) (fun c24 => ?_) (fun c24 => ?_)
  · rw [if_pos c24] at G
    refine k_seq ?_
    replace G := bnd G; obtain ⟨t7, ht7, G⟩ := G
    refine k_reg mixed H (.cons [22] (ok_callv 50 (fun ν6 => #[]) (.agg #[.int .i64 t7.Lo, .int .i64 t7.Hi]) 22 [] (fun _ w _ => interval_Entire.calls  t7 w ht7)) <|
      .cons [61] (ok_as (u' := fun ν6 => [(61, .blk ((ν1 2).n 0) [.int .i64 t7.Lo, .int .i64 t7.Hi] 23)]) (ok_store 61 0 (fun ν6 => ((ν1 2).n 0)) (fun ν6 => [.int .i64 0, .int .i64 0]) (fun ν6 => [.int .i64 t7.Lo, .int .i64 t7.Hi]) 23) (fun _ => by kernel_rfl)) <| .nil) (by kernel_rfl) fun ν6 a w' H => ?_
    replace H := H.toL [(2, .slot true (.pointer (some ⟨((ν1 0).n 0), 0, none⟩))), (3, .slot true (.pointer (some ⟨((ν1 1).n 0), 0, none⟩))), (4, .slot true (.pointer (some ⟨((ν1 2).n 0), 0, none⟩))), (59, .blk ((ν1 0).n 0) [.int .i64 a0.Lo, .int .i64 a0.Hi] 23), (60, .blk ((ν1 1).n 0) [.int .i64 a1.Lo, .int .i64 a1.Hi] 23), (61, .blk ((ν1 2).n 0) [.int .i64 t7.Lo, .int .i64 t7.Hi] 23), (999999, gk)] (by kernel_rfl)
    refine k_ret ?_
    obtain rfl := Option.some.inj G
    exact k_done1 H _ 61 ((ν1 2).n 0) [.int .i64 t7.Lo, .int .i64 t7.Hi] 23 0 2 (by kernel_rfl) (by kernel_rfl) (by kernel_rfl) (by kernel_rfl)
  · rw [if_neg (nt c24)] at G
    refine k_skip ?_
    refine k_seq ?_
    replace G := bnd G; obtain ⟨t9, ht9, G⟩ := G
    by_cases c21 : t9 = 0
    · rw [if_pos c21] at G; subst c21
      replace G := bnd G; obtain ⟨t10, ht10, G⟩ := G
      by_cases c19 : t10 = 0
      · rw [if_pos c19] at G; subst c19
        refine k_reg mixed H (.cons [23] (ok_ld (fun ν8 => .agg #[.int .i64 a0.Lo, .int .i64 a0.Hi]) 23 59 0 2 (fun ν8 => ((ν1 0).n 0)) (fun ν8 => [.int .i64 a0.Lo, .int .i64 a0.Hi]) 23) <|
      .cons [24] (ok_callv 64 (fun ν8 => #[.agg #[.int .i64 a0.Lo, .int .i64 a0.Hi]]) (.int .i64 0) 24 [] (fun _ w _ => interval_side.calls a0 0 w ht9)) <|
      .cons [25] (ok_val (fun ν8 => .pointer (some ⟨((ν1 1).n 0), 0, none⟩)) 25) <|
      .cons [26] (ok_ld (fun ν8 => .int .i64 a1.Lo) 26 60 0 1 (fun ν8 => ((ν1 1).n 0)) (fun ν8 => [.int .i64 a1.Lo, .int .i64 a1.Hi]) 23) <|
      .cons [27] (ok_val (fun ν8 => .bool (decide (a1.Lo > 0))) 27) <|
      .cons [28] (ok_callv 66 (fun ν8 => #[.bool (decide (a1.Lo > 0)), .int .i64 1, .int .i64 0]) (.int .i64 0) 28 [] (fun _ w _ => interval_pick_int.calls (decide (a1.Lo > 0)) 1 0 0 w ht10)) <|
      .cons [29] (ok_val (fun ν8 => .pointer (some ⟨1, 0, none⟩)) 29) <|
      .cons [30] (ok_val (fun ν8 => .pointer (some ⟨1, 0, none⟩)) 30) <|
      .cons [31] (ok_ldK (fun ν8 => .agg #[.func (.func 99) #[] #[], .func (.func 98) #[] #[]]) 31 999999 gk 1 0 2 gTab1 (fun w h => (glob_of h).tab1)) <|
      .cons [5, 62] (ok_new (fun b => .pointer (some ⟨b, 0, none⟩)) (fun ν8 => [.nilFunc, .nilFunc]) 61 5 62) <|
      .cons [62] (ok_as (u' := fun ν8 => [(62, .blk ((ν8 9).n 0) [.func (.func 99) #[] #[], .func (.func 98) #[] #[]] 61)]) (ok_store 62 0 (fun ν8 => ((ν8 9).n 0)) (fun ν8 => [.nilFunc, .nilFunc]) (fun ν8 => [.func (.func 99) #[] #[], .func (.func 98) #[] #[]]) 61) (fun _ => by kernel_rfl)) <| .nil) (by kernel_rfl) fun ν8 a w' H => ?_
        replace H := H.toL [(2, .slot true (.pointer (some ⟨((ν1 0).n 0), 0, none⟩))), (3, .slot true (.pointer (some ⟨((ν1 1).n 0), 0, none⟩))), (4, .slot true (.pointer (some ⟨((ν1 2).n 0), 0, none⟩))), (5, .slot true (.pointer (some ⟨((ν8 9).n 0), 0, none⟩))), (59, .blk ((ν1 0).n 0) [.int .i64 a0.Lo, .int .i64 a0.Hi] 23), (60, .blk ((ν1 1).n 0) [.int .i64 a1.Lo, .int .i64 a1.Hi] 23), (61, .blk ((ν1 2).n 0) [.int .i64 0, .int .i64 0] 23), (62, .blk ((ν8 9).n 0) [.func (.func 99) #[] #[], .func (.func 98) #[] #[]] 61), (999999, gk)] (by kernel_rfl)
        refine k_seq ?_
        replace G := bnd G; obtain ⟨t12, ht12, G⟩ := G
        replace G := bnd G; obtain ⟨t13, ht13, G⟩ := G
        refine k_reg mixed H (.cons [33] (ok_val (fun ν11 => .pointer (some ⟨((ν8 9).n 0), 0, none⟩)) 33) <|
      .cons [34] (ok_ld (fun ν11 => .func (.func 99) #[] #[]) 34 62 0 1 (fun ν11 => ((ν8 9).n 0)) (fun ν11 => [.func (.func 99) #[] #[], .func (.func 98) #[] #[]]) 61) <|
      .cons [35] (ok_ld (fun ν11 => .agg #[.int .i64 a0.Lo, .int .i64 a0.Hi]) 35 59 0 2 (fun ν11 => ((ν1 0).n 0)) (fun ν11 => [.int .i64 a0.Lo, .int .i64 a0.Hi]) 23) <|
      .cons [36] (ok_ld (fun ν11 => .agg #[.int .i64 a1.Lo, .int .i64 a1.Hi]) 36 60 0 2 (fun ν11 => ((ν1 1).n 0)) (fun ν11 => [.int .i64 a1.Lo, .int .i64 a1.Hi]) 23) <|
      .cons [37] (ok_callv 99 (fun ν11 => #[.agg #[.int .i64 a0.Lo, .int .i64 a0.Hi], .agg #[.int .i64 a1.Lo, .int .i64 a1.Hi]]) (.tuple #[.int .i64 t12.1, .int .i64 t12.2]) 37 [] (fun _ w _ => interval_hl.calls a0 a1 t12 w ht12)) <|
      .cons [38] (ok_val (fun ν11 => .int .i64 t12.1) 38) <|
      .cons [39] (ok_val (fun ν11 => .int .i64 t12.2) 39) <|
      .cons [40] (ok_callv 67 (fun ν11 => #[.int .i64 t12.1, .int .i64 t12.2]) (.tuple #[.int .i64 t13.1, .int .i64 t13.2.1, .int .i64 t13.2.2]) 40 [] (fun _ w _ => fixed_Div.calls t12.1 t12.2 t13 w ht13)) <|
      .cons [32] (ok_val (fun ν11 => .tuple #[.int .i64 t13.1, .int .i64 t13.2.1, .int .i64 t13.2.2]) 32) <|
      .cons [41] (ok_val (fun ν11 => .int .i64 t13.1) 41) <|
      .cons [42] (ok_val (fun ν11 => .int .i64 t13.2.1) 42) <|
      .cons [43] (ok_val (fun ν11 => .int .i64 t13.2.2) 43) <|
      .cons [6] (ok_val (fun ν11 => .int .i64 t13.1) 6) <|
      .cons [7] (ok_val (fun ν11 => .int .i64 t13.2.1) 7) <|
      .cons [8] (ok_val (fun ν11 => .int .i64 t13.2.2) 8) <| .nil) (by kernel_rfl) fun ν11 a w' H => ?_
        replace H := H.toL [(2, .slot true (.pointer (some ⟨((ν1 0).n 0), 0, none⟩))), (3, .slot true (.pointer (some ⟨((ν1 1).n 0), 0, none⟩))), (4, .slot true (.pointer (some ⟨((ν1 2).n 0), 0, none⟩))), (5, .slot true (.pointer (some ⟨((ν8 9).n 0), 0, none⟩))), (6, .slot true (.int .i64 t13.1)), (59, .blk ((ν1 0).n 0) [.int .i64 a0.Lo, .int .i64 a0.Hi] 23), (60, .blk ((ν1 1).n 0) [.int .i64 a1.Lo, .int .i64 a1.Hi] 23), (61, .blk ((ν1 2).n 0) [.int .i64 0, .int .i64 0] 23), (62, .blk ((ν8 9).n 0) [.func (.func 99) #[] #[], .func (.func 98) #[] #[]] 61), (999999, gk)] (by kernel_rfl)
        refine k_seq ?_
        replace G := bnd G; obtain ⟨t15, ht15, G⟩ := G
        replace G := bnd G; obtain ⟨t16, ht16, G⟩ := G
        refine k_reg mixed H (.cons [45] (ok_val (fun ν14 => .pointer (some ⟨((ν8 9).n 0), 1, none⟩)) 45) <|
      .cons [46] (ok_ld (fun ν14 => .func (.func 98) #[] #[]) 46 62 1 1 (fun ν14 => ((ν8 9).n 0)) (fun ν14 => [.func (.func 99) #[] #[], .func (.func 98) #[] #[]]) 61) <|
      .cons [47] (ok_ld (fun ν14 => .agg #[.int .i64 a0.Lo, .int .i64 a0.Hi]) 47 59 0 2 (fun ν14 => ((ν1 0).n 0)) (fun ν14 => [.int .i64 a0.Lo, .int .i64 a0.Hi]) 23) <|
      .cons [48] (ok_ld (fun ν14 => .agg #[.int .i64 a1.Lo, .int .i64 a1.Hi]) 48 60 0 2 (fun ν14 => ((ν1 1).n 0)) (fun ν14 => [.int .i64 a1.Lo, .int .i64 a1.Hi]) 23) <|
      .cons [49] (ok_callv 98 (fun ν14 => #[.agg #[.int .i64 a0.Lo, .int .i64 a0.Hi], .agg #[.int .i64 a1.Lo, .int .i64 a1.Hi]]) (.tuple #[.int .i64 t15.1, .int .i64 t15.2]) 49 [] (fun _ w _ => interval_lh.calls a0 a1 t15 w ht15)) <|
      .cons [50] (ok_val (fun ν14 => .int .i64 t15.1) 50) <|
      .cons [51] (ok_val (fun ν14 => .int .i64 t15.2) 51) <|
      .cons [52] (ok_callv 67 (fun ν14 => #[.int .i64 t15.1, .int .i64 t15.2]) (.tuple #[.int .i64 t16.1, .int .i64 t16.2.1, .int .i64 t16.2.2]) 52 [] (fun _ w _ => fixed_Div.calls t15.1 t15.2 t16 w ht16)) <|
      .cons [44] (ok_val (fun ν14 => .tuple #[.int .i64 t16.1, .int .i64 t16.2.1, .int .i64 t16.2.2]) 44) <|
      .cons [53] (ok_val (fun ν14 => .int .i64 t16.1) 53) <|
      .cons [54] (ok_val (fun ν14 => .int .i64 t16.2.1) 54) <|
      .cons [55] (ok_val (fun ν14 => .int .i64 t16.2.2) 55) <|
      .cons [9] (ok_val (fun ν14 => .int .i64 t16.1) 9) <|
      .cons [10] (ok_val (fun ν14 => .int .i64 t16.2.1) 10) <|
      .cons [11] (ok_val (fun ν14 => .int .i64 t16.2.2) 11) <| .nil) (by kernel_rfl) fun ν14 a w' H => ?_
        replace H := H.toL [(4, .slot true (.pointer (some ⟨((ν1 2).n 0), 0, none⟩))), (6, .slot true (.int .i64 t13.1)), (10, .slot true (.int .i64 t16.2.1)), (61, .blk ((ν1 2).n 0) [.int .i64 0, .int .i64 0] 23), (999999, gk)] (by kernel_rfl)
        refine k_seq ?_
        replace G := bnd G; obtain ⟨t18, ht18, G⟩ := G
        refine k_reg mixed H (.cons [56] (ok_val (fun ν17 => .int .i64 t13.1) 56) <|
      .cons [57] (ok_val (fun ν17 => .int .i64 t16.2.1) 57) <|
      .cons [58] (ok_callv 54 (fun ν17 => #[.int .i64 t13.1, .int .i64 t16.2.1]) (.agg #[.int .i64 t18.Lo, .int .i64 t18.Hi]) 58 [] (fun _ w _ => interval_New.calls t13.1 t16.2.1 t18 w ht18)) <|
      .cons [61] (ok_as (u' := fun ν17 => [(61, .blk ((ν1 2).n 0) [.int .i64 t18.Lo, .int .i64 t18.Hi] 23)]) (ok_store 61 0 (fun ν17 => ((ν1 2).n 0)) (fun ν17 => [.int .i64 0, .int .i64 0]) (fun ν17 => [.int .i64 t18.Lo, .int .i64 t18.Hi]) 23) (fun _ => by kernel_rfl)) <| .nil) (by kernel_rfl) fun ν17 a w' H => ?_
        replace H := H.toL [(4, .slot true (.pointer (some ⟨((ν1 2).n 0), 0, none⟩))), (61, .blk ((ν1 2).n 0) [.int .i64 t18.Lo, .int .i64 t18.Hi] 23), (999999, gk)] (by kernel_rfl)
        refine k_ret ?_
        obtain rfl := Option.some.inj G
        exact k_done1 H _ 61 ((ν1 2).n 0) [.int .i64 t18.Lo, .int .i64 t18.Hi] 23 0 2 (by kernel_rfl) (by kernel_rfl) (by kernel_rfl) (by kernel_rfl)
      rw [if_neg c19] at G
      by_cases c20 : t10 = 1
      · rw [if_pos c20] at G; subst c20
        refine k_reg mixed H (.cons [23] (ok_ld (fun ν8 => .agg #[.int .i64 a0.Lo, .int .i64 a0.Hi]) 23 59 0 2 (fun ν8 => ((ν1 0).n 0)) (fun ν8 => [.int .i64 a0.Lo, .int .i64 a0.Hi]) 23) <|
      .cons [24] (ok_callv 64 (fun ν8 => #[.agg #[.int .i64 a0.Lo, .int .i64 a0.Hi]]) (.int .i64 0) 24 [] (fun _ w _ => interval_side.calls a0 0 w ht9)) <|
      .cons [25] (ok_val (fun ν8 => .pointer (some ⟨((ν1 1).n 0), 0, none⟩)) 25) <|
      .cons [26] (ok_ld (fun ν8 => .int .i64 a1.Lo) 26 60 0 1 (fun ν8 => ((ν1 1).n 0)) (fun ν8 => [.int .i64 a1.Lo, .int .i64 a1.Hi]) 23) <|
      .cons [27] (ok_val (fun ν8 => .bool (decide (a1.Lo > 0))) 27) <|
      .cons [28] (ok_callv 66 (fun ν8 => #[.bool (decide (a1.Lo > 0)), .int .i64 1, .int .i64 0]) (.int .i64 1) 28 [] (fun _ w _ => interval_pick_int.calls (decide (a1.Lo > 0)) 1 0 1 w ht10)) <|
      .cons [29] (ok_val (fun ν8 => .pointer (some ⟨1, 0, none⟩)) 29) <|
      .cons [30] (ok_val (fun ν8 => .pointer (some ⟨1, 2, none⟩)) 30) <|
      .cons [31] (ok_ldK (fun ν8 => .agg #[.func (.func 97) #[] #[], .func (.func 96) #[] #[]]) 31 999999 gk 1 2 2 gTab1 (fun w h => (glob_of h).tab1)) <|
      .cons [5, 62] (ok_new (fun b => .pointer (some ⟨b, 0, none⟩)) (fun ν8 => [.nilFunc, .nilFunc]) 61 5 62) <|
      .cons [62] (ok_as (u' := fun ν8 => [(62, .blk ((ν8 9).n 0) [.func (.func 97) #[] #[], .func (.func 96) #[] #[]] 61)]) (ok_store 62 0 (fun ν8 => ((ν8 9).n 0)) (fun ν8 => [.nilFunc, .nilFunc]) (fun ν8 => [.func (.func 97) #[] #[], .func (.func 96) #[] #[]]) 61) (fun _ => by kernel_rfl)) <| .nil) (by kernel_rfl) fun ν8 a w' H => ?_
        replace H := H.toL [(2, .slot true (.pointer (some ⟨((ν1 0).n 0), 0, none⟩))), (3, .slot true (.pointer (some ⟨((ν1 1).n 0), 0, none⟩))), (4, .slot true (.pointer (some ⟨((ν1 2).n 0), 0, none⟩))), (5, .slot true (.pointer (some ⟨((ν8 9).n 0), 0, none⟩))), (59, .blk ((ν1 0).n 0) [.int .i64 a0.Lo, .int .i64 a0.Hi] 23), (60, .blk ((ν1 1).n 0) [.int .i64 a1.Lo, .int .i64 a1.Hi] 23), (61, .blk ((ν1 2).n 0) [.int .i64 0, .int .i64 0] 23), (62, .blk ((ν8 9).n 0) [.func (.func 97) #[] #[], .func (.func 96) #[] #[]] 61), (999999, gk)] (by kernel_rfl)
        refine k_seq ?_
        replace G := bnd G; obtain ⟨t12, ht12, G⟩ := G
        replace G := bnd G; obtain ⟨t13, ht13, G⟩ := G
        refine k_reg mixed H (.cons [33] (ok_val (fun ν11 => .pointer (some ⟨((ν8 9).n 0), 0, none⟩)) 33) <|
      .cons [34] (ok_ld (fun ν11 => .func (.func 97) #[] #[]) 34 62 0 1 (fun ν11 => ((ν8 9).n 0)) (fun ν11 => [.func (.func 97) #[] #[], .func (.func 96) #[] #[]]) 61) <|
      .cons [35] (ok_ld (fun ν11 => .agg #[.int .i64 a0.Lo, .int .i64 a0.Hi]) 35 59 0 2 (fun ν11 => ((ν1 0).n 0)) (fun ν11 => [.int .i64 a0.Lo, .int .i64 a0.Hi]) 23) <|
      .cons [36] (ok_ld (fun ν11 => .agg #[.int .i64 a1.Lo, .int .i64 a1.Hi]) 36 60 0 2 (fun ν11 => ((ν1 1).n 0)) (fun ν11 => [.int .i64 a1.Lo, .int .i64 a1.Hi]) 23) <|
      .cons [37] (ok_callv 97 (fun ν11 => #[.agg #[.int .i64 a0.Lo, .int .i64 a0.Hi], .agg #[.int .i64 a1.Lo, .int .i64 a1.Hi]]) (.tuple #[.int .i64 t12.1, .int .i64 t12.2]) 37 [] (fun _ w _ => interval_ll.calls a0 a1 t12 w ht12)) <|
      .cons [38] (ok_val (fun ν11 => .int .i64 t12.1) 38) <|
      .cons [39] (ok_val (fun ν11 => .int .i64 t12.2) 39) <|
      .cons [40] (ok_callv 67 (fun ν11 => #[.int .i64 t12.1, .int .i64 t12.2]) (.tuple #[.int .i64 t13.1, .int .i64 t13.2.1, .int .i64 t13.2.2]) 40 [] (fun _ w _ => fixed_Div.calls t12.1 t12.2 t13 w ht13)) <|
      .cons [32] (ok_val (fun ν11 => .tuple #[.int .i64 t13.1, .int .i64 t13.2.1, .int .i64 t13.2.2]) 32) <|
      .cons [41] (ok_val (fun ν11 => .int .i64 t13.1) 41) <|
      .cons [42] (ok_val (fun ν11 => .int .i64 t13.2.1) 42) <|
      .cons [43] (ok_val (fun ν11 => .int .i64 t13.2.2) 43) <|
      .cons [6] (ok_val (fun ν11 => .int .i64 t13.1) 6) <|
      .cons [7] (ok_val (fun ν11 => .int .i64 t13.2.1) 7) <|
      .cons [8] (ok_val (fun ν11 => .int .i64 t13.2.2) 8) <| .nil) (by kernel_rfl) fun ν11 a w' H => ?_
        replace H := H.toL [(2, .slot true (.pointer (some ⟨((ν1 0).n 0), 0, none⟩))), (3, .slot true (.pointer (some ⟨((ν1 1).n 0), 0, none⟩))), (4, .slot true (.pointer (some ⟨((ν1 2).n 0), 0, none⟩))), (5, .slot true (.pointer (some ⟨((ν8 9).n 0), 0, none⟩))), (6, .slot true (.int .i64 t13.1)), (59, .blk ((ν1 0).n 0) [.int .i64 a0.Lo, .int .i64 a0.Hi] 23), (60, .blk ((ν1 1).n 0) [.int .i64 a1.Lo, .int .i64 a1.Hi] 23), (61, .blk ((ν1 2).n 0) [.int .i64 0, .int .i64 0] 23), (62, .blk ((ν8 9).n 0) [.func (.func 97) #[] #[], .func (.func 96) #[] #[]] 61), (999999, gk)] (by kernel_rfl)
        refine k_seq ?_
        replace G := bnd G; obtain ⟨t15, ht15, G⟩ := G
        replace G := bnd G; obtain ⟨t16, ht16, G⟩ := G
        refine k_reg mixed H (.cons [45] (ok_val (fun ν14 => .pointer (some ⟨((ν8 9).n 0), 1, none⟩)) 45) <|
      .cons [46] (ok_ld (fun ν14 => .func (.func 96) #[] #[]) 46 62 1 1 (fun ν14 => ((ν8 9).n 0)) (fun ν14 => [.func (.func 97) #[] #[], .func (.func 96) #[] #[]]) 61) <|
      .cons [47] (ok_ld (fun ν14 => .agg #[.int .i64 a0.Lo, .int .i64 a0.Hi]) 47 59 0 2 (fun ν14 => ((ν1 0).n 0)) (fun ν14 => [.int .i64 a0.Lo, .int .i64 a0.Hi]) 23) <|
      .cons [48] (ok_ld (fun ν14 => .agg #[.int .i64 a1.Lo, .int .i64 a1.Hi]) 48 60 0 2 (fun ν14 => ((ν1 1).n 0)) (fun ν14 => [.int .i64 a1.Lo, .int .i64 a1.Hi]) 23) <|
      .cons [49] (ok_callv 96 (fun ν14 => #[.agg #[.int .i64 a0.Lo, .int .i64 a0.Hi], .agg #[.int .i64 a1.Lo, .int .i64 a1.Hi]]) (.tuple #[.int .i64 t15.1, .int .i64 t15.2]) 49 [] (fun _ w _ => interval_hh.calls a0 a1 t15 w ht15)) <|
      .cons [50] (ok_val (fun ν14 => .int .i64 t15.1) 50) <|
      .cons [51] (ok_val (fun ν14 => .int .i64 t15.2) 51) <|
      .cons [52] (ok_callv 67 (fun ν14 => #[.int .i64 t15.1, .int .i64 t15.2]) (.tuple #[.int .i64 t16.1, .int .i64 t16.2.1, .int .i64 t16.2.2]) 52 [] (fun _ w _ => fixed_Div.calls t15.1 t15.2 t16 w ht16)) <|
      .cons [44] (ok_val (fun ν14 => .tuple #[.int .i64 t16.1, .int .i64 t16.2.1, .int .i64 t16.2.2]) 44) <|
      .cons [53] (ok_val (fun ν14 => .int .i64 t16.1) 53) <|
      .cons [54] (ok_val (fun ν14 => .int .i64 t16.2.1) 54) <|
      .cons [55] (ok_val (fun ν14 => .int .i64 t16.2.2) 55) <|
      .cons [9] (ok_val (fun ν14 => .int .i64 t16.1) 9) <|
      .cons [10] (ok_val (fun ν14 => .int .i64 t16.2.1) 10) <|
      .cons [11] (ok_val (fun ν14 => .int .i64 t16.2.2) 11) <| .nil) (by kernel_rfl) fun ν14 a w' H => ?_
        replace H := H.toL [(4, .slot true (.pointer (some ⟨((ν1 2).n 0), 0, none⟩))), (6, .slot true (.int .i64 t13.1)), (10, .slot true (.int .i64 t16.2.1)), (61, .blk ((ν1 2).n 0) [.int .i64 0, .int .i64 0] 23), (999999, gk)] (by kernel_rfl)
        refine k_seq ?_
        replace G := bnd G; obtain ⟨t18, ht18, G⟩ := G
        refine k_reg mixed H (.cons [56] (ok_val (fun ν17 => .int .i64 t13.1) 56) <|
      .cons [57] (ok_val (fun ν17 => .int .i64 t16.2.1) 57) <|
      .cons [58] (ok_callv 54 (fun ν17 => #[.int .i64 t13.1, .int .i64 t16.2.1]) (.agg #[.int .i64 t18.Lo, .int .i64 t18.Hi]) 58 [] (fun _ w _ => interval_New.calls t13.1 t16.2.1 t18 w ht18)) <|
      .cons [61] (ok_as (u' := fun ν17 => [(61, .blk ((ν1 2).n 0) [.int .i64 t18.Lo, .int .i64 t18.Hi] 23)]) (ok_store 61 0 (fun ν17 => ((ν1 2).n 0)) (fun ν17 => [.int .i64 0, .int .i64 0]) (fun ν17 => [.int .i64 t18.Lo, .int .i64 t18.Hi]) 23) (fun _ => by kernel_rfl)) <| .nil) (by kernel_rfl) fun ν17 a w' H => ?_
        replace H := H.toL [(4, .slot true (.pointer (some ⟨((ν1 2).n 0), 0, none⟩))), (61, .blk ((ν1 2).n 0) [.int .i64 t18.Lo, .int .i64 t18.Hi] 23), (999999, gk)] (by kernel_rfl)
        refine k_ret ?_
        obtain rfl := Option.some.inj G
        exact k_done1 H _ 61 ((ν1 2).n 0) [.int .i64 t18.Lo, .int .i64 t18.Hi] 23 0 2 (by kernel_rfl) (by kernel_rfl) (by kernel_rfl) (by kernel_rfl)
      rw [if_neg c20] at G
      cases G
    rw [if_neg c21] at G
    by_cases c22 : t9 = 1
    · rw [if_pos c22] at G; subst c22
      replace G := bnd G; obtain ⟨t10, ht10, G⟩ := G
      by_cases c19 : t10 = 0
      · rw [if_pos c19] at G; subst c19
        refine k_reg mixed H (.cons [23] (ok_ld (fun ν8 => .agg #[.int .i64 a0.Lo, .int .i64 a0.Hi]) 23 59 0 2 (fun ν8 => ((ν1 0).n 0)) (fun ν8 => [.int .i64 a0.Lo, .int .i64 a0.Hi]) 23) <|
      .cons [24] (ok_callv 64 (fun ν8 => #[.agg #[.int .i64 a0.Lo, .int .i64 a0.Hi]]) (.int .i64 1) 24 [] (fun _ w _ => interval_side.calls a0 1 w ht9)) <|
      .cons [25] (ok_val (fun ν8 => .pointer (some ⟨((ν1 1).n 0), 0, none⟩)) 25) <|
      .cons [26] (ok_ld (fun ν8 => .int .i64 a1.Lo) 26 60 0 1 (fun ν8 => ((ν1 1).n 0)) (fun ν8 => [.int .i64 a1.Lo, .int .i64 a1.Hi]) 23) <|
      .cons [27] (ok_val (fun ν8 => .bool (decide (a1.Lo > 0))) 27) <|
      .cons [28] (ok_callv 66 (fun ν8 => #[.bool (decide (a1.Lo > 0)), .int .i64 1, .int .i64 0]) (.int .i64 0) 28 [] (fun _ w _ => interval_pick_int.calls (decide (a1.Lo > 0)) 1 0 0 w ht10)) <|
      .cons [29] (ok_val (fun ν8 => .pointer (some ⟨1, 4, none⟩)) 29) <|
      .cons [30] (ok_val (fun ν8 => .pointer (some ⟨1, 4, none⟩)) 30) <|
      .cons [31] (ok_ldK (fun ν8 => .agg #[.func (.func 96) #[] #[], .func (.func 98) #[] #[]]) 31 999999 gk 1 4 2 gTab1 (fun w h => (glob_of h).tab1)) <|
      .cons [5, 62] (ok_new (fun b => .pointer (some ⟨b, 0, none⟩)) (fun ν8 => [.nilFunc, .nilFunc]) 61 5 62) <|
      .cons [62] (ok_as (u' := fun ν8 => [(62, .blk ((ν8 9).n 0) [.func (.func 96) #[] #[], .func (.func 98) #[] #[]] 61)]) (ok_store 62 0 (fun ν8 => ((ν8 9).n 0)) (fun ν8 => [.nilFunc, .nilFunc]) (fun ν8 => [.func (.func 96) #[] #[], .func (.func 98) #[] #[]]) 61) (fun _ => by kernel_rfl)) <| .nil) (by kernel_rfl) fun ν8 a w' H => ?_
        replace H := H.toL [(2, .slot true (.pointer (some ⟨((ν1 0).n 0), 0, none⟩))), (3, .slot true (.pointer (some ⟨((ν1 1).n 0), 0, none⟩))), (4, .slot true (.pointer (some ⟨((ν1 2).n 0), 0, none⟩))), (5, .slot true (.pointer (some ⟨((ν8 9).n 0), 0, none⟩))), (59, .blk ((ν1 0).n 0) [.int .i64 a0.Lo, .int .i64 a0.Hi] 23), (60, .blk ((ν1 1).n 0) [.int .i64 a1.Lo, .int .i64 a1.Hi] 23), (61, .blk ((ν1 2).n 0) [.int .i64 0, .int .i64 0] 23), (62, .blk ((ν8 9).n 0) [.func (.func 96) #[] #[], .func (.func 98) #[] #[]] 61), (999999, gk)] (by kernel_rfl)
        refine k_seq ?_
        replace G := bnd G; obtain ⟨t12, ht12, G⟩ := G
        replace G := bnd G; obtain ⟨t13, ht13, G⟩ := G
        refine k_reg mixed H (.cons [33] (ok_val (fun ν11 => .pointer (some ⟨((ν8 9).n 0), 0, none⟩)) 33) <|
      .cons [34] (ok_ld (fun ν11 => .func (.func 96) #[] #[]) 34 62 0 1 (fun ν11 => ((ν8 9).n 0)) (fun ν11 => [.func (.func 96) #[] #[], .func (.func 98) #[] #[]]) 61) <|
      .cons [35] (ok_ld (fun ν11 => .agg #[.int .i64 a0.Lo, .int .i64 a0.Hi]) 35 59 0 2 (fun ν11 => ((ν1 0).n 0)) (fun ν11 => [.int .i64 a0.Lo, .int .i64 a0.Hi]) 23) <|
      .cons [36] (ok_ld (fun ν11 => .agg #[.int .i64 a1.Lo, .int .i64 a1.Hi]) 36 60 0 2 (fun ν11 => ((ν1 1).n 0)) (fun ν11 => [.int .i64 a1.Lo, .int .i64 a1.Hi]) 23) <|
      .cons [37] (ok_callv 96 (fun ν11 => #[.agg #[.int .i64 a0.Lo, .int .i64 a0.Hi], .agg #[.int .i64 a1.Lo, .int .i64 a1.Hi]]) (.tuple #[.int .i64 t12.1, .int .i64 t12.2]) 37 [] (fun _ w _ => interval_hh.calls a0 a1 t12 w ht12)) <|
      .cons [38] (ok_val (fun ν11 => .int .i64 t12.1) 38) <|
      .cons [39] (ok_val (fun ν11 => .int .i64 t12.2) 39) <|
      .cons [40] (ok_callv 67 (fun ν11 => #[.int .i64 t12.1, .int .i64 t12.2]) (.tuple #[.int .i64 t13.1, .int .i64 t13.2.1, .int .i64 t13.2.2]) 40 [] (fun _ w _ => fixed_Div.calls t12.1 t12.2 t13 w ht13)) <|
      .cons [32] (ok_val (fun ν11 => .tuple #[.int .i64 t13.1, .int .i64 t13.2.1, .int .i64 t13.2.2]) 32) <|
      .cons [41] (ok_val (fun ν11 => .int .i64 t13.1) 41) <|
      .cons [42] (ok_val (fun ν11 => .int .i64 t13.2.1) 42) <|
      .cons [43] (ok_val (fun ν11 => .int .i64 t13.2.2) 43) <|
      .cons [6] (ok_val (fun ν11 => .int .i64 t13.1) 6) <|
      .cons [7] (ok_val (fun ν11 => .int .i64 t13.2.1) 7) <|
      .cons [8] (ok_val (fun ν11 => .int .i64 t13.2.2) 8) <| .nil) (by kernel_rfl) fun ν11 a w' H => ?_
        replace H := H.toL [(2, .slot true (.pointer (some ⟨((ν1 0).n 0), 0, none⟩))), (3, .slot true (.pointer (some ⟨((ν1 1).n 0), 0, none⟩))), (4, .slot true (.pointer (some ⟨((ν1 2).n 0), 0, none⟩))), (5, .slot true (.pointer (some ⟨((ν8 9).n 0), 0, none⟩))), (6, .slot true (.int .i64 t13.1)), (59, .blk ((ν1 0).n 0) [.int .i64 a0.Lo, .int .i64 a0.Hi] 23), (60, .blk ((ν1 1).n 0) [.int .i64 a1.Lo, .int .i64 a1.Hi] 23), (61, .blk ((ν1 2).n 0) [.int .i64 0, .int .i64 0] 23), (62, .blk ((ν8 9).n 0) [.func (.func 96) #[] #[], .func (.func 98) #[] #[]] 61), (999999, gk)] (by kernel_rfl)
        refine k_seq ?_
        replace G := bnd G; obtain ⟨t15, ht15, G⟩ := G
        replace G := bnd G; obtain ⟨t16, ht16, G⟩ := G
        refine k_reg mixed H (.cons [45] (ok_val (fun ν14 => .pointer (some ⟨((ν8 9).n 0), 1, none⟩)) 45) <|
      .cons [46] (ok_ld (fun ν14 => .func (.func 98) #[] #[]) 46 62 1 1 (fun ν14 => ((ν8 9).n 0)) (fun ν14 => [.func (.func 96) #[] #[], .func (.func 98) #[] #[]]) 61) <|
      .cons [47] (ok_ld (fun ν14 => .agg #[.int .i64 a0.Lo, .int .i64 a0.Hi]) 47 59 0 2 (fun ν14 => ((ν1 0).n 0)) (fun ν14 => [.int .i64 a0.Lo, .int .i64 a0.Hi]) 23) <|
      .cons [48] (ok_ld (fun ν14 => .agg #[.int .i64 a1.Lo, .int .i64 a1.Hi]) 48 60 0 2 (fun ν14 => ((ν1 1).n 0)) (fun ν14 => [.int .i64 a1.Lo, .int .i64 a1.Hi]) 23) <|
      .cons [49] (ok_callv 98 (fun ν14 => #[.agg #[.int .i64 a0.Lo, .int .i64 a0.Hi], .agg #[.int .i64 a1.Lo, .int .i64 a1.Hi]]) (.tuple #[.int .i64 t15.1, .int .i64 t15.2]) 49 [] (fun _ w _ => interval_lh.calls a0 a1 t15 w ht15)) <|
      .cons [50] (ok_val (fun ν14 => .int .i64 t15.1) 50) <|
      .cons [51] (ok_val (fun ν14 => .int .i64 t15.2) 51) <|
      .cons [52] (ok_callv 67 (fun ν14 => #[.int .i64 t15.1, .int .i64 t15.2]) (.tuple #[.int .i64 t16.1, .int .i64 t16.2.1, .int .i64 t16.2.2]) 52 [] (fun _ w _ => fixed_Div.calls t15.1 t15.2 t16 w ht16)) <|
      .cons [44] (ok_val (fun ν14 => .tuple #[.int .i64 t16.1, .int .i64 t16.2.1, .int .i64 t16.2.2]) 44) <|
      .cons [53] (ok_val (fun ν14 => .int .i64 t16.1) 53) <|
      .cons [54] (ok_val (fun ν14 => .int .i64 t16.2.1) 54) <|
      .cons [55] (ok_val (fun ν14 => .int .i64 t16.2.2) 55) <|
      .cons [9] (ok_val (fun ν14 => .int .i64 t16.1) 9) <|
      .cons [10] (ok_val (fun ν14 => .int .i64 t16.2.1) 10) <|
      .cons [11] (ok_val (fun ν14 => .int .i64 t16.2.2) 11) <| .nil) (by kernel_rfl) fun ν14 a w' H => ?_
        replace H := H.toL [(4, .slot true (.pointer (some ⟨((ν1 2).n 0), 0, none⟩))), (6, .slot true (.int .i64 t13.1)), (10, .slot true (.int .i64 t16.2.1)), (61, .blk ((ν1 2).n 0) [.int .i64 0, .int .i64 0] 23), (999999, gk)] (by kernel_rfl)
        refine k_seq ?_
        replace G := bnd G; obtain ⟨t18, ht18, G⟩ := G
        refine k_reg mixed H (.cons [56] (ok_val (fun ν17 => .int .i64 t13.1) 56) <|
      .cons [57] (ok_val (fun ν17 => .int .i64 t16.2.1) 57) <|
      .cons [58] (ok_callv 54 (fun ν17 => #[.int .i64 t13.1, .int .i64 t16.2.1]) (.agg #[.int .i64 t18.Lo, .int .i64 t18.Hi]) 58 [] (fun _ w _ => interval_New.calls t13.1 t16.2.1 t18 w ht18)) <|
      .cons [61] (ok_as (u' := fun ν17 => [(61, .blk ((ν1 2).n 0) [.int .i64 t18.Lo, .int .i64 t18.Hi] 23)]) (ok_store 61 0 (fun ν17 => ((ν1 2).n 0)) (fun ν17 => [.int .i64 0, .int .i64 0]) (fun ν17 => [.int .i64 t18.Lo, .int .i64 t18.Hi]) 23) (fun _ => by kernel_rfl)) <| .nil) (by kernel_rfl) fun ν17 a w' H => ?_
        replace H := H.toL [(4, .slot true (.pointer (some ⟨((ν1 2).n 0), 0, none⟩))), (61, .blk ((ν1 2).n 0) [.int .i64 t18.Lo, .int .i64 t18.Hi] 23), (999999, gk)] (by kernel_rfl)
        refine k_ret ?_
        obtain rfl := Option.some.inj G
        exact k_done1 H _ 61 ((ν1 2).n 0) [.int .i64 t18.Lo, .int .i64 t18.Hi] 23 0 2 (by kernel_rfl) (by kernel_rfl) (by kernel_rfl) (by kernel_rfl)
      rw [if_neg c19] at G
      by_cases c20 : t10 = 1
      · rw [if_pos c20] at G; subst c20
        refine k_reg mixed H (.cons [23] (ok_ld (fun ν8 => .agg #[.int .i64 a0.Lo, .int .i64 a0.Hi]) 23 59 0 2 (fun ν8 => ((ν1 0).n 0)) (fun ν8 => [.int .i64 a0.Lo, .int .i64 a0.Hi]) 23) <|
      .cons [24] (ok_callv 64 (fun ν8 => #[.agg #[.int .i64 a0.Lo, .int .i64 a0.Hi]]) (.int .i64 1) 24 [] (fun _ w _ => interval_side.calls a0 1 w ht9)) <|
      .cons [25] (ok_val (fun ν8 => .pointer (some ⟨((ν1 1).n 0), 0, none⟩)) 25) <|
      .cons [26] (ok_ld (fun ν8 => .int .i64 a1.Lo) 26 60 0 1 (fun ν8 => ((ν1 1).n 0)) (fun ν8 => [.int .i64 a1.Lo, .int .i64 a1.Hi]) 23) <|
      .cons [27] (ok_val (fun ν8 => .bool (decide (a1.Lo > 0))) 27) <|
      .cons [28] (ok_callv 66 (fun ν8 => #[.bool (decide (a1.Lo > 0)), .int .i64 1, .int .i64 0]) (.int .i64 1) 28 [] (fun _ w _ => interval_pick_int.calls (decide (a1.Lo > 0)) 1 0 1 w ht10)) <|
      .cons [29] (ok_val (fun ν8 => .pointer (some ⟨1, 4, none⟩)) 29) <|
      .cons [30] (ok_val (fun ν8 => .pointer (some ⟨1, 6, none⟩)) 30) <|
      .cons [31] (ok_ldK (fun ν8 => .agg #[.func (.func 97) #[] #[], .func (.func 99) #[] #[]]) 31 999999 gk 1 6 2 gTab1 (fun w h => (glob_of h).tab1)) <|
      .cons [5, 62] (ok_new (fun b => .pointer (some ⟨b, 0, none⟩)) (fun ν8 => [.nilFunc, .nilFunc]) 61 5 62) <|
      .cons [62] (ok_as (u' := fun ν8 => [(62, .blk ((ν8 9).n 0) [.func (.func 97) #[] #[], .func (.func 99) #[] #[]] 61)]) (ok_store 62 0 (fun ν8 => ((ν8 9).n 0)) (fun ν8 => [.nilFunc, .nilFunc]) (fun ν8 => [.func (.func 97) #[] #[], .func (.func 99) #[] #[]]) 61) (fun _ => by kernel_rfl)) <| .nil) (by kernel_rfl) fun ν8 a w' H => ?_
        replace H := H.toL [(2, .slot true (.pointer (some ⟨((ν1 0).n 0), 0, none⟩))), (3, .slot true (.pointer (some ⟨((ν1 1).n 0), 0, none⟩))), (4, .slot true (.pointer (some ⟨((ν1 2).n 0), 0, none⟩))), (5, .slot true (.pointer (some ⟨((ν8 9).n 0), 0, none⟩))), (59, .blk ((ν1 0).n 0) [.int .i64 a0.Lo, .int .i64 a0.Hi] 23), (60, .blk ((ν1 1).n 0) [.int .i64 a1.Lo, .int .i64 a1.Hi] 23), (61, .blk ((ν1 2).n 0) [.int .i64 0, .int .i64 0] 23), (62, .blk ((ν8 9).n 0) [.func (.func 97) #[] #[], .func (.func 99) #[] #[]] 61), (999999, gk)] (by kernel_rfl)
        refine k_seq ?_
        replace G := bnd G; obtain ⟨t12, ht12, G⟩ := G
        replace G := bnd G; obtain ⟨t13, ht13, G⟩ := G
        refine k_reg mixed H (.cons [33] (ok_val (fun ν11 => .pointer (some ⟨((ν8 9).n 0), 0, none⟩)) 33) <|
      .cons [34] (ok_ld (fun ν11 => .func (.func 97) #[] #[]) 34 62 0 1 (fun ν11 => ((ν8 9).n 0)) (fun ν11 => [.func (.func 97) #[] #[], .func (.func 99) #[] #[]]) 61) <|
      .cons [35] (ok_ld (fun ν11 => .agg #[.int .i64 a0.Lo, .int .i64 a0.Hi]) 35 59 0 2 (fun ν11 => ((ν1 0).n 0)) (fun ν11 => [.int .i64 a0.Lo, .int .i64 a0.Hi]) 23) <|
      .cons [36] (ok_ld (fun ν11 => .agg #[.int .i64 a1.Lo, .int .i64 a1.Hi]) 36 60 0 2 (fun ν11 => ((ν1 1).n 0)) (fun ν11 => [.int .i64 a1.Lo, .int .i64 a1.Hi]) 23) <|
      .cons [37] (ok_callv 97 (fun ν11 => #[.agg #[.int .i64 a0.Lo, .int .i64 a0.Hi], .agg #[.int .i64 a1.Lo, .int .i64 a1.Hi]]) (.tuple #[.int .i64 t12.1, .int .i64 t12.2]) 37 [] (fun _ w _ => interval_ll.calls a0 a1 t12 w ht12)) <|
      .cons [38] (ok_val (fun ν11 => .int .i64 t12.1) 38) <|
      .cons [39] (ok_val (fun ν11 => .int .i64 t12.2) 39) <|
      .cons [40] (ok_callv 67 (fun ν11 => #[.int .i64 t12.1, .int .i64 t12.2]) (.tuple #[.int .i64 t13.1, .int .i64 t13.2.1, .int .i64 t13.2.2]) 40 [] (fun _ w _ => fixed_Div.calls t12.1 t12.2 t13 w ht13)) <|
      .cons [32] (ok_val (fun ν11 => .tuple #[.int .i64 t13.1, .int .i64 t13.2.1, .int .i64 t13.2.2]) 32) <|
      .cons [41] (ok_val (fun ν11 => .int .i64 t13.1) 41) <|
      .cons [42] (ok_val (fun ν11 => .int .i64 t13.2.1) 42) <|
      .cons [43] (ok_val (fun ν11 => .int .i64 t13.2.2) 43) <|
      .cons [6] (ok_val (fun ν11 => .int .i64 t13.1) 6) <|
      .cons [7] (ok_val (fun ν11 => .int .i64 t13.2.1) 7) <|
      .cons [8] (ok_val (fun ν11 => .int .i64 t13.2.2) 8) <| .nil) (by kernel_rfl) fun ν11 a w' H => ?_
        replace H := H.toL [(2, .slot true (.pointer (some ⟨((ν1 0).n 0), 0, none⟩))), (3, .slot true (.pointer (some ⟨((ν1 1).n 0), 0, none⟩))), (4, .slot true (.pointer (some ⟨((ν1 2).n 0), 0, none⟩))), (5, .slot true (.pointer (some ⟨((ν8 9).n 0), 0, none⟩))), (6, .slot true (.int .i64 t13.1)), (59, .blk ((ν1 0).n 0) [.int .i64 a0.Lo, .int .i64 a0.Hi] 23), (60, .blk ((ν1 1).n 0) [.int .i64 a1.Lo, .int .i64 a1.Hi] 23), (61, .blk ((ν1 2).n 0) [.int .i64 0, .int .i64 0] 23), (62, .blk ((ν8 9).n 0) [.func (.func 97) #[] #[], .func (.func 99) #[] #[]] 61), (999999, gk)] (by kernel_rfl)
        refine k_seq ?_
        replace G := bnd G; obtain ⟨t15, ht15, G⟩ := G
        replace G := bnd G; obtain ⟨t16, ht16, G⟩ := G
        refine k_reg mixed H (.cons [45] (ok_val (fun ν14 => .pointer (some ⟨((ν8 9).n 0), 1, none⟩)) 45) <|
      .cons [46] (ok_ld (fun ν14 => .func (.func 99) #[] #[]) 46 62 1 1 (fun ν14 => ((ν8 9).n 0)) (fun ν14 => [.func (.func 97) #[] #[], .func (.func 99) #[] #[]]) 61) <|
      .cons [47] (ok_ld (fun ν14 => .agg #[.int .i64 a0.Lo, .int .i64 a0.Hi]) 47 59 0 2 (fun ν14 => ((ν1 0).n 0)) (fun ν14 => [.int .i64 a0.Lo, .int .i64 a0.Hi]) 23) <|
      .cons [48] (ok_ld (fun ν14 => .agg #[.int .i64 a1.Lo, .int .i64 a1.Hi]) 48 60 0 2 (fun ν14 => ((ν1 1).n 0)) (fun ν14 => [.int .i64 a1.Lo, .int .i64 a1.Hi]) 23) <|
      .cons [49] (ok_callv 99 (fun ν14 => #[.agg #[.int .i64 a0.Lo, .int .i64 a0.Hi], .agg #[.int .i64 a1.Lo, .int .i64 a1.Hi]]) (.tuple #[.int .i64 t15.1, .int .i64 t15.2]) 49 [] (fun _ w _ => interval_hl.calls a0 a1 t15 w ht15)) <|
      .cons [50] (ok_val (fun ν14 => .int .i64 t15.1) 50) <|
      .cons [51] (ok_val (fun ν14 => .int .i64 t15.2) 51) <|
      .cons [52] (ok_callv 67 (fun ν14 => #[.int .i64 t15.1, .int .i64 t15.2]) (.tuple #[.int .i64 t16.1, .int .i64 t16.2.1, .int .i64 t16.2.2]) 52 [] (fun _ w _ => fixed_Div.calls t15.1 t15.2 t16 w ht16)) <|
      .cons [44] (ok_val (fun ν14 => .tuple #[.int .i64 t16.1, .int .i64 t16.2.1, .int .i64 t16.2.2]) 44) <|
      .cons [53] (ok_val (fun ν14 => .int .i64 t16.1) 53) <|
      .cons [54] (ok_val (fun ν14 => .int .i64 t16.2.1) 54) <|
      .cons [55] (ok_val (fun ν14 => .int .i64 t16.2.2) 55) <|
      .cons [9] (ok_val (fun ν14 => .int .i64 t16.1) 9) <|
      .cons [10] (ok_val (fun ν14 => .int .i64 t16.2.1) 10) <|
      .cons [11] (ok_val (fun ν14 => .int .i64 t16.2.2) 11) <| .nil) (by kernel_rfl) fun ν14 a w' H => ?_
        replace H := H.toL [(4, .slot true (.pointer (some ⟨((ν1 2).n 0), 0, none⟩))), (6, .slot true (.int .i64 t13.1)), (10, .slot true (.int .i64 t16.2.1)), (61, .blk ((ν1 2).n 0) [.int .i64 0, .int .i64 0] 23), (999999, gk)] (by kernel_rfl)
        refine k_seq ?_
        replace G := bnd G; obtain ⟨t18, ht18, G⟩ := G
        refine k_reg mixed H (.cons [56] (ok_val (fun ν17 => .int .i64 t13.1) 56) <|
      .cons [57] (ok_val (fun ν17 => .int .i64 t16.2.1) 57) <|
      .cons [58] (ok_callv 54 (fun ν17 => #[.int .i64 t13.1, .int .i64 t16.2.1]) (.agg #[.int .i64 t18.Lo, .int .i64 t18.Hi]) 58 [] (fun _ w _ => interval_New.calls t13.1 t16.2.1 t18 w ht18)) <|
      .cons [61] (ok_as (u' := fun ν17 => [(61, .blk ((ν1 2).n 0) [.int .i64 t18.Lo, .int .i64 t18.Hi] 23)]) (ok_store 61 0 (fun ν17 => ((ν1 2).n 0)) (fun ν17 => [.int .i64 0, .int .i64 0]) (fun ν17 => [.int .i64 t18.Lo, .int .i64 t18.Hi]) 23) (fun _ => by kernel_rfl)) <| .nil) (by kernel_rfl) fun ν17 a w' H => ?_
        replace H := H.toL [(4, .slot true (.pointer (some ⟨((ν1 2).n 0), 0, none⟩))), (61, .blk ((ν1 2).n 0) [.int .i64 t18.Lo, .int .i64 t18.Hi] 23), (999999, gk)] (by kernel_rfl)
        refine k_ret ?_
        obtain rfl := Option.some.inj G
        exact k_done1 H _ 61 ((ν1 2).n 0) [.int .i64 t18.Lo, .int .i64 t18.Hi] 23 0 2 (by kernel_rfl) (by kernel_rfl) (by kernel_rfl) (by kernel_rfl)
      rw [if_neg c20] at G
      cases G
    rw [if_neg c22] at G
    by_cases c23 : t9 = 2
    · rw [if_pos c23] at G; subst c23
      replace G := bnd G; obtain ⟨t10, ht10, G⟩ := G
      by_cases c19 : t10 = 0
      · rw [if_pos c19] at G; subst c19
        refine k_reg mixed H (.cons [23] (ok_ld (fun ν8 => .agg #[.int .i64 a0.Lo, .int .i64 a0.Hi]) 23 59 0 2 (fun ν8 => ((ν1 0).n 0)) (fun ν8 => [.int .i64 a0.Lo, .int .i64 a0.Hi]) 23) <|
      .cons [24] (ok_callv 64 (fun ν8 => #[.agg #[.int .i64 a0.Lo, .int .i64 a0.Hi]]) (.int .i64 2) 24 [] (fun _ w _ => interval_side.calls a0 2 w ht9)) <|
      .cons [25] (ok_val (fun ν8 => .pointer (some ⟨((ν1 1).n 0), 0, none⟩)) 25) <|
      .cons [26] (ok_ld (fun ν8 => .int .i64 a1.Lo) 26 60 0 1 (fun ν8 => ((ν1 1).n 0)) (fun ν8 => [.int .i64 a1.Lo, .int .i64 a1.Hi]) 23) <|
      .cons [27] (ok_val (fun ν8 => .bool (decide (a1.Lo > 0))) 27) <|
      .cons [28] (ok_callv 66 (fun ν8 => #[.bool (decide (a1.Lo > 0)), .int .i64 1, .int .i64 0]) (.int .i64 0) 28 [] (fun _ w _ => interval_pick_int.calls (decide (a1.Lo > 0)) 1 0 0 w ht10)) <|
      .cons [29] (ok_val (fun ν8 => .pointer (some ⟨1, 8, none⟩)) 29) <|
      .cons [30] (ok_val (fun ν8 => .pointer (some ⟨1, 8, none⟩)) 30) <|
      .cons [31] (ok_ldK (fun ν8 => .agg #[.func (.func 96) #[] #[], .func (.func 97) #[] #[]]) 31 999999 gk 1 8 2 gTab1 (fun w h => (glob_of h).tab1)) <|
      .cons [5, 62] (ok_new (fun b => .pointer (some ⟨b, 0, none⟩)) (fun ν8 => [.nilFunc, .nilFunc]) 61 5 62) <|
      .cons [62] (ok_as (u' := fun ν8 => [(62, .blk ((ν8 9).n 0) [.func (.func 96) #[] #[], .func (.func 97) #[] #[]] 61)]) (ok_store 62 0 (fun ν8 => ((ν8 9).n 0)) (fun ν8 => [.nilFunc, .nilFunc]) (fun ν8 => [.func (.func 96) #[] #[], .func (.func 97) #[] #[]]) 61) (fun _ => by kernel_rfl)) <| .nil) (by kernel_rfl) fun ν8 a w' H => ?_
        replace H := H.toL [(2, .slot true (.pointer (some ⟨((ν1 0).n 0), 0, none⟩))), (3, .slot true (.pointer (some ⟨((ν1 1).n 0), 0, none⟩))), (4, .slot true (.pointer (some ⟨((ν1 2).n 0), 0, none⟩))), (5, .slot true (.pointer (some ⟨((ν8 9).n 0), 0, none⟩))), (59, .blk ((ν1 0).n 0) [.int .i64 a0.Lo, .int .i64 a0.Hi] 23), (60, .blk ((ν1 1).n 0) [.int .i64 a1.Lo, .int .i64 a1.Hi] 23), (61, .blk ((ν1 2).n 0) [.int .i64 0, .int .i64 0] 23), (62, .blk ((ν8 9).n 0) [.func (.func 96) #[] #[], .func (.func 97) #[] #[]] 61), (999999, gk)] (by kernel_rfl)
        refine k_seq ?_
        replace G := bnd G; obtain ⟨t12, ht12, G⟩ := G
        replace G := bnd G; obtain ⟨t13, ht13, G⟩ := G
        refine k_reg mixed H (.cons [33] (ok_val (fun ν11 => .pointer (some ⟨((ν8 9).n 0), 0, none⟩)) 33) <|
      .cons [34] (ok_ld (fun ν11 => .func (.func 96) #[] #[]) 34 62 0 1 (fun ν11 => ((ν8 9).n 0)) (fun ν11 => [.func (.func 96) #[] #[], .func (.func 97) #[] #[]]) 61) <|
      .cons [35] (ok_ld (fun ν11 => .agg #[.int .i64 a0.Lo, .int .i64 a0.Hi]) 35 59 0 2 (fun ν11 => ((ν1 0).n 0)) (fun ν11 => [.int .i64 a0.Lo, .int .i64 a0.Hi]) 23) <|
      .cons [36] (ok_ld (fun ν11 => .agg #[.int .i64 a1.Lo, .int .i64 a1.Hi]) 36 60 0 2 (fun ν11 => ((ν1 1).n 0)) (fun ν11 => [.int .i64 a1.Lo, .int .i64 a1.Hi]) 23) <|
      .cons [37] (ok_callv 96 (fun ν11 => #[.agg #[.int .i64 a0.Lo, .int .i64 a0.Hi], .agg #[.int .i64 a1.Lo, .int .i64 a1.Hi]]) (.tuple #[.int .i64 t12.1, .int .i64 t12.2]) 37 [] (fun _ w _ => interval_hh.calls a0 a1 t12 w ht12)) <|
      .cons [38] (ok_val (fun ν11 => .int .i64 t12.1) 38) <|
      .cons [39] (ok_val (fun ν11 => .int .i64 t12.2) 39) <|
      .cons [40] (ok_callv 67 (fun ν11 => #[.int .i64 t12.1, .int .i64 t12.2]) (.tuple #[.int .i64 t13.1, .int .i64 t13.2.1, .int .i64 t13.2.2]) 40 [] (fun _ w _ => fixed_Div.calls t12.1 t12.2 t13 w ht13)) <|
      .cons [32] (ok_val (fun ν11 => .tuple #[.int .i64 t13.1, .int .i64 t13.2.1, .int .i64 t13.2.2]) 32) <|
      .cons [41] (ok_val (fun ν11 => .int .i64 t13.1) 41) <|
      .cons [42] (ok_val (fun ν11 => .int .i64 t13.2.1) 42) <|
      .cons [43] (ok_val (fun ν11 => .int .i64 t13.2.2) 43) <|
      .cons [6] (ok_val (fun ν11 => .int .i64 t13.1) 6) <|
      .cons [7] (ok_val (fun ν11 => .int .i64 t13.2.1) 7) <|
      .cons [8] (ok_val (fun ν11 => .int .i64 t13.2.2) 8) <| .nil) (by kernel_rfl) fun ν11 a w' H => ?_
        replace H := H.toL [(2, .slot true (.pointer (some ⟨((ν1 0).n 0), 0, none⟩))), (3, .slot true (.pointer (some ⟨((ν1 1).n 0), 0, none⟩))), (4, .slot true (.pointer (some ⟨((ν1 2).n 0), 0, none⟩))), (5, .slot true (.pointer (some ⟨((ν8 9).n 0), 0, none⟩))), (6, .slot true (.int .i64 t13.1)), (59, .blk ((ν1 0).n 0) [.int .i64 a0.Lo, .int .i64 a0.Hi] 23), (60, .blk ((ν1 1).n 0) [.int .i64 a1.Lo, .int .i64 a1.Hi] 23), (61, .blk ((ν1 2).n 0) [.int .i64 0, .int .i64 0] 23), (62, .blk ((ν8 9).n 0) [.func (.func 96) #[] #[], .func (.func 97) #[] #[]] 61), (999999, gk)] (by kernel_rfl)
        refine k_seq ?_
        replace G := bnd G; obtain ⟨t15, ht15, G⟩ := G
        replace G := bnd G; obtain ⟨t16, ht16, G⟩ := G
        refine k_reg mixed H (.cons [45] (ok_val (fun ν14 => .pointer (some ⟨((ν8 9).n 0), 1, none⟩)) 45) <|
      .cons [46] (ok_ld (fun ν14 => .func (.func 97) #[] #[]) 46 62 1 1 (fun ν14 => ((ν8 9).n 0)) (fun ν14 => [.func (.func 96) #[] #[], .func (.func 97) #[] #[]]) 61) <|
      .cons [47] (ok_ld (fun ν14 => .agg #[.int .i64 a0.Lo, .int .i64 a0.Hi]) 47 59 0 2 (fun ν14 => ((ν1 0).n 0)) (fun ν14 => [.int .i64 a0.Lo, .int .i64 a0.Hi]) 23) <|
      .cons [48] (ok_ld (fun ν14 => .agg #[.int .i64 a1.Lo, .int .i64 a1.Hi]) 48 60 0 2 (fun ν14 => ((ν1 1).n 0)) (fun ν14 => [.int .i64 a1.Lo, .int .i64 a1.Hi]) 23) <|
      .cons [49] (ok_callv 97 (fun ν14 => #[.agg #[.int .i64 a0.Lo, .int .i64 a0.Hi], .agg #[.int .i64 a1.Lo, .int .i64 a1.Hi]]) (.tuple #[.int .i64 t15.1, .int .i64 t15.2]) 49 [] (fun _ w _ => interval_ll.calls a0 a1 t15 w ht15)) <|
      .cons [50] (ok_val (fun ν14 => .int .i64 t15.1) 50) <|
      .cons [51] (ok_val (fun ν14 => .int .i64 t15.2) 51) <|
      .cons [52] (ok_callv 67 (fun ν14 => #[.int .i64 t15.1, .int .i64 t15.2]) (.tuple #[.int .i64 t16.1, .int .i64 t16.2.1, .int .i64 t16.2.2]) 52 [] (fun _ w _ => fixed_Div.calls t15.1 t15.2 t16 w ht16)) <|
      .cons [44] (ok_val (fun ν14 => .tuple #[.int .i64 t16.1, .int .i64 t16.2.1, .int .i64 t16.2.2]) 44) <|
      .cons [53] (ok_val (fun ν14 => .int .i64 t16.1) 53) <|
      .cons [54] (ok_val (fun ν14 => .int .i64 t16.2.1) 54) <|
      .cons [55] (ok_val (fun ν14 => .int .i64 t16.2.2) 55) <|
      .cons [9] (ok_val (fun ν14 => .int .i64 t16.1) 9) <|
      .cons [10] (ok_val (fun ν14 => .int .i64 t16.2.1) 10) <|
      .cons [11] (ok_val (fun ν14 => .int .i64 t16.2.2) 11) <| .nil) (by kernel_rfl) fun ν14 a w' H => ?_
        replace H := H.toL [(4, .slot true (.pointer (some ⟨((ν1 2).n 0), 0, none⟩))), (6, .slot true (.int .i64 t13.1)), (10, .slot true (.int .i64 t16.2.1)), (61, .blk ((ν1 2).n 0) [.int .i64 0, .int .i64 0] 23), (999999, gk)] (by kernel_rfl)
        refine k_seq ?_
        replace G := bnd G; obtain ⟨t18, ht18, G⟩ := G
        refine k_reg mixed H (.cons [56] (ok_val (fun ν17 => .int .i64 t13.1) 56) <|
      .cons [57] (ok_val (fun ν17 => .int .i64 t16.2.1) 57) <|
      .cons [58] (ok_callv 54 (fun ν17 => #[.int .i64 t13.1, .int .i64 t16.2.1]) (.agg #[.int .i64 t18.Lo, .int .i64 t18.Hi]) 58 [] (fun _ w _ => interval_New.calls t13.1 t16.2.1 t18 w ht18)) <|
      .cons [61] (ok_as (u' := fun ν17 => [(61, .blk ((ν1 2).n 0) [.int .i64 t18.Lo, .int .i64 t18.Hi] 23)]) (ok_store 61 0 (fun ν17 => ((ν1 2).n 0)) (fun ν17 => [.int .i64 0, .int .i64 0]) (fun ν17 => [.int .i64 t18.Lo, .int .i64 t18.Hi]) 23) (fun _ => by kernel_rfl)) <| .nil) (by kernel_rfl) fun ν17 a w' H => ?_
        replace H := H.toL [(4, .slot true (.pointer (some ⟨((ν1 2).n 0), 0, none⟩))), (61, .blk ((ν1 2).n 0) [.int .i64 t18.Lo, .int .i64 t18.Hi] 23), (999999, gk)] (by kernel_rfl)
        refine k_ret ?_
        obtain rfl := Option.some.inj G
        exact k_done1 H _ 61 ((ν1 2).n 0) [.int .i64 t18.Lo, .int .i64 t18.Hi] 23 0 2 (by kernel_rfl) (by kernel_rfl) (by kernel_rfl) (by kernel_rfl)
      rw [if_neg c19] at G
      by_cases c20 : t10 = 1
      · rw [if_pos c20] at G; subst c20
        refine k_reg mixed H (.cons [23] (ok_ld (fun ν8 => .agg #[.int .i64 a0.Lo, .int .i64 a0.Hi]) 23 59 0 2 (fun ν8 => ((ν1 0).n 0)) (fun ν8 => [.int .i64 a0.Lo, .int .i64 a0.Hi]) 23) <|
      .cons [24] (ok_callv 64 (fun ν8 => #[.agg #[.int .i64 a0.Lo, .int .i64 a0.Hi]]) (.int .i64 2) 24 [] (fun _ w _ => interval_side.calls a0 2 w ht9)) <|
      .cons [25] (ok_val (fun ν8 => .pointer (some ⟨((ν1 1).n 0), 0, none⟩)) 25) <|
      .cons [26] (ok_ld (fun ν8 => .int .i64 a1.Lo) 26 60 0 1 (fun ν8 => ((ν1 1).n 0)) (fun ν8 => [.int .i64 a1.Lo, .int .i64 a1.Hi]) 23) <|
      .cons [27] (ok_val (fun ν8 => .bool (decide (a1.Lo > 0))) 27) <|
      .cons [28] (ok_callv 66 (fun ν8 => #[.bool (decide (a1.Lo > 0)), .int .i64 1, .int .i64 0]) (.int .i64 1) 28 [] (fun _ w _ => interval_pick_int.calls (decide (a1.Lo > 0)) 1 0 1 w ht10)) <|
      .cons [29] (ok_val (fun ν8 => .pointer (some ⟨1, 8, none⟩)) 29) <|
      .cons [30] (ok_val (fun ν8 => .pointer (some ⟨1, 10, none⟩)) 30) <|
      .cons [31] (ok_ldK (fun ν8 => .agg #[.func (.func 98) #[] #[], .func (.func 99) #[] #[]]) 31 999999 gk 1 10 2 gTab1 (fun w h => (glob_of h).tab1)) <|
      .cons [5, 62] (ok_new (fun b => .pointer (some ⟨b, 0, none⟩)) (fun ν8 => [.nilFunc, .nilFunc]) 61 5 62) <|
      .cons [62] (ok_as (u' := fun ν8 => [(62, .blk ((ν8 9).n 0) [.func (.func 98) #[] #[], .func (.func 99) #[] #[]] 61)]) (ok_store 62 0 (fun ν8 => ((ν8 9).n 0)) (fun ν8 => [.nilFunc, .nilFunc]) (fun ν8 => [.func (.func 98) #[] #[], .func (.func 99) #[] #[]]) 61) (fun _ => by kernel_rfl)) <| .nil) (by kernel_rfl) fun ν8 a w' H => ?_
        replace H := H.toL [(2, .slot true (.pointer (some ⟨((ν1 0).n 0), 0, none⟩))), (3, .slot true (.pointer (some ⟨((ν1 1).n 0), 0, none⟩))), (4, .slot true (.pointer (some ⟨((ν1 2).n 0), 0, none⟩))), (5, .slot true (.pointer (some ⟨((ν8 9).n 0), 0, none⟩))), (59, .blk ((ν1 0).n 0) [.int .i64 a0.Lo, .int .i64 a0.Hi] 23), (60, .blk ((ν1 1).n 0) [.int .i64 a1.Lo, .int .i64 a1.Hi] 23), (61, .blk ((ν1 2).n 0) [.int .i64 0, .int .i64 0] 23), (62, .blk ((ν8 9).n 0) [.func (.func 98) #[] #[], .func (.func 99) #[] #[]] 61), (999999, gk)] (by kernel_rfl)
        refine k_seq ?_
        replace G := bnd G; obtain ⟨t12, ht12, G⟩ := G
        replace G := bnd G; obtain ⟨t13, ht13, G⟩ := G
        refine k_reg mixed H (.cons [33] (ok_val (fun ν11 => .pointer (some ⟨((ν8 9).n 0), 0, none⟩)) 33) <|
      .cons [34] (ok_ld (fun ν11 => .func (.func 98) #[] #[]) 34 62 0 1 (fun ν11 => ((ν8 9).n 0)) (fun ν11 => [.func (.func 98) #[] #[], .func (.func 99) #[] #[]]) 61) <|
      .cons [35] (ok_ld (fun ν11 => .agg #[.int .i64 a0.Lo, .int .i64 a0.Hi]) 35 59 0 2 (fun ν11 => ((ν1 0).n 0)) (fun ν11 => [.int .i64 a0.Lo, .int .i64 a0.Hi]) 23) <|
      .cons [36] (ok_ld (fun ν11 => .agg #[.int .i64 a1.Lo, .int .i64 a1.Hi]) 36 60 0 2 (fun ν11 => ((ν1 1).n 0)) (fun ν11 => [.int .i64 a1.Lo, .int .i64 a1.Hi]) 23) <|
      .cons [37] (ok_callv 98 (fun ν11 => #[.agg #[.int .i64 a0.Lo, .int .i64 a0.Hi], .agg #[.int .i64 a1.Lo, .int .i64 a1.Hi]]) (.tuple #[.int .i64 t12.1, .int .i64 t12.2]) 37 [] (fun _ w _ => interval_lh.calls a0 a1 t12 w ht12)) <|
      .cons [38] (ok_val (fun ν11 => .int .i64 t12.1) 38) <|
      .cons [39] (ok_val (fun ν11 => .int .i64 t12.2) 39) <|
      .cons [40] (ok_callv 67 (fun ν11 => #[.int .i64 t12.1, .int .i64 t12.2]) (.tuple #[.int .i64 t13.1, .int .i64 t13.2.1, .int .i64 t13.2.2]) 40 [] (fun _ w _ => fixed_Div.calls t12.1 t12.2 t13 w ht13)) <|
      .cons [32] (ok_val (fun ν11 => .tuple #[.int .i64 t13.1, .int .i64 t13.2.1, .int .i64 t13.2.2]) 32) <|
      .cons [41] (ok_val (fun ν11 => .int .i64 t13.1) 41) <|
      .cons [42] (ok_val (fun ν11 => .int .i64 t13.2.1) 42) <|
      .cons [43] (ok_val (fun ν11 => .int .i64 t13.2.2) 43) <|
      .cons [6] (ok_val (fun ν11 => .int .i64 t13.1) 6) <|
      .cons [7] (ok_val (fun ν11 => .int .i64 t13.2.1) 7) <|
      .cons [8] (ok_val (fun ν11 => .int .i64 t13.2.2) 8) <| .nil) (by kernel_rfl) fun ν11 a w' H => ?_
        replace H := H.toL [(2, .slot true (.pointer (some ⟨((ν1 0).n 0), 0, none⟩))), (3, .slot true (.pointer (some ⟨((ν1 1).n 0), 0, none⟩))), (4, .slot true (.pointer (some ⟨((ν1 2).n 0), 0, none⟩))), (5, .slot true (.pointer (some ⟨((ν8 9).n 0), 0, none⟩))), (6, .slot true (.int .i64 t13.1)), (59, .blk ((ν1 0).n 0) [.int .i64 a0.Lo, .int .i64 a0.Hi] 23), (60, .blk ((ν1 1).n 0) [.int .i64 a1.Lo, .int .i64 a1.Hi] 23), (61, .blk ((ν1 2).n 0) [.int .i64 0, .int .i64 0] 23), (62, .blk ((ν8 9).n 0) [.func (.func 98) #[] #[], .func (.func 99) #[] #[]] 61), (999999, gk)] (by kernel_rfl)
        refine k_seq ?_
        replace G := bnd G; obtain ⟨t15, ht15, G⟩ := G
        replace G := bnd G; obtain ⟨t16, ht16, G⟩ := G
        refine k_reg mixed H (.cons [45] (ok_val (fun ν14 => .pointer (some ⟨((ν8 9).n 0), 1, none⟩)) 45) <|
      .cons [46] (ok_ld (fun ν14 => .func (.func 99) #[] #[]) 46 62 1 1 (fun ν14 => ((ν8 9).n 0)) (fun ν14 => [.func (.func 98) #[] #[], .func (.func 99) #[] #[]]) 61) <|
      .cons [47] (ok_ld (fun ν14 => .agg #[.int .i64 a0.Lo, .int .i64 a0.Hi]) 47 59 0 2 (fun ν14 => ((ν1 0).n 0)) (fun ν14 => [.int .i64 a0.Lo, .int .i64 a0.Hi]) 23) <|
      .cons [48] (ok_ld (fun ν14 => .agg #[.int .i64 a1.Lo, .int .i64 a1.Hi]) 48 60 0 2 (fun ν14 => ((ν1 1).n 0)) (fun ν14 => [.int .i64 a1.Lo, .int .i64 a1.Hi]) 23) <|
      .cons [49] (ok_callv 99 (fun ν14 => #[.agg #[.int .i64 a0.Lo, .int .i64 a0.Hi], .agg #[.int .i64 a1.Lo, .int .i64 a1.Hi]]) (.tuple #[.int .i64 t15.1, .int .i64 t15.2]) 49 [] (fun _ w _ => interval_hl.calls a0 a1 t15 w ht15)) <|
      .cons [50] (ok_val (fun ν14 => .int .i64 t15.1) 50) <|
      .cons [51] (ok_val (fun ν14 => .int .i64 t15.2) 51) <|
      .cons [52] (ok_callv 67 (fun ν14 => #[.int .i64 t15.1, .int .i64 t15.2]) (.tuple #[.int .i64 t16.1, .int .i64 t16.2.1, .int .i64 t16.2.2]) 52 [] (fun _ w _ => fixed_Div.calls t15.1 t15.2 t16 w ht16)) <|
      .cons [44] (ok_val (fun ν14 => .tuple #[.int .i64 t16.1, .int .i64 t16.2.1, .int .i64 t16.2.2]) 44) <|
      .cons [53] (ok_val (fun ν14 => .int .i64 t16.1) 53) <|
      .cons [54] (ok_val (fun ν14 => .int .i64 t16.2.1) 54) <|
      .cons [55] (ok_val (fun ν14 => .int .i64 t16.2.2) 55) <|
      .cons [9] (ok_val (fun ν14 => .int .i64 t16.1) 9) <|
      .cons [10] (ok_val (fun ν14 => .int .i64 t16.2.1) 10) <|
      .cons [11] (ok_val (fun ν14 => .int .i64 t16.2.2) 11) <| .nil) (by kernel_rfl) fun ν14 a w' H => ?_
        replace H := H.toL [(4, .slot true (.pointer (some ⟨((ν1 2).n 0), 0, none⟩))), (6, .slot true (.int .i64 t13.1)), (10, .slot true (.int .i64 t16.2.1)), (61, .blk ((ν1 2).n 0) [.int .i64 0, .int .i64 0] 23), (999999, gk)] (by kernel_rfl)
        refine k_seq ?_
        replace G := bnd G; obtain ⟨t18, ht18, G⟩ := G
        refine k_reg mixed H (.cons [56] (ok_val (fun ν17 => .int .i64 t13.1) 56) <|
      .cons [57] (ok_val (fun ν17 => .int .i64 t16.2.1) 57) <|
      .cons [58] (ok_callv 54 (fun ν17 => #[.int .i64 t13.1, .int .i64 t16.2.1]) (.agg #[.int .i64 t18.Lo, .int .i64 t18.Hi]) 58 [] (fun _ w _ => interval_New.calls t13.1 t16.2.1 t18 w ht18)) <|
      .cons [61] (ok_as (u' := fun ν17 => [(61, .blk ((ν1 2).n 0) [.int .i64 t18.Lo, .int .i64 t18.Hi] 23)]) (ok_store 61 0 (fun ν17 => ((ν1 2).n 0)) (fun ν17 => [.int .i64 0, .int .i64 0]) (fun ν17 => [.int .i64 t18.Lo, .int .i64 t18.Hi]) 23) (fun _ => by kernel_rfl)) <| .nil) (by kernel_rfl) fun ν17 a w' H => ?_
        replace H := H.toL [(4, .slot true (.pointer (some ⟨((ν1 2).n 0), 0, none⟩))), (61, .blk ((ν1 2).n 0) [.int .i64 t18.Lo, .int .i64 t18.Hi] 23), (999999, gk)] (by kernel_rfl)
        refine k_ret ?_
        obtain rfl := Option.some.inj G
        exact k_done1 H _ 61 ((ν1 2).n 0) [.int .i64 t18.Lo, .int .i64 t18.Hi] 23 0 2 (by kernel_rfl) (by kernel_rfl) (by kernel_rfl) (by kernel_rfl)
      rw [if_neg c20] at G
      cases G
    rw [if_neg c23] at G
    cases G

set_option maxHeartbeats 4000000 in
theorem interval_Neg.calls (a0 : TInterval) (r : TInterval) (w : World) (G : interval_Neg a0 = some r) :
    Calls Tryd.prog 21 #[.agg #[.int .i64 a0.Lo, .int .i64 a0.Hi]] w fun e w' => e = .returned (.agg #[.int .i64 r.Lo, .int .i64 r.Hi]) ∧ Below w.heap.size w w' := by
  refine k_enter (args := [.agg #[.int .i64 a0.Lo, .int .i64 a0.Hi]]) 10 Tryd.func21 rfl (by kernel_rfl) (by kernel_rfl) fun a H => ?_
  unfold interval_Neg at G
  refine k_seq ?_
  refine k_reg mixed H (.cons [1, 10] (ok_new (fun b => .pointer (some ⟨b, 0, none⟩)) (fun ν1 => [.int .i64 a0.Lo, .int .i64 a0.Hi]) 23 1 10) <|
      .cons [2, 11] (ok_new (fun b => .pointer (some ⟨b, 0, none⟩)) (fun ν1 => [.int .i64 0, .int .i64 0]) 23 2 11) <| .nil) (by kernel_rfl) fun ν1 a w' H => ?_
  replace H := H.toL [(1, .slot true (.pointer (some ⟨((ν1 0).n 0), 0, none⟩))), (2, .slot true (.pointer (some ⟨((ν1 1).n 0), 0, none⟩))), (10, .blk ((ν1 0).n 0) [.int .i64 a0.Lo, .int .i64 a0.Hi] 23), (11, .blk ((ν1 1).n 0) [.int .i64 0, .int .i64 0] 23)] (by kernel_rfl)
  refine k_seq ?_
  refine k_reg mixed H (.cons [3] (ok_val (fun ν2 => .pointer (some ⟨((ν1 0).n 0), 1, none⟩)) 3) <|
      .cons [4] (ok_ld (fun ν2 => .int .i64 a0.Hi) 4 10 1 1 (fun ν2 => ((ν1 0).n 0)) (fun ν2 => [.int .i64 a0.Lo, .int .i64 a0.Hi]) 23) <|
      .cons [5] (ok_val (fun ν2 => .int .i64 (w_i64 (0 - a0.Hi))) 5) <|
      .cons [6] (ok_val (fun ν2 => .pointer (some ⟨((ν1 0).n 0), 0, none⟩)) 6) <|
      .cons [7] (ok_ld (fun ν2 => .int .i64 a0.Lo) 7 10 0 1 (fun ν2 => ((ν1 0).n 0)) (fun ν2 => [.int .i64 a0.Lo, .int .i64 a0.Hi]) 23) <|
      .cons [8] (ok_val (fun ν2 => .int .i64 (w_i64 (0 - a0.Lo))) 8) <|
      .cons [9] (ok_val (fun ν2 => .agg #[.int .i64 (w_i64 (0 - a0.Hi)), .int .i64 (w_i64 (0 - a0.Lo))]) 9) <|
      .cons [11] (ok_as (u' := fun ν2 => [(11, .blk ((ν1 1).n 0) [.int .i64 (w_i64 (0 - a0.Hi)), .int .i64 (w_i64 (0 - a0.Lo))] 23)]) (ok_store 11 0 (fun ν2 => ((ν1 1).n 0)) (fun ν2 => [.int .i64 0, .int .i64 0]) (fun ν2 => [.int .i64 (w_i64 (0 - a0.Hi)), .int .i64 (w_i64 (0 - a0.Lo))]) 23) (fun _ => by kernel_rfl)) <| .nil) (by kernel_rfl) fun ν2 a w' H => ?_
  replace H := H.toL [(2, .slot true (.pointer (some ⟨((ν1 1).n 0), 0, none⟩))), (11, .blk ((ν1 1).n 0) [.int .i64 (w_i64 (0 - a0.Hi)), .int .i64 (w_i64 (0 - a0.Lo))] 23)] (by kernel_rfl)
  refine k_ret ?_
  obtain rfl := Option.some.inj G
  exact k_done1 H _ 11 ((ν1 1).n 0) [.int .i64 (w_i64 (0 - a0.Hi)), .int .i64 (w_i64 (0 - a0.Lo))] 23 0 2 (by kernel_rfl) (by kernel_rfl) (by kernel_rfl) (by kernel_rfl)

set_option maxHeartbeats 4000000 in
theorem interval_Sub.calls (a0 : TInterval) (a1 : TInterval) (r : TInterval) (w : World) (G : interval_Sub a0 a1 = some r) :
    Calls Tryd.prog 20 #[.agg #[.int .i64 a0.Lo, .int .i64 a0.Hi], .agg #[.int .i64 a1.Lo, .int .i64 a1.Hi]] w fun e w' => e = .returned (.agg #[.int .i64 r.Lo, .int .i64 r.Hi]) ∧ Below w.heap.size w w' := by
  refine k_enter (args := [.agg #[.int .i64 a0.Lo, .int .i64 a0.Hi], .agg #[.int .i64 a1.Lo, .int .i64 a1.Hi]]) 9 Tryd.func20 rfl (by kernel_rfl) (by kernel_rfl) fun a H => ?_
  unfold interval_Sub at G
  refine k_seq ?_
  refine k_reg mixed H (.cons [2, 9] (ok_new (fun b => .pointer (some ⟨b, 0, none⟩)) (fun ν1 => [.int .i64 a0.Lo, .int .i64 a0.Hi]) 23 2 9) <|
      .cons [3, 10] (ok_new (fun b => .pointer (some ⟨b, 0, none⟩)) (fun ν1 => [.int .i64 a1.Lo, .int .i64 a1.Hi]) 23 3 10) <|
      .cons [4, 11] (ok_new (fun b => .pointer (some ⟨b, 0, none⟩)) (fun ν1 => [.int .i64 0, .int .i64 0]) 23 4 11) <| .nil) (by kernel_rfl) fun ν1 a w' H => ?_
  replace H := H.toL [(2, .slot true (.pointer (some ⟨((ν1 0).n 0), 0, none⟩))), (3, .slot true (.pointer (some ⟨((ν1 1).n 0), 0, none⟩))), (4, .slot true (.pointer (some ⟨((ν1 2).n 0), 0, none⟩))), (9, .blk ((ν1 0).n 0) [.int .i64 a0.Lo, .int .i64 a0.Hi] 23), (10, .blk ((ν1 1).n 0) [.int .i64 a1.Lo, .int .i64 a1.Hi] 23), (11, .blk ((ν1 2).n 0) [.int .i64 0, .int .i64 0] 23)] (by kernel_rfl)
  refine k_seq ?_
  replace G := bnd G; obtain ⟨t3, ht3, G⟩ := G
  replace G := bnd G; obtain ⟨t4, ht4, G⟩ := G
  refine k_reg mixed H (.cons [5] (ok_ld (fun ν2 => .agg #[.int .i64 a0.Lo, .int .i64 a0.Hi]) 5 9 0 2 (fun ν2 => ((ν1 0).n 0)) (fun ν2 => [.int .i64 a0.Lo, .int .i64 a0.Hi]) 23) <|
      .cons [6] (ok_ld (fun ν2 => .agg #[.int .i64 a1.Lo, .int .i64 a1.Hi]) 6 10 0 2 (fun ν2 => ((ν1 1).n 0)) (fun ν2 => [.int .i64 a1.Lo, .int .i64 a1.Hi]) 23) <|
      .cons [7] (ok_callv 21 (fun ν2 => #[.agg #[.int .i64 a1.Lo, .int .i64 a1.Hi]]) (.agg #[.int .i64 t3.Lo, .int .i64 t3.Hi]) 7 [] (fun _ w _ => interval_Neg.calls a1 t3 w ht3)) <|
      .cons [8] (ok_callv 14 (fun ν2 => #[.agg #[.int .i64 a0.Lo, .int .i64 a0.Hi], .agg #[.int .i64 t3.Lo, .int .i64 t3.Hi]]) (.agg #[.int .i64 t4.Lo, .int .i64 t4.Hi]) 8 [] (fun _ w _ => interval_Add.calls a0 t3 t4 w ht4)) <|
      .cons [11] (ok_as (u' := fun ν2 => [(11, .blk ((ν1 2).n 0) [.int .i64 t4.Lo, .int .i64 t4.Hi] 23)]) (ok_store 11 0 (fun ν2 => ((ν1 2).n 0)) (fun ν2 => [.int .i64 0, .int .i64 0]) (fun ν2 => [.int .i64 t4.Lo, .int .i64 t4.Hi]) 23) (fun _ => by kernel_rfl)) <| .nil) (by kernel_rfl) fun ν2 a w' H => ?_
  replace H := H.toL [(4, .slot true (.pointer (some ⟨((ν1 2).n 0), 0, none⟩))), (11, .blk ((ν1 2).n 0) [.int .i64 t4.Lo, .int .i64 t4.Hi] 23)] (by kernel_rfl)
  refine k_ret ?_
  obtain rfl := Option.some.inj G
  exact k_done1 H _ 11 ((ν1 2).n 0) [.int .i64 t4.Lo, .int .i64 t4.Hi] 23 0 2 (by kernel_rfl) (by kernel_rfl) (by kernel_rfl) (by kernel_rfl)

set_option maxHeartbeats 4000000 in
theorem interval_Mag.calls (a0 : TInterval) (r : Int) (w : World) (G : interval_Mag a0 = some r) :
    Calls Tryd.prog 36 #[.agg #[.int .i64 a0.Lo, .int .i64 a0.Hi]] w fun e w' => e = .returned (.int .i64 r) ∧ Below w.heap.size w w' := by
  refine k_enter (args := [.agg #[.int .i64 a0.Lo, .int .i64 a0.Hi]]) 9 Tryd.func36 rfl (by kernel_rfl) (by kernel_rfl) fun a H => ?_
  unfold interval_Mag at G
  refine k_seq ?_
  refine k_reg mixed H (.cons [1, 9] (ok_new (fun b => .pointer (some ⟨b, 0, none⟩)) (fun ν1 => [.int .i64 a0.Lo, .int .i64 a0.Hi]) 23 1 9) <|
      .cons [2] (ok_val (fun ν1 => .int .i64 0) 2) <| .nil) (by kernel_rfl) fun ν1 a w' H => ?_
  replace H := H.toL [(1, .slot true (.pointer (some ⟨((ν1 0).n 0), 0, none⟩))), (2, .slot true (.int .i64 0)), (9, .blk ((ν1 0).n 0) [.int .i64 a0.Lo, .int .i64 a0.Hi] 23)] (by kernel_rfl)
  refine k_seq ?_
  refine k_reg mixed H (.cons [3] (ok_val (fun ν2 => .pointer (some ⟨((ν1 0).n 0), 1, none⟩)) 3) <|
      .cons [4] (ok_ld (fun ν2 => .int .i64 a0.Hi) 4 9 1 1 (fun ν2 => ((ν1 0).n 0)) (fun ν2 => [.int .i64 a0.Lo, .int .i64 a0.Hi]) 23) <|
      .cons [5] (ok_val (fun ν2 => .pointer (some ⟨((ν1 0).n 0), 0, none⟩)) 5) <|
      .cons [6] (ok_ld (fun ν2 => .int .i64 a0.Lo) 6 9 0 1 (fun ν2 => ((ν1 0).n 0)) (fun ν2 => [.int .i64 a0.Lo, .int .i64 a0.Hi]) 23) <|
      .cons [7] (ok_val (fun ν2 => .int .i64 (w_i64 (0 - a0.Lo))) 7) <|
      .cons [8] (ok_val (fun ν2 => .int .i64 (mx a0.Hi (w_i64 (0 - a0.Lo)))) 8) <|
      .cons [2] (ok_val (fun ν2 => .int .i64 (mx a0.Hi (w_i64 (0 - a0.Lo)))) 2) <| .nil) (by kernel_rfl) fun ν2 a w' H => ?_
  replace H := H.toL [(2, .slot true (.int .i64 (mx a0.Hi (w_i64 (0 - a0.Lo)))))] (by kernel_rfl)
  refine k_ret ?_
  obtain rfl := Option.some.inj G
  exact k_done0 H _ (by kernel_rfl) (by kernel_rfl)

set_option maxHeartbeats 4000000 in
theorem interval_Square.calls (a0 : TInterval) (r : TInterval) (w : World) (G : interval_Square a0 = some r) :
    Calls Tryd.prog 22 #[.agg #[.int .i64 a0.Lo, .int .i64 a0.Hi]] w fun e w' => e = .returned (.agg #[.int .i64 r.Lo, .int .i64 r.Hi]) ∧ Below w.heap.size w w' := by
  refine k_enter (args := [.agg #[.int .i64 a0.Lo, .int .i64 a0.Hi]]) 35 Tryd.func22 rfl (by kernel_rfl) (by kernel_rfl) fun a H => ?_
  unfold interval_Square at G
  refine k_seq ?_
  refine k_reg mixed H (.cons [1, 35] (ok_new (fun b => .pointer (some ⟨b, 0, none⟩)) (fun ν1 => [.int .i64 a0.Lo, .int .i64 a0.Hi]) 23 1 35) <|
      .cons [2, 36] (ok_new (fun b => .pointer (some ⟨b, 0, none⟩)) (fun ν1 => [.int .i64 0, .int .i64 0]) 23 2 36) <| .nil) (by kernel_rfl) fun ν1 a w' H => ?_
  replace H := H.toL [(1, .slot true (.pointer (some ⟨((ν1 0).n 0), 0, none⟩))), (2, .slot true (.pointer (some ⟨((ν1 1).n 0), 0, none⟩))), (35, .blk ((ν1 0).n 0) [.int .i64 a0.Lo, .int .i64 a0.Hi] 23), (36, .blk ((ν1 1).n 0) [.int .i64 0, .int .i64 0] 23)] (by kernel_rfl)
  refine k_seq ?_
  refine k_seq ?_
  replace G := bnd G; obtain ⟨t3, ht3, G⟩ := G
  refine k_reg mixed H (.cons [9] (ok_ld (fun ν2 => .agg #[.int .i64 a0.Lo, .int .i64 a0.Hi]) 9 35 0 2 (fun ν2 => ((ν1 0).n 0)) (fun ν2 => [.int .i64 a0.Lo, .int .i64 a0.Hi]) 23) <|
      .cons [10] (ok_callv 38 (fun ν2 => #[.agg #[.int .i64 a0.Lo, .int .i64 a0.Hi]]) (.bool t3) 10 [] (fun _ w _ => interval_IsEntire.calls a0 t3 w ht3)) <| .nil) (by kernel_rfl) fun ν2 a w' H => ?_
  replace H := H.toL [(1, .slot true (.pointer (some ⟨((ν1 0).n 0), 0, none⟩))), (2, .slot true (.pointer (some ⟨((ν1 1).n 0), 0, none⟩))), (10, .slot true (.bool t3)), (35, .blk ((ν1 0).n 0) [.int .i64 a0.Lo, .int .i64 a0.Hi] 23), (36, .blk ((ν1 1).n 0) [.int .i64 0, .int .i64 0] 23)] (by kernel_rfl)
  refine k_cond H (by kernel_rfl) (t := t3) (by kernel_rfl) (fun c13 => ?_) (fun c13 => ?_)
  · rw [if_pos c13] at G
    refine k_seq ?_
    refine k_reg mixed H (.cons [11] (ok_ld (fun ν4 => .agg #[.int .i64 a0.Lo, .int .i64 a0.Hi]) 11 35 0 2 (fun ν4 => ((ν1 0).n 0)) (fun ν4 => [.int .i64 a0.Lo, .int .i64 a0.Hi]) 23) <|
      .cons [36] (ok_as (u' := fun ν4 => [(36, .blk ((ν1 1).n 0) [.int .i64 a0.Lo, .int .i64 a0.Hi] 23)]) (ok_store 36 0 (fun ν4 => ((ν1 1).n 0)) (fun ν4 => [.int .i64 0, .int .i64 0]) (fun ν4 => [.int .i64 a0.Lo, .int .i64 a0.Hi]) 23) (fun _ => by kernel_rfl)) <| .nil) (by kernel_rfl) fun ν4 a w' H => ?_
    replace H := H.toL [(1, .slot true (.pointer (some ⟨((ν1 0).n 0), 0, none⟩))), (2, .slot true (.pointer (some ⟨((ν1 1).n 0), 0, none⟩))), (35, .blk ((ν1 0).n 0) [.int .i64 a0.Lo, .int .i64 a0.Hi] 23), (36, .blk ((ν1 1).n 0) [.int .i64 a0.Lo, .int .i64 a0.Hi] 23)] (by kernel_rfl)
    refine k_ret ?_
    obtain rfl := Option.some.inj G
    exact k_done1 H _ 36 ((ν1 1).n 0) [.int .i64 a0.Lo, .int .i64 a0.Hi] 23 0 2 (by kernel_rfl) (by kernel_rfl) (by kernel_rfl) (by kernel_rfl)
  · rw [if_neg (nt c13)] at G
    refine k_skip ?_
    refine k_seq ?_
    replace G := bnd G; obtain ⟨t6, ht6, G⟩ := G
    refine k_reg mixed H (.cons [12] (ok_val (fun ν5 => .pointer (some ⟨((ν1 0).n 0), 0, none⟩)) 12) <|
      .cons [13] (ok_ld (fun ν5 => .int .i64 a0.Lo) 13 35 0 1 (fun ν5 => ((ν1 0).n 0)) (fun ν5 => [.int .i64 a0.Lo, .int .i64 a0.Hi]) 23) <|
      .cons [14] (ok_val (fun ν5 => .pointer (some ⟨((ν1 0).n 0), 1, none⟩)) 14) <|
      .cons [15] (ok_ld (fun ν5 => .int .i64 a0.Hi) 15 35 1 1 (fun ν5 => ((ν1 0).n 0)) (fun ν5 => [.int .i64 a0.Lo, .int .i64 a0.Hi]) 23) <|
      .cons [16] (ok_val (fun ν5 => .int .i64 (w_i64 (0 - a0.Hi))) 16) <|
      .cons [17] (ok_val (fun ν5 => .int .i64 (mx (mx a0.Lo (w_i64 (0 - a0.Hi))) 0)) 17) <|
      .cons [18] (ok_ld (fun ν5 => .agg #[.int .i64 a0.Lo, .int .i64 a0.Hi]) 18 35 0 2 (fun ν5 => ((ν1 0).n 0)) (fun ν5 => [.int .i64 a0.Lo, .int .i64 a0.Hi]) 23) <|
      .cons [19] (ok_callv 36 (fun ν5 => #[.agg #[.int .i64 a0.Lo, .int .i64 a0.Hi]]) (.int .i64 t6) 19 [] (fun _ w _ => interval_Mag.calls a0 t6 w ht6)) <|
      .cons [3] (ok_val (fun ν5 => .int .i64 (mx (mx a0.Lo (w_i64 (0 - a0.Hi))) 0)) 3) <|
      .cons [4] (ok_val (fun ν5 => .int .i64 t6) 4) <| .nil) (by kernel_rfl) fun ν5 a w' H => ?_
    replace H := H.toL [(2, .slot true (.pointer (some ⟨((ν1 1).n 0), 0, none⟩))), (3, .slot true (.int .i64 (mx (mx a0.Lo (w_i64 (0 - a0.Hi))) 0))), (4, .slot true (.int .i64 t6)), (36, .blk ((ν1 1).n 0) [.int .i64 0, .int .i64 0] 23)] (by kernel_rfl)
    refine k_seq ?_
    replace G := bnd G; obtain ⟨t8, ht8, G⟩ := G
    refine k_reg mixed H (.cons [21] (ok_val (fun ν7 => .int .i64 (mx (mx a0.Lo (w_i64 (0 - a0.Hi))) 0)) 21) <|
      .cons [22] (ok_val (fun ν7 => .int .i64 (mx (mx a0.Lo (w_i64 (0 - a0.Hi))) 0)) 22) <|
      .cons [23] (ok_callv 65 (fun ν7 => #[.int .i64 (mx (mx a0.Lo (w_i64 (0 - a0.Hi))) 0), .int .i64 (mx (mx a0.Lo (w_i64 (0 - a0.Hi))) 0)]) (.tuple #[.int .i64 t8.1, .int .i64 t8.2]) 23 [] (fun _ w _ => fixed_Mul.calls (mx (mx a0.Lo (w_i64 (0 - a0.Hi))) 0) (mx (mx a0.Lo (w_i64 (0 - a0.Hi))) 0) t8 w ht8)) <|
      .cons [20] (ok_val (fun ν7 => .tuple #[.int .i64 t8.1, .int .i64 t8.2]) 20) <|
      .cons [24] (ok_val (fun ν7 => .int .i64 t8.1) 24) <|
      .cons [25] (ok_val (fun ν7 => .int .i64 t8.2) 25) <|
      .cons [5] (ok_val (fun ν7 => .int .i64 t8.1) 5) <|
      .cons [6] (ok_val (fun ν7 => .int .i64 t8.2) 6) <| .nil) (by kernel_rfl) fun ν7 a w' H => ?_
    replace H := H.toL [(2, .slot true (.pointer (some ⟨((ν1 1).n 0), 0, none⟩))), (4, .slot true (.int .i64 t6)), (5, .slot true (.int .i64 t8.1)), (36, .blk ((ν1 1).n 0) [.int .i64 0, .int .i64 0] 23)] (by kernel_rfl)
    refine k_seq ?_
    replace G := bnd G; obtain ⟨t10, ht10, G⟩ := G
    refine k_reg mixed H (.cons [27] (ok_val (fun ν9 => .int .i64 t6) 27) <|
      .cons [28] (ok_val (fun ν9 => .int .i64 t6) 28) <|
      .cons [29] (ok_callv 65 (fun ν9 => #[.int .i64 t6, .int .i64 t6]) (.tuple #[.int .i64 t10.1, .int .i64 t10.2]) 29 [] (fun _ w _ => fixed_Mul.calls t6 t6 t10 w ht10)) <|
      .cons [26] (ok_val (fun ν9 => .tuple #[.int .i64 t10.1, .int .i64 t10.2]) 26) <|
      .cons [30] (ok_val (fun ν9 => .int .i64 t10.1) 30) <|
      .cons [31] (ok_val (fun ν9 => .int .i64 t10.2) 31) <|
      .cons [7] (ok_val (fun ν9 => .int .i64 t10.1) 7) <|
      .cons [8] (ok_val (fun ν9 => .int .i64 t10.2) 8) <| .nil) (by kernel_rfl) fun ν9 a w' H => ?_
    replace H := H.toL [(2, .slot true (.pointer (some ⟨((ν1 1).n 0), 0, none⟩))), (5, .slot true (.int .i64 t8.1)), (8, .slot true (.int .i64 t10.2)), (36, .blk ((ν1 1).n 0) [.int .i64 0, .int .i64 0] 23)] (by kernel_rfl)
    refine k_seq ?_
    replace G := bnd G; obtain ⟨t12, ht12, G⟩ := G
    refine k_reg mixed H (.cons [32] (ok_val (fun ν11 => .int .i64 t8.1) 32) <|
      .cons [33] (ok_val (fun ν11 => .int .i64 t10.2) 33) <|
      .cons [34] (ok_callv 54 (fun ν11 => #[.int .i64 t8.1, .int .i64 t10.2]) (.agg #[.int .i64 t12.Lo, .int .i64 t12.Hi]) 34 [] (fun _ w _ => interval_New.calls t8.1 t10.2 t12 w ht12)) <|
      .cons [36] (ok_as (u' := fun ν11 => [(36, .blk ((ν1 1).n 0) [.int .i64 t12.Lo, .int .i64 t12.Hi] 23)]) (ok_store 36 0 (fun ν11 => ((ν1 1).n 0)) (fun ν11 => [.int .i64 0, .int .i64 0]) (fun ν11 => [.int .i64 t12.Lo, .int .i64 t12.Hi]) 23) (fun _ => by kernel_rfl)) <| .nil) (by kernel_rfl) fun ν11 a w' H => ?_
    replace H := H.toL [(2, .slot true (.pointer (some ⟨((ν1 1).n 0), 0, none⟩))), (36, .blk ((ν1 1).n 0) [.int .i64 t12.Lo, .int .i64 t12.Hi] 23)] (by kernel_rfl)
    refine k_ret ?_
    obtain rfl := Option.some.inj G
    exact k_done1 H _ 36 ((ν1 1).n 0) [.int .i64 t12.Lo, .int .i64 t12.Hi] 23 0 2 (by kernel_rfl) (by kernel_rfl) (by kernel_rfl) (by kernel_rfl)

set_option maxHeartbeats 4000000 in
theorem fixed_MulRatio.calls (a0 : Int) (a1 : Int) (a2 : Int) (r : Int × Int × Int) (w : World) (G : fixed_MulRatio a0 a1 a2 = some r) :
    Calls Tryd.prog 68 #[.int .i64 a0, .int .i64 a1, .int .i64 a2] w fun e w' => e = .returned (.tuple #[.int .i64 r.1, .int .i64 r.2.1, .int .i64 r.2.2]) ∧ Below w.heap.size w w' := by
  refine k_enter (args := [.int .i64 a0, .int .i64 a1, .int .i64 a2]) 35 Tryd.func68 rfl (by kernel_rfl) (by kernel_rfl) fun a H => ?_
  unfold fixed_MulRatio at G
  refine k_seq ?_
  refine k_reg mixed H (.cons [6] (ok_val (fun ν1 => .int .i64 0) 6) <|
      .cons [7] (ok_val (fun ν1 => .int .i64 0) 7) <|
      .cons [8] (ok_val (fun ν1 => .int .i64 0) 8) <| .nil) (by kernel_rfl) fun ν1 a w' H => ?_
  replace H := H.toL [(0, .slot true (.int .i64 a0)), (1, .slot true (.int .i64 a1)), (2, .slot true (.int .i64 a2)), (6, .slot true (.int .i64 0)), (7, .slot true (.int .i64 0)), (8, .slot true (.int .i64 0))] (by kernel_rfl)
  refine k_seq ?_
  refine k_seq ?_
  refine k_reg mixed H (.cons [11] (ok_val (fun ν2 => .int .i64 a1) 11) <|
      .cons [12] (ok_val (fun ν2 => .bool (decide (a1 < (-1073741824)))) 12) <|
      .cons [13] (ok_val (fun ν2 => .bool (decide (a1 < (-1073741824)))) 13) <|
      .cons [14] (ok_valg (fun ν2 => .int .i64 a1) (fun ν2 => ((decide (a1 < (-1073741824))) == false)) [true] 14) <|
      .cons [15] (ok_valg (fun ν2 => .bool (decide (a1 > 1073741824))) (fun ν2 => ((decide (a1 < (-1073741824))) == false)) [false, true] 15) <|
      .cons [16] (ok_or 13 15 (fun ν2 => true) (fun ν2 => true) (fun ν2 => decide (a1 < (-1073741824))) (fun ν2 => decide (a1 > 1073741824)) 16) <|
      .cons [17] (ok_val (fun ν2 => .bool ((decide (a1 < (-1073741824))) || (decide (a1 > 1073741824)))) 17) <|
      .cons [18] (ok_valg (fun ν2 => .int .i64 a2) (fun ν2 => (((decide (a1 < (-1073741824))) || (decide (a1 > 1073741824))) == false)) [true] 18) <|
      .cons [19] (ok_valg (fun ν2 => .bool (decide (a2 < 1))) (fun ν2 => (((decide (a1 < (-1073741824))) || (decide (a1 > 1073741824))) == false)) [false, true] 19) <|
      .cons [20] (ok_or 17 19 (fun ν2 => true) (fun ν2 => true) (fun ν2 => ((decide (a1 < (-1073741824))) || (decide (a1 > 1073741824)))) (fun ν2 => decide (a2 < 1)) 20) <|
      .cons [21] (ok_val (fun ν2 => .bool (((decide (a1 < (-1073741824))) || (decide (a1 > 1073741824))) || (decide (a2 < 1)))) 21) <|
      .cons [22] (ok_valg (fun ν2 => .int .i64 a2) (fun ν2 => ((((decide (a1 < (-1073741824))) || (decide (a1 > 1073741824))) || (decide (a2 < 1))) == false)) [true] 22) <|
      .cons [23] (ok_valg (fun ν2 => .bool (decide (a2 > 1073741824))) (fun ν2 => ((((decide (a1 < (-1073741824))) || (decide (a1 > 1073741824))) || (decide (a2 < 1))) == false)) [false, true] 23) <|
      .cons [24] (ok_or 21 23 (fun ν2 => true) (fun ν2 => true) (fun ν2 => (((decide (a1 < (-1073741824))) || (decide (a1 > 1073741824))) || (decide (a2 < 1)))) (fun ν2 => decide (a2 > 1073741824)) 24) <| .nil) (by kernel_rfl) fun ν2 a w' H => ?_
  replace H := H.toL [(0, .slot true (.int .i64 a0)), (1, .slot true (.int .i64 a1)), (2, .slot true (.int .i64 a2)), (6, .slot true (.int .i64 0)), (7, .slot true (.int .i64 0)), (8, .slot true (.int .i64 0)), (24, .slot true (.bool ((((decide (a1 < (-1073741824))) || (decide (a1 > 1073741824))) || (decide (a2 < 1))) || (decide (a2 > 1073741824)))))] (by kernel_rfl)
  refine k_cond H (by kernel_rfl) (t := ((((decide (a1 < (-1073741824))) || (decide (a1 > 1073741824))) || (decide (a2 < 1))) || (decide (a2 > 1073741824)))) (by kernel_rfl) (fun c7 => ?_) (fun c7 => ?_)
  · rw [if_pos c7] at G
    refine k_seq ?_
    refine k_reg mixed H (.cons [6] (ok_val (fun ν3 => .int .i64 0) 6) <|
      .cons [7] (ok_val (fun ν3 => .int .i64 0) 7) <|
      .cons [8] (ok_val (fun ν3 => .int .i64 1) 8) <| .nil) (by kernel_rfl) fun ν3 a w' H => ?_
    replace H := H.toL [(0, .slot true (.int .i64 a0)), (1, .slot true (.int .i64 a1)), (2, .slot true (.int .i64 a2)), (6, .slot true (.int .i64 0)), (7, .slot true (.int .i64 0)), (8, .slot true (.int .i64 1))] (by kernel_rfl)
    refine k_ret ?_
    obtain rfl := Option.some.inj G
    exact k_done0 H _ (by kernel_rfl) (by kernel_rfl)
  · rw [if_neg (nt c7)] at G
    refine k_skip ?_
    refine k_seq ?_
    replace G := bnd G; obtain ⟨t5, ht5, G⟩ := G
    refine k_reg mixed H (.cons [26] (ok_val (fun ν4 => .int .i64 a0) 26) <|
      .cons [27] (ok_val (fun ν4 => .int .i64 a1) 27) <|
      .cons [28] (ok_val (fun ν4 => .int .i64 (w_i64 (a0 * a1))) 28) <|
      .cons [29] (ok_val (fun ν4 => .int .i64 a2) 29) <|
      .cons [30] (ok_callv 75 (fun ν4 => #[.int .i64 (w_i64 (a0 * a1)), .int .i64 a2]) (.tuple #[.int .i64 t5.1, .int .i64 t5.2]) 30 [] (fun _ w _ => fixed_divide.calls (w_i64 (a0 * a1)) a2 t5 w ht5)) <|
      .cons [25] (ok_val (fun ν4 => .tuple #[.int .i64 t5.1, .int .i64 t5.2]) 25) <|
      .cons [31] (ok_val (fun ν4 => .int .i64 t5.1) 31) <|
      .cons [32] (ok_val (fun ν4 => .int .i64 t5.2) 32) <|
      .cons [9] (ok_val (fun ν4 => .int .i64 t5.1) 9) <|
      .cons [10] (ok_val (fun ν4 => .int .i64 t5.2) 10) <| .nil) (by kernel_rfl) fun ν4 a w' H => ?_
    replace H := H.toL [(6, .slot true (.int .i64 0)), (7, .slot true (.int .i64 0)), (8, .slot true (.int .i64 0)), (9, .slot true (.int .i64 t5.1)), (10, .slot true (.int .i64 t5.2))] (by kernel_rfl)
    refine k_seq ?_
    refine k_reg mixed H (.cons [33] (ok_val (fun ν6 => .int .i64 t5.1) 33) <|
      .cons [34] (ok_val (fun ν6 => .int .i64 t5.2) 34) <|
      .cons [6] (ok_val (fun ν6 => .int .i64 t5.1) 6) <|
      .cons [7] (ok_val (fun ν6 => .int .i64 t5.2) 7) <|
      .cons [8] (ok_val (fun ν6 => .int .i64 0) 8) <| .nil) (by kernel_rfl) fun ν6 a w' H => ?_
    replace H := H.toL [(6, .slot true (.int .i64 t5.1)), (7, .slot true (.int .i64 t5.2)), (8, .slot true (.int .i64 0))] (by kernel_rfl)
    refine k_ret ?_
    obtain rfl := Option.some.inj G
    exact k_done0 H _ (by kernel_rfl) (by kernel_rfl)

set_option maxHeartbeats 4000000 in
theorem interval_pick_int64.calls (a0 : Bool) (a1 : Int) (a2 : Int) (r : Int) (w : World) (G : interval_pick_int64 a0 a1 a2 = some r) :
    Calls Tryd.prog 69 #[.bool a0, .int .i64 a1, .int .i64 a2] w fun e w' => e = .returned (.int .i64 r) ∧ Below w.heap.size w w' := by
  refine k_enter (args := [.bool a0, .int .i64 a1, .int .i64 a2]) 10 Tryd.func69 rfl (by kernel_rfl) (by kernel_rfl) fun a H => ?_
  unfold interval_pick_int64 at G
  refine k_seq ?_
  refine k_reg mixed H (.cons [6] (ok_val (fun ν1 => .int .i64 0) 6) <| .nil) (by kernel_rfl) fun ν1 a w' H => ?_
  replace H := H.toL [(0, .slot true (.bool a0)), (1, .slot true (.int .i64 a1)), (2, .slot true (.int .i64 a2)), (6, .slot true (.int .i64 0))] (by kernel_rfl)
  refine k_seq ?_
  refine k_seq ?_
  refine k_reg mixed H (.cons [7] (ok_val (fun ν2 => .bool a0) 7) <| .nil) (by kernel_rfl) fun ν2 a w' H => ?_
  replace H := H.toL [(1, .slot true (.int .i64 a1)), (2, .slot true (.int .i64 a2)), (6, .slot true (.int .i64 0)), (7, .slot true (.bool a0))] (by kernel_rfl)
  refine k_cond H (by kernel_rfl) (t := a0) (by kernel_rfl) (fun c5 => ?_) (fun c5 => ?_)
  · rw [if_pos c5] at G
    refine k_seq ?_
    refine k_reg mixed H (.cons [8] (ok_val (fun ν3 => .int .i64 a1) 8) <|
      .cons [6] (ok_val (fun ν3 => .int .i64 a1) 6) <| .nil) (by kernel_rfl) fun ν3 a w' H => ?_
    replace H := H.toL [(2, .slot true (.int .i64 a2)), (6, .slot true (.int .i64 a1))] (by kernel_rfl)
    refine k_ret ?_
    obtain rfl := Option.some.inj G
    exact k_done0 H _ (by kernel_rfl) (by kernel_rfl)
  · rw [if_neg (nt c5)] at G
    refine k_skip ?_
    refine k_seq ?_
    refine k_reg mixed H (.cons [9] (ok_val (fun ν4 => .int .i64 a2) 9) <|
      .cons [6] (ok_val (fun ν4 => .int .i64 a2) 6) <| .nil) (by kernel_rfl) fun ν4 a w' H => ?_
    replace H := H.toL [(6, .slot true (.int .i64 a2))] (by kernel_rfl)
    refine k_ret ?_
    obtain rfl := Option.some.inj G
    exact k_done0 H _ (by kernel_rfl) (by kernel_rfl)

set_option maxHeartbeats 4000000 in
theorem interval_MulRatio.calls (a0 : TInterval) (a1 : Int) (a2 : Int) (r : TInterval) (w : World) (G : interval_MulRatio a0 a1 a2 = some r) :
    Calls Tryd.prog 23 #[.agg #[.int .i64 a0.Lo, .int .i64 a0.Hi], .int .i64 a1, .int .i64 a2] w fun e w' => e = .returned (.agg #[.int .i64 r.Lo, .int .i64 r.Hi]) ∧ Below w.heap.size w w' := by
  refine k_enter (args := [.agg #[.int .i64 a0.Lo, .int .i64 a0.Hi], .int .i64 a1, .int .i64 a2]) 47 Tryd.func23 rfl (by kernel_rfl) (by kernel_rfl) fun a H => ?_
  unfold interval_MulRatio at G
  refine k_seq ?_
  refine k_reg mixed H (.cons [3, 47] (ok_new (fun b => .pointer (some ⟨b, 0, none⟩)) (fun ν1 => [.int .i64 a0.Lo, .int .i64 a0.Hi]) 23 3 47) <|
      .cons [6, 48] (ok_new (fun b => .pointer (some ⟨b, 0, none⟩)) (fun ν1 => [.int .i64 0, .int .i64 0]) 23 6 48) <| .nil) (by kernel_rfl) fun ν1 a w' H => ?_
  replace H := H.toL [(1, .slot true (.int .i64 a1)), (2, .slot true (.int .i64 a2)), (3, .slot true (.pointer (some ⟨((ν1 0).n 0), 0, none⟩))), (6, .slot true (.pointer (some ⟨((ν1 1).n 0), 0, none⟩))), (47, .blk ((ν1 0).n 0) [.int .i64 a0.Lo, .int .i64 a0.Hi] 23), (48, .blk ((ν1 1).n 0) [.int .i64 0, .int .i64 0] 23)] (by kernel_rfl)
  refine k_seq ?_
  refine k_seq ?_
  replace G := bnd G; obtain ⟨t3, ht3, G⟩ := G
  refine k_reg mixed H (.cons [13] (ok_ld (fun ν2 => .agg #[.int .i64 a0.Lo, .int .i64 a0.Hi]) 13 47 0 2 (fun ν2 => ((ν1 0).n 0)) (fun ν2 => [.int .i64 a0.Lo, .int .i64 a0.Hi]) 23) <|
      .cons [14] (ok_callv 38 (fun ν2 => #[.agg #[.int .i64 a0.Lo, .int .i64 a0.Hi]]) (.bool t3) 14 [] (fun _ w _ => interval_IsEntire.calls a0 t3 w ht3)) <| .nil) (by kernel_rfl) fun ν2 a w' H => ?_
  replace H := H.toL [(1, .slot true (.int .i64 a1)), (2, .slot true (.int .i64 a2)), (3, .slot true (.pointer (some ⟨((ν1 0).n 0), 0, none⟩))), (6, .slot true (.pointer (some ⟨((ν1 1).n 0), 0, none⟩))), (14, .slot true (.bool t3)), (47, .blk ((ν1 0).n 0) [.int .i64 a0.Lo, .int .i64 a0.Hi] 23), (48, .blk ((ν1 1).n 0) [.int .i64 0, .int .i64 0] 23)] (by kernel_rfl)
  refine k_cond H (by kernel_rfl) (t := t3) (by kernel_rfl) (fun c13 => ?_) (fun c13 => ?_)
  · rw [if_pos c13] at G
    refine k_seq ?_
    refine k_reg mixed H (.cons [15] (ok_ld (fun ν4 => .agg #[.int .i64 a0.Lo, .int .i64 a0.Hi]) 15 47 0 2 (fun ν4 => ((ν1 0).n 0)) (fun ν4 => [.int .i64 a0.Lo, .int .i64 a0.Hi]) 23) <|
      .cons [48] (ok_as (u' := fun ν4 => [(48, .blk ((ν1 1).n 0) [.int .i64 a0.Lo, .int .i64 a0.Hi] 23)]) (ok_store 48 0 (fun ν4 => ((ν1 1).n 0)) (fun ν4 => [.int .i64 0, .int .i64 0]) (fun ν4 => [.int .i64 a0.Lo, .int .i64 a0.Hi]) 23) (fun _ => by kernel_rfl)) <| .nil) (by kernel_rfl) fun ν4 a w' H => ?_
    replace H := H.toL [(1, .slot true (.int .i64 a1)), (2, .slot true (.int .i64 a2)), (3, .slot true (.pointer (some ⟨((ν1 0).n 0), 0, none⟩))), (6, .slot true (.pointer (some ⟨((ν1 1).n 0), 0, none⟩))), (47, .blk ((ν1 0).n 0) [.int .i64 a0.Lo, .int .i64 a0.Hi] 23), (48, .blk ((ν1 1).n 0) [.int .i64 a0.Lo, .int .i64 a0.Hi] 23)] (by kernel_rfl)
    refine k_ret ?_
    obtain rfl := Option.some.inj G
    exact k_done1 H _ 48 ((ν1 1).n 0) [.int .i64 a0.Lo, .int .i64 a0.Hi] 23 0 2 (by kernel_rfl) (by kernel_rfl) (by kernel_rfl) (by kernel_rfl)
  · rw [if_neg (nt c13)] at G
    refine k_skip ?_
    refine k_seq ?_
    replace G := bnd G; obtain ⟨t6, ht6, G⟩ := G
    replace G := bnd G; obtain ⟨t7, ht7, G⟩ := G
    refine k_reg mixed H (.cons [17] (ok_val (fun ν5 => .int .i64 a1) 17) <|
      .cons [18] (ok_val (fun ν5 => .bool (decide (a1 < 0))) 18) <|
      .cons [19] (ok_val (fun ν5 => .pointer (some ⟨((ν1 0).n 0), 1, none⟩)) 19) <|
      .cons [20] (ok_ld (fun ν5 => .int .i64 a0.Hi) 20 47 1 1 (fun ν5 => ((ν1 0).n 0)) (fun ν5 => [.int .i64 a0.Lo, .int .i64 a0.Hi]) 23) <|
      .cons [21] (ok_val (fun ν5 => .pointer (some ⟨((ν1 0).n 0), 0, none⟩)) 21) <|
      .cons [22] (ok_ld (fun ν5 => .int .i64 a0.Lo) 22 47 0 1 (fun ν5 => ((ν1 0).n 0)) (fun ν5 => [.int .i64 a0.Lo, .int .i64 a0.Hi]) 23) <|
      .cons [23] (ok_callv 69 (fun ν5 => #[.bool (decide (a1 < 0)), .int .i64 a0.Hi, .int .i64 a0.Lo]) (.int .i64 t6) 23 [] (fun _ w _ => interval_pick_int64.calls (decide (a1 < 0)) a0.Hi a0.Lo t6 w ht6)) <|
      .cons [24] (ok_val (fun ν5 => .int .i64 a1) 24) <|
      .cons [25] (ok_val (fun ν5 => .int .i64 a2) 25) <|
      .cons [26] (ok_callv 68 (fun ν5 => #[.int .i64 t6, .int .i64 a1, .int .i64 a2]) (.tuple #[.int .i64 t7.1, .int .i64 t7.2.1, .int .i64 t7.2.2]) 26 [] (fun _ w _ => fixed_MulRatio.calls t6 a1 a2 t7 w ht7)) <|
      .cons [16] (ok_val (fun ν5 => .tuple #[.int .i64 t7.1, .int .i64 t7.2.1, .int .i64 t7.2.2]) 16) <|
      .cons [27] (ok_val (fun ν5 => .int .i64 t7.1) 27) <|
      .cons [28] (ok_val (fun ν5 => .int .i64 t7.2.1) 28) <|
      .cons [29] (ok_val (fun ν5 => .int .i64 t7.2.2) 29) <|
      .cons [7] (ok_val (fun ν5 => .int .i64 t7.1) 7) <|
      .cons [8] (ok_val (fun ν5 => .int .i64 t7.2.1) 8) <|
      .cons [9] (ok_val (fun ν5 => .int .i64 t7.2.2) 9) <| .nil) (by kernel_rfl) fun ν5 a w' H => ?_
    replace H := H.toL [(1, .slot true (.int .i64 a1)), (2, .slot true (.int .i64 a2)), (3, .slot true (.pointer (some ⟨((ν1 0).n 0), 0, none⟩))), (6, .slot true (.pointer (some ⟨((ν1 1).n 0), 0, none⟩))), (7, .slot true (.int .i64 t7.1)), (47, .blk ((ν1 0).n 0) [.int .i64 a0.Lo, .int .i64 a0.Hi] 23), (48, .blk ((ν1 1).n 0) [.int .i64 0, .int .i64 0] 23)] (by kernel_rfl)
    refine k_seq ?_
    replace G := bnd G; obtain ⟨t9, ht9, G⟩ := G
    replace G := bnd G; obtain ⟨t10, ht10, G⟩ := G
    refine k_reg mixed H (.cons [31] (ok_val (fun ν8 => .int .i64 a1) 31) <|
      .cons [32] (ok_val (fun ν8 => .bool (decide (a1 < 0))) 32) <|
      .cons [33] (ok_val (fun ν8 => .pointer (some ⟨((ν1 0).n 0), 0, none⟩)) 33) <|
      .cons [34] (ok_ld (fun ν8 => .int .i64 a0.Lo) 34 47 0 1 (fun ν8 => ((ν1 0).n 0)) (fun ν8 => [.int .i64 a0.Lo, .int .i64 a0.Hi]) 23) <|
      .cons [35] (ok_val (fun ν8 => .pointer (some ⟨((ν1 0).n 0), 1, none⟩)) 35) <|
      .cons [36] (ok_ld (fun ν8 => .int .i64 a0.Hi) 36 47 1 1 (fun ν8 => ((ν1 0).n 0)) (fun ν8 => [.int .i64 a0.Lo, .int .i64 a0.Hi]) 23) <|
      .cons [37] (ok_callv 69 (fun ν8 => #[.bool (decide (a1 < 0)), .int .i64 a0.Lo, .int .i64 a0.Hi]) (.int .i64 t9) 37 [] (fun _ w _ => interval_pick_int64.calls (decide (a1 < 0)) a0.Lo a0.Hi t9 w ht9)) <|
      .cons [38] (ok_val (fun ν8 => .int .i64 a1) 38) <|
      .cons [39] (ok_val (fun ν8 => .int .i64 a2) 39) <|
      .cons [40] (ok_callv 68 (fun ν8 => #[.int .i64 t9, .int .i64 a1, .int .i64 a2]) (.tuple #[.int .i64 t10.1, .int .i64 t10.2.1, .int .i64 t10.2.2]) 40 [] (fun _ w _ => fixed_MulRatio.calls t9 a1 a2 t10 w ht10)) <|
      .cons [30] (ok_val (fun ν8 => .tuple #[.int .i64 t10.1, .int .i64 t10.2.1, .int .i64 t10.2.2]) 30) <|
      .cons [41] (ok_val (fun ν8 => .int .i64 t10.1) 41) <|
      .cons [42] (ok_val (fun ν8 => .int .i64 t10.2.1) 42) <|
      .cons [43] (ok_val (fun ν8 => .int .i64 t10.2.2) 43) <|
      .cons [10] (ok_val (fun ν8 => .int .i64 t10.1) 10) <|
      .cons [11] (ok_val (fun ν8 => .int .i64 t10.2.1) 11) <|
      .cons [12] (ok_val (fun ν8 => .int .i64 t10.2.2) 12) <| .nil) (by kernel_rfl) fun ν8 a w' H => ?_
    replace H := H.toL [(6, .slot true (.pointer (some ⟨((ν1 1).n 0), 0, none⟩))), (7, .slot true (.int .i64 t7.1)), (11, .slot true (.int .i64 t10.2.1)), (48, .blk ((ν1 1).n 0) [.int .i64 0, .int .i64 0] 23)] (by kernel_rfl)
    refine k_seq ?_
    replace G := bnd G; obtain ⟨t12, ht12, G⟩ := G
    refine k_reg mixed H (.cons [44] (ok_val (fun ν11 => .int .i64 t7.1) 44) <|
      .cons [45] (ok_val (fun ν11 => .int .i64 t10.2.1) 45) <|
      .cons [46] (ok_callv 54 (fun ν11 => #[.int .i64 t7.1, .int .i64 t10.2.1]) (.agg #[.int .i64 t12.Lo, .int .i64 t12.Hi]) 46 [] (fun _ w _ => interval_New.calls t7.1 t10.2.1 t12 w ht12)) <|
      .cons [48] (ok_as (u' := fun ν11 => [(48, .blk ((ν1 1).n 0) [.int .i64 t12.Lo, .int .i64 t12.Hi] 23)]) (ok_store 48 0 (fun ν11 => ((ν1 1).n 0)) (fun ν11 => [.int .i64 0, .int .i64 0]) (fun ν11 => [.int .i64 t12.Lo, .int .i64 t12.Hi]) 23) (fun _ => by kernel_rfl)) <| .nil) (by kernel_rfl) fun ν11 a w' H => ?_
    replace H := H.toL [(6, .slot true (.pointer (some ⟨((ν1 1).n 0), 0, none⟩))), (48, .blk ((ν1 1).n 0) [.int .i64 t12.Lo, .int .i64 t12.Hi] 23)] (by kernel_rfl)
    refine k_ret ?_
    obtain rfl := Option.some.inj G
    exact k_done1 H _ 48 ((ν1 1).n 0) [.int .i64 t12.Lo, .int .i64 t12.Hi] 23 0 2 (by kernel_rfl) (by kernel_rfl) (by kernel_rfl) (by kernel_rfl)

set_option maxHeartbeats 4000000 in
theorem bits_Len64.calls (a0 : Int) (r : Int) (w : World) (G : bits_Len64 a0 = some r) :
    Calls Tryd.prog 76 #[.int .u64 a0] w fun e w' => e = .returned (.int .i64 r) ∧ Below w.heap.size w w' := by
  refine k_enter (args := [.int .u64 a0]) 25 Tryd.func76 rfl (by kernel_rfl) (by kernel_rfl) fun a H => ?_
  unfold bits_Len64 at G
  refine k_seq ?_
  refine k_reg mixed H (.cons [2] (ok_val (fun ν1 => .int .i64 0) 2) <| .nil) (by kernel_rfl) fun ν1 a w' H => ?_
  replace H := H.toL [(0, .slot true (.int .u64 a0)), (2, .slot true (.int .i64 0))] (by kernel_rfl)
  refine k_seq ?_
  replace G := bnd G; obtain ⟨j4, hj4, G⟩ := G
  refine k_join (fun a w' => Rep w.heap.size w 25 (ofL [(0, .slot true (.int .u64 j4.1)), (2, .slot true (.int .i64 j4.2))]) a w') ?_ ?_
  · clear H; intro a w' H
    refine k_seq ?_
    replace G := bnd G; obtain ⟨j7, hj7, G⟩ := G
    refine k_join (fun a w' => Rep w.heap.size w 25 (ofL [(0, .slot true (.int .u64 j7.1)), (2, .slot true (.int .i64 j7.2))]) a w') ?_ ?_
    · clear H; intro a w' H
      refine k_seq ?_
      replace G := bnd G; obtain ⟨j10, hj10, G⟩ := G
      refine k_join (fun a w' => Rep w.heap.size w 25 (ofL [(0, .slot true (.int .u64 j10.1)), (2, .slot true (.int .i64 j10.2))]) a w') ?_ ?_
      · clear H; intro a w' H
        refine k_seq ?_
        replace G := bnd G; obtain ⟨t12, ht12, G⟩ := G
        refine k_reg mixed H (.cons [19] (ok_val (fun ν11 => .int .i64 j10.2) 19) <|
      .cons [20] (ok_val (fun ν11 => .int .u64 j10.1) 20) <|
      .cons [21] (ok_val (fun ν11 => .int .u8 (w_u8 j10.1)) 21) <|
      .cons [22] (ok_val (fun ν11 => .int .u8 t12) 22 (hv := fun _ _ => run_of (by kernel_rfl) (run_index_str (t := 9) (s := (⟨#[0, 1, 2, 2, 3, 3, 3, 3, 4, 4, 4, 4, 4, 4, 4, 4, 5, 5, 5, 5, 5, 5, 5, 5, 5, 5, 5, 5, 5, 5, 5, 5, 6, 6, 6, 6, 6, 6, 6, 6, 6, 6, 6, 6, 6, 6, 6, 6, 6, 6, 6, 6, 6, 6, 6, 6, 6, 6, 6, 6, 6, 6, 6, 6, 7, 7, 7, 7, 7, 7, 7, 7, 7, 7, 7, 7, 7, 7, 7, 7, 7, 7, 7, 7, 7, 7, 7, 7, 7, 7, 7, 7, 7, 7, 7, 7, 7, 7, 7, 7, 7, 7, 7, 7, 7, 7, 7, 7, 7, 7, 7, 7, 7, 7, 7, 7, 7, 7, 7, 7, 7, 7, 7, 7, 7, 7, 7, 7, 8, 8, 8, 8, 8, 8, 8, 8, 8, 8, 8, 8, 8, 8, 8, 8, 8, 8, 8, 8, 8, 8, 8, 8, 8, 8, 8, 8, 8, 8, 8, 8, 8, 8, 8, 8, 8, 8, 8, 8, 8, 8, 8, 8, 8, 8, 8, 8, 8, 8, 8, 8, 8, 8, 8, 8, 8, 8, 8, 8, 8, 8, 8, 8, 8, 8, 8, 8, 8, 8, 8, 8, 8, 8, 8, 8, 8, 8, 8, 8, 8, 8, 8, 8, 8, 8, 8, 8, 8, 8, 8, 8, 8, 8, 8, 8, 8, 8, 8, 8, 8, 8, 8, 8, 8, 8, 8, 8, 8, 8, 8, 8, 8, 8, 8, 8, 8, 8, 8, 8, 8, 8, 8, 8, 8, 8, 8, 8]⟩ : ByteArray)) (k := .u8) (i := w_u8 j10.1) (by kernel_rfl) ht12))) <|
      .cons [23] (ok_val (fun ν11 => .int .i64 (w_i64 t12)) 23) <|
      .cons [24] (ok_val (fun ν11 => .int .i64 (w_i64 (j10.2 + (w_i64 t12)))) 24) <|
      .cons [2] (ok_val (fun ν11 => .int .i64 (w_i64 (j10.2 + (w_i64 t12)))) 2) <| .nil) (by kernel_rfl) fun ν11 a w' H => ?_
        replace H := H.toL [(2, .slot true (.int .i64 (w_i64 (j10.2 + (w_i64 t12)))))] (by kernel_rfl)
        refine k_ret ?_
        obtain rfl := Option.some.inj G
        exact k_done0 H _ (by kernel_rfl) (by kernel_rfl)
      · clear G; replace G := hj10; clear hj10
        refine k_seq ?_
        refine k_reg mixed H (.cons [13] (ok_val (fun ν13 => .int .u64 j7.1) 13) <|
      .cons [14] (ok_val (fun ν13 => .bool (decide (j7.1 ≥ 256))) 14) <| .nil) (by kernel_rfl) fun ν13 a w' H => ?_
        replace H := H.toL [(0, .slot true (.int .u64 j7.1)), (2, .slot true (.int .i64 j7.2)), (14, .slot true (.bool (decide (j7.1 ≥ 256))))] (by kernel_rfl)
        refine k_cond H (by kernel_rfl) (t := decide (j7.1 ≥ 256)) (by kernel_rfl) (fun c16 => ?_) (fun c16 => ?_)
        · rw [if_pos c16] at G
          refine k_seq ?_
          refine k_reg mixed H (.cons [15] (ok_val (fun ν14 => .int .u64 j7.1) 15) <|
      .cons [16] (ok_val (fun ν14 => .int .u64 (Int.fdiv j7.1 256)) 16) <|
      .cons [0] (ok_val (fun ν14 => .int .u64 (Int.fdiv j7.1 256)) 0) <| .nil) (by kernel_rfl) fun ν14 a w' H => ?_
          replace H := H.toL [(0, .slot true (.int .u64 (Int.fdiv j7.1 256))), (2, .slot true (.int .i64 j7.2))] (by kernel_rfl)
          refine k_reg mixed H (.cons [17] (ok_val (fun ν15 => .int .i64 j7.2) 17) <|
      .cons [18] (ok_val (fun ν15 => .int .i64 (w_i64 (j7.2 + 8))) 18) <|
      .cons [2] (ok_val (fun ν15 => .int .i64 (w_i64 (j7.2 + 8))) 2) <| .nil) (by kernel_rfl) fun ν15 a w' H => ?_
          replace H := H.toL [(0, .slot true (.int .u64 (Int.fdiv j7.1 256))), (2, .slot true (.int .i64 (w_i64 (j7.2 + 8))))] (by kernel_rfl)
          obtain rfl := Option.some.inj G
          exact H.toL _ (by kernel_rfl)
        · rw [if_neg (nt c16)] at G
          refine k_skip ?_
          obtain rfl := Option.some.inj G
          exact H.toL _ (by kernel_rfl)
    · clear G; replace G := hj7; clear hj7
      refine k_seq ?_
      refine k_reg mixed H (.cons [7] (ok_val (fun ν17 => .int .u64 j4.1) 7) <|
      .cons [8] (ok_val (fun ν17 => .bool (decide (j4.1 ≥ 65536))) 8) <| .nil) (by kernel_rfl) fun ν17 a w' H => ?_
      replace H := H.toL [(0, .slot true (.int .u64 j4.1)), (2, .slot true (.int .i64 j4.2)), (8, .slot true (.bool (decide (j4.1 ≥ 65536))))] (by kernel_rfl)
      refine k_cond H (by kernel_rfl) (t := decide (j4.1 ≥ 65536)) (by kernel_rfl) (fun c20 => ?_) (fun c20 => ?_)
      · rw [if_pos c20] at G
        refine k_seq ?_
        refine k_reg mixed H (.cons [9] (ok_val (fun ν18 => .int .u64 j4.1) 9) <|
      .cons [10] (ok_val (fun ν18 => .int .u64 (Int.fdiv j4.1 65536)) 10) <|
      .cons [0] (ok_val (fun ν18 => .int .u64 (Int.fdiv j4.1 65536)) 0) <| .nil) (by kernel_rfl) fun ν18 a w' H => ?_
        replace H := H.toL [(0, .slot true (.int .u64 (Int.fdiv j4.1 65536))), (2, .slot true (.int .i64 j4.2))] (by kernel_rfl)
        refine k_reg mixed H (.cons [11] (ok_val (fun ν19 => .int .i64 j4.2) 11) <|
      .cons [12] (ok_val (fun ν19 => .int .i64 (w_i64 (j4.2 + 16))) 12) <|
      .cons [2] (ok_val (fun ν19 => .int .i64 (w_i64 (j4.2 + 16))) 2) <| .nil) (by kernel_rfl) fun ν19 a w' H => ?_
        replace H := H.toL [(0, .slot true (.int .u64 (Int.fdiv j4.1 65536))), (2, .slot true (.int .i64 (w_i64 (j4.2 + 16))))] (by kernel_rfl)
        obtain rfl := Option.some.inj G
        exact H.toL _ (by kernel_rfl)
      · rw [if_neg (nt c20)] at G
        refine k_skip ?_
        obtain rfl := Option.some.inj G
        exact H.toL _ (by kernel_rfl)
  · clear G; replace G := hj4; clear hj4
    refine k_seq ?_
    refine k_reg mixed H (.cons [3] (ok_val (fun ν21 => .int .u64 a0) 3) <|
      .cons [4] (ok_val (fun ν21 => .bool (decide (a0 ≥ 4294967296))) 4) <| .nil) (by kernel_rfl) fun ν21 a w' H => ?_
    replace H := H.toL [(0, .slot true (.int .u64 a0)), (2, .slot true (.int .i64 0)), (4, .slot true (.bool (decide (a0 ≥ 4294967296))))] (by kernel_rfl)
    refine k_cond H (by kernel_rfl) (t := decide (a0 ≥ 4294967296)) (by kernel_rfl) (fun c24 => ?_) (fun c24 => ?_)
    · rw [if_pos c24] at G
      refine k_seq ?_
      refine k_reg mixed H (.cons [5] (ok_val (fun ν22 => .int .u64 a0) 5) <|
      .cons [6] (ok_val (fun ν22 => .int .u64 (Int.fdiv a0 4294967296)) 6) <|
      .cons [0] (ok_val (fun ν22 => .int .u64 (Int.fdiv a0 4294967296)) 0) <| .nil) (by kernel_rfl) fun ν22 a w' H => ?_
      replace H := H.toL [(0, .slot true (.int .u64 (Int.fdiv a0 4294967296))), (2, .slot true (.int .i64 0))] (by kernel_rfl)
      refine k_reg mixed H (.cons [2] (ok_val (fun ν23 => .int .i64 32) 2) <| .nil) (by kernel_rfl) fun ν23 a w' H => ?_
      replace H := H.toL [(0, .slot true (.int .u64 (Int.fdiv a0 4294967296))), (2, .slot true (.int .i64 32))] (by kernel_rfl)
      obtain rfl := Option.some.inj G
      exact H.toL _ (by kernel_rfl)
    · rw [if_neg (nt c24)] at G
      refine k_skip ?_
      obtain rfl := Option.some.inj G
      exact H.toL _ (by kernel_rfl)

set_option maxHeartbeats 4000000 in
theorem fixed_Sqrt.calls (k0 : Nat) (a0 : Int) (r : Int × Int × Int) (w : World) (G : fixed_Sqrt k0 a0 = some r) :
    Calls Tryd.prog 70 #[.int .i64 a0] w fun e w' => e = .returned (.tuple #[.int .i64 r.1, .int .i64 r.2.1, .int .i64 r.2.2]) ∧ Below w.heap.size w w' := by
  refine k_enter (args := [.int .i64 a0]) 40 Tryd.func70 rfl (by kernel_rfl) (by kernel_rfl) fun a H => ?_
  unfold fixed_Sqrt at G
  refine k_seq ?_
  refine k_reg mixed H (.cons [2] (ok_val (fun ν1 => .int .i64 0) 2) <|
      .cons [3] (ok_val (fun ν1 => .int .i64 0) 3) <|
      .cons [4] (ok_val (fun ν1 => .int .i64 0) 4) <| .nil) (by kernel_rfl) fun ν1 a w' H => ?_
  replace H := H.toL [(0, .slot true (.int .i64 a0)), (2, .slot true (.int .i64 0)), (3, .slot true (.int .i64 0)), (4, .slot true (.int .i64 0))] (by kernel_rfl)
  refine k_scope ?_
  refine k_seq ?_
  refine k_seq ?_
  refine k_reg mixed H (.cons [8] (ok_val (fun ν2 => .int .i64 a0) 8) <|
      .cons [9] (ok_val (fun ν2 => .bool (decide (a0 < 0))) 9) <| .nil) (by kernel_rfl) fun ν2 a w' H => ?_
  replace H := H.toL [(0, .slot true (.int .i64 a0)), (2, .slot true (.int .i64 0)), (3, .slot true (.int .i64 0)), (4, .slot true (.int .i64 0)), (9, .slot true (.bool (decide (a0 < 0))))] (by kernel_rfl)
  refine k_cond H (by kernel_rfl) (t := decide (a0 < 0)) (by kernel_rfl) (fun c25 => ?_) (fun c25 => ?_)
  · rw [if_pos c25] at G
    refine k_seq ?_
    refine k_reg mixed H (.cons [2] (ok_val (fun ν3 => .int .i64 0) 2) <|
      .cons [3] (ok_val (fun ν3 => .int .i64 0) 3) <|
      .cons [4] (ok_val (fun ν3 => .int .i64 4) 4) <| .nil) (by kernel_rfl) fun ν3 a w' H => ?_
    replace H := H.toL [(0, .slot true (.int .i64 a0)), (2, .slot true (.int .i64 0)), (3, .slot true (.int .i64 0)), (4, .slot true (.int .i64 4))] (by kernel_rfl)
    refine k_ret ?_
    obtain rfl := Option.some.inj G
    exact k_done0 H _ (by kernel_rfl) (by kernel_rfl)
  · rw [if_neg (nt c25)] at G
    refine k_skip ?_
    refine k_seq ?_
    refine k_reg mixed H (.cons [10] (ok_val (fun ν4 => .int .i64 a0) 10) <|
      .cons [11] (ok_val (fun ν4 => .int .i64 (w_i64 (a0 * 65536))) 11) <|
      .cons [5] (ok_val (fun ν4 => .int .i64 (w_i64 (a0 * 65536))) 5) <| .nil) (by kernel_rfl) fun ν4 a w' H => ?_
    replace H := H.toL [(2, .slot true (.int .i64 0)), (3, .slot true (.int .i64 0)), (4, .slot true (.int .i64 0)), (5, .slot true (.int .i64 (w_i64 (a0 * 65536))))] (by kernel_rfl)
    refine k_seq ?_
    refine k_seq ?_
    refine k_reg mixed H (.cons [12] (ok_val (fun ν5 => .int .i64 (w_i64 (a0 * 65536))) 12) <|
      .cons [13] (ok_val (fun ν5 => .bool ((w_i64 (a0 * 65536)) == 0)) 13) <| .nil) (by kernel_rfl) fun ν5 a w' H => ?_
    replace H := H.toL [(2, .slot true (.int .i64 0)), (3, .slot true (.int .i64 0)), (4, .slot true (.int .i64 0)), (5, .slot true (.int .i64 (w_i64 (a0 * 65536)))), (13, .slot true (.bool ((w_i64 (a0 * 65536)) == 0)))] (by kernel_rfl)
    refine k_cond H (by kernel_rfl) (t := ((w_i64 (a0 * 65536)) == 0)) (by kernel_rfl) (fun c24 => ?_) (fun c24 => ?_)
    · rw [if_pos c24] at G
      refine k_seq ?_
      refine k_reg mixed H (.cons [2] (ok_val (fun ν6 => .int .i64 0) 2) <|
      .cons [3] (ok_val (fun ν6 => .int .i64 0) 3) <|
      .cons [4] (ok_val (fun ν6 => .int .i64 0) 4) <| .nil) (by kernel_rfl) fun ν6 a w' H => ?_
      replace H := H.toL [(2, .slot true (.int .i64 0)), (3, .slot true (.int .i64 0)), (4, .slot true (.int .i64 0)), (5, .slot true (.int .i64 (w_i64 (a0 * 65536))))] (by kernel_rfl)
      refine k_ret ?_
      obtain rfl := Option.some.inj G
      exact k_done0 H _ (by kernel_rfl) (by kernel_rfl)
    · rw [if_neg (nt c24)] at G
      refine k_skip ?_
      refine k_seq ?_
      replace G := bnd G; obtain ⟨t8, ht8, G⟩ := G
      replace G := gd G; obtain ⟨n9, G⟩ := G
      refine k_reg mixed H (.cons [14] (ok_val (fun ν7 => .int .i64 (w_i64 (a0 * 65536))) 14) <|
      .cons [15] (ok_val (fun ν7 => .int .u64 (w_u64 (w_i64 (a0 * 65536)))) 15) <|
      .cons [16] (ok_callv 76 (fun ν7 => #[.int .u64 (w_u64 (w_i64 (a0 * 65536)))]) (.int .i64 t8) 16 [] (fun _ w _ => bits_Len64.calls (w_u64 (w_i64 (a0 * 65536))) t8 w ht8)) <|
      .cons [17] (ok_val (fun ν7 => .int .i64 (w_i64 (t8 + 1))) 17) <|
      .cons [18] (ok_val (fun ν7 => .int .i64 (w_i64 (Int.tdiv (w_i64 (t8 + 1)) 2))) 18) <|
      .cons [19] (ok_val (fun ν7 => .int .i64 (w_i64 (1 * 2 ^ (min (w_i64 (Int.tdiv (w_i64 (t8 + 1)) 2)).toNat 64)))) 19 (hv := fun _ _ => run_of (by kernel_rfl) (run_shl (k := .i64) (yk := .i64) (x := 1) (y := w_i64 (Int.tdiv (w_i64 (t8 + 1)) 2)) n9))) <|
      .cons [6] (ok_val (fun ν7 => .int .i64 (w_i64 (1 * 2 ^ (min (w_i64 (Int.tdiv (w_i64 (t8 + 1)) 2)).toNat 64)))) 6) <| .nil) (by kernel_rfl) fun ν7 a w' H => ?_
      replace H := H.toL [(2, .slot true (.int .i64 0)), (3, .slot true (.int .i64 0)), (4, .slot true (.int .i64 0)), (5, .slot true (.int .i64 (w_i64 (a0 * 65536)))), (6, .slot true (.int .i64 (w_i64 (1 * 2 ^ (min (w_i64 (Int.tdiv (w_i64 (t8 + 1)) 2)).toNat 64)))))] (by kernel_rfl)
      refine k_seq ?_
      refine k_label ?_
      refine k_seq ?_
      replace G := bnd G; obtain ⟨j11, hj11, G⟩ := G
      refine k_join (fun a w' => Rep w.heap.size w 40 (ofL [(2, .slot true (.int .i64 0)), (3, .slot true (.int .i64 0)), (4, .slot true (.int .i64 0)), (5, .slot true (.int .i64 (w_i64 (a0 * 65536)))), (6, .slot true (.int .i64 j11))]) a w') ?_ ?_
      · clear H; intro a w' H
        refine k_seq ?_
        refine k_seq ?_
        refine k_reg mixed H (.cons [30] (ok_val (fun ν12 => .int .i64 j11) 30) <|
      .cons [31] (ok_val (fun ν12 => .int .i64 j11) 31) <|
      .cons [32] (ok_val (fun ν12 => .int .i64 (w_i64 (j11 * j11))) 32) <|
      .cons [33] (ok_val (fun ν12 => .int .i64 (w_i64 (a0 * 65536))) 33) <|
      .cons [34] (ok_val (fun ν12 => .bool (decide ((w_i64 (j11 * j11)) < (w_i64 (a0 * 65536))))) 34) <| .nil) (by kernel_rfl) fun ν12 a w' H => ?_
        replace H := H.toL [(2, .slot true (.int .i64 0)), (3, .slot true (.int .i64 0)), (4, .slot true (.int .i64 0)), (6, .slot true (.int .i64 j11)), (34, .slot true (.bool (decide ((w_i64 (j11 * j11)) < (w_i64 (a0 * 65536))))))] (by kernel_rfl)
        refine k_cond H (by kernel_rfl) (t := decide ((w_i64 (j11 * j11)) < (w_i64 (a0 * 65536)))) (by kernel_rfl) (fun c15 => ?_) (fun c15 => ?_)
        · rw [if_pos c15] at G
          refine k_seq ?_
          refine k_reg mixed H (.cons [35] (ok_val (fun ν13 => .int .i64 j11) 35) <|
      .cons [36] (ok_val (fun ν13 => .int .i64 j11) 36) <|
      .cons [37] (ok_val (fun ν13 => .int .i64 (w_i64 (j11 + 1))) 37) <|
      .cons [2] (ok_val (fun ν13 => .int .i64 j11) 2) <|
      .cons [3] (ok_val (fun ν13 => .int .i64 (w_i64 (j11 + 1))) 3) <|
      .cons [4] (ok_val (fun ν13 => .int .i64 0) 4) <| .nil) (by kernel_rfl) fun ν13 a w' H => ?_
          replace H := H.toL [(2, .slot true (.int .i64 j11)), (3, .slot true (.int .i64 (w_i64 (j11 + 1)))), (4, .slot true (.int .i64 0)), (6, .slot true (.int .i64 j11))] (by kernel_rfl)
          refine k_ret ?_
          obtain rfl := Option.some.inj G
          exact k_done0 H _ (by kernel_rfl) (by kernel_rfl)
        · rw [if_neg (nt c15)] at G
          refine k_skip ?_
          refine k_seq ?_
          refine k_reg mixed H (.cons [38] (ok_val (fun ν14 => .int .i64 j11) 38) <|
      .cons [39] (ok_val (fun ν14 => .int .i64 j11) 39) <|
      .cons [2] (ok_val (fun ν14 => .int .i64 j11) 2) <|
      .cons [3] (ok_val (fun ν14 => .int .i64 j11) 3) <|
      .cons [4] (ok_val (fun ν14 => .int .i64 0) 4) <| .nil) (by kernel_rfl) fun ν14 a w' H => ?_
          replace H := H.toL [(2, .slot true (.int .i64 j11)), (3, .slot true (.int .i64 j11)), (4, .slot true (.int .i64 0))] (by kernel_rfl)
          refine k_ret ?_
          obtain rfl := Option.some.inj G
          exact k_done0 H _ (by kernel_rfl) (by kernel_rfl)
      · clear G; replace G := hj11; clear hj11
        refine k_block ?_
        refine k_loopJ (fun m a w' => ∃ x16 : Int, fixed_Sqrt.l17 k0 a0 t8 m x16 = some j11 ∧ Rep w.heap.size w 40 (ofL [(2, .slot true (.int .i64 0)), (3, .slot true (.int .i64 0)), (4, .slot true (.int .i64 0)), (5, .slot true (.int .i64 (w_i64 (a0 * 65536)))), (6, .slot true (.int .i64 x16))]) a w') k0 ⟨_, G, H.toL _ (by kernel_rfl)⟩ ?_
        clear G H
        rintro (_ | k) a w' ⟨x16, G, H⟩
        · exact absurd G (by unfold fixed_Sqrt.l17; exact fun h => by cases h)
        · unfold fixed_Sqrt.l17 at G
          refine k_block ?_
          refine k_seq ?_
          replace G := gd G; obtain ⟨n19, G⟩ := G
          refine k_reg mixed H (.cons [20] (ok_val (fun ν18 => .int .i64 x16) 20) <|
      .cons [21] (ok_val (fun ν18 => .int .i64 (w_i64 (a0 * 65536))) 21) <|
      .cons [22] (ok_val (fun ν18 => .int .i64 x16) 22) <|
      .cons [23] (ok_val (fun ν18 => .int .i64 (w_i64 (Int.tdiv (w_i64 (a0 * 65536)) x16))) 23 (hv := fun _ _ => run_of (by kernel_rfl) (run_quo (k := .i64) (x := w_i64 (a0 * 65536)) (y := x16) n19))) <|
      .cons [24] (ok_val (fun ν18 => .int .i64 (w_i64 (x16 + (w_i64 (Int.tdiv (w_i64 (a0 * 65536)) x16))))) 24) <|
      .cons [25] (ok_val (fun ν18 => .int .i64 (w_i64 (Int.tdiv (w_i64 (x16 + (w_i64 (Int.tdiv (w_i64 (a0 * 65536)) x16)))) 2))) 25) <|
      .cons [7] (ok_val (fun ν18 => .int .i64 (w_i64 (Int.tdiv (w_i64 (x16 + (w_i64 (Int.tdiv (w_i64 (a0 * 65536)) x16)))) 2))) 7) <| .nil) (by kernel_rfl) fun ν18 a w' H => ?_
          replace H := H.toL [(2, .slot true (.int .i64 0)), (3, .slot true (.int .i64 0)), (4, .slot true (.int .i64 0)), (5, .slot true (.int .i64 (w_i64 (a0 * 65536)))), (6, .slot true (.int .i64 x16)), (7, .slot true (.int .i64 (w_i64 (Int.tdiv (w_i64 (x16 + (w_i64 (Int.tdiv (w_i64 (a0 * 65536)) x16)))) 2)))), (20, .slot true (.int .i64 x16)), (21, .slot true (.int .i64 (w_i64 (a0 * 65536)))), (22, .slot true (.int .i64 x16)), (23, .slot true (.int .i64 (w_i64 (Int.tdiv (w_i64 (a0 * 65536)) x16)))), (24, .slot true (.int .i64 (w_i64 (x16 + (w_i64 (Int.tdiv (w_i64 (a0 * 65536)) x16)))))), (25, .slot true (.int .i64 (w_i64 (Int.tdiv (w_i64 (x16 + (w_i64 (Int.tdiv (w_i64 (a0 * 65536)) x16)))) 2))))] (by kernel_rfl)
          refine k_seq ?_
          refine k_seq ?_
          replace G := bnd G; obtain ⟨z21, hz21, G⟩ := G
          replace hz21 := Option.some.inj hz21
          refine k_reg mixed H (.cons [26] (ok_val (fun ν20 => .int .i64 (w_i64 (Int.tdiv (w_i64 (x16 + (w_i64 (Int.tdiv (w_i64 (a0 * 65536)) x16)))) 2))) 26) <|
      .cons [27] (ok_val (fun ν20 => .int .i64 x16) 27) <|
      .cons [28] (ok_as (u' := fun ν20 => [(28, .slot true (.bool z21))]) (ok_val (fun ν20 => .bool (decide ((w_i64 (Int.tdiv (w_i64 (x16 + (w_i64 (Int.tdiv (w_i64 (a0 * 65536)) x16)))) 2)) ≥ x16))) 28) (fun _ => by rw [← hz21])) <| .nil) (by kernel_rfl) fun ν20 a w' H => ?_
          replace H := H.toL [(2, .slot true (.int .i64 0)), (3, .slot true (.int .i64 0)), (4, .slot true (.int .i64 0)), (5, .slot true (.int .i64 (w_i64 (a0 * 65536)))), (6, .slot true (.int .i64 x16)), (7, .slot true (.int .i64 (w_i64 (Int.tdiv (w_i64 (x16 + (w_i64 (Int.tdiv (w_i64 (a0 * 65536)) x16)))) 2)))), (20, .slot true (.int .i64 x16)), (21, .slot true (.int .i64 (w_i64 (a0 * 65536)))), (22, .slot true (.int .i64 x16)), (23, .slot true (.int .i64 (w_i64 (Int.tdiv (w_i64 (a0 * 65536)) x16)))), (24, .slot true (.int .i64 (w_i64 (x16 + (w_i64 (Int.tdiv (w_i64 (a0 * 65536)) x16)))))), (25, .slot true (.int .i64 (w_i64 (Int.tdiv (w_i64 (x16 + (w_i64 (Int.tdiv (w_i64 (a0 * 65536)) x16)))) 2)))), (26, .slot true (.int .i64 (w_i64 (Int.tdiv (w_i64 (x16 + (w_i64 (Int.tdiv (w_i64 (a0 * 65536)) x16)))) 2)))), (27, .slot true (.int .i64 x16)), (28, .slot true (.bool z21))] (by kernel_rfl)
          refine k_cond H (by kernel_rfl) (t := z21) (by kernel_rfl) (fun c23 => ?_) (fun c23 => ?_)
          · rw [if_pos c23] at G
            refine k_exit rfl ?_
            obtain rfl := Option.some.inj G
            exact H.toL _ (by kernel_rfl)
          · rw [if_neg (nt c23)] at G
            refine k_skip ?_
            refine k_reg mixed H (.cons [29] (ok_val (fun ν22 => .int .i64 (w_i64 (Int.tdiv (w_i64 (x16 + (w_i64 (Int.tdiv (w_i64 (a0 * 65536)) x16)))) 2))) 29) <|
      .cons [6] (ok_val (fun ν22 => .int .i64 (w_i64 (Int.tdiv (w_i64 (x16 + (w_i64 (Int.tdiv (w_i64 (a0 * 65536)) x16)))) 2))) 6) <| .nil) (by kernel_rfl) fun ν22 a w' H => ?_
            replace H := H.toL [(2, .slot true (.int .i64 0)), (3, .slot true (.int .i64 0)), (4, .slot true (.int .i64 0)), (5, .slot true (.int .i64 (w_i64 (a0 * 65536)))), (6, .slot true (.int .i64 (w_i64 (Int.tdiv (w_i64 (x16 + (w_i64 (Int.tdiv (w_i64 (a0 * 65536)) x16)))) 2)))), (7, .slot true (.int .i64 (w_i64 (Int.tdiv (w_i64 (x16 + (w_i64 (Int.tdiv (w_i64 (a0 * 65536)) x16)))) 2)))), (20, .slot true (.int .i64 x16)), (21, .slot true (.int .i64 (w_i64 (a0 * 65536)))), (22, .slot true (.int .i64 x16)), (23, .slot true (.int .i64 (w_i64 (Int.tdiv (w_i64 (a0 * 65536)) x16)))), (24, .slot true (.int .i64 (w_i64 (x16 + (w_i64 (Int.tdiv (w_i64 (a0 * 65536)) x16)))))), (25, .slot true (.int .i64 (w_i64 (Int.tdiv (w_i64 (x16 + (w_i64 (Int.tdiv (w_i64 (a0 * 65536)) x16)))) 2)))), (26, .slot true (.int .i64 (w_i64 (Int.tdiv (w_i64 (x16 + (w_i64 (Int.tdiv (w_i64 (a0 * 65536)) x16)))) 2)))), (27, .slot true (.int .i64 x16)), (28, .slot true (.bool z21)), (29, .slot true (.int .i64 (w_i64 (Int.tdiv (w_i64 (x16 + (w_i64 (Int.tdiv (w_i64 (a0 * 65536)) x16)))) 2))))] (by kernel_rfl)
            exact ⟨k, Nat.lt_succ_self k, _, G, H.toL _ (by kernel_rfl)⟩

set_option maxHeartbeats 4000000 in
theorem interval_Sqrt.calls (k0 : Nat) (a0 : TInterval) (r : TInterval × Bool) (w : World) (G : interval_Sqrt k0 a0 = some r) :
    Calls Tryd.prog 24 #[.agg #[.int .i64 a0.Lo, .int .i64 a0.Hi]] w fun e w' => e = .returned (.tuple #[.agg #[.int .i64 r.1.Lo, .int .i64 r.1.Hi], .bool r.2]) ∧ Below w.heap.size w w' := by
  refine k_enter (args := [.agg #[.int .i64 a0.Lo, .int .i64 a0.Hi]]) 37 Tryd.func24 rfl (by kernel_rfl) (by kernel_rfl) fun a H => ?_
  unfold interval_Sqrt at G
  refine k_seq ?_
  refine k_reg mixed H (.cons [1, 37] (ok_new (fun b => .pointer (some ⟨b, 0, none⟩)) (fun ν1 => [.int .i64 a0.Lo, .int .i64 a0.Hi]) 23 1 37) <|
      .cons [2, 38] (ok_new (fun b => .pointer (some ⟨b, 0, none⟩)) (fun ν1 => [.int .i64 0, .int .i64 0]) 23 2 38) <|
      .cons [3] (ok_val (fun ν1 => .bool false) 3) <| .nil) (by kernel_rfl) fun ν1 a w' H => ?_
  replace H := H.toL [(1, .slot true (.pointer (some ⟨((ν1 0).n 0), 0, none⟩))), (2, .slot true (.pointer (some ⟨((ν1 1).n 0), 0, none⟩))), (3, .slot true (.bool false)), (37, .blk ((ν1 0).n 0) [.int .i64 a0.Lo, .int .i64 a0.Hi] 23), (38, .blk ((ν1 1).n 0) [.int .i64 0, .int .i64 0] 23)] (by kernel_rfl)
  refine k_seq ?_
  refine k_block ?_
  refine k_seq ?_
  replace G := bnd G; obtain ⟨t3, ht3, G⟩ := G
  refine k_reg mixed H (.cons [11] (ok_ld (fun ν2 => .agg #[.int .i64 a0.Lo, .int .i64 a0.Hi]) 11 37 0 2 (fun ν2 => ((ν1 0).n 0)) (fun ν2 => [.int .i64 a0.Lo, .int .i64 a0.Hi]) 23) <|
      .cons [12] (ok_callv 38 (fun ν2 => #[.agg #[.int .i64 a0.Lo, .int .i64 a0.Hi]]) (.bool t3) 12 [] (fun _ w _ => interval_IsEntire.calls a0 t3 w ht3)) <|
      .cons [10] (ok_val (fun ν2 => .bool t3) 10) <| .nil) (by kernel_rfl) fun ν2 a w' H => ?_
  replace H := H.toL [(1, .slot true (.pointer (some ⟨((ν1 0).n 0), 0, none⟩))), (2, .slot true (.pointer (some ⟨((ν1 1).n 0), 0, none⟩))), (3, .slot true (.bool false)), (10, .slot true (.bool t3)), (37, .blk ((ν1 0).n 0) [.int .i64 a0.Lo, .int .i64 a0.Hi] 23), (38, .blk ((ν1 1).n 0) [.int .i64 0, .int .i64 0] 23)] (by kernel_rfl)
  refine k_cond H (by kernel_rfl) (t := t3) (by kernel_rfl) (fun c14 => ?_) (fun c14 => ?_)
  · rw [if_pos c14] at G
    refine k_seq ?_
    refine k_reg mixed H (.cons [13] (ok_ld (fun ν4 => .agg #[.int .i64 a0.Lo, .int .i64 a0.Hi]) 13 37 0 2 (fun ν4 => ((ν1 0).n 0)) (fun ν4 => [.int .i64 a0.Lo, .int .i64 a0.Hi]) 23) <|
      .cons [38] (ok_as (u' := fun ν4 => [(38, .blk ((ν1 1).n 0) [.int .i64 a0.Lo, .int .i64 a0.Hi] 23)]) (ok_store 38 0 (fun ν4 => ((ν1 1).n 0)) (fun ν4 => [.int .i64 0, .int .i64 0]) (fun ν4 => [.int .i64 a0.Lo, .int .i64 a0.Hi]) 23) (fun _ => by kernel_rfl)) <|
      .cons [3] (ok_val (fun ν4 => .bool true) 3) <| .nil) (by kernel_rfl) fun ν4 a w' H => ?_
    replace H := H.toL [(1, .slot true (.pointer (some ⟨((ν1 0).n 0), 0, none⟩))), (2, .slot true (.pointer (some ⟨((ν1 1).n 0), 0, none⟩))), (3, .slot true (.bool true)), (37, .blk ((ν1 0).n 0) [.int .i64 a0.Lo, .int .i64 a0.Hi] 23), (38, .blk ((ν1 1).n 0) [.int .i64 a0.Lo, .int .i64 a0.Hi] 23)] (by kernel_rfl)
    refine k_ret ?_
    obtain rfl := Option.some.inj G
    exact k_done1 H _ 38 ((ν1 1).n 0) [.int .i64 a0.Lo, .int .i64 a0.Hi] 23 0 2 (by kernel_rfl) (by kernel_rfl) (by kernel_rfl) (by kernel_rfl)
  · rw [if_neg (nt c14)] at G
    refine k_seq ?_
    refine k_reg mixed H (.cons [15] (ok_val (fun ν5 => .pointer (some ⟨((ν1 0).n 0), 1, none⟩)) 15) <|
      .cons [16] (ok_ld (fun ν5 => .int .i64 a0.Hi) 16 37 1 1 (fun ν5 => ((ν1 0).n 0)) (fun ν5 => [.int .i64 a0.Lo, .int .i64 a0.Hi]) 23) <|
      .cons [17] (ok_val (fun ν5 => .bool (decide (a0.Hi < 0))) 17) <|
      .cons [14] (ok_val (fun ν5 => .bool (decide (a0.Hi < 0))) 14) <| .nil) (by kernel_rfl) fun ν5 a w' H => ?_
    replace H := H.toL [(1, .slot true (.pointer (some ⟨((ν1 0).n 0), 0, none⟩))), (2, .slot true (.pointer (some ⟨((ν1 1).n 0), 0, none⟩))), (3, .slot true (.bool false)), (14, .slot true (.bool (decide (a0.Hi < 0)))), (37, .blk ((ν1 0).n 0) [.int .i64 a0.Lo, .int .i64 a0.Hi] 23), (38, .blk ((ν1 1).n 0) [.int .i64 0, .int .i64 0] 23)] (by kernel_rfl)
    refine k_cond H (by kernel_rfl) (t := decide (a0.Hi < 0)) (by kernel_rfl) (fun c13 => ?_) (fun c13 => ?_)
    · rw [if_pos c13] at G
      refine k_seq ?_
      refine k_reg mixed H (.cons [18] (ok_val (fun ν6 => .agg #[.int .i64 0, .int .i64 0]) 18) <|
      .cons [38] (ok_as (u' := fun ν6 => [(38, .blk ((ν1 1).n 0) [.int .i64 0, .int .i64 0] 23)]) (ok_store 38 0 (fun ν6 => ((ν1 1).n 0)) (fun ν6 => [.int .i64 0, .int .i64 0]) (fun ν6 => [.int .i64 0, .int .i64 0]) 23) (fun _ => by kernel_rfl)) <|
      .cons [3] (ok_val (fun ν6 => .bool false) 3) <| .nil) (by kernel_rfl) fun ν6 a w' H => ?_
      replace H := H.toL [(1, .slot true (.pointer (some ⟨((ν1 0).n 0), 0, none⟩))), (2, .slot true (.pointer (some ⟨((ν1 1).n 0), 0, none⟩))), (3, .slot true (.bool false)), (37, .blk ((ν1 0).n 0) [.int .i64 a0.Lo, .int .i64 a0.Hi] 23), (38, .blk ((ν1 1).n 0) [.int .i64 0, .int .i64 0] 23)] (by kernel_rfl)
      refine k_ret ?_
      obtain rfl := Option.some.inj G
      exact k_done1 H _ 38 ((ν1 1).n 0) [.int .i64 0, .int .i64 0] 23 0 2 (by kernel_rfl) (by kernel_rfl) (by kernel_rfl) (by kernel_rfl)
    · rw [if_neg (nt c13)] at G
      refine k_skip ?_
      refine k_seq ?_
      replace G := bnd G; obtain ⟨t8, ht8, G⟩ := G
      refine k_reg mixed H (.cons [20] (ok_val (fun ν7 => .pointer (some ⟨((ν1 0).n 0), 0, none⟩)) 20) <|
      .cons [21] (ok_ld (fun ν7 => .int .i64 a0.Lo) 21 37 0 1 (fun ν7 => ((ν1 0).n 0)) (fun ν7 => [.int .i64 a0.Lo, .int .i64 a0.Hi]) 23) <|
      .cons [22] (ok_val (fun ν7 => .int .i64 (mx a0.Lo 0)) 22) <|
      .cons [23] (ok_callv 70 (fun ν7 => #[.int .i64 (mx a0.Lo 0)]) (.tuple #[.int .i64 t8.1, .int .i64 t8.2.1, .int .i64 t8.2.2]) 23 [] (fun _ w _ => fixed_Sqrt.calls k0 (mx a0.Lo 0) t8 w ht8)) <|
      .cons [19] (ok_val (fun ν7 => .tuple #[.int .i64 t8.1, .int .i64 t8.2.1, .int .i64 t8.2.2]) 19) <|
      .cons [24] (ok_val (fun ν7 => .int .i64 t8.1) 24) <|
      .cons [25] (ok_val (fun ν7 => .int .i64 t8.2.1) 25) <|
      .cons [26] (ok_val (fun ν7 => .int .i64 t8.2.2) 26) <|
      .cons [4] (ok_val (fun ν7 => .int .i64 t8.1) 4) <|
      .cons [5] (ok_val (fun ν7 => .int .i64 t8.2.1) 5) <|
      .cons [6] (ok_val (fun ν7 => .int .i64 t8.2.2) 6) <| .nil) (by kernel_rfl) fun ν7 a w' H => ?_
      replace H := H.toL [(1, .slot true (.pointer (some ⟨((ν1 0).n 0), 0, none⟩))), (2, .slot true (.pointer (some ⟨((ν1 1).n 0), 0, none⟩))), (3, .slot true (.bool false)), (4, .slot true (.int .i64 t8.1)), (37, .blk ((ν1 0).n 0) [.int .i64 a0.Lo, .int .i64 a0.Hi] 23), (38, .blk ((ν1 1).n 0) [.int .i64 0, .int .i64 0] 23)] (by kernel_rfl)
      refine k_seq ?_
      replace G := bnd G; obtain ⟨t10, ht10, G⟩ := G
      refine k_reg mixed H (.cons [28] (ok_val (fun ν9 => .pointer (some ⟨((ν1 0).n 0), 1, none⟩)) 28) <|
      .cons [29] (ok_ld (fun ν9 => .int .i64 a0.Hi) 29 37 1 1 (fun ν9 => ((ν1 0).n 0)) (fun ν9 => [.int .i64 a0.Lo, .int .i64 a0.Hi]) 23) <|
      .cons [30] (ok_callv 70 (fun ν9 => #[.int .i64 a0.Hi]) (.tuple #[.int .i64 t10.1, .int .i64 t10.2.1, .int .i64 t10.2.2]) 30 [] (fun _ w _ => fixed_Sqrt.calls k0 a0.Hi t10 w ht10)) <|
      .cons [27] (ok_val (fun ν9 => .tuple #[.int .i64 t10.1, .int .i64 t10.2.1, .int .i64 t10.2.2]) 27) <|
      .cons [31] (ok_val (fun ν9 => .int .i64 t10.1) 31) <|
      .cons [32] (ok_val (fun ν9 => .int .i64 t10.2.1) 32) <|
      .cons [33] (ok_val (fun ν9 => .int .i64 t10.2.2) 33) <|
      .cons [7] (ok_val (fun ν9 => .int .i64 t10.1) 7) <|
      .cons [8] (ok_val (fun ν9 => .int .i64 t10.2.1) 8) <|
      .cons [9] (ok_val (fun ν9 => .int .i64 t10.2.2) 9) <| .nil) (by kernel_rfl) fun ν9 a w' H => ?_
      replace H := H.toL [(2, .slot true (.pointer (some ⟨((ν1 1).n 0), 0, none⟩))), (3, .slot true (.bool false)), (4, .slot true (.int .i64 t8.1)), (8, .slot true (.int .i64 t10.2.1)), (38, .blk ((ν1 1).n 0) [.int .i64 0, .int .i64 0] 23)] (by kernel_rfl)
      refine k_seq ?_
      replace G := bnd G; obtain ⟨t12, ht12, G⟩ := G
      refine k_reg mixed H (.cons [34] (ok_val (fun ν11 => .int .i64 t8.1) 34) <|
      .cons [35] (ok_val (fun ν11 => .int .i64 t10.2.1) 35) <|
      .cons [36] (ok_callv 54 (fun ν11 => #[.int .i64 t8.1, .int .i64 t10.2.1]) (.agg #[.int .i64 t12.Lo, .int .i64 t12.Hi]) 36 [] (fun _ w _ => interval_New.calls t8.1 t10.2.1 t12 w ht12)) <|
      .cons [38] (ok_as (u' := fun ν11 => [(38, .blk ((ν1 1).n 0) [.int .i64 t12.Lo, .int .i64 t12.Hi] 23)]) (ok_store 38 0 (fun ν11 => ((ν1 1).n 0)) (fun ν11 => [.int .i64 0, .int .i64 0]) (fun ν11 => [.int .i64 t12.Lo, .int .i64 t12.Hi]) 23) (fun _ => by kernel_rfl)) <|
      .cons [3] (ok_val (fun ν11 => .bool true) 3) <| .nil) (by kernel_rfl) fun ν11 a w' H => ?_
      replace H := H.toL [(2, .slot true (.pointer (some ⟨((ν1 1).n 0), 0, none⟩))), (3, .slot true (.bool true)), (38, .blk ((ν1 1).n 0) [.int .i64 t12.Lo, .int .i64 t12.Hi] 23)] (by kernel_rfl)
      refine k_ret ?_
      obtain rfl := Option.some.inj G
      exact k_done1 H _ 38 ((ν1 1).n 0) [.int .i64 t12.Lo, .int .i64 t12.Hi] 23 0 2 (by kernel_rfl) (by kernel_rfl) (by kernel_rfl) (by kernel_rfl)

set_option maxHeartbeats 4000000 in
theorem interval_Subset.calls (a0 : TInterval) (a1 : TInterval) (r : Bool) (w : World) (G : interval_Subset a0 a1 = some r) :
    Calls Tryd.prog 28 #[.agg #[.int .i64 a0.Lo, .int .i64 a0.Hi], .agg #[.int .i64 a1.Lo, .int .i64 a1.Hi]] w fun e w' => e = .returned (.bool r) ∧ Below w.heap.size w w' := by
  refine k_enter (args := [.agg #[.int .i64 a0.Lo, .int .i64 a0.Hi], .agg #[.int .i64 a1.Lo, .int .i64 a1.Hi]]) 17 Tryd.func28 rfl (by kernel_rfl) (by kernel_rfl) fun a H => ?_
  unfold interval_Subset at G
  refine k_seq ?_
  refine k_reg mixed H (.cons [2, 17] (ok_new (fun b => .pointer (some ⟨b, 0, none⟩)) (fun ν1 => [.int .i64 a0.Lo, .int .i64 a0.Hi]) 23 2 17) <|
      .cons [3, 18] (ok_new (fun b => .pointer (some ⟨b, 0, none⟩)) (fun ν1 => [.int .i64 a1.Lo, .int .i64 a1.Hi]) 23 3 18) <|
      .cons [4] (ok_val (fun ν1 => .bool false) 4) <| .nil) (by kernel_rfl) fun ν1 a w' H => ?_
  replace H := H.toL [(2, .slot true (.pointer (some ⟨((ν1 0).n 0), 0, none⟩))), (3, .slot true (.pointer (some ⟨((ν1 1).n 0), 0, none⟩))), (4, .slot true (.bool false)), (17, .blk ((ν1 0).n 0) [.int .i64 a0.Lo, .int .i64 a0.Hi] 23), (18, .blk ((ν1 1).n 0) [.int .i64 a1.Lo, .int .i64 a1.Hi] 23)] (by kernel_rfl)
  refine k_seq ?_
  refine k_reg mixed H (.cons [5] (ok_val (fun ν2 => .pointer (some ⟨((ν1 1).n 0), 0, none⟩)) 5) <|
      .cons [6] (ok_ld (fun ν2 => .int .i64 a1.Lo) 6 18 0 1 (fun ν2 => ((ν1 1).n 0)) (fun ν2 => [.int .i64 a1.Lo, .int .i64 a1.Hi]) 23) <|
      .cons [7] (ok_val (fun ν2 => .pointer (some ⟨((ν1 0).n 0), 0, none⟩)) 7) <|
      .cons [8] (ok_ld (fun ν2 => .int .i64 a0.Lo) 8 17 0 1 (fun ν2 => ((ν1 0).n 0)) (fun ν2 => [.int .i64 a0.Lo, .int .i64 a0.Hi]) 23) <|
      .cons [9] (ok_val (fun ν2 => .bool (decide (a1.Lo ≤ a0.Lo))) 9) <|
      .cons [10] (ok_val (fun ν2 => .bool (decide (a1.Lo ≤ a0.Lo))) 10) <|
      .cons [11] (ok_valg (fun ν2 => .pointer (some ⟨((ν1 0).n 0), 1, none⟩)) (fun ν2 => ((decide (a1.Lo ≤ a0.Lo)) == true)) [true] 11) <|
      .cons [12] (ok_ldg (fun ν2 => .int .i64 a0.Hi) (fun ν2 => ((decide (a1.Lo ≤ a0.Lo)) == true)) [false] 12 17 1 1 (fun ν2 => ((ν1 0).n 0)) (fun ν2 => [.int .i64 a0.Lo, .int .i64 a0.Hi]) 23) <|
      .cons [13] (ok_valg (fun ν2 => .pointer (some ⟨((ν1 1).n 0), 1, none⟩)) (fun ν2 => ((decide (a1.Lo ≤ a0.Lo)) == true)) [true] 13) <|
      .cons [14] (ok_ldg (fun ν2 => .int .i64 a1.Hi) (fun ν2 => ((decide (a1.Lo ≤ a0.Lo)) == true)) [false] 14 18 1 1 (fun ν2 => ((ν1 1).n 0)) (fun ν2 => [.int .i64 a1.Lo, .int .i64 a1.Hi]) 23) <|
      .cons [15] (ok_valg (fun ν2 => .bool (decide (a0.Hi ≤ a1.Hi))) (fun ν2 => ((decide (a1.Lo ≤ a0.Lo)) == true)) [false, false] 15) <|
      .cons [16] (ok_and 10 15 (fun ν2 => true) (fun ν2 => true) (fun ν2 => decide (a1.Lo ≤ a0.Lo)) (fun ν2 => decide (a0.Hi ≤ a1.Hi)) 16) <|
      .cons [4] (ok_val (fun ν2 => .bool ((decide (a1.Lo ≤ a0.Lo)) && (decide (a0.Hi ≤ a1.Hi)))) 4) <| .nil) (by kernel_rfl) fun ν2 a w' H => ?_
  replace H := H.toL [(4, .slot true (.bool ((decide (a1.Lo ≤ a0.Lo)) && (decide (a0.Hi ≤ a1.Hi)))))] (by kernel_rfl)
  refine k_ret ?_
  obtain rfl := Option.some.inj G
  exact k_done0 H _ (by kernel_rfl) (by kernel_rfl)

set_option maxHeartbeats 4000000 in
theorem interval_Hull.calls (a0 : TInterval) (a1 : TInterval) (r : TInterval) (w : World) (G : interval_Hull a0 a1 = some r) :
    Calls Tryd.prog 29 #[.agg #[.int .i64 a0.Lo, .int .i64 a0.Hi], .agg #[.int .i64 a1.Lo, .int .i64 a1.Hi]] w fun e w' => e = .returned (.agg #[.int .i64 r.Lo, .int .i64 r.Hi]) ∧ Below w.heap.size w w' := by
  refine k_enter (args := [.agg #[.int .i64 a0.Lo, .int .i64 a0.Hi], .agg #[.int .i64 a1.Lo, .int .i64 a1.Hi]]) 16 Tryd.func29 rfl (by kernel_rfl) (by kernel_rfl) fun a H => ?_
  unfold interval_Hull at G
  refine k_seq ?_
  refine k_reg mixed H (.cons [2, 16] (ok_new (fun b => .pointer (some ⟨b, 0, none⟩)) (fun ν1 => [.int .i64 a0.Lo, .int .i64 a0.Hi]) 23 2 16) <|
      .cons [3, 17] (ok_new (fun b => .pointer (some ⟨b, 0, none⟩)) (fun ν1 => [.int .i64 a1.Lo, .int .i64 a1.Hi]) 23 3 17) <|
      .cons [4, 18] (ok_new (fun b => .pointer (some ⟨b, 0, none⟩)) (fun ν1 => [.int .i64 0, .int .i64 0]) 23 4 18) <| .nil) (by kernel_rfl) fun ν1 a w' H => ?_
  replace H := H.toL [(2, .slot true (.pointer (some ⟨((ν1 0).n 0), 0, none⟩))), (3, .slot true (.pointer (some ⟨((ν1 1).n 0), 0, none⟩))), (4, .slot true (.pointer (some ⟨((ν1 2).n 0), 0, none⟩))), (16, .blk ((ν1 0).n 0) [.int .i64 a0.Lo, .int .i64 a0.Hi] 23), (17, .blk ((ν1 1).n 0) [.int .i64 a1.Lo, .int .i64 a1.Hi] 23), (18, .blk ((ν1 2).n 0) [.int .i64 0, .int .i64 0] 23)] (by kernel_rfl)
  refine k_seq ?_
  refine k_reg mixed H (.cons [5] (ok_val (fun ν2 => .pointer (some ⟨((ν1 0).n 0), 0, none⟩)) 5) <|
      .cons [6] (ok_ld (fun ν2 => .int .i64 a0.Lo) 6 16 0 1 (fun ν2 => ((ν1 0).n 0)) (fun ν2 => [.int .i64 a0.Lo, .int .i64 a0.Hi]) 23) <|
      .cons [7] (ok_val (fun ν2 => .pointer (some ⟨((ν1 1).n 0), 0, none⟩)) 7) <|
      .cons [8] (ok_ld (fun ν2 => .int .i64 a1.Lo) 8 17 0 1 (fun ν2 => ((ν1 1).n 0)) (fun ν2 => [.int .i64 a1.Lo, .int .i64 a1.Hi]) 23) <|
      .cons [9] (ok_val (fun ν2 => .int .i64 (mn a0.Lo a1.Lo)) 9) <|
      .cons [10] (ok_val (fun ν2 => .pointer (some ⟨((ν1 0).n 0), 1, none⟩)) 10) <|
      .cons [11] (ok_ld (fun ν2 => .int .i64 a0.Hi) 11 16 1 1 (fun ν2 => ((ν1 0).n 0)) (fun ν2 => [.int .i64 a0.Lo, .int .i64 a0.Hi]) 23) <|
      .cons [12] (ok_val (fun ν2 => .pointer (some ⟨((ν1 1).n 0), 1, none⟩)) 12) <|
      .cons [13] (ok_ld (fun ν2 => .int .i64 a1.Hi) 13 17 1 1 (fun ν2 => ((ν1 1).n 0)) (fun ν2 => [.int .i64 a1.Lo, .int .i64 a1.Hi]) 23) <|
      .cons [14] (ok_val (fun ν2 => .int .i64 (mx a0.Hi a1.Hi)) 14) <|
      .cons [15] (ok_val (fun ν2 => .agg #[.int .i64 (mn a0.Lo a1.Lo), .int .i64 (mx a0.Hi a1.Hi)]) 15) <|
      .cons [18] (ok_as (u' := fun ν2 => [(18, .blk ((ν1 2).n 0) [.int .i64 (mn a0.Lo a1.Lo), .int .i64 (mx a0.Hi a1.Hi)] 23)]) (ok_store 18 0 (fun ν2 => ((ν1 2).n 0)) (fun ν2 => [.int .i64 0, .int .i64 0]) (fun ν2 => [.int .i64 (mn a0.Lo a1.Lo), .int .i64 (mx a0.Hi a1.Hi)]) 23) (fun _ => by kernel_rfl)) <| .nil) (by kernel_rfl) fun ν2 a w' H => ?_
  replace H := H.toL [(4, .slot true (.pointer (some ⟨((ν1 2).n 0), 0, none⟩))), (18, .blk ((ν1 2).n 0) [.int .i64 (mn a0.Lo a1.Lo), .int .i64 (mx a0.Hi a1.Hi)] 23)] (by kernel_rfl)
  refine k_ret ?_
  obtain rfl := Option.some.inj G
  exact k_done1 H _ 18 ((ν1 2).n 0) [.int .i64 (mn a0.Lo a1.Lo), .int .i64 (mx a0.Hi a1.Hi)] 23 0 2 (by kernel_rfl) (by kernel_rfl) (by kernel_rfl) (by kernel_rfl)

end Go.Proofs.YtmjnbhigomjjnaaDoor
