/- The law IntervalSubdistributive answers as the plain Lean function of its name. Printed by a program of this session. -/
import Derived.Test.YtmjnbhigomjjnaaDoorFn2
set_option linter.unusedVariables false
set_option maxRecDepth 100000
namespace Go.Proofs.YtmjnbhigomjjnaaDoor
open Go Go.RowKit Go.Sx Go.Proofs
set_option maxHeartbeats 4000000 in
theorem armillarylaw02_IntervalSubdistributive.calls (k0 : Nat) (a0 : TOperands) (a1 : TInterval) (r : Bool) (w : World) (hg : Glob w) (G : armillarylaw02_IntervalSubdistributive k0 a0 a1 = some r) :
    Calls Tryd.prog 6 #[.agg #[.int .i64 a0.A.Lo, .int .i64 a0.A.Hi, .int .i64 a0.B.Lo, .int .i64 a0.B.Hi, .int .i32 a0.N, .int .u16 a0.D], .agg #[.int .i64 a1.Lo, .int .i64 a1.Hi]] w fun e w' => e = .returned (.bool r) ∧ Below w.heap.size w w' := by
  refine k_enterG (args := [.agg #[.int .i64 a0.A.Lo, .int .i64 a0.A.Hi, .int .i64 a0.B.Lo, .int .i64 a0.B.Hi, .int .i32 a0.N, .int .u16 a0.D], .agg #[.int .i64 a1.Lo, .int .i64 a1.Hi]]) 58 999999 globFp Glob (glob_local hg) (glob_in hg) Tryd.func6 rfl (by kernel_rfl) (by kernel_rfl) fun a H => ?_
  unfold armillarylaw02_IntervalSubdistributive at G
  refine k_seq ?_
  refine k_reg mixed H (.cons [2, 58] (ok_new (fun b => .pointer (some ⟨b, 0, none⟩)) (fun ν1 => [.int .i64 a0.A.Lo, .int .i64 a0.A.Hi, .int .i64 a0.B.Lo, .int .i64 a0.B.Hi, .int .i32 a0.N, .int .u16 a0.D]) 26 2 58) <|
      .cons [3, 59] (ok_new (fun b => .pointer (some ⟨b, 0, none⟩)) (fun ν1 => [.int .i64 a1.Lo, .int .i64 a1.Hi]) 23 3 59) <|
      .cons [4] (ok_val (fun ν1 => .bool false) 4) <| .nil) (by kernel_rfl) fun ν1 a w' H => ?_
  replace H := H.toL [(2, .slot true (.pointer (some ⟨((ν1 0).n 0), 0, none⟩))), (3, .slot true (.pointer (some ⟨((ν1 1).n 0), 0, none⟩))), (4, .slot true (.bool false)), (58, .blk ((ν1 0).n 0) [.int .i64 a0.A.Lo, .int .i64 a0.A.Hi, .int .i64 a0.B.Lo, .int .i64 a0.B.Hi, .int .i32 a0.N, .int .u16 a0.D] 26), (59, .blk ((ν1 1).n 0) [.int .i64 a1.Lo, .int .i64 a1.Hi] 23), (999999, gk)] (by kernel_rfl)
  refine k_seq ?_
  replace G := bnd G; obtain ⟨t3, ht3, G⟩ := G
  refine k_reg mixed H (.cons [10] (ok_callvG 999999 gk 11 (fun ν2 => #[]) (.bool t3) 10 (fun _ w hg => armillarylaw02_sanity.calls k0 t3 w (glob_of hg) ht3)) <|
      .cons [5] (ok_val (fun ν2 => .bool t3) 5) <| .nil) (by kernel_rfl) fun ν2 a w' H => ?_
  replace H := H.toL [(2, .slot true (.pointer (some ⟨((ν1 0).n 0), 0, none⟩))), (3, .slot true (.pointer (some ⟨((ν1 1).n 0), 0, none⟩))), (4, .slot true (.bool false)), (5, .slot true (.bool t3)), (58, .blk ((ν1 0).n 0) [.int .i64 a0.A.Lo, .int .i64 a0.A.Hi, .int .i64 a0.B.Lo, .int .i64 a0.B.Hi, .int .i32 a0.N, .int .u16 a0.D] 26), (59, .blk ((ν1 1).n 0) [.int .i64 a1.Lo, .int .i64 a1.Hi] 23), (999999, gk)] (by kernel_rfl)
  refine k_seq ?_
  replace G := bnd G; obtain ⟨t5, ht5, G⟩ := G
  replace G := bnd G; obtain ⟨t6, ht6, G⟩ := G
  replace G := bnd G; obtain ⟨t7, ht7, G⟩ := G
  refine k_reg mixed H (.cons [11] (ok_val (fun ν4 => .pointer (some ⟨((ν1 0).n 0), 0, none⟩)) 11) <|
      .cons [12] (ok_ld (fun ν4 => .agg #[.int .i64 a0.A.Lo, .int .i64 a0.A.Hi]) 12 58 0 2 (fun ν4 => ((ν1 0).n 0)) (fun ν4 => [.int .i64 a0.A.Lo, .int .i64 a0.A.Hi, .int .i64 a0.B.Lo, .int .i64 a0.B.Hi, .int .i32 a0.N, .int .u16 a0.D]) 26) <|
      .cons [13] (ok_callv 12 (fun ν4 => #[.agg #[.int .i64 a0.A.Lo, .int .i64 a0.A.Hi]]) (.agg #[.int .i64 t5.Lo, .int .i64 t5.Hi]) 13 [] (fun _ w _ => armillaryref02_Made.calls (⟨a0.A.Lo, a0.A.Hi⟩ : TInterval) t5 w ht5)) <|
      .cons [14] (ok_val (fun ν4 => .pointer (some ⟨((ν1 0).n 0), 2, none⟩)) 14) <|
      .cons [15] (ok_ld (fun ν4 => .agg #[.int .i64 a0.B.Lo, .int .i64 a0.B.Hi]) 15 58 2 2 (fun ν4 => ((ν1 0).n 0)) (fun ν4 => [.int .i64 a0.A.Lo, .int .i64 a0.A.Hi, .int .i64 a0.B.Lo, .int .i64 a0.B.Hi, .int .i32 a0.N, .int .u16 a0.D]) 26) <|
      .cons [16] (ok_callv 12 (fun ν4 => #[.agg #[.int .i64 a0.B.Lo, .int .i64 a0.B.Hi]]) (.agg #[.int .i64 t6.Lo, .int .i64 t6.Hi]) 16 [] (fun _ w _ => armillaryref02_Made.calls (⟨a0.B.Lo, a0.B.Hi⟩ : TInterval) t6 w ht6)) <|
      .cons [17] (ok_ld (fun ν4 => .agg #[.int .i64 a1.Lo, .int .i64 a1.Hi]) 17 59 0 2 (fun ν4 => ((ν1 1).n 0)) (fun ν4 => [.int .i64 a1.Lo, .int .i64 a1.Hi]) 23) <|
      .cons [18] (ok_callv 12 (fun ν4 => #[.agg #[.int .i64 a1.Lo, .int .i64 a1.Hi]]) (.agg #[.int .i64 t7.Lo, .int .i64 t7.Hi]) 18 [] (fun _ w _ => armillaryref02_Made.calls a1 t7 w ht7)) <|
      .cons [6, 60] (ok_new (fun b => .pointer (some ⟨b, 0, none⟩)) (fun ν4 => [.int .i64 0, .int .i64 0]) 23 6 60) <|
      .cons [7, 61] (ok_new (fun b => .pointer (some ⟨b, 0, none⟩)) (fun ν4 => [.int .i64 0, .int .i64 0]) 23 7 61) <|
      .cons [8, 62] (ok_new (fun b => .pointer (some ⟨b, 0, none⟩)) (fun ν4 => [.int .i64 0, .int .i64 0]) 23 8 62) <|
      .cons [60] (ok_as (u' := fun ν4 => [(60, .blk ((ν4 8).n 0) [.int .i64 t5.Lo, .int .i64 t5.Hi] 23)]) (ok_store 60 0 (fun ν4 => ((ν4 8).n 0)) (fun ν4 => [.int .i64 0, .int .i64 0]) (fun ν4 => [.int .i64 t5.Lo, .int .i64 t5.Hi]) 23) (fun _ => by kernel_rfl)) <|
      .cons [61] (ok_as (u' := fun ν4 => [(61, .blk ((ν4 9).n 0) [.int .i64 t6.Lo, .int .i64 t6.Hi] 23)]) (ok_store 61 0 (fun ν4 => ((ν4 9).n 0)) (fun ν4 => [.int .i64 0, .int .i64 0]) (fun ν4 => [.int .i64 t6.Lo, .int .i64 t6.Hi]) 23) (fun _ => by kernel_rfl)) <|
      .cons [62] (ok_as (u' := fun ν4 => [(62, .blk ((ν4 10).n 0) [.int .i64 t7.Lo, .int .i64 t7.Hi] 23)]) (ok_store 62 0 (fun ν4 => ((ν4 10).n 0)) (fun ν4 => [.int .i64 0, .int .i64 0]) (fun ν4 => [.int .i64 t7.Lo, .int .i64 t7.Hi]) 23) (fun _ => by kernel_rfl)) <| .nil) (by kernel_rfl) fun ν4 a w' H => ?_
  replace H := H.toL [(4, .slot true (.bool false)), (5, .slot true (.bool t3)), (6, .slot true (.pointer (some ⟨((ν4 8).n 0), 0, none⟩))), (7, .slot true (.pointer (some ⟨((ν4 9).n 0), 0, none⟩))), (8, .slot true (.pointer (some ⟨((ν4 10).n 0), 0, none⟩))), (60, .blk ((ν4 8).n 0) [.int .i64 t5.Lo, .int .i64 t5.Hi] 23), (61, .blk ((ν4 9).n 0) [.int .i64 t6.Lo, .int .i64 t6.Hi] 23), (62, .blk ((ν4 10).n 0) [.int .i64 t7.Lo, .int .i64 t7.Hi] 23), (999999, gk)] (by kernel_rfl)
  refine k_seq ?_
  replace G := bnd G; obtain ⟨t9, ht9, G⟩ := G
  refine k_reg mixed H (.cons [19] (ok_ld (fun ν8 => .agg #[.int .i64 t6.Lo, .int .i64 t6.Hi]) 19 61 0 2 (fun ν8 => ((ν4 9).n 0)) (fun ν8 => [.int .i64 t6.Lo, .int .i64 t6.Hi]) 23) <|
      .cons [20] (ok_ld (fun ν8 => .agg #[.int .i64 t7.Lo, .int .i64 t7.Hi]) 20 62 0 2 (fun ν8 => ((ν4 10).n 0)) (fun ν8 => [.int .i64 t7.Lo, .int .i64 t7.Hi]) 23) <|
      .cons [21] (ok_callv 14 (fun ν8 => #[.agg #[.int .i64 t6.Lo, .int .i64 t6.Hi], .agg #[.int .i64 t7.Lo, .int .i64 t7.Hi]]) (.agg #[.int .i64 t9.Lo, .int .i64 t9.Hi]) 21 [] (fun _ w _ => interval_Add.calls t6 t7 t9 w ht9)) <|
      .cons [9, 63] (ok_new (fun b => .pointer (some ⟨b, 0, none⟩)) (fun ν8 => [.int .i64 0, .int .i64 0]) 23 9 63) <|
      .cons [63] (ok_as (u' := fun ν8 => [(63, .blk ((ν8 3).n 0) [.int .i64 t9.Lo, .int .i64 t9.Hi] 23)]) (ok_store 63 0 (fun ν8 => ((ν8 3).n 0)) (fun ν8 => [.int .i64 0, .int .i64 0]) (fun ν8 => [.int .i64 t9.Lo, .int .i64 t9.Hi]) 23) (fun _ => by kernel_rfl)) <| .nil) (by kernel_rfl) fun ν8 a w' H => ?_
  replace H := H.toL [(4, .slot true (.bool false)), (5, .slot true (.bool t3)), (6, .slot true (.pointer (some ⟨((ν4 8).n 0), 0, none⟩))), (7, .slot true (.pointer (some ⟨((ν4 9).n 0), 0, none⟩))), (8, .slot true (.pointer (some ⟨((ν4 10).n 0), 0, none⟩))), (9, .slot true (.pointer (some ⟨((ν8 3).n 0), 0, none⟩))), (60, .blk ((ν4 8).n 0) [.int .i64 t5.Lo, .int .i64 t5.Hi] 23), (61, .blk ((ν4 9).n 0) [.int .i64 t6.Lo, .int .i64 t6.Hi] 23), (62, .blk ((ν4 10).n 0) [.int .i64 t7.Lo, .int .i64 t7.Hi] 23), (63, .blk ((ν8 3).n 0) [.int .i64 t9.Lo, .int .i64 t9.Hi] 23), (999999, gk)] (by kernel_rfl)
  refine k_seq ?_
  refine k_seq ?_
  replace G := bnd G; obtain ⟨t11, ht11, G⟩ := G
  replace G := bnd G; obtain ⟨t12, ht12, G⟩ := G
  refine k_reg mixed H (.cons [22] (ok_ld (fun ν10 => .agg #[.int .i64 t5.Lo, .int .i64 t5.Hi]) 22 60 0 2 (fun ν10 => ((ν4 8).n 0)) (fun ν10 => [.int .i64 t5.Lo, .int .i64 t5.Hi]) 23) <|
      .cons [23] (ok_callv 13 (fun ν10 => #[.agg #[.int .i64 t5.Lo, .int .i64 t5.Hi]]) (.bool t11) 23 [] (fun _ w _ => armillaryref02_IsEntire.calls t5 t11 w ht11)) <|
      .cons [24] (ok_val (fun ν10 => .bool t11) 24) <|
      .cons [25] (ok_ldg (fun ν10 => .agg #[.int .i64 t9.Lo, .int .i64 t9.Hi]) (fun ν10 => (t11 == false)) [true] 25 63 0 2 (fun ν10 => ((ν8 3).n 0)) (fun ν10 => [.int .i64 t9.Lo, .int .i64 t9.Hi]) 23) <|
      .cons [26] (ok_call 13 (fun ν10 => #[.agg #[.int .i64 t9.Lo, .int .i64 t9.Hi]]) (.bool t12) (fun ν10 => (t11 == false)) [true, false] 26 [] (fun _ w hg _ => armillaryref02_IsEntire.calls t9 t12 w (ifp ht12 hg))) <|
      .cons [27] (ok_or 24 26 (fun ν10 => true) (fun ν10 => true) (fun ν10 => t11) (fun ν10 => t12) 27) <| .nil) (by kernel_rfl) fun ν10 a w' H => ?_
  replace H := H.toL [(4, .slot true (.bool false)), (5, .slot true (.bool t3)), (6, .slot true (.pointer (some ⟨((ν4 8).n 0), 0, none⟩))), (7, .slot true (.pointer (some ⟨((ν4 9).n 0), 0, none⟩))), (8, .slot true (.pointer (some ⟨((ν4 10).n 0), 0, none⟩))), (9, .slot true (.pointer (some ⟨((ν8 3).n 0), 0, none⟩))), (27, .slot true (.bool (t11 || t12))), (60, .blk ((ν4 8).n 0) [.int .i64 t5.Lo, .int .i64 t5.Hi] 23), (61, .blk ((ν4 9).n 0) [.int .i64 t6.Lo, .int .i64 t6.Hi] 23), (62, .blk ((ν4 10).n 0) [.int .i64 t7.Lo, .int .i64 t7.Hi] 23), (63, .blk ((ν8 3).n 0) [.int .i64 t9.Lo, .int .i64 t9.Hi] 23), (999999, gk)] (by kernel_rfl)
  refine k_cond H (by kernel_rfl) (t := (t11 || t12)) (by kernel_rfl) (fun c28 => ?_) (fun c28 => ?_)
  · rw [if_pos c28] at G
    refine k_seq ?_
    refine k_reg mixed H (.cons [28] (ok_val (fun ν13 => .bool t3) 28) <|
      .cons [4] (ok_val (fun ν13 => .bool t3) 4) <| .nil) (by kernel_rfl) fun ν13 a w' H => ?_
    replace H := H.toL [(4, .slot true (.bool t3)), (5, .slot true (.bool t3)), (6, .slot true (.pointer (some ⟨((ν4 8).n 0), 0, none⟩))), (7, .slot true (.pointer (some ⟨((ν4 9).n 0), 0, none⟩))), (8, .slot true (.pointer (some ⟨((ν4 10).n 0), 0, none⟩))), (9, .slot true (.pointer (some ⟨((ν8 3).n 0), 0, none⟩))), (60, .blk ((ν4 8).n 0) [.int .i64 t5.Lo, .int .i64 t5.Hi] 23), (61, .blk ((ν4 9).n 0) [.int .i64 t6.Lo, .int .i64 t6.Hi] 23), (62, .blk ((ν4 10).n 0) [.int .i64 t7.Lo, .int .i64 t7.Hi] 23), (63, .blk ((ν8 3).n 0) [.int .i64 t9.Lo, .int .i64 t9.Hi] 23), (999999, gk)] (by kernel_rfl)
    refine k_ret ?_
    obtain rfl := Option.some.inj G
    exact k_done0 H _ (by kernel_rfl) (by kernel_rfl)
  · rw [if_neg (nt c28)] at G
    refine k_skip ?_
    refine k_seq ?_
    refine k_seq ?_
    replace G := bnd G; obtain ⟨t15, ht15, G⟩ := G
    replace G := bnd G; obtain ⟨t16, ht16, G⟩ := G
    replace G := bnd G; obtain ⟨t17, ht17, G⟩ := G
    replace G := bnd G; obtain ⟨t18, ht18, G⟩ := G
    replace G := bnd G; obtain ⟨t19, ht19, G⟩ := G
    refine k_reg mixed H (.cons [29] (ok_ld (fun ν14 => .agg #[.int .i64 t5.Lo, .int .i64 t5.Hi]) 29 60 0 2 (fun ν14 => ((ν4 8).n 0)) (fun ν14 => [.int .i64 t5.Lo, .int .i64 t5.Hi]) 23) <|
      .cons [30] (ok_ld (fun ν14 => .agg #[.int .i64 t9.Lo, .int .i64 t9.Hi]) 30 63 0 2 (fun ν14 => ((ν8 3).n 0)) (fun ν14 => [.int .i64 t9.Lo, .int .i64 t9.Hi]) 23) <|
      .cons [31] (ok_callvG 999999 gk 15 (fun ν14 => #[.agg #[.int .i64 t5.Lo, .int .i64 t5.Hi], .agg #[.int .i64 t9.Lo, .int .i64 t9.Hi]]) (.agg #[.int .i64 t15.Lo, .int .i64 t15.Hi]) 31 (fun _ w hg => interval_Mul.calls t5 t9 t15 w (glob_of hg) ht15)) <|
      .cons [32] (ok_ld (fun ν14 => .agg #[.int .i64 t5.Lo, .int .i64 t5.Hi]) 32 60 0 2 (fun ν14 => ((ν4 8).n 0)) (fun ν14 => [.int .i64 t5.Lo, .int .i64 t5.Hi]) 23) <|
      .cons [33] (ok_ld (fun ν14 => .agg #[.int .i64 t6.Lo, .int .i64 t6.Hi]) 33 61 0 2 (fun ν14 => ((ν4 9).n 0)) (fun ν14 => [.int .i64 t6.Lo, .int .i64 t6.Hi]) 23) <|
      .cons [34] (ok_callvG 999999 gk 15 (fun ν14 => #[.agg #[.int .i64 t5.Lo, .int .i64 t5.Hi], .agg #[.int .i64 t6.Lo, .int .i64 t6.Hi]]) (.agg #[.int .i64 t16.Lo, .int .i64 t16.Hi]) 34 (fun _ w hg => interval_Mul.calls t5 t6 t16 w (glob_of hg) ht16)) <|
      .cons [35] (ok_ld (fun ν14 => .agg #[.int .i64 t5.Lo, .int .i64 t5.Hi]) 35 60 0 2 (fun ν14 => ((ν4 8).n 0)) (fun ν14 => [.int .i64 t5.Lo, .int .i64 t5.Hi]) 23) <|
      .cons [36] (ok_ld (fun ν14 => .agg #[.int .i64 t7.Lo, .int .i64 t7.Hi]) 36 62 0 2 (fun ν14 => ((ν4 10).n 0)) (fun ν14 => [.int .i64 t7.Lo, .int .i64 t7.Hi]) 23) <|
      .cons [37] (ok_callvG 999999 gk 15 (fun ν14 => #[.agg #[.int .i64 t5.Lo, .int .i64 t5.Hi], .agg #[.int .i64 t7.Lo, .int .i64 t7.Hi]]) (.agg #[.int .i64 t17.Lo, .int .i64 t17.Hi]) 37 (fun _ w hg => interval_Mul.calls t5 t7 t17 w (glob_of hg) ht17)) <|
      .cons [38] (ok_callv 14 (fun ν14 => #[.agg #[.int .i64 t16.Lo, .int .i64 t16.Hi], .agg #[.int .i64 t17.Lo, .int .i64 t17.Hi]]) (.agg #[.int .i64 t18.Lo, .int .i64 t18.Hi]) 38 [] (fun _ w _ => interval_Add.calls t16 t17 t18 w ht18)) <|
      .cons [39] (ok_callv 28 (fun ν14 => #[.agg #[.int .i64 t15.Lo, .int .i64 t15.Hi], .agg #[.int .i64 t18.Lo, .int .i64 t18.Hi]]) (.bool t19) 39 [] (fun _ w _ => interval_Subset.calls t15 t18 t19 w ht19)) <|
      .cons [40] (ok_val (fun ν14 => .bool (!t19)) 40) <| .nil) (by kernel_rfl) fun ν14 a w' H => ?_
    replace H := H.toL [(4, .slot true (.bool false)), (5, .slot true (.bool t3)), (6, .slot true (.pointer (some ⟨((ν4 8).n 0), 0, none⟩))), (7, .slot true (.pointer (some ⟨((ν4 9).n 0), 0, none⟩))), (8, .slot true (.pointer (some ⟨((ν4 10).n 0), 0, none⟩))), (9, .slot true (.pointer (some ⟨((ν8 3).n 0), 0, none⟩))), (40, .slot true (.bool (!t19))), (60, .blk ((ν4 8).n 0) [.int .i64 t5.Lo, .int .i64 t5.Hi] 23), (61, .blk ((ν4 9).n 0) [.int .i64 t6.Lo, .int .i64 t6.Hi] 23), (62, .blk ((ν4 10).n 0) [.int .i64 t7.Lo, .int .i64 t7.Hi] 23), (63, .blk ((ν8 3).n 0) [.int .i64 t9.Lo, .int .i64 t9.Hi] 23), (999999, gk)] (by kernel_rfl)
    refine k_cond H (by kernel_rfl) (t := (!t19)) (by kernel_rfl) (fun c27 => ?_) (fun c27 => ?_)
    · rw [if_pos c27] at G
      refine k_seq ?_
      refine k_reg mixed H (.cons [4] (ok_val (fun ν20 => .bool false) 4) <| .nil) (by kernel_rfl) fun ν20 a w' H => ?_
      replace H := H.toL [(4, .slot true (.bool false)), (5, .slot true (.bool t3)), (6, .slot true (.pointer (some ⟨((ν4 8).n 0), 0, none⟩))), (7, .slot true (.pointer (some ⟨((ν4 9).n 0), 0, none⟩))), (8, .slot true (.pointer (some ⟨((ν4 10).n 0), 0, none⟩))), (9, .slot true (.pointer (some ⟨((ν8 3).n 0), 0, none⟩))), (60, .blk ((ν4 8).n 0) [.int .i64 t5.Lo, .int .i64 t5.Hi] 23), (61, .blk ((ν4 9).n 0) [.int .i64 t6.Lo, .int .i64 t6.Hi] 23), (62, .blk ((ν4 10).n 0) [.int .i64 t7.Lo, .int .i64 t7.Hi] 23), (63, .blk ((ν8 3).n 0) [.int .i64 t9.Lo, .int .i64 t9.Hi] 23), (999999, gk)] (by kernel_rfl)
      refine k_ret ?_
      obtain rfl := Option.some.inj G
      exact k_done0 H _ (by kernel_rfl) (by kernel_rfl)
    · rw [if_neg (nt c27)] at G
      refine k_skip ?_
      refine k_seq ?_
      replace G := bnd G; obtain ⟨t22, ht22, G⟩ := G
      replace G := bnd G; obtain ⟨t23, ht23, G⟩ := G
      replace G := bnd G; obtain ⟨t24, ht24, G⟩ := G
      replace G := bnd G; obtain ⟨t25, ht25, G⟩ := G
      replace G := bnd G; obtain ⟨t26, ht26, G⟩ := G
      refine k_reg mixed H (.cons [41] (ok_ld (fun ν21 => .agg #[.int .i64 t5.Lo, .int .i64 t5.Hi]) 41 60 0 2 (fun ν21 => ((ν4 8).n 0)) (fun ν21 => [.int .i64 t5.Lo, .int .i64 t5.Hi]) 23) <|
      .cons [42] (ok_ld (fun ν21 => .agg #[.int .i64 t5.Lo, .int .i64 t5.Hi]) 42 60 0 2 (fun ν21 => ((ν4 8).n 0)) (fun ν21 => [.int .i64 t5.Lo, .int .i64 t5.Hi]) 23) <|
      .cons [43] (ok_ld (fun ν21 => .agg #[.int .i64 t6.Lo, .int .i64 t6.Hi]) 43 61 0 2 (fun ν21 => ((ν4 9).n 0)) (fun ν21 => [.int .i64 t6.Lo, .int .i64 t6.Hi]) 23) <|
      .cons [44] (ok_callvG 999999 gk 15 (fun ν21 => #[.agg #[.int .i64 t5.Lo, .int .i64 t5.Hi], .agg #[.int .i64 t6.Lo, .int .i64 t6.Hi]]) (.agg #[.int .i64 t22.Lo, .int .i64 t22.Hi]) 44 (fun _ w hg => interval_Mul.calls t5 t6 t22 w (glob_of hg) ht22)) <|
      .cons [45] (ok_ld (fun ν21 => .agg #[.int .i64 t6.Lo, .int .i64 t6.Hi]) 45 61 0 2 (fun ν21 => ((ν4 9).n 0)) (fun ν21 => [.int .i64 t6.Lo, .int .i64 t6.Hi]) 23) <|
      .cons [46] (ok_callvG 999999 gk 16 (fun ν21 => #[.agg #[.int .i64 t22.Lo, .int .i64 t22.Hi], .agg #[.int .i64 t6.Lo, .int .i64 t6.Hi]]) (.agg #[.int .i64 t23.Lo, .int .i64 t23.Hi]) 46 (fun _ w hg => interval_Div.calls t22 t6 t23 w (glob_of hg) ht23)) <|
      .cons [47] (ok_callv 28 (fun ν21 => #[.agg #[.int .i64 t5.Lo, .int .i64 t5.Hi], .agg #[.int .i64 t23.Lo, .int .i64 t23.Hi]]) (.bool t24) 47 [] (fun _ w _ => interval_Subset.calls t5 t23 t24 w ht24)) <|
      .cons [48] (ok_val (fun ν21 => .bool t24) 48) <|
      .cons [49] (ok_ldg (fun ν21 => .agg #[.int .i64 t6.Lo, .int .i64 t6.Hi]) (fun ν21 => (t24 == true)) [true] 49 61 0 2 (fun ν21 => ((ν4 9).n 0)) (fun ν21 => [.int .i64 t6.Lo, .int .i64 t6.Hi]) 23) <|
      .cons [50] (ok_ldg (fun ν21 => .agg #[.int .i64 t9.Lo, .int .i64 t9.Hi]) (fun ν21 => (t24 == true)) [true] 50 63 0 2 (fun ν21 => ((ν8 3).n 0)) (fun ν21 => [.int .i64 t9.Lo, .int .i64 t9.Hi]) 23) <|
      .cons [51] (ok_ldg (fun ν21 => .agg #[.int .i64 t7.Lo, .int .i64 t7.Hi]) (fun ν21 => (t24 == true)) [true] 51 62 0 2 (fun ν21 => ((ν4 10).n 0)) (fun ν21 => [.int .i64 t7.Lo, .int .i64 t7.Hi]) 23) <|
      .cons [52] (ok_call 20 (fun ν21 => #[.agg #[.int .i64 t9.Lo, .int .i64 t9.Hi], .agg #[.int .i64 t7.Lo, .int .i64 t7.Hi]]) (.agg #[.int .i64 t25.Lo, .int .i64 t25.Hi]) (fun ν21 => (t24 == true)) [true, false, false] 52 [] (fun _ w hg _ => interval_Sub.calls t9 t7 t25 w (ifp ht25 hg))) <|
      .cons [53] (ok_call 28 (fun ν21 => #[.agg #[.int .i64 t6.Lo, .int .i64 t6.Hi], .agg #[.int .i64 t25.Lo, .int .i64 t25.Hi]]) (.bool t26) (fun ν21 => (t24 == true)) [true, false, false] 53 [] (fun _ w hg _ => interval_Subset.calls t6 t25 t26 w (ifp ht26 hg))) <|
      .cons [54] (ok_and 48 53 (fun ν21 => true) (fun ν21 => true) (fun ν21 => t24) (fun ν21 => t26) 54) <|
      .cons [55] (ok_val (fun ν21 => .bool (t24 && t26)) 55) <|
      .cons [56] (ok_valg (fun ν21 => .bool t3) (fun ν21 => ((t24 && t26) == true)) [true] 56) <|
      .cons [57] (ok_and 55 56 (fun ν21 => true) (fun ν21 => true) (fun ν21 => (t24 && t26)) (fun ν21 => t3) 57) <|
      .cons [4] (ok_val (fun ν21 => .bool ((t24 && t26) && t3)) 4) <| .nil) (by kernel_rfl) fun ν21 a w' H => ?_
      replace H := H.toL [(4, .slot true (.bool ((t24 && t26) && t3))), (999999, gk)] (by kernel_rfl)
      refine k_ret ?_
      obtain rfl := Option.some.inj G
      exact k_done0 H _ (by kernel_rfl) (by kernel_rfl)

end Go.Proofs.YtmjnbhigomjjnaaDoor
