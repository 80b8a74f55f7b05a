/- The law IntervalIsotonic answers as the plain Lean function of its name. Printed by a program of this session. -/
import Derived.Test.YtmjnbhigomjjnaaDoorFn2
set_option linter.unusedVariables false
set_option maxRecDepth 100000
namespace Go.Proofs.YtmjnbhigomjjnaaDoor
open Go Go.RowKit Go.Sx Go.Proofs
set_option maxHeartbeats 4000000 in
theorem armillarylaw02_IntervalIsotonic.calls (k0 : Nat) (a0 : TOperands) (a1 : TA2_Int) (a2 : TA2_Int) (r : Bool) (w : World) (hg : Glob w) (G : armillarylaw02_IntervalIsotonic k0 a0 a1 a2 = some r) :
    Calls Tryd.prog 5 #[.agg #[.int .i64 a0.A.Lo, .int .i64 a0.A.Hi, .int .i64 a0.B.Lo, .int .i64 a0.B.Hi, .int .i32 a0.N, .int .u16 a0.D], .agg #[.int .u32 a1.e0, .int .u32 a1.e1], .agg #[.int .u32 a2.e0, .int .u32 a2.e1]] w fun e w' => e = .returned (.bool r) ∧ Below w.heap.size w w' := by
  refine k_enterG (args := [.agg #[.int .i64 a0.A.Lo, .int .i64 a0.A.Hi, .int .i64 a0.B.Lo, .int .i64 a0.B.Hi, .int .i32 a0.N, .int .u16 a0.D], .agg #[.int .u32 a1.e0, .int .u32 a1.e1], .agg #[.int .u32 a2.e0, .int .u32 a2.e1]]) 167 999999 globFp Glob (glob_local hg) (glob_in hg) Tryd.func5 rfl (by kernel_rfl) (by kernel_rfl) fun a H => ?_
  unfold armillarylaw02_IntervalIsotonic at G
  refine k_seq ?_
  refine k_reg mixed H (.cons [3, 167] (ok_new (fun b => .pointer (some ⟨b, 0, none⟩)) (fun ν1 => [.int .i64 a0.A.Lo, .int .i64 a0.A.Hi, .int .i64 a0.B.Lo, .int .i64 a0.B.Hi, .int .i32 a0.N, .int .u16 a0.D]) 26 3 167) <|
      .cons [4, 168] (ok_new (fun b => .pointer (some ⟨b, 0, none⟩)) (fun ν1 => [.int .u32 a1.e0, .int .u32 a1.e1]) 43 4 168) <|
      .cons [5, 169] (ok_new (fun b => .pointer (some ⟨b, 0, none⟩)) (fun ν1 => [.int .u32 a2.e0, .int .u32 a2.e1]) 43 5 169) <|
      .cons [6] (ok_val (fun ν1 => .bool false) 6) <| .nil) (by kernel_rfl) fun ν1 a w' H => ?_
  replace H := H.toL [(3, .slot true (.pointer (some ⟨((ν1 0).n 0), 0, none⟩))), (4, .slot true (.pointer (some ⟨((ν1 1).n 0), 0, none⟩))), (5, .slot true (.pointer (some ⟨((ν1 2).n 0), 0, none⟩))), (6, .slot true (.bool false)), (167, .blk ((ν1 0).n 0) [.int .i64 a0.A.Lo, .int .i64 a0.A.Hi, .int .i64 a0.B.Lo, .int .i64 a0.B.Hi, .int .i32 a0.N, .int .u16 a0.D] 26), (168, .blk ((ν1 1).n 0) [.int .u32 a1.e0, .int .u32 a1.e1] 43), (169, .blk ((ν1 2).n 0) [.int .u32 a2.e0, .int .u32 a2.e1] 43), (999999, gk)] (by kernel_rfl)
  refine k_seq ?_
  replace G := bnd G; obtain ⟨t3, ht3, G⟩ := G
  refine k_reg mixed H (.cons [22] (ok_callvG 999999 gk 11 (fun ν2 => #[]) (.bool t3) 22 (fun _ w hg => armillarylaw02_sanity.calls k0 t3 w (glob_of hg) ht3)) <|
      .cons [7] (ok_val (fun ν2 => .bool t3) 7) <| .nil) (by kernel_rfl) fun ν2 a w' H => ?_
  replace H := H.toL [(3, .slot true (.pointer (some ⟨((ν1 0).n 0), 0, none⟩))), (4, .slot true (.pointer (some ⟨((ν1 1).n 0), 0, none⟩))), (5, .slot true (.pointer (some ⟨((ν1 2).n 0), 0, none⟩))), (6, .slot true (.bool false)), (7, .slot true (.bool t3)), (167, .blk ((ν1 0).n 0) [.int .i64 a0.A.Lo, .int .i64 a0.A.Hi, .int .i64 a0.B.Lo, .int .i64 a0.B.Hi, .int .i32 a0.N, .int .u16 a0.D] 26), (168, .blk ((ν1 1).n 0) [.int .u32 a1.e0, .int .u32 a1.e1] 43), (169, .blk ((ν1 2).n 0) [.int .u32 a2.e0, .int .u32 a2.e1] 43), (999999, gk)] (by kernel_rfl)
  refine k_seq ?_
  replace G := bnd G; obtain ⟨t5, ht5, G⟩ := G
  replace G := bnd G; obtain ⟨t6, ht6, G⟩ := G
  refine k_reg mixed H (.cons [23] (ok_val (fun ν4 => .pointer (some ⟨((ν1 0).n 0), 0, none⟩)) 23) <|
      .cons [24] (ok_ld (fun ν4 => .agg #[.int .i64 a0.A.Lo, .int .i64 a0.A.Hi]) 24 167 0 2 (fun ν4 => ((ν1 0).n 0)) (fun ν4 => [.int .i64 a0.A.Lo, .int .i64 a0.A.Hi, .int .i64 a0.B.Lo, .int .i64 a0.B.Hi, .int .i32 a0.N, .int .u16 a0.D]) 26) <|
      .cons [25] (ok_callv 12 (fun ν4 => #[.agg #[.int .i64 a0.A.Lo, .int .i64 a0.A.Hi]]) (.agg #[.int .i64 t5.Lo, .int .i64 t5.Hi]) 25 [] (fun _ w _ => armillaryref02_Made.calls (⟨a0.A.Lo, a0.A.Hi⟩ : TInterval) t5 w ht5)) <|
      .cons [26] (ok_val (fun ν4 => .pointer (some ⟨((ν1 0).n 0), 2, none⟩)) 26) <|
      .cons [27] (ok_ld (fun ν4 => .agg #[.int .i64 a0.B.Lo, .int .i64 a0.B.Hi]) 27 167 2 2 (fun ν4 => ((ν1 0).n 0)) (fun ν4 => [.int .i64 a0.A.Lo, .int .i64 a0.A.Hi, .int .i64 a0.B.Lo, .int .i64 a0.B.Hi, .int .i32 a0.N, .int .u16 a0.D]) 26) <|
      .cons [28] (ok_callv 12 (fun ν4 => #[.agg #[.int .i64 a0.B.Lo, .int .i64 a0.B.Hi]]) (.agg #[.int .i64 t6.Lo, .int .i64 t6.Hi]) 28 [] (fun _ w _ => armillaryref02_Made.calls (⟨a0.B.Lo, a0.B.Hi⟩ : TInterval) t6 w ht6)) <|
      .cons [8, 170] (ok_new (fun b => .pointer (some ⟨b, 0, none⟩)) (fun ν4 => [.int .i64 0, .int .i64 0]) 23 8 170) <|
      .cons [9, 171] (ok_new (fun b => .pointer (some ⟨b, 0, none⟩)) (fun ν4 => [.int .i64 0, .int .i64 0]) 23 9 171) <|
      .cons [170] (ok_as (u' := fun ν4 => [(170, .blk ((ν4 6).n 0) [.int .i64 t5.Lo, .int .i64 t5.Hi] 23)]) (ok_store 170 0 (fun ν4 => ((ν4 6).n 0)) (fun ν4 => [.int .i64 0, .int .i64 0]) (fun ν4 => [.int .i64 t5.Lo, .int .i64 t5.Hi]) 23) (fun _ => by kernel_rfl)) <|
      .cons [171] (ok_as (u' := fun ν4 => [(171, .blk ((ν4 7).n 0) [.int .i64 t6.Lo, .int .i64 t6.Hi] 23)]) (ok_store 171 0 (fun ν4 => ((ν4 7).n 0)) (fun ν4 => [.int .i64 0, .int .i64 0]) (fun ν4 => [.int .i64 t6.Lo, .int .i64 t6.Hi]) 23) (fun _ => by kernel_rfl)) <| .nil) (by kernel_rfl) fun ν4 a w' H => ?_
  replace H := H.toL [(3, .slot true (.pointer (some ⟨((ν1 0).n 0), 0, none⟩))), (4, .slot true (.pointer (some ⟨((ν1 1).n 0), 0, none⟩))), (5, .slot true (.pointer (some ⟨((ν1 2).n 0), 0, none⟩))), (6, .slot true (.bool false)), (7, .slot true (.bool t3)), (8, .slot true (.pointer (some ⟨((ν4 6).n 0), 0, none⟩))), (9, .slot true (.pointer (some ⟨((ν4 7).n 0), 0, none⟩))), (167, .blk ((ν1 0).n 0) [.int .i64 a0.A.Lo, .int .i64 a0.A.Hi, .int .i64 a0.B.Lo, .int .i64 a0.B.Hi, .int .i32 a0.N, .int .u16 a0.D] 26), (168, .blk ((ν1 1).n 0) [.int .u32 a1.e0, .int .u32 a1.e1] 43), (169, .blk ((ν1 2).n 0) [.int .u32 a2.e0, .int .u32 a2.e1] 43), (170, .blk ((ν4 6).n 0) [.int .i64 t5.Lo, .int .i64 t5.Hi] 23), (171, .blk ((ν4 7).n 0) [.int .i64 t6.Lo, .int .i64 t6.Hi] 23), (999999, gk)] (by kernel_rfl)
  refine k_seq ?_
  replace G := bnd G; obtain ⟨t8, ht8, G⟩ := G
  replace G := bnd G; obtain ⟨t9, ht9, G⟩ := G
  refine k_reg mixed H (.cons [29] (ok_ld (fun ν7 => .agg #[.int .i64 t5.Lo, .int .i64 t5.Hi]) 29 170 0 2 (fun ν7 => ((ν4 6).n 0)) (fun ν7 => [.int .i64 t5.Lo, .int .i64 t5.Hi]) 23) <|
      .cons [30] (ok_val (fun ν7 => .pointer (some ⟨((ν1 1).n 0), 0, none⟩)) 30) <|
      .cons [31] (ok_ld (fun ν7 => .int .u32 a1.e0) 31 168 0 1 (fun ν7 => ((ν1 1).n 0)) (fun ν7 => [.int .u32 a1.e0, .int .u32 a1.e1]) 43) <|
      .cons [32] (ok_val (fun ν7 => .pointer (some ⟨((ν1 2).n 0), 0, none⟩)) 32) <|
      .cons [33] (ok_ld (fun ν7 => .int .u32 a2.e0) 33 169 0 1 (fun ν7 => ((ν1 2).n 0)) (fun ν7 => [.int .u32 a2.e0, .int .u32 a2.e1]) 43) <|
      .cons [34] (ok_callv 27 (fun ν7 => #[.agg #[.int .i64 t5.Lo, .int .i64 t5.Hi], .int .u32 a1.e0, .int .u32 a2.e0]) (.agg #[.int .i64 t8.Lo, .int .i64 t8.Hi]) 34 [] (fun _ w _ => armillarylaw02_widen.calls t5 a1.e0 a2.e0 t8 w ht8)) <|
      .cons [35] (ok_ld (fun ν7 => .agg #[.int .i64 t6.Lo, .int .i64 t6.Hi]) 35 171 0 2 (fun ν7 => ((ν4 7).n 0)) (fun ν7 => [.int .i64 t6.Lo, .int .i64 t6.Hi]) 23) <|
      .cons [36] (ok_val (fun ν7 => .pointer (some ⟨((ν1 1).n 0), 1, none⟩)) 36) <|
      .cons [37] (ok_ld (fun ν7 => .int .u32 a1.e1) 37 168 1 1 (fun ν7 => ((ν1 1).n 0)) (fun ν7 => [.int .u32 a1.e0, .int .u32 a1.e1]) 43) <|
      .cons [38] (ok_val (fun ν7 => .pointer (some ⟨((ν1 2).n 0), 1, none⟩)) 38) <|
      .cons [39] (ok_ld (fun ν7 => .int .u32 a2.e1) 39 169 1 1 (fun ν7 => ((ν1 2).n 0)) (fun ν7 => [.int .u32 a2.e0, .int .u32 a2.e1]) 43) <|
      .cons [40] (ok_callv 27 (fun ν7 => #[.agg #[.int .i64 t6.Lo, .int .i64 t6.Hi], .int .u32 a1.e1, .int .u32 a2.e1]) (.agg #[.int .i64 t9.Lo, .int .i64 t9.Hi]) 40 [] (fun _ w _ => armillarylaw02_widen.calls t6 a1.e1 a2.e1 t9 w ht9)) <|
      .cons [10, 172] (ok_new (fun b => .pointer (some ⟨b, 0, none⟩)) (fun ν7 => [.int .i64 0, .int .i64 0]) 23 10 172) <|
      .cons [11, 173] (ok_new (fun b => .pointer (some ⟨b, 0, none⟩)) (fun ν7 => [.int .i64 0, .int .i64 0]) 23 11 173) <|
      .cons [172] (ok_as (u' := fun ν7 => [(172, .blk ((ν7 12).n 0) [.int .i64 t8.Lo, .int .i64 t8.Hi] 23)]) (ok_store 172 0 (fun ν7 => ((ν7 12).n 0)) (fun ν7 => [.int .i64 0, .int .i64 0]) (fun ν7 => [.int .i64 t8.Lo, .int .i64 t8.Hi]) 23) (fun _ => by kernel_rfl)) <|
      .cons [173] (ok_as (u' := fun ν7 => [(173, .blk ((ν7 13).n 0) [.int .i64 t9.Lo, .int .i64 t9.Hi] 23)]) (ok_store 173 0 (fun ν7 => ((ν7 13).n 0)) (fun ν7 => [.int .i64 0, .int .i64 0]) (fun ν7 => [.int .i64 t9.Lo, .int .i64 t9.Hi]) 23) (fun _ => by kernel_rfl)) <| .nil) (by kernel_rfl) fun ν7 a w' H => ?_
  replace H := H.toL [(3, .slot true (.pointer (some ⟨((ν1 0).n 0), 0, none⟩))), (6, .slot true (.bool false)), (7, .slot true (.bool t3)), (8, .slot true (.pointer (some ⟨((ν4 6).n 0), 0, none⟩))), (9, .slot true (.pointer (some ⟨((ν4 7).n 0), 0, none⟩))), (10, .slot true (.pointer (some ⟨((ν7 12).n 0), 0, none⟩))), (11, .slot true (.pointer (some ⟨((ν7 13).n 0), 0, none⟩))), (167, .blk ((ν1 0).n 0) [.int .i64 a0.A.Lo, .int .i64 a0.A.Hi, .int .i64 a0.B.Lo, .int .i64 a0.B.Hi, .int .i32 a0.N, .int .u16 a0.D] 26), (170, .blk ((ν4 6).n 0) [.int .i64 t5.Lo, .int .i64 t5.Hi] 23), (171, .blk ((ν4 7).n 0) [.int .i64 t6.Lo, .int .i64 t6.Hi] 23), (172, .blk ((ν7 12).n 0) [.int .i64 t8.Lo, .int .i64 t8.Hi] 23), (173, .blk ((ν7 13).n 0) [.int .i64 t9.Lo, .int .i64 t9.Hi] 23), (999999, gk)] (by kernel_rfl)
  refine k_seq ?_
  replace G := bnd G; obtain ⟨t11, ht11, G⟩ := G
  refine k_reg mixed H (.cons [42] (ok_ld (fun ν10 => .agg #[.int .i64 a0.A.Lo, .int .i64 a0.A.Hi, .int .i64 a0.B.Lo, .int .i64 a0.B.Hi, .int .i32 a0.N, .int .u16 a0.D]) 42 167 0 6 (fun ν10 => ((ν1 0).n 0)) (fun ν10 => [.int .i64 a0.A.Lo, .int .i64 a0.A.Hi, .int .i64 a0.B.Lo, .int .i64 a0.B.Hi, .int .i32 a0.N, .int .u16 a0.D]) 26) <|
      .cons [43] (ok_callv 18 (fun ν10 => #[.agg #[.int .i64 a0.A.Lo, .int .i64 a0.A.Hi, .int .i64 a0.B.Lo, .int .i64 a0.B.Hi, .int .i32 a0.N, .int .u16 a0.D]]) (.tuple #[.int .i64 t11.1, .int .i64 t11.2]) 43 [] (fun _ w _ => armillarylaw02_ratio.calls (⟨(⟨a0.A.Lo, a0.A.Hi⟩ : TInterval), (⟨a0.B.Lo, a0.B.Hi⟩ : TInterval), a0.N, a0.D⟩ : TOperands) t11 w ht11)) <|
      .cons [41] (ok_val (fun ν10 => .tuple #[.int .i64 t11.1, .int .i64 t11.2]) 41) <|
      .cons [44] (ok_val (fun ν10 => .int .i64 t11.1) 44) <|
      .cons [45] (ok_val (fun ν10 => .int .i64 t11.2) 45) <|
      .cons [12] (ok_val (fun ν10 => .int .i64 t11.1) 12) <|
      .cons [13] (ok_val (fun ν10 => .int .i64 t11.2) 13) <| .nil) (by kernel_rfl) fun ν10 a w' H => ?_
  replace H := H.toL [(6, .slot true (.bool false)), (7, .slot true (.bool t3)), (8, .slot true (.pointer (some ⟨((ν4 6).n 0), 0, none⟩))), (9, .slot true (.pointer (some ⟨((ν4 7).n 0), 0, none⟩))), (10, .slot true (.pointer (some ⟨((ν7 12).n 0), 0, none⟩))), (11, .slot true (.pointer (some ⟨((ν7 13).n 0), 0, none⟩))), (12, .slot true (.int .i64 t11.1)), (13, .slot true (.int .i64 t11.2)), (170, .blk ((ν4 6).n 0) [.int .i64 t5.Lo, .int .i64 t5.Hi] 23), (171, .blk ((ν4 7).n 0) [.int .i64 t6.Lo, .int .i64 t6.Hi] 23), (172, .blk ((ν7 12).n 0) [.int .i64 t8.Lo, .int .i64 t8.Hi] 23), (173, .blk ((ν7 13).n 0) [.int .i64 t9.Lo, .int .i64 t9.Hi] 23), (999999, gk)] (by kernel_rfl)
  refine k_seq ?_
  refine k_seq ?_
  replace G := bnd G; obtain ⟨t13, ht13, G⟩ := G
  replace G := bnd G; obtain ⟨t14, ht14, G⟩ := G
  replace G := bnd G; obtain ⟨t15, ht15, G⟩ := G
  replace G := bnd G; obtain ⟨t16, ht16, G⟩ := G
  replace G := bnd G; obtain ⟨t17, ht17, G⟩ := G
  replace G := bnd G; obtain ⟨t18, ht18, G⟩ := G
  replace G := bnd G; obtain ⟨t19, ht19, G⟩ := G
  replace G := bnd G; obtain ⟨t20, ht20, G⟩ := G
  replace G := bnd G; obtain ⟨t21, ht21, G⟩ := G
  replace G := bnd G; obtain ⟨t22, ht22, G⟩ := G
  replace G := bnd G; obtain ⟨t23, ht23, G⟩ := G
  replace G := bnd G; obtain ⟨t24, ht24, G⟩ := G
  replace G := bnd G; obtain ⟨t25, ht25, G⟩ := G
  replace G := bnd G; obtain ⟨t26, ht26, G⟩ := G
  replace G := bnd G; obtain ⟨t27, ht27, G⟩ := G
  replace G := bnd G; obtain ⟨t28, ht28, G⟩ := G
  replace G := bnd G; obtain ⟨t29, ht29, G⟩ := G
  replace G := bnd G; obtain ⟨t30, ht30, G⟩ := G
  replace G := bnd G; obtain ⟨t31, ht31, G⟩ := G
  replace G := bnd G; obtain ⟨t32, ht32, G⟩ := G
  replace G := bnd G; obtain ⟨t33, ht33, G⟩ := G
  replace G := bnd G; obtain ⟨t34, ht34, G⟩ := G
  refine k_reg mixed H (.cons [46] (ok_ld (fun ν12 => .agg #[.int .i64 t5.Lo, .int .i64 t5.Hi]) 46 170 0 2 (fun ν12 => ((ν4 6).n 0)) (fun ν12 => [.int .i64 t5.Lo, .int .i64 t5.Hi]) 23) <|
      .cons [47] (ok_ld (fun ν12 => .agg #[.int .i64 t8.Lo, .int .i64 t8.Hi]) 47 172 0 2 (fun ν12 => ((ν7 12).n 0)) (fun ν12 => [.int .i64 t8.Lo, .int .i64 t8.Hi]) 23) <|
      .cons [48] (ok_callv 28 (fun ν12 => #[.agg #[.int .i64 t5.Lo, .int .i64 t5.Hi], .agg #[.int .i64 t8.Lo, .int .i64 t8.Hi]]) (.bool t13) 48 [] (fun _ w _ => interval_Subset.calls t5 t8 t13 w ht13)) <|
      .cons [49] (ok_val (fun ν12 => .bool (!t13)) 49) <|
      .cons [50] (ok_val (fun ν12 => .bool (!t13)) 50) <|
      .cons [51] (ok_ldg (fun ν12 => .agg #[.int .i64 t5.Lo, .int .i64 t5.Hi]) (fun ν12 => ((!t13) == false)) [true] 51 170 0 2 (fun ν12 => ((ν4 6).n 0)) (fun ν12 => [.int .i64 t5.Lo, .int .i64 t5.Hi]) 23) <|
      .cons [52] (ok_ldg (fun ν12 => .agg #[.int .i64 t6.Lo, .int .i64 t6.Hi]) (fun ν12 => ((!t13) == false)) [true] 52 171 0 2 (fun ν12 => ((ν4 7).n 0)) (fun ν12 => [.int .i64 t6.Lo, .int .i64 t6.Hi]) 23) <|
      .cons [53] (ok_call 14 (fun ν12 => #[.agg #[.int .i64 t5.Lo, .int .i64 t5.Hi], .agg #[.int .i64 t6.Lo, .int .i64 t6.Hi]]) (.agg #[.int .i64 t14.Lo, .int .i64 t14.Hi]) (fun ν12 => ((!t13) == false)) [true, false, false] 53 [] (fun _ w hg _ => interval_Add.calls t5 t6 t14 w (ifp ht14 hg))) <|
      .cons [54] (ok_ldg (fun ν12 => .agg #[.int .i64 t8.Lo, .int .i64 t8.Hi]) (fun ν12 => ((!t13) == false)) [true] 54 172 0 2 (fun ν12 => ((ν7 12).n 0)) (fun ν12 => [.int .i64 t8.Lo, .int .i64 t8.Hi]) 23) <|
      .cons [55] (ok_ldg (fun ν12 => .agg #[.int .i64 t9.Lo, .int .i64 t9.Hi]) (fun ν12 => ((!t13) == false)) [true] 55 173 0 2 (fun ν12 => ((ν7 13).n 0)) (fun ν12 => [.int .i64 t9.Lo, .int .i64 t9.Hi]) 23) <|
      .cons [56] (ok_call 14 (fun ν12 => #[.agg #[.int .i64 t8.Lo, .int .i64 t8.Hi], .agg #[.int .i64 t9.Lo, .int .i64 t9.Hi]]) (.agg #[.int .i64 t15.Lo, .int .i64 t15.Hi]) (fun ν12 => ((!t13) == false)) [true, false, false] 56 [] (fun _ w hg _ => interval_Add.calls t8 t9 t15 w (ifp ht15 hg))) <|
      .cons [57] (ok_call 28 (fun ν12 => #[.agg #[.int .i64 t14.Lo, .int .i64 t14.Hi], .agg #[.int .i64 t15.Lo, .int .i64 t15.Hi]]) (.bool t16) (fun ν12 => ((!t13) == false)) [true, false, false] 57 [] (fun _ w hg _ => interval_Subset.calls t14 t15 t16 w (ifp ht16 hg))) <|
      .cons [58] (ok_valg (fun ν12 => .bool (!t16)) (fun ν12 => ((!t13) == false)) [false] 58) <|
      .cons [59] (ok_or 50 58 (fun ν12 => true) (fun ν12 => true) (fun ν12 => (!t13)) (fun ν12 => (!t16)) 59) <|
      .cons [60] (ok_val (fun ν12 => .bool ((!t13) || (!t16))) 60) <|
      .cons [61] (ok_ldg (fun ν12 => .agg #[.int .i64 t5.Lo, .int .i64 t5.Hi]) (fun ν12 => (((!t13) || (!t16)) == false)) [true] 61 170 0 2 (fun ν12 => ((ν4 6).n 0)) (fun ν12 => [.int .i64 t5.Lo, .int .i64 t5.Hi]) 23) <|
      .cons [62] (ok_ldg (fun ν12 => .agg #[.int .i64 t6.Lo, .int .i64 t6.Hi]) (fun ν12 => (((!t13) || (!t16)) == false)) [true] 62 171 0 2 (fun ν12 => ((ν4 7).n 0)) (fun ν12 => [.int .i64 t6.Lo, .int .i64 t6.Hi]) 23) <|
      .cons [63] (ok_call 20 (fun ν12 => #[.agg #[.int .i64 t5.Lo, .int .i64 t5.Hi], .agg #[.int .i64 t6.Lo, .int .i64 t6.Hi]]) (.agg #[.int .i64 t17.Lo, .int .i64 t17.Hi]) (fun ν12 => (((!t13) || (!t16)) == false)) [true, false, false] 63 [] (fun _ w hg _ => interval_Sub.calls t5 t6 t17 w (ifp ht17 hg))) <|
      .cons [64] (ok_ldg (fun ν12 => .agg #[.int .i64 t8.Lo, .int .i64 t8.Hi]) (fun ν12 => (((!t13) || (!t16)) == false)) [true] 64 172 0 2 (fun ν12 => ((ν7 12).n 0)) (fun ν12 => [.int .i64 t8.Lo, .int .i64 t8.Hi]) 23) <|
      .cons [65] (ok_ldg (fun ν12 => .agg #[.int .i64 t9.Lo, .int .i64 t9.Hi]) (fun ν12 => (((!t13) || (!t16)) == false)) [true] 65 173 0 2 (fun ν12 => ((ν7 13).n 0)) (fun ν12 => [.int .i64 t9.Lo, .int .i64 t9.Hi]) 23) <|
      .cons [66] (ok_call 20 (fun ν12 => #[.agg #[.int .i64 t8.Lo, .int .i64 t8.Hi], .agg #[.int .i64 t9.Lo, .int .i64 t9.Hi]]) (.agg #[.int .i64 t18.Lo, .int .i64 t18.Hi]) (fun ν12 => (((!t13) || (!t16)) == false)) [true, false, false] 66 [] (fun _ w hg _ => interval_Sub.calls t8 t9 t18 w (ifp ht18 hg))) <|
      .cons [67] (ok_call 28 (fun ν12 => #[.agg #[.int .i64 t17.Lo, .int .i64 t17.Hi], .agg #[.int .i64 t18.Lo, .int .i64 t18.Hi]]) (.bool t19) (fun ν12 => (((!t13) || (!t16)) == false)) [true, false, false] 67 [] (fun _ w hg _ => interval_Subset.calls t17 t18 t19 w (ifp ht19 hg))) <|
      .cons [68] (ok_valg (fun ν12 => .bool (!t19)) (fun ν12 => (((!t13) || (!t16)) == false)) [false] 68) <|
      .cons [69] (ok_or 60 68 (fun ν12 => true) (fun ν12 => true) (fun ν12 => ((!t13) || (!t16))) (fun ν12 => (!t19)) 69) <|
      .cons [70] (ok_val (fun ν12 => .bool (((!t13) || (!t16)) || (!t19))) 70) <|
      .cons [71] (ok_ldg (fun ν12 => .agg #[.int .i64 t5.Lo, .int .i64 t5.Hi]) (fun ν12 => ((((!t13) || (!t16)) || (!t19)) == false)) [true] 71 170 0 2 (fun ν12 => ((ν4 6).n 0)) (fun ν12 => [.int .i64 t5.Lo, .int .i64 t5.Hi]) 23) <|
      .cons [72] (ok_ldg (fun ν12 => .agg #[.int .i64 t6.Lo, .int .i64 t6.Hi]) (fun ν12 => ((((!t13) || (!t16)) || (!t19)) == false)) [true] 72 171 0 2 (fun ν12 => ((ν4 7).n 0)) (fun ν12 => [.int .i64 t6.Lo, .int .i64 t6.Hi]) 23) <|
      .cons [73] (ok_callG 999999 gk 15 (fun ν12 => #[.agg #[.int .i64 t5.Lo, .int .i64 t5.Hi], .agg #[.int .i64 t6.Lo, .int .i64 t6.Hi]]) (.agg #[.int .i64 t20.Lo, .int .i64 t20.Hi]) (fun ν12 => ((((!t13) || (!t16)) || (!t19)) == false)) [true, false, false] 73 (fun _ w hG hg => interval_Mul.calls t5 t6 t20 w (glob_of hG) (ifp ht20 hg))) <|
      .cons [74] (ok_ldg (fun ν12 => .agg #[.int .i64 t8.Lo, .int .i64 t8.Hi]) (fun ν12 => ((((!t13) || (!t16)) || (!t19)) == false)) [true] 74 172 0 2 (fun ν12 => ((ν7 12).n 0)) (fun ν12 => [.int .i64 t8.Lo, .int .i64 t8.Hi]) 23) <|
      .cons [75] (ok_ldg (fun ν12 => .agg #[.int .i64 t9.Lo, .int .i64 t9.Hi]) (fun ν12 => ((((!t13) || (!t16)) || (!t19)) == false)) [true] 75 173 0 2 (fun ν12 => ((ν7 13).n 0)) (fun ν12 => [.int .i64 t9.Lo, .int .i64 t9.Hi]) 23) <|
      .cons [76] (ok_callG 999999 gk 15 (fun ν12 => #[.agg #[.int .i64 t8.Lo, .int .i64 t8.Hi], .agg #[.int .i64 t9.Lo, .int .i64 t9.Hi]]) (.agg #[.int .i64 t21.Lo, .int .i64 t21.Hi]) (fun ν12 => ((((!t13) || (!t16)) || (!t19)) == false)) [true, false, false] 76 (fun _ w hG hg => interval_Mul.calls t8 t9 t21 w (glob_of hG) (ifp ht21 hg))) <|
      .cons [77] (ok_call 28 (fun ν12 => #[.agg #[.int .i64 t20.Lo, .int .i64 t20.Hi], .agg #[.int .i64 t21.Lo, .int .i64 t21.Hi]]) (.bool t22) (fun ν12 => ((((!t13) || (!t16)) || (!t19)) == false)) [true, false, false] 77 [] (fun _ w hg _ => interval_Subset.calls t20 t21 t22 w (ifp ht22 hg))) <|
      .cons [78] (ok_valg (fun ν12 => .bool (!t22)) (fun ν12 => ((((!t13) || (!t16)) || (!t19)) == false)) [false] 78) <|
      .cons [79] (ok_or 70 78 (fun ν12 => true) (fun ν12 => true) (fun ν12 => (((!t13) || (!t16)) || (!t19))) (fun ν12 => (!t22)) 79) <|
      .cons [80] (ok_val (fun ν12 => .bool ((((!t13) || (!t16)) || (!t19)) || (!t22))) 80) <|
      .cons [81] (ok_ldg (fun ν12 => .agg #[.int .i64 t5.Lo, .int .i64 t5.Hi]) (fun ν12 => (((((!t13) || (!t16)) || (!t19)) || (!t22)) == false)) [true] 81 170 0 2 (fun ν12 => ((ν4 6).n 0)) (fun ν12 => [.int .i64 t5.Lo, .int .i64 t5.Hi]) 23) <|
      .cons [82] (ok_call 22 (fun ν12 => #[.agg #[.int .i64 t5.Lo, .int .i64 t5.Hi]]) (.agg #[.int .i64 t23.Lo, .int .i64 t23.Hi]) (fun ν12 => (((((!t13) || (!t16)) || (!t19)) || (!t22)) == false)) [true, false] 82 [] (fun _ w hg _ => interval_Square.calls t5 t23 w (ifp ht23 hg))) <|
      .cons [83] (ok_ldg (fun ν12 => .agg #[.int .i64 t8.Lo, .int .i64 t8.Hi]) (fun ν12 => (((((!t13) || (!t16)) || (!t19)) || (!t22)) == false)) [true] 83 172 0 2 (fun ν12 => ((ν7 12).n 0)) (fun ν12 => [.int .i64 t8.Lo, .int .i64 t8.Hi]) 23) <|
      .cons [84] (ok_call 22 (fun ν12 => #[.agg #[.int .i64 t8.Lo, .int .i64 t8.Hi]]) (.agg #[.int .i64 t24.Lo, .int .i64 t24.Hi]) (fun ν12 => (((((!t13) || (!t16)) || (!t19)) || (!t22)) == false)) [true, false] 84 [] (fun _ w hg _ => interval_Square.calls t8 t24 w (ifp ht24 hg))) <|
      .cons [85] (ok_call 28 (fun ν12 => #[.agg #[.int .i64 t23.Lo, .int .i64 t23.Hi], .agg #[.int .i64 t24.Lo, .int .i64 t24.Hi]]) (.bool t25) (fun ν12 => (((((!t13) || (!t16)) || (!t19)) || (!t22)) == false)) [true, false, false] 85 [] (fun _ w hg _ => interval_Subset.calls t23 t24 t25 w (ifp ht25 hg))) <|
      .cons [86] (ok_valg (fun ν12 => .bool (!t25)) (fun ν12 => (((((!t13) || (!t16)) || (!t19)) || (!t22)) == false)) [false] 86) <|
      .cons [87] (ok_or 80 86 (fun ν12 => true) (fun ν12 => true) (fun ν12 => ((((!t13) || (!t16)) || (!t19)) || (!t22))) (fun ν12 => (!t25)) 87) <|
      .cons [88] (ok_val (fun ν12 => .bool (((((!t13) || (!t16)) || (!t19)) || (!t22)) || (!t25))) 88) <|
      .cons [89] (ok_ldg (fun ν12 => .agg #[.int .i64 t5.Lo, .int .i64 t5.Hi]) (fun ν12 => ((((((!t13) || (!t16)) || (!t19)) || (!t22)) || (!t25)) == false)) [true] 89 170 0 2 (fun ν12 => ((ν4 6).n 0)) (fun ν12 => [.int .i64 t5.Lo, .int .i64 t5.Hi]) 23) <|
      .cons [90] (ok_ldg (fun ν12 => .agg #[.int .i64 t6.Lo, .int .i64 t6.Hi]) (fun ν12 => ((((((!t13) || (!t16)) || (!t19)) || (!t22)) || (!t25)) == false)) [true] 90 171 0 2 (fun ν12 => ((ν4 7).n 0)) (fun ν12 => [.int .i64 t6.Lo, .int .i64 t6.Hi]) 23) <|
      .cons [91] (ok_callG 999999 gk 16 (fun ν12 => #[.agg #[.int .i64 t5.Lo, .int .i64 t5.Hi], .agg #[.int .i64 t6.Lo, .int .i64 t6.Hi]]) (.agg #[.int .i64 t26.Lo, .int .i64 t26.Hi]) (fun ν12 => ((((((!t13) || (!t16)) || (!t19)) || (!t22)) || (!t25)) == false)) [true, false, false] 91 (fun _ w hG hg => interval_Div.calls t5 t6 t26 w (glob_of hG) (ifp ht26 hg))) <|
      .cons [92] (ok_ldg (fun ν12 => .agg #[.int .i64 t8.Lo, .int .i64 t8.Hi]) (fun ν12 => ((((((!t13) || (!t16)) || (!t19)) || (!t22)) || (!t25)) == false)) [true] 92 172 0 2 (fun ν12 => ((ν7 12).n 0)) (fun ν12 => [.int .i64 t8.Lo, .int .i64 t8.Hi]) 23) <|
      .cons [93] (ok_ldg (fun ν12 => .agg #[.int .i64 t9.Lo, .int .i64 t9.Hi]) (fun ν12 => ((((((!t13) || (!t16)) || (!t19)) || (!t22)) || (!t25)) == false)) [true] 93 173 0 2 (fun ν12 => ((ν7 13).n 0)) (fun ν12 => [.int .i64 t9.Lo, .int .i64 t9.Hi]) 23) <|
      .cons [94] (ok_callG 999999 gk 16 (fun ν12 => #[.agg #[.int .i64 t8.Lo, .int .i64 t8.Hi], .agg #[.int .i64 t9.Lo, .int .i64 t9.Hi]]) (.agg #[.int .i64 t27.Lo, .int .i64 t27.Hi]) (fun ν12 => ((((((!t13) || (!t16)) || (!t19)) || (!t22)) || (!t25)) == false)) [true, false, false] 94 (fun _ w hG hg => interval_Div.calls t8 t9 t27 w (glob_of hG) (ifp ht27 hg))) <|
      .cons [95] (ok_call 28 (fun ν12 => #[.agg #[.int .i64 t26.Lo, .int .i64 t26.Hi], .agg #[.int .i64 t27.Lo, .int .i64 t27.Hi]]) (.bool t28) (fun ν12 => ((((((!t13) || (!t16)) || (!t19)) || (!t22)) || (!t25)) == false)) [true, false, false] 95 [] (fun _ w hg _ => interval_Subset.calls t26 t27 t28 w (ifp ht28 hg))) <|
      .cons [96] (ok_valg (fun ν12 => .bool (!t28)) (fun ν12 => ((((((!t13) || (!t16)) || (!t19)) || (!t22)) || (!t25)) == false)) [false] 96) <|
      .cons [97] (ok_or 88 96 (fun ν12 => true) (fun ν12 => true) (fun ν12 => (((((!t13) || (!t16)) || (!t19)) || (!t22)) || (!t25))) (fun ν12 => (!t28)) 97) <|
      .cons [98] (ok_val (fun ν12 => .bool ((((((!t13) || (!t16)) || (!t19)) || (!t22)) || (!t25)) || (!t28))) 98) <|
      .cons [99] (ok_ldg (fun ν12 => .agg #[.int .i64 t5.Lo, .int .i64 t5.Hi]) (fun ν12 => (((((((!t13) || (!t16)) || (!t19)) || (!t22)) || (!t25)) || (!t28)) == false)) [true] 99 170 0 2 (fun ν12 => ((ν4 6).n 0)) (fun ν12 => [.int .i64 t5.Lo, .int .i64 t5.Hi]) 23) <|
      .cons [100] (ok_valg (fun ν12 => .int .i64 t11.1) (fun ν12 => (((((((!t13) || (!t16)) || (!t19)) || (!t22)) || (!t25)) || (!t28)) == false)) [true] 100) <|
      .cons [101] (ok_valg (fun ν12 => .int .i64 t11.2) (fun ν12 => (((((((!t13) || (!t16)) || (!t19)) || (!t22)) || (!t25)) || (!t28)) == false)) [true] 101) <|
      .cons [102] (ok_call 23 (fun ν12 => #[.agg #[.int .i64 t5.Lo, .int .i64 t5.Hi], .int .i64 t11.1, .int .i64 t11.2]) (.agg #[.int .i64 t29.Lo, .int .i64 t29.Hi]) (fun ν12 => (((((((!t13) || (!t16)) || (!t19)) || (!t22)) || (!t25)) || (!t28)) == false)) [true, false, false, false] 102 [] (fun _ w hg _ => interval_MulRatio.calls t5 t11.1 t11.2 t29 w (ifp ht29 hg))) <|
      .cons [103] (ok_ldg (fun ν12 => .agg #[.int .i64 t8.Lo, .int .i64 t8.Hi]) (fun ν12 => (((((((!t13) || (!t16)) || (!t19)) || (!t22)) || (!t25)) || (!t28)) == false)) [true] 103 172 0 2 (fun ν12 => ((ν7 12).n 0)) (fun ν12 => [.int .i64 t8.Lo, .int .i64 t8.Hi]) 23) <|
      .cons [104] (ok_valg (fun ν12 => .int .i64 t11.1) (fun ν12 => (((((((!t13) || (!t16)) || (!t19)) || (!t22)) || (!t25)) || (!t28)) == false)) [true] 104) <|
      .cons [105] (ok_valg (fun ν12 => .int .i64 t11.2) (fun ν12 => (((((((!t13) || (!t16)) || (!t19)) || (!t22)) || (!t25)) || (!t28)) == false)) [true] 105) <|
      .cons [106] (ok_call 23 (fun ν12 => #[.agg #[.int .i64 t8.Lo, .int .i64 t8.Hi], .int .i64 t11.1, .int .i64 t11.2]) (.agg #[.int .i64 t30.Lo, .int .i64 t30.Hi]) (fun ν12 => (((((((!t13) || (!t16)) || (!t19)) || (!t22)) || (!t25)) || (!t28)) == false)) [true, false, false, false] 106 [] (fun _ w hg _ => interval_MulRatio.calls t8 t11.1 t11.2 t30 w (ifp ht30 hg))) <|
      .cons [107] (ok_call 28 (fun ν12 => #[.agg #[.int .i64 t29.Lo, .int .i64 t29.Hi], .agg #[.int .i64 t30.Lo, .int .i64 t30.Hi]]) (.bool t31) (fun ν12 => (((((((!t13) || (!t16)) || (!t19)) || (!t22)) || (!t25)) || (!t28)) == false)) [true, false, false] 107 [] (fun _ w hg _ => interval_Subset.calls t29 t30 t31 w (ifp ht31 hg))) <|
      .cons [108] (ok_valg (fun ν12 => .bool (!t31)) (fun ν12 => (((((((!t13) || (!t16)) || (!t19)) || (!t22)) || (!t25)) || (!t28)) == false)) [false] 108) <|
      .cons [109] (ok_or 98 108 (fun ν12 => true) (fun ν12 => true) (fun ν12 => ((((((!t13) || (!t16)) || (!t19)) || (!t22)) || (!t25)) || (!t28))) (fun ν12 => (!t31)) 109) <|
      .cons [110] (ok_val (fun ν12 => .bool (((((((!t13) || (!t16)) || (!t19)) || (!t22)) || (!t25)) || (!t28)) || (!t31))) 110) <|
      .cons [111] (ok_ldg (fun ν12 => .agg #[.int .i64 t5.Lo, .int .i64 t5.Hi]) (fun ν12 => ((((((((!t13) || (!t16)) || (!t19)) || (!t22)) || (!t25)) || (!t28)) || (!t31)) == false)) [true] 111 170 0 2 (fun ν12 => ((ν4 6).n 0)) (fun ν12 => [.int .i64 t5.Lo, .int .i64 t5.Hi]) 23) <|
      .cons [112] (ok_ldg (fun ν12 => .agg #[.int .i64 t6.Lo, .int .i64 t6.Hi]) (fun ν12 => ((((((((!t13) || (!t16)) || (!t19)) || (!t22)) || (!t25)) || (!t28)) || (!t31)) == false)) [true] 112 171 0 2 (fun ν12 => ((ν4 7).n 0)) (fun ν12 => [.int .i64 t6.Lo, .int .i64 t6.Hi]) 23) <|
      .cons [113] (ok_call 29 (fun ν12 => #[.agg #[.int .i64 t5.Lo, .int .i64 t5.Hi], .agg #[.int .i64 t6.Lo, .int .i64 t6.Hi]]) (.agg #[.int .i64 t32.Lo, .int .i64 t32.Hi]) (fun ν12 => ((((((((!t13) || (!t16)) || (!t19)) || (!t22)) || (!t25)) || (!t28)) || (!t31)) == false)) [true, false, false] 113 [] (fun _ w hg _ => interval_Hull.calls t5 t6 t32 w (ifp ht32 hg))) <|
      .cons [114] (ok_ldg (fun ν12 => .agg #[.int .i64 t8.Lo, .int .i64 t8.Hi]) (fun ν12 => ((((((((!t13) || (!t16)) || (!t19)) || (!t22)) || (!t25)) || (!t28)) || (!t31)) == false)) [true] 114 172 0 2 (fun ν12 => ((ν7 12).n 0)) (fun ν12 => [.int .i64 t8.Lo, .int .i64 t8.Hi]) 23) <|
      .cons [115] (ok_ldg (fun ν12 => .agg #[.int .i64 t9.Lo, .int .i64 t9.Hi]) (fun ν12 => ((((((((!t13) || (!t16)) || (!t19)) || (!t22)) || (!t25)) || (!t28)) || (!t31)) == false)) [true] 115 173 0 2 (fun ν12 => ((ν7 13).n 0)) (fun ν12 => [.int .i64 t9.Lo, .int .i64 t9.Hi]) 23) <|
      .cons [116] (ok_call 29 (fun ν12 => #[.agg #[.int .i64 t8.Lo, .int .i64 t8.Hi], .agg #[.int .i64 t9.Lo, .int .i64 t9.Hi]]) (.agg #[.int .i64 t33.Lo, .int .i64 t33.Hi]) (fun ν12 => ((((((((!t13) || (!t16)) || (!t19)) || (!t22)) || (!t25)) || (!t28)) || (!t31)) == false)) [true, false, false] 116 [] (fun _ w hg _ => interval_Hull.calls t8 t9 t33 w (ifp ht33 hg))) <|
      .cons [117] (ok_call 28 (fun ν12 => #[.agg #[.int .i64 t32.Lo, .int .i64 t32.Hi], .agg #[.int .i64 t33.Lo, .int .i64 t33.Hi]]) (.bool t34) (fun ν12 => ((((((((!t13) || (!t16)) || (!t19)) || (!t22)) || (!t25)) || (!t28)) || (!t31)) == false)) [true, false, false] 117 [] (fun _ w hg _ => interval_Subset.calls t32 t33 t34 w (ifp ht34 hg))) <|
      .cons [118] (ok_valg (fun ν12 => .bool (!t34)) (fun ν12 => ((((((((!t13) || (!t16)) || (!t19)) || (!t22)) || (!t25)) || (!t28)) || (!t31)) == false)) [false] 118) <|
      .cons [119] (ok_or 110 118 (fun ν12 => true) (fun ν12 => true) (fun ν12 => (((((((!t13) || (!t16)) || (!t19)) || (!t22)) || (!t25)) || (!t28)) || (!t31))) (fun ν12 => (!t34)) 119) <| .nil) (by kernel_rfl) fun ν12 a w' H => ?_
  replace H := H.toL [(6, .slot true (.bool false)), (7, .slot true (.bool t3)), (8, .slot true (.pointer (some ⟨((ν4 6).n 0), 0, none⟩))), (9, .slot true (.pointer (some ⟨((ν4 7).n 0), 0, none⟩))), (10, .slot true (.pointer (some ⟨((ν7 12).n 0), 0, none⟩))), (11, .slot true (.pointer (some ⟨((ν7 13).n 0), 0, none⟩))), (119, .slot true (.bool ((((((((!t13) || (!t16)) || (!t19)) || (!t22)) || (!t25)) || (!t28)) || (!t31)) || (!t34)))), (170, .blk ((ν4 6).n 0) [.int .i64 t5.Lo, .int .i64 t5.Hi] 23), (171, .blk ((ν4 7).n 0) [.int .i64 t6.Lo, .int .i64 t6.Hi] 23), (172, .blk ((ν7 12).n 0) [.int .i64 t8.Lo, .int .i64 t8.Hi] 23), (173, .blk ((ν7 13).n 0) [.int .i64 t9.Lo, .int .i64 t9.Hi] 23), (999999, gk)] (by kernel_rfl)
  refine k_cond H (by kernel_rfl) (t := ((((((((!t13) || (!t16)) || (!t19)) || (!t22)) || (!t25)) || (!t28)) || (!t31)) || (!t34))) (by kernel_rfl) (fun c47 => ?_) (fun c47 => ?_)
  · rw [if_pos c47] at G
    refine k_seq ?_
    refine k_reg mixed H (.cons [6] (ok_val (fun ν35 => .bool false) 6) <| .nil) (by kernel_rfl) fun ν35 a w' H => ?_
    replace H := H.toL [(6, .slot true (.bool false)), (7, .slot true (.bool t3)), (8, .slot true (.pointer (some ⟨((ν4 6).n 0), 0, none⟩))), (9, .slot true (.pointer (some ⟨((ν4 7).n 0), 0, none⟩))), (10, .slot true (.pointer (some ⟨((ν7 12).n 0), 0, none⟩))), (11, .slot true (.pointer (some ⟨((ν7 13).n 0), 0, none⟩))), (170, .blk ((ν4 6).n 0) [.int .i64 t5.Lo, .int .i64 t5.Hi] 23), (171, .blk ((ν4 7).n 0) [.int .i64 t6.Lo, .int .i64 t6.Hi] 23), (172, .blk ((ν7 12).n 0) [.int .i64 t8.Lo, .int .i64 t8.Hi] 23), (173, .blk ((ν7 13).n 0) [.int .i64 t9.Lo, .int .i64 t9.Hi] 23), (999999, gk)] (by kernel_rfl)
    refine k_ret ?_
    obtain rfl := Option.some.inj G
    exact k_done0 H _ (by kernel_rfl) (by kernel_rfl)
  · rw [if_neg (nt c47)] at G
    refine k_skip ?_
    refine k_seq ?_
    replace G := bnd G; obtain ⟨t37, ht37, G⟩ := G
    refine k_reg mixed H (.cons [121] (ok_ld (fun ν36 => .agg #[.int .i64 t5.Lo, .int .i64 t5.Hi]) 121 170 0 2 (fun ν36 => ((ν4 6).n 0)) (fun ν36 => [.int .i64 t5.Lo, .int .i64 t5.Hi]) 23) <|
      .cons [122] (ok_callv 24 (fun ν36 => #[.agg #[.int .i64 t5.Lo, .int .i64 t5.Hi]]) (.tuple #[.agg #[.int .i64 t37.1.Lo, .int .i64 t37.1.Hi], .bool t37.2]) 122 [] (fun _ w _ => interval_Sqrt.calls k0 t5 t37 w ht37)) <|
      .cons [120] (ok_val (fun ν36 => .tuple #[.agg #[.int .i64 t37.1.Lo, .int .i64 t37.1.Hi], .bool t37.2]) 120) <|
      .cons [123] (ok_val (fun ν36 => .agg #[.int .i64 t37.1.Lo, .int .i64 t37.1.Hi]) 123) <|
      .cons [124] (ok_val (fun ν36 => .bool t37.2) 124) <|
      .cons [14, 174] (ok_new (fun b => .pointer (some ⟨b, 0, none⟩)) (fun ν36 => [.int .i64 0, .int .i64 0]) 23 14 174) <|
      .cons [174] (ok_as (u' := fun ν36 => [(174, .blk ((ν36 5).n 0) [.int .i64 t37.1.Lo, .int .i64 t37.1.Hi] 23)]) (ok_store 174 0 (fun ν36 => ((ν36 5).n 0)) (fun ν36 => [.int .i64 0, .int .i64 0]) (fun ν36 => [.int .i64 t37.1.Lo, .int .i64 t37.1.Hi]) 23) (fun _ => by kernel_rfl)) <|
      .cons [15] (ok_val (fun ν36 => .bool t37.2) 15) <| .nil) (by kernel_rfl) fun ν36 a w' H => ?_
    replace H := H.toL [(6, .slot true (.bool false)), (7, .slot true (.bool t3)), (8, .slot true (.pointer (some ⟨((ν4 6).n 0), 0, none⟩))), (9, .slot true (.pointer (some ⟨((ν4 7).n 0), 0, none⟩))), (10, .slot true (.pointer (some ⟨((ν7 12).n 0), 0, none⟩))), (11, .slot true (.pointer (some ⟨((ν7 13).n 0), 0, none⟩))), (14, .slot true (.pointer (some ⟨((ν36 5).n 0), 0, none⟩))), (15, .slot true (.bool t37.2)), (170, .blk ((ν4 6).n 0) [.int .i64 t5.Lo, .int .i64 t5.Hi] 23), (171, .blk ((ν4 7).n 0) [.int .i64 t6.Lo, .int .i64 t6.Hi] 23), (172, .blk ((ν7 12).n 0) [.int .i64 t8.Lo, .int .i64 t8.Hi] 23), (173, .blk ((ν7 13).n 0) [.int .i64 t9.Lo, .int .i64 t9.Hi] 23), (174, .blk ((ν36 5).n 0) [.int .i64 t37.1.Lo, .int .i64 t37.1.Hi] 23), (999999, gk)] (by kernel_rfl)
    refine k_seq ?_
    replace G := bnd G; obtain ⟨t39, ht39, G⟩ := G
    refine k_reg mixed H (.cons [126] (ok_ld (fun ν38 => .agg #[.int .i64 t8.Lo, .int .i64 t8.Hi]) 126 172 0 2 (fun ν38 => ((ν7 12).n 0)) (fun ν38 => [.int .i64 t8.Lo, .int .i64 t8.Hi]) 23) <|
      .cons [127] (ok_callv 24 (fun ν38 => #[.agg #[.int .i64 t8.Lo, .int .i64 t8.Hi]]) (.tuple #[.agg #[.int .i64 t39.1.Lo, .int .i64 t39.1.Hi], .bool t39.2]) 127 [] (fun _ w _ => interval_Sqrt.calls k0 t8 t39 w ht39)) <|
      .cons [125] (ok_val (fun ν38 => .tuple #[.agg #[.int .i64 t39.1.Lo, .int .i64 t39.1.Hi], .bool t39.2]) 125) <|
      .cons [128] (ok_val (fun ν38 => .agg #[.int .i64 t39.1.Lo, .int .i64 t39.1.Hi]) 128) <|
      .cons [129] (ok_val (fun ν38 => .bool t39.2) 129) <|
      .cons [16, 175] (ok_new (fun b => .pointer (some ⟨b, 0, none⟩)) (fun ν38 => [.int .i64 0, .int .i64 0]) 23 16 175) <|
      .cons [175] (ok_as (u' := fun ν38 => [(175, .blk ((ν38 5).n 0) [.int .i64 t39.1.Lo, .int .i64 t39.1.Hi] 23)]) (ok_store 175 0 (fun ν38 => ((ν38 5).n 0)) (fun ν38 => [.int .i64 0, .int .i64 0]) (fun ν38 => [.int .i64 t39.1.Lo, .int .i64 t39.1.Hi]) 23) (fun _ => by kernel_rfl)) <|
      .cons [17] (ok_val (fun ν38 => .bool t39.2) 17) <| .nil) (by kernel_rfl) fun ν38 a w' H => ?_
    replace H := H.toL [(6, .slot true (.bool false)), (7, .slot true (.bool t3)), (8, .slot true (.pointer (some ⟨((ν4 6).n 0), 0, none⟩))), (9, .slot true (.pointer (some ⟨((ν4 7).n 0), 0, none⟩))), (10, .slot true (.pointer (some ⟨((ν7 12).n 0), 0, none⟩))), (11, .slot true (.pointer (some ⟨((ν7 13).n 0), 0, none⟩))), (14, .slot true (.pointer (some ⟨((ν36 5).n 0), 0, none⟩))), (15, .slot true (.bool t37.2)), (16, .slot true (.pointer (some ⟨((ν38 5).n 0), 0, none⟩))), (17, .slot true (.bool t39.2)), (170, .blk ((ν4 6).n 0) [.int .i64 t5.Lo, .int .i64 t5.Hi] 23), (171, .blk ((ν4 7).n 0) [.int .i64 t6.Lo, .int .i64 t6.Hi] 23), (172, .blk ((ν7 12).n 0) [.int .i64 t8.Lo, .int .i64 t8.Hi] 23), (173, .blk ((ν7 13).n 0) [.int .i64 t9.Lo, .int .i64 t9.Hi] 23), (174, .blk ((ν36 5).n 0) [.int .i64 t37.1.Lo, .int .i64 t37.1.Hi] 23), (175, .blk ((ν38 5).n 0) [.int .i64 t39.1.Lo, .int .i64 t39.1.Hi] 23), (999999, gk)] (by kernel_rfl)
    refine k_seq ?_
    replace G := bnd G; obtain ⟨t41, ht41, G⟩ := G
    refine k_reg mixed H (.cons [131] (ok_ld (fun ν40 => .agg #[.int .i64 t5.Lo, .int .i64 t5.Hi]) 131 170 0 2 (fun ν40 => ((ν4 6).n 0)) (fun ν40 => [.int .i64 t5.Lo, .int .i64 t5.Hi]) 23) <|
      .cons [132] (ok_ld (fun ν40 => .agg #[.int .i64 t6.Lo, .int .i64 t6.Hi]) 132 171 0 2 (fun ν40 => ((ν4 7).n 0)) (fun ν40 => [.int .i64 t6.Lo, .int .i64 t6.Hi]) 23) <|
      .cons [133] (ok_callv 30 (fun ν40 => #[.agg #[.int .i64 t5.Lo, .int .i64 t5.Hi], .agg #[.int .i64 t6.Lo, .int .i64 t6.Hi]]) (.tuple #[.agg #[.int .i64 t41.1.Lo, .int .i64 t41.1.Hi], .bool t41.2]) 133 [] (fun _ w _ => interval_Intersect.calls t5 t6 t41 w ht41)) <|
      .cons [130] (ok_val (fun ν40 => .tuple #[.agg #[.int .i64 t41.1.Lo, .int .i64 t41.1.Hi], .bool t41.2]) 130) <|
      .cons [134] (ok_val (fun ν40 => .agg #[.int .i64 t41.1.Lo, .int .i64 t41.1.Hi]) 134) <|
      .cons [135] (ok_val (fun ν40 => .bool t41.2) 135) <|
      .cons [18, 176] (ok_new (fun b => .pointer (some ⟨b, 0, none⟩)) (fun ν40 => [.int .i64 0, .int .i64 0]) 23 18 176) <|
      .cons [176] (ok_as (u' := fun ν40 => [(176, .blk ((ν40 6).n 0) [.int .i64 t41.1.Lo, .int .i64 t41.1.Hi] 23)]) (ok_store 176 0 (fun ν40 => ((ν40 6).n 0)) (fun ν40 => [.int .i64 0, .int .i64 0]) (fun ν40 => [.int .i64 t41.1.Lo, .int .i64 t41.1.Hi]) 23) (fun _ => by kernel_rfl)) <|
      .cons [19] (ok_val (fun ν40 => .bool t41.2) 19) <| .nil) (by kernel_rfl) fun ν40 a w' H => ?_
    replace H := H.toL [(6, .slot true (.bool false)), (7, .slot true (.bool t3)), (10, .slot true (.pointer (some ⟨((ν7 12).n 0), 0, none⟩))), (11, .slot true (.pointer (some ⟨((ν7 13).n 0), 0, none⟩))), (14, .slot true (.pointer (some ⟨((ν36 5).n 0), 0, none⟩))), (15, .slot true (.bool t37.2)), (16, .slot true (.pointer (some ⟨((ν38 5).n 0), 0, none⟩))), (17, .slot true (.bool t39.2)), (18, .slot true (.pointer (some ⟨((ν40 6).n 0), 0, none⟩))), (19, .slot true (.bool t41.2)), (172, .blk ((ν7 12).n 0) [.int .i64 t8.Lo, .int .i64 t8.Hi] 23), (173, .blk ((ν7 13).n 0) [.int .i64 t9.Lo, .int .i64 t9.Hi] 23), (174, .blk ((ν36 5).n 0) [.int .i64 t37.1.Lo, .int .i64 t37.1.Hi] 23), (175, .blk ((ν38 5).n 0) [.int .i64 t39.1.Lo, .int .i64 t39.1.Hi] 23), (176, .blk ((ν40 6).n 0) [.int .i64 t41.1.Lo, .int .i64 t41.1.Hi] 23), (999999, gk)] (by kernel_rfl)
    refine k_seq ?_
    replace G := bnd G; obtain ⟨t43, ht43, G⟩ := G
    refine k_reg mixed H (.cons [137] (ok_ld (fun ν42 => .agg #[.int .i64 t8.Lo, .int .i64 t8.Hi]) 137 172 0 2 (fun ν42 => ((ν7 12).n 0)) (fun ν42 => [.int .i64 t8.Lo, .int .i64 t8.Hi]) 23) <|
      .cons [138] (ok_ld (fun ν42 => .agg #[.int .i64 t9.Lo, .int .i64 t9.Hi]) 138 173 0 2 (fun ν42 => ((ν7 13).n 0)) (fun ν42 => [.int .i64 t9.Lo, .int .i64 t9.Hi]) 23) <|
      .cons [139] (ok_callv 30 (fun ν42 => #[.agg #[.int .i64 t8.Lo, .int .i64 t8.Hi], .agg #[.int .i64 t9.Lo, .int .i64 t9.Hi]]) (.tuple #[.agg #[.int .i64 t43.1.Lo, .int .i64 t43.1.Hi], .bool t43.2]) 139 [] (fun _ w _ => interval_Intersect.calls t8 t9 t43 w ht43)) <|
      .cons [136] (ok_val (fun ν42 => .tuple #[.agg #[.int .i64 t43.1.Lo, .int .i64 t43.1.Hi], .bool t43.2]) 136) <|
      .cons [140] (ok_val (fun ν42 => .agg #[.int .i64 t43.1.Lo, .int .i64 t43.1.Hi]) 140) <|
      .cons [141] (ok_val (fun ν42 => .bool t43.2) 141) <|
      .cons [20, 177] (ok_new (fun b => .pointer (some ⟨b, 0, none⟩)) (fun ν42 => [.int .i64 0, .int .i64 0]) 23 20 177) <|
      .cons [177] (ok_as (u' := fun ν42 => [(177, .blk ((ν42 6).n 0) [.int .i64 t43.1.Lo, .int .i64 t43.1.Hi] 23)]) (ok_store 177 0 (fun ν42 => ((ν42 6).n 0)) (fun ν42 => [.int .i64 0, .int .i64 0]) (fun ν42 => [.int .i64 t43.1.Lo, .int .i64 t43.1.Hi]) 23) (fun _ => by kernel_rfl)) <|
      .cons [21] (ok_val (fun ν42 => .bool t43.2) 21) <| .nil) (by kernel_rfl) fun ν42 a w' H => ?_
    replace H := H.toL [(6, .slot true (.bool false)), (7, .slot true (.bool t3)), (14, .slot true (.pointer (some ⟨((ν36 5).n 0), 0, none⟩))), (15, .slot true (.bool t37.2)), (16, .slot true (.pointer (some ⟨((ν38 5).n 0), 0, none⟩))), (17, .slot true (.bool t39.2)), (18, .slot true (.pointer (some ⟨((ν40 6).n 0), 0, none⟩))), (19, .slot true (.bool t41.2)), (20, .slot true (.pointer (some ⟨((ν42 6).n 0), 0, none⟩))), (21, .slot true (.bool t43.2)), (174, .blk ((ν36 5).n 0) [.int .i64 t37.1.Lo, .int .i64 t37.1.Hi] 23), (175, .blk ((ν38 5).n 0) [.int .i64 t39.1.Lo, .int .i64 t39.1.Hi] 23), (176, .blk ((ν40 6).n 0) [.int .i64 t41.1.Lo, .int .i64 t41.1.Hi] 23), (177, .blk ((ν42 6).n 0) [.int .i64 t43.1.Lo, .int .i64 t43.1.Hi] 23), (999999, gk)] (by kernel_rfl)
    refine k_seq ?_
    replace G := bnd G; obtain ⟨t45, ht45, G⟩ := G
    replace G := bnd G; obtain ⟨t46, ht46, G⟩ := G
    refine k_reg mixed H (.cons [142] (ok_val (fun ν44 => .bool t37.2) 142) <|
      .cons [143] (ok_val (fun ν44 => .bool (!t37.2)) 143) <|
      .cons [144] (ok_val (fun ν44 => .bool (!t37.2)) 144) <|
      .cons [145] (ok_valg (fun ν44 => .bool t39.2) (fun ν44 => ((!t37.2) == false)) [true] 145) <|
      .cons [146] (ok_valg (fun ν44 => .bool t39.2) (fun ν44 => ((!t37.2) == false)) [false] 146) <|
      .cons [147] (ok_ldg (fun ν44 => .agg #[.int .i64 t37.1.Lo, .int .i64 t37.1.Hi]) (fun ν44 => (((!t37.2) == false) && (t39.2 == true))) [true] 147 174 0 2 (fun ν44 => ((ν36 5).n 0)) (fun ν44 => [.int .i64 t37.1.Lo, .int .i64 t37.1.Hi]) 23) <|
      .cons [148] (ok_ldg (fun ν44 => .agg #[.int .i64 t39.1.Lo, .int .i64 t39.1.Hi]) (fun ν44 => (((!t37.2) == false) && (t39.2 == true))) [true] 148 175 0 2 (fun ν44 => ((ν38 5).n 0)) (fun ν44 => [.int .i64 t39.1.Lo, .int .i64 t39.1.Hi]) 23) <|
      .cons [149] (ok_call 28 (fun ν44 => #[.agg #[.int .i64 t37.1.Lo, .int .i64 t37.1.Hi], .agg #[.int .i64 t39.1.Lo, .int .i64 t39.1.Hi]]) (.bool t45) (fun ν44 => (((!t37.2) == false) && (t39.2 == true))) [true, false, false] 149 [] (fun _ w hg _ => interval_Subset.calls (⟨t37.1.Lo, t37.1.Hi⟩ : TInterval) (⟨t39.1.Lo, t39.1.Hi⟩ : TInterval) t45 w (ifp ht45 hg))) <|
      .cons [150] (ok_and 146 149 (fun ν44 => ((!t37.2) == false)) (fun ν44 => ((!t37.2) == false)) (fun ν44 => t39.2) (fun ν44 => t45) 150) <|
      .cons [151] (ok_or 144 150 (fun ν44 => true) (fun ν44 => true) (fun ν44 => (!t37.2)) (fun ν44 => (t39.2 && t45)) 151) <|
      .cons [152] (ok_val (fun ν44 => .bool ((!t37.2) || (t39.2 && t45))) 152) <|
      .cons [153] (ok_valg (fun ν44 => .bool t41.2) (fun ν44 => (((!t37.2) || (t39.2 && t45)) == true)) [true] 153) <|
      .cons [154] (ok_valg (fun ν44 => .bool (!t41.2)) (fun ν44 => (((!t37.2) || (t39.2 && t45)) == true)) [false] 154) <|
      .cons [155] (ok_valg (fun ν44 => .bool (!t41.2)) (fun ν44 => (((!t37.2) || (t39.2 && t45)) == true)) [false] 155) <|
      .cons [156] (ok_valg (fun ν44 => .bool t43.2) (fun ν44 => ((((!t37.2) || (t39.2 && t45)) == true) && ((!t41.2) == false))) [true] 156) <|
      .cons [157] (ok_valg (fun ν44 => .bool t43.2) (fun ν44 => ((((!t37.2) || (t39.2 && t45)) == true) && ((!t41.2) == false))) [false] 157) <|
      .cons [158] (ok_ldg (fun ν44 => .agg #[.int .i64 t41.1.Lo, .int .i64 t41.1.Hi]) (fun ν44 => (((((!t37.2) || (t39.2 && t45)) == true) && ((!t41.2) == false)) && (t43.2 == true))) [true] 158 176 0 2 (fun ν44 => ((ν40 6).n 0)) (fun ν44 => [.int .i64 t41.1.Lo, .int .i64 t41.1.Hi]) 23) <|
      .cons [159] (ok_ldg (fun ν44 => .agg #[.int .i64 t43.1.Lo, .int .i64 t43.1.Hi]) (fun ν44 => (((((!t37.2) || (t39.2 && t45)) == true) && ((!t41.2) == false)) && (t43.2 == true))) [true] 159 177 0 2 (fun ν44 => ((ν42 6).n 0)) (fun ν44 => [.int .i64 t43.1.Lo, .int .i64 t43.1.Hi]) 23) <|
      .cons [160] (ok_call 28 (fun ν44 => #[.agg #[.int .i64 t41.1.Lo, .int .i64 t41.1.Hi], .agg #[.int .i64 t43.1.Lo, .int .i64 t43.1.Hi]]) (.bool t46) (fun ν44 => (((((!t37.2) || (t39.2 && t45)) == true) && ((!t41.2) == false)) && (t43.2 == true))) [true, false, false] 160 [] (fun _ w hg _ => interval_Subset.calls (⟨t41.1.Lo, t41.1.Hi⟩ : TInterval) (⟨t43.1.Lo, t43.1.Hi⟩ : TInterval) t46 w (ifp ht46 hg))) <|
      .cons [161] (ok_and 157 160 (fun ν44 => ((((!t37.2) || (t39.2 && t45)) == true) && ((!t41.2) == false))) (fun ν44 => ((((!t37.2) || (t39.2 && t45)) == true) && ((!t41.2) == false))) (fun ν44 => t43.2) (fun ν44 => t46) 161) <|
      .cons [162] (ok_or 155 161 (fun ν44 => (((!t37.2) || (t39.2 && t45)) == true)) (fun ν44 => (((!t37.2) || (t39.2 && t45)) == true)) (fun ν44 => (!t41.2)) (fun ν44 => (t43.2 && t46)) 162) <|
      .cons [163] (ok_and 152 162 (fun ν44 => true) (fun ν44 => true) (fun ν44 => ((!t37.2) || (t39.2 && t45))) (fun ν44 => ((!t41.2) || (t43.2 && t46))) 163) <|
      .cons [164] (ok_val (fun ν44 => .bool (((!t37.2) || (t39.2 && t45)) && ((!t41.2) || (t43.2 && t46)))) 164) <|
      .cons [165] (ok_valg (fun ν44 => .bool t3) (fun ν44 => ((((!t37.2) || (t39.2 && t45)) && ((!t41.2) || (t43.2 && t46))) == true)) [true] 165) <|
      .cons [166] (ok_and 164 165 (fun ν44 => true) (fun ν44 => true) (fun ν44 => (((!t37.2) || (t39.2 && t45)) && ((!t41.2) || (t43.2 && t46)))) (fun ν44 => t3) 166) <|
      .cons [6] (ok_val (fun ν44 => .bool ((((!t37.2) || (t39.2 && t45)) && ((!t41.2) || (t43.2 && t46))) && t3)) 6) <| .nil) (by kernel_rfl) fun ν44 a w' H => ?_
    replace H := H.toL [(6, .slot true (.bool ((((!t37.2) || (t39.2 && t45)) && ((!t41.2) || (t43.2 && t46))) && t3))), (999999, gk)] (by kernel_rfl)
    refine k_ret ?_
    obtain rfl := Option.some.inj G
    exact k_done0 H _ (by kernel_rfl) (by kernel_rfl)

end Go.Proofs.YtmjnbhigomjjnaaDoor
