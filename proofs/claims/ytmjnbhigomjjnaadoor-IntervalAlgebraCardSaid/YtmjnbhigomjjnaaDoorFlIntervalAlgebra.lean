/- The law IntervalAlgebra answers as the plain Lean function of its name. Printed by a program of this session. -/
import Derived.Test.YtmjnbhigomjjnaaDoorFn2
set_option linter.unusedVariables false
set_option maxRecDepth 100000
namespace Go.Proofs.YtmjnbhigomjjnaaDoor
open Go Go.RowKit Go.Sx Go.Proofs
set_option maxHeartbeats 4000000 in
theorem armillarylaw02_IntervalAlgebra.calls (k0 : Nat) (a0 : TOperands) (r : Bool) (w : World) (hg : Glob w) (G : armillarylaw02_IntervalAlgebra k0 a0 = some r) :
    Calls Tryd.prog 10 #[.agg #[.int .i64 a0.A.Lo, .int .i64 a0.A.Hi, .int .i64 a0.B.Lo, .int .i64 a0.B.Hi, .int .i32 a0.N, .int .u16 a0.D]] w fun e w' => e = .returned (.bool r) ∧ Below w.heap.size w w' := by
  refine k_enterG (args := [.agg #[.int .i64 a0.A.Lo, .int .i64 a0.A.Hi, .int .i64 a0.B.Lo, .int .i64 a0.B.Hi, .int .i32 a0.N, .int .u16 a0.D]]) 153 999999 globFp Glob (glob_local hg) (glob_in hg) Tryd.func10 rfl (by kernel_rfl) (by kernel_rfl) fun a H => ?_
  unfold armillarylaw02_IntervalAlgebra at G
  refine k_seq ?_
  refine k_reg mixed H (.cons [1, 153] (ok_new (fun b => .pointer (some ⟨b, 0, none⟩)) (fun ν1 => [.int .i64 a0.A.Lo, .int .i64 a0.A.Hi, .int .i64 a0.B.Lo, .int .i64 a0.B.Hi, .int .i32 a0.N, .int .u16 a0.D]) 26 1 153) <|
      .cons [2] (ok_val (fun ν1 => .bool false) 2) <| .nil) (by kernel_rfl) fun ν1 a w' H => ?_
  replace H := H.toL [(1, .slot true (.pointer (some ⟨((ν1 0).n 0), 0, none⟩))), (2, .slot true (.bool false)), (153, .blk ((ν1 0).n 0) [.int .i64 a0.A.Lo, .int .i64 a0.A.Hi, .int .i64 a0.B.Lo, .int .i64 a0.B.Hi, .int .i32 a0.N, .int .u16 a0.D] 26), (999999, gk)] (by kernel_rfl)
  refine k_seq ?_
  replace G := bnd G; obtain ⟨t3, ht3, G⟩ := G
  refine k_reg mixed H (.cons [10] (ok_callvG 999999 gk 11 (fun ν2 => #[]) (.bool t3) 10 (fun _ w hg => armillarylaw02_sanity.calls k0 t3 w (glob_of hg) ht3)) <|
      .cons [3] (ok_val (fun ν2 => .bool t3) 3) <| .nil) (by kernel_rfl) fun ν2 a w' H => ?_
  replace H := H.toL [(1, .slot true (.pointer (some ⟨((ν1 0).n 0), 0, none⟩))), (2, .slot true (.bool false)), (3, .slot true (.bool t3)), (153, .blk ((ν1 0).n 0) [.int .i64 a0.A.Lo, .int .i64 a0.A.Hi, .int .i64 a0.B.Lo, .int .i64 a0.B.Hi, .int .i32 a0.N, .int .u16 a0.D] 26), (999999, gk)] (by kernel_rfl)
  refine k_seq ?_
  replace G := bnd G; obtain ⟨t5, ht5, G⟩ := G
  replace G := bnd G; obtain ⟨t6, ht6, G⟩ := G
  refine k_reg mixed H (.cons [11] (ok_val (fun ν4 => .pointer (some ⟨((ν1 0).n 0), 0, none⟩)) 11) <|
      .cons [12] (ok_ld (fun ν4 => .agg #[.int .i64 a0.A.Lo, .int .i64 a0.A.Hi]) 12 153 0 2 (fun ν4 => ((ν1 0).n 0)) (fun ν4 => [.int .i64 a0.A.Lo, .int .i64 a0.A.Hi, .int .i64 a0.B.Lo, .int .i64 a0.B.Hi, .int .i32 a0.N, .int .u16 a0.D]) 26) <|
      .cons [13] (ok_callv 12 (fun ν4 => #[.agg #[.int .i64 a0.A.Lo, .int .i64 a0.A.Hi]]) (.agg #[.int .i64 t5.Lo, .int .i64 t5.Hi]) 13 [] (fun _ w _ => armillaryref02_Made.calls (⟨a0.A.Lo, a0.A.Hi⟩ : TInterval) t5 w ht5)) <|
      .cons [14] (ok_val (fun ν4 => .pointer (some ⟨((ν1 0).n 0), 2, none⟩)) 14) <|
      .cons [15] (ok_ld (fun ν4 => .agg #[.int .i64 a0.B.Lo, .int .i64 a0.B.Hi]) 15 153 2 2 (fun ν4 => ((ν1 0).n 0)) (fun ν4 => [.int .i64 a0.A.Lo, .int .i64 a0.A.Hi, .int .i64 a0.B.Lo, .int .i64 a0.B.Hi, .int .i32 a0.N, .int .u16 a0.D]) 26) <|
      .cons [16] (ok_callv 12 (fun ν4 => #[.agg #[.int .i64 a0.B.Lo, .int .i64 a0.B.Hi]]) (.agg #[.int .i64 t6.Lo, .int .i64 t6.Hi]) 16 [] (fun _ w _ => armillaryref02_Made.calls (⟨a0.B.Lo, a0.B.Hi⟩ : TInterval) t6 w ht6)) <|
      .cons [4, 154] (ok_new (fun b => .pointer (some ⟨b, 0, none⟩)) (fun ν4 => [.int .i64 0, .int .i64 0]) 23 4 154) <|
      .cons [5, 155] (ok_new (fun b => .pointer (some ⟨b, 0, none⟩)) (fun ν4 => [.int .i64 0, .int .i64 0]) 23 5 155) <|
      .cons [154] (ok_as (u' := fun ν4 => [(154, .blk ((ν4 6).n 0) [.int .i64 t5.Lo, .int .i64 t5.Hi] 23)]) (ok_store 154 0 (fun ν4 => ((ν4 6).n 0)) (fun ν4 => [.int .i64 0, .int .i64 0]) (fun ν4 => [.int .i64 t5.Lo, .int .i64 t5.Hi]) 23) (fun _ => by kernel_rfl)) <|
      .cons [155] (ok_as (u' := fun ν4 => [(155, .blk ((ν4 7).n 0) [.int .i64 t6.Lo, .int .i64 t6.Hi] 23)]) (ok_store 155 0 (fun ν4 => ((ν4 7).n 0)) (fun ν4 => [.int .i64 0, .int .i64 0]) (fun ν4 => [.int .i64 t6.Lo, .int .i64 t6.Hi]) 23) (fun _ => by kernel_rfl)) <| .nil) (by kernel_rfl) fun ν4 a w' H => ?_
  replace H := H.toL [(1, .slot true (.pointer (some ⟨((ν1 0).n 0), 0, none⟩))), (2, .slot true (.bool false)), (3, .slot true (.bool t3)), (4, .slot true (.pointer (some ⟨((ν4 6).n 0), 0, none⟩))), (5, .slot true (.pointer (some ⟨((ν4 7).n 0), 0, none⟩))), (153, .blk ((ν1 0).n 0) [.int .i64 a0.A.Lo, .int .i64 a0.A.Hi, .int .i64 a0.B.Lo, .int .i64 a0.B.Hi, .int .i32 a0.N, .int .u16 a0.D] 26), (154, .blk ((ν4 6).n 0) [.int .i64 t5.Lo, .int .i64 t5.Hi] 23), (155, .blk ((ν4 7).n 0) [.int .i64 t6.Lo, .int .i64 t6.Hi] 23), (999999, gk)] (by kernel_rfl)
  refine k_seq ?_
  replace G := bnd G; obtain ⟨t8, ht8, G⟩ := G
  refine k_reg mixed H (.cons [18] (ok_ld (fun ν7 => .agg #[.int .i64 a0.A.Lo, .int .i64 a0.A.Hi, .int .i64 a0.B.Lo, .int .i64 a0.B.Hi, .int .i32 a0.N, .int .u16 a0.D]) 18 153 0 6 (fun ν7 => ((ν1 0).n 0)) (fun ν7 => [.int .i64 a0.A.Lo, .int .i64 a0.A.Hi, .int .i64 a0.B.Lo, .int .i64 a0.B.Hi, .int .i32 a0.N, .int .u16 a0.D]) 26) <|
      .cons [19] (ok_callv 18 (fun ν7 => #[.agg #[.int .i64 a0.A.Lo, .int .i64 a0.A.Hi, .int .i64 a0.B.Lo, .int .i64 a0.B.Hi, .int .i32 a0.N, .int .u16 a0.D]]) (.tuple #[.int .i64 t8.1, .int .i64 t8.2]) 19 [] (fun _ w _ => armillarylaw02_ratio.calls (⟨(⟨a0.A.Lo, a0.A.Hi⟩ : TInterval), (⟨a0.B.Lo, a0.B.Hi⟩ : TInterval), a0.N, a0.D⟩ : TOperands) t8 w ht8)) <|
      .cons [17] (ok_val (fun ν7 => .tuple #[.int .i64 t8.1, .int .i64 t8.2]) 17) <|
      .cons [20] (ok_val (fun ν7 => .int .i64 t8.1) 20) <|
      .cons [21] (ok_val (fun ν7 => .int .i64 t8.2) 21) <|
      .cons [6] (ok_val (fun ν7 => .int .i64 t8.1) 6) <|
      .cons [7] (ok_val (fun ν7 => .int .i64 t8.2) 7) <| .nil) (by kernel_rfl) fun ν7 a w' H => ?_
  replace H := H.toL [(2, .slot true (.bool false)), (3, .slot true (.bool t3)), (4, .slot true (.pointer (some ⟨((ν4 6).n 0), 0, none⟩))), (5, .slot true (.pointer (some ⟨((ν4 7).n 0), 0, none⟩))), (6, .slot true (.int .i64 t8.1)), (7, .slot true (.int .i64 t8.2)), (154, .blk ((ν4 6).n 0) [.int .i64 t5.Lo, .int .i64 t5.Hi] 23), (155, .blk ((ν4 7).n 0) [.int .i64 t6.Lo, .int .i64 t6.Hi] 23), (999999, gk)] (by kernel_rfl)
  refine k_seq ?_
  replace G := bnd G; obtain ⟨t10, ht10, G⟩ := G
  refine k_reg mixed H (.cons [22] (ok_ld (fun ν9 => .agg #[.int .i64 t5.Lo, .int .i64 t5.Hi]) 22 154 0 2 (fun ν9 => ((ν4 6).n 0)) (fun ν9 => [.int .i64 t5.Lo, .int .i64 t5.Hi]) 23) <|
      .cons [23] (ok_ld (fun ν9 => .agg #[.int .i64 t6.Lo, .int .i64 t6.Hi]) 23 155 0 2 (fun ν9 => ((ν4 7).n 0)) (fun ν9 => [.int .i64 t6.Lo, .int .i64 t6.Hi]) 23) <|
      .cons [24] (ok_callvG 999999 gk 15 (fun ν9 => #[.agg #[.int .i64 t5.Lo, .int .i64 t5.Hi], .agg #[.int .i64 t6.Lo, .int .i64 t6.Hi]]) (.agg #[.int .i64 t10.Lo, .int .i64 t10.Hi]) 24 (fun _ w hg => interval_Mul.calls t5 t6 t10 w (glob_of hg) ht10)) <|
      .cons [8, 156] (ok_new (fun b => .pointer (some ⟨b, 0, none⟩)) (fun ν9 => [.int .i64 0, .int .i64 0]) 23 8 156) <|
      .cons [156] (ok_as (u' := fun ν9 => [(156, .blk ((ν9 3).n 0) [.int .i64 t10.Lo, .int .i64 t10.Hi] 23)]) (ok_store 156 0 (fun ν9 => ((ν9 3).n 0)) (fun ν9 => [.int .i64 0, .int .i64 0]) (fun ν9 => [.int .i64 t10.Lo, .int .i64 t10.Hi]) 23) (fun _ => by kernel_rfl)) <| .nil) (by kernel_rfl) fun ν9 a w' H => ?_
  replace H := H.toL [(2, .slot true (.bool false)), (3, .slot true (.bool t3)), (4, .slot true (.pointer (some ⟨((ν4 6).n 0), 0, none⟩))), (5, .slot true (.pointer (some ⟨((ν4 7).n 0), 0, none⟩))), (6, .slot true (.int .i64 t8.1)), (7, .slot true (.int .i64 t8.2)), (8, .slot true (.pointer (some ⟨((ν9 3).n 0), 0, none⟩))), (154, .blk ((ν4 6).n 0) [.int .i64 t5.Lo, .int .i64 t5.Hi] 23), (155, .blk ((ν4 7).n 0) [.int .i64 t6.Lo, .int .i64 t6.Hi] 23), (156, .blk ((ν9 3).n 0) [.int .i64 t10.Lo, .int .i64 t10.Hi] 23), (999999, gk)] (by kernel_rfl)
  refine k_seq ?_
  refine k_seq ?_
  replace G := bnd G; obtain ⟨t12, ht12, G⟩ := G
  replace G := bnd G; obtain ⟨t13, ht13, G⟩ := G
  replace G := bnd G; obtain ⟨t14, ht14, G⟩ := G
  replace G := bnd G; obtain ⟨t15, ht15, G⟩ := G
  replace G := bnd G; obtain ⟨t16, ht16, G⟩ := G
  replace G := bnd G; obtain ⟨t17, ht17, G⟩ := G
  replace G := bnd G; obtain ⟨t18, ht18, G⟩ := G
  replace G := bnd G; obtain ⟨t19, ht19, G⟩ := G
  replace G := bnd G; obtain ⟨t20, ht20, G⟩ := G
  replace G := bnd G; obtain ⟨t21, ht21, G⟩ := G
  replace G := bnd G; obtain ⟨t22, ht22, G⟩ := G
  replace G := bnd G; obtain ⟨t23, ht23, G⟩ := G
  replace G := bnd G; obtain ⟨t24, ht24, G⟩ := G
  replace G := bnd G; obtain ⟨t25, ht25, G⟩ := G
  replace G := bnd G; obtain ⟨t26, ht26, G⟩ := G
  replace G := bnd G; obtain ⟨t27, ht27, G⟩ := G
  replace G := bnd G; obtain ⟨t28, ht28, G⟩ := G
  replace G := bnd G; obtain ⟨t29, ht29, G⟩ := G
  replace G := bnd G; obtain ⟨t30, ht30, G⟩ := G
  replace G := bnd G; obtain ⟨t31, ht31, G⟩ := G
  refine k_reg mixed H (.cons [25] (ok_ld (fun ν11 => .agg #[.int .i64 t5.Lo, .int .i64 t5.Hi]) 25 154 0 2 (fun ν11 => ((ν4 6).n 0)) (fun ν11 => [.int .i64 t5.Lo, .int .i64 t5.Hi]) 23) <|
      .cons [26] (ok_ld (fun ν11 => .agg #[.int .i64 t6.Lo, .int .i64 t6.Hi]) 26 155 0 2 (fun ν11 => ((ν4 7).n 0)) (fun ν11 => [.int .i64 t6.Lo, .int .i64 t6.Hi]) 23) <|
      .cons [27] (ok_callv 14 (fun ν11 => #[.agg #[.int .i64 t5.Lo, .int .i64 t5.Hi], .agg #[.int .i64 t6.Lo, .int .i64 t6.Hi]]) (.agg #[.int .i64 t12.Lo, .int .i64 t12.Hi]) 27 [] (fun _ w _ => interval_Add.calls t5 t6 t12 w ht12)) <|
      .cons [28] (ok_ld (fun ν11 => .agg #[.int .i64 t6.Lo, .int .i64 t6.Hi]) 28 155 0 2 (fun ν11 => ((ν4 7).n 0)) (fun ν11 => [.int .i64 t6.Lo, .int .i64 t6.Hi]) 23) <|
      .cons [29] (ok_ld (fun ν11 => .agg #[.int .i64 t5.Lo, .int .i64 t5.Hi]) 29 154 0 2 (fun ν11 => ((ν4 6).n 0)) (fun ν11 => [.int .i64 t5.Lo, .int .i64 t5.Hi]) 23) <|
      .cons [30] (ok_callv 14 (fun ν11 => #[.agg #[.int .i64 t6.Lo, .int .i64 t6.Hi], .agg #[.int .i64 t5.Lo, .int .i64 t5.Hi]]) (.agg #[.int .i64 t13.Lo, .int .i64 t13.Hi]) 30 [] (fun _ w _ => interval_Add.calls t6 t5 t13 w ht13)) <|
      .cons [31] (ok_callv 31 (fun ν11 => #[.agg #[.int .i64 t12.Lo, .int .i64 t12.Hi], .agg #[.int .i64 t13.Lo, .int .i64 t13.Hi]]) (.bool t14) 31 [] (fun _ w _ => armillaryref02_Same.calls t12 t13 t14 w ht14)) <|
      .cons [32] (ok_val (fun ν11 => .bool (!t14)) 32) <|
      .cons [33] (ok_val (fun ν11 => .bool (!t14)) 33) <|
      .cons [34] (ok_ldg (fun ν11 => .agg #[.int .i64 t10.Lo, .int .i64 t10.Hi]) (fun ν11 => ((!t14) == false)) [true] 34 156 0 2 (fun ν11 => ((ν9 3).n 0)) (fun ν11 => [.int .i64 t10.Lo, .int .i64 t10.Hi]) 23) <|
      .cons [35] (ok_ldg (fun ν11 => .agg #[.int .i64 t6.Lo, .int .i64 t6.Hi]) (fun ν11 => ((!t14) == false)) [true] 35 155 0 2 (fun ν11 => ((ν4 7).n 0)) (fun ν11 => [.int .i64 t6.Lo, .int .i64 t6.Hi]) 23) <|
      .cons [36] (ok_ldg (fun ν11 => .agg #[.int .i64 t5.Lo, .int .i64 t5.Hi]) (fun ν11 => ((!t14) == false)) [true] 36 154 0 2 (fun ν11 => ((ν4 6).n 0)) (fun ν11 => [.int .i64 t5.Lo, .int .i64 t5.Hi]) 23) <|
      .cons [37] (ok_callG 999999 gk 15 (fun ν11 => #[.agg #[.int .i64 t6.Lo, .int .i64 t6.Hi], .agg #[.int .i64 t5.Lo, .int .i64 t5.Hi]]) (.agg #[.int .i64 t15.Lo, .int .i64 t15.Hi]) (fun ν11 => ((!t14) == false)) [true, false, false] 37 (fun _ w hG hg => interval_Mul.calls t6 t5 t15 w (glob_of hG) (ifp ht15 hg))) <|
      .cons [38] (ok_call 31 (fun ν11 => #[.agg #[.int .i64 t10.Lo, .int .i64 t10.Hi], .agg #[.int .i64 t15.Lo, .int .i64 t15.Hi]]) (.bool t16) (fun ν11 => ((!t14) == false)) [true, false, false] 38 [] (fun _ w hg _ => armillaryref02_Same.calls t10 t15 t16 w (ifp ht16 hg))) <|
      .cons [39] (ok_valg (fun ν11 => .bool (!t16)) (fun ν11 => ((!t14) == false)) [false] 39) <|
      .cons [40] (ok_or 33 39 (fun ν11 => true) (fun ν11 => true) (fun ν11 => (!t14)) (fun ν11 => (!t16)) 40) <|
      .cons [41] (ok_val (fun ν11 => .bool ((!t14) || (!t16))) 41) <|
      .cons [42] (ok_ldg (fun ν11 => .agg #[.int .i64 t5.Lo, .int .i64 t5.Hi]) (fun ν11 => (((!t14) || (!t16)) == false)) [true] 42 154 0 2 (fun ν11 => ((ν4 6).n 0)) (fun ν11 => [.int .i64 t5.Lo, .int .i64 t5.Hi]) 23) <|
      .cons [43] (ok_ldg (fun ν11 => .agg #[.int .i64 t6.Lo, .int .i64 t6.Hi]) (fun ν11 => (((!t14) || (!t16)) == false)) [true] 43 155 0 2 (fun ν11 => ((ν4 7).n 0)) (fun ν11 => [.int .i64 t6.Lo, .int .i64 t6.Hi]) 23) <|
      .cons [44] (ok_call 20 (fun ν11 => #[.agg #[.int .i64 t5.Lo, .int .i64 t5.Hi], .agg #[.int .i64 t6.Lo, .int .i64 t6.Hi]]) (.agg #[.int .i64 t17.Lo, .int .i64 t17.Hi]) (fun ν11 => (((!t14) || (!t16)) == false)) [true, false, false] 44 [] (fun _ w hg _ => interval_Sub.calls t5 t6 t17 w (ifp ht17 hg))) <|
      .cons [45] (ok_ldg (fun ν11 => .agg #[.int .i64 t5.Lo, .int .i64 t5.Hi]) (fun ν11 => (((!t14) || (!t16)) == false)) [true] 45 154 0 2 (fun ν11 => ((ν4 6).n 0)) (fun ν11 => [.int .i64 t5.Lo, .int .i64 t5.Hi]) 23) <|
      .cons [46] (ok_ldg (fun ν11 => .agg #[.int .i64 t6.Lo, .int .i64 t6.Hi]) (fun ν11 => (((!t14) || (!t16)) == false)) [true] 46 155 0 2 (fun ν11 => ((ν4 7).n 0)) (fun ν11 => [.int .i64 t6.Lo, .int .i64 t6.Hi]) 23) <|
      .cons [47] (ok_call 21 (fun ν11 => #[.agg #[.int .i64 t6.Lo, .int .i64 t6.Hi]]) (.agg #[.int .i64 t18.Lo, .int .i64 t18.Hi]) (fun ν11 => (((!t14) || (!t16)) == false)) [true, false] 47 [] (fun _ w hg _ => interval_Neg.calls t6 t18 w (ifp ht18 hg))) <|
      .cons [48] (ok_call 14 (fun ν11 => #[.agg #[.int .i64 t5.Lo, .int .i64 t5.Hi], .agg #[.int .i64 t18.Lo, .int .i64 t18.Hi]]) (.agg #[.int .i64 t19.Lo, .int .i64 t19.Hi]) (fun ν11 => (((!t14) || (!t16)) == false)) [true, false, false] 48 [] (fun _ w hg _ => interval_Add.calls t5 t18 t19 w (ifp ht19 hg))) <|
      .cons [49] (ok_call 31 (fun ν11 => #[.agg #[.int .i64 t17.Lo, .int .i64 t17.Hi], .agg #[.int .i64 t19.Lo, .int .i64 t19.Hi]]) (.bool t20) (fun ν11 => (((!t14) || (!t16)) == false)) [true, false, false] 49 [] (fun _ w hg _ => armillaryref02_Same.calls t17 t19 t20 w (ifp ht20 hg))) <|
      .cons [50] (ok_valg (fun ν11 => .bool (!t20)) (fun ν11 => (((!t14) || (!t16)) == false)) [false] 50) <|
      .cons [51] (ok_or 41 50 (fun ν11 => true) (fun ν11 => true) (fun ν11 => ((!t14) || (!t16))) (fun ν11 => (!t20)) 51) <|
      .cons [52] (ok_val (fun ν11 => .bool (((!t14) || (!t16)) || (!t20))) 52) <|
      .cons [53] (ok_ldg (fun ν11 => .agg #[.int .i64 t5.Lo, .int .i64 t5.Hi]) (fun ν11 => ((((!t14) || (!t16)) || (!t20)) == false)) [true] 53 154 0 2 (fun ν11 => ((ν4 6).n 0)) (fun ν11 => [.int .i64 t5.Lo, .int .i64 t5.Hi]) 23) <|
      .cons [54] (ok_call 21 (fun ν11 => #[.agg #[.int .i64 t5.Lo, .int .i64 t5.Hi]]) (.agg #[.int .i64 t21.Lo, .int .i64 t21.Hi]) (fun ν11 => ((((!t14) || (!t16)) || (!t20)) == false)) [true, false] 54 [] (fun _ w hg _ => interval_Neg.calls t5 t21 w (ifp ht21 hg))) <|
      .cons [55] (ok_call 21 (fun ν11 => #[.agg #[.int .i64 t21.Lo, .int .i64 t21.Hi]]) (.agg #[.int .i64 t22.Lo, .int .i64 t22.Hi]) (fun ν11 => ((((!t14) || (!t16)) || (!t20)) == false)) [true, false] 55 [] (fun _ w hg _ => interval_Neg.calls t21 t22 w (ifp ht22 hg))) <|
      .cons [56] (ok_ldg (fun ν11 => .agg #[.int .i64 t5.Lo, .int .i64 t5.Hi]) (fun ν11 => ((((!t14) || (!t16)) || (!t20)) == false)) [true] 56 154 0 2 (fun ν11 => ((ν4 6).n 0)) (fun ν11 => [.int .i64 t5.Lo, .int .i64 t5.Hi]) 23) <|
      .cons [57] (ok_call 31 (fun ν11 => #[.agg #[.int .i64 t22.Lo, .int .i64 t22.Hi], .agg #[.int .i64 t5.Lo, .int .i64 t5.Hi]]) (.bool t23) (fun ν11 => ((((!t14) || (!t16)) || (!t20)) == false)) [true, false, false] 57 [] (fun _ w hg _ => armillaryref02_Same.calls t22 t5 t23 w (ifp ht23 hg))) <|
      .cons [58] (ok_valg (fun ν11 => .bool (!t23)) (fun ν11 => ((((!t14) || (!t16)) || (!t20)) == false)) [false] 58) <|
      .cons [59] (ok_or 52 58 (fun ν11 => true) (fun ν11 => true) (fun ν11 => (((!t14) || (!t16)) || (!t20))) (fun ν11 => (!t23)) 59) <|
      .cons [60] (ok_val (fun ν11 => .bool ((((!t14) || (!t16)) || (!t20)) || (!t23))) 60) <|
      .cons [61] (ok_ldg (fun ν11 => .agg #[.int .i64 t5.Lo, .int .i64 t5.Hi]) (fun ν11 => (((((!t14) || (!t16)) || (!t20)) || (!t23)) == false)) [true] 61 154 0 2 (fun ν11 => ((ν4 6).n 0)) (fun ν11 => [.int .i64 t5.Lo, .int .i64 t5.Hi]) 23) <|
      .cons [62] (ok_call 21 (fun ν11 => #[.agg #[.int .i64 t5.Lo, .int .i64 t5.Hi]]) (.agg #[.int .i64 t24.Lo, .int .i64 t24.Hi]) (fun ν11 => (((((!t14) || (!t16)) || (!t20)) || (!t23)) == false)) [true, false] 62 [] (fun _ w hg _ => interval_Neg.calls t5 t24 w (ifp ht24 hg))) <|
      .cons [63] (ok_ldg (fun ν11 => .agg #[.int .i64 t6.Lo, .int .i64 t6.Hi]) (fun ν11 => (((((!t14) || (!t16)) || (!t20)) || (!t23)) == false)) [true] 63 155 0 2 (fun ν11 => ((ν4 7).n 0)) (fun ν11 => [.int .i64 t6.Lo, .int .i64 t6.Hi]) 23) <|
      .cons [64] (ok_callG 999999 gk 15 (fun ν11 => #[.agg #[.int .i64 t24.Lo, .int .i64 t24.Hi], .agg #[.int .i64 t6.Lo, .int .i64 t6.Hi]]) (.agg #[.int .i64 t25.Lo, .int .i64 t25.Hi]) (fun ν11 => (((((!t14) || (!t16)) || (!t20)) || (!t23)) == false)) [true, false, false] 64 (fun _ w hG hg => interval_Mul.calls t24 t6 t25 w (glob_of hG) (ifp ht25 hg))) <|
      .cons [65] (ok_ldg (fun ν11 => .agg #[.int .i64 t10.Lo, .int .i64 t10.Hi]) (fun ν11 => (((((!t14) || (!t16)) || (!t20)) || (!t23)) == false)) [true] 65 156 0 2 (fun ν11 => ((ν9 3).n 0)) (fun ν11 => [.int .i64 t10.Lo, .int .i64 t10.Hi]) 23) <|
      .cons [66] (ok_call 21 (fun ν11 => #[.agg #[.int .i64 t10.Lo, .int .i64 t10.Hi]]) (.agg #[.int .i64 t26.Lo, .int .i64 t26.Hi]) (fun ν11 => (((((!t14) || (!t16)) || (!t20)) || (!t23)) == false)) [true, false] 66 [] (fun _ w hg _ => interval_Neg.calls t10 t26 w (ifp ht26 hg))) <|
      .cons [67] (ok_call 31 (fun ν11 => #[.agg #[.int .i64 t25.Lo, .int .i64 t25.Hi], .agg #[.int .i64 t26.Lo, .int .i64 t26.Hi]]) (.bool t27) (fun ν11 => (((((!t14) || (!t16)) || (!t20)) || (!t23)) == false)) [true, false, false] 67 [] (fun _ w hg _ => armillaryref02_Same.calls t25 t26 t27 w (ifp ht27 hg))) <|
      .cons [68] (ok_valg (fun ν11 => .bool (!t27)) (fun ν11 => (((((!t14) || (!t16)) || (!t20)) || (!t23)) == false)) [false] 68) <|
      .cons [69] (ok_or 60 68 (fun ν11 => true) (fun ν11 => true) (fun ν11 => ((((!t14) || (!t16)) || (!t20)) || (!t23))) (fun ν11 => (!t27)) 69) <|
      .cons [70] (ok_val (fun ν11 => .bool (((((!t14) || (!t16)) || (!t20)) || (!t23)) || (!t27))) 70) <|
      .cons [71] (ok_ldg (fun ν11 => .agg #[.int .i64 t5.Lo, .int .i64 t5.Hi]) (fun ν11 => ((((((!t14) || (!t16)) || (!t20)) || (!t23)) || (!t27)) == false)) [true] 71 154 0 2 (fun ν11 => ((ν4 6).n 0)) (fun ν11 => [.int .i64 t5.Lo, .int .i64 t5.Hi]) 23) <|
      .cons [72] (ok_call 21 (fun ν11 => #[.agg #[.int .i64 t5.Lo, .int .i64 t5.Hi]]) (.agg #[.int .i64 t28.Lo, .int .i64 t28.Hi]) (fun ν11 => ((((((!t14) || (!t16)) || (!t20)) || (!t23)) || (!t27)) == false)) [true, false] 72 [] (fun _ w hg _ => interval_Neg.calls t5 t28 w (ifp ht28 hg))) <|
      .cons [73] (ok_call 22 (fun ν11 => #[.agg #[.int .i64 t28.Lo, .int .i64 t28.Hi]]) (.agg #[.int .i64 t29.Lo, .int .i64 t29.Hi]) (fun ν11 => ((((((!t14) || (!t16)) || (!t20)) || (!t23)) || (!t27)) == false)) [true, false] 73 [] (fun _ w hg _ => interval_Square.calls t28 t29 w (ifp ht29 hg))) <|
      .cons [74] (ok_ldg (fun ν11 => .agg #[.int .i64 t5.Lo, .int .i64 t5.Hi]) (fun ν11 => ((((((!t14) || (!t16)) || (!t20)) || (!t23)) || (!t27)) == false)) [true] 74 154 0 2 (fun ν11 => ((ν4 6).n 0)) (fun ν11 => [.int .i64 t5.Lo, .int .i64 t5.Hi]) 23) <|
      .cons [75] (ok_call 22 (fun ν11 => #[.agg #[.int .i64 t5.Lo, .int .i64 t5.Hi]]) (.agg #[.int .i64 t30.Lo, .int .i64 t30.Hi]) (fun ν11 => ((((((!t14) || (!t16)) || (!t20)) || (!t23)) || (!t27)) == false)) [true, false] 75 [] (fun _ w hg _ => interval_Square.calls t5 t30 w (ifp ht30 hg))) <|
      .cons [76] (ok_call 31 (fun ν11 => #[.agg #[.int .i64 t29.Lo, .int .i64 t29.Hi], .agg #[.int .i64 t30.Lo, .int .i64 t30.Hi]]) (.bool t31) (fun ν11 => ((((((!t14) || (!t16)) || (!t20)) || (!t23)) || (!t27)) == false)) [true, false, false] 76 [] (fun _ w hg _ => armillaryref02_Same.calls t29 t30 t31 w (ifp ht31 hg))) <|
      .cons [77] (ok_valg (fun ν11 => .bool (!t31)) (fun ν11 => ((((((!t14) || (!t16)) || (!t20)) || (!t23)) || (!t27)) == false)) [false] 77) <|
      .cons [78] (ok_or 70 77 (fun ν11 => true) (fun ν11 => true) (fun ν11 => (((((!t14) || (!t16)) || (!t20)) || (!t23)) || (!t27))) (fun ν11 => (!t31)) 78) <| .nil) (by kernel_rfl) fun ν11 a w' H => ?_
  replace H := H.toL [(2, .slot true (.bool false)), (3, .slot true (.bool t3)), (4, .slot true (.pointer (some ⟨((ν4 6).n 0), 0, none⟩))), (5, .slot true (.pointer (some ⟨((ν4 7).n 0), 0, none⟩))), (6, .slot true (.int .i64 t8.1)), (7, .slot true (.int .i64 t8.2)), (8, .slot true (.pointer (some ⟨((ν9 3).n 0), 0, none⟩))), (78, .slot true (.bool ((((((!t14) || (!t16)) || (!t20)) || (!t23)) || (!t27)) || (!t31)))), (154, .blk ((ν4 6).n 0) [.int .i64 t5.Lo, .int .i64 t5.Hi] 23), (155, .blk ((ν4 7).n 0) [.int .i64 t6.Lo, .int .i64 t6.Hi] 23), (156, .blk ((ν9 3).n 0) [.int .i64 t10.Lo, .int .i64 t10.Hi] 23), (999999, gk)] (by kernel_rfl)
  refine k_cond H (by kernel_rfl) (t := ((((((!t14) || (!t16)) || (!t20)) || (!t23)) || (!t27)) || (!t31))) (by kernel_rfl) (fun c64 => ?_) (fun c64 => ?_)
  · rw [if_pos c64] at G
    refine k_seq ?_
    refine k_reg mixed H (.cons [2] (ok_val (fun ν32 => .bool false) 2) <| .nil) (by kernel_rfl) fun ν32 a w' H => ?_
    replace H := H.toL [(2, .slot true (.bool false)), (3, .slot true (.bool t3)), (4, .slot true (.pointer (some ⟨((ν4 6).n 0), 0, none⟩))), (5, .slot true (.pointer (some ⟨((ν4 7).n 0), 0, none⟩))), (6, .slot true (.int .i64 t8.1)), (7, .slot true (.int .i64 t8.2)), (8, .slot true (.pointer (some ⟨((ν9 3).n 0), 0, none⟩))), (154, .blk ((ν4 6).n 0) [.int .i64 t5.Lo, .int .i64 t5.Hi] 23), (155, .blk ((ν4 7).n 0) [.int .i64 t6.Lo, .int .i64 t6.Hi] 23), (156, .blk ((ν9 3).n 0) [.int .i64 t10.Lo, .int .i64 t10.Hi] 23), (999999, gk)] (by kernel_rfl)
    refine k_ret ?_
    obtain rfl := Option.some.inj G
    exact k_done0 H _ (by kernel_rfl) (by kernel_rfl)
  · rw [if_neg (nt c64)] at G
    refine k_skip ?_
    refine k_seq ?_
    replace G := bnd G; obtain ⟨t34, ht34, G⟩ := G
    refine k_reg mixed H (.cons [79] (ok_ld (fun ν33 => .agg #[.int .i64 t5.Lo, .int .i64 t5.Hi]) 79 154 0 2 (fun ν33 => ((ν4 6).n 0)) (fun ν33 => [.int .i64 t5.Lo, .int .i64 t5.Hi]) 23) <|
      .cons [80] (ok_ld (fun ν33 => .agg #[.int .i64 t6.Lo, .int .i64 t6.Hi]) 80 155 0 2 (fun ν33 => ((ν4 7).n 0)) (fun ν33 => [.int .i64 t6.Lo, .int .i64 t6.Hi]) 23) <|
      .cons [81] (ok_callvG 999999 gk 16 (fun ν33 => #[.agg #[.int .i64 t5.Lo, .int .i64 t5.Hi], .agg #[.int .i64 t6.Lo, .int .i64 t6.Hi]]) (.agg #[.int .i64 t34.Lo, .int .i64 t34.Hi]) 81 (fun _ w hg => interval_Div.calls t5 t6 t34 w (glob_of hg) ht34)) <|
      .cons [9, 157] (ok_new (fun b => .pointer (some ⟨b, 0, none⟩)) (fun ν33 => [.int .i64 0, .int .i64 0]) 23 9 157) <|
      .cons [157] (ok_as (u' := fun ν33 => [(157, .blk ((ν33 3).n 0) [.int .i64 t34.Lo, .int .i64 t34.Hi] 23)]) (ok_store 157 0 (fun ν33 => ((ν33 3).n 0)) (fun ν33 => [.int .i64 0, .int .i64 0]) (fun ν33 => [.int .i64 t34.Lo, .int .i64 t34.Hi]) 23) (fun _ => by kernel_rfl)) <| .nil) (by kernel_rfl) fun ν33 a w' H => ?_
    replace H := H.toL [(2, .slot true (.bool false)), (3, .slot true (.bool t3)), (4, .slot true (.pointer (some ⟨((ν4 6).n 0), 0, none⟩))), (5, .slot true (.pointer (some ⟨((ν4 7).n 0), 0, none⟩))), (6, .slot true (.int .i64 t8.1)), (7, .slot true (.int .i64 t8.2)), (8, .slot true (.pointer (some ⟨((ν9 3).n 0), 0, none⟩))), (9, .slot true (.pointer (some ⟨((ν33 3).n 0), 0, none⟩))), (154, .blk ((ν4 6).n 0) [.int .i64 t5.Lo, .int .i64 t5.Hi] 23), (155, .blk ((ν4 7).n 0) [.int .i64 t6.Lo, .int .i64 t6.Hi] 23), (156, .blk ((ν9 3).n 0) [.int .i64 t10.Lo, .int .i64 t10.Hi] 23), (157, .blk ((ν33 3).n 0) [.int .i64 t34.Lo, .int .i64 t34.Hi] 23), (999999, gk)] (by kernel_rfl)
    refine k_seq ?_
    refine k_seq ?_
    replace G := bnd G; obtain ⟨t36, ht36, G⟩ := G
    replace G := bnd G; obtain ⟨t37, ht37, G⟩ := G
    replace G := bnd G; obtain ⟨t38, ht38, G⟩ := G
    replace G := bnd G; obtain ⟨t39, ht39, G⟩ := G
    replace G := bnd G; obtain ⟨t40, ht40, G⟩ := G
    replace G := bnd G; obtain ⟨t41, ht41, G⟩ := G
    replace G := bnd G; obtain ⟨t42, ht42, G⟩ := G
    replace G := bnd G; obtain ⟨t43, ht43, G⟩ := G
    replace G := bnd G; obtain ⟨t44, ht44, G⟩ := G
    replace G := bnd G; obtain ⟨t45, ht45, G⟩ := G
    replace G := bnd G; obtain ⟨t46, ht46, G⟩ := G
    replace G := bnd G; obtain ⟨t47, ht47, G⟩ := G
    refine k_reg mixed H (.cons [82] (ok_ld (fun ν35 => .agg #[.int .i64 t5.Lo, .int .i64 t5.Hi]) 82 154 0 2 (fun ν35 => ((ν4 6).n 0)) (fun ν35 => [.int .i64 t5.Lo, .int .i64 t5.Hi]) 23) <|
      .cons [83] (ok_callv 21 (fun ν35 => #[.agg #[.int .i64 t5.Lo, .int .i64 t5.Hi]]) (.agg #[.int .i64 t36.Lo, .int .i64 t36.Hi]) 83 [] (fun _ w _ => interval_Neg.calls t5 t36 w ht36)) <|
      .cons [84] (ok_ld (fun ν35 => .agg #[.int .i64 t6.Lo, .int .i64 t6.Hi]) 84 155 0 2 (fun ν35 => ((ν4 7).n 0)) (fun ν35 => [.int .i64 t6.Lo, .int .i64 t6.Hi]) 23) <|
      .cons [85] (ok_callvG 999999 gk 16 (fun ν35 => #[.agg #[.int .i64 t36.Lo, .int .i64 t36.Hi], .agg #[.int .i64 t6.Lo, .int .i64 t6.Hi]]) (.agg #[.int .i64 t37.Lo, .int .i64 t37.Hi]) 85 (fun _ w hg => interval_Div.calls t36 t6 t37 w (glob_of hg) ht37)) <|
      .cons [86] (ok_ld (fun ν35 => .agg #[.int .i64 t34.Lo, .int .i64 t34.Hi]) 86 157 0 2 (fun ν35 => ((ν33 3).n 0)) (fun ν35 => [.int .i64 t34.Lo, .int .i64 t34.Hi]) 23) <|
      .cons [87] (ok_callv 21 (fun ν35 => #[.agg #[.int .i64 t34.Lo, .int .i64 t34.Hi]]) (.agg #[.int .i64 t38.Lo, .int .i64 t38.Hi]) 87 [] (fun _ w _ => interval_Neg.calls t34 t38 w ht38)) <|
      .cons [88] (ok_callv 31 (fun ν35 => #[.agg #[.int .i64 t37.Lo, .int .i64 t37.Hi], .agg #[.int .i64 t38.Lo, .int .i64 t38.Hi]]) (.bool t39) 88 [] (fun _ w _ => armillaryref02_Same.calls t37 t38 t39 w ht39)) <|
      .cons [89] (ok_val (fun ν35 => .bool (!t39)) 89) <|
      .cons [90] (ok_val (fun ν35 => .bool (!t39)) 90) <|
      .cons [91] (ok_ldg (fun ν35 => .agg #[.int .i64 t5.Lo, .int .i64 t5.Hi]) (fun ν35 => ((!t39) == false)) [true] 91 154 0 2 (fun ν35 => ((ν4 6).n 0)) (fun ν35 => [.int .i64 t5.Lo, .int .i64 t5.Hi]) 23) <|
      .cons [92] (ok_ldg (fun ν35 => .agg #[.int .i64 t6.Lo, .int .i64 t6.Hi]) (fun ν35 => ((!t39) == false)) [true] 92 155 0 2 (fun ν35 => ((ν4 7).n 0)) (fun ν35 => [.int .i64 t6.Lo, .int .i64 t6.Hi]) 23) <|
      .cons [93] (ok_call 21 (fun ν35 => #[.agg #[.int .i64 t6.Lo, .int .i64 t6.Hi]]) (.agg #[.int .i64 t40.Lo, .int .i64 t40.Hi]) (fun ν35 => ((!t39) == false)) [true, false] 93 [] (fun _ w hg _ => interval_Neg.calls t6 t40 w (ifp ht40 hg))) <|
      .cons [94] (ok_callG 999999 gk 16 (fun ν35 => #[.agg #[.int .i64 t5.Lo, .int .i64 t5.Hi], .agg #[.int .i64 t40.Lo, .int .i64 t40.Hi]]) (.agg #[.int .i64 t41.Lo, .int .i64 t41.Hi]) (fun ν35 => ((!t39) == false)) [true, false, false] 94 (fun _ w hG hg => interval_Div.calls t5 t40 t41 w (glob_of hG) (ifp ht41 hg))) <|
      .cons [95] (ok_ldg (fun ν35 => .agg #[.int .i64 t34.Lo, .int .i64 t34.Hi]) (fun ν35 => ((!t39) == false)) [true] 95 157 0 2 (fun ν35 => ((ν33 3).n 0)) (fun ν35 => [.int .i64 t34.Lo, .int .i64 t34.Hi]) 23) <|
      .cons [96] (ok_call 21 (fun ν35 => #[.agg #[.int .i64 t34.Lo, .int .i64 t34.Hi]]) (.agg #[.int .i64 t42.Lo, .int .i64 t42.Hi]) (fun ν35 => ((!t39) == false)) [true, false] 96 [] (fun _ w hg _ => interval_Neg.calls t34 t42 w (ifp ht42 hg))) <|
      .cons [97] (ok_call 31 (fun ν35 => #[.agg #[.int .i64 t41.Lo, .int .i64 t41.Hi], .agg #[.int .i64 t42.Lo, .int .i64 t42.Hi]]) (.bool t43) (fun ν35 => ((!t39) == false)) [true, false, false] 97 [] (fun _ w hg _ => armillaryref02_Same.calls t41 t42 t43 w (ifp ht43 hg))) <|
      .cons [98] (ok_valg (fun ν35 => .bool (!t43)) (fun ν35 => ((!t39) == false)) [false] 98) <|
      .cons [99] (ok_or 90 98 (fun ν35 => true) (fun ν35 => true) (fun ν35 => (!t39)) (fun ν35 => (!t43)) 99) <|
      .cons [100] (ok_val (fun ν35 => .bool ((!t39) || (!t43))) 100) <|
      .cons [101] (ok_ldg (fun ν35 => .agg #[.int .i64 t5.Lo, .int .i64 t5.Hi]) (fun ν35 => (((!t39) || (!t43)) == false)) [true] 101 154 0 2 (fun ν35 => ((ν4 6).n 0)) (fun ν35 => [.int .i64 t5.Lo, .int .i64 t5.Hi]) 23) <|
      .cons [102] (ok_valg (fun ν35 => .int .i64 t8.1) (fun ν35 => (((!t39) || (!t43)) == false)) [true] 102) <|
      .cons [103] (ok_valg (fun ν35 => .int .i64 (w_i64 (0 - t8.1))) (fun ν35 => (((!t39) || (!t43)) == false)) [false] 103) <|
      .cons [104] (ok_valg (fun ν35 => .int .i64 t8.2) (fun ν35 => (((!t39) || (!t43)) == false)) [true] 104) <|
      .cons [105] (ok_call 23 (fun ν35 => #[.agg #[.int .i64 t5.Lo, .int .i64 t5.Hi], .int .i64 (w_i64 (0 - t8.1)), .int .i64 t8.2]) (.agg #[.int .i64 t44.Lo, .int .i64 t44.Hi]) (fun ν35 => (((!t39) || (!t43)) == false)) [true, false, false, false] 105 [] (fun _ w hg _ => interval_MulRatio.calls t5 (w_i64 (0 - t8.1)) t8.2 t44 w (ifp ht44 hg))) <|
      .cons [106] (ok_ldg (fun ν35 => .agg #[.int .i64 t5.Lo, .int .i64 t5.Hi]) (fun ν35 => (((!t39) || (!t43)) == false)) [true] 106 154 0 2 (fun ν35 => ((ν4 6).n 0)) (fun ν35 => [.int .i64 t5.Lo, .int .i64 t5.Hi]) 23) <|
      .cons [107] (ok_valg (fun ν35 => .int .i64 t8.1) (fun ν35 => (((!t39) || (!t43)) == false)) [true] 107) <|
      .cons [108] (ok_valg (fun ν35 => .int .i64 t8.2) (fun ν35 => (((!t39) || (!t43)) == false)) [true] 108) <|
      .cons [109] (ok_call 23 (fun ν35 => #[.agg #[.int .i64 t5.Lo, .int .i64 t5.Hi], .int .i64 t8.1, .int .i64 t8.2]) (.agg #[.int .i64 t45.Lo, .int .i64 t45.Hi]) (fun ν35 => (((!t39) || (!t43)) == false)) [true, false, false, false] 109 [] (fun _ w hg _ => interval_MulRatio.calls t5 t8.1 t8.2 t45 w (ifp ht45 hg))) <|
      .cons [110] (ok_call 21 (fun ν35 => #[.agg #[.int .i64 t45.Lo, .int .i64 t45.Hi]]) (.agg #[.int .i64 t46.Lo, .int .i64 t46.Hi]) (fun ν35 => (((!t39) || (!t43)) == false)) [true, false] 110 [] (fun _ w hg _ => interval_Neg.calls t45 t46 w (ifp ht46 hg))) <|
      .cons [111] (ok_call 31 (fun ν35 => #[.agg #[.int .i64 t44.Lo, .int .i64 t44.Hi], .agg #[.int .i64 t46.Lo, .int .i64 t46.Hi]]) (.bool t47) (fun ν35 => (((!t39) || (!t43)) == false)) [true, false, false] 111 [] (fun _ w hg _ => armillaryref02_Same.calls t44 t46 t47 w (ifp ht47 hg))) <|
      .cons [112] (ok_valg (fun ν35 => .bool (!t47)) (fun ν35 => (((!t39) || (!t43)) == false)) [false] 112) <|
      .cons [113] (ok_or 100 112 (fun ν35 => true) (fun ν35 => true) (fun ν35 => ((!t39) || (!t43))) (fun ν35 => (!t47)) 113) <| .nil) (by kernel_rfl) fun ν35 a w' H => ?_
    replace H := H.toL [(2, .slot true (.bool false)), (3, .slot true (.bool t3)), (4, .slot true (.pointer (some ⟨((ν4 6).n 0), 0, none⟩))), (7, .slot true (.int .i64 t8.2)), (8, .slot true (.pointer (some ⟨((ν9 3).n 0), 0, none⟩))), (9, .slot true (.pointer (some ⟨((ν33 3).n 0), 0, none⟩))), (113, .slot true (.bool (((!t39) || (!t43)) || (!t47)))), (154, .blk ((ν4 6).n 0) [.int .i64 t5.Lo, .int .i64 t5.Hi] 23), (156, .blk ((ν9 3).n 0) [.int .i64 t10.Lo, .int .i64 t10.Hi] 23), (157, .blk ((ν33 3).n 0) [.int .i64 t34.Lo, .int .i64 t34.Hi] 23), (999999, gk)] (by kernel_rfl)
    refine k_cond H (by kernel_rfl) (t := (((!t39) || (!t43)) || (!t47))) (by kernel_rfl) (fun c63 => ?_) (fun c63 => ?_)
    · rw [if_pos c63] at G
      refine k_seq ?_
      refine k_reg mixed H (.cons [2] (ok_val (fun ν48 => .bool false) 2) <| .nil) (by kernel_rfl) fun ν48 a w' H => ?_
      replace H := H.toL [(2, .slot true (.bool false)), (3, .slot true (.bool t3)), (4, .slot true (.pointer (some ⟨((ν4 6).n 0), 0, none⟩))), (7, .slot true (.int .i64 t8.2)), (8, .slot true (.pointer (some ⟨((ν9 3).n 0), 0, none⟩))), (9, .slot true (.pointer (some ⟨((ν33 3).n 0), 0, none⟩))), (154, .blk ((ν4 6).n 0) [.int .i64 t5.Lo, .int .i64 t5.Hi] 23), (156, .blk ((ν9 3).n 0) [.int .i64 t10.Lo, .int .i64 t10.Hi] 23), (157, .blk ((ν33 3).n 0) [.int .i64 t34.Lo, .int .i64 t34.Hi] 23), (999999, gk)] (by kernel_rfl)
      refine k_ret ?_
      obtain rfl := Option.some.inj G
      exact k_done0 H _ (by kernel_rfl) (by kernel_rfl)
    · rw [if_neg (nt c63)] at G
      refine k_skip ?_
      refine k_seq ?_
      replace G := bnd G; obtain ⟨t50, ht50, G⟩ := G
      replace G := bnd G; obtain ⟨t51, ht51, G⟩ := G
      replace G := bnd G; obtain ⟨t52, ht52, G⟩ := G
      replace G := bnd G; obtain ⟨t53, ht53, G⟩ := G
      replace G := bnd G; obtain ⟨t54, ht54, G⟩ := G
      replace G := bnd G; obtain ⟨t55, ht55, G⟩ := G
      replace G := bnd G; obtain ⟨t56, ht56, G⟩ := G
      replace G := bnd G; obtain ⟨t57, ht57, G⟩ := G
      replace G := bnd G; obtain ⟨t58, ht58, G⟩ := G
      replace G := bnd G; obtain ⟨t59, ht59, G⟩ := G
      replace G := bnd G; obtain ⟨t60, ht60, G⟩ := G
      replace G := bnd G; obtain ⟨t61, ht61, G⟩ := G
      replace G := bnd G; obtain ⟨t62, ht62, G⟩ := G
      refine k_reg mixed H (.cons [114] (ok_ld (fun ν49 => .agg #[.int .i64 t5.Lo, .int .i64 t5.Hi]) 114 154 0 2 (fun ν49 => ((ν4 6).n 0)) (fun ν49 => [.int .i64 t5.Lo, .int .i64 t5.Hi]) 23) <|
      .cons [115] (ok_callv 52 (fun ν49 => #[.int .i64 65536]) (.agg #[.int .i64 t50.Lo, .int .i64 t50.Hi]) 115 [] (fun _ w _ => interval_Point.calls 65536 t50 w ht50)) <|
      .cons [116] (ok_callvG 999999 gk 15 (fun ν49 => #[.agg #[.int .i64 t5.Lo, .int .i64 t5.Hi], .agg #[.int .i64 t50.Lo, .int .i64 t50.Hi]]) (.agg #[.int .i64 t51.Lo, .int .i64 t51.Hi]) 116 (fun _ w hg => interval_Mul.calls t5 t50 t51 w (glob_of hg) ht51)) <|
      .cons [117] (ok_ld (fun ν49 => .agg #[.int .i64 t5.Lo, .int .i64 t5.Hi]) 117 154 0 2 (fun ν49 => ((ν4 6).n 0)) (fun ν49 => [.int .i64 t5.Lo, .int .i64 t5.Hi]) 23) <|
      .cons [118] (ok_callv 31 (fun ν49 => #[.agg #[.int .i64 t51.Lo, .int .i64 t51.Hi], .agg #[.int .i64 t5.Lo, .int .i64 t5.Hi]]) (.bool t52) 118 [] (fun _ w _ => armillaryref02_Same.calls t51 t5 t52 w ht52)) <|
      .cons [119] (ok_val (fun ν49 => .bool t52) 119) <|
      .cons [120] (ok_ldg (fun ν49 => .agg #[.int .i64 t5.Lo, .int .i64 t5.Hi]) (fun ν49 => (t52 == true)) [true] 120 154 0 2 (fun ν49 => ((ν4 6).n 0)) (fun ν49 => [.int .i64 t5.Lo, .int .i64 t5.Hi]) 23) <|
      .cons [121] (ok_call 52 (fun ν49 => #[.int .i64 0]) (.agg #[.int .i64 t53.Lo, .int .i64 t53.Hi]) (fun ν49 => (t52 == true)) [true, true] 121 [] (fun _ w hg _ => interval_Point.calls 0 t53 w (ifp ht53 hg))) <|
      .cons [122] (ok_call 14 (fun ν49 => #[.agg #[.int .i64 t5.Lo, .int .i64 t5.Hi], .agg #[.int .i64 t53.Lo, .int .i64 t53.Hi]]) (.agg #[.int .i64 t54.Lo, .int .i64 t54.Hi]) (fun ν49 => (t52 == true)) [true, false, false] 122 [] (fun _ w hg _ => interval_Add.calls t5 t53 t54 w (ifp ht54 hg))) <|
      .cons [123] (ok_ldg (fun ν49 => .agg #[.int .i64 t5.Lo, .int .i64 t5.Hi]) (fun ν49 => (t52 == true)) [true] 123 154 0 2 (fun ν49 => ((ν4 6).n 0)) (fun ν49 => [.int .i64 t5.Lo, .int .i64 t5.Hi]) 23) <|
      .cons [124] (ok_call 31 (fun ν49 => #[.agg #[.int .i64 t54.Lo, .int .i64 t54.Hi], .agg #[.int .i64 t5.Lo, .int .i64 t5.Hi]]) (.bool t55) (fun ν49 => (t52 == true)) [true, false, false] 124 [] (fun _ w hg _ => armillaryref02_Same.calls t54 t5 t55 w (ifp ht55 hg))) <|
      .cons [125] (ok_and 119 124 (fun ν49 => true) (fun ν49 => true) (fun ν49 => t52) (fun ν49 => t55) 125) <|
      .cons [126] (ok_val (fun ν49 => .bool (t52 && t55)) 126) <|
      .cons [127] (ok_ldg (fun ν49 => .agg #[.int .i64 t5.Lo, .int .i64 t5.Hi]) (fun ν49 => ((t52 && t55) == true)) [true] 127 154 0 2 (fun ν49 => ((ν4 6).n 0)) (fun ν49 => [.int .i64 t5.Lo, .int .i64 t5.Hi]) 23) <|
      .cons [128] (ok_valg (fun ν49 => .int .i64 t8.2) (fun ν49 => ((t52 && t55) == true)) [true] 128) <|
      .cons [129] (ok_valg (fun ν49 => .int .i64 t8.2) (fun ν49 => ((t52 && t55) == true)) [true] 129) <|
      .cons [130] (ok_call 23 (fun ν49 => #[.agg #[.int .i64 t5.Lo, .int .i64 t5.Hi], .int .i64 t8.2, .int .i64 t8.2]) (.agg #[.int .i64 t56.Lo, .int .i64 t56.Hi]) (fun ν49 => ((t52 && t55) == true)) [true, false, false, false] 130 [] (fun _ w hg _ => interval_MulRatio.calls t5 t8.2 t8.2 t56 w (ifp ht56 hg))) <|
      .cons [131] (ok_ldg (fun ν49 => .agg #[.int .i64 t5.Lo, .int .i64 t5.Hi]) (fun ν49 => ((t52 && t55) == true)) [true] 131 154 0 2 (fun ν49 => ((ν4 6).n 0)) (fun ν49 => [.int .i64 t5.Lo, .int .i64 t5.Hi]) 23) <|
      .cons [132] (ok_call 31 (fun ν49 => #[.agg #[.int .i64 t56.Lo, .int .i64 t56.Hi], .agg #[.int .i64 t5.Lo, .int .i64 t5.Hi]]) (.bool t57) (fun ν49 => ((t52 && t55) == true)) [true, false, false] 132 [] (fun _ w hg _ => armillaryref02_Same.calls t56 t5 t57 w (ifp ht57 hg))) <|
      .cons [133] (ok_and 126 132 (fun ν49 => true) (fun ν49 => true) (fun ν49 => (t52 && t55)) (fun ν49 => t57) 133) <|
      .cons [134] (ok_val (fun ν49 => .bool ((t52 && t55) && t57)) 134) <|
      .cons [135] (ok_ldg (fun ν49 => .agg #[.int .i64 t5.Lo, .int .i64 t5.Hi]) (fun ν49 => (((t52 && t55) && t57) == true)) [true] 135 154 0 2 (fun ν49 => ((ν4 6).n 0)) (fun ν49 => [.int .i64 t5.Lo, .int .i64 t5.Hi]) 23) <|
      .cons [136] (ok_call 22 (fun ν49 => #[.agg #[.int .i64 t5.Lo, .int .i64 t5.Hi]]) (.agg #[.int .i64 t58.Lo, .int .i64 t58.Hi]) (fun ν49 => (((t52 && t55) && t57) == true)) [true, false] 136 [] (fun _ w hg _ => interval_Square.calls t5 t58 w (ifp ht58 hg))) <|
      .cons [137] (ok_ldg (fun ν49 => .agg #[.int .i64 t5.Lo, .int .i64 t5.Hi]) (fun ν49 => (((t52 && t55) && t57) == true)) [true] 137 154 0 2 (fun ν49 => ((ν4 6).n 0)) (fun ν49 => [.int .i64 t5.Lo, .int .i64 t5.Hi]) 23) <|
      .cons [138] (ok_ldg (fun ν49 => .agg #[.int .i64 t5.Lo, .int .i64 t5.Hi]) (fun ν49 => (((t52 && t55) && t57) == true)) [true] 138 154 0 2 (fun ν49 => ((ν4 6).n 0)) (fun ν49 => [.int .i64 t5.Lo, .int .i64 t5.Hi]) 23) <|
      .cons [139] (ok_callG 999999 gk 15 (fun ν49 => #[.agg #[.int .i64 t5.Lo, .int .i64 t5.Hi], .agg #[.int .i64 t5.Lo, .int .i64 t5.Hi]]) (.agg #[.int .i64 t59.Lo, .int .i64 t59.Hi]) (fun ν49 => (((t52 && t55) && t57) == true)) [true, false, false] 139 (fun _ w hG hg => interval_Mul.calls t5 t5 t59 w (glob_of hG) (ifp ht59 hg))) <|
      .cons [140] (ok_call 28 (fun ν49 => #[.agg #[.int .i64 t58.Lo, .int .i64 t58.Hi], .agg #[.int .i64 t59.Lo, .int .i64 t59.Hi]]) (.bool t60) (fun ν49 => (((t52 && t55) && t57) == true)) [true, false, false] 140 [] (fun _ w hg _ => interval_Subset.calls t58 t59 t60 w (ifp ht60 hg))) <|
      .cons [141] (ok_and 134 140 (fun ν49 => true) (fun ν49 => true) (fun ν49 => ((t52 && t55) && t57)) (fun ν49 => t60) 141) <|
      .cons [142] (ok_val (fun ν49 => .bool (((t52 && t55) && t57) && t60)) 142) <|
      .cons [143] (ok_ldg (fun ν49 => .agg #[.int .i64 t10.Lo, .int .i64 t10.Hi]) (fun ν49 => ((((t52 && t55) && t57) && t60) == true)) [true] 143 156 0 2 (fun ν49 => ((ν9 3).n 0)) (fun ν49 => [.int .i64 t10.Lo, .int .i64 t10.Hi]) 23) <|
      .cons [144] (ok_call 32 (fun ν49 => #[.agg #[.int .i64 t10.Lo, .int .i64 t10.Hi]]) (.bool t61) (fun ν49 => ((((t52 && t55) && t57) && t60) == true)) [true, false] 144 [] (fun _ w hg _ => interval_Valid.calls t10 t61 w (ifp ht61 hg))) <|
      .cons [145] (ok_and 142 144 (fun ν49 => true) (fun ν49 => true) (fun ν49 => (((t52 && t55) && t57) && t60)) (fun ν49 => t61) 145) <|
      .cons [146] (ok_val (fun ν49 => .bool ((((t52 && t55) && t57) && t60) && t61)) 146) <|
      .cons [147] (ok_ldg (fun ν49 => .agg #[.int .i64 t34.Lo, .int .i64 t34.Hi]) (fun ν49 => (((((t52 && t55) && t57) && t60) && t61) == true)) [true] 147 157 0 2 (fun ν49 => ((ν33 3).n 0)) (fun ν49 => [.int .i64 t34.Lo, .int .i64 t34.Hi]) 23) <|
      .cons [148] (ok_call 32 (fun ν49 => #[.agg #[.int .i64 t34.Lo, .int .i64 t34.Hi]]) (.bool t62) (fun ν49 => (((((t52 && t55) && t57) && t60) && t61) == true)) [true, false] 148 [] (fun _ w hg _ => interval_Valid.calls t34 t62 w (ifp ht62 hg))) <|
      .cons [149] (ok_and 146 148 (fun ν49 => true) (fun ν49 => true) (fun ν49 => ((((t52 && t55) && t57) && t60) && t61)) (fun ν49 => t62) 149) <|
      .cons [150] (ok_val (fun ν49 => .bool (((((t52 && t55) && t57) && t60) && t61) && t62)) 150) <|
      .cons [151] (ok_valg (fun ν49 => .bool t3) (fun ν49 => ((((((t52 && t55) && t57) && t60) && t61) && t62) == true)) [true] 151) <|
      .cons [152] (ok_and 150 151 (fun ν49 => true) (fun ν49 => true) (fun ν49 => (((((t52 && t55) && t57) && t60) && t61) && t62)) (fun ν49 => t3) 152) <|
      .cons [2] (ok_val (fun ν49 => .bool ((((((t52 && t55) && t57) && t60) && t61) && t62) && t3)) 2) <| .nil) (by kernel_rfl) fun ν49 a w' H => ?_
      replace H := H.toL [(2, .slot true (.bool ((((((t52 && t55) && t57) && t60) && t61) && t62) && t3))), (999999, gk)] (by kernel_rfl)
      refine k_ret ?_
      obtain rfl := Option.some.inj G
      exact k_done0 H _ (by kernel_rfl) (by kernel_rfl)

end Go.Proofs.YtmjnbhigomjjnaaDoor
