/- The law IntervalInclusion answers as the plain Lean function of its name. Printed by a program of this session. -/
import Derived.Test.YtmjnbhigomjjnaaDoorFn2
set_option linter.unusedVariables false
set_option maxRecDepth 100000
namespace Go.Proofs.YtmjnbhigomjjnaaDoor
open Go Go.RowKit Go.Sx Go.Proofs
set_option maxHeartbeats 4000000 in
theorem armillarylaw02_IntervalInclusion.calls (k0 : Nat) (a0 : TOperands) (a1 : Int) (a2 : Int) (r : Bool) (w : World) (hg : Glob w) (G : armillarylaw02_IntervalInclusion k0 a0 a1 a2 = some r) :
    Calls Tryd.prog 3 #[.agg #[.int .i64 a0.A.Lo, .int .i64 a0.A.Hi, .int .i64 a0.B.Lo, .int .i64 a0.B.Hi, .int .i32 a0.N, .int .u16 a0.D], .int .u32 a1, .int .u32 a2] w fun e w' => e = .returned (.bool r) ∧ Below w.heap.size w w' := by
  refine k_enterG (args := [.agg #[.int .i64 a0.A.Lo, .int .i64 a0.A.Hi, .int .i64 a0.B.Lo, .int .i64 a0.B.Hi, .int .i32 a0.N, .int .u16 a0.D], .int .u32 a1, .int .u32 a2]) 176 999999 globFp Glob (glob_local hg) (glob_in hg) Tryd.func3 rfl (by kernel_rfl) (by kernel_rfl) fun a H => ?_
  unfold armillarylaw02_IntervalInclusion at G
  refine k_seq ?_
  refine k_reg mixed H (.cons [3, 176] (ok_new (fun b => .pointer (some ⟨b, 0, none⟩)) (fun ν1 => [.int .i64 a0.A.Lo, .int .i64 a0.A.Hi, .int .i64 a0.B.Lo, .int .i64 a0.B.Hi, .int .i32 a0.N, .int .u16 a0.D]) 26 3 176) <|
      .cons [6] (ok_val (fun ν1 => .bool false) 6) <| .nil) (by kernel_rfl) fun ν1 a w' H => ?_
  replace H := H.toL [(1, .slot true (.int .u32 a1)), (2, .slot true (.int .u32 a2)), (3, .slot true (.pointer (some ⟨((ν1 0).n 0), 0, none⟩))), (6, .slot true (.bool false)), (176, .blk ((ν1 0).n 0) [.int .i64 a0.A.Lo, .int .i64 a0.A.Hi, .int .i64 a0.B.Lo, .int .i64 a0.B.Hi, .int .i32 a0.N, .int .u16 a0.D] 26), (999999, gk)] (by kernel_rfl)
  refine k_seq ?_
  replace G := bnd G; obtain ⟨t3, ht3, G⟩ := G
  refine k_reg mixed H (.cons [16] (ok_callvG 999999 gk 11 (fun ν2 => #[]) (.bool t3) 16 (fun _ w hg => armillarylaw02_sanity.calls k0 t3 w (glob_of hg) ht3)) <|
      .cons [7] (ok_val (fun ν2 => .bool t3) 7) <| .nil) (by kernel_rfl) fun ν2 a w' H => ?_
  replace H := H.toL [(1, .slot true (.int .u32 a1)), (2, .slot true (.int .u32 a2)), (3, .slot true (.pointer (some ⟨((ν1 0).n 0), 0, none⟩))), (6, .slot true (.bool false)), (7, .slot true (.bool t3)), (176, .blk ((ν1 0).n 0) [.int .i64 a0.A.Lo, .int .i64 a0.A.Hi, .int .i64 a0.B.Lo, .int .i64 a0.B.Hi, .int .i32 a0.N, .int .u16 a0.D] 26), (999999, gk)] (by kernel_rfl)
  refine k_seq ?_
  replace G := bnd G; obtain ⟨t5, ht5, G⟩ := G
  replace G := bnd G; obtain ⟨t6, ht6, G⟩ := G
  refine k_reg mixed H (.cons [17] (ok_val (fun ν4 => .pointer (some ⟨((ν1 0).n 0), 0, none⟩)) 17) <|
      .cons [18] (ok_ld (fun ν4 => .agg #[.int .i64 a0.A.Lo, .int .i64 a0.A.Hi]) 18 176 0 2 (fun ν4 => ((ν1 0).n 0)) (fun ν4 => [.int .i64 a0.A.Lo, .int .i64 a0.A.Hi, .int .i64 a0.B.Lo, .int .i64 a0.B.Hi, .int .i32 a0.N, .int .u16 a0.D]) 26) <|
      .cons [19] (ok_callv 12 (fun ν4 => #[.agg #[.int .i64 a0.A.Lo, .int .i64 a0.A.Hi]]) (.agg #[.int .i64 t5.Lo, .int .i64 t5.Hi]) 19 [] (fun _ w _ => armillaryref02_Made.calls (⟨a0.A.Lo, a0.A.Hi⟩ : TInterval) t5 w ht5)) <|
      .cons [20] (ok_val (fun ν4 => .pointer (some ⟨((ν1 0).n 0), 2, none⟩)) 20) <|
      .cons [21] (ok_ld (fun ν4 => .agg #[.int .i64 a0.B.Lo, .int .i64 a0.B.Hi]) 21 176 2 2 (fun ν4 => ((ν1 0).n 0)) (fun ν4 => [.int .i64 a0.A.Lo, .int .i64 a0.A.Hi, .int .i64 a0.B.Lo, .int .i64 a0.B.Hi, .int .i32 a0.N, .int .u16 a0.D]) 26) <|
      .cons [22] (ok_callv 12 (fun ν4 => #[.agg #[.int .i64 a0.B.Lo, .int .i64 a0.B.Hi]]) (.agg #[.int .i64 t6.Lo, .int .i64 t6.Hi]) 22 [] (fun _ w _ => armillaryref02_Made.calls (⟨a0.B.Lo, a0.B.Hi⟩ : TInterval) t6 w ht6)) <|
      .cons [8, 177] (ok_new (fun b => .pointer (some ⟨b, 0, none⟩)) (fun ν4 => [.int .i64 0, .int .i64 0]) 23 8 177) <|
      .cons [9, 178] (ok_new (fun b => .pointer (some ⟨b, 0, none⟩)) (fun ν4 => [.int .i64 0, .int .i64 0]) 23 9 178) <|
      .cons [177] (ok_as (u' := fun ν4 => [(177, .blk ((ν4 6).n 0) [.int .i64 t5.Lo, .int .i64 t5.Hi] 23)]) (ok_store 177 0 (fun ν4 => ((ν4 6).n 0)) (fun ν4 => [.int .i64 0, .int .i64 0]) (fun ν4 => [.int .i64 t5.Lo, .int .i64 t5.Hi]) 23) (fun _ => by kernel_rfl)) <|
      .cons [178] (ok_as (u' := fun ν4 => [(178, .blk ((ν4 7).n 0) [.int .i64 t6.Lo, .int .i64 t6.Hi] 23)]) (ok_store 178 0 (fun ν4 => ((ν4 7).n 0)) (fun ν4 => [.int .i64 0, .int .i64 0]) (fun ν4 => [.int .i64 t6.Lo, .int .i64 t6.Hi]) 23) (fun _ => by kernel_rfl)) <| .nil) (by kernel_rfl) fun ν4 a w' H => ?_
  replace H := H.toL [(1, .slot true (.int .u32 a1)), (2, .slot true (.int .u32 a2)), (3, .slot true (.pointer (some ⟨((ν1 0).n 0), 0, none⟩))), (6, .slot true (.bool false)), (7, .slot true (.bool t3)), (8, .slot true (.pointer (some ⟨((ν4 6).n 0), 0, none⟩))), (9, .slot true (.pointer (some ⟨((ν4 7).n 0), 0, none⟩))), (176, .blk ((ν1 0).n 0) [.int .i64 a0.A.Lo, .int .i64 a0.A.Hi, .int .i64 a0.B.Lo, .int .i64 a0.B.Hi, .int .i32 a0.N, .int .u16 a0.D] 26), (177, .blk ((ν4 6).n 0) [.int .i64 t5.Lo, .int .i64 t5.Hi] 23), (178, .blk ((ν4 7).n 0) [.int .i64 t6.Lo, .int .i64 t6.Hi] 23), (999999, gk)] (by kernel_rfl)
  refine k_seq ?_
  refine k_seq ?_
  replace G := bnd G; obtain ⟨t8, ht8, G⟩ := G
  replace G := bnd G; obtain ⟨t9, ht9, G⟩ := G
  refine k_reg mixed H (.cons [23] (ok_ld (fun ν7 => .agg #[.int .i64 t5.Lo, .int .i64 t5.Hi]) 23 177 0 2 (fun ν7 => ((ν4 6).n 0)) (fun ν7 => [.int .i64 t5.Lo, .int .i64 t5.Hi]) 23) <|
      .cons [24] (ok_callv 13 (fun ν7 => #[.agg #[.int .i64 t5.Lo, .int .i64 t5.Hi]]) (.bool t8) 24 [] (fun _ w _ => armillaryref02_IsEntire.calls t5 t8 w ht8)) <|
      .cons [25] (ok_val (fun ν7 => .bool t8) 25) <|
      .cons [26] (ok_ldg (fun ν7 => .agg #[.int .i64 t6.Lo, .int .i64 t6.Hi]) (fun ν7 => (t8 == false)) [true] 26 178 0 2 (fun ν7 => ((ν4 7).n 0)) (fun ν7 => [.int .i64 t6.Lo, .int .i64 t6.Hi]) 23) <|
      .cons [27] (ok_call 13 (fun ν7 => #[.agg #[.int .i64 t6.Lo, .int .i64 t6.Hi]]) (.bool t9) (fun ν7 => (t8 == false)) [true, false] 27 [] (fun _ w hg _ => armillaryref02_IsEntire.calls t6 t9 w (ifp ht9 hg))) <|
      .cons [28] (ok_or 25 27 (fun ν7 => true) (fun ν7 => true) (fun ν7 => t8) (fun ν7 => t9) 28) <| .nil) (by kernel_rfl) fun ν7 a w' H => ?_
  replace H := H.toL [(1, .slot true (.int .u32 a1)), (2, .slot true (.int .u32 a2)), (3, .slot true (.pointer (some ⟨((ν1 0).n 0), 0, none⟩))), (6, .slot true (.bool false)), (7, .slot true (.bool t3)), (8, .slot true (.pointer (some ⟨((ν4 6).n 0), 0, none⟩))), (9, .slot true (.pointer (some ⟨((ν4 7).n 0), 0, none⟩))), (28, .slot true (.bool (t8 || t9))), (176, .blk ((ν1 0).n 0) [.int .i64 a0.A.Lo, .int .i64 a0.A.Hi, .int .i64 a0.B.Lo, .int .i64 a0.B.Hi, .int .i32 a0.N, .int .u16 a0.D] 26), (177, .blk ((ν4 6).n 0) [.int .i64 t5.Lo, .int .i64 t5.Hi] 23), (178, .blk ((ν4 7).n 0) [.int .i64 t6.Lo, .int .i64 t6.Hi] 23), (999999, gk)] (by kernel_rfl)
  refine k_cond H (by kernel_rfl) (t := (t8 || t9)) (by kernel_rfl) (fun c51 => ?_) (fun c51 => ?_)
  · rw [if_pos c51] at G
    refine k_seq ?_
    replace G := bnd G; obtain ⟨t11, ht11, G⟩ := G
    replace G := bnd G; obtain ⟨t12, ht12, G⟩ := G
    replace G := bnd G; obtain ⟨t13, ht13, G⟩ := G
    replace G := bnd G; obtain ⟨t14, ht14, G⟩ := G
    replace G := bnd G; obtain ⟨t15, ht15, G⟩ := G
    replace G := bnd G; obtain ⟨t16, ht16, G⟩ := G
    refine k_reg mixed H (.cons [29] (ok_ld (fun ν10 => .agg #[.int .i64 t5.Lo, .int .i64 t5.Hi]) 29 177 0 2 (fun ν10 => ((ν4 6).n 0)) (fun ν10 => [.int .i64 t5.Lo, .int .i64 t5.Hi]) 23) <|
      .cons [30] (ok_ld (fun ν10 => .agg #[.int .i64 t6.Lo, .int .i64 t6.Hi]) 30 178 0 2 (fun ν10 => ((ν4 7).n 0)) (fun ν10 => [.int .i64 t6.Lo, .int .i64 t6.Hi]) 23) <|
      .cons [31] (ok_callv 14 (fun ν10 => #[.agg #[.int .i64 t5.Lo, .int .i64 t5.Hi], .agg #[.int .i64 t6.Lo, .int .i64 t6.Hi]]) (.agg #[.int .i64 t11.Lo, .int .i64 t11.Hi]) 31 [] (fun _ w _ => interval_Add.calls t5 t6 t11 w ht11)) <|
      .cons [32] (ok_callv 13 (fun ν10 => #[.agg #[.int .i64 t11.Lo, .int .i64 t11.Hi]]) (.bool t12) 32 [] (fun _ w _ => armillaryref02_IsEntire.calls t11 t12 w ht12)) <|
      .cons [33] (ok_val (fun ν10 => .bool t12) 33) <|
      .cons [34] (ok_ldg (fun ν10 => .agg #[.int .i64 t6.Lo, .int .i64 t6.Hi]) (fun ν10 => (t12 == true)) [true] 34 178 0 2 (fun ν10 => ((ν4 7).n 0)) (fun ν10 => [.int .i64 t6.Lo, .int .i64 t6.Hi]) 23) <|
      .cons [35] (ok_ldg (fun ν10 => .agg #[.int .i64 t5.Lo, .int .i64 t5.Hi]) (fun ν10 => (t12 == true)) [true] 35 177 0 2 (fun ν10 => ((ν4 6).n 0)) (fun ν10 => [.int .i64 t5.Lo, .int .i64 t5.Hi]) 23) <|
      .cons [36] (ok_callG 999999 gk 15 (fun ν10 => #[.agg #[.int .i64 t6.Lo, .int .i64 t6.Hi], .agg #[.int .i64 t5.Lo, .int .i64 t5.Hi]]) (.agg #[.int .i64 t13.Lo, .int .i64 t13.Hi]) (fun ν10 => (t12 == true)) [true, false, false] 36 (fun _ w hG hg => interval_Mul.calls t6 t5 t13 w (glob_of hG) (ifp ht13 hg))) <|
      .cons [37] (ok_call 13 (fun ν10 => #[.agg #[.int .i64 t13.Lo, .int .i64 t13.Hi]]) (.bool t14) (fun ν10 => (t12 == true)) [true, false] 37 [] (fun _ w hg _ => armillaryref02_IsEntire.calls t13 t14 w (ifp ht14 hg))) <|
      .cons [38] (ok_and 33 37 (fun ν10 => true) (fun ν10 => true) (fun ν10 => t12) (fun ν10 => t14) 38) <|
      .cons [39] (ok_val (fun ν10 => .bool (t12 && t14)) 39) <|
      .cons [40] (ok_ldg (fun ν10 => .agg #[.int .i64 t5.Lo, .int .i64 t5.Hi]) (fun ν10 => ((t12 && t14) == true)) [true] 40 177 0 2 (fun ν10 => ((ν4 6).n 0)) (fun ν10 => [.int .i64 t5.Lo, .int .i64 t5.Hi]) 23) <|
      .cons [41] (ok_ldg (fun ν10 => .agg #[.int .i64 t6.Lo, .int .i64 t6.Hi]) (fun ν10 => ((t12 && t14) == true)) [true] 41 178 0 2 (fun ν10 => ((ν4 7).n 0)) (fun ν10 => [.int .i64 t6.Lo, .int .i64 t6.Hi]) 23) <|
      .cons [42] (ok_callG 999999 gk 16 (fun ν10 => #[.agg #[.int .i64 t5.Lo, .int .i64 t5.Hi], .agg #[.int .i64 t6.Lo, .int .i64 t6.Hi]]) (.agg #[.int .i64 t15.Lo, .int .i64 t15.Hi]) (fun ν10 => ((t12 && t14) == true)) [true, false, false] 42 (fun _ w hG hg => interval_Div.calls t5 t6 t15 w (glob_of hG) (ifp ht15 hg))) <|
      .cons [43] (ok_call 13 (fun ν10 => #[.agg #[.int .i64 t15.Lo, .int .i64 t15.Hi]]) (.bool t16) (fun ν10 => ((t12 && t14) == true)) [true, false] 43 [] (fun _ w hg _ => armillaryref02_IsEntire.calls t15 t16 w (ifp ht16 hg))) <|
      .cons [44] (ok_and 39 43 (fun ν10 => true) (fun ν10 => true) (fun ν10 => (t12 && t14)) (fun ν10 => t16) 44) <|
      .cons [45] (ok_val (fun ν10 => .bool ((t12 && t14) && t16)) 45) <|
      .cons [46] (ok_valg (fun ν10 => .bool t3) (fun ν10 => (((t12 && t14) && t16) == true)) [true] 46) <|
      .cons [47] (ok_and 45 46 (fun ν10 => true) (fun ν10 => true) (fun ν10 => ((t12 && t14) && t16)) (fun ν10 => t3) 47) <|
      .cons [6] (ok_val (fun ν10 => .bool (((t12 && t14) && t16) && t3)) 6) <| .nil) (by kernel_rfl) fun ν10 a w' H => ?_
    replace H := H.toL [(1, .slot true (.int .u32 a1)), (2, .slot true (.int .u32 a2)), (3, .slot true (.pointer (some ⟨((ν1 0).n 0), 0, none⟩))), (6, .slot true (.bool (((t12 && t14) && t16) && t3))), (7, .slot true (.bool t3)), (8, .slot true (.pointer (some ⟨((ν4 6).n 0), 0, none⟩))), (9, .slot true (.pointer (some ⟨((ν4 7).n 0), 0, none⟩))), (176, .blk ((ν1 0).n 0) [.int .i64 a0.A.Lo, .int .i64 a0.A.Hi, .int .i64 a0.B.Lo, .int .i64 a0.B.Hi, .int .i32 a0.N, .int .u16 a0.D] 26), (177, .blk ((ν4 6).n 0) [.int .i64 t5.Lo, .int .i64 t5.Hi] 23), (178, .blk ((ν4 7).n 0) [.int .i64 t6.Lo, .int .i64 t6.Hi] 23), (999999, gk)] (by kernel_rfl)
    refine k_ret ?_
    obtain rfl := Option.some.inj G
    exact k_done0 H _ (by kernel_rfl) (by kernel_rfl)
  · rw [if_neg (nt c51)] at G
    refine k_skip ?_
    refine k_seq ?_
    replace G := bnd G; obtain ⟨t18, ht18, G⟩ := G
    replace G := bnd G; obtain ⟨t19, ht19, G⟩ := G
    refine k_reg mixed H (.cons [48] (ok_ld (fun ν17 => .agg #[.int .i64 t5.Lo, .int .i64 t5.Hi]) 48 177 0 2 (fun ν17 => ((ν4 6).n 0)) (fun ν17 => [.int .i64 t5.Lo, .int .i64 t5.Hi]) 23) <|
      .cons [49] (ok_val (fun ν17 => .int .u32 a1) 49) <|
      .cons [50] (ok_callv 17 (fun ν17 => #[.agg #[.int .i64 t5.Lo, .int .i64 t5.Hi], .int .u32 a1]) (.int .i64 t18) 50 [] (fun _ w _ => armillaryref02_Pick.calls t5 a1 t18 w ht18)) <|
      .cons [51] (ok_ld (fun ν17 => .agg #[.int .i64 t6.Lo, .int .i64 t6.Hi]) 51 178 0 2 (fun ν17 => ((ν4 7).n 0)) (fun ν17 => [.int .i64 t6.Lo, .int .i64 t6.Hi]) 23) <|
      .cons [52] (ok_val (fun ν17 => .int .u32 a2) 52) <|
      .cons [53] (ok_callv 17 (fun ν17 => #[.agg #[.int .i64 t6.Lo, .int .i64 t6.Hi], .int .u32 a2]) (.int .i64 t19) 53 [] (fun _ w _ => armillaryref02_Pick.calls t6 a2 t19 w ht19)) <|
      .cons [10] (ok_val (fun ν17 => .int .i64 t18) 10) <|
      .cons [11] (ok_val (fun ν17 => .int .i64 t19) 11) <| .nil) (by kernel_rfl) fun ν17 a w' H => ?_
    replace H := H.toL [(3, .slot true (.pointer (some ⟨((ν1 0).n 0), 0, none⟩))), (6, .slot true (.bool false)), (7, .slot true (.bool t3)), (8, .slot true (.pointer (some ⟨((ν4 6).n 0), 0, none⟩))), (9, .slot true (.pointer (some ⟨((ν4 7).n 0), 0, none⟩))), (10, .slot true (.int .i64 t18)), (11, .slot true (.int .i64 t19)), (176, .blk ((ν1 0).n 0) [.int .i64 a0.A.Lo, .int .i64 a0.A.Hi, .int .i64 a0.B.Lo, .int .i64 a0.B.Hi, .int .i32 a0.N, .int .u16 a0.D] 26), (177, .blk ((ν4 6).n 0) [.int .i64 t5.Lo, .int .i64 t5.Hi] 23), (178, .blk ((ν4 7).n 0) [.int .i64 t6.Lo, .int .i64 t6.Hi] 23), (999999, gk)] (by kernel_rfl)
    refine k_seq ?_
    replace G := bnd G; obtain ⟨t21, ht21, G⟩ := G
    refine k_reg mixed H (.cons [55] (ok_ld (fun ν20 => .agg #[.int .i64 a0.A.Lo, .int .i64 a0.A.Hi, .int .i64 a0.B.Lo, .int .i64 a0.B.Hi, .int .i32 a0.N, .int .u16 a0.D]) 55 176 0 6 (fun ν20 => ((ν1 0).n 0)) (fun ν20 => [.int .i64 a0.A.Lo, .int .i64 a0.A.Hi, .int .i64 a0.B.Lo, .int .i64 a0.B.Hi, .int .i32 a0.N, .int .u16 a0.D]) 26) <|
      .cons [56] (ok_callv 18 (fun ν20 => #[.agg #[.int .i64 a0.A.Lo, .int .i64 a0.A.Hi, .int .i64 a0.B.Lo, .int .i64 a0.B.Hi, .int .i32 a0.N, .int .u16 a0.D]]) (.tuple #[.int .i64 t21.1, .int .i64 t21.2]) 56 [] (fun _ w _ => armillarylaw02_ratio.calls (⟨(⟨a0.A.Lo, a0.A.Hi⟩ : TInterval), (⟨a0.B.Lo, a0.B.Hi⟩ : TInterval), a0.N, a0.D⟩ : TOperands) t21 w ht21)) <|
      .cons [54] (ok_val (fun ν20 => .tuple #[.int .i64 t21.1, .int .i64 t21.2]) 54) <|
      .cons [57] (ok_val (fun ν20 => .int .i64 t21.1) 57) <|
      .cons [58] (ok_val (fun ν20 => .int .i64 t21.2) 58) <|
      .cons [12] (ok_val (fun ν20 => .int .i64 t21.1) 12) <|
      .cons [13] (ok_val (fun ν20 => .int .i64 t21.2) 13) <| .nil) (by kernel_rfl) fun ν20 a w' H => ?_
    replace H := H.toL [(6, .slot true (.bool false)), (7, .slot true (.bool t3)), (8, .slot true (.pointer (some ⟨((ν4 6).n 0), 0, none⟩))), (9, .slot true (.pointer (some ⟨((ν4 7).n 0), 0, none⟩))), (10, .slot true (.int .i64 t18)), (11, .slot true (.int .i64 t19)), (12, .slot true (.int .i64 t21.1)), (13, .slot true (.int .i64 t21.2)), (177, .blk ((ν4 6).n 0) [.int .i64 t5.Lo, .int .i64 t5.Hi] 23), (178, .blk ((ν4 7).n 0) [.int .i64 t6.Lo, .int .i64 t6.Hi] 23), (999999, gk)] (by kernel_rfl)
    refine k_seq ?_
    refine k_seq ?_
    replace G := bnd G; obtain ⟨t23, ht23, G⟩ := G
    replace G := bnd G; obtain ⟨t24, ht24, G⟩ := G
    replace G := bnd G; obtain ⟨t25, ht25, G⟩ := G
    replace G := bnd G; obtain ⟨t26, ht26, G⟩ := G
    replace G := bnd G; obtain ⟨t27, ht27, G⟩ := G
    replace G := bnd G; obtain ⟨t28, ht28, G⟩ := G
    replace G := bnd G; obtain ⟨t29, ht29, G⟩ := G
    replace G := bnd G; obtain ⟨t30, ht30, G⟩ := G
    replace G := bnd G; obtain ⟨t31, ht31, G⟩ := G
    replace G := bnd G; obtain ⟨t32, ht32, G⟩ := G
    replace G := bnd G; obtain ⟨t33, ht33, G⟩ := G
    replace G := bnd G; obtain ⟨t34, ht34, G⟩ := G
    refine k_reg mixed H (.cons [59] (ok_ld (fun ν22 => .agg #[.int .i64 t5.Lo, .int .i64 t5.Hi]) 59 177 0 2 (fun ν22 => ((ν4 6).n 0)) (fun ν22 => [.int .i64 t5.Lo, .int .i64 t5.Hi]) 23) <|
      .cons [60] (ok_ld (fun ν22 => .agg #[.int .i64 t6.Lo, .int .i64 t6.Hi]) 60 178 0 2 (fun ν22 => ((ν4 7).n 0)) (fun ν22 => [.int .i64 t6.Lo, .int .i64 t6.Hi]) 23) <|
      .cons [61] (ok_callv 14 (fun ν22 => #[.agg #[.int .i64 t5.Lo, .int .i64 t5.Hi], .agg #[.int .i64 t6.Lo, .int .i64 t6.Hi]]) (.agg #[.int .i64 t23.Lo, .int .i64 t23.Hi]) 61 [] (fun _ w _ => interval_Add.calls t5 t6 t23 w ht23)) <|
      .cons [62] (ok_val (fun ν22 => .int .i64 t18) 62) <|
      .cons [63] (ok_val (fun ν22 => .int .i64 t19) 63) <|
      .cons [64] (ok_val (fun ν22 => .int .i64 (w_i64 (t18 + t19))) 64) <|
      .cons [65] (ok_callv 19 (fun ν22 => #[.agg #[.int .i64 t23.Lo, .int .i64 t23.Hi], .int .i64 (w_i64 (t18 + t19)), .int .i64 1]) (.bool t24) 65 [] (fun _ w _ => armillarylaw02_contains.calls t23 (w_i64 (t18 + t19)) 1 t24 w ht24)) <|
      .cons [66] (ok_val (fun ν22 => .bool (!t24)) 66) <|
      .cons [67] (ok_val (fun ν22 => .bool (!t24)) 67) <|
      .cons [68] (ok_ldg (fun ν22 => .agg #[.int .i64 t5.Lo, .int .i64 t5.Hi]) (fun ν22 => ((!t24) == false)) [true] 68 177 0 2 (fun ν22 => ((ν4 6).n 0)) (fun ν22 => [.int .i64 t5.Lo, .int .i64 t5.Hi]) 23) <|
      .cons [69] (ok_ldg (fun ν22 => .agg #[.int .i64 t6.Lo, .int .i64 t6.Hi]) (fun ν22 => ((!t24) == false)) [true] 69 178 0 2 (fun ν22 => ((ν4 7).n 0)) (fun ν22 => [.int .i64 t6.Lo, .int .i64 t6.Hi]) 23) <|
      .cons [70] (ok_call 20 (fun ν22 => #[.agg #[.int .i64 t5.Lo, .int .i64 t5.Hi], .agg #[.int .i64 t6.Lo, .int .i64 t6.Hi]]) (.agg #[.int .i64 t25.Lo, .int .i64 t25.Hi]) (fun ν22 => ((!t24) == false)) [true, false, false] 70 [] (fun _ w hg _ => interval_Sub.calls t5 t6 t25 w (ifp ht25 hg))) <|
      .cons [71] (ok_valg (fun ν22 => .int .i64 t18) (fun ν22 => ((!t24) == false)) [true] 71) <|
      .cons [72] (ok_valg (fun ν22 => .int .i64 t19) (fun ν22 => ((!t24) == false)) [true] 72) <|
      .cons [73] (ok_valg (fun ν22 => .int .i64 (w_i64 (t18 - t19))) (fun ν22 => ((!t24) == false)) [false, false] 73) <|
      .cons [74] (ok_call 19 (fun ν22 => #[.agg #[.int .i64 t25.Lo, .int .i64 t25.Hi], .int .i64 (w_i64 (t18 - t19)), .int .i64 1]) (.bool t26) (fun ν22 => ((!t24) == false)) [true, false, false, true] 74 [] (fun _ w hg _ => armillarylaw02_contains.calls t25 (w_i64 (t18 - t19)) 1 t26 w (ifp ht26 hg))) <|
      .cons [75] (ok_valg (fun ν22 => .bool (!t26)) (fun ν22 => ((!t24) == false)) [false] 75) <|
      .cons [76] (ok_or 67 75 (fun ν22 => true) (fun ν22 => true) (fun ν22 => (!t24)) (fun ν22 => (!t26)) 76) <|
      .cons [77] (ok_val (fun ν22 => .bool ((!t24) || (!t26))) 77) <|
      .cons [78] (ok_ldg (fun ν22 => .agg #[.int .i64 t5.Lo, .int .i64 t5.Hi]) (fun ν22 => (((!t24) || (!t26)) == false)) [true] 78 177 0 2 (fun ν22 => ((ν4 6).n 0)) (fun ν22 => [.int .i64 t5.Lo, .int .i64 t5.Hi]) 23) <|
      .cons [79] (ok_call 21 (fun ν22 => #[.agg #[.int .i64 t5.Lo, .int .i64 t5.Hi]]) (.agg #[.int .i64 t27.Lo, .int .i64 t27.Hi]) (fun ν22 => (((!t24) || (!t26)) == false)) [true, false] 79 [] (fun _ w hg _ => interval_Neg.calls t5 t27 w (ifp ht27 hg))) <|
      .cons [80] (ok_valg (fun ν22 => .int .i64 t18) (fun ν22 => (((!t24) || (!t26)) == false)) [true] 80) <|
      .cons [81] (ok_valg (fun ν22 => .int .i64 (w_i64 (0 - t18))) (fun ν22 => (((!t24) || (!t26)) == false)) [false] 81) <|
      .cons [82] (ok_call 19 (fun ν22 => #[.agg #[.int .i64 t27.Lo, .int .i64 t27.Hi], .int .i64 (w_i64 (0 - t18)), .int .i64 1]) (.bool t28) (fun ν22 => (((!t24) || (!t26)) == false)) [true, false, false, true] 82 [] (fun _ w hg _ => armillarylaw02_contains.calls t27 (w_i64 (0 - t18)) 1 t28 w (ifp ht28 hg))) <|
      .cons [83] (ok_valg (fun ν22 => .bool (!t28)) (fun ν22 => (((!t24) || (!t26)) == false)) [false] 83) <|
      .cons [84] (ok_or 77 83 (fun ν22 => true) (fun ν22 => true) (fun ν22 => ((!t24) || (!t26))) (fun ν22 => (!t28)) 84) <|
      .cons [85] (ok_val (fun ν22 => .bool (((!t24) || (!t26)) || (!t28))) 85) <|
      .cons [86] (ok_ldg (fun ν22 => .agg #[.int .i64 t5.Lo, .int .i64 t5.Hi]) (fun ν22 => ((((!t24) || (!t26)) || (!t28)) == false)) [true] 86 177 0 2 (fun ν22 => ((ν4 6).n 0)) (fun ν22 => [.int .i64 t5.Lo, .int .i64 t5.Hi]) 23) <|
      .cons [87] (ok_ldg (fun ν22 => .agg #[.int .i64 t6.Lo, .int .i64 t6.Hi]) (fun ν22 => ((((!t24) || (!t26)) || (!t28)) == false)) [true] 87 178 0 2 (fun ν22 => ((ν4 7).n 0)) (fun ν22 => [.int .i64 t6.Lo, .int .i64 t6.Hi]) 23) <|
      .cons [88] (ok_callG 999999 gk 15 (fun ν22 => #[.agg #[.int .i64 t5.Lo, .int .i64 t5.Hi], .agg #[.int .i64 t6.Lo, .int .i64 t6.Hi]]) (.agg #[.int .i64 t29.Lo, .int .i64 t29.Hi]) (fun ν22 => ((((!t24) || (!t26)) || (!t28)) == false)) [true, false, false] 88 (fun _ w hG hg => interval_Mul.calls t5 t6 t29 w (glob_of hG) (ifp ht29 hg))) <|
      .cons [89] (ok_valg (fun ν22 => .int .i64 t18) (fun ν22 => ((((!t24) || (!t26)) || (!t28)) == false)) [true] 89) <|
      .cons [90] (ok_valg (fun ν22 => .int .i64 t19) (fun ν22 => ((((!t24) || (!t26)) || (!t28)) == false)) [true] 90) <|
      .cons [91] (ok_valg (fun ν22 => .int .i64 (w_i64 (t18 * t19))) (fun ν22 => ((((!t24) || (!t26)) || (!t28)) == false)) [false, false] 91) <|
      .cons [92] (ok_call 19 (fun ν22 => #[.agg #[.int .i64 t29.Lo, .int .i64 t29.Hi], .int .i64 (w_i64 (t18 * t19)), .int .i64 65536]) (.bool t30) (fun ν22 => ((((!t24) || (!t26)) || (!t28)) == false)) [true, false, false, true] 92 [] (fun _ w hg _ => armillarylaw02_contains.calls t29 (w_i64 (t18 * t19)) 65536 t30 w (ifp ht30 hg))) <|
      .cons [93] (ok_valg (fun ν22 => .bool (!t30)) (fun ν22 => ((((!t24) || (!t26)) || (!t28)) == false)) [false] 93) <|
      .cons [94] (ok_or 85 93 (fun ν22 => true) (fun ν22 => true) (fun ν22 => (((!t24) || (!t26)) || (!t28))) (fun ν22 => (!t30)) 94) <|
      .cons [95] (ok_val (fun ν22 => .bool ((((!t24) || (!t26)) || (!t28)) || (!t30))) 95) <|
      .cons [96] (ok_ldg (fun ν22 => .agg #[.int .i64 t5.Lo, .int .i64 t5.Hi]) (fun ν22 => (((((!t24) || (!t26)) || (!t28)) || (!t30)) == false)) [true] 96 177 0 2 (fun ν22 => ((ν4 6).n 0)) (fun ν22 => [.int .i64 t5.Lo, .int .i64 t5.Hi]) 23) <|
      .cons [97] (ok_call 22 (fun ν22 => #[.agg #[.int .i64 t5.Lo, .int .i64 t5.Hi]]) (.agg #[.int .i64 t31.Lo, .int .i64 t31.Hi]) (fun ν22 => (((((!t24) || (!t26)) || (!t28)) || (!t30)) == false)) [true, false] 97 [] (fun _ w hg _ => interval_Square.calls t5 t31 w (ifp ht31 hg))) <|
      .cons [98] (ok_valg (fun ν22 => .int .i64 t18) (fun ν22 => (((((!t24) || (!t26)) || (!t28)) || (!t30)) == false)) [true] 98) <|
      .cons [99] (ok_valg (fun ν22 => .int .i64 t18) (fun ν22 => (((((!t24) || (!t26)) || (!t28)) || (!t30)) == false)) [true] 99) <|
      .cons [100] (ok_valg (fun ν22 => .int .i64 (w_i64 (t18 * t18))) (fun ν22 => (((((!t24) || (!t26)) || (!t28)) || (!t30)) == false)) [false, false] 100) <|
      .cons [101] (ok_call 19 (fun ν22 => #[.agg #[.int .i64 t31.Lo, .int .i64 t31.Hi], .int .i64 (w_i64 (t18 * t18)), .int .i64 65536]) (.bool t32) (fun ν22 => (((((!t24) || (!t26)) || (!t28)) || (!t30)) == false)) [true, false, false, true] 101 [] (fun _ w hg _ => armillarylaw02_contains.calls t31 (w_i64 (t18 * t18)) 65536 t32 w (ifp ht32 hg))) <|
      .cons [102] (ok_valg (fun ν22 => .bool (!t32)) (fun ν22 => (((((!t24) || (!t26)) || (!t28)) || (!t30)) == false)) [false] 102) <|
      .cons [103] (ok_or 95 102 (fun ν22 => true) (fun ν22 => true) (fun ν22 => ((((!t24) || (!t26)) || (!t28)) || (!t30))) (fun ν22 => (!t32)) 103) <|
      .cons [104] (ok_val (fun ν22 => .bool (((((!t24) || (!t26)) || (!t28)) || (!t30)) || (!t32))) 104) <|
      .cons [105] (ok_ldg (fun ν22 => .agg #[.int .i64 t5.Lo, .int .i64 t5.Hi]) (fun ν22 => ((((((!t24) || (!t26)) || (!t28)) || (!t30)) || (!t32)) == false)) [true] 105 177 0 2 (fun ν22 => ((ν4 6).n 0)) (fun ν22 => [.int .i64 t5.Lo, .int .i64 t5.Hi]) 23) <|
      .cons [106] (ok_valg (fun ν22 => .int .i64 t21.1) (fun ν22 => ((((((!t24) || (!t26)) || (!t28)) || (!t30)) || (!t32)) == false)) [true] 106) <|
      .cons [107] (ok_valg (fun ν22 => .int .i64 t21.2) (fun ν22 => ((((((!t24) || (!t26)) || (!t28)) || (!t30)) || (!t32)) == false)) [true] 107) <|
      .cons [108] (ok_call 23 (fun ν22 => #[.agg #[.int .i64 t5.Lo, .int .i64 t5.Hi], .int .i64 t21.1, .int .i64 t21.2]) (.agg #[.int .i64 t33.Lo, .int .i64 t33.Hi]) (fun ν22 => ((((((!t24) || (!t26)) || (!t28)) || (!t30)) || (!t32)) == false)) [true, false, false, false] 108 [] (fun _ w hg _ => interval_MulRatio.calls t5 t21.1 t21.2 t33 w (ifp ht33 hg))) <|
      .cons [109] (ok_valg (fun ν22 => .int .i64 t18) (fun ν22 => ((((((!t24) || (!t26)) || (!t28)) || (!t30)) || (!t32)) == false)) [true] 109) <|
      .cons [110] (ok_valg (fun ν22 => .int .i64 t21.1) (fun ν22 => ((((((!t24) || (!t26)) || (!t28)) || (!t30)) || (!t32)) == false)) [true] 110) <|
      .cons [111] (ok_valg (fun ν22 => .int .i64 (w_i64 (t18 * t21.1))) (fun ν22 => ((((((!t24) || (!t26)) || (!t28)) || (!t30)) || (!t32)) == false)) [false, false] 111) <|
      .cons [112] (ok_valg (fun ν22 => .int .i64 t21.2) (fun ν22 => ((((((!t24) || (!t26)) || (!t28)) || (!t30)) || (!t32)) == false)) [true] 112) <|
      .cons [113] (ok_call 19 (fun ν22 => #[.agg #[.int .i64 t33.Lo, .int .i64 t33.Hi], .int .i64 (w_i64 (t18 * t21.1)), .int .i64 t21.2]) (.bool t34) (fun ν22 => ((((((!t24) || (!t26)) || (!t28)) || (!t30)) || (!t32)) == false)) [true, false, false, false] 113 [] (fun _ w hg _ => armillarylaw02_contains.calls t33 (w_i64 (t18 * t21.1)) t21.2 t34 w (ifp ht34 hg))) <|
      .cons [114] (ok_valg (fun ν22 => .bool (!t34)) (fun ν22 => ((((((!t24) || (!t26)) || (!t28)) || (!t30)) || (!t32)) == false)) [false] 114) <|
      .cons [115] (ok_or 104 114 (fun ν22 => true) (fun ν22 => true) (fun ν22 => (((((!t24) || (!t26)) || (!t28)) || (!t30)) || (!t32))) (fun ν22 => (!t34)) 115) <| .nil) (by kernel_rfl) fun ν22 a w' H => ?_
    replace H := H.toL [(6, .slot true (.bool false)), (7, .slot true (.bool t3)), (8, .slot true (.pointer (some ⟨((ν4 6).n 0), 0, none⟩))), (9, .slot true (.pointer (some ⟨((ν4 7).n 0), 0, none⟩))), (10, .slot true (.int .i64 t18)), (11, .slot true (.int .i64 t19)), (115, .slot true (.bool ((((((!t24) || (!t26)) || (!t28)) || (!t30)) || (!t32)) || (!t34)))), (177, .blk ((ν4 6).n 0) [.int .i64 t5.Lo, .int .i64 t5.Hi] 23), (178, .blk ((ν4 7).n 0) [.int .i64 t6.Lo, .int .i64 t6.Hi] 23), (999999, gk)] (by kernel_rfl)
    refine k_cond H (by kernel_rfl) (t := ((((((!t24) || (!t26)) || (!t28)) || (!t30)) || (!t32)) || (!t34))) (by kernel_rfl) (fun c50 => ?_) (fun c50 => ?_)
    · rw [if_pos c50] at G
      refine k_seq ?_
      refine k_reg mixed H (.cons [6] (ok_val (fun ν35 => .bool false) 6) <| .nil) (by kernel_rfl) fun ν35 a w' H => ?_
      replace H := H.toL [(6, .slot true (.bool false)), (7, .slot true (.bool t3)), (8, .slot true (.pointer (some ⟨((ν4 6).n 0), 0, none⟩))), (9, .slot true (.pointer (some ⟨((ν4 7).n 0), 0, none⟩))), (10, .slot true (.int .i64 t18)), (11, .slot true (.int .i64 t19)), (177, .blk ((ν4 6).n 0) [.int .i64 t5.Lo, .int .i64 t5.Hi] 23), (178, .blk ((ν4 7).n 0) [.int .i64 t6.Lo, .int .i64 t6.Hi] 23), (999999, gk)] (by kernel_rfl)
      refine k_ret ?_
      obtain rfl := Option.some.inj G
      exact k_done0 H _ (by kernel_rfl) (by kernel_rfl)
    · rw [if_neg (nt c50)] at G
      refine k_skip ?_
      refine k_seq ?_
      refine k_seq ?_
      replace G := bnd G; obtain ⟨t37, ht37, G⟩ := G
      replace G := bnd G; obtain ⟨t38, ht38, G⟩ := G
      replace G := bnd G; obtain ⟨t39, ht39, G⟩ := G
      replace G := bnd G; obtain ⟨t40, ht40, G⟩ := G
      refine k_reg mixed H (.cons [116] (ok_val (fun ν36 => .int .i64 t19) 116) <|
      .cons [117] (ok_val (fun ν36 => .bool (decide (t19 > 0))) 117) <|
      .cons [118] (ok_val (fun ν36 => .bool (decide (t19 > 0))) 118) <|
      .cons [119] (ok_ldg (fun ν36 => .agg #[.int .i64 t5.Lo, .int .i64 t5.Hi]) (fun ν36 => ((decide (t19 > 0)) == true)) [true] 119 177 0 2 (fun ν36 => ((ν4 6).n 0)) (fun ν36 => [.int .i64 t5.Lo, .int .i64 t5.Hi]) 23) <|
      .cons [120] (ok_ldg (fun ν36 => .agg #[.int .i64 t6.Lo, .int .i64 t6.Hi]) (fun ν36 => ((decide (t19 > 0)) == true)) [true] 120 178 0 2 (fun ν36 => ((ν4 7).n 0)) (fun ν36 => [.int .i64 t6.Lo, .int .i64 t6.Hi]) 23) <|
      .cons [121] (ok_callG 999999 gk 16 (fun ν36 => #[.agg #[.int .i64 t5.Lo, .int .i64 t5.Hi], .agg #[.int .i64 t6.Lo, .int .i64 t6.Hi]]) (.agg #[.int .i64 t37.Lo, .int .i64 t37.Hi]) (fun ν36 => ((decide (t19 > 0)) == true)) [true, false, false] 121 (fun _ w hG hg => interval_Div.calls t5 t6 t37 w (glob_of hG) (ifp ht37 hg))) <|
      .cons [122] (ok_valg (fun ν36 => .int .i64 t18) (fun ν36 => ((decide (t19 > 0)) == true)) [true] 122) <|
      .cons [123] (ok_valg (fun ν36 => .int .i64 (w_i64 (t18 * 65536))) (fun ν36 => ((decide (t19 > 0)) == true)) [false, true] 123) <|
      .cons [124] (ok_valg (fun ν36 => .int .i64 t19) (fun ν36 => ((decide (t19 > 0)) == true)) [true] 124) <|
      .cons [125] (ok_call 19 (fun ν36 => #[.agg #[.int .i64 t37.Lo, .int .i64 t37.Hi], .int .i64 (w_i64 (t18 * 65536)), .int .i64 t19]) (.bool t38) (fun ν36 => ((decide (t19 > 0)) == true)) [true, false, false, false] 125 [] (fun _ w hg _ => armillarylaw02_contains.calls t37 (w_i64 (t18 * 65536)) t19 t38 w (ifp ht38 hg))) <|
      .cons [126] (ok_valg (fun ν36 => .bool (!t38)) (fun ν36 => ((decide (t19 > 0)) == true)) [false] 126) <|
      .cons [127] (ok_and 118 126 (fun ν36 => true) (fun ν36 => true) (fun ν36 => decide (t19 > 0)) (fun ν36 => (!t38)) 127) <|
      .cons [128] (ok_val (fun ν36 => .bool ((decide (t19 > 0)) && (!t38))) 128) <|
      .cons [129] (ok_valg (fun ν36 => .int .i64 t19) (fun ν36 => (((decide (t19 > 0)) && (!t38)) == false)) [true] 129) <|
      .cons [130] (ok_valg (fun ν36 => .bool (decide (t19 < 0))) (fun ν36 => (((decide (t19 > 0)) && (!t38)) == false)) [false, true] 130) <|
      .cons [131] (ok_valg (fun ν36 => .bool (decide (t19 < 0))) (fun ν36 => (((decide (t19 > 0)) && (!t38)) == false)) [false] 131) <|
      .cons [132] (ok_ldg (fun ν36 => .agg #[.int .i64 t5.Lo, .int .i64 t5.Hi]) (fun ν36 => ((((decide (t19 > 0)) && (!t38)) == false) && ((decide (t19 < 0)) == true))) [true] 132 177 0 2 (fun ν36 => ((ν4 6).n 0)) (fun ν36 => [.int .i64 t5.Lo, .int .i64 t5.Hi]) 23) <|
      .cons [133] (ok_ldg (fun ν36 => .agg #[.int .i64 t6.Lo, .int .i64 t6.Hi]) (fun ν36 => ((((decide (t19 > 0)) && (!t38)) == false) && ((decide (t19 < 0)) == true))) [true] 133 178 0 2 (fun ν36 => ((ν4 7).n 0)) (fun ν36 => [.int .i64 t6.Lo, .int .i64 t6.Hi]) 23) <|
      .cons [134] (ok_callG 999999 gk 16 (fun ν36 => #[.agg #[.int .i64 t5.Lo, .int .i64 t5.Hi], .agg #[.int .i64 t6.Lo, .int .i64 t6.Hi]]) (.agg #[.int .i64 t39.Lo, .int .i64 t39.Hi]) (fun ν36 => ((((decide (t19 > 0)) && (!t38)) == false) && ((decide (t19 < 0)) == true))) [true, false, false] 134 (fun _ w hG hg => interval_Div.calls t5 t6 t39 w (glob_of hG) (ifp ht39 hg))) <|
      .cons [135] (ok_valg (fun ν36 => .int .i64 t18) (fun ν36 => ((((decide (t19 > 0)) && (!t38)) == false) && ((decide (t19 < 0)) == true))) [true] 135) <|
      .cons [136] (ok_valg (fun ν36 => .int .i64 (w_i64 (0 - t18))) (fun ν36 => ((((decide (t19 > 0)) && (!t38)) == false) && ((decide (t19 < 0)) == true))) [false] 136) <|
      .cons [137] (ok_valg (fun ν36 => .int .i64 (w_i64 ((w_i64 (0 - t18)) * 65536))) (fun ν36 => ((((decide (t19 > 0)) && (!t38)) == false) && ((decide (t19 < 0)) == true))) [false, true] 137) <|
      .cons [138] (ok_valg (fun ν36 => .int .i64 t19) (fun ν36 => ((((decide (t19 > 0)) && (!t38)) == false) && ((decide (t19 < 0)) == true))) [true] 138) <|
      .cons [139] (ok_valg (fun ν36 => .int .i64 (w_i64 (0 - t19))) (fun ν36 => ((((decide (t19 > 0)) && (!t38)) == false) && ((decide (t19 < 0)) == true))) [false] 139) <|
      .cons [140] (ok_call 19 (fun ν36 => #[.agg #[.int .i64 t39.Lo, .int .i64 t39.Hi], .int .i64 (w_i64 ((w_i64 (0 - t18)) * 65536)), .int .i64 (w_i64 (0 - t19))]) (.bool t40) (fun ν36 => ((((decide (t19 > 0)) && (!t38)) == false) && ((decide (t19 < 0)) == true))) [true, false, false, false] 140 [] (fun _ w hg _ => armillarylaw02_contains.calls t39 (w_i64 ((w_i64 (0 - t18)) * 65536)) (w_i64 (0 - t19)) t40 w (ifp ht40 hg))) <|
      .cons [141] (ok_valg (fun ν36 => .bool (!t40)) (fun ν36 => ((((decide (t19 > 0)) && (!t38)) == false) && ((decide (t19 < 0)) == true))) [false] 141) <|
      .cons [142] (ok_and 131 141 (fun ν36 => (((decide (t19 > 0)) && (!t38)) == false)) (fun ν36 => (((decide (t19 > 0)) && (!t38)) == false)) (fun ν36 => decide (t19 < 0)) (fun ν36 => (!t40)) 142) <|
      .cons [143] (ok_or 128 142 (fun ν36 => true) (fun ν36 => true) (fun ν36 => ((decide (t19 > 0)) && (!t38))) (fun ν36 => ((decide (t19 < 0)) && (!t40))) 143) <| .nil) (by kernel_rfl) fun ν36 a w' H => ?_
      replace H := H.toL [(6, .slot true (.bool false)), (7, .slot true (.bool t3)), (8, .slot true (.pointer (some ⟨((ν4 6).n 0), 0, none⟩))), (10, .slot true (.int .i64 t18)), (143, .slot true (.bool (((decide (t19 > 0)) && (!t38)) || ((decide (t19 < 0)) && (!t40))))), (177, .blk ((ν4 6).n 0) [.int .i64 t5.Lo, .int .i64 t5.Hi] 23), (999999, gk)] (by kernel_rfl)
      refine k_cond H (by kernel_rfl) (t := (((decide (t19 > 0)) && (!t38)) || ((decide (t19 < 0)) && (!t40)))) (by kernel_rfl) (fun c49 => ?_) (fun c49 => ?_)
      · rw [if_pos c49] at G
        refine k_seq ?_
        refine k_reg mixed H (.cons [6] (ok_val (fun ν41 => .bool false) 6) <| .nil) (by kernel_rfl) fun ν41 a w' H => ?_
        replace H := H.toL [(6, .slot true (.bool false)), (7, .slot true (.bool t3)), (8, .slot true (.pointer (some ⟨((ν4 6).n 0), 0, none⟩))), (10, .slot true (.int .i64 t18)), (177, .blk ((ν4 6).n 0) [.int .i64 t5.Lo, .int .i64 t5.Hi] 23), (999999, gk)] (by kernel_rfl)
        refine k_ret ?_
        obtain rfl := Option.some.inj G
        exact k_done0 H _ (by kernel_rfl) (by kernel_rfl)
      · rw [if_neg (nt c49)] at G
        refine k_skip ?_
        refine k_seq ?_
        replace G := bnd G; obtain ⟨t43, ht43, G⟩ := G
        refine k_reg mixed H (.cons [145] (ok_ld (fun ν42 => .agg #[.int .i64 t5.Lo, .int .i64 t5.Hi]) 145 177 0 2 (fun ν42 => ((ν4 6).n 0)) (fun ν42 => [.int .i64 t5.Lo, .int .i64 t5.Hi]) 23) <|
      .cons [146] (ok_callv 24 (fun ν42 => #[.agg #[.int .i64 t5.Lo, .int .i64 t5.Hi]]) (.tuple #[.agg #[.int .i64 t43.1.Lo, .int .i64 t43.1.Hi], .bool t43.2]) 146 [] (fun _ w _ => interval_Sqrt.calls k0 t5 t43 w ht43)) <|
      .cons [144] (ok_val (fun ν42 => .tuple #[.agg #[.int .i64 t43.1.Lo, .int .i64 t43.1.Hi], .bool t43.2]) 144) <|
      .cons [147] (ok_val (fun ν42 => .agg #[.int .i64 t43.1.Lo, .int .i64 t43.1.Hi]) 147) <|
      .cons [148] (ok_val (fun ν42 => .bool t43.2) 148) <|
      .cons [14, 179] (ok_new (fun b => .pointer (some ⟨b, 0, none⟩)) (fun ν42 => [.int .i64 0, .int .i64 0]) 23 14 179) <|
      .cons [179] (ok_as (u' := fun ν42 => [(179, .blk ((ν42 5).n 0) [.int .i64 t43.1.Lo, .int .i64 t43.1.Hi] 23)]) (ok_store 179 0 (fun ν42 => ((ν42 5).n 0)) (fun ν42 => [.int .i64 0, .int .i64 0]) (fun ν42 => [.int .i64 t43.1.Lo, .int .i64 t43.1.Hi]) 23) (fun _ => by kernel_rfl)) <|
      .cons [15] (ok_val (fun ν42 => .bool t43.2) 15) <| .nil) (by kernel_rfl) fun ν42 a w' H => ?_
        replace H := H.toL [(6, .slot true (.bool false)), (7, .slot true (.bool t3)), (10, .slot true (.int .i64 t18)), (14, .slot true (.pointer (some ⟨((ν42 5).n 0), 0, none⟩))), (15, .slot true (.bool t43.2)), (179, .blk ((ν42 5).n 0) [.int .i64 t43.1.Lo, .int .i64 t43.1.Hi] 23), (999999, gk)] (by kernel_rfl)
        refine k_seq ?_
        refine k_seq ?_
        refine k_reg mixed H (.cons [149] (ok_val (fun ν44 => .int .i64 t18) 149) <|
      .cons [150] (ok_val (fun ν44 => .bool (decide (t18 < 0))) 150) <| .nil) (by kernel_rfl) fun ν44 a w' H => ?_
        replace H := H.toL [(6, .slot true (.bool false)), (7, .slot true (.bool t3)), (10, .slot true (.int .i64 t18)), (14, .slot true (.pointer (some ⟨((ν42 5).n 0), 0, none⟩))), (15, .slot true (.bool t43.2)), (150, .slot true (.bool (decide (t18 < 0)))), (179, .blk ((ν42 5).n 0) [.int .i64 t43.1.Lo, .int .i64 t43.1.Hi] 23), (999999, gk)] (by kernel_rfl)
        refine k_cond H (by kernel_rfl) (t := decide (t18 < 0)) (by kernel_rfl) (fun c48 => ?_) (fun c48 => ?_)
        · rw [if_pos c48] at G
          refine k_seq ?_
          refine k_reg mixed H (.cons [151] (ok_val (fun ν45 => .bool t3) 151) <|
      .cons [6] (ok_val (fun ν45 => .bool t3) 6) <| .nil) (by kernel_rfl) fun ν45 a w' H => ?_
          replace H := H.toL [(6, .slot true (.bool t3)), (7, .slot true (.bool t3)), (10, .slot true (.int .i64 t18)), (14, .slot true (.pointer (some ⟨((ν42 5).n 0), 0, none⟩))), (15, .slot true (.bool t43.2)), (179, .blk ((ν42 5).n 0) [.int .i64 t43.1.Lo, .int .i64 t43.1.Hi] 23), (999999, gk)] (by kernel_rfl)
          refine k_ret ?_
          obtain rfl := Option.some.inj G
          exact k_done0 H _ (by kernel_rfl) (by kernel_rfl)
        · rw [if_neg (nt c48)] at G
          refine k_skip ?_
          refine k_seq ?_
          replace G := bnd G; obtain ⟨z47, hz47, G⟩ := G
          replace hz47 := Option.some.inj hz47
          refine k_reg mixed H (.cons [152] (ok_val (fun ν46 => .bool t43.2) 152) <|
      .cons [153] (ok_val (fun ν46 => .bool t43.2) 153) <|
      .cons [154] (ok_valg (fun ν46 => .pointer (some ⟨((ν42 5).n 0), 0, none⟩)) (fun ν46 => (t43.2 == true)) [true] 154) <|
      .cons [155] (ok_ldg (fun ν46 => .int .i64 t43.1.Lo) (fun ν46 => (t43.2 == true)) [false] 155 179 0 1 (fun ν46 => ((ν42 5).n 0)) (fun ν46 => [.int .i64 t43.1.Lo, .int .i64 t43.1.Hi]) 23) <|
      .cons [156] (ok_valg (fun ν46 => .pointer (some ⟨((ν42 5).n 0), 0, none⟩)) (fun ν46 => (t43.2 == true)) [true] 156) <|
      .cons [157] (ok_ldg (fun ν46 => .int .i64 t43.1.Lo) (fun ν46 => (t43.2 == true)) [false] 157 179 0 1 (fun ν46 => ((ν42 5).n 0)) (fun ν46 => [.int .i64 t43.1.Lo, .int .i64 t43.1.Hi]) 23) <|
      .cons [158] (ok_valg (fun ν46 => .int .i64 (w_i64 (t43.1.Lo * t43.1.Lo))) (fun ν46 => (t43.2 == true)) [false, false] 158) <|
      .cons [159] (ok_valg (fun ν46 => .int .i64 t18) (fun ν46 => (t43.2 == true)) [true] 159) <|
      .cons [160] (ok_valg (fun ν46 => .int .i64 (w_i64 (t18 * 65536))) (fun ν46 => (t43.2 == true)) [false, true] 160) <|
      .cons [161] (ok_valg (fun ν46 => .bool (decide ((w_i64 (t43.1.Lo * t43.1.Lo)) ≤ (w_i64 (t18 * 65536))))) (fun ν46 => (t43.2 == true)) [false, false] 161) <|
      .cons [162] (ok_and 153 161 (fun ν46 => true) (fun ν46 => true) (fun ν46 => t43.2) (fun ν46 => decide ((w_i64 (t43.1.Lo * t43.1.Lo)) ≤ (w_i64 (t18 * 65536)))) 162) <|
      .cons [163] (ok_val (fun ν46 => .bool (t43.2 && (decide ((w_i64 (t43.1.Lo * t43.1.Lo)) ≤ (w_i64 (t18 * 65536)))))) 163) <|
      .cons [164] (ok_valg (fun ν46 => .pointer (some ⟨((ν42 5).n 0), 1, none⟩)) (fun ν46 => ((t43.2 && (decide ((w_i64 (t43.1.Lo * t43.1.Lo)) ≤ (w_i64 (t18 * 65536))))) == true)) [true] 164) <|
      .cons [165] (ok_ldg (fun ν46 => .int .i64 t43.1.Hi) (fun ν46 => ((t43.2 && (decide ((w_i64 (t43.1.Lo * t43.1.Lo)) ≤ (w_i64 (t18 * 65536))))) == true)) [false] 165 179 1 1 (fun ν46 => ((ν42 5).n 0)) (fun ν46 => [.int .i64 t43.1.Lo, .int .i64 t43.1.Hi]) 23) <|
      .cons [166] (ok_valg (fun ν46 => .pointer (some ⟨((ν42 5).n 0), 1, none⟩)) (fun ν46 => ((t43.2 && (decide ((w_i64 (t43.1.Lo * t43.1.Lo)) ≤ (w_i64 (t18 * 65536))))) == true)) [true] 166) <|
      .cons [167] (ok_ldg (fun ν46 => .int .i64 t43.1.Hi) (fun ν46 => ((t43.2 && (decide ((w_i64 (t43.1.Lo * t43.1.Lo)) ≤ (w_i64 (t18 * 65536))))) == true)) [false] 167 179 1 1 (fun ν46 => ((ν42 5).n 0)) (fun ν46 => [.int .i64 t43.1.Lo, .int .i64 t43.1.Hi]) 23) <|
      .cons [168] (ok_valg (fun ν46 => .int .i64 (w_i64 (t43.1.Hi * t43.1.Hi))) (fun ν46 => ((t43.2 && (decide ((w_i64 (t43.1.Lo * t43.1.Lo)) ≤ (w_i64 (t18 * 65536))))) == true)) [false, false] 168) <|
      .cons [169] (ok_valg (fun ν46 => .int .i64 t18) (fun ν46 => ((t43.2 && (decide ((w_i64 (t43.1.Lo * t43.1.Lo)) ≤ (w_i64 (t18 * 65536))))) == true)) [true] 169) <|
      .cons [170] (ok_valg (fun ν46 => .int .i64 (w_i64 (t18 * 65536))) (fun ν46 => ((t43.2 && (decide ((w_i64 (t43.1.Lo * t43.1.Lo)) ≤ (w_i64 (t18 * 65536))))) == true)) [false, true] 170) <|
      .cons [171] (ok_valg (fun ν46 => .bool (decide ((w_i64 (t43.1.Hi * t43.1.Hi)) ≥ (w_i64 (t18 * 65536))))) (fun ν46 => ((t43.2 && (decide ((w_i64 (t43.1.Lo * t43.1.Lo)) ≤ (w_i64 (t18 * 65536))))) == true)) [false, false] 171) <|
      .cons [172] (ok_and 163 171 (fun ν46 => true) (fun ν46 => true) (fun ν46 => (t43.2 && (decide ((w_i64 (t43.1.Lo * t43.1.Lo)) ≤ (w_i64 (t18 * 65536)))))) (fun ν46 => decide ((w_i64 (t43.1.Hi * t43.1.Hi)) ≥ (w_i64 (t18 * 65536)))) 172) <|
      .cons [173] (ok_as (u' := fun ν46 => [(173, .slot true (.bool z47))]) (ok_val (fun ν46 => .bool ((t43.2 && (decide ((w_i64 (t43.1.Lo * t43.1.Lo)) ≤ (w_i64 (t18 * 65536))))) && (decide ((w_i64 (t43.1.Hi * t43.1.Hi)) ≥ (w_i64 (t18 * 65536)))))) 173) (fun _ => by rw [← hz47])) <|
      .cons [174] (ok_valg (fun ν46 => .bool t3) (fun ν46 => (z47 == true)) [true] 174) <|
      .cons [175] (ok_and 173 174 (fun ν46 => true) (fun ν46 => true) (fun ν46 => z47) (fun ν46 => t3) 175) <|
      .cons [6] (ok_val (fun ν46 => .bool (z47 && t3)) 6) <| .nil) (by kernel_rfl) fun ν46 a w' H => ?_
          replace H := H.toL [(6, .slot true (.bool (z47 && t3))), (999999, gk)] (by kernel_rfl)
          refine k_ret ?_
          obtain rfl := Option.some.inj G
          exact k_done0 H _ (by kernel_rfl) (by kernel_rfl)

end Go.Proofs.YtmjnbhigomjjnaaDoor
