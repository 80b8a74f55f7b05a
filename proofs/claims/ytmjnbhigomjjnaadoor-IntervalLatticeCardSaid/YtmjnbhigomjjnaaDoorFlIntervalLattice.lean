/- The law IntervalLattice answers as the plain Lean function of its name. Printed by a program of this session. -/
import Derived.Test.YtmjnbhigomjjnaaDoorFn2
set_option linter.unusedVariables false
set_option maxRecDepth 100000
namespace Go.Proofs.YtmjnbhigomjjnaaDoor
open Go Go.RowKit Go.Sx Go.Proofs
set_option maxHeartbeats 4000000 in
theorem armillarylaw02_IntervalLattice.calls (k0 : Nat) (a0 : TOperands) (a1 : TInterval) (a2 : Int) (r : Bool) (w : World) (hg : Glob w) (G : armillarylaw02_IntervalLattice k0 a0 a1 a2 = some r) :
    Calls Tryd.prog 7 #[.agg #[.int .i64 a0.A.Lo, .int .i64 a0.A.Hi, .int .i64 a0.B.Lo, .int .i64 a0.B.Hi, .int .i32 a0.N, .int .u16 a0.D], .agg #[.int .i64 a1.Lo, .int .i64 a1.Hi], .int .i64 a2] w fun e w' => e = .returned (.bool r) ∧ Below w.heap.size w w' := by
  refine k_enterG (args := [.agg #[.int .i64 a0.A.Lo, .int .i64 a0.A.Hi, .int .i64 a0.B.Lo, .int .i64 a0.B.Hi, .int .i32 a0.N, .int .u16 a0.D], .agg #[.int .i64 a1.Lo, .int .i64 a1.Hi], .int .i64 a2]) 166 999999 globFp Glob (glob_local hg) (glob_in hg) Tryd.func7 rfl (by kernel_rfl) (by kernel_rfl) fun a H => ?_
  unfold armillarylaw02_IntervalLattice at G
  refine k_seq ?_
  refine k_reg mixed H (.cons [3, 166] (ok_new (fun b => .pointer (some ⟨b, 0, none⟩)) (fun ν1 => [.int .i64 a0.A.Lo, .int .i64 a0.A.Hi, .int .i64 a0.B.Lo, .int .i64 a0.B.Hi, .int .i32 a0.N, .int .u16 a0.D]) 26 3 166) <|
      .cons [4, 167] (ok_new (fun b => .pointer (some ⟨b, 0, none⟩)) (fun ν1 => [.int .i64 a1.Lo, .int .i64 a1.Hi]) 23 4 167) <|
      .cons [6] (ok_val (fun ν1 => .bool false) 6) <| .nil) (by kernel_rfl) fun ν1 a w' H => ?_
  replace H := H.toL [(2, .slot true (.int .i64 a2)), (3, .slot true (.pointer (some ⟨((ν1 0).n 0), 0, none⟩))), (4, .slot true (.pointer (some ⟨((ν1 1).n 0), 0, none⟩))), (6, .slot true (.bool false)), (166, .blk ((ν1 0).n 0) [.int .i64 a0.A.Lo, .int .i64 a0.A.Hi, .int .i64 a0.B.Lo, .int .i64 a0.B.Hi, .int .i32 a0.N, .int .u16 a0.D] 26), (167, .blk ((ν1 1).n 0) [.int .i64 a1.Lo, .int .i64 a1.Hi] 23), (999999, gk)] (by kernel_rfl)
  refine k_seq ?_
  replace G := bnd G; obtain ⟨t3, ht3, G⟩ := G
  refine k_reg mixed H (.cons [19] (ok_callvG 999999 gk 11 (fun ν2 => #[]) (.bool t3) 19 (fun _ w hg => armillarylaw02_sanity.calls k0 t3 w (glob_of hg) ht3)) <|
      .cons [7] (ok_val (fun ν2 => .bool t3) 7) <| .nil) (by kernel_rfl) fun ν2 a w' H => ?_
  replace H := H.toL [(2, .slot true (.int .i64 a2)), (3, .slot true (.pointer (some ⟨((ν1 0).n 0), 0, none⟩))), (4, .slot true (.pointer (some ⟨((ν1 1).n 0), 0, none⟩))), (6, .slot true (.bool false)), (7, .slot true (.bool t3)), (166, .blk ((ν1 0).n 0) [.int .i64 a0.A.Lo, .int .i64 a0.A.Hi, .int .i64 a0.B.Lo, .int .i64 a0.B.Hi, .int .i32 a0.N, .int .u16 a0.D] 26), (167, .blk ((ν1 1).n 0) [.int .i64 a1.Lo, .int .i64 a1.Hi] 23), (999999, gk)] (by kernel_rfl)
  refine k_seq ?_
  replace G := bnd G; obtain ⟨t5, ht5, G⟩ := G
  replace G := bnd G; obtain ⟨t6, ht6, G⟩ := G
  replace G := bnd G; obtain ⟨t7, ht7, G⟩ := G
  refine k_reg mixed H (.cons [20] (ok_val (fun ν4 => .pointer (some ⟨((ν1 0).n 0), 0, none⟩)) 20) <|
      .cons [21] (ok_ld (fun ν4 => .agg #[.int .i64 a0.A.Lo, .int .i64 a0.A.Hi]) 21 166 0 2 (fun ν4 => ((ν1 0).n 0)) (fun ν4 => [.int .i64 a0.A.Lo, .int .i64 a0.A.Hi, .int .i64 a0.B.Lo, .int .i64 a0.B.Hi, .int .i32 a0.N, .int .u16 a0.D]) 26) <|
      .cons [22] (ok_callv 12 (fun ν4 => #[.agg #[.int .i64 a0.A.Lo, .int .i64 a0.A.Hi]]) (.agg #[.int .i64 t5.Lo, .int .i64 t5.Hi]) 22 [] (fun _ w _ => armillaryref02_Made.calls (⟨a0.A.Lo, a0.A.Hi⟩ : TInterval) t5 w ht5)) <|
      .cons [23] (ok_val (fun ν4 => .pointer (some ⟨((ν1 0).n 0), 2, none⟩)) 23) <|
      .cons [24] (ok_ld (fun ν4 => .agg #[.int .i64 a0.B.Lo, .int .i64 a0.B.Hi]) 24 166 2 2 (fun ν4 => ((ν1 0).n 0)) (fun ν4 => [.int .i64 a0.A.Lo, .int .i64 a0.A.Hi, .int .i64 a0.B.Lo, .int .i64 a0.B.Hi, .int .i32 a0.N, .int .u16 a0.D]) 26) <|
      .cons [25] (ok_callv 12 (fun ν4 => #[.agg #[.int .i64 a0.B.Lo, .int .i64 a0.B.Hi]]) (.agg #[.int .i64 t6.Lo, .int .i64 t6.Hi]) 25 [] (fun _ w _ => armillaryref02_Made.calls (⟨a0.B.Lo, a0.B.Hi⟩ : TInterval) t6 w ht6)) <|
      .cons [26] (ok_ld (fun ν4 => .agg #[.int .i64 a1.Lo, .int .i64 a1.Hi]) 26 167 0 2 (fun ν4 => ((ν1 1).n 0)) (fun ν4 => [.int .i64 a1.Lo, .int .i64 a1.Hi]) 23) <|
      .cons [27] (ok_callv 12 (fun ν4 => #[.agg #[.int .i64 a1.Lo, .int .i64 a1.Hi]]) (.agg #[.int .i64 t7.Lo, .int .i64 t7.Hi]) 27 [] (fun _ w _ => armillaryref02_Made.calls a1 t7 w ht7)) <|
      .cons [8, 168] (ok_new (fun b => .pointer (some ⟨b, 0, none⟩)) (fun ν4 => [.int .i64 0, .int .i64 0]) 23 8 168) <|
      .cons [9, 169] (ok_new (fun b => .pointer (some ⟨b, 0, none⟩)) (fun ν4 => [.int .i64 0, .int .i64 0]) 23 9 169) <|
      .cons [10, 170] (ok_new (fun b => .pointer (some ⟨b, 0, none⟩)) (fun ν4 => [.int .i64 0, .int .i64 0]) 23 10 170) <|
      .cons [168] (ok_as (u' := fun ν4 => [(168, .blk ((ν4 8).n 0) [.int .i64 t5.Lo, .int .i64 t5.Hi] 23)]) (ok_store 168 0 (fun ν4 => ((ν4 8).n 0)) (fun ν4 => [.int .i64 0, .int .i64 0]) (fun ν4 => [.int .i64 t5.Lo, .int .i64 t5.Hi]) 23) (fun _ => by kernel_rfl)) <|
      .cons [169] (ok_as (u' := fun ν4 => [(169, .blk ((ν4 9).n 0) [.int .i64 t6.Lo, .int .i64 t6.Hi] 23)]) (ok_store 169 0 (fun ν4 => ((ν4 9).n 0)) (fun ν4 => [.int .i64 0, .int .i64 0]) (fun ν4 => [.int .i64 t6.Lo, .int .i64 t6.Hi]) 23) (fun _ => by kernel_rfl)) <|
      .cons [170] (ok_as (u' := fun ν4 => [(170, .blk ((ν4 10).n 0) [.int .i64 t7.Lo, .int .i64 t7.Hi] 23)]) (ok_store 170 0 (fun ν4 => ((ν4 10).n 0)) (fun ν4 => [.int .i64 0, .int .i64 0]) (fun ν4 => [.int .i64 t7.Lo, .int .i64 t7.Hi]) 23) (fun _ => by kernel_rfl)) <| .nil) (by kernel_rfl) fun ν4 a w' H => ?_
  replace H := H.toL [(2, .slot true (.int .i64 a2)), (6, .slot true (.bool false)), (7, .slot true (.bool t3)), (8, .slot true (.pointer (some ⟨((ν4 8).n 0), 0, none⟩))), (9, .slot true (.pointer (some ⟨((ν4 9).n 0), 0, none⟩))), (10, .slot true (.pointer (some ⟨((ν4 10).n 0), 0, none⟩))), (168, .blk ((ν4 8).n 0) [.int .i64 t5.Lo, .int .i64 t5.Hi] 23), (169, .blk ((ν4 9).n 0) [.int .i64 t6.Lo, .int .i64 t6.Hi] 23), (170, .blk ((ν4 10).n 0) [.int .i64 t7.Lo, .int .i64 t7.Hi] 23), (999999, gk)] (by kernel_rfl)
  refine k_seq ?_
  replace G := bnd G; obtain ⟨t9, ht9, G⟩ := G
  refine k_reg mixed H (.cons [28] (ok_ld (fun ν8 => .agg #[.int .i64 t5.Lo, .int .i64 t5.Hi]) 28 168 0 2 (fun ν8 => ((ν4 8).n 0)) (fun ν8 => [.int .i64 t5.Lo, .int .i64 t5.Hi]) 23) <|
      .cons [29] (ok_ld (fun ν8 => .agg #[.int .i64 t6.Lo, .int .i64 t6.Hi]) 29 169 0 2 (fun ν8 => ((ν4 9).n 0)) (fun ν8 => [.int .i64 t6.Lo, .int .i64 t6.Hi]) 23) <|
      .cons [30] (ok_callv 29 (fun ν8 => #[.agg #[.int .i64 t5.Lo, .int .i64 t5.Hi], .agg #[.int .i64 t6.Lo, .int .i64 t6.Hi]]) (.agg #[.int .i64 t9.Lo, .int .i64 t9.Hi]) 30 [] (fun _ w _ => interval_Hull.calls t5 t6 t9 w ht9)) <|
      .cons [11, 171] (ok_new (fun b => .pointer (some ⟨b, 0, none⟩)) (fun ν8 => [.int .i64 0, .int .i64 0]) 23 11 171) <|
      .cons [171] (ok_as (u' := fun ν8 => [(171, .blk ((ν8 3).n 0) [.int .i64 t9.Lo, .int .i64 t9.Hi] 23)]) (ok_store 171 0 (fun ν8 => ((ν8 3).n 0)) (fun ν8 => [.int .i64 0, .int .i64 0]) (fun ν8 => [.int .i64 t9.Lo, .int .i64 t9.Hi]) 23) (fun _ => by kernel_rfl)) <| .nil) (by kernel_rfl) fun ν8 a w' H => ?_
  replace H := H.toL [(2, .slot true (.int .i64 a2)), (6, .slot true (.bool false)), (7, .slot true (.bool t3)), (8, .slot true (.pointer (some ⟨((ν4 8).n 0), 0, none⟩))), (9, .slot true (.pointer (some ⟨((ν4 9).n 0), 0, none⟩))), (10, .slot true (.pointer (some ⟨((ν4 10).n 0), 0, none⟩))), (11, .slot true (.pointer (some ⟨((ν8 3).n 0), 0, none⟩))), (168, .blk ((ν4 8).n 0) [.int .i64 t5.Lo, .int .i64 t5.Hi] 23), (169, .blk ((ν4 9).n 0) [.int .i64 t6.Lo, .int .i64 t6.Hi] 23), (170, .blk ((ν4 10).n 0) [.int .i64 t7.Lo, .int .i64 t7.Hi] 23), (171, .blk ((ν8 3).n 0) [.int .i64 t9.Lo, .int .i64 t9.Hi] 23), (999999, gk)] (by kernel_rfl)
  refine k_seq ?_
  replace G := bnd G; obtain ⟨t11, ht11, G⟩ := G
  refine k_reg mixed H (.cons [32] (ok_ld (fun ν10 => .agg #[.int .i64 t5.Lo, .int .i64 t5.Hi]) 32 168 0 2 (fun ν10 => ((ν4 8).n 0)) (fun ν10 => [.int .i64 t5.Lo, .int .i64 t5.Hi]) 23) <|
      .cons [33] (ok_ld (fun ν10 => .agg #[.int .i64 t6.Lo, .int .i64 t6.Hi]) 33 169 0 2 (fun ν10 => ((ν4 9).n 0)) (fun ν10 => [.int .i64 t6.Lo, .int .i64 t6.Hi]) 23) <|
      .cons [34] (ok_callv 30 (fun ν10 => #[.agg #[.int .i64 t5.Lo, .int .i64 t5.Hi], .agg #[.int .i64 t6.Lo, .int .i64 t6.Hi]]) (.tuple #[.agg #[.int .i64 t11.1.Lo, .int .i64 t11.1.Hi], .bool t11.2]) 34 [] (fun _ w _ => interval_Intersect.calls t5 t6 t11 w ht11)) <|
      .cons [31] (ok_val (fun ν10 => .tuple #[.agg #[.int .i64 t11.1.Lo, .int .i64 t11.1.Hi], .bool t11.2]) 31) <|
      .cons [35] (ok_val (fun ν10 => .agg #[.int .i64 t11.1.Lo, .int .i64 t11.1.Hi]) 35) <|
      .cons [36] (ok_val (fun ν10 => .bool t11.2) 36) <|
      .cons [12, 172] (ok_new (fun b => .pointer (some ⟨b, 0, none⟩)) (fun ν10 => [.int .i64 0, .int .i64 0]) 23 12 172) <|
      .cons [172] (ok_as (u' := fun ν10 => [(172, .blk ((ν10 6).n 0) [.int .i64 t11.1.Lo, .int .i64 t11.1.Hi] 23)]) (ok_store 172 0 (fun ν10 => ((ν10 6).n 0)) (fun ν10 => [.int .i64 0, .int .i64 0]) (fun ν10 => [.int .i64 t11.1.Lo, .int .i64 t11.1.Hi]) 23) (fun _ => by kernel_rfl)) <|
      .cons [13] (ok_val (fun ν10 => .bool t11.2) 13) <| .nil) (by kernel_rfl) fun ν10 a w' H => ?_
  replace H := H.toL [(2, .slot true (.int .i64 a2)), (6, .slot true (.bool false)), (7, .slot true (.bool t3)), (8, .slot true (.pointer (some ⟨((ν4 8).n 0), 0, none⟩))), (9, .slot true (.pointer (some ⟨((ν4 9).n 0), 0, none⟩))), (10, .slot true (.pointer (some ⟨((ν4 10).n 0), 0, none⟩))), (11, .slot true (.pointer (some ⟨((ν8 3).n 0), 0, none⟩))), (12, .slot true (.pointer (some ⟨((ν10 6).n 0), 0, none⟩))), (13, .slot true (.bool t11.2)), (168, .blk ((ν4 8).n 0) [.int .i64 t5.Lo, .int .i64 t5.Hi] 23), (169, .blk ((ν4 9).n 0) [.int .i64 t6.Lo, .int .i64 t6.Hi] 23), (170, .blk ((ν4 10).n 0) [.int .i64 t7.Lo, .int .i64 t7.Hi] 23), (171, .blk ((ν8 3).n 0) [.int .i64 t9.Lo, .int .i64 t9.Hi] 23), (172, .blk ((ν10 6).n 0) [.int .i64 t11.1.Lo, .int .i64 t11.1.Hi] 23), (999999, gk)] (by kernel_rfl)
  refine k_seq ?_
  refine k_reg mixed H (.cons [37] (ok_val (fun ν12 => .int .i64 a2) 37) <|
      .cons [38] (ok_val (fun ν12 => .int .i64 (Int.tmod a2 4294967296)) 38) <|
      .cons [14] (ok_val (fun ν12 => .int .i64 (Int.tmod a2 4294967296)) 14) <| .nil) (by kernel_rfl) fun ν12 a w' H => ?_
  replace H := H.toL [(6, .slot true (.bool false)), (7, .slot true (.bool t3)), (8, .slot true (.pointer (some ⟨((ν4 8).n 0), 0, none⟩))), (9, .slot true (.pointer (some ⟨((ν4 9).n 0), 0, none⟩))), (10, .slot true (.pointer (some ⟨((ν4 10).n 0), 0, none⟩))), (11, .slot true (.pointer (some ⟨((ν8 3).n 0), 0, none⟩))), (12, .slot true (.pointer (some ⟨((ν10 6).n 0), 0, none⟩))), (13, .slot true (.bool t11.2)), (14, .slot true (.int .i64 (Int.tmod a2 4294967296))), (168, .blk ((ν4 8).n 0) [.int .i64 t5.Lo, .int .i64 t5.Hi] 23), (169, .blk ((ν4 9).n 0) [.int .i64 t6.Lo, .int .i64 t6.Hi] 23), (170, .blk ((ν4 10).n 0) [.int .i64 t7.Lo, .int .i64 t7.Hi] 23), (171, .blk ((ν8 3).n 0) [.int .i64 t9.Lo, .int .i64 t9.Hi] 23), (172, .blk ((ν10 6).n 0) [.int .i64 t11.1.Lo, .int .i64 t11.1.Hi] 23), (999999, gk)] (by kernel_rfl)
  refine k_seq ?_
  refine k_seq ?_
  replace G := bnd G; obtain ⟨t14, ht14, G⟩ := G
  replace G := bnd G; obtain ⟨t15, ht15, G⟩ := G
  replace G := bnd G; obtain ⟨t16, ht16, G⟩ := G
  replace G := bnd G; obtain ⟨t17, ht17, G⟩ := G
  replace G := bnd G; obtain ⟨t18, ht18, G⟩ := G
  replace G := bnd G; obtain ⟨t19, ht19, G⟩ := G
  replace G := bnd G; obtain ⟨t20, ht20, G⟩ := G
  replace G := bnd G; obtain ⟨t21, ht21, G⟩ := G
  replace G := bnd G; obtain ⟨t22, ht22, G⟩ := G
  replace G := bnd G; obtain ⟨t23, ht23, G⟩ := G
  refine k_reg mixed H (.cons [39] (ok_ld (fun ν13 => .agg #[.int .i64 t5.Lo, .int .i64 t5.Hi]) 39 168 0 2 (fun ν13 => ((ν4 8).n 0)) (fun ν13 => [.int .i64 t5.Lo, .int .i64 t5.Hi]) 23) <|
      .cons [40] (ok_ld (fun ν13 => .agg #[.int .i64 t9.Lo, .int .i64 t9.Hi]) 40 171 0 2 (fun ν13 => ((ν8 3).n 0)) (fun ν13 => [.int .i64 t9.Lo, .int .i64 t9.Hi]) 23) <|
      .cons [41] (ok_callv 28 (fun ν13 => #[.agg #[.int .i64 t5.Lo, .int .i64 t5.Hi], .agg #[.int .i64 t9.Lo, .int .i64 t9.Hi]]) (.bool t14) 41 [] (fun _ w _ => interval_Subset.calls t5 t9 t14 w ht14)) <|
      .cons [42] (ok_val (fun ν13 => .bool (!t14)) 42) <|
      .cons [43] (ok_val (fun ν13 => .bool (!t14)) 43) <|
      .cons [44] (ok_ldg (fun ν13 => .agg #[.int .i64 t6.Lo, .int .i64 t6.Hi]) (fun ν13 => ((!t14) == false)) [true] 44 169 0 2 (fun ν13 => ((ν4 9).n 0)) (fun ν13 => [.int .i64 t6.Lo, .int .i64 t6.Hi]) 23) <|
      .cons [45] (ok_ldg (fun ν13 => .agg #[.int .i64 t9.Lo, .int .i64 t9.Hi]) (fun ν13 => ((!t14) == false)) [true] 45 171 0 2 (fun ν13 => ((ν8 3).n 0)) (fun ν13 => [.int .i64 t9.Lo, .int .i64 t9.Hi]) 23) <|
      .cons [46] (ok_call 28 (fun ν13 => #[.agg #[.int .i64 t6.Lo, .int .i64 t6.Hi], .agg #[.int .i64 t9.Lo, .int .i64 t9.Hi]]) (.bool t15) (fun ν13 => ((!t14) == false)) [true, false, false] 46 [] (fun _ w hg _ => interval_Subset.calls t6 t9 t15 w (ifp ht15 hg))) <|
      .cons [47] (ok_valg (fun ν13 => .bool (!t15)) (fun ν13 => ((!t14) == false)) [false] 47) <|
      .cons [48] (ok_or 43 47 (fun ν13 => true) (fun ν13 => true) (fun ν13 => (!t14)) (fun ν13 => (!t15)) 48) <|
      .cons [49] (ok_val (fun ν13 => .bool ((!t14) || (!t15))) 49) <|
      .cons [50] (ok_ldg (fun ν13 => .agg #[.int .i64 t5.Lo, .int .i64 t5.Hi]) (fun ν13 => (((!t14) || (!t15)) == false)) [true] 50 168 0 2 (fun ν13 => ((ν4 8).n 0)) (fun ν13 => [.int .i64 t5.Lo, .int .i64 t5.Hi]) 23) <|
      .cons [51] (ok_ldg (fun ν13 => .agg #[.int .i64 t7.Lo, .int .i64 t7.Hi]) (fun ν13 => (((!t14) || (!t15)) == false)) [true] 51 170 0 2 (fun ν13 => ((ν4 10).n 0)) (fun ν13 => [.int .i64 t7.Lo, .int .i64 t7.Hi]) 23) <|
      .cons [52] (ok_call 28 (fun ν13 => #[.agg #[.int .i64 t5.Lo, .int .i64 t5.Hi], .agg #[.int .i64 t7.Lo, .int .i64 t7.Hi]]) (.bool t16) (fun ν13 => (((!t14) || (!t15)) == false)) [true, false, false] 52 [] (fun _ w hg _ => interval_Subset.calls t5 t7 t16 w (ifp ht16 hg))) <|
      .cons [53] (ok_valg (fun ν13 => .bool t16) (fun ν13 => (((!t14) || (!t15)) == false)) [false] 53) <|
      .cons [54] (ok_ldg (fun ν13 => .agg #[.int .i64 t6.Lo, .int .i64 t6.Hi]) (fun ν13 => ((((!t14) || (!t15)) == false) && (t16 == true))) [true] 54 169 0 2 (fun ν13 => ((ν4 9).n 0)) (fun ν13 => [.int .i64 t6.Lo, .int .i64 t6.Hi]) 23) <|
      .cons [55] (ok_ldg (fun ν13 => .agg #[.int .i64 t7.Lo, .int .i64 t7.Hi]) (fun ν13 => ((((!t14) || (!t15)) == false) && (t16 == true))) [true] 55 170 0 2 (fun ν13 => ((ν4 10).n 0)) (fun ν13 => [.int .i64 t7.Lo, .int .i64 t7.Hi]) 23) <|
      .cons [56] (ok_call 28 (fun ν13 => #[.agg #[.int .i64 t6.Lo, .int .i64 t6.Hi], .agg #[.int .i64 t7.Lo, .int .i64 t7.Hi]]) (.bool t17) (fun ν13 => ((((!t14) || (!t15)) == false) && (t16 == true))) [true, false, false] 56 [] (fun _ w hg _ => interval_Subset.calls t6 t7 t17 w (ifp ht17 hg))) <|
      .cons [57] (ok_and 53 56 (fun ν13 => (((!t14) || (!t15)) == false)) (fun ν13 => (((!t14) || (!t15)) == false)) (fun ν13 => t16) (fun ν13 => t17) 57) <|
      .cons [58] (ok_valg (fun ν13 => .bool (t16 && t17)) (fun ν13 => (((!t14) || (!t15)) == false)) [false] 58) <|
      .cons [59] (ok_ldg (fun ν13 => .agg #[.int .i64 t9.Lo, .int .i64 t9.Hi]) (fun ν13 => ((((!t14) || (!t15)) == false) && ((t16 && t17) == true))) [true] 59 171 0 2 (fun ν13 => ((ν8 3).n 0)) (fun ν13 => [.int .i64 t9.Lo, .int .i64 t9.Hi]) 23) <|
      .cons [60] (ok_ldg (fun ν13 => .agg #[.int .i64 t7.Lo, .int .i64 t7.Hi]) (fun ν13 => ((((!t14) || (!t15)) == false) && ((t16 && t17) == true))) [true] 60 170 0 2 (fun ν13 => ((ν4 10).n 0)) (fun ν13 => [.int .i64 t7.Lo, .int .i64 t7.Hi]) 23) <|
      .cons [61] (ok_call 28 (fun ν13 => #[.agg #[.int .i64 t9.Lo, .int .i64 t9.Hi], .agg #[.int .i64 t7.Lo, .int .i64 t7.Hi]]) (.bool t18) (fun ν13 => ((((!t14) || (!t15)) == false) && ((t16 && t17) == true))) [true, false, false] 61 [] (fun _ w hg _ => interval_Subset.calls t9 t7 t18 w (ifp ht18 hg))) <|
      .cons [62] (ok_valg (fun ν13 => .bool (!t18)) (fun ν13 => ((((!t14) || (!t15)) == false) && ((t16 && t17) == true))) [false] 62) <|
      .cons [63] (ok_and 58 62 (fun ν13 => (((!t14) || (!t15)) == false)) (fun ν13 => (((!t14) || (!t15)) == false)) (fun ν13 => (t16 && t17)) (fun ν13 => (!t18)) 63) <|
      .cons [64] (ok_or 49 63 (fun ν13 => true) (fun ν13 => true) (fun ν13 => ((!t14) || (!t15))) (fun ν13 => ((t16 && t17) && (!t18))) 64) <|
      .cons [65] (ok_val (fun ν13 => .bool (((!t14) || (!t15)) || ((t16 && t17) && (!t18)))) 65) <|
      .cons [66] (ok_ldg (fun ν13 => .agg #[.int .i64 t9.Lo, .int .i64 t9.Hi]) (fun ν13 => ((((!t14) || (!t15)) || ((t16 && t17) && (!t18))) == false)) [true] 66 171 0 2 (fun ν13 => ((ν8 3).n 0)) (fun ν13 => [.int .i64 t9.Lo, .int .i64 t9.Hi]) 23) <|
      .cons [67] (ok_ldg (fun ν13 => .agg #[.int .i64 t6.Lo, .int .i64 t6.Hi]) (fun ν13 => ((((!t14) || (!t15)) || ((t16 && t17) && (!t18))) == false)) [true] 67 169 0 2 (fun ν13 => ((ν4 9).n 0)) (fun ν13 => [.int .i64 t6.Lo, .int .i64 t6.Hi]) 23) <|
      .cons [68] (ok_ldg (fun ν13 => .agg #[.int .i64 t5.Lo, .int .i64 t5.Hi]) (fun ν13 => ((((!t14) || (!t15)) || ((t16 && t17) && (!t18))) == false)) [true] 68 168 0 2 (fun ν13 => ((ν4 8).n 0)) (fun ν13 => [.int .i64 t5.Lo, .int .i64 t5.Hi]) 23) <|
      .cons [69] (ok_call 29 (fun ν13 => #[.agg #[.int .i64 t6.Lo, .int .i64 t6.Hi], .agg #[.int .i64 t5.Lo, .int .i64 t5.Hi]]) (.agg #[.int .i64 t19.Lo, .int .i64 t19.Hi]) (fun ν13 => ((((!t14) || (!t15)) || ((t16 && t17) && (!t18))) == false)) [true, false, false] 69 [] (fun _ w hg _ => interval_Hull.calls t6 t5 t19 w (ifp ht19 hg))) <|
      .cons [70] (ok_call 31 (fun ν13 => #[.agg #[.int .i64 t9.Lo, .int .i64 t9.Hi], .agg #[.int .i64 t19.Lo, .int .i64 t19.Hi]]) (.bool t20) (fun ν13 => ((((!t14) || (!t15)) || ((t16 && t17) && (!t18))) == false)) [true, false, false] 70 [] (fun _ w hg _ => armillaryref02_Same.calls t9 t19 t20 w (ifp ht20 hg))) <|
      .cons [71] (ok_valg (fun ν13 => .bool (!t20)) (fun ν13 => ((((!t14) || (!t15)) || ((t16 && t17) && (!t18))) == false)) [false] 71) <|
      .cons [72] (ok_or 65 71 (fun ν13 => true) (fun ν13 => true) (fun ν13 => (((!t14) || (!t15)) || ((t16 && t17) && (!t18)))) (fun ν13 => (!t20)) 72) <|
      .cons [73] (ok_val (fun ν13 => .bool ((((!t14) || (!t15)) || ((t16 && t17) && (!t18))) || (!t20))) 73) <|
      .cons [74] (ok_ldg (fun ν13 => .agg #[.int .i64 t5.Lo, .int .i64 t5.Hi]) (fun ν13 => (((((!t14) || (!t15)) || ((t16 && t17) && (!t18))) || (!t20)) == false)) [true] 74 168 0 2 (fun ν13 => ((ν4 8).n 0)) (fun ν13 => [.int .i64 t5.Lo, .int .i64 t5.Hi]) 23) <|
      .cons [75] (ok_ldg (fun ν13 => .agg #[.int .i64 t5.Lo, .int .i64 t5.Hi]) (fun ν13 => (((((!t14) || (!t15)) || ((t16 && t17) && (!t18))) || (!t20)) == false)) [true] 75 168 0 2 (fun ν13 => ((ν4 8).n 0)) (fun ν13 => [.int .i64 t5.Lo, .int .i64 t5.Hi]) 23) <|
      .cons [76] (ok_call 29 (fun ν13 => #[.agg #[.int .i64 t5.Lo, .int .i64 t5.Hi], .agg #[.int .i64 t5.Lo, .int .i64 t5.Hi]]) (.agg #[.int .i64 t21.Lo, .int .i64 t21.Hi]) (fun ν13 => (((((!t14) || (!t15)) || ((t16 && t17) && (!t18))) || (!t20)) == false)) [true, false, false] 76 [] (fun _ w hg _ => interval_Hull.calls t5 t5 t21 w (ifp ht21 hg))) <|
      .cons [77] (ok_ldg (fun ν13 => .agg #[.int .i64 t5.Lo, .int .i64 t5.Hi]) (fun ν13 => (((((!t14) || (!t15)) || ((t16 && t17) && (!t18))) || (!t20)) == false)) [true] 77 168 0 2 (fun ν13 => ((ν4 8).n 0)) (fun ν13 => [.int .i64 t5.Lo, .int .i64 t5.Hi]) 23) <|
      .cons [78] (ok_call 31 (fun ν13 => #[.agg #[.int .i64 t21.Lo, .int .i64 t21.Hi], .agg #[.int .i64 t5.Lo, .int .i64 t5.Hi]]) (.bool t22) (fun ν13 => (((((!t14) || (!t15)) || ((t16 && t17) && (!t18))) || (!t20)) == false)) [true, false, false] 78 [] (fun _ w hg _ => armillaryref02_Same.calls t21 t5 t22 w (ifp ht22 hg))) <|
      .cons [79] (ok_valg (fun ν13 => .bool (!t22)) (fun ν13 => (((((!t14) || (!t15)) || ((t16 && t17) && (!t18))) || (!t20)) == false)) [false] 79) <|
      .cons [80] (ok_or 73 79 (fun ν13 => true) (fun ν13 => true) (fun ν13 => ((((!t14) || (!t15)) || ((t16 && t17) && (!t18))) || (!t20))) (fun ν13 => (!t22)) 80) <|
      .cons [81] (ok_val (fun ν13 => .bool (((((!t14) || (!t15)) || ((t16 && t17) && (!t18))) || (!t20)) || (!t22))) 81) <|
      .cons [82] (ok_ldg (fun ν13 => .agg #[.int .i64 t9.Lo, .int .i64 t9.Hi]) (fun ν13 => ((((((!t14) || (!t15)) || ((t16 && t17) && (!t18))) || (!t20)) || (!t22)) == false)) [true] 82 171 0 2 (fun ν13 => ((ν8 3).n 0)) (fun ν13 => [.int .i64 t9.Lo, .int .i64 t9.Hi]) 23) <|
      .cons [83] (ok_call 32 (fun ν13 => #[.agg #[.int .i64 t9.Lo, .int .i64 t9.Hi]]) (.bool t23) (fun ν13 => ((((((!t14) || (!t15)) || ((t16 && t17) && (!t18))) || (!t20)) || (!t22)) == false)) [true, false] 83 [] (fun _ w hg _ => interval_Valid.calls t9 t23 w (ifp ht23 hg))) <|
      .cons [84] (ok_valg (fun ν13 => .bool (!t23)) (fun ν13 => ((((((!t14) || (!t15)) || ((t16 && t17) && (!t18))) || (!t20)) || (!t22)) == false)) [false] 84) <|
      .cons [85] (ok_or 81 84 (fun ν13 => true) (fun ν13 => true) (fun ν13 => (((((!t14) || (!t15)) || ((t16 && t17) && (!t18))) || (!t20)) || (!t22))) (fun ν13 => (!t23)) 85) <| .nil) (by kernel_rfl) fun ν13 a w' H => ?_
  replace H := H.toL [(6, .slot true (.bool false)), (7, .slot true (.bool t3)), (8, .slot true (.pointer (some ⟨((ν4 8).n 0), 0, none⟩))), (9, .slot true (.pointer (some ⟨((ν4 9).n 0), 0, none⟩))), (12, .slot true (.pointer (some ⟨((ν10 6).n 0), 0, none⟩))), (13, .slot true (.bool t11.2)), (14, .slot true (.int .i64 (Int.tmod a2 4294967296))), (85, .slot true (.bool ((((((!t14) || (!t15)) || ((t16 && t17) && (!t18))) || (!t20)) || (!t22)) || (!t23)))), (168, .blk ((ν4 8).n 0) [.int .i64 t5.Lo, .int .i64 t5.Hi] 23), (169, .blk ((ν4 9).n 0) [.int .i64 t6.Lo, .int .i64 t6.Hi] 23), (172, .blk ((ν10 6).n 0) [.int .i64 t11.1.Lo, .int .i64 t11.1.Hi] 23), (999999, gk)] (by kernel_rfl)
  refine k_cond H (by kernel_rfl) (t := ((((((!t14) || (!t15)) || ((t16 && t17) && (!t18))) || (!t20)) || (!t22)) || (!t23))) (by kernel_rfl) (fun c43 => ?_) (fun c43 => ?_)
  · rw [if_pos c43] at G
    refine k_seq ?_
    refine k_reg mixed H (.cons [6] (ok_val (fun ν24 => .bool false) 6) <| .nil) (by kernel_rfl) fun ν24 a w' H => ?_
    replace H := H.toL [(6, .slot true (.bool false)), (7, .slot true (.bool t3)), (8, .slot true (.pointer (some ⟨((ν4 8).n 0), 0, none⟩))), (9, .slot true (.pointer (some ⟨((ν4 9).n 0), 0, none⟩))), (12, .slot true (.pointer (some ⟨((ν10 6).n 0), 0, none⟩))), (13, .slot true (.bool t11.2)), (14, .slot true (.int .i64 (Int.tmod a2 4294967296))), (168, .blk ((ν4 8).n 0) [.int .i64 t5.Lo, .int .i64 t5.Hi] 23), (169, .blk ((ν4 9).n 0) [.int .i64 t6.Lo, .int .i64 t6.Hi] 23), (172, .blk ((ν10 6).n 0) [.int .i64 t11.1.Lo, .int .i64 t11.1.Hi] 23), (999999, gk)] (by kernel_rfl)
    refine k_ret ?_
    obtain rfl := Option.some.inj G
    exact k_done0 H _ (by kernel_rfl) (by kernel_rfl)
  · rw [if_neg (nt c43)] at G
    refine k_skip ?_
    refine k_seq ?_
    refine k_seq ?_
    replace G := bnd G; obtain ⟨t26, ht26, G⟩ := G
    replace G := bnd G; obtain ⟨t27, ht27, G⟩ := G
    replace G := bnd G; obtain ⟨t28, ht28, G⟩ := G
    replace G := bnd G; obtain ⟨t29, ht29, G⟩ := G
    replace G := bnd G; obtain ⟨t30, ht30, G⟩ := G
    replace G := bnd G; obtain ⟨t31, ht31, G⟩ := G
    refine k_reg mixed H (.cons [86] (ok_ld (fun ν25 => .agg #[.int .i64 t5.Lo, .int .i64 t5.Hi]) 86 168 0 2 (fun ν25 => ((ν4 8).n 0)) (fun ν25 => [.int .i64 t5.Lo, .int .i64 t5.Hi]) 23) <|
      .cons [87] (ok_val (fun ν25 => .int .i64 (Int.tmod a2 4294967296)) 87) <|
      .cons [88] (ok_callv 33 (fun ν25 => #[.agg #[.int .i64 t5.Lo, .int .i64 t5.Hi], .int .i64 (Int.tmod a2 4294967296)]) (.bool t26) 88 [] (fun _ w _ => interval_Contains.calls t5 (Int.tmod a2 4294967296) t26 w ht26)) <|
      .cons [89] (ok_val (fun ν25 => .bool t26) 89) <|
      .cons [90] (ok_ldg (fun ν25 => .agg #[.int .i64 t6.Lo, .int .i64 t6.Hi]) (fun ν25 => (t26 == true)) [true] 90 169 0 2 (fun ν25 => ((ν4 9).n 0)) (fun ν25 => [.int .i64 t6.Lo, .int .i64 t6.Hi]) 23) <|
      .cons [91] (ok_valg (fun ν25 => .int .i64 (Int.tmod a2 4294967296)) (fun ν25 => (t26 == true)) [true] 91) <|
      .cons [92] (ok_call 33 (fun ν25 => #[.agg #[.int .i64 t6.Lo, .int .i64 t6.Hi], .int .i64 (Int.tmod a2 4294967296)]) (.bool t27) (fun ν25 => (t26 == true)) [true, false, false] 92 [] (fun _ w hg _ => interval_Contains.calls t6 (Int.tmod a2 4294967296) t27 w (ifp ht27 hg))) <|
      .cons [93] (ok_and 89 92 (fun ν25 => true) (fun ν25 => true) (fun ν25 => t26) (fun ν25 => t27) 93) <|
      .cons [94] (ok_val (fun ν25 => .bool t11.2) 94) <|
      .cons [95] (ok_val (fun ν25 => .bool t11.2) 95) <|
      .cons [96] (ok_ldg (fun ν25 => .agg #[.int .i64 t11.1.Lo, .int .i64 t11.1.Hi]) (fun ν25 => (t11.2 == true)) [true] 96 172 0 2 (fun ν25 => ((ν10 6).n 0)) (fun ν25 => [.int .i64 t11.1.Lo, .int .i64 t11.1.Hi]) 23) <|
      .cons [97] (ok_valg (fun ν25 => .int .i64 (Int.tmod a2 4294967296)) (fun ν25 => (t11.2 == true)) [true] 97) <|
      .cons [98] (ok_call 33 (fun ν25 => #[.agg #[.int .i64 t11.1.Lo, .int .i64 t11.1.Hi], .int .i64 (Int.tmod a2 4294967296)]) (.bool t28) (fun ν25 => (t11.2 == true)) [true, false, false] 98 [] (fun _ w hg _ => interval_Contains.calls (⟨t11.1.Lo, t11.1.Hi⟩ : TInterval) (Int.tmod a2 4294967296) t28 w (ifp ht28 hg))) <|
      .cons [99] (ok_and 95 98 (fun ν25 => true) (fun ν25 => true) (fun ν25 => t11.2) (fun ν25 => t28) 99) <|
      .cons [100] (ok_val (fun ν25 => .bool (!((t26 && t27) == (t11.2 && t28)))) 100) <|
      .cons [101] (ok_val (fun ν25 => .bool (!((t26 && t27) == (t11.2 && t28)))) 101) <|
      .cons [102] (ok_valg (fun ν25 => .bool t11.2) (fun ν25 => ((!((t26 && t27) == (t11.2 && t28))) == false)) [true] 102) <|
      .cons [103] (ok_valg (fun ν25 => .bool t11.2) (fun ν25 => ((!((t26 && t27) == (t11.2 && t28))) == false)) [false] 103) <|
      .cons [104] (ok_ldg (fun ν25 => .agg #[.int .i64 t11.1.Lo, .int .i64 t11.1.Hi]) (fun ν25 => (((!((t26 && t27) == (t11.2 && t28))) == false) && (t11.2 == true))) [true] 104 172 0 2 (fun ν25 => ((ν10 6).n 0)) (fun ν25 => [.int .i64 t11.1.Lo, .int .i64 t11.1.Hi]) 23) <|
      .cons [105] (ok_ldg (fun ν25 => .agg #[.int .i64 t5.Lo, .int .i64 t5.Hi]) (fun ν25 => (((!((t26 && t27) == (t11.2 && t28))) == false) && (t11.2 == true))) [true] 105 168 0 2 (fun ν25 => ((ν4 8).n 0)) (fun ν25 => [.int .i64 t5.Lo, .int .i64 t5.Hi]) 23) <|
      .cons [106] (ok_call 28 (fun ν25 => #[.agg #[.int .i64 t11.1.Lo, .int .i64 t11.1.Hi], .agg #[.int .i64 t5.Lo, .int .i64 t5.Hi]]) (.bool t29) (fun ν25 => (((!((t26 && t27) == (t11.2 && t28))) == false) && (t11.2 == true))) [true, false, false] 106 [] (fun _ w hg _ => interval_Subset.calls (⟨t11.1.Lo, t11.1.Hi⟩ : TInterval) t5 t29 w (ifp ht29 hg))) <|
      .cons [107] (ok_valg (fun ν25 => .bool (!t29)) (fun ν25 => (((!((t26 && t27) == (t11.2 && t28))) == false) && (t11.2 == true))) [false] 107) <|
      .cons [108] (ok_valg (fun ν25 => .bool (!t29)) (fun ν25 => (((!((t26 && t27) == (t11.2 && t28))) == false) && (t11.2 == true))) [false] 108) <|
      .cons [109] (ok_ldg (fun ν25 => .agg #[.int .i64 t11.1.Lo, .int .i64 t11.1.Hi]) (fun ν25 => ((((!((t26 && t27) == (t11.2 && t28))) == false) && (t11.2 == true)) && ((!t29) == false))) [true] 109 172 0 2 (fun ν25 => ((ν10 6).n 0)) (fun ν25 => [.int .i64 t11.1.Lo, .int .i64 t11.1.Hi]) 23) <|
      .cons [110] (ok_ldg (fun ν25 => .agg #[.int .i64 t6.Lo, .int .i64 t6.Hi]) (fun ν25 => ((((!((t26 && t27) == (t11.2 && t28))) == false) && (t11.2 == true)) && ((!t29) == false))) [true] 110 169 0 2 (fun ν25 => ((ν4 9).n 0)) (fun ν25 => [.int .i64 t6.Lo, .int .i64 t6.Hi]) 23) <|
      .cons [111] (ok_call 28 (fun ν25 => #[.agg #[.int .i64 t11.1.Lo, .int .i64 t11.1.Hi], .agg #[.int .i64 t6.Lo, .int .i64 t6.Hi]]) (.bool t30) (fun ν25 => ((((!((t26 && t27) == (t11.2 && t28))) == false) && (t11.2 == true)) && ((!t29) == false))) [true, false, false] 111 [] (fun _ w hg _ => interval_Subset.calls (⟨t11.1.Lo, t11.1.Hi⟩ : TInterval) t6 t30 w (ifp ht30 hg))) <|
      .cons [112] (ok_valg (fun ν25 => .bool (!t30)) (fun ν25 => ((((!((t26 && t27) == (t11.2 && t28))) == false) && (t11.2 == true)) && ((!t29) == false))) [false] 112) <|
      .cons [113] (ok_or 108 112 (fun ν25 => (((!((t26 && t27) == (t11.2 && t28))) == false) && (t11.2 == true))) (fun ν25 => (((!((t26 && t27) == (t11.2 && t28))) == false) && (t11.2 == true))) (fun ν25 => (!t29)) (fun ν25 => (!t30)) 113) <|
      .cons [114] (ok_valg (fun ν25 => .bool ((!t29) || (!t30))) (fun ν25 => (((!((t26 && t27) == (t11.2 && t28))) == false) && (t11.2 == true))) [false] 114) <|
      .cons [115] (ok_ldg (fun ν25 => .agg #[.int .i64 t11.1.Lo, .int .i64 t11.1.Hi]) (fun ν25 => ((((!((t26 && t27) == (t11.2 && t28))) == false) && (t11.2 == true)) && (((!t29) || (!t30)) == false))) [true] 115 172 0 2 (fun ν25 => ((ν10 6).n 0)) (fun ν25 => [.int .i64 t11.1.Lo, .int .i64 t11.1.Hi]) 23) <|
      .cons [116] (ok_call 32 (fun ν25 => #[.agg #[.int .i64 t11.1.Lo, .int .i64 t11.1.Hi]]) (.bool t31) (fun ν25 => ((((!((t26 && t27) == (t11.2 && t28))) == false) && (t11.2 == true)) && (((!t29) || (!t30)) == false))) [true, false] 116 [] (fun _ w hg _ => interval_Valid.calls (⟨t11.1.Lo, t11.1.Hi⟩ : TInterval) t31 w (ifp ht31 hg))) <|
      .cons [117] (ok_valg (fun ν25 => .bool (!t31)) (fun ν25 => ((((!((t26 && t27) == (t11.2 && t28))) == false) && (t11.2 == true)) && (((!t29) || (!t30)) == false))) [false] 117) <|
      .cons [118] (ok_or 114 117 (fun ν25 => (((!((t26 && t27) == (t11.2 && t28))) == false) && (t11.2 == true))) (fun ν25 => (((!((t26 && t27) == (t11.2 && t28))) == false) && (t11.2 == true))) (fun ν25 => ((!t29) || (!t30))) (fun ν25 => (!t31)) 118) <|
      .cons [119] (ok_and 103 118 (fun ν25 => ((!((t26 && t27) == (t11.2 && t28))) == false)) (fun ν25 => ((!((t26 && t27) == (t11.2 && t28))) == false)) (fun ν25 => t11.2) (fun ν25 => (((!t29) || (!t30)) || (!t31))) 119) <|
      .cons [120] (ok_or 101 119 (fun ν25 => true) (fun ν25 => true) (fun ν25 => (!((t26 && t27) == (t11.2 && t28)))) (fun ν25 => (t11.2 && (((!t29) || (!t30)) || (!t31)))) 120) <| .nil) (by kernel_rfl) fun ν25 a w' H => ?_
    replace H := H.toL [(6, .slot true (.bool false)), (7, .slot true (.bool t3)), (8, .slot true (.pointer (some ⟨((ν4 8).n 0), 0, none⟩))), (9, .slot true (.pointer (some ⟨((ν4 9).n 0), 0, none⟩))), (12, .slot true (.pointer (some ⟨((ν10 6).n 0), 0, none⟩))), (13, .slot true (.bool t11.2)), (120, .slot true (.bool ((!((t26 && t27) == (t11.2 && t28))) || (t11.2 && (((!t29) || (!t30)) || (!t31)))))), (168, .blk ((ν4 8).n 0) [.int .i64 t5.Lo, .int .i64 t5.Hi] 23), (169, .blk ((ν4 9).n 0) [.int .i64 t6.Lo, .int .i64 t6.Hi] 23), (172, .blk ((ν10 6).n 0) [.int .i64 t11.1.Lo, .int .i64 t11.1.Hi] 23), (999999, gk)] (by kernel_rfl)
    refine k_cond H (by kernel_rfl) (t := ((!((t26 && t27) == (t11.2 && t28))) || (t11.2 && (((!t29) || (!t30)) || (!t31))))) (by kernel_rfl) (fun c42 => ?_) (fun c42 => ?_)
    · rw [if_pos c42] at G
      refine k_seq ?_
      refine k_reg mixed H (.cons [6] (ok_val (fun ν32 => .bool false) 6) <| .nil) (by kernel_rfl) fun ν32 a w' H => ?_
      replace H := H.toL [(6, .slot true (.bool false)), (7, .slot true (.bool t3)), (8, .slot true (.pointer (some ⟨((ν4 8).n 0), 0, none⟩))), (9, .slot true (.pointer (some ⟨((ν4 9).n 0), 0, none⟩))), (12, .slot true (.pointer (some ⟨((ν10 6).n 0), 0, none⟩))), (13, .slot true (.bool t11.2)), (168, .blk ((ν4 8).n 0) [.int .i64 t5.Lo, .int .i64 t5.Hi] 23), (169, .blk ((ν4 9).n 0) [.int .i64 t6.Lo, .int .i64 t6.Hi] 23), (172, .blk ((ν10 6).n 0) [.int .i64 t11.1.Lo, .int .i64 t11.1.Hi] 23), (999999, gk)] (by kernel_rfl)
      refine k_ret ?_
      obtain rfl := Option.some.inj G
      exact k_done0 H _ (by kernel_rfl) (by kernel_rfl)
    · rw [if_neg (nt c42)] at G
      refine k_skip ?_
      refine k_seq ?_
      replace G := bnd G; obtain ⟨t34, ht34, G⟩ := G
      refine k_reg mixed H (.cons [122] (ok_ld (fun ν33 => .agg #[.int .i64 t6.Lo, .int .i64 t6.Hi]) 122 169 0 2 (fun ν33 => ((ν4 9).n 0)) (fun ν33 => [.int .i64 t6.Lo, .int .i64 t6.Hi]) 23) <|
      .cons [123] (ok_ld (fun ν33 => .agg #[.int .i64 t5.Lo, .int .i64 t5.Hi]) 123 168 0 2 (fun ν33 => ((ν4 8).n 0)) (fun ν33 => [.int .i64 t5.Lo, .int .i64 t5.Hi]) 23) <|
      .cons [124] (ok_callv 30 (fun ν33 => #[.agg #[.int .i64 t6.Lo, .int .i64 t6.Hi], .agg #[.int .i64 t5.Lo, .int .i64 t5.Hi]]) (.tuple #[.agg #[.int .i64 t34.1.Lo, .int .i64 t34.1.Hi], .bool t34.2]) 124 [] (fun _ w _ => interval_Intersect.calls t6 t5 t34 w ht34)) <|
      .cons [121] (ok_val (fun ν33 => .tuple #[.agg #[.int .i64 t34.1.Lo, .int .i64 t34.1.Hi], .bool t34.2]) 121) <|
      .cons [125] (ok_val (fun ν33 => .agg #[.int .i64 t34.1.Lo, .int .i64 t34.1.Hi]) 125) <|
      .cons [126] (ok_val (fun ν33 => .bool t34.2) 126) <|
      .cons [15, 173] (ok_new (fun b => .pointer (some ⟨b, 0, none⟩)) (fun ν33 => [.int .i64 0, .int .i64 0]) 23 15 173) <|
      .cons [173] (ok_as (u' := fun ν33 => [(173, .blk ((ν33 6).n 0) [.int .i64 t34.1.Lo, .int .i64 t34.1.Hi] 23)]) (ok_store 173 0 (fun ν33 => ((ν33 6).n 0)) (fun ν33 => [.int .i64 0, .int .i64 0]) (fun ν33 => [.int .i64 t34.1.Lo, .int .i64 t34.1.Hi]) 23) (fun _ => by kernel_rfl)) <|
      .cons [16] (ok_val (fun ν33 => .bool t34.2) 16) <| .nil) (by kernel_rfl) fun ν33 a w' H => ?_
      replace H := H.toL [(6, .slot true (.bool false)), (7, .slot true (.bool t3)), (8, .slot true (.pointer (some ⟨((ν4 8).n 0), 0, none⟩))), (9, .slot true (.pointer (some ⟨((ν4 9).n 0), 0, none⟩))), (12, .slot true (.pointer (some ⟨((ν10 6).n 0), 0, none⟩))), (13, .slot true (.bool t11.2)), (15, .slot true (.pointer (some ⟨((ν33 6).n 0), 0, none⟩))), (16, .slot true (.bool t34.2)), (168, .blk ((ν4 8).n 0) [.int .i64 t5.Lo, .int .i64 t5.Hi] 23), (169, .blk ((ν4 9).n 0) [.int .i64 t6.Lo, .int .i64 t6.Hi] 23), (172, .blk ((ν10 6).n 0) [.int .i64 t11.1.Lo, .int .i64 t11.1.Hi] 23), (173, .blk ((ν33 6).n 0) [.int .i64 t34.1.Lo, .int .i64 t34.1.Hi] 23), (999999, gk)] (by kernel_rfl)
      refine k_seq ?_
      replace G := bnd G; obtain ⟨t36, ht36, G⟩ := G
      refine k_reg mixed H (.cons [128] (ok_ld (fun ν35 => .agg #[.int .i64 t5.Lo, .int .i64 t5.Hi]) 128 168 0 2 (fun ν35 => ((ν4 8).n 0)) (fun ν35 => [.int .i64 t5.Lo, .int .i64 t5.Hi]) 23) <|
      .cons [129] (ok_ld (fun ν35 => .agg #[.int .i64 t5.Lo, .int .i64 t5.Hi]) 129 168 0 2 (fun ν35 => ((ν4 8).n 0)) (fun ν35 => [.int .i64 t5.Lo, .int .i64 t5.Hi]) 23) <|
      .cons [130] (ok_callv 30 (fun ν35 => #[.agg #[.int .i64 t5.Lo, .int .i64 t5.Hi], .agg #[.int .i64 t5.Lo, .int .i64 t5.Hi]]) (.tuple #[.agg #[.int .i64 t36.1.Lo, .int .i64 t36.1.Hi], .bool t36.2]) 130 [] (fun _ w _ => interval_Intersect.calls t5 t5 t36 w ht36)) <|
      .cons [127] (ok_val (fun ν35 => .tuple #[.agg #[.int .i64 t36.1.Lo, .int .i64 t36.1.Hi], .bool t36.2]) 127) <|
      .cons [131] (ok_val (fun ν35 => .agg #[.int .i64 t36.1.Lo, .int .i64 t36.1.Hi]) 131) <|
      .cons [132] (ok_val (fun ν35 => .bool t36.2) 132) <|
      .cons [17, 174] (ok_new (fun b => .pointer (some ⟨b, 0, none⟩)) (fun ν35 => [.int .i64 0, .int .i64 0]) 23 17 174) <|
      .cons [174] (ok_as (u' := fun ν35 => [(174, .blk ((ν35 6).n 0) [.int .i64 t36.1.Lo, .int .i64 t36.1.Hi] 23)]) (ok_store 174 0 (fun ν35 => ((ν35 6).n 0)) (fun ν35 => [.int .i64 0, .int .i64 0]) (fun ν35 => [.int .i64 t36.1.Lo, .int .i64 t36.1.Hi]) 23) (fun _ => by kernel_rfl)) <|
      .cons [18] (ok_val (fun ν35 => .bool t36.2) 18) <| .nil) (by kernel_rfl) fun ν35 a w' H => ?_
      replace H := H.toL [(6, .slot true (.bool false)), (7, .slot true (.bool t3)), (8, .slot true (.pointer (some ⟨((ν4 8).n 0), 0, none⟩))), (9, .slot true (.pointer (some ⟨((ν4 9).n 0), 0, none⟩))), (12, .slot true (.pointer (some ⟨((ν10 6).n 0), 0, none⟩))), (13, .slot true (.bool t11.2)), (15, .slot true (.pointer (some ⟨((ν33 6).n 0), 0, none⟩))), (16, .slot true (.bool t34.2)), (17, .slot true (.pointer (some ⟨((ν35 6).n 0), 0, none⟩))), (18, .slot true (.bool t36.2)), (168, .blk ((ν4 8).n 0) [.int .i64 t5.Lo, .int .i64 t5.Hi] 23), (169, .blk ((ν4 9).n 0) [.int .i64 t6.Lo, .int .i64 t6.Hi] 23), (172, .blk ((ν10 6).n 0) [.int .i64 t11.1.Lo, .int .i64 t11.1.Hi] 23), (173, .blk ((ν33 6).n 0) [.int .i64 t34.1.Lo, .int .i64 t34.1.Hi] 23), (174, .blk ((ν35 6).n 0) [.int .i64 t36.1.Lo, .int .i64 t36.1.Hi] 23), (999999, gk)] (by kernel_rfl)
      refine k_seq ?_
      replace G := bnd G; obtain ⟨t38, ht38, G⟩ := G
      replace G := bnd G; obtain ⟨t39, ht39, G⟩ := G
      replace G := bnd G; obtain ⟨t40, ht40, G⟩ := G
      replace G := bnd G; obtain ⟨t41, ht41, G⟩ := G
      refine k_reg mixed H (.cons [133] (ok_val (fun ν37 => .bool t11.2) 133) <|
      .cons [134] (ok_val (fun ν37 => .bool t34.2) 134) <|
      .cons [135] (ok_val (fun ν37 => .bool (t11.2 == t34.2)) 135) <|
      .cons [136] (ok_val (fun ν37 => .bool (t11.2 == t34.2)) 136) <|
      .cons [137] (ok_ldg (fun ν37 => .agg #[.int .i64 t11.1.Lo, .int .i64 t11.1.Hi]) (fun ν37 => ((t11.2 == t34.2) == true)) [true] 137 172 0 2 (fun ν37 => ((ν10 6).n 0)) (fun ν37 => [.int .i64 t11.1.Lo, .int .i64 t11.1.Hi]) 23) <|
      .cons [138] (ok_ldg (fun ν37 => .agg #[.int .i64 t34.1.Lo, .int .i64 t34.1.Hi]) (fun ν37 => ((t11.2 == t34.2) == true)) [true] 138 173 0 2 (fun ν37 => ((ν33 6).n 0)) (fun ν37 => [.int .i64 t34.1.Lo, .int .i64 t34.1.Hi]) 23) <|
      .cons [139] (ok_call 31 (fun ν37 => #[.agg #[.int .i64 t11.1.Lo, .int .i64 t11.1.Hi], .agg #[.int .i64 t34.1.Lo, .int .i64 t34.1.Hi]]) (.bool t38) (fun ν37 => ((t11.2 == t34.2) == true)) [true, false, false] 139 [] (fun _ w hg _ => armillaryref02_Same.calls (⟨t11.1.Lo, t11.1.Hi⟩ : TInterval) (⟨t34.1.Lo, t34.1.Hi⟩ : TInterval) t38 w (ifp ht38 hg))) <|
      .cons [140] (ok_and 136 139 (fun ν37 => true) (fun ν37 => true) (fun ν37 => (t11.2 == t34.2)) (fun ν37 => t38) 140) <|
      .cons [141] (ok_val (fun ν37 => .bool ((t11.2 == t34.2) && t38)) 141) <|
      .cons [142] (ok_ldg (fun ν37 => .agg #[.int .i64 t36.1.Lo, .int .i64 t36.1.Hi]) (fun ν37 => (((t11.2 == t34.2) && t38) == true)) [true] 142 174 0 2 (fun ν37 => ((ν35 6).n 0)) (fun ν37 => [.int .i64 t36.1.Lo, .int .i64 t36.1.Hi]) 23) <|
      .cons [143] (ok_ldg (fun ν37 => .agg #[.int .i64 t5.Lo, .int .i64 t5.Hi]) (fun ν37 => (((t11.2 == t34.2) && t38) == true)) [true] 143 168 0 2 (fun ν37 => ((ν4 8).n 0)) (fun ν37 => [.int .i64 t5.Lo, .int .i64 t5.Hi]) 23) <|
      .cons [144] (ok_call 31 (fun ν37 => #[.agg #[.int .i64 t36.1.Lo, .int .i64 t36.1.Hi], .agg #[.int .i64 t5.Lo, .int .i64 t5.Hi]]) (.bool t39) (fun ν37 => (((t11.2 == t34.2) && t38) == true)) [true, false, false] 144 [] (fun _ w hg _ => armillaryref02_Same.calls (⟨t36.1.Lo, t36.1.Hi⟩ : TInterval) t5 t39 w (ifp ht39 hg))) <|
      .cons [145] (ok_and 141 144 (fun ν37 => true) (fun ν37 => true) (fun ν37 => ((t11.2 == t34.2) && t38)) (fun ν37 => t39) 145) <|
      .cons [146] (ok_val (fun ν37 => .bool (((t11.2 == t34.2) && t38) && t39)) 146) <|
      .cons [147] (ok_valg (fun ν37 => .bool t36.2) (fun ν37 => ((((t11.2 == t34.2) && t38) && t39) == true)) [true] 147) <|
      .cons [148] (ok_and 146 147 (fun ν37 => true) (fun ν37 => true) (fun ν37 => (((t11.2 == t34.2) && t38) && t39)) (fun ν37 => t36.2) 148) <|
      .cons [149] (ok_val (fun ν37 => .bool ((((t11.2 == t34.2) && t38) && t39) && t36.2)) 149) <|
      .cons [150] (ok_ldg (fun ν37 => .agg #[.int .i64 t5.Lo, .int .i64 t5.Hi]) (fun ν37 => (((((t11.2 == t34.2) && t38) && t39) && t36.2) == true)) [true] 150 168 0 2 (fun ν37 => ((ν4 8).n 0)) (fun ν37 => [.int .i64 t5.Lo, .int .i64 t5.Hi]) 23) <|
      .cons [151] (ok_ldg (fun ν37 => .agg #[.int .i64 t6.Lo, .int .i64 t6.Hi]) (fun ν37 => (((((t11.2 == t34.2) && t38) && t39) && t36.2) == true)) [true] 151 169 0 2 (fun ν37 => ((ν4 9).n 0)) (fun ν37 => [.int .i64 t6.Lo, .int .i64 t6.Hi]) 23) <|
      .cons [152] (ok_call 28 (fun ν37 => #[.agg #[.int .i64 t5.Lo, .int .i64 t5.Hi], .agg #[.int .i64 t6.Lo, .int .i64 t6.Hi]]) (.bool t40) (fun ν37 => (((((t11.2 == t34.2) && t38) && t39) && t36.2) == true)) [true, false, false] 152 [] (fun _ w hg _ => interval_Subset.calls t5 t6 t40 w (ifp ht40 hg))) <|
      .cons [153] (ok_valg (fun ν37 => .bool (!t40)) (fun ν37 => (((((t11.2 == t34.2) && t38) && t39) && t36.2) == true)) [false] 153) <|
      .cons [154] (ok_valg (fun ν37 => .bool (!t40)) (fun ν37 => (((((t11.2 == t34.2) && t38) && t39) && t36.2) == true)) [false] 154) <|
      .cons [155] (ok_valg (fun ν37 => .bool t11.2) (fun ν37 => ((((((t11.2 == t34.2) && t38) && t39) && t36.2) == true) && ((!t40) == false))) [true] 155) <|
      .cons [156] (ok_valg (fun ν37 => .bool t11.2) (fun ν37 => ((((((t11.2 == t34.2) && t38) && t39) && t36.2) == true) && ((!t40) == false))) [false] 156) <|
      .cons [157] (ok_ldg (fun ν37 => .agg #[.int .i64 t11.1.Lo, .int .i64 t11.1.Hi]) (fun ν37 => (((((((t11.2 == t34.2) && t38) && t39) && t36.2) == true) && ((!t40) == false)) && (t11.2 == true))) [true] 157 172 0 2 (fun ν37 => ((ν10 6).n 0)) (fun ν37 => [.int .i64 t11.1.Lo, .int .i64 t11.1.Hi]) 23) <|
      .cons [158] (ok_ldg (fun ν37 => .agg #[.int .i64 t5.Lo, .int .i64 t5.Hi]) (fun ν37 => (((((((t11.2 == t34.2) && t38) && t39) && t36.2) == true) && ((!t40) == false)) && (t11.2 == true))) [true] 158 168 0 2 (fun ν37 => ((ν4 8).n 0)) (fun ν37 => [.int .i64 t5.Lo, .int .i64 t5.Hi]) 23) <|
      .cons [159] (ok_call 31 (fun ν37 => #[.agg #[.int .i64 t11.1.Lo, .int .i64 t11.1.Hi], .agg #[.int .i64 t5.Lo, .int .i64 t5.Hi]]) (.bool t41) (fun ν37 => (((((((t11.2 == t34.2) && t38) && t39) && t36.2) == true) && ((!t40) == false)) && (t11.2 == true))) [true, false, false] 159 [] (fun _ w hg _ => armillaryref02_Same.calls (⟨t11.1.Lo, t11.1.Hi⟩ : TInterval) t5 t41 w (ifp ht41 hg))) <|
      .cons [160] (ok_and 156 159 (fun ν37 => ((((((t11.2 == t34.2) && t38) && t39) && t36.2) == true) && ((!t40) == false))) (fun ν37 => ((((((t11.2 == t34.2) && t38) && t39) && t36.2) == true) && ((!t40) == false))) (fun ν37 => t11.2) (fun ν37 => t41) 160) <|
      .cons [161] (ok_or 154 160 (fun ν37 => (((((t11.2 == t34.2) && t38) && t39) && t36.2) == true)) (fun ν37 => (((((t11.2 == t34.2) && t38) && t39) && t36.2) == true)) (fun ν37 => (!t40)) (fun ν37 => (t11.2 && t41)) 161) <|
      .cons [162] (ok_and 149 161 (fun ν37 => true) (fun ν37 => true) (fun ν37 => ((((t11.2 == t34.2) && t38) && t39) && t36.2)) (fun ν37 => ((!t40) || (t11.2 && t41))) 162) <|
      .cons [163] (ok_val (fun ν37 => .bool (((((t11.2 == t34.2) && t38) && t39) && t36.2) && ((!t40) || (t11.2 && t41)))) 163) <|
      .cons [164] (ok_valg (fun ν37 => .bool t3) (fun ν37 => ((((((t11.2 == t34.2) && t38) && t39) && t36.2) && ((!t40) || (t11.2 && t41))) == true)) [true] 164) <|
      .cons [165] (ok_and 163 164 (fun ν37 => true) (fun ν37 => true) (fun ν37 => (((((t11.2 == t34.2) && t38) && t39) && t36.2) && ((!t40) || (t11.2 && t41)))) (fun ν37 => t3) 165) <|
      .cons [6] (ok_val (fun ν37 => .bool ((((((t11.2 == t34.2) && t38) && t39) && t36.2) && ((!t40) || (t11.2 && t41))) && t3)) 6) <| .nil) (by kernel_rfl) fun ν37 a w' H => ?_
      replace H := H.toL [(6, .slot true (.bool ((((((t11.2 == t34.2) && t38) && t39) && t36.2) && ((!t40) || (t11.2 && t41))) && t3))), (999999, gk)] (by kernel_rfl)
      refine k_ret ?_
      obtain rfl := Option.some.inj G
      exact k_done0 H _ (by kernel_rfl) (by kernel_rfl)

end Go.Proofs.YtmjnbhigomjjnaaDoor
