/- The law IntervalMatchesReference answers as the plain Lean function of its name. Printed by a program of this session. -/
import Derived.Test.YtmjnbhigomjjnaaDoorFn2
set_option linter.unusedVariables false
set_option maxRecDepth 100000
namespace Go.Proofs.YtmjnbhigomjjnaaDoor
open Go Go.RowKit Go.Sx Go.Proofs
set_option maxHeartbeats 4000000 in
theorem armillarylaw02_IntervalMatchesReference.calls (k0 : Nat) (a0 : TOperands) (a1 : Int) (r : Bool) (w : World) (hg : Glob w) (G : armillarylaw02_IntervalMatchesReference k0 a0 a1 = some r) :
    Calls Tryd.prog 9 #[.agg #[.int .i64 a0.A.Lo, .int .i64 a0.A.Hi, .int .i64 a0.B.Lo, .int .i64 a0.B.Hi, .int .i32 a0.N, .int .u16 a0.D], .int .i64 a1] w fun e w' => e = .returned (.bool r) ∧ Below w.heap.size w w' := by
  refine k_enterG (args := [.agg #[.int .i64 a0.A.Lo, .int .i64 a0.A.Hi, .int .i64 a0.B.Lo, .int .i64 a0.B.Hi, .int .i32 a0.N, .int .u16 a0.D], .int .i64 a1]) 237 999999 globFp Glob (glob_local hg) (glob_in hg) Tryd.func9 rfl (by kernel_rfl) (by kernel_rfl) fun a H => ?_
  unfold armillarylaw02_IntervalMatchesReference at G
  refine k_seq ?_
  refine k_reg mixed H (.cons [2, 237] (ok_new (fun b => .pointer (some ⟨b, 0, none⟩)) (fun ν1 => [.int .i64 a0.A.Lo, .int .i64 a0.A.Hi, .int .i64 a0.B.Lo, .int .i64 a0.B.Hi, .int .i32 a0.N, .int .u16 a0.D]) 26 2 237) <|
      .cons [4] (ok_val (fun ν1 => .bool false) 4) <| .nil) (by kernel_rfl) fun ν1 a w' H => ?_
  replace H := H.toL [(1, .slot true (.int .i64 a1)), (2, .slot true (.pointer (some ⟨((ν1 0).n 0), 0, none⟩))), (4, .slot true (.bool false)), (237, .blk ((ν1 0).n 0) [.int .i64 a0.A.Lo, .int .i64 a0.A.Hi, .int .i64 a0.B.Lo, .int .i64 a0.B.Hi, .int .i32 a0.N, .int .u16 a0.D] 26), (999999, gk)] (by kernel_rfl)
  refine k_seq ?_
  replace G := bnd G; obtain ⟨t3, ht3, G⟩ := G
  refine k_reg mixed H (.cons [18] (ok_callvG 999999 gk 11 (fun ν2 => #[]) (.bool t3) 18 (fun _ w hg => armillarylaw02_sanity.calls k0 t3 w (glob_of hg) ht3)) <|
      .cons [5] (ok_val (fun ν2 => .bool t3) 5) <| .nil) (by kernel_rfl) fun ν2 a w' H => ?_
  replace H := H.toL [(1, .slot true (.int .i64 a1)), (2, .slot true (.pointer (some ⟨((ν1 0).n 0), 0, none⟩))), (4, .slot true (.bool false)), (5, .slot true (.bool t3)), (237, .blk ((ν1 0).n 0) [.int .i64 a0.A.Lo, .int .i64 a0.A.Hi, .int .i64 a0.B.Lo, .int .i64 a0.B.Hi, .int .i32 a0.N, .int .u16 a0.D] 26), (999999, gk)] (by kernel_rfl)
  refine k_seq ?_
  refine k_seq ?_
  replace G := bnd G; obtain ⟨t5, ht5, G⟩ := G
  replace G := bnd G; obtain ⟨t6, ht6, G⟩ := G
  replace G := bnd G; obtain ⟨t7, ht7, G⟩ := G
  replace G := bnd G; obtain ⟨t8, ht8, G⟩ := G
  refine k_reg mixed H (.cons [19] (ok_val (fun ν4 => .pointer (some ⟨((ν1 0).n 0), 0, none⟩)) 19) <|
      .cons [20] (ok_ld (fun ν4 => .agg #[.int .i64 a0.A.Lo, .int .i64 a0.A.Hi]) 20 237 0 2 (fun ν4 => ((ν1 0).n 0)) (fun ν4 => [.int .i64 a0.A.Lo, .int .i64 a0.A.Hi, .int .i64 a0.B.Lo, .int .i64 a0.B.Hi, .int .i32 a0.N, .int .u16 a0.D]) 26) <|
      .cons [21] (ok_callv 32 (fun ν4 => #[.agg #[.int .i64 a0.A.Lo, .int .i64 a0.A.Hi]]) (.bool t5) 21 [] (fun _ w _ => interval_Valid.calls (⟨a0.A.Lo, a0.A.Hi⟩ : TInterval) t5 w ht5)) <|
      .cons [22] (ok_val (fun ν4 => .pointer (some ⟨((ν1 0).n 0), 0, none⟩)) 22) <|
      .cons [23] (ok_ld (fun ν4 => .agg #[.int .i64 a0.A.Lo, .int .i64 a0.A.Hi]) 23 237 0 2 (fun ν4 => ((ν1 0).n 0)) (fun ν4 => [.int .i64 a0.A.Lo, .int .i64 a0.A.Hi, .int .i64 a0.B.Lo, .int .i64 a0.B.Hi, .int .i32 a0.N, .int .u16 a0.D]) 26) <|
      .cons [24] (ok_callv 39 (fun ν4 => #[.agg #[.int .i64 a0.A.Lo, .int .i64 a0.A.Hi]]) (.bool t6) 24 [] (fun _ w _ => armillaryref02_Valid.calls (⟨a0.A.Lo, a0.A.Hi⟩ : TInterval) t6 w ht6)) <|
      .cons [25] (ok_val (fun ν4 => .bool (!(t5 == t6))) 25) <|
      .cons [26] (ok_val (fun ν4 => .bool (!(t5 == t6))) 26) <|
      .cons [27] (ok_valg (fun ν4 => .pointer (some ⟨((ν1 0).n 0), 0, none⟩)) (fun ν4 => ((!(t5 == t6)) == false)) [true] 27) <|
      .cons [28] (ok_ldg (fun ν4 => .agg #[.int .i64 a0.A.Lo, .int .i64 a0.A.Hi]) (fun ν4 => ((!(t5 == t6)) == false)) [false] 28 237 0 2 (fun ν4 => ((ν1 0).n 0)) (fun ν4 => [.int .i64 a0.A.Lo, .int .i64 a0.A.Hi, .int .i64 a0.B.Lo, .int .i64 a0.B.Hi, .int .i32 a0.N, .int .u16 a0.D]) 26) <|
      .cons [29] (ok_valg (fun ν4 => .int .i64 a1) (fun ν4 => ((!(t5 == t6)) == false)) [true] 29) <|
      .cons [30] (ok_call 33 (fun ν4 => #[.agg #[.int .i64 a0.A.Lo, .int .i64 a0.A.Hi], .int .i64 a1]) (.bool t7) (fun ν4 => ((!(t5 == t6)) == false)) [true, false, false] 30 [] (fun _ w hg _ => interval_Contains.calls (⟨a0.A.Lo, a0.A.Hi⟩ : TInterval) a1 t7 w (ifp ht7 hg))) <|
      .cons [31] (ok_valg (fun ν4 => .pointer (some ⟨((ν1 0).n 0), 0, none⟩)) (fun ν4 => ((!(t5 == t6)) == false)) [true] 31) <|
      .cons [32] (ok_ldg (fun ν4 => .agg #[.int .i64 a0.A.Lo, .int .i64 a0.A.Hi]) (fun ν4 => ((!(t5 == t6)) == false)) [false] 32 237 0 2 (fun ν4 => ((ν1 0).n 0)) (fun ν4 => [.int .i64 a0.A.Lo, .int .i64 a0.A.Hi, .int .i64 a0.B.Lo, .int .i64 a0.B.Hi, .int .i32 a0.N, .int .u16 a0.D]) 26) <|
      .cons [33] (ok_valg (fun ν4 => .int .i64 a1) (fun ν4 => ((!(t5 == t6)) == false)) [true] 33) <|
      .cons [34] (ok_call 40 (fun ν4 => #[.agg #[.int .i64 a0.A.Lo, .int .i64 a0.A.Hi], .int .i64 a1]) (.bool t8) (fun ν4 => ((!(t5 == t6)) == false)) [true, false, false] 34 [] (fun _ w hg _ => armillaryref02_Contains.calls (⟨a0.A.Lo, a0.A.Hi⟩ : TInterval) a1 t8 w (ifp ht8 hg))) <|
      .cons [35] (ok_valg (fun ν4 => .bool (!(t7 == t8))) (fun ν4 => ((!(t5 == t6)) == false)) [false, false] 35) <|
      .cons [36] (ok_or 26 35 (fun ν4 => true) (fun ν4 => true) (fun ν4 => (!(t5 == t6))) (fun ν4 => (!(t7 == t8))) 36) <| .nil) (by kernel_rfl) fun ν4 a w' H => ?_
  replace H := H.toL [(2, .slot true (.pointer (some ⟨((ν1 0).n 0), 0, none⟩))), (4, .slot true (.bool false)), (5, .slot true (.bool t3)), (36, .slot true (.bool ((!(t5 == t6)) || (!(t7 == t8))))), (237, .blk ((ν1 0).n 0) [.int .i64 a0.A.Lo, .int .i64 a0.A.Hi, .int .i64 a0.B.Lo, .int .i64 a0.B.Hi, .int .i32 a0.N, .int .u16 a0.D] 26), (999999, gk)] (by kernel_rfl)
  refine k_cond H (by kernel_rfl) (t := ((!(t5 == t6)) || (!(t7 == t8)))) (by kernel_rfl) (fun c79 => ?_) (fun c79 => ?_)
  · rw [if_pos c79] at G
    refine k_seq ?_
    refine k_reg mixed H (.cons [4] (ok_val (fun ν9 => .bool false) 4) <| .nil) (by kernel_rfl) fun ν9 a w' H => ?_
    replace H := H.toL [(2, .slot true (.pointer (some ⟨((ν1 0).n 0), 0, none⟩))), (4, .slot true (.bool false)), (5, .slot true (.bool t3)), (237, .blk ((ν1 0).n 0) [.int .i64 a0.A.Lo, .int .i64 a0.A.Hi, .int .i64 a0.B.Lo, .int .i64 a0.B.Hi, .int .i32 a0.N, .int .u16 a0.D] 26), (999999, gk)] (by kernel_rfl)
    refine k_ret ?_
    obtain rfl := Option.some.inj G
    exact k_done0 H _ (by kernel_rfl) (by kernel_rfl)
  · rw [if_neg (nt c79)] at G
    refine k_skip ?_
    refine k_seq ?_
    replace G := bnd G; obtain ⟨t11, ht11, G⟩ := G
    replace G := bnd G; obtain ⟨t12, ht12, G⟩ := G
    refine k_reg mixed H (.cons [37] (ok_val (fun ν10 => .pointer (some ⟨((ν1 0).n 0), 0, none⟩)) 37) <|
      .cons [38] (ok_ld (fun ν10 => .agg #[.int .i64 a0.A.Lo, .int .i64 a0.A.Hi]) 38 237 0 2 (fun ν10 => ((ν1 0).n 0)) (fun ν10 => [.int .i64 a0.A.Lo, .int .i64 a0.A.Hi, .int .i64 a0.B.Lo, .int .i64 a0.B.Hi, .int .i32 a0.N, .int .u16 a0.D]) 26) <|
      .cons [39] (ok_callv 12 (fun ν10 => #[.agg #[.int .i64 a0.A.Lo, .int .i64 a0.A.Hi]]) (.agg #[.int .i64 t11.Lo, .int .i64 t11.Hi]) 39 [] (fun _ w _ => armillaryref02_Made.calls (⟨a0.A.Lo, a0.A.Hi⟩ : TInterval) t11 w ht11)) <|
      .cons [40] (ok_val (fun ν10 => .pointer (some ⟨((ν1 0).n 0), 2, none⟩)) 40) <|
      .cons [41] (ok_ld (fun ν10 => .agg #[.int .i64 a0.B.Lo, .int .i64 a0.B.Hi]) 41 237 2 2 (fun ν10 => ((ν1 0).n 0)) (fun ν10 => [.int .i64 a0.A.Lo, .int .i64 a0.A.Hi, .int .i64 a0.B.Lo, .int .i64 a0.B.Hi, .int .i32 a0.N, .int .u16 a0.D]) 26) <|
      .cons [42] (ok_callv 12 (fun ν10 => #[.agg #[.int .i64 a0.B.Lo, .int .i64 a0.B.Hi]]) (.agg #[.int .i64 t12.Lo, .int .i64 t12.Hi]) 42 [] (fun _ w _ => armillaryref02_Made.calls (⟨a0.B.Lo, a0.B.Hi⟩ : TInterval) t12 w ht12)) <|
      .cons [6, 238] (ok_new (fun b => .pointer (some ⟨b, 0, none⟩)) (fun ν10 => [.int .i64 0, .int .i64 0]) 23 6 238) <|
      .cons [7, 239] (ok_new (fun b => .pointer (some ⟨b, 0, none⟩)) (fun ν10 => [.int .i64 0, .int .i64 0]) 23 7 239) <|
      .cons [238] (ok_as (u' := fun ν10 => [(238, .blk ((ν10 6).n 0) [.int .i64 t11.Lo, .int .i64 t11.Hi] 23)]) (ok_store 238 0 (fun ν10 => ((ν10 6).n 0)) (fun ν10 => [.int .i64 0, .int .i64 0]) (fun ν10 => [.int .i64 t11.Lo, .int .i64 t11.Hi]) 23) (fun _ => by kernel_rfl)) <|
      .cons [239] (ok_as (u' := fun ν10 => [(239, .blk ((ν10 7).n 0) [.int .i64 t12.Lo, .int .i64 t12.Hi] 23)]) (ok_store 239 0 (fun ν10 => ((ν10 7).n 0)) (fun ν10 => [.int .i64 0, .int .i64 0]) (fun ν10 => [.int .i64 t12.Lo, .int .i64 t12.Hi]) 23) (fun _ => by kernel_rfl)) <| .nil) (by kernel_rfl) fun ν10 a w' H => ?_
    replace H := H.toL [(2, .slot true (.pointer (some ⟨((ν1 0).n 0), 0, none⟩))), (4, .slot true (.bool false)), (5, .slot true (.bool t3)), (6, .slot true (.pointer (some ⟨((ν10 6).n 0), 0, none⟩))), (7, .slot true (.pointer (some ⟨((ν10 7).n 0), 0, none⟩))), (237, .blk ((ν1 0).n 0) [.int .i64 a0.A.Lo, .int .i64 a0.A.Hi, .int .i64 a0.B.Lo, .int .i64 a0.B.Hi, .int .i32 a0.N, .int .u16 a0.D] 26), (238, .blk ((ν10 6).n 0) [.int .i64 t11.Lo, .int .i64 t11.Hi] 23), (239, .blk ((ν10 7).n 0) [.int .i64 t12.Lo, .int .i64 t12.Hi] 23), (999999, gk)] (by kernel_rfl)
    refine k_seq ?_
    replace G := bnd G; obtain ⟨t14, ht14, G⟩ := G
    refine k_reg mixed H (.cons [44] (ok_ld (fun ν13 => .agg #[.int .i64 a0.A.Lo, .int .i64 a0.A.Hi, .int .i64 a0.B.Lo, .int .i64 a0.B.Hi, .int .i32 a0.N, .int .u16 a0.D]) 44 237 0 6 (fun ν13 => ((ν1 0).n 0)) (fun ν13 => [.int .i64 a0.A.Lo, .int .i64 a0.A.Hi, .int .i64 a0.B.Lo, .int .i64 a0.B.Hi, .int .i32 a0.N, .int .u16 a0.D]) 26) <|
      .cons [45] (ok_callv 18 (fun ν13 => #[.agg #[.int .i64 a0.A.Lo, .int .i64 a0.A.Hi, .int .i64 a0.B.Lo, .int .i64 a0.B.Hi, .int .i32 a0.N, .int .u16 a0.D]]) (.tuple #[.int .i64 t14.1, .int .i64 t14.2]) 45 [] (fun _ w _ => armillarylaw02_ratio.calls (⟨(⟨a0.A.Lo, a0.A.Hi⟩ : TInterval), (⟨a0.B.Lo, a0.B.Hi⟩ : TInterval), a0.N, a0.D⟩ : TOperands) t14 w ht14)) <|
      .cons [43] (ok_val (fun ν13 => .tuple #[.int .i64 t14.1, .int .i64 t14.2]) 43) <|
      .cons [46] (ok_val (fun ν13 => .int .i64 t14.1) 46) <|
      .cons [47] (ok_val (fun ν13 => .int .i64 t14.2) 47) <|
      .cons [8] (ok_val (fun ν13 => .int .i64 t14.1) 8) <|
      .cons [9] (ok_val (fun ν13 => .int .i64 t14.2) 9) <| .nil) (by kernel_rfl) fun ν13 a w' H => ?_
    replace H := H.toL [(4, .slot true (.bool false)), (5, .slot true (.bool t3)), (6, .slot true (.pointer (some ⟨((ν10 6).n 0), 0, none⟩))), (7, .slot true (.pointer (some ⟨((ν10 7).n 0), 0, none⟩))), (8, .slot true (.int .i64 t14.1)), (9, .slot true (.int .i64 t14.2)), (238, .blk ((ν10 6).n 0) [.int .i64 t11.Lo, .int .i64 t11.Hi] 23), (239, .blk ((ν10 7).n 0) [.int .i64 t12.Lo, .int .i64 t12.Hi] 23), (999999, gk)] (by kernel_rfl)
    refine k_seq ?_
    replace G := bnd G; obtain ⟨t16, ht16, G⟩ := G
    refine k_reg mixed H (.cons [49] (ok_ld (fun ν15 => .agg #[.int .i64 t11.Lo, .int .i64 t11.Hi]) 49 238 0 2 (fun ν15 => ((ν10 6).n 0)) (fun ν15 => [.int .i64 t11.Lo, .int .i64 t11.Hi]) 23) <|
      .cons [50] (ok_callv 24 (fun ν15 => #[.agg #[.int .i64 t11.Lo, .int .i64 t11.Hi]]) (.tuple #[.agg #[.int .i64 t16.1.Lo, .int .i64 t16.1.Hi], .bool t16.2]) 50 [] (fun _ w _ => interval_Sqrt.calls k0 t11 t16 w ht16)) <|
      .cons [48] (ok_val (fun ν15 => .tuple #[.agg #[.int .i64 t16.1.Lo, .int .i64 t16.1.Hi], .bool t16.2]) 48) <|
      .cons [51] (ok_val (fun ν15 => .agg #[.int .i64 t16.1.Lo, .int .i64 t16.1.Hi]) 51) <|
      .cons [52] (ok_val (fun ν15 => .bool t16.2) 52) <|
      .cons [10, 240] (ok_new (fun b => .pointer (some ⟨b, 0, none⟩)) (fun ν15 => [.int .i64 0, .int .i64 0]) 23 10 240) <|
      .cons [240] (ok_as (u' := fun ν15 => [(240, .blk ((ν15 5).n 0) [.int .i64 t16.1.Lo, .int .i64 t16.1.Hi] 23)]) (ok_store 240 0 (fun ν15 => ((ν15 5).n 0)) (fun ν15 => [.int .i64 0, .int .i64 0]) (fun ν15 => [.int .i64 t16.1.Lo, .int .i64 t16.1.Hi]) 23) (fun _ => by kernel_rfl)) <|
      .cons [11] (ok_val (fun ν15 => .bool t16.2) 11) <| .nil) (by kernel_rfl) fun ν15 a w' H => ?_
    replace H := H.toL [(4, .slot true (.bool false)), (5, .slot true (.bool t3)), (6, .slot true (.pointer (some ⟨((ν10 6).n 0), 0, none⟩))), (7, .slot true (.pointer (some ⟨((ν10 7).n 0), 0, none⟩))), (8, .slot true (.int .i64 t14.1)), (9, .slot true (.int .i64 t14.2)), (10, .slot true (.pointer (some ⟨((ν15 5).n 0), 0, none⟩))), (11, .slot true (.bool t16.2)), (238, .blk ((ν10 6).n 0) [.int .i64 t11.Lo, .int .i64 t11.Hi] 23), (239, .blk ((ν10 7).n 0) [.int .i64 t12.Lo, .int .i64 t12.Hi] 23), (240, .blk ((ν15 5).n 0) [.int .i64 t16.1.Lo, .int .i64 t16.1.Hi] 23), (999999, gk)] (by kernel_rfl)
    refine k_seq ?_
    replace G := bnd G; obtain ⟨t18, ht18, G⟩ := G
    refine k_reg mixed H (.cons [54] (ok_ld (fun ν17 => .agg #[.int .i64 t11.Lo, .int .i64 t11.Hi]) 54 238 0 2 (fun ν17 => ((ν10 6).n 0)) (fun ν17 => [.int .i64 t11.Lo, .int .i64 t11.Hi]) 23) <|
      .cons [55] (ok_callv 41 (fun ν17 => #[.agg #[.int .i64 t11.Lo, .int .i64 t11.Hi]]) (.tuple #[.agg #[.int .i64 t18.1.Lo, .int .i64 t18.1.Hi], .bool t18.2]) 55 [] (fun _ w _ => armillaryref02_Sqrt.calls k0 t11 t18 w ht18)) <|
      .cons [53] (ok_val (fun ν17 => .tuple #[.agg #[.int .i64 t18.1.Lo, .int .i64 t18.1.Hi], .bool t18.2]) 53) <|
      .cons [56] (ok_val (fun ν17 => .agg #[.int .i64 t18.1.Lo, .int .i64 t18.1.Hi]) 56) <|
      .cons [57] (ok_val (fun ν17 => .bool t18.2) 57) <|
      .cons [12, 241] (ok_new (fun b => .pointer (some ⟨b, 0, none⟩)) (fun ν17 => [.int .i64 0, .int .i64 0]) 23 12 241) <|
      .cons [241] (ok_as (u' := fun ν17 => [(241, .blk ((ν17 5).n 0) [.int .i64 t18.1.Lo, .int .i64 t18.1.Hi] 23)]) (ok_store 241 0 (fun ν17 => ((ν17 5).n 0)) (fun ν17 => [.int .i64 0, .int .i64 0]) (fun ν17 => [.int .i64 t18.1.Lo, .int .i64 t18.1.Hi]) 23) (fun _ => by kernel_rfl)) <|
      .cons [13] (ok_val (fun ν17 => .bool t18.2) 13) <| .nil) (by kernel_rfl) fun ν17 a w' H => ?_
    replace H := H.toL [(4, .slot true (.bool false)), (5, .slot true (.bool t3)), (6, .slot true (.pointer (some ⟨((ν10 6).n 0), 0, none⟩))), (7, .slot true (.pointer (some ⟨((ν10 7).n 0), 0, none⟩))), (8, .slot true (.int .i64 t14.1)), (9, .slot true (.int .i64 t14.2)), (10, .slot true (.pointer (some ⟨((ν15 5).n 0), 0, none⟩))), (11, .slot true (.bool t16.2)), (12, .slot true (.pointer (some ⟨((ν17 5).n 0), 0, none⟩))), (13, .slot true (.bool t18.2)), (238, .blk ((ν10 6).n 0) [.int .i64 t11.Lo, .int .i64 t11.Hi] 23), (239, .blk ((ν10 7).n 0) [.int .i64 t12.Lo, .int .i64 t12.Hi] 23), (240, .blk ((ν15 5).n 0) [.int .i64 t16.1.Lo, .int .i64 t16.1.Hi] 23), (241, .blk ((ν17 5).n 0) [.int .i64 t18.1.Lo, .int .i64 t18.1.Hi] 23), (999999, gk)] (by kernel_rfl)
    refine k_seq ?_
    replace G := bnd G; obtain ⟨t20, ht20, G⟩ := G
    refine k_reg mixed H (.cons [59] (ok_ld (fun ν19 => .agg #[.int .i64 t11.Lo, .int .i64 t11.Hi]) 59 238 0 2 (fun ν19 => ((ν10 6).n 0)) (fun ν19 => [.int .i64 t11.Lo, .int .i64 t11.Hi]) 23) <|
      .cons [60] (ok_ld (fun ν19 => .agg #[.int .i64 t12.Lo, .int .i64 t12.Hi]) 60 239 0 2 (fun ν19 => ((ν10 7).n 0)) (fun ν19 => [.int .i64 t12.Lo, .int .i64 t12.Hi]) 23) <|
      .cons [61] (ok_callv 30 (fun ν19 => #[.agg #[.int .i64 t11.Lo, .int .i64 t11.Hi], .agg #[.int .i64 t12.Lo, .int .i64 t12.Hi]]) (.tuple #[.agg #[.int .i64 t20.1.Lo, .int .i64 t20.1.Hi], .bool t20.2]) 61 [] (fun _ w _ => interval_Intersect.calls t11 t12 t20 w ht20)) <|
      .cons [58] (ok_val (fun ν19 => .tuple #[.agg #[.int .i64 t20.1.Lo, .int .i64 t20.1.Hi], .bool t20.2]) 58) <|
      .cons [62] (ok_val (fun ν19 => .agg #[.int .i64 t20.1.Lo, .int .i64 t20.1.Hi]) 62) <|
      .cons [63] (ok_val (fun ν19 => .bool t20.2) 63) <|
      .cons [14, 242] (ok_new (fun b => .pointer (some ⟨b, 0, none⟩)) (fun ν19 => [.int .i64 0, .int .i64 0]) 23 14 242) <|
      .cons [242] (ok_as (u' := fun ν19 => [(242, .blk ((ν19 6).n 0) [.int .i64 t20.1.Lo, .int .i64 t20.1.Hi] 23)]) (ok_store 242 0 (fun ν19 => ((ν19 6).n 0)) (fun ν19 => [.int .i64 0, .int .i64 0]) (fun ν19 => [.int .i64 t20.1.Lo, .int .i64 t20.1.Hi]) 23) (fun _ => by kernel_rfl)) <|
      .cons [15] (ok_val (fun ν19 => .bool t20.2) 15) <| .nil) (by kernel_rfl) fun ν19 a w' H => ?_
    replace H := H.toL [(4, .slot true (.bool false)), (5, .slot true (.bool t3)), (6, .slot true (.pointer (some ⟨((ν10 6).n 0), 0, none⟩))), (7, .slot true (.pointer (some ⟨((ν10 7).n 0), 0, none⟩))), (8, .slot true (.int .i64 t14.1)), (9, .slot true (.int .i64 t14.2)), (10, .slot true (.pointer (some ⟨((ν15 5).n 0), 0, none⟩))), (11, .slot true (.bool t16.2)), (12, .slot true (.pointer (some ⟨((ν17 5).n 0), 0, none⟩))), (13, .slot true (.bool t18.2)), (14, .slot true (.pointer (some ⟨((ν19 6).n 0), 0, none⟩))), (15, .slot true (.bool t20.2)), (238, .blk ((ν10 6).n 0) [.int .i64 t11.Lo, .int .i64 t11.Hi] 23), (239, .blk ((ν10 7).n 0) [.int .i64 t12.Lo, .int .i64 t12.Hi] 23), (240, .blk ((ν15 5).n 0) [.int .i64 t16.1.Lo, .int .i64 t16.1.Hi] 23), (241, .blk ((ν17 5).n 0) [.int .i64 t18.1.Lo, .int .i64 t18.1.Hi] 23), (242, .blk ((ν19 6).n 0) [.int .i64 t20.1.Lo, .int .i64 t20.1.Hi] 23), (999999, gk)] (by kernel_rfl)
    refine k_seq ?_
    replace G := bnd G; obtain ⟨t22, ht22, G⟩ := G
    refine k_reg mixed H (.cons [65] (ok_ld (fun ν21 => .agg #[.int .i64 t11.Lo, .int .i64 t11.Hi]) 65 238 0 2 (fun ν21 => ((ν10 6).n 0)) (fun ν21 => [.int .i64 t11.Lo, .int .i64 t11.Hi]) 23) <|
      .cons [66] (ok_ld (fun ν21 => .agg #[.int .i64 t12.Lo, .int .i64 t12.Hi]) 66 239 0 2 (fun ν21 => ((ν10 7).n 0)) (fun ν21 => [.int .i64 t12.Lo, .int .i64 t12.Hi]) 23) <|
      .cons [67] (ok_callv 42 (fun ν21 => #[.agg #[.int .i64 t11.Lo, .int .i64 t11.Hi], .agg #[.int .i64 t12.Lo, .int .i64 t12.Hi]]) (.tuple #[.agg #[.int .i64 t22.1.Lo, .int .i64 t22.1.Hi], .bool t22.2]) 67 [] (fun _ w _ => armillaryref02_Intersect.calls t11 t12 t22 w ht22)) <|
      .cons [64] (ok_val (fun ν21 => .tuple #[.agg #[.int .i64 t22.1.Lo, .int .i64 t22.1.Hi], .bool t22.2]) 64) <|
      .cons [68] (ok_val (fun ν21 => .agg #[.int .i64 t22.1.Lo, .int .i64 t22.1.Hi]) 68) <|
      .cons [69] (ok_val (fun ν21 => .bool t22.2) 69) <|
      .cons [16, 243] (ok_new (fun b => .pointer (some ⟨b, 0, none⟩)) (fun ν21 => [.int .i64 0, .int .i64 0]) 23 16 243) <|
      .cons [243] (ok_as (u' := fun ν21 => [(243, .blk ((ν21 6).n 0) [.int .i64 t22.1.Lo, .int .i64 t22.1.Hi] 23)]) (ok_store 243 0 (fun ν21 => ((ν21 6).n 0)) (fun ν21 => [.int .i64 0, .int .i64 0]) (fun ν21 => [.int .i64 t22.1.Lo, .int .i64 t22.1.Hi]) 23) (fun _ => by kernel_rfl)) <|
      .cons [17] (ok_val (fun ν21 => .bool t22.2) 17) <| .nil) (by kernel_rfl) fun ν21 a w' H => ?_
    replace H := H.toL [(4, .slot true (.bool false)), (5, .slot true (.bool t3)), (6, .slot true (.pointer (some ⟨((ν10 6).n 0), 0, none⟩))), (7, .slot true (.pointer (some ⟨((ν10 7).n 0), 0, none⟩))), (8, .slot true (.int .i64 t14.1)), (9, .slot true (.int .i64 t14.2)), (10, .slot true (.pointer (some ⟨((ν15 5).n 0), 0, none⟩))), (11, .slot true (.bool t16.2)), (12, .slot true (.pointer (some ⟨((ν17 5).n 0), 0, none⟩))), (13, .slot true (.bool t18.2)), (14, .slot true (.pointer (some ⟨((ν19 6).n 0), 0, none⟩))), (15, .slot true (.bool t20.2)), (16, .slot true (.pointer (some ⟨((ν21 6).n 0), 0, none⟩))), (17, .slot true (.bool t22.2)), (238, .blk ((ν10 6).n 0) [.int .i64 t11.Lo, .int .i64 t11.Hi] 23), (239, .blk ((ν10 7).n 0) [.int .i64 t12.Lo, .int .i64 t12.Hi] 23), (240, .blk ((ν15 5).n 0) [.int .i64 t16.1.Lo, .int .i64 t16.1.Hi] 23), (241, .blk ((ν17 5).n 0) [.int .i64 t18.1.Lo, .int .i64 t18.1.Hi] 23), (242, .blk ((ν19 6).n 0) [.int .i64 t20.1.Lo, .int .i64 t20.1.Hi] 23), (243, .blk ((ν21 6).n 0) [.int .i64 t22.1.Lo, .int .i64 t22.1.Hi] 23), (999999, gk)] (by kernel_rfl)
    refine k_seq ?_
    refine k_seq ?_
    replace G := bnd G; obtain ⟨t24, ht24, G⟩ := G
    replace G := bnd G; obtain ⟨t25, ht25, G⟩ := G
    replace G := bnd G; obtain ⟨t26, ht26, G⟩ := G
    replace G := bnd G; obtain ⟨t27, ht27, G⟩ := G
    replace G := bnd G; obtain ⟨t28, ht28, G⟩ := G
    replace G := bnd G; obtain ⟨t29, ht29, G⟩ := G
    replace G := bnd G; obtain ⟨t30, ht30, G⟩ := G
    replace G := bnd G; obtain ⟨t31, ht31, G⟩ := G
    replace G := bnd G; obtain ⟨z32, hz32, G⟩ := G
    replace hz32 := Option.some.inj hz32
    replace G := bnd G; obtain ⟨t33, ht33, G⟩ := G
    replace G := bnd G; obtain ⟨t34, ht34, G⟩ := G
    refine k_reg mixed H (.cons [70] (ok_ld (fun ν23 => .agg #[.int .i64 t16.1.Lo, .int .i64 t16.1.Hi]) 70 240 0 2 (fun ν23 => ((ν15 5).n 0)) (fun ν23 => [.int .i64 t16.1.Lo, .int .i64 t16.1.Hi]) 23) <|
      .cons [71] (ok_ld (fun ν23 => .agg #[.int .i64 t18.1.Lo, .int .i64 t18.1.Hi]) 71 241 0 2 (fun ν23 => ((ν17 5).n 0)) (fun ν23 => [.int .i64 t18.1.Lo, .int .i64 t18.1.Hi]) 23) <|
      .cons [72] (ok_callv 31 (fun ν23 => #[.agg #[.int .i64 t16.1.Lo, .int .i64 t16.1.Hi], .agg #[.int .i64 t18.1.Lo, .int .i64 t18.1.Hi]]) (.bool t24) 72 [] (fun _ w _ => armillaryref02_Same.calls (⟨t16.1.Lo, t16.1.Hi⟩ : TInterval) (⟨t18.1.Lo, t18.1.Hi⟩ : TInterval) t24 w ht24)) <|
      .cons [73] (ok_val (fun ν23 => .bool (!t24)) 73) <|
      .cons [74] (ok_val (fun ν23 => .bool (!t24)) 74) <|
      .cons [75] (ok_valg (fun ν23 => .bool t16.2) (fun ν23 => ((!t24) == false)) [true] 75) <|
      .cons [76] (ok_valg (fun ν23 => .bool t18.2) (fun ν23 => ((!t24) == false)) [true] 76) <|
      .cons [77] (ok_valg (fun ν23 => .bool (!(t16.2 == t18.2))) (fun ν23 => ((!t24) == false)) [false, false] 77) <|
      .cons [78] (ok_or 74 77 (fun ν23 => true) (fun ν23 => true) (fun ν23 => (!t24)) (fun ν23 => (!(t16.2 == t18.2))) 78) <|
      .cons [79] (ok_val (fun ν23 => .bool ((!t24) || (!(t16.2 == t18.2)))) 79) <|
      .cons [80] (ok_ldg (fun ν23 => .agg #[.int .i64 t20.1.Lo, .int .i64 t20.1.Hi]) (fun ν23 => (((!t24) || (!(t16.2 == t18.2))) == false)) [true] 80 242 0 2 (fun ν23 => ((ν19 6).n 0)) (fun ν23 => [.int .i64 t20.1.Lo, .int .i64 t20.1.Hi]) 23) <|
      .cons [81] (ok_ldg (fun ν23 => .agg #[.int .i64 t22.1.Lo, .int .i64 t22.1.Hi]) (fun ν23 => (((!t24) || (!(t16.2 == t18.2))) == false)) [true] 81 243 0 2 (fun ν23 => ((ν21 6).n 0)) (fun ν23 => [.int .i64 t22.1.Lo, .int .i64 t22.1.Hi]) 23) <|
      .cons [82] (ok_call 31 (fun ν23 => #[.agg #[.int .i64 t20.1.Lo, .int .i64 t20.1.Hi], .agg #[.int .i64 t22.1.Lo, .int .i64 t22.1.Hi]]) (.bool t25) (fun ν23 => (((!t24) || (!(t16.2 == t18.2))) == false)) [true, false, false] 82 [] (fun _ w hg _ => armillaryref02_Same.calls (⟨t20.1.Lo, t20.1.Hi⟩ : TInterval) (⟨t22.1.Lo, t22.1.Hi⟩ : TInterval) t25 w (ifp ht25 hg))) <|
      .cons [83] (ok_valg (fun ν23 => .bool (!t25)) (fun ν23 => (((!t24) || (!(t16.2 == t18.2))) == false)) [false] 83) <|
      .cons [84] (ok_or 79 83 (fun ν23 => true) (fun ν23 => true) (fun ν23 => ((!t24) || (!(t16.2 == t18.2)))) (fun ν23 => (!t25)) 84) <|
      .cons [85] (ok_val (fun ν23 => .bool (((!t24) || (!(t16.2 == t18.2))) || (!t25))) 85) <|
      .cons [86] (ok_valg (fun ν23 => .bool t20.2) (fun ν23 => ((((!t24) || (!(t16.2 == t18.2))) || (!t25)) == false)) [true] 86) <|
      .cons [87] (ok_valg (fun ν23 => .bool t22.2) (fun ν23 => ((((!t24) || (!(t16.2 == t18.2))) || (!t25)) == false)) [true] 87) <|
      .cons [88] (ok_valg (fun ν23 => .bool (!(t20.2 == t22.2))) (fun ν23 => ((((!t24) || (!(t16.2 == t18.2))) || (!t25)) == false)) [false, false] 88) <|
      .cons [89] (ok_or 85 88 (fun ν23 => true) (fun ν23 => true) (fun ν23 => (((!t24) || (!(t16.2 == t18.2))) || (!t25))) (fun ν23 => (!(t20.2 == t22.2))) 89) <|
      .cons [90] (ok_val (fun ν23 => .bool ((((!t24) || (!(t16.2 == t18.2))) || (!t25)) || (!(t20.2 == t22.2)))) 90) <|
      .cons [91] (ok_ldg (fun ν23 => .agg #[.int .i64 t11.Lo, .int .i64 t11.Hi]) (fun ν23 => (((((!t24) || (!(t16.2 == t18.2))) || (!t25)) || (!(t20.2 == t22.2))) == false)) [true] 91 238 0 2 (fun ν23 => ((ν10 6).n 0)) (fun ν23 => [.int .i64 t11.Lo, .int .i64 t11.Hi]) 23) <|
      .cons [92] (ok_valg (fun ν23 => .int .i64 t14.1) (fun ν23 => (((((!t24) || (!(t16.2 == t18.2))) || (!t25)) || (!(t20.2 == t22.2))) == false)) [true] 92) <|
      .cons [93] (ok_valg (fun ν23 => .int .i64 t14.2) (fun ν23 => (((((!t24) || (!(t16.2 == t18.2))) || (!t25)) || (!(t20.2 == t22.2))) == false)) [true] 93) <|
      .cons [94] (ok_call 23 (fun ν23 => #[.agg #[.int .i64 t11.Lo, .int .i64 t11.Hi], .int .i64 t14.1, .int .i64 t14.2]) (.agg #[.int .i64 t26.Lo, .int .i64 t26.Hi]) (fun ν23 => (((((!t24) || (!(t16.2 == t18.2))) || (!t25)) || (!(t20.2 == t22.2))) == false)) [true, false, false, false] 94 [] (fun _ w hg _ => interval_MulRatio.calls t11 t14.1 t14.2 t26 w (ifp ht26 hg))) <|
      .cons [95] (ok_ldg (fun ν23 => .agg #[.int .i64 t11.Lo, .int .i64 t11.Hi]) (fun ν23 => (((((!t24) || (!(t16.2 == t18.2))) || (!t25)) || (!(t20.2 == t22.2))) == false)) [true] 95 238 0 2 (fun ν23 => ((ν10 6).n 0)) (fun ν23 => [.int .i64 t11.Lo, .int .i64 t11.Hi]) 23) <|
      .cons [96] (ok_valg (fun ν23 => .int .i64 t14.1) (fun ν23 => (((((!t24) || (!(t16.2 == t18.2))) || (!t25)) || (!(t20.2 == t22.2))) == false)) [true] 96) <|
      .cons [97] (ok_valg (fun ν23 => .int .i64 t14.2) (fun ν23 => (((((!t24) || (!(t16.2 == t18.2))) || (!t25)) || (!(t20.2 == t22.2))) == false)) [true] 97) <|
      .cons [98] (ok_call 43 (fun ν23 => #[.agg #[.int .i64 t11.Lo, .int .i64 t11.Hi], .int .i64 t14.1, .int .i64 t14.2]) (.agg #[.int .i64 t27.Lo, .int .i64 t27.Hi]) (fun ν23 => (((((!t24) || (!(t16.2 == t18.2))) || (!t25)) || (!(t20.2 == t22.2))) == false)) [true, false, false, false] 98 [] (fun _ w hg _ => armillaryref02_MulRatio.calls t11 t14.1 t14.2 t27 w (ifp ht27 hg))) <|
      .cons [99] (ok_call 31 (fun ν23 => #[.agg #[.int .i64 t26.Lo, .int .i64 t26.Hi], .agg #[.int .i64 t27.Lo, .int .i64 t27.Hi]]) (.bool t28) (fun ν23 => (((((!t24) || (!(t16.2 == t18.2))) || (!t25)) || (!(t20.2 == t22.2))) == false)) [true, false, false] 99 [] (fun _ w hg _ => armillaryref02_Same.calls t26 t27 t28 w (ifp ht28 hg))) <|
      .cons [100] (ok_valg (fun ν23 => .bool (!t28)) (fun ν23 => (((((!t24) || (!(t16.2 == t18.2))) || (!t25)) || (!(t20.2 == t22.2))) == false)) [false] 100) <|
      .cons [101] (ok_or 90 100 (fun ν23 => true) (fun ν23 => true) (fun ν23 => ((((!t24) || (!(t16.2 == t18.2))) || (!t25)) || (!(t20.2 == t22.2)))) (fun ν23 => (!t28)) 101) <|
      .cons [102] (ok_val (fun ν23 => .bool (((((!t24) || (!(t16.2 == t18.2))) || (!t25)) || (!(t20.2 == t22.2))) || (!t28))) 102) <|
      .cons [103] (ok_ldg (fun ν23 => .agg #[.int .i64 t11.Lo, .int .i64 t11.Hi]) (fun ν23 => ((((((!t24) || (!(t16.2 == t18.2))) || (!t25)) || (!(t20.2 == t22.2))) || (!t28)) == false)) [true] 103 238 0 2 (fun ν23 => ((ν10 6).n 0)) (fun ν23 => [.int .i64 t11.Lo, .int .i64 t11.Hi]) 23) <|
      .cons [104] (ok_ldg (fun ν23 => .agg #[.int .i64 t12.Lo, .int .i64 t12.Hi]) (fun ν23 => ((((((!t24) || (!(t16.2 == t18.2))) || (!t25)) || (!(t20.2 == t22.2))) || (!t28)) == false)) [true] 104 239 0 2 (fun ν23 => ((ν10 7).n 0)) (fun ν23 => [.int .i64 t12.Lo, .int .i64 t12.Hi]) 23) <|
      .cons [105] (ok_call 29 (fun ν23 => #[.agg #[.int .i64 t11.Lo, .int .i64 t11.Hi], .agg #[.int .i64 t12.Lo, .int .i64 t12.Hi]]) (.agg #[.int .i64 t29.Lo, .int .i64 t29.Hi]) (fun ν23 => ((((((!t24) || (!(t16.2 == t18.2))) || (!t25)) || (!(t20.2 == t22.2))) || (!t28)) == false)) [true, false, false] 105 [] (fun _ w hg _ => interval_Hull.calls t11 t12 t29 w (ifp ht29 hg))) <|
      .cons [106] (ok_ldg (fun ν23 => .agg #[.int .i64 t11.Lo, .int .i64 t11.Hi]) (fun ν23 => ((((((!t24) || (!(t16.2 == t18.2))) || (!t25)) || (!(t20.2 == t22.2))) || (!t28)) == false)) [true] 106 238 0 2 (fun ν23 => ((ν10 6).n 0)) (fun ν23 => [.int .i64 t11.Lo, .int .i64 t11.Hi]) 23) <|
      .cons [107] (ok_ldg (fun ν23 => .agg #[.int .i64 t12.Lo, .int .i64 t12.Hi]) (fun ν23 => ((((((!t24) || (!(t16.2 == t18.2))) || (!t25)) || (!(t20.2 == t22.2))) || (!t28)) == false)) [true] 107 239 0 2 (fun ν23 => ((ν10 7).n 0)) (fun ν23 => [.int .i64 t12.Lo, .int .i64 t12.Hi]) 23) <|
      .cons [108] (ok_call 44 (fun ν23 => #[.agg #[.int .i64 t11.Lo, .int .i64 t11.Hi], .agg #[.int .i64 t12.Lo, .int .i64 t12.Hi]]) (.agg #[.int .i64 t30.Lo, .int .i64 t30.Hi]) (fun ν23 => ((((((!t24) || (!(t16.2 == t18.2))) || (!t25)) || (!(t20.2 == t22.2))) || (!t28)) == false)) [true, false, false] 108 [] (fun _ w hg _ => armillaryref02_Hull.calls t11 t12 t30 w (ifp ht30 hg))) <|
      .cons [109] (ok_call 31 (fun ν23 => #[.agg #[.int .i64 t29.Lo, .int .i64 t29.Hi], .agg #[.int .i64 t30.Lo, .int .i64 t30.Hi]]) (.bool t31) (fun ν23 => ((((((!t24) || (!(t16.2 == t18.2))) || (!t25)) || (!(t20.2 == t22.2))) || (!t28)) == false)) [true, false, false] 109 [] (fun _ w hg _ => armillaryref02_Same.calls t29 t30 t31 w (ifp ht31 hg))) <|
      .cons [110] (ok_valg (fun ν23 => .bool (!t31)) (fun ν23 => ((((((!t24) || (!(t16.2 == t18.2))) || (!t25)) || (!(t20.2 == t22.2))) || (!t28)) == false)) [false] 110) <|
      .cons [111] (ok_or 102 110 (fun ν23 => true) (fun ν23 => true) (fun ν23 => (((((!t24) || (!(t16.2 == t18.2))) || (!t25)) || (!(t20.2 == t22.2))) || (!t28))) (fun ν23 => (!t31)) 111) <|
      .cons [112] (ok_as (u' := fun ν23 => [(112, .slot true (.bool z32))]) (ok_val (fun ν23 => .bool ((((((!t24) || (!(t16.2 == t18.2))) || (!t25)) || (!(t20.2 == t22.2))) || (!t28)) || (!t31))) 112) (fun _ => by rw [← hz32])) <|
      .cons [113] (ok_ldg (fun ν23 => .agg #[.int .i64 t11.Lo, .int .i64 t11.Hi]) (fun ν23 => (z32 == false)) [true] 113 238 0 2 (fun ν23 => ((ν10 6).n 0)) (fun ν23 => [.int .i64 t11.Lo, .int .i64 t11.Hi]) 23) <|
      .cons [114] (ok_ldg (fun ν23 => .agg #[.int .i64 t12.Lo, .int .i64 t12.Hi]) (fun ν23 => (z32 == false)) [true] 114 239 0 2 (fun ν23 => ((ν10 7).n 0)) (fun ν23 => [.int .i64 t12.Lo, .int .i64 t12.Hi]) 23) <|
      .cons [115] (ok_call 28 (fun ν23 => #[.agg #[.int .i64 t11.Lo, .int .i64 t11.Hi], .agg #[.int .i64 t12.Lo, .int .i64 t12.Hi]]) (.bool t33) (fun ν23 => (z32 == false)) [true, false, false] 115 [] (fun _ w hg _ => interval_Subset.calls t11 t12 t33 w (ifp ht33 hg))) <|
      .cons [116] (ok_ldg (fun ν23 => .agg #[.int .i64 t11.Lo, .int .i64 t11.Hi]) (fun ν23 => (z32 == false)) [true] 116 238 0 2 (fun ν23 => ((ν10 6).n 0)) (fun ν23 => [.int .i64 t11.Lo, .int .i64 t11.Hi]) 23) <|
      .cons [117] (ok_ldg (fun ν23 => .agg #[.int .i64 t12.Lo, .int .i64 t12.Hi]) (fun ν23 => (z32 == false)) [true] 117 239 0 2 (fun ν23 => ((ν10 7).n 0)) (fun ν23 => [.int .i64 t12.Lo, .int .i64 t12.Hi]) 23) <|
      .cons [118] (ok_call 45 (fun ν23 => #[.agg #[.int .i64 t11.Lo, .int .i64 t11.Hi], .agg #[.int .i64 t12.Lo, .int .i64 t12.Hi]]) (.bool t34) (fun ν23 => (z32 == false)) [true, false, false] 118 [] (fun _ w hg _ => armillaryref02_Subset.calls t11 t12 t34 w (ifp ht34 hg))) <|
      .cons [119] (ok_valg (fun ν23 => .bool (!(t33 == t34))) (fun ν23 => (z32 == false)) [false, false] 119) <|
      .cons [120] (ok_or 112 119 (fun ν23 => true) (fun ν23 => true) (fun ν23 => z32) (fun ν23 => (!(t33 == t34))) 120) <| .nil) (by kernel_rfl) fun ν23 a w' H => ?_
    replace H := H.toL [(4, .slot true (.bool false)), (5, .slot true (.bool t3)), (6, .slot true (.pointer (some ⟨((ν10 6).n 0), 0, none⟩))), (7, .slot true (.pointer (some ⟨((ν10 7).n 0), 0, none⟩))), (120, .slot true (.bool (z32 || (!(t33 == t34))))), (238, .blk ((ν10 6).n 0) [.int .i64 t11.Lo, .int .i64 t11.Hi] 23), (239, .blk ((ν10 7).n 0) [.int .i64 t12.Lo, .int .i64 t12.Hi] 23), (999999, gk)] (by kernel_rfl)
    refine k_cond H (by kernel_rfl) (t := (z32 || (!(t33 == t34)))) (by kernel_rfl) (fun c78 => ?_) (fun c78 => ?_)
    · rw [if_pos c78] at G
      refine k_seq ?_
      refine k_reg mixed H (.cons [4] (ok_val (fun ν35 => .bool false) 4) <| .nil) (by kernel_rfl) fun ν35 a w' H => ?_
      replace H := H.toL [(4, .slot true (.bool false)), (5, .slot true (.bool t3)), (6, .slot true (.pointer (some ⟨((ν10 6).n 0), 0, none⟩))), (7, .slot true (.pointer (some ⟨((ν10 7).n 0), 0, none⟩))), (238, .blk ((ν10 6).n 0) [.int .i64 t11.Lo, .int .i64 t11.Hi] 23), (239, .blk ((ν10 7).n 0) [.int .i64 t12.Lo, .int .i64 t12.Hi] 23), (999999, gk)] (by kernel_rfl)
      refine k_ret ?_
      obtain rfl := Option.some.inj G
      exact k_done0 H _ (by kernel_rfl) (by kernel_rfl)
    · rw [if_neg (nt c78)] at G
      refine k_skip ?_
      refine k_seq ?_
      refine k_seq ?_
      replace G := bnd G; obtain ⟨t37, ht37, G⟩ := G
      replace G := bnd G; obtain ⟨t38, ht38, G⟩ := G
      replace G := bnd G; obtain ⟨t39, ht39, G⟩ := G
      replace G := bnd G; obtain ⟨t40, ht40, G⟩ := G
      replace G := bnd G; obtain ⟨t41, ht41, G⟩ := G
      replace G := bnd G; obtain ⟨t42, ht42, G⟩ := G
      replace G := bnd G; obtain ⟨t43, ht43, G⟩ := G
      replace G := bnd G; obtain ⟨t44, ht44, G⟩ := G
      replace G := bnd G; obtain ⟨t45, ht45, G⟩ := G
      replace G := bnd G; obtain ⟨t46, ht46, G⟩ := G
      replace G := bnd G; obtain ⟨t47, ht47, G⟩ := G
      replace G := bnd G; obtain ⟨t48, ht48, G⟩ := G
      replace G := bnd G; obtain ⟨t49, ht49, G⟩ := G
      replace G := bnd G; obtain ⟨z50, hz50, G⟩ := G
      replace hz50 := Option.some.inj hz50
      replace G := bnd G; obtain ⟨t51, ht51, G⟩ := G
      replace G := bnd G; obtain ⟨t52, ht52, G⟩ := G
      replace G := bnd G; obtain ⟨t53, ht53, G⟩ := G
      replace G := bnd G; obtain ⟨t54, ht54, G⟩ := G
      replace G := bnd G; obtain ⟨t55, ht55, G⟩ := G
      replace G := bnd G; obtain ⟨t56, ht56, G⟩ := G
      refine k_reg mixed H (.cons [121] (ok_ld (fun ν36 => .agg #[.int .i64 t11.Lo, .int .i64 t11.Hi]) 121 238 0 2 (fun ν36 => ((ν10 6).n 0)) (fun ν36 => [.int .i64 t11.Lo, .int .i64 t11.Hi]) 23) <|
      .cons [122] (ok_callv 34 (fun ν36 => #[.agg #[.int .i64 t11.Lo, .int .i64 t11.Hi]]) (.int .i64 t37) 122 [] (fun _ w _ => interval_Mid.calls t11 t37 w ht37)) <|
      .cons [123] (ok_ld (fun ν36 => .agg #[.int .i64 t11.Lo, .int .i64 t11.Hi]) 123 238 0 2 (fun ν36 => ((ν10 6).n 0)) (fun ν36 => [.int .i64 t11.Lo, .int .i64 t11.Hi]) 23) <|
      .cons [124] (ok_callv 46 (fun ν36 => #[.agg #[.int .i64 t11.Lo, .int .i64 t11.Hi]]) (.int .i64 t38) 124 [] (fun _ w _ => armillaryref02_Mid.calls t11 t38 w ht38)) <|
      .cons [125] (ok_val (fun ν36 => .bool (t37 != t38)) 125) <|
      .cons [126] (ok_val (fun ν36 => .bool (t37 != t38)) 126) <|
      .cons [127] (ok_ldg (fun ν36 => .agg #[.int .i64 t11.Lo, .int .i64 t11.Hi]) (fun ν36 => ((t37 != t38) == false)) [true] 127 238 0 2 (fun ν36 => ((ν10 6).n 0)) (fun ν36 => [.int .i64 t11.Lo, .int .i64 t11.Hi]) 23) <|
      .cons [128] (ok_call 35 (fun ν36 => #[.agg #[.int .i64 t11.Lo, .int .i64 t11.Hi]]) (.int .i64 t39) (fun ν36 => ((t37 != t38) == false)) [true, false] 128 [] (fun _ w hg _ => interval_Width.calls t11 t39 w (ifp ht39 hg))) <|
      .cons [129] (ok_ldg (fun ν36 => .agg #[.int .i64 t11.Lo, .int .i64 t11.Hi]) (fun ν36 => ((t37 != t38) == false)) [true] 129 238 0 2 (fun ν36 => ((ν10 6).n 0)) (fun ν36 => [.int .i64 t11.Lo, .int .i64 t11.Hi]) 23) <|
      .cons [130] (ok_call 47 (fun ν36 => #[.agg #[.int .i64 t11.Lo, .int .i64 t11.Hi]]) (.int .i64 t40) (fun ν36 => ((t37 != t38) == false)) [true, false] 130 [] (fun _ w hg _ => armillaryref02_Width.calls t11 t40 w (ifp ht40 hg))) <|
      .cons [131] (ok_valg (fun ν36 => .bool (t39 != t40)) (fun ν36 => ((t37 != t38) == false)) [false, false] 131) <|
      .cons [132] (ok_or 126 131 (fun ν36 => true) (fun ν36 => true) (fun ν36 => (t37 != t38)) (fun ν36 => (t39 != t40)) 132) <|
      .cons [133] (ok_val (fun ν36 => .bool ((t37 != t38) || (t39 != t40))) 133) <|
      .cons [134] (ok_ldg (fun ν36 => .agg #[.int .i64 t11.Lo, .int .i64 t11.Hi]) (fun ν36 => (((t37 != t38) || (t39 != t40)) == false)) [true] 134 238 0 2 (fun ν36 => ((ν10 6).n 0)) (fun ν36 => [.int .i64 t11.Lo, .int .i64 t11.Hi]) 23) <|
      .cons [135] (ok_call 36 (fun ν36 => #[.agg #[.int .i64 t11.Lo, .int .i64 t11.Hi]]) (.int .i64 t41) (fun ν36 => (((t37 != t38) || (t39 != t40)) == false)) [true, false] 135 [] (fun _ w hg _ => interval_Mag.calls t11 t41 w (ifp ht41 hg))) <|
      .cons [136] (ok_ldg (fun ν36 => .agg #[.int .i64 t11.Lo, .int .i64 t11.Hi]) (fun ν36 => (((t37 != t38) || (t39 != t40)) == false)) [true] 136 238 0 2 (fun ν36 => ((ν10 6).n 0)) (fun ν36 => [.int .i64 t11.Lo, .int .i64 t11.Hi]) 23) <|
      .cons [137] (ok_call 48 (fun ν36 => #[.agg #[.int .i64 t11.Lo, .int .i64 t11.Hi]]) (.int .i64 t42) (fun ν36 => (((t37 != t38) || (t39 != t40)) == false)) [true, false] 137 [] (fun _ w hg _ => armillaryref02_Mag.calls t11 t42 w (ifp ht42 hg))) <|
      .cons [138] (ok_valg (fun ν36 => .bool (t41 != t42)) (fun ν36 => (((t37 != t38) || (t39 != t40)) == false)) [false, false] 138) <|
      .cons [139] (ok_or 133 138 (fun ν36 => true) (fun ν36 => true) (fun ν36 => ((t37 != t38) || (t39 != t40))) (fun ν36 => (t41 != t42)) 139) <|
      .cons [140] (ok_val (fun ν36 => .bool (((t37 != t38) || (t39 != t40)) || (t41 != t42))) 140) <|
      .cons [141] (ok_ldg (fun ν36 => .agg #[.int .i64 t11.Lo, .int .i64 t11.Hi]) (fun ν36 => ((((t37 != t38) || (t39 != t40)) || (t41 != t42)) == false)) [true] 141 238 0 2 (fun ν36 => ((ν10 6).n 0)) (fun ν36 => [.int .i64 t11.Lo, .int .i64 t11.Hi]) 23) <|
      .cons [142] (ok_call 37 (fun ν36 => #[.agg #[.int .i64 t11.Lo, .int .i64 t11.Hi]]) (.int .i64 t43) (fun ν36 => ((((t37 != t38) || (t39 != t40)) || (t41 != t42)) == false)) [true, false] 142 [] (fun _ w hg _ => interval_Sign.calls t11 t43 w (ifp ht43 hg))) <|
      .cons [143] (ok_ldg (fun ν36 => .agg #[.int .i64 t11.Lo, .int .i64 t11.Hi]) (fun ν36 => ((((t37 != t38) || (t39 != t40)) || (t41 != t42)) == false)) [true] 143 238 0 2 (fun ν36 => ((ν10 6).n 0)) (fun ν36 => [.int .i64 t11.Lo, .int .i64 t11.Hi]) 23) <|
      .cons [144] (ok_call 49 (fun ν36 => #[.agg #[.int .i64 t11.Lo, .int .i64 t11.Hi]]) (.int .i64 t44) (fun ν36 => ((((t37 != t38) || (t39 != t40)) || (t41 != t42)) == false)) [true, false] 144 [] (fun _ w hg _ => armillaryref02_Sign.calls t11 t44 w (ifp ht44 hg))) <|
      .cons [145] (ok_valg (fun ν36 => .bool (t43 != t44)) (fun ν36 => ((((t37 != t38) || (t39 != t40)) || (t41 != t42)) == false)) [false, false] 145) <|
      .cons [146] (ok_or 140 145 (fun ν36 => true) (fun ν36 => true) (fun ν36 => (((t37 != t38) || (t39 != t40)) || (t41 != t42))) (fun ν36 => (t43 != t44)) 146) <|
      .cons [147] (ok_val (fun ν36 => .bool ((((t37 != t38) || (t39 != t40)) || (t41 != t42)) || (t43 != t44))) 147) <|
      .cons [148] (ok_ldg (fun ν36 => .agg #[.int .i64 t11.Lo, .int .i64 t11.Hi]) (fun ν36 => (((((t37 != t38) || (t39 != t40)) || (t41 != t42)) || (t43 != t44)) == false)) [true] 148 238 0 2 (fun ν36 => ((ν10 6).n 0)) (fun ν36 => [.int .i64 t11.Lo, .int .i64 t11.Hi]) 23) <|
      .cons [149] (ok_call 38 (fun ν36 => #[.agg #[.int .i64 t11.Lo, .int .i64 t11.Hi]]) (.bool t45) (fun ν36 => (((((t37 != t38) || (t39 != t40)) || (t41 != t42)) || (t43 != t44)) == false)) [true, false] 149 [] (fun _ w hg _ => interval_IsEntire.calls t11 t45 w (ifp ht45 hg))) <|
      .cons [150] (ok_ldg (fun ν36 => .agg #[.int .i64 t11.Lo, .int .i64 t11.Hi]) (fun ν36 => (((((t37 != t38) || (t39 != t40)) || (t41 != t42)) || (t43 != t44)) == false)) [true] 150 238 0 2 (fun ν36 => ((ν10 6).n 0)) (fun ν36 => [.int .i64 t11.Lo, .int .i64 t11.Hi]) 23) <|
      .cons [151] (ok_call 13 (fun ν36 => #[.agg #[.int .i64 t11.Lo, .int .i64 t11.Hi]]) (.bool t46) (fun ν36 => (((((t37 != t38) || (t39 != t40)) || (t41 != t42)) || (t43 != t44)) == false)) [true, false] 151 [] (fun _ w hg _ => armillaryref02_IsEntire.calls t11 t46 w (ifp ht46 hg))) <|
      .cons [152] (ok_valg (fun ν36 => .bool (!(t45 == t46))) (fun ν36 => (((((t37 != t38) || (t39 != t40)) || (t41 != t42)) || (t43 != t44)) == false)) [false, false] 152) <|
      .cons [153] (ok_or 147 152 (fun ν36 => true) (fun ν36 => true) (fun ν36 => ((((t37 != t38) || (t39 != t40)) || (t41 != t42)) || (t43 != t44))) (fun ν36 => (!(t45 == t46))) 153) <|
      .cons [154] (ok_val (fun ν36 => .bool (((((t37 != t38) || (t39 != t40)) || (t41 != t42)) || (t43 != t44)) || (!(t45 == t46)))) 154) <|
      .cons [155] (ok_call 50 (fun ν36 => #[]) (.agg #[.int .i64 t47.Lo, .int .i64 t47.Hi]) (fun ν36 => ((((((t37 != t38) || (t39 != t40)) || (t41 != t42)) || (t43 != t44)) || (!(t45 == t46))) == false)) [true] 155 [] (fun _ w hg _ => interval_Entire.calls  t47 w (ifp ht47 hg))) <|
      .cons [156] (ok_call 51 (fun ν36 => #[]) (.agg #[.int .i64 t48.Lo, .int .i64 t48.Hi]) (fun ν36 => ((((((t37 != t38) || (t39 != t40)) || (t41 != t42)) || (t43 != t44)) || (!(t45 == t46))) == false)) [true] 156 [] (fun _ w hg _ => armillaryref02_Entire.calls  t48 w (ifp ht48 hg))) <|
      .cons [157] (ok_call 31 (fun ν36 => #[.agg #[.int .i64 t47.Lo, .int .i64 t47.Hi], .agg #[.int .i64 t48.Lo, .int .i64 t48.Hi]]) (.bool t49) (fun ν36 => ((((((t37 != t38) || (t39 != t40)) || (t41 != t42)) || (t43 != t44)) || (!(t45 == t46))) == false)) [true, false, false] 157 [] (fun _ w hg _ => armillaryref02_Same.calls t47 t48 t49 w (ifp ht49 hg))) <|
      .cons [158] (ok_valg (fun ν36 => .bool (!t49)) (fun ν36 => ((((((t37 != t38) || (t39 != t40)) || (t41 != t42)) || (t43 != t44)) || (!(t45 == t46))) == false)) [false] 158) <|
      .cons [159] (ok_or 154 158 (fun ν36 => true) (fun ν36 => true) (fun ν36 => (((((t37 != t38) || (t39 != t40)) || (t41 != t42)) || (t43 != t44)) || (!(t45 == t46)))) (fun ν36 => (!t49)) 159) <|
      .cons [160] (ok_as (u' := fun ν36 => [(160, .slot true (.bool z50))]) (ok_val (fun ν36 => .bool ((((((t37 != t38) || (t39 != t40)) || (t41 != t42)) || (t43 != t44)) || (!(t45 == t46))) || (!t49))) 160) (fun _ => by rw [← hz50])) <|
      .cons [161] (ok_valg (fun ν36 => .pointer (some ⟨((ν10 6).n 0), 0, none⟩)) (fun ν36 => (z50 == false)) [true] 161) <|
      .cons [162] (ok_ldg (fun ν36 => .int .i64 t11.Lo) (fun ν36 => (z50 == false)) [false] 162 238 0 1 (fun ν36 => ((ν10 6).n 0)) (fun ν36 => [.int .i64 t11.Lo, .int .i64 t11.Hi]) 23) <|
      .cons [163] (ok_call 52 (fun ν36 => #[.int .i64 t11.Lo]) (.agg #[.int .i64 t51.Lo, .int .i64 t51.Hi]) (fun ν36 => (z50 == false)) [true, false] 163 [] (fun _ w hg _ => interval_Point.calls t11.Lo t51 w (ifp ht51 hg))) <|
      .cons [164] (ok_valg (fun ν36 => .pointer (some ⟨((ν10 6).n 0), 0, none⟩)) (fun ν36 => (z50 == false)) [true] 164) <|
      .cons [165] (ok_ldg (fun ν36 => .int .i64 t11.Lo) (fun ν36 => (z50 == false)) [false] 165 238 0 1 (fun ν36 => ((ν10 6).n 0)) (fun ν36 => [.int .i64 t11.Lo, .int .i64 t11.Hi]) 23) <|
      .cons [166] (ok_call 53 (fun ν36 => #[.int .i64 t11.Lo]) (.agg #[.int .i64 t52.Lo, .int .i64 t52.Hi]) (fun ν36 => (z50 == false)) [true, false] 166 [] (fun _ w hg _ => armillaryref02_Point.calls t11.Lo t52 w (ifp ht52 hg))) <|
      .cons [167] (ok_call 31 (fun ν36 => #[.agg #[.int .i64 t51.Lo, .int .i64 t51.Hi], .agg #[.int .i64 t52.Lo, .int .i64 t52.Hi]]) (.bool t53) (fun ν36 => (z50 == false)) [true, false, false] 167 [] (fun _ w hg _ => armillaryref02_Same.calls t51 t52 t53 w (ifp ht53 hg))) <|
      .cons [168] (ok_valg (fun ν36 => .bool (!t53)) (fun ν36 => (z50 == false)) [false] 168) <|
      .cons [169] (ok_or 160 168 (fun ν36 => true) (fun ν36 => true) (fun ν36 => z50) (fun ν36 => (!t53)) 169) <|
      .cons [170] (ok_val (fun ν36 => .bool (z50 || (!t53))) 170) <|
      .cons [171] (ok_valg (fun ν36 => .pointer (some ⟨((ν10 6).n 0), 0, none⟩)) (fun ν36 => ((z50 || (!t53)) == false)) [true] 171) <|
      .cons [172] (ok_ldg (fun ν36 => .int .i64 t11.Lo) (fun ν36 => ((z50 || (!t53)) == false)) [false] 172 238 0 1 (fun ν36 => ((ν10 6).n 0)) (fun ν36 => [.int .i64 t11.Lo, .int .i64 t11.Hi]) 23) <|
      .cons [173] (ok_valg (fun ν36 => .pointer (some ⟨((ν10 7).n 0), 1, none⟩)) (fun ν36 => ((z50 || (!t53)) == false)) [true] 173) <|
      .cons [174] (ok_ldg (fun ν36 => .int .i64 t12.Hi) (fun ν36 => ((z50 || (!t53)) == false)) [false] 174 239 1 1 (fun ν36 => ((ν10 7).n 0)) (fun ν36 => [.int .i64 t12.Lo, .int .i64 t12.Hi]) 23) <|
      .cons [175] (ok_valg (fun ν36 => .int .i64 (w_i64 (t12.Hi + 4294967296))) (fun ν36 => ((z50 || (!t53)) == false)) [false, true] 175) <|
      .cons [176] (ok_call 54 (fun ν36 => #[.int .i64 t11.Lo, .int .i64 (w_i64 (t12.Hi + 4294967296))]) (.agg #[.int .i64 t54.Lo, .int .i64 t54.Hi]) (fun ν36 => ((z50 || (!t53)) == false)) [true, false, false] 176 [] (fun _ w hg _ => interval_New.calls t11.Lo (w_i64 (t12.Hi + 4294967296)) t54 w (ifp ht54 hg))) <|
      .cons [177] (ok_valg (fun ν36 => .pointer (some ⟨((ν10 6).n 0), 0, none⟩)) (fun ν36 => ((z50 || (!t53)) == false)) [true] 177) <|
      .cons [178] (ok_ldg (fun ν36 => .int .i64 t11.Lo) (fun ν36 => ((z50 || (!t53)) == false)) [false] 178 238 0 1 (fun ν36 => ((ν10 6).n 0)) (fun ν36 => [.int .i64 t11.Lo, .int .i64 t11.Hi]) 23) <|
      .cons [179] (ok_valg (fun ν36 => .pointer (some ⟨((ν10 7).n 0), 1, none⟩)) (fun ν36 => ((z50 || (!t53)) == false)) [true] 179) <|
      .cons [180] (ok_ldg (fun ν36 => .int .i64 t12.Hi) (fun ν36 => ((z50 || (!t53)) == false)) [false] 180 239 1 1 (fun ν36 => ((ν10 7).n 0)) (fun ν36 => [.int .i64 t12.Lo, .int .i64 t12.Hi]) 23) <|
      .cons [181] (ok_valg (fun ν36 => .int .i64 (w_i64 (t12.Hi + 4294967296))) (fun ν36 => ((z50 || (!t53)) == false)) [false, true] 181) <|
      .cons [182] (ok_call 55 (fun ν36 => #[.int .i64 t11.Lo, .int .i64 (w_i64 (t12.Hi + 4294967296))]) (.agg #[.int .i64 t55.Lo, .int .i64 t55.Hi]) (fun ν36 => ((z50 || (!t53)) == false)) [true, false, false] 182 [] (fun _ w hg _ => armillaryref02_New.calls t11.Lo (w_i64 (t12.Hi + 4294967296)) t55 w (ifp ht55 hg))) <|
      .cons [183] (ok_call 31 (fun ν36 => #[.agg #[.int .i64 t54.Lo, .int .i64 t54.Hi], .agg #[.int .i64 t55.Lo, .int .i64 t55.Hi]]) (.bool t56) (fun ν36 => ((z50 || (!t53)) == false)) [true, false, false] 183 [] (fun _ w hg _ => armillaryref02_Same.calls t54 t55 t56 w (ifp ht56 hg))) <|
      .cons [184] (ok_valg (fun ν36 => .bool (!t56)) (fun ν36 => ((z50 || (!t53)) == false)) [false] 184) <|
      .cons [185] (ok_or 170 184 (fun ν36 => true) (fun ν36 => true) (fun ν36 => (z50 || (!t53))) (fun ν36 => (!t56)) 185) <| .nil) (by kernel_rfl) fun ν36 a w' H => ?_
      replace H := H.toL [(4, .slot true (.bool false)), (5, .slot true (.bool t3)), (6, .slot true (.pointer (some ⟨((ν10 6).n 0), 0, none⟩))), (7, .slot true (.pointer (some ⟨((ν10 7).n 0), 0, none⟩))), (185, .slot true (.bool ((z50 || (!t53)) || (!t56)))), (238, .blk ((ν10 6).n 0) [.int .i64 t11.Lo, .int .i64 t11.Hi] 23), (239, .blk ((ν10 7).n 0) [.int .i64 t12.Lo, .int .i64 t12.Hi] 23), (999999, gk)] (by kernel_rfl)
      refine k_cond H (by kernel_rfl) (t := ((z50 || (!t53)) || (!t56))) (by kernel_rfl) (fun c77 => ?_) (fun c77 => ?_)
      · rw [if_pos c77] at G
        refine k_seq ?_
        refine k_reg mixed H (.cons [4] (ok_val (fun ν57 => .bool false) 4) <| .nil) (by kernel_rfl) fun ν57 a w' H => ?_
        replace H := H.toL [(4, .slot true (.bool false)), (5, .slot true (.bool t3)), (6, .slot true (.pointer (some ⟨((ν10 6).n 0), 0, none⟩))), (7, .slot true (.pointer (some ⟨((ν10 7).n 0), 0, none⟩))), (238, .blk ((ν10 6).n 0) [.int .i64 t11.Lo, .int .i64 t11.Hi] 23), (239, .blk ((ν10 7).n 0) [.int .i64 t12.Lo, .int .i64 t12.Hi] 23), (999999, gk)] (by kernel_rfl)
        refine k_ret ?_
        obtain rfl := Option.some.inj G
        exact k_done0 H _ (by kernel_rfl) (by kernel_rfl)
      · rw [if_neg (nt c77)] at G
        refine k_skip ?_
        refine k_seq ?_
        replace G := bnd G; obtain ⟨t59, ht59, G⟩ := G
        replace G := bnd G; obtain ⟨t60, ht60, G⟩ := G
        replace G := bnd G; obtain ⟨t61, ht61, G⟩ := G
        replace G := bnd G; obtain ⟨t62, ht62, G⟩ := G
        replace G := bnd G; obtain ⟨t63, ht63, G⟩ := G
        replace G := bnd G; obtain ⟨t64, ht64, G⟩ := G
        replace G := bnd G; obtain ⟨t65, ht65, G⟩ := G
        replace G := bnd G; obtain ⟨t66, ht66, G⟩ := G
        replace G := bnd G; obtain ⟨t67, ht67, G⟩ := G
        replace G := bnd G; obtain ⟨t68, ht68, G⟩ := G
        replace G := bnd G; obtain ⟨t69, ht69, G⟩ := G
        replace G := bnd G; obtain ⟨t70, ht70, G⟩ := G
        replace G := bnd G; obtain ⟨t71, ht71, G⟩ := G
        replace G := bnd G; obtain ⟨t72, ht72, G⟩ := G
        replace G := bnd G; obtain ⟨t73, ht73, G⟩ := G
        replace G := bnd G; obtain ⟨t74, ht74, G⟩ := G
        replace G := bnd G; obtain ⟨t75, ht75, G⟩ := G
        replace G := bnd G; obtain ⟨t76, ht76, G⟩ := G
        refine k_reg mixed H (.cons [186] (ok_ld (fun ν58 => .agg #[.int .i64 t11.Lo, .int .i64 t11.Hi]) 186 238 0 2 (fun ν58 => ((ν10 6).n 0)) (fun ν58 => [.int .i64 t11.Lo, .int .i64 t11.Hi]) 23) <|
      .cons [187] (ok_ld (fun ν58 => .agg #[.int .i64 t12.Lo, .int .i64 t12.Hi]) 187 239 0 2 (fun ν58 => ((ν10 7).n 0)) (fun ν58 => [.int .i64 t12.Lo, .int .i64 t12.Hi]) 23) <|
      .cons [188] (ok_callv 14 (fun ν58 => #[.agg #[.int .i64 t11.Lo, .int .i64 t11.Hi], .agg #[.int .i64 t12.Lo, .int .i64 t12.Hi]]) (.agg #[.int .i64 t59.Lo, .int .i64 t59.Hi]) 188 [] (fun _ w _ => interval_Add.calls t11 t12 t59 w ht59)) <|
      .cons [189] (ok_ld (fun ν58 => .agg #[.int .i64 t11.Lo, .int .i64 t11.Hi]) 189 238 0 2 (fun ν58 => ((ν10 6).n 0)) (fun ν58 => [.int .i64 t11.Lo, .int .i64 t11.Hi]) 23) <|
      .cons [190] (ok_ld (fun ν58 => .agg #[.int .i64 t12.Lo, .int .i64 t12.Hi]) 190 239 0 2 (fun ν58 => ((ν10 7).n 0)) (fun ν58 => [.int .i64 t12.Lo, .int .i64 t12.Hi]) 23) <|
      .cons [191] (ok_callv 56 (fun ν58 => #[.agg #[.int .i64 t11.Lo, .int .i64 t11.Hi], .agg #[.int .i64 t12.Lo, .int .i64 t12.Hi]]) (.agg #[.int .i64 t60.Lo, .int .i64 t60.Hi]) 191 [] (fun _ w _ => armillaryref02_Add.calls t11 t12 t60 w ht60)) <|
      .cons [192] (ok_callv 31 (fun ν58 => #[.agg #[.int .i64 t59.Lo, .int .i64 t59.Hi], .agg #[.int .i64 t60.Lo, .int .i64 t60.Hi]]) (.bool t61) 192 [] (fun _ w _ => armillaryref02_Same.calls t59 t60 t61 w ht61)) <|
      .cons [193] (ok_val (fun ν58 => .bool t61) 193) <|
      .cons [194] (ok_ldg (fun ν58 => .agg #[.int .i64 t11.Lo, .int .i64 t11.Hi]) (fun ν58 => (t61 == true)) [true] 194 238 0 2 (fun ν58 => ((ν10 6).n 0)) (fun ν58 => [.int .i64 t11.Lo, .int .i64 t11.Hi]) 23) <|
      .cons [195] (ok_ldg (fun ν58 => .agg #[.int .i64 t12.Lo, .int .i64 t12.Hi]) (fun ν58 => (t61 == true)) [true] 195 239 0 2 (fun ν58 => ((ν10 7).n 0)) (fun ν58 => [.int .i64 t12.Lo, .int .i64 t12.Hi]) 23) <|
      .cons [196] (ok_call 20 (fun ν58 => #[.agg #[.int .i64 t11.Lo, .int .i64 t11.Hi], .agg #[.int .i64 t12.Lo, .int .i64 t12.Hi]]) (.agg #[.int .i64 t62.Lo, .int .i64 t62.Hi]) (fun ν58 => (t61 == true)) [true, false, false] 196 [] (fun _ w hg _ => interval_Sub.calls t11 t12 t62 w (ifp ht62 hg))) <|
      .cons [197] (ok_ldg (fun ν58 => .agg #[.int .i64 t11.Lo, .int .i64 t11.Hi]) (fun ν58 => (t61 == true)) [true] 197 238 0 2 (fun ν58 => ((ν10 6).n 0)) (fun ν58 => [.int .i64 t11.Lo, .int .i64 t11.Hi]) 23) <|
      .cons [198] (ok_ldg (fun ν58 => .agg #[.int .i64 t12.Lo, .int .i64 t12.Hi]) (fun ν58 => (t61 == true)) [true] 198 239 0 2 (fun ν58 => ((ν10 7).n 0)) (fun ν58 => [.int .i64 t12.Lo, .int .i64 t12.Hi]) 23) <|
      .cons [199] (ok_call 57 (fun ν58 => #[.agg #[.int .i64 t11.Lo, .int .i64 t11.Hi], .agg #[.int .i64 t12.Lo, .int .i64 t12.Hi]]) (.agg #[.int .i64 t63.Lo, .int .i64 t63.Hi]) (fun ν58 => (t61 == true)) [true, false, false] 199 [] (fun _ w hg _ => armillaryref02_Sub.calls t11 t12 t63 w (ifp ht63 hg))) <|
      .cons [200] (ok_call 31 (fun ν58 => #[.agg #[.int .i64 t62.Lo, .int .i64 t62.Hi], .agg #[.int .i64 t63.Lo, .int .i64 t63.Hi]]) (.bool t64) (fun ν58 => (t61 == true)) [true, false, false] 200 [] (fun _ w hg _ => armillaryref02_Same.calls t62 t63 t64 w (ifp ht64 hg))) <|
      .cons [201] (ok_and 193 200 (fun ν58 => true) (fun ν58 => true) (fun ν58 => t61) (fun ν58 => t64) 201) <|
      .cons [202] (ok_val (fun ν58 => .bool (t61 && t64)) 202) <|
      .cons [203] (ok_ldg (fun ν58 => .agg #[.int .i64 t11.Lo, .int .i64 t11.Hi]) (fun ν58 => ((t61 && t64) == true)) [true] 203 238 0 2 (fun ν58 => ((ν10 6).n 0)) (fun ν58 => [.int .i64 t11.Lo, .int .i64 t11.Hi]) 23) <|
      .cons [204] (ok_call 21 (fun ν58 => #[.agg #[.int .i64 t11.Lo, .int .i64 t11.Hi]]) (.agg #[.int .i64 t65.Lo, .int .i64 t65.Hi]) (fun ν58 => ((t61 && t64) == true)) [true, false] 204 [] (fun _ w hg _ => interval_Neg.calls t11 t65 w (ifp ht65 hg))) <|
      .cons [205] (ok_ldg (fun ν58 => .agg #[.int .i64 t11.Lo, .int .i64 t11.Hi]) (fun ν58 => ((t61 && t64) == true)) [true] 205 238 0 2 (fun ν58 => ((ν10 6).n 0)) (fun ν58 => [.int .i64 t11.Lo, .int .i64 t11.Hi]) 23) <|
      .cons [206] (ok_call 58 (fun ν58 => #[.agg #[.int .i64 t11.Lo, .int .i64 t11.Hi]]) (.agg #[.int .i64 t66.Lo, .int .i64 t66.Hi]) (fun ν58 => ((t61 && t64) == true)) [true, false] 206 [] (fun _ w hg _ => armillaryref02_Neg.calls t11 t66 w (ifp ht66 hg))) <|
      .cons [207] (ok_call 31 (fun ν58 => #[.agg #[.int .i64 t65.Lo, .int .i64 t65.Hi], .agg #[.int .i64 t66.Lo, .int .i64 t66.Hi]]) (.bool t67) (fun ν58 => ((t61 && t64) == true)) [true, false, false] 207 [] (fun _ w hg _ => armillaryref02_Same.calls t65 t66 t67 w (ifp ht67 hg))) <|
      .cons [208] (ok_and 202 207 (fun ν58 => true) (fun ν58 => true) (fun ν58 => (t61 && t64)) (fun ν58 => t67) 208) <|
      .cons [209] (ok_val (fun ν58 => .bool ((t61 && t64) && t67)) 209) <|
      .cons [210] (ok_ldg (fun ν58 => .agg #[.int .i64 t11.Lo, .int .i64 t11.Hi]) (fun ν58 => (((t61 && t64) && t67) == true)) [true] 210 238 0 2 (fun ν58 => ((ν10 6).n 0)) (fun ν58 => [.int .i64 t11.Lo, .int .i64 t11.Hi]) 23) <|
      .cons [211] (ok_ldg (fun ν58 => .agg #[.int .i64 t12.Lo, .int .i64 t12.Hi]) (fun ν58 => (((t61 && t64) && t67) == true)) [true] 211 239 0 2 (fun ν58 => ((ν10 7).n 0)) (fun ν58 => [.int .i64 t12.Lo, .int .i64 t12.Hi]) 23) <|
      .cons [212] (ok_callG 999999 gk 15 (fun ν58 => #[.agg #[.int .i64 t11.Lo, .int .i64 t11.Hi], .agg #[.int .i64 t12.Lo, .int .i64 t12.Hi]]) (.agg #[.int .i64 t68.Lo, .int .i64 t68.Hi]) (fun ν58 => (((t61 && t64) && t67) == true)) [true, false, false] 212 (fun _ w hG hg => interval_Mul.calls t11 t12 t68 w (glob_of hG) (ifp ht68 hg))) <|
      .cons [213] (ok_ldg (fun ν58 => .agg #[.int .i64 t11.Lo, .int .i64 t11.Hi]) (fun ν58 => (((t61 && t64) && t67) == true)) [true] 213 238 0 2 (fun ν58 => ((ν10 6).n 0)) (fun ν58 => [.int .i64 t11.Lo, .int .i64 t11.Hi]) 23) <|
      .cons [214] (ok_ldg (fun ν58 => .agg #[.int .i64 t12.Lo, .int .i64 t12.Hi]) (fun ν58 => (((t61 && t64) && t67) == true)) [true] 214 239 0 2 (fun ν58 => ((ν10 7).n 0)) (fun ν58 => [.int .i64 t12.Lo, .int .i64 t12.Hi]) 23) <|
      .cons [215] (ok_call 59 (fun ν58 => #[.agg #[.int .i64 t11.Lo, .int .i64 t11.Hi], .agg #[.int .i64 t12.Lo, .int .i64 t12.Hi]]) (.agg #[.int .i64 t69.Lo, .int .i64 t69.Hi]) (fun ν58 => (((t61 && t64) && t67) == true)) [true, false, false] 215 [] (fun _ w hg _ => armillaryref02_Mul.calls k0 t11 t12 t69 w (ifp ht69 hg))) <|
      .cons [216] (ok_call 31 (fun ν58 => #[.agg #[.int .i64 t68.Lo, .int .i64 t68.Hi], .agg #[.int .i64 t69.Lo, .int .i64 t69.Hi]]) (.bool t70) (fun ν58 => (((t61 && t64) && t67) == true)) [true, false, false] 216 [] (fun _ w hg _ => armillaryref02_Same.calls t68 t69 t70 w (ifp ht70 hg))) <|
      .cons [217] (ok_and 209 216 (fun ν58 => true) (fun ν58 => true) (fun ν58 => ((t61 && t64) && t67)) (fun ν58 => t70) 217) <|
      .cons [218] (ok_val (fun ν58 => .bool (((t61 && t64) && t67) && t70)) 218) <|
      .cons [219] (ok_ldg (fun ν58 => .agg #[.int .i64 t11.Lo, .int .i64 t11.Hi]) (fun ν58 => ((((t61 && t64) && t67) && t70) == true)) [true] 219 238 0 2 (fun ν58 => ((ν10 6).n 0)) (fun ν58 => [.int .i64 t11.Lo, .int .i64 t11.Hi]) 23) <|
      .cons [220] (ok_call 22 (fun ν58 => #[.agg #[.int .i64 t11.Lo, .int .i64 t11.Hi]]) (.agg #[.int .i64 t71.Lo, .int .i64 t71.Hi]) (fun ν58 => ((((t61 && t64) && t67) && t70) == true)) [true, false] 220 [] (fun _ w hg _ => interval_Square.calls t11 t71 w (ifp ht71 hg))) <|
      .cons [221] (ok_ldg (fun ν58 => .agg #[.int .i64 t11.Lo, .int .i64 t11.Hi]) (fun ν58 => ((((t61 && t64) && t67) && t70) == true)) [true] 221 238 0 2 (fun ν58 => ((ν10 6).n 0)) (fun ν58 => [.int .i64 t11.Lo, .int .i64 t11.Hi]) 23) <|
      .cons [222] (ok_call 60 (fun ν58 => #[.agg #[.int .i64 t11.Lo, .int .i64 t11.Hi]]) (.agg #[.int .i64 t72.Lo, .int .i64 t72.Hi]) (fun ν58 => ((((t61 && t64) && t67) && t70) == true)) [true, false] 222 [] (fun _ w hg _ => armillaryref02_Square.calls t11 t72 w (ifp ht72 hg))) <|
      .cons [223] (ok_call 31 (fun ν58 => #[.agg #[.int .i64 t71.Lo, .int .i64 t71.Hi], .agg #[.int .i64 t72.Lo, .int .i64 t72.Hi]]) (.bool t73) (fun ν58 => ((((t61 && t64) && t67) && t70) == true)) [true, false, false] 223 [] (fun _ w hg _ => armillaryref02_Same.calls t71 t72 t73 w (ifp ht73 hg))) <|
      .cons [224] (ok_and 218 223 (fun ν58 => true) (fun ν58 => true) (fun ν58 => (((t61 && t64) && t67) && t70)) (fun ν58 => t73) 224) <|
      .cons [225] (ok_val (fun ν58 => .bool ((((t61 && t64) && t67) && t70) && t73)) 225) <|
      .cons [226] (ok_ldg (fun ν58 => .agg #[.int .i64 t11.Lo, .int .i64 t11.Hi]) (fun ν58 => (((((t61 && t64) && t67) && t70) && t73) == true)) [true] 226 238 0 2 (fun ν58 => ((ν10 6).n 0)) (fun ν58 => [.int .i64 t11.Lo, .int .i64 t11.Hi]) 23) <|
      .cons [227] (ok_ldg (fun ν58 => .agg #[.int .i64 t12.Lo, .int .i64 t12.Hi]) (fun ν58 => (((((t61 && t64) && t67) && t70) && t73) == true)) [true] 227 239 0 2 (fun ν58 => ((ν10 7).n 0)) (fun ν58 => [.int .i64 t12.Lo, .int .i64 t12.Hi]) 23) <|
      .cons [228] (ok_callG 999999 gk 16 (fun ν58 => #[.agg #[.int .i64 t11.Lo, .int .i64 t11.Hi], .agg #[.int .i64 t12.Lo, .int .i64 t12.Hi]]) (.agg #[.int .i64 t74.Lo, .int .i64 t74.Hi]) (fun ν58 => (((((t61 && t64) && t67) && t70) && t73) == true)) [true, false, false] 228 (fun _ w hG hg => interval_Div.calls t11 t12 t74 w (glob_of hG) (ifp ht74 hg))) <|
      .cons [229] (ok_ldg (fun ν58 => .agg #[.int .i64 t11.Lo, .int .i64 t11.Hi]) (fun ν58 => (((((t61 && t64) && t67) && t70) && t73) == true)) [true] 229 238 0 2 (fun ν58 => ((ν10 6).n 0)) (fun ν58 => [.int .i64 t11.Lo, .int .i64 t11.Hi]) 23) <|
      .cons [230] (ok_ldg (fun ν58 => .agg #[.int .i64 t12.Lo, .int .i64 t12.Hi]) (fun ν58 => (((((t61 && t64) && t67) && t70) && t73) == true)) [true] 230 239 0 2 (fun ν58 => ((ν10 7).n 0)) (fun ν58 => [.int .i64 t12.Lo, .int .i64 t12.Hi]) 23) <|
      .cons [231] (ok_call 61 (fun ν58 => #[.agg #[.int .i64 t11.Lo, .int .i64 t11.Hi], .agg #[.int .i64 t12.Lo, .int .i64 t12.Hi]]) (.agg #[.int .i64 t75.Lo, .int .i64 t75.Hi]) (fun ν58 => (((((t61 && t64) && t67) && t70) && t73) == true)) [true, false, false] 231 [] (fun _ w hg _ => armillaryref02_Div.calls k0 t11 t12 t75 w (ifp ht75 hg))) <|
      .cons [232] (ok_call 31 (fun ν58 => #[.agg #[.int .i64 t74.Lo, .int .i64 t74.Hi], .agg #[.int .i64 t75.Lo, .int .i64 t75.Hi]]) (.bool t76) (fun ν58 => (((((t61 && t64) && t67) && t70) && t73) == true)) [true, false, false] 232 [] (fun _ w hg _ => armillaryref02_Same.calls t74 t75 t76 w (ifp ht76 hg))) <|
      .cons [233] (ok_and 225 232 (fun ν58 => true) (fun ν58 => true) (fun ν58 => ((((t61 && t64) && t67) && t70) && t73)) (fun ν58 => t76) 233) <|
      .cons [234] (ok_val (fun ν58 => .bool (((((t61 && t64) && t67) && t70) && t73) && t76)) 234) <|
      .cons [235] (ok_valg (fun ν58 => .bool t3) (fun ν58 => ((((((t61 && t64) && t67) && t70) && t73) && t76) == true)) [true] 235) <|
      .cons [236] (ok_and 234 235 (fun ν58 => true) (fun ν58 => true) (fun ν58 => (((((t61 && t64) && t67) && t70) && t73) && t76)) (fun ν58 => t3) 236) <|
      .cons [4] (ok_val (fun ν58 => .bool ((((((t61 && t64) && t67) && t70) && t73) && t76) && t3)) 4) <| .nil) (by kernel_rfl) fun ν58 a w' H => ?_
        replace H := H.toL [(4, .slot true (.bool ((((((t61 && t64) && t67) && t70) && t73) && t76) && t3))), (999999, gk)] (by kernel_rfl)
        refine k_ret ?_
        obtain rfl := Option.some.inj G
        exact k_done0 H _ (by kernel_rfl) (by kernel_rfl)

end Go.Proofs.YtmjnbhigomjjnaaDoor
