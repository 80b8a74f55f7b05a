/- The law IntervalMeasures answers as the plain Lean function of its name. Printed by a program of this session. -/
import Derived.Test.YtmjnbhigomjjnaaDoorFn2
set_option linter.unusedVariables false
set_option maxRecDepth 100000
namespace Go.Proofs.YtmjnbhigomjjnaaDoor
open Go Go.RowKit Go.Sx Go.Proofs
set_option maxHeartbeats 4000000 in
theorem armillarylaw02_IntervalMeasures.calls (k0 : Nat) (a0 : TInterval) (a1 : Int) (r : Bool) (w : World) (hg : Glob w) (G : armillarylaw02_IntervalMeasures k0 a0 a1 = some r) :
    Calls Tryd.prog 8 #[.agg #[.int .i64 a0.Lo, .int .i64 a0.Hi], .int .u32 a1] w fun e w' => e = .returned (.bool r) ∧ Below w.heap.size w w' := by
  refine k_enterG (args := [.agg #[.int .i64 a0.Lo, .int .i64 a0.Hi], .int .u32 a1]) 141 999999 globFp Glob (glob_local hg) (glob_in hg) Tryd.func8 rfl (by kernel_rfl) (by kernel_rfl) fun a H => ?_
  unfold armillarylaw02_IntervalMeasures at G
  refine k_seq ?_
  refine k_reg mixed H (.cons [2, 141] (ok_new (fun b => .pointer (some ⟨b, 0, none⟩)) (fun ν1 => [.int .i64 a0.Lo, .int .i64 a0.Hi]) 23 2 141) <|
      .cons [4] (ok_val (fun ν1 => .bool false) 4) <| .nil) (by kernel_rfl) fun ν1 a w' H => ?_
  replace H := H.toL [(1, .slot true (.int .u32 a1)), (2, .slot true (.pointer (some ⟨((ν1 0).n 0), 0, none⟩))), (4, .slot true (.bool false)), (141, .blk ((ν1 0).n 0) [.int .i64 a0.Lo, .int .i64 a0.Hi] 23), (999999, gk)] (by kernel_rfl)
  refine k_seq ?_
  replace G := bnd G; obtain ⟨t3, ht3, G⟩ := G
  refine k_reg mixed H (.cons [13] (ok_callvG 999999 gk 11 (fun ν2 => #[]) (.bool t3) 13 (fun _ w hg => armillarylaw02_sanity.calls k0 t3 w (glob_of hg) ht3)) <|
      .cons [5] (ok_val (fun ν2 => .bool t3) 5) <| .nil) (by kernel_rfl) fun ν2 a w' H => ?_
  replace H := H.toL [(1, .slot true (.int .u32 a1)), (2, .slot true (.pointer (some ⟨((ν1 0).n 0), 0, none⟩))), (4, .slot true (.bool false)), (5, .slot true (.bool t3)), (141, .blk ((ν1 0).n 0) [.int .i64 a0.Lo, .int .i64 a0.Hi] 23), (999999, gk)] (by kernel_rfl)
  refine k_seq ?_
  replace G := bnd G; obtain ⟨t5, ht5, G⟩ := G
  refine k_reg mixed H (.cons [14] (ok_ld (fun ν4 => .agg #[.int .i64 a0.Lo, .int .i64 a0.Hi]) 14 141 0 2 (fun ν4 => ((ν1 0).n 0)) (fun ν4 => [.int .i64 a0.Lo, .int .i64 a0.Hi]) 23) <|
      .cons [15] (ok_callv 12 (fun ν4 => #[.agg #[.int .i64 a0.Lo, .int .i64 a0.Hi]]) (.agg #[.int .i64 t5.Lo, .int .i64 t5.Hi]) 15 [] (fun _ w _ => armillaryref02_Made.calls a0 t5 w ht5)) <|
      .cons [6, 142] (ok_new (fun b => .pointer (some ⟨b, 0, none⟩)) (fun ν4 => [.int .i64 0, .int .i64 0]) 23 6 142) <|
      .cons [142] (ok_as (u' := fun ν4 => [(142, .blk ((ν4 2).n 0) [.int .i64 t5.Lo, .int .i64 t5.Hi] 23)]) (ok_store 142 0 (fun ν4 => ((ν4 2).n 0)) (fun ν4 => [.int .i64 0, .int .i64 0]) (fun ν4 => [.int .i64 t5.Lo, .int .i64 t5.Hi]) 23) (fun _ => by kernel_rfl)) <| .nil) (by kernel_rfl) fun ν4 a w' H => ?_
  replace H := H.toL [(1, .slot true (.int .u32 a1)), (4, .slot true (.bool false)), (5, .slot true (.bool t3)), (6, .slot true (.pointer (some ⟨((ν4 2).n 0), 0, none⟩))), (142, .blk ((ν4 2).n 0) [.int .i64 t5.Lo, .int .i64 t5.Hi] 23), (999999, gk)] (by kernel_rfl)
  refine k_seq ?_
  replace G := bnd G; obtain ⟨t7, ht7, G⟩ := G
  replace G := bnd G; obtain ⟨t8, ht8, G⟩ := G
  replace G := bnd G; obtain ⟨t9, ht9, G⟩ := G
  refine k_reg mixed H (.cons [16] (ok_ld (fun ν6 => .agg #[.int .i64 t5.Lo, .int .i64 t5.Hi]) 16 142 0 2 (fun ν6 => ((ν4 2).n 0)) (fun ν6 => [.int .i64 t5.Lo, .int .i64 t5.Hi]) 23) <|
      .cons [17] (ok_callv 34 (fun ν6 => #[.agg #[.int .i64 t5.Lo, .int .i64 t5.Hi]]) (.int .i64 t7) 17 [] (fun _ w _ => interval_Mid.calls t5 t7 w ht7)) <|
      .cons [18] (ok_ld (fun ν6 => .agg #[.int .i64 t5.Lo, .int .i64 t5.Hi]) 18 142 0 2 (fun ν6 => ((ν4 2).n 0)) (fun ν6 => [.int .i64 t5.Lo, .int .i64 t5.Hi]) 23) <|
      .cons [19] (ok_callv 35 (fun ν6 => #[.agg #[.int .i64 t5.Lo, .int .i64 t5.Hi]]) (.int .i64 t8) 19 [] (fun _ w _ => interval_Width.calls t5 t8 w ht8)) <|
      .cons [20] (ok_ld (fun ν6 => .agg #[.int .i64 t5.Lo, .int .i64 t5.Hi]) 20 142 0 2 (fun ν6 => ((ν4 2).n 0)) (fun ν6 => [.int .i64 t5.Lo, .int .i64 t5.Hi]) 23) <|
      .cons [21] (ok_callv 36 (fun ν6 => #[.agg #[.int .i64 t5.Lo, .int .i64 t5.Hi]]) (.int .i64 t9) 21 [] (fun _ w _ => interval_Mag.calls t5 t9 w ht9)) <|
      .cons [7] (ok_val (fun ν6 => .int .i64 t7) 7) <|
      .cons [8] (ok_val (fun ν6 => .int .i64 t8) 8) <|
      .cons [9] (ok_val (fun ν6 => .int .i64 t9) 9) <| .nil) (by kernel_rfl) fun ν6 a w' H => ?_
  replace H := H.toL [(1, .slot true (.int .u32 a1)), (4, .slot true (.bool false)), (5, .slot true (.bool t3)), (6, .slot true (.pointer (some ⟨((ν4 2).n 0), 0, none⟩))), (7, .slot true (.int .i64 t7)), (8, .slot true (.int .i64 t8)), (9, .slot true (.int .i64 t9)), (142, .blk ((ν4 2).n 0) [.int .i64 t5.Lo, .int .i64 t5.Hi] 23), (999999, gk)] (by kernel_rfl)
  refine k_seq ?_
  refine k_seq ?_
  replace G := bnd G; obtain ⟨t11, ht11, G⟩ := G
  refine k_reg mixed H (.cons [22] (ok_ld (fun ν10 => .agg #[.int .i64 t5.Lo, .int .i64 t5.Hi]) 22 142 0 2 (fun ν10 => ((ν4 2).n 0)) (fun ν10 => [.int .i64 t5.Lo, .int .i64 t5.Hi]) 23) <|
      .cons [23] (ok_callv 13 (fun ν10 => #[.agg #[.int .i64 t5.Lo, .int .i64 t5.Hi]]) (.bool t11) 23 [] (fun _ w _ => armillaryref02_IsEntire.calls t5 t11 w ht11)) <| .nil) (by kernel_rfl) fun ν10 a w' H => ?_
  replace H := H.toL [(1, .slot true (.int .u32 a1)), (4, .slot true (.bool false)), (5, .slot true (.bool t3)), (6, .slot true (.pointer (some ⟨((ν4 2).n 0), 0, none⟩))), (7, .slot true (.int .i64 t7)), (8, .slot true (.int .i64 t8)), (9, .slot true (.int .i64 t9)), (23, .slot true (.bool t11)), (142, .blk ((ν4 2).n 0) [.int .i64 t5.Lo, .int .i64 t5.Hi] 23), (999999, gk)] (by kernel_rfl)
  refine k_cond H (by kernel_rfl) (t := t11) (by kernel_rfl) (fun c29 => ?_) (fun c29 => ?_)
  · rw [if_pos c29] at G
    refine k_seq ?_
    replace G := bnd G; obtain ⟨t13, ht13, G⟩ := G
    replace G := bnd G; obtain ⟨t14, ht14, G⟩ := G
    refine k_reg mixed H (.cons [24] (ok_val (fun ν12 => .int .i64 t7) 24) <|
      .cons [25] (ok_val (fun ν12 => .bool (t7 == 0)) 25) <|
      .cons [26] (ok_val (fun ν12 => .bool (t7 == 0)) 26) <|
      .cons [27] (ok_valg (fun ν12 => .int .i64 t8) (fun ν12 => ((t7 == 0) == true)) [true] 27) <|
      .cons [28] (ok_valg (fun ν12 => .bool (t8 == 4294967296)) (fun ν12 => ((t7 == 0) == true)) [false, true] 28) <|
      .cons [29] (ok_and 26 28 (fun ν12 => true) (fun ν12 => true) (fun ν12 => (t7 == 0)) (fun ν12 => (t8 == 4294967296)) 29) <|
      .cons [30] (ok_val (fun ν12 => .bool ((t7 == 0) && (t8 == 4294967296))) 30) <|
      .cons [31] (ok_valg (fun ν12 => .int .i64 t9) (fun ν12 => (((t7 == 0) && (t8 == 4294967296)) == true)) [true] 31) <|
      .cons [32] (ok_valg (fun ν12 => .bool (t9 == 2147483648)) (fun ν12 => (((t7 == 0) && (t8 == 4294967296)) == true)) [false, true] 32) <|
      .cons [33] (ok_and 30 32 (fun ν12 => true) (fun ν12 => true) (fun ν12 => ((t7 == 0) && (t8 == 4294967296))) (fun ν12 => (t9 == 2147483648)) 33) <|
      .cons [34] (ok_val (fun ν12 => .bool (((t7 == 0) && (t8 == 4294967296)) && (t9 == 2147483648))) 34) <|
      .cons [35] (ok_ldg (fun ν12 => .agg #[.int .i64 t5.Lo, .int .i64 t5.Hi]) (fun ν12 => ((((t7 == 0) && (t8 == 4294967296)) && (t9 == 2147483648)) == true)) [true] 35 142 0 2 (fun ν12 => ((ν4 2).n 0)) (fun ν12 => [.int .i64 t5.Lo, .int .i64 t5.Hi]) 23) <|
      .cons [36] (ok_call 37 (fun ν12 => #[.agg #[.int .i64 t5.Lo, .int .i64 t5.Hi]]) (.int .i64 t13) (fun ν12 => ((((t7 == 0) && (t8 == 4294967296)) && (t9 == 2147483648)) == true)) [true, false] 36 [] (fun _ w hg _ => interval_Sign.calls t5 t13 w (ifp ht13 hg))) <|
      .cons [37] (ok_valg (fun ν12 => .bool (t13 == 0)) (fun ν12 => ((((t7 == 0) && (t8 == 4294967296)) && (t9 == 2147483648)) == true)) [false, true] 37) <|
      .cons [38] (ok_and 34 37 (fun ν12 => true) (fun ν12 => true) (fun ν12 => (((t7 == 0) && (t8 == 4294967296)) && (t9 == 2147483648))) (fun ν12 => (t13 == 0)) 38) <|
      .cons [39] (ok_val (fun ν12 => .bool ((((t7 == 0) && (t8 == 4294967296)) && (t9 == 2147483648)) && (t13 == 0))) 39) <|
      .cons [40] (ok_ldg (fun ν12 => .agg #[.int .i64 t5.Lo, .int .i64 t5.Hi]) (fun ν12 => (((((t7 == 0) && (t8 == 4294967296)) && (t9 == 2147483648)) && (t13 == 0)) == true)) [true] 40 142 0 2 (fun ν12 => ((ν4 2).n 0)) (fun ν12 => [.int .i64 t5.Lo, .int .i64 t5.Hi]) 23) <|
      .cons [41] (ok_call 38 (fun ν12 => #[.agg #[.int .i64 t5.Lo, .int .i64 t5.Hi]]) (.bool t14) (fun ν12 => (((((t7 == 0) && (t8 == 4294967296)) && (t9 == 2147483648)) && (t13 == 0)) == true)) [true, false] 41 [] (fun _ w hg _ => interval_IsEntire.calls t5 t14 w (ifp ht14 hg))) <|
      .cons [42] (ok_and 39 41 (fun ν12 => true) (fun ν12 => true) (fun ν12 => ((((t7 == 0) && (t8 == 4294967296)) && (t9 == 2147483648)) && (t13 == 0))) (fun ν12 => t14) 42) <|
      .cons [43] (ok_val (fun ν12 => .bool (((((t7 == 0) && (t8 == 4294967296)) && (t9 == 2147483648)) && (t13 == 0)) && t14)) 43) <|
      .cons [44] (ok_valg (fun ν12 => .bool t3) (fun ν12 => ((((((t7 == 0) && (t8 == 4294967296)) && (t9 == 2147483648)) && (t13 == 0)) && t14) == true)) [true] 44) <|
      .cons [45] (ok_and 43 44 (fun ν12 => true) (fun ν12 => true) (fun ν12 => (((((t7 == 0) && (t8 == 4294967296)) && (t9 == 2147483648)) && (t13 == 0)) && t14)) (fun ν12 => t3) 45) <|
      .cons [4] (ok_val (fun ν12 => .bool ((((((t7 == 0) && (t8 == 4294967296)) && (t9 == 2147483648)) && (t13 == 0)) && t14) && t3)) 4) <| .nil) (by kernel_rfl) fun ν12 a w' H => ?_
    replace H := H.toL [(1, .slot true (.int .u32 a1)), (4, .slot true (.bool ((((((t7 == 0) && (t8 == 4294967296)) && (t9 == 2147483648)) && (t13 == 0)) && t14) && t3))), (5, .slot true (.bool t3)), (6, .slot true (.pointer (some ⟨((ν4 2).n 0), 0, none⟩))), (7, .slot true (.int .i64 t7)), (8, .slot true (.int .i64 t8)), (9, .slot true (.int .i64 t9)), (142, .blk ((ν4 2).n 0) [.int .i64 t5.Lo, .int .i64 t5.Hi] 23), (999999, gk)] (by kernel_rfl)
    refine k_ret ?_
    obtain rfl := Option.some.inj G
    exact k_done0 H _ (by kernel_rfl) (by kernel_rfl)
  · rw [if_neg (nt c29)] at G
    refine k_skip ?_
    refine k_seq ?_
    replace G := bnd G; obtain ⟨t16, ht16, G⟩ := G
    refine k_reg mixed H (.cons [46] (ok_ld (fun ν15 => .agg #[.int .i64 t5.Lo, .int .i64 t5.Hi]) 46 142 0 2 (fun ν15 => ((ν4 2).n 0)) (fun ν15 => [.int .i64 t5.Lo, .int .i64 t5.Hi]) 23) <|
      .cons [47] (ok_val (fun ν15 => .int .u32 a1) 47) <|
      .cons [48] (ok_callv 17 (fun ν15 => #[.agg #[.int .i64 t5.Lo, .int .i64 t5.Hi], .int .u32 a1]) (.int .i64 t16) 48 [] (fun _ w _ => armillaryref02_Pick.calls t5 a1 t16 w ht16)) <|
      .cons [10] (ok_val (fun ν15 => .int .i64 t16) 10) <| .nil) (by kernel_rfl) fun ν15 a w' H => ?_
    replace H := H.toL [(4, .slot true (.bool false)), (5, .slot true (.bool t3)), (6, .slot true (.pointer (some ⟨((ν4 2).n 0), 0, none⟩))), (7, .slot true (.int .i64 t7)), (8, .slot true (.int .i64 t8)), (9, .slot true (.int .i64 t9)), (10, .slot true (.int .i64 t16)), (142, .blk ((ν4 2).n 0) [.int .i64 t5.Lo, .int .i64 t5.Hi] 23), (999999, gk)] (by kernel_rfl)
    refine k_seq ?_
    refine k_reg mixed H (.cons [49] (ok_val (fun ν17 => .int .i64 t7) 49) <|
      .cons [50] (ok_val (fun ν17 => .pointer (some ⟨((ν4 2).n 0), 0, none⟩)) 50) <|
      .cons [51] (ok_ld (fun ν17 => .int .i64 t5.Lo) 51 142 0 1 (fun ν17 => ((ν4 2).n 0)) (fun ν17 => [.int .i64 t5.Lo, .int .i64 t5.Hi]) 23) <|
      .cons [52] (ok_val (fun ν17 => .int .i64 (w_i64 (t7 - t5.Lo))) 52) <|
      .cons [53] (ok_val (fun ν17 => .pointer (some ⟨((ν4 2).n 0), 1, none⟩)) 53) <|
      .cons [54] (ok_ld (fun ν17 => .int .i64 t5.Hi) 54 142 1 1 (fun ν17 => ((ν4 2).n 0)) (fun ν17 => [.int .i64 t5.Lo, .int .i64 t5.Hi]) 23) <|
      .cons [55] (ok_val (fun ν17 => .int .i64 t7) 55) <|
      .cons [56] (ok_val (fun ν17 => .int .i64 (w_i64 (t5.Hi - t7))) 56) <|
      .cons [57] (ok_val (fun ν17 => .int .i64 (w_i64 ((w_i64 (t7 - t5.Lo)) - (w_i64 (t5.Hi - t7))))) 57) <|
      .cons [11] (ok_val (fun ν17 => .int .i64 (w_i64 ((w_i64 (t7 - t5.Lo)) - (w_i64 (t5.Hi - t7))))) 11) <| .nil) (by kernel_rfl) fun ν17 a w' H => ?_
    replace H := H.toL [(4, .slot true (.bool false)), (5, .slot true (.bool t3)), (6, .slot true (.pointer (some ⟨((ν4 2).n 0), 0, none⟩))), (7, .slot true (.int .i64 t7)), (8, .slot true (.int .i64 t8)), (9, .slot true (.int .i64 t9)), (10, .slot true (.int .i64 t16)), (11, .slot true (.int .i64 (w_i64 ((w_i64 (t7 - t5.Lo)) - (w_i64 (t5.Hi - t7)))))), (142, .blk ((ν4 2).n 0) [.int .i64 t5.Lo, .int .i64 t5.Hi] 23), (999999, gk)] (by kernel_rfl)
    refine k_seq ?_
    refine k_seq ?_
    replace G := bnd G; obtain ⟨t19, ht19, G⟩ := G
    replace G := bnd G; obtain ⟨z20, hz20, G⟩ := G
    replace hz20 := Option.some.inj hz20
    replace G := bnd G; obtain ⟨z21, hz21, G⟩ := G
    replace hz21 := Option.some.inj hz21
    refine k_reg mixed H (.cons [58] (ok_ld (fun ν18 => .agg #[.int .i64 t5.Lo, .int .i64 t5.Hi]) 58 142 0 2 (fun ν18 => ((ν4 2).n 0)) (fun ν18 => [.int .i64 t5.Lo, .int .i64 t5.Hi]) 23) <|
      .cons [59] (ok_val (fun ν18 => .int .i64 t7) 59) <|
      .cons [60] (ok_callv 33 (fun ν18 => #[.agg #[.int .i64 t5.Lo, .int .i64 t5.Hi], .int .i64 t7]) (.bool t19) 60 [] (fun _ w _ => interval_Contains.calls t5 t7 t19 w ht19)) <|
      .cons [61] (ok_val (fun ν18 => .bool (!t19)) 61) <|
      .cons [62] (ok_val (fun ν18 => .bool (!t19)) 62) <|
      .cons [63] (ok_valg (fun ν18 => .int .i64 (w_i64 ((w_i64 (t7 - t5.Lo)) - (w_i64 (t5.Hi - t7))))) (fun ν18 => ((!t19) == false)) [true] 63) <|
      .cons [64] (ok_valg (fun ν18 => .bool (decide ((w_i64 ((w_i64 (t7 - t5.Lo)) - (w_i64 (t5.Hi - t7)))) > 0))) (fun ν18 => ((!t19) == false)) [false, true] 64) <|
      .cons [65] (ok_or 62 64 (fun ν18 => true) (fun ν18 => true) (fun ν18 => (!t19)) (fun ν18 => decide ((w_i64 ((w_i64 (t7 - t5.Lo)) - (w_i64 (t5.Hi - t7)))) > 0)) 65) <|
      .cons [66] (ok_val (fun ν18 => .bool ((!t19) || (decide ((w_i64 ((w_i64 (t7 - t5.Lo)) - (w_i64 (t5.Hi - t7)))) > 0)))) 66) <|
      .cons [67] (ok_valg (fun ν18 => .int .i64 (w_i64 ((w_i64 (t7 - t5.Lo)) - (w_i64 (t5.Hi - t7))))) (fun ν18 => (((!t19) || (decide ((w_i64 ((w_i64 (t7 - t5.Lo)) - (w_i64 (t5.Hi - t7)))) > 0))) == false)) [true] 67) <|
      .cons [68] (ok_valg (fun ν18 => .bool (decide ((w_i64 ((w_i64 (t7 - t5.Lo)) - (w_i64 (t5.Hi - t7)))) < (-1)))) (fun ν18 => (((!t19) || (decide ((w_i64 ((w_i64 (t7 - t5.Lo)) - (w_i64 (t5.Hi - t7)))) > 0))) == false)) [false, true] 68) <|
      .cons [69] (ok_or 66 68 (fun ν18 => true) (fun ν18 => true) (fun ν18 => ((!t19) || (decide ((w_i64 ((w_i64 (t7 - t5.Lo)) - (w_i64 (t5.Hi - t7)))) > 0)))) (fun ν18 => decide ((w_i64 ((w_i64 (t7 - t5.Lo)) - (w_i64 (t5.Hi - t7)))) < (-1))) 69) <|
      .cons [70] (ok_as (u' := fun ν18 => [(70, .slot true (.bool z20))]) (ok_val (fun ν18 => .bool (((!t19) || (decide ((w_i64 ((w_i64 (t7 - t5.Lo)) - (w_i64 (t5.Hi - t7)))) > 0))) || (decide ((w_i64 ((w_i64 (t7 - t5.Lo)) - (w_i64 (t5.Hi - t7)))) < (-1))))) 70) (fun _ => by rw [← hz20])) <|
      .cons [71] (ok_valg (fun ν18 => .int .i64 t8) (fun ν18 => (z20 == false)) [true] 71) <|
      .cons [72] (ok_valg (fun ν18 => .pointer (some ⟨((ν4 2).n 0), 1, none⟩)) (fun ν18 => (z20 == false)) [true] 72) <|
      .cons [73] (ok_ldg (fun ν18 => .int .i64 t5.Hi) (fun ν18 => (z20 == false)) [false] 73 142 1 1 (fun ν18 => ((ν4 2).n 0)) (fun ν18 => [.int .i64 t5.Lo, .int .i64 t5.Hi]) 23) <|
      .cons [74] (ok_valg (fun ν18 => .pointer (some ⟨((ν4 2).n 0), 0, none⟩)) (fun ν18 => (z20 == false)) [true] 74) <|
      .cons [75] (ok_ldg (fun ν18 => .int .i64 t5.Lo) (fun ν18 => (z20 == false)) [false] 75 142 0 1 (fun ν18 => ((ν4 2).n 0)) (fun ν18 => [.int .i64 t5.Lo, .int .i64 t5.Hi]) 23) <|
      .cons [76] (ok_valg (fun ν18 => .int .i64 (w_i64 (t5.Hi - t5.Lo))) (fun ν18 => (z20 == false)) [false, false] 76) <|
      .cons [77] (ok_valg (fun ν18 => .bool (t8 != (w_i64 (t5.Hi - t5.Lo)))) (fun ν18 => (z20 == false)) [false, false] 77) <|
      .cons [78] (ok_or 70 77 (fun ν18 => true) (fun ν18 => true) (fun ν18 => z20) (fun ν18 => (t8 != (w_i64 (t5.Hi - t5.Lo)))) 78) <|
      .cons [79] (ok_val (fun ν18 => .bool (z20 || (t8 != (w_i64 (t5.Hi - t5.Lo))))) 79) <|
      .cons [80] (ok_valg (fun ν18 => .int .i64 t16) (fun ν18 => ((z20 || (t8 != (w_i64 (t5.Hi - t5.Lo)))) == false)) [true] 80) <|
      .cons [81] (ok_valg (fun ν18 => .int .i64 t9) (fun ν18 => ((z20 || (t8 != (w_i64 (t5.Hi - t5.Lo)))) == false)) [true] 81) <|
      .cons [82] (ok_valg (fun ν18 => .bool (decide (t16 > t9))) (fun ν18 => ((z20 || (t8 != (w_i64 (t5.Hi - t5.Lo)))) == false)) [false, false] 82) <|
      .cons [83] (ok_or 79 82 (fun ν18 => true) (fun ν18 => true) (fun ν18 => (z20 || (t8 != (w_i64 (t5.Hi - t5.Lo))))) (fun ν18 => decide (t16 > t9)) 83) <|
      .cons [84] (ok_val (fun ν18 => .bool ((z20 || (t8 != (w_i64 (t5.Hi - t5.Lo)))) || (decide (t16 > t9)))) 84) <|
      .cons [85] (ok_valg (fun ν18 => .int .i64 t16) (fun ν18 => (((z20 || (t8 != (w_i64 (t5.Hi - t5.Lo)))) || (decide (t16 > t9))) == false)) [true] 85) <|
      .cons [86] (ok_valg (fun ν18 => .int .i64 (w_i64 (0 - t16))) (fun ν18 => (((z20 || (t8 != (w_i64 (t5.Hi - t5.Lo)))) || (decide (t16 > t9))) == false)) [false] 86) <|
      .cons [87] (ok_valg (fun ν18 => .int .i64 t9) (fun ν18 => (((z20 || (t8 != (w_i64 (t5.Hi - t5.Lo)))) || (decide (t16 > t9))) == false)) [true] 87) <|
      .cons [88] (ok_valg (fun ν18 => .bool (decide ((w_i64 (0 - t16)) > t9))) (fun ν18 => (((z20 || (t8 != (w_i64 (t5.Hi - t5.Lo)))) || (decide (t16 > t9))) == false)) [false, false] 88) <|
      .cons [89] (ok_or 84 88 (fun ν18 => true) (fun ν18 => true) (fun ν18 => ((z20 || (t8 != (w_i64 (t5.Hi - t5.Lo)))) || (decide (t16 > t9)))) (fun ν18 => decide ((w_i64 (0 - t16)) > t9)) 89) <|
      .cons [90] (ok_as (u' := fun ν18 => [(90, .slot true (.bool z21))]) (ok_val (fun ν18 => .bool (((z20 || (t8 != (w_i64 (t5.Hi - t5.Lo)))) || (decide (t16 > t9))) || (decide ((w_i64 (0 - t16)) > t9)))) 90) (fun _ => by rw [← hz21])) <|
      .cons [91] (ok_valg (fun ν18 => .int .i64 t9) (fun ν18 => (z21 == false)) [true] 91) <|
      .cons [92] (ok_valg (fun ν18 => .pointer (some ⟨((ν4 2).n 0), 1, none⟩)) (fun ν18 => (z21 == false)) [true] 92) <|
      .cons [93] (ok_ldg (fun ν18 => .int .i64 t5.Hi) (fun ν18 => (z21 == false)) [false] 93 142 1 1 (fun ν18 => ((ν4 2).n 0)) (fun ν18 => [.int .i64 t5.Lo, .int .i64 t5.Hi]) 23) <|
      .cons [94] (ok_valg (fun ν18 => .bool (t9 != t5.Hi)) (fun ν18 => (z21 == false)) [false, false] 94) <|
      .cons [95] (ok_valg (fun ν18 => .bool (t9 != t5.Hi)) (fun ν18 => (z21 == false)) [false] 95) <|
      .cons [96] (ok_valg (fun ν18 => .int .i64 t9) (fun ν18 => ((z21 == false) && ((t9 != t5.Hi) == true))) [true] 96) <|
      .cons [97] (ok_valg (fun ν18 => .pointer (some ⟨((ν4 2).n 0), 0, none⟩)) (fun ν18 => ((z21 == false) && ((t9 != t5.Hi) == true))) [true] 97) <|
      .cons [98] (ok_ldg (fun ν18 => .int .i64 t5.Lo) (fun ν18 => ((z21 == false) && ((t9 != t5.Hi) == true))) [false] 98 142 0 1 (fun ν18 => ((ν4 2).n 0)) (fun ν18 => [.int .i64 t5.Lo, .int .i64 t5.Hi]) 23) <|
      .cons [99] (ok_valg (fun ν18 => .int .i64 (w_i64 (0 - t5.Lo))) (fun ν18 => ((z21 == false) && ((t9 != t5.Hi) == true))) [false] 99) <|
      .cons [100] (ok_valg (fun ν18 => .bool (t9 != (w_i64 (0 - t5.Lo)))) (fun ν18 => ((z21 == false) && ((t9 != t5.Hi) == true))) [false, false] 100) <|
      .cons [101] (ok_and 95 100 (fun ν18 => (z21 == false)) (fun ν18 => (z21 == false)) (fun ν18 => (t9 != t5.Hi)) (fun ν18 => (t9 != (w_i64 (0 - t5.Lo)))) 101) <|
      .cons [102] (ok_or 90 101 (fun ν18 => true) (fun ν18 => true) (fun ν18 => z21) (fun ν18 => ((t9 != t5.Hi) && (t9 != (w_i64 (0 - t5.Lo))))) 102) <| .nil) (by kernel_rfl) fun ν18 a w' H => ?_
    replace H := H.toL [(4, .slot true (.bool false)), (5, .slot true (.bool t3)), (6, .slot true (.pointer (some ⟨((ν4 2).n 0), 0, none⟩))), (10, .slot true (.int .i64 t16)), (102, .slot true (.bool (z21 || ((t9 != t5.Hi) && (t9 != (w_i64 (0 - t5.Lo))))))), (142, .blk ((ν4 2).n 0) [.int .i64 t5.Lo, .int .i64 t5.Hi] 23), (999999, gk)] (by kernel_rfl)
    refine k_cond H (by kernel_rfl) (t := (z21 || ((t9 != t5.Hi) && (t9 != (w_i64 (0 - t5.Lo)))))) (by kernel_rfl) (fun c28 => ?_) (fun c28 => ?_)
    · rw [if_pos c28] at G
      refine k_seq ?_
      refine k_reg mixed H (.cons [4] (ok_val (fun ν22 => .bool false) 4) <| .nil) (by kernel_rfl) fun ν22 a w' H => ?_
      replace H := H.toL [(4, .slot true (.bool false)), (5, .slot true (.bool t3)), (6, .slot true (.pointer (some ⟨((ν4 2).n 0), 0, none⟩))), (10, .slot true (.int .i64 t16)), (142, .blk ((ν4 2).n 0) [.int .i64 t5.Lo, .int .i64 t5.Hi] 23), (999999, gk)] (by kernel_rfl)
      refine k_ret ?_
      obtain rfl := Option.some.inj G
      exact k_done0 H _ (by kernel_rfl) (by kernel_rfl)
    · rw [if_neg (nt c28)] at G
      refine k_skip ?_
      refine k_seq ?_
      replace G := bnd G; obtain ⟨t24, ht24, G⟩ := G
      refine k_reg mixed H (.cons [103] (ok_ld (fun ν23 => .agg #[.int .i64 t5.Lo, .int .i64 t5.Hi]) 103 142 0 2 (fun ν23 => ((ν4 2).n 0)) (fun ν23 => [.int .i64 t5.Lo, .int .i64 t5.Hi]) 23) <|
      .cons [104] (ok_callv 37 (fun ν23 => #[.agg #[.int .i64 t5.Lo, .int .i64 t5.Hi]]) (.int .i64 t24) 104 [] (fun _ w _ => interval_Sign.calls t5 t24 w ht24)) <|
      .cons [12] (ok_val (fun ν23 => .int .i64 t24) 12) <| .nil) (by kernel_rfl) fun ν23 a w' H => ?_
      replace H := H.toL [(4, .slot true (.bool false)), (5, .slot true (.bool t3)), (6, .slot true (.pointer (some ⟨((ν4 2).n 0), 0, none⟩))), (10, .slot true (.int .i64 t16)), (12, .slot true (.int .i64 t24)), (142, .blk ((ν4 2).n 0) [.int .i64 t5.Lo, .int .i64 t5.Hi] 23), (999999, gk)] (by kernel_rfl)
      refine k_seq ?_
      replace G := bnd G; obtain ⟨z26, hz26, G⟩ := G
      replace hz26 := Option.some.inj hz26
      replace G := bnd G; obtain ⟨t27, ht27, G⟩ := G
      refine k_reg mixed H (.cons [105] (ok_val (fun ν25 => .int .i64 t24) 105) <|
      .cons [106] (ok_val (fun ν25 => .bool (t24 != 1)) 106) <|
      .cons [107] (ok_val (fun ν25 => .bool (t24 != 1)) 107) <|
      .cons [108] (ok_valg (fun ν25 => .int .i64 t16) (fun ν25 => ((t24 != 1) == false)) [true] 108) <|
      .cons [109] (ok_valg (fun ν25 => .bool (decide (t16 > 0))) (fun ν25 => ((t24 != 1) == false)) [false, true] 109) <|
      .cons [110] (ok_or 107 109 (fun ν25 => true) (fun ν25 => true) (fun ν25 => (t24 != 1)) (fun ν25 => decide (t16 > 0)) 110) <|
      .cons [111] (ok_val (fun ν25 => .bool ((t24 != 1) || (decide (t16 > 0)))) 111) <|
      .cons [112] (ok_valg (fun ν25 => .int .i64 t24) (fun ν25 => (((t24 != 1) || (decide (t16 > 0))) == true)) [true] 112) <|
      .cons [113] (ok_valg (fun ν25 => .bool (t24 != (-1))) (fun ν25 => (((t24 != 1) || (decide (t16 > 0))) == true)) [false, true] 113) <|
      .cons [114] (ok_valg (fun ν25 => .bool (t24 != (-1))) (fun ν25 => (((t24 != 1) || (decide (t16 > 0))) == true)) [false] 114) <|
      .cons [115] (ok_valg (fun ν25 => .int .i64 t16) (fun ν25 => ((((t24 != 1) || (decide (t16 > 0))) == true) && ((t24 != (-1)) == false))) [true] 115) <|
      .cons [116] (ok_valg (fun ν25 => .bool (decide (t16 < 0))) (fun ν25 => ((((t24 != 1) || (decide (t16 > 0))) == true) && ((t24 != (-1)) == false))) [false, true] 116) <|
      .cons [117] (ok_or 114 116 (fun ν25 => (((t24 != 1) || (decide (t16 > 0))) == true)) (fun ν25 => (((t24 != 1) || (decide (t16 > 0))) == true)) (fun ν25 => (t24 != (-1))) (fun ν25 => decide (t16 < 0)) 117) <|
      .cons [118] (ok_and 111 117 (fun ν25 => true) (fun ν25 => true) (fun ν25 => ((t24 != 1) || (decide (t16 > 0)))) (fun ν25 => ((t24 != (-1)) || (decide (t16 < 0)))) 118) <|
      .cons [119] (ok_val (fun ν25 => .bool (((t24 != 1) || (decide (t16 > 0))) && ((t24 != (-1)) || (decide (t16 < 0))))) 119) <|
      .cons [120] (ok_valg (fun ν25 => .int .i64 t24) (fun ν25 => ((((t24 != 1) || (decide (t16 > 0))) && ((t24 != (-1)) || (decide (t16 < 0)))) == true)) [true] 120) <|
      .cons [121] (ok_valg (fun ν25 => .bool (t24 != 0)) (fun ν25 => ((((t24 != 1) || (decide (t16 > 0))) && ((t24 != (-1)) || (decide (t16 < 0)))) == true)) [false, true] 121) <|
      .cons [122] (ok_valg (fun ν25 => .bool (t24 != 0)) (fun ν25 => ((((t24 != 1) || (decide (t16 > 0))) && ((t24 != (-1)) || (decide (t16 < 0)))) == true)) [false] 122) <|
      .cons [123] (ok_valg (fun ν25 => .pointer (some ⟨((ν4 2).n 0), 0, none⟩)) (fun ν25 => (((((t24 != 1) || (decide (t16 > 0))) && ((t24 != (-1)) || (decide (t16 < 0)))) == true) && ((t24 != 0) == false))) [true] 123) <|
      .cons [124] (ok_ldg (fun ν25 => .int .i64 t5.Lo) (fun ν25 => (((((t24 != 1) || (decide (t16 > 0))) && ((t24 != (-1)) || (decide (t16 < 0)))) == true) && ((t24 != 0) == false))) [false] 124 142 0 1 (fun ν25 => ((ν4 2).n 0)) (fun ν25 => [.int .i64 t5.Lo, .int .i64 t5.Hi]) 23) <|
      .cons [125] (ok_valg (fun ν25 => .bool (decide (t5.Lo ≤ 0))) (fun ν25 => (((((t24 != 1) || (decide (t16 > 0))) && ((t24 != (-1)) || (decide (t16 < 0)))) == true) && ((t24 != 0) == false))) [false, true] 125) <|
      .cons [126] (ok_valg (fun ν25 => .bool (decide (t5.Lo ≤ 0))) (fun ν25 => (((((t24 != 1) || (decide (t16 > 0))) && ((t24 != (-1)) || (decide (t16 < 0)))) == true) && ((t24 != 0) == false))) [false] 126) <|
      .cons [127] (ok_valg (fun ν25 => .pointer (some ⟨((ν4 2).n 0), 1, none⟩)) (fun ν25 => ((((((t24 != 1) || (decide (t16 > 0))) && ((t24 != (-1)) || (decide (t16 < 0)))) == true) && ((t24 != 0) == false)) && ((decide (t5.Lo ≤ 0)) == true))) [true] 127) <|
      .cons [128] (ok_ldg (fun ν25 => .int .i64 t5.Hi) (fun ν25 => ((((((t24 != 1) || (decide (t16 > 0))) && ((t24 != (-1)) || (decide (t16 < 0)))) == true) && ((t24 != 0) == false)) && ((decide (t5.Lo ≤ 0)) == true))) [false] 128 142 1 1 (fun ν25 => ((ν4 2).n 0)) (fun ν25 => [.int .i64 t5.Lo, .int .i64 t5.Hi]) 23) <|
      .cons [129] (ok_valg (fun ν25 => .bool (decide (t5.Hi ≥ 0))) (fun ν25 => ((((((t24 != 1) || (decide (t16 > 0))) && ((t24 != (-1)) || (decide (t16 < 0)))) == true) && ((t24 != 0) == false)) && ((decide (t5.Lo ≤ 0)) == true))) [false, true] 129) <|
      .cons [130] (ok_and 126 129 (fun ν25 => (((((t24 != 1) || (decide (t16 > 0))) && ((t24 != (-1)) || (decide (t16 < 0)))) == true) && ((t24 != 0) == false))) (fun ν25 => (((((t24 != 1) || (decide (t16 > 0))) && ((t24 != (-1)) || (decide (t16 < 0)))) == true) && ((t24 != 0) == false))) (fun ν25 => decide (t5.Lo ≤ 0)) (fun ν25 => decide (t5.Hi ≥ 0)) 130) <|
      .cons [131] (ok_or 122 130 (fun ν25 => ((((t24 != 1) || (decide (t16 > 0))) && ((t24 != (-1)) || (decide (t16 < 0)))) == true)) (fun ν25 => ((((t24 != 1) || (decide (t16 > 0))) && ((t24 != (-1)) || (decide (t16 < 0)))) == true)) (fun ν25 => (t24 != 0)) (fun ν25 => ((decide (t5.Lo ≤ 0)) && (decide (t5.Hi ≥ 0)))) 131) <|
      .cons [132] (ok_and 119 131 (fun ν25 => true) (fun ν25 => true) (fun ν25 => (((t24 != 1) || (decide (t16 > 0))) && ((t24 != (-1)) || (decide (t16 < 0))))) (fun ν25 => ((t24 != 0) || ((decide (t5.Lo ≤ 0)) && (decide (t5.Hi ≥ 0))))) 132) <|
      .cons [133] (ok_as (u' := fun ν25 => [(133, .slot true (.bool z26))]) (ok_val (fun ν25 => .bool ((((t24 != 1) || (decide (t16 > 0))) && ((t24 != (-1)) || (decide (t16 < 0)))) && ((t24 != 0) || ((decide (t5.Lo ≤ 0)) && (decide (t5.Hi ≥ 0)))))) 133) (fun _ => by rw [← hz26])) <|
      .cons [134] (ok_ldg (fun ν25 => .agg #[.int .i64 t5.Lo, .int .i64 t5.Hi]) (fun ν25 => (z26 == true)) [true] 134 142 0 2 (fun ν25 => ((ν4 2).n 0)) (fun ν25 => [.int .i64 t5.Lo, .int .i64 t5.Hi]) 23) <|
      .cons [135] (ok_call 38 (fun ν25 => #[.agg #[.int .i64 t5.Lo, .int .i64 t5.Hi]]) (.bool t27) (fun ν25 => (z26 == true)) [true, false] 135 [] (fun _ w hg _ => interval_IsEntire.calls t5 t27 w (ifp ht27 hg))) <|
      .cons [136] (ok_valg (fun ν25 => .bool (!t27)) (fun ν25 => (z26 == true)) [false] 136) <|
      .cons [137] (ok_and 133 136 (fun ν25 => true) (fun ν25 => true) (fun ν25 => z26) (fun ν25 => (!t27)) 137) <|
      .cons [138] (ok_val (fun ν25 => .bool (z26 && (!t27))) 138) <|
      .cons [139] (ok_valg (fun ν25 => .bool t3) (fun ν25 => ((z26 && (!t27)) == true)) [true] 139) <|
      .cons [140] (ok_and 138 139 (fun ν25 => true) (fun ν25 => true) (fun ν25 => (z26 && (!t27))) (fun ν25 => t3) 140) <|
      .cons [4] (ok_val (fun ν25 => .bool ((z26 && (!t27)) && t3)) 4) <| .nil) (by kernel_rfl) fun ν25 a w' H => ?_
      replace H := H.toL [(4, .slot true (.bool ((z26 && (!t27)) && t3))), (999999, gk)] (by kernel_rfl)
      refine k_ret ?_
      obtain rfl := Option.some.inj G
      exact k_done0 H _ (by kernel_rfl) (by kernel_rfl)

end Go.Proofs.YtmjnbhigomjjnaaDoor
