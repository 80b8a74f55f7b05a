/- The law TopConflictsAreReal answers as the plain Lean function of its name. Printed by a program of this session. -/
import Derived.Test.YtpmgpcklieincaaGreatDoorFn4
set_option linter.unusedVariables false
set_option linter.unusedSimpArgs false
set_option maxRecDepth 100000
set_option maxHeartbeats 4000000
namespace Go.Proofs.YtpmgpcklieincaaGreatDoor
open Go Go.RowKit Go.Sx Go.Proofs
theorem armillarytop_TopConflictsAreReal.calls (k0 : Nat) (a0 : TBody) (a1 : TBody) (a2 : Int) (r : Bool) (w : World) (hg : Glob w) (G : armillarytop_TopConflictsAreReal k0 a0 a1 a2 = some r) :
  Calls Tryz.prog 8 #[.agg #[.int .i32 a0.X, .int .i16 a0.V], .agg #[.int .i32 a1.X, .int .i16 a1.V], .int .u32 a2] w fun e w' => e = .returned (.bool r) ∧ Below w.heap.size w w' := by
 obtain ⟨fr, hfr⟩ : ∃ fr : Nat → Prop, ∀ j, fr j := ⟨fun _ => True, fun _ => trivial⟩
 have hBf : ∀ j, w.heap.size ≤ j → fr j := fun j _ => hfr j
 refine k_enterG (args := [.agg #[.int .i32 a0.X, .int .i16 a0.V], .agg #[.int .i32 a1.X, .int .i16 a1.V], .int .u32 a2]) 98 999999 globFp Glob (glob_local hg) (glob_in hg) Tryz.func8 rfl (by kernel_rfl) (by kernel_rfl) fun a H => ?_
 unfold armillarytop_TopConflictsAreReal at G
 refine k_seq ?_
 refine k_rg mixed H (.cons [3, 98] (ok_new (fun b => vP b 0) (fun u1 => [.int .i32 a0.X, .int .i16 a0.V]) 75 3 98) <|
   .cons [4, 99] (ok_new (fun b => vP b 0) (fun u1 => [.int .i32 a1.X, .int .i16 a1.V]) 75 4 99) <|
   .v 6 (.bool false) <| .nil) fun u1 a w' H => ?_
 replace H := H.kp [2, 3, 4, 98, 99, 999999]
 refine k_seq ?_
 replace G := bnd G; obtain ⟨t3, ht3, G⟩ := G
 refine k_rg mixed H (.cons [16] (ok_callL [999999] (fun u2 => [gk]) 22 (fun u2 => #[]) (.bool t3) 16 (fun u2 w hF => armillarytop_sanity24.calls k0  t3 w  (glob_of hF.1) ht3)) <|
   .v 7 (.bool t3) <| .nil) fun u2 a w' H => ?_
 replace H := H.kp [2, 3, 4, 7, 98, 99, 999999]
 refine k_seq ?_
 replace G := bnd G; obtain ⟨t5, ht5, G⟩ := G
 refine k_rg mixed H (.cons [18] (ok_ld (fun u4 => .agg #[.int .i32 a0.X, .int .i16 a0.V]) 18 98 0 2 (fun u4 => ((u1 0).n 0)) (fun u4 => [.int .i32 a0.X, .int .i16 a0.V]) 75) <|
   .cons [19, 100, 101] (ok_callY true fr [] [999999] (fun u4 => [gk]) [] (fun u4 => []) 23 (fun u4 => #[vI 1, .agg #[.int .i32 a0.X, .int .i16 a0.V]]) (fun u4 => [gk]) (fun u4 => []) (fun u4 g => .tuple #[.agg #[vI t5.1.Id, .slice (g.o 0) ((g.dl er_TSegment gd_TSegment 0 t5.1.Segs).length) (g.n 0)], .bool t5.2]) (fun u4 g => [fun _ => owK 63 6 (g.o 0) ((g.dl er_TSegment gd_TSegment 0 t5.1.Segs).length) (g.n 0) ((g.dl er_TSegment gd_TSegment 0 t5.1.Segs).flatMap en_TSegment), fun fr => dnK fr E_TSegment.toPart (g.dl er_TSegment gd_TSegment 0 t5.1.Segs)]) [100, 101] 19 (fun u4 w hB hF hM => armillarytop_trajectory24.calls k0 1 a0  t5 w  (glob_of hB.1) ht5) (fun u4 w hF => ⟨⟨sub_k hF.1 (.head _), trivial⟩, trivial⟩) (fun u4 g => (fams_cons fam_ow (fams_cons fam_dn fams_nil))) (.inl rfl) (fun _ => hBf)) <|
   .cons [17] (ok_val (fun u4 => .tuple #[.agg #[vI t5.1.Id, .slice ((u4 1).o 0) (((u4 1).dl er_TSegment gd_TSegment 0 t5.1.Segs).length) ((u4 1).n 0)], .bool t5.2]) 17) <|
   .cons [20] (ok_val (fun u4 => .agg #[vI t5.1.Id, .slice ((u4 1).o 0) (((u4 1).dl er_TSegment gd_TSegment 0 t5.1.Segs).length) ((u4 1).n 0)]) 20) <|
   .v 21 (.bool t5.2) <|
   .cons [8, 102] (ok_new (fun b => vP b 0) (fun u4 => [vI 0, .slice none 0 0]) 78 8 102) <|
   .cons [102] (ok_as (u' := fun u4 => [(102, .blk ((u4 5).n 0) [vI t5.1.Id, .slice ((u4 1).o 0) (((u4 1).dl er_TSegment gd_TSegment 0 t5.1.Segs).length) ((u4 1).n 0)] 78)]) (ok_store 102 0 (fun u4 => ((u4 5).n 0)) (fun u4 => [vI 0, .slice none 0 0]) (fun u4 => [vI t5.1.Id, .slice ((u4 1).o 0) (((u4 1).dl er_TSegment gd_TSegment 0 t5.1.Segs).length) ((u4 1).n 0)]) 78) (fun _ => by kernel_rfl)) <|
   .v 9 (.bool t5.2) <| .nil) fun u4 a w' H => ?_
 replace H := H.kp [2, 3, 4, 7, 8, 9, 98, 99, 100, 101, 102, 999999]
 refine k_seq ?_
 replace G := bnd G; obtain ⟨t7, ht7, G⟩ := G
 refine k_rg mixed H (.cons [23] (ok_ld (fun u6 => .agg #[.int .i32 a1.X, .int .i16 a1.V]) 23 99 0 2 (fun u6 => ((u1 1).n 0)) (fun u6 => [.int .i32 a1.X, .int .i16 a1.V]) 75) <|
   .cons [24, 103, 104] (ok_callY true fr [] [999999] (fun u6 => [gk]) [] (fun u6 => []) 23 (fun u6 => #[vI 2, .agg #[.int .i32 a1.X, .int .i16 a1.V]]) (fun u6 => [gk]) (fun u6 => []) (fun u6 g => .tuple #[.agg #[vI t7.1.Id, .slice (g.o 0) ((g.dl er_TSegment gd_TSegment 0 t7.1.Segs).length) (g.n 0)], .bool t7.2]) (fun u6 g => [fun _ => owK 63 6 (g.o 0) ((g.dl er_TSegment gd_TSegment 0 t7.1.Segs).length) (g.n 0) ((g.dl er_TSegment gd_TSegment 0 t7.1.Segs).flatMap en_TSegment), fun fr => dnK fr E_TSegment.toPart (g.dl er_TSegment gd_TSegment 0 t7.1.Segs)]) [103, 104] 24 (fun u6 w hB hF hM => armillarytop_trajectory24.calls k0 2 a1  t7 w  (glob_of hB.1) ht7) (fun u6 w hF => ⟨⟨sub_k hF.1 (.head _), trivial⟩, trivial⟩) (fun u6 g => (fams_cons fam_ow (fams_cons fam_dn fams_nil))) (.inl rfl) (fun _ => hBf)) <|
   .cons [22] (ok_val (fun u6 => .tuple #[.agg #[vI t7.1.Id, .slice ((u6 1).o 0) (((u6 1).dl er_TSegment gd_TSegment 0 t7.1.Segs).length) ((u6 1).n 0)], .bool t7.2]) 22) <|
   .cons [25] (ok_val (fun u6 => .agg #[vI t7.1.Id, .slice ((u6 1).o 0) (((u6 1).dl er_TSegment gd_TSegment 0 t7.1.Segs).length) ((u6 1).n 0)]) 25) <|
   .v 26 (.bool t7.2) <|
   .cons [10, 105] (ok_new (fun b => vP b 0) (fun u6 => [vI 0, .slice none 0 0]) 78 10 105) <|
   .cons [105] (ok_as (u' := fun u6 => [(105, .blk ((u6 5).n 0) [vI t7.1.Id, .slice ((u6 1).o 0) (((u6 1).dl er_TSegment gd_TSegment 0 t7.1.Segs).length) ((u6 1).n 0)] 78)]) (ok_store 105 0 (fun u6 => ((u6 5).n 0)) (fun u6 => [vI 0, .slice none 0 0]) (fun u6 => [vI t7.1.Id, .slice ((u6 1).o 0) (((u6 1).dl er_TSegment gd_TSegment 0 t7.1.Segs).length) ((u6 1).n 0)]) 78) (fun _ => by kernel_rfl)) <|
   .v 11 (.bool t7.2) <| .nil) fun u6 a w' H => ?_
 replace H := H.kp [2, 3, 4, 7, 8, 9, 10, 11, 98, 99, 100, 101, 102, 103, 104, 105, 999999]
 refine k_seq ?_
 refine k_seq ?_
 refine k_rg mixed H (.v 27 (.bool t5.2) <|
   .v 28 (.bool (!t5.2)) <|
   .v 29 (.bool (!t5.2)) <|
   .cons [30] (ok_valg (fun u8 => .bool t7.2) (fun u8 => ((!t5.2) == false)) [true] 30) <|
   .cons [31] (ok_valg (fun u8 => .bool (!t7.2)) (fun u8 => ((!t5.2) == false)) [false] 31) <|
   .cons [32] (ok_or 29 31 (fun u8 => true) (fun u8 => true) (fun u8 => (!t5.2)) (fun u8 => (!t7.2)) 32) <| .nil) fun u8 a w' H => ?_
 replace H := H.kp [2, 3, 4, 7, 8, 10, 32, 98, 99, 100, 101, 102, 103, 104, 105, 999999]
 refine k_cond H (by kernel_rfl) (t := ((!t5.2) || (!t7.2))) (by kernel_rfl) (fun c25 => ?_) (fun c25 => ?_)
 ·rw [if_pos c25] at G
  refine k_seq ?_
  refine k_rg mixed H (.v 6 (.bool false) <| .nil) fun u9 a w' H => ?_
  replace H := H.kp [6, 999999]
  refine k_ret ?_
  obtain rfl := Option.some.inj G
  exact k_done0 H _ (by kernel_rfl) (by kernel_rfl)
 ·rw [if_neg (nt c25)] at G
  refine k_skip ?_
  refine k_seq ?_
  refine k_rg mixed H (.v 33 (.int .u32 a2) <|
   .v 34 (.int .u32 (Int.tmod a2 4194304)) <|
   .v 35 (vI (w_i64 (Int.tmod a2 4194304))) <|
   .v 12 (vI (w_i64 (Int.tmod a2 4194304))) <| .nil) fun u10 a w' H => ?_
  replace H := H.kp [3, 4, 7, 8, 10, 12, 98, 99, 100, 101, 102, 103, 104, 105, 999999]
  refine k_seq ?_
  refine k_seq ?_
  replace G := bnd G; obtain ⟨t12, ht12, G⟩ := G
  refine k_rg mixed H (.v 36 (vP ((u4 5).n 0) 1) <|
   .cons [37] (ok_ld (fun u11 => .slice ((u4 1).o 0) (((u4 1).dl er_TSegment gd_TSegment 0 t5.1.Segs).length) ((u4 1).n 0)) 37 102 1 1 (fun u11 => ((u4 5).n 0)) (fun u11 => [vI t5.1.Id, .slice ((u4 1).o 0) (((u4 1).dl er_TSegment gd_TSegment 0 t5.1.Segs).length) ((u4 1).n 0)]) 78) <|
   .v 38 (vP ((u6 5).n 0) 1) <|
   .cons [39] (ok_ld (fun u11 => .slice ((u6 1).o 0) (((u6 1).dl er_TSegment gd_TSegment 0 t7.1.Segs).length) ((u6 1).n 0)) 39 105 1 1 (fun u11 => ((u6 5).n 0)) (fun u11 => [vI t7.1.Id, .slice ((u6 1).o 0) (((u6 1).dl er_TSegment gd_TSegment 0 t7.1.Segs).length) ((u6 1).n 0)]) 78) <|
   .v 40 (vI (w_i64 (Int.tmod a2 4194304))) <|
   .v 41 (.agg #[vI 1, vI (w_i64 (Int.tmod a2 4194304))]) <|
   .cons [42] (ok_callL [100, 101, 103, 104] (fun u11 => [owK 63 6 ((u4 1).o 0) (((u4 1).dl er_TSegment gd_TSegment 0 t5.1.Segs).length) ((u4 1).n 0) (((u4 1).dl er_TSegment gd_TSegment 0 t5.1.Segs).flatMap en_TSegment), dnK fr E_TSegment.toPart ((u4 1).dl er_TSegment gd_TSegment 0 t5.1.Segs), owK 63 6 ((u6 1).o 0) (((u6 1).dl er_TSegment gd_TSegment 0 t7.1.Segs).length) ((u6 1).n 0) (((u6 1).dl er_TSegment gd_TSegment 0 t7.1.Segs).flatMap en_TSegment), dnK fr E_TSegment.toPart ((u6 1).dl er_TSegment gd_TSegment 0 t7.1.Segs)]) 26 (fun u11 => #[.slice ((u4 1).o 0) (((u4 1).dl er_TSegment gd_TSegment 0 t5.1.Segs).length) ((u4 1).n 0), .slice ((u6 1).o 0) (((u6 1).dl er_TSegment gd_TSegment 0 t7.1.Segs).length) ((u6 1).n 0), .agg #[vI 1, vI (w_i64 (Int.tmod a2 4194304))]]) (vI t12) 42 (fun u11 w hF => approach_Classify.calls k0 t5.1.Segs t7.1.Segs (⟨1, w_i64 (Int.tmod a2 4194304)⟩ : TSeparation) ((u4 1).o 0) ((u4 1).n 0) ((u4 1).dl er_TSegment gd_TSegment 0 t5.1.Segs) ((u6 1).o 0) ((u6 1).n 0) ((u6 1).dl er_TSegment gd_TSegment 0 t7.1.Segs) t12 w (dl_er ergd_TSegment (u4 1) 0 t5.1.Segs) (dl_er ergd_TSegment (u6 1) 0 t7.1.Segs) ⟨(rdA (owns_rowC (ow_of hF.1))), (dnA (dn_of hF.2.1)), (rdA (owns_rowC (ow_of hF.2.2.1))), (dnA (dn_of hF.2.2.2.1)), trivial⟩ ht12)) <|
   .v 43 (.bool (t12 != (-1))) <| .nil) fun u11 a w' H => ?_
  replace H := H.kp [3, 4, 7, 12, 43, 98, 99, 999999]
  refine k_cond H (by kernel_rfl) (t := (t12 != (-1))) (by kernel_rfl) (fun c24 => ?_) (fun c24 => ?_)
  ·rw [if_pos c24] at G
   refine k_seq ?_
   refine k_rg mixed H (.v 44 (.bool t3) <|
   .v 6 (.bool t3) <| .nil) fun u13 a w' H => ?_
   replace H := H.toM [(6, sB t3), (999999, gk)]
   refine k_ret ?_
   obtain rfl := Option.some.inj G
   exact k_done0 H _ (by kernel_rfl) (by kernel_rfl)
  ·rw [if_neg (nt c24)] at G
   refine k_skip ?_
   refine k_seq ?_
   refine k_rg mixed H (.v 45 (vP ((u1 0).n 0) 0) <|
   .cons [46] (ok_ld (fun u14 => .int .i32 a0.X) 46 98 0 1 (fun u14 => ((u1 0).n 0)) (fun u14 => [.int .i32 a0.X, .int .i16 a0.V]) 75) <|
   .v 47 (.int .i32 (Int.tmod a0.X 4194304)) <|
   .v 48 (vI (w_i64 (Int.tmod a0.X 4194304))) <|
   .v 49 (vP ((u1 1).n 0) 0) <|
   .cons [50] (ok_ld (fun u14 => .int .i32 a1.X) 50 99 0 1 (fun u14 => ((u1 1).n 0)) (fun u14 => [.int .i32 a1.X, .int .i16 a1.V]) 75) <|
   .v 51 (.int .i32 (Int.tmod a1.X 4194304)) <|
   .v 52 (vI (w_i64 (Int.tmod a1.X 4194304))) <|
   .v 53 (vI (w_i64 ((w_i64 (Int.tmod a0.X 4194304)) - (w_i64 (Int.tmod a1.X 4194304))))) <|
   .v 13 (vI (w_i64 ((w_i64 (Int.tmod a0.X 4194304)) - (w_i64 (Int.tmod a1.X 4194304))))) <| .nil) fun u14 a w' H => ?_
   replace H := H.kp [3, 4, 7, 12, 13, 98, 99, 999999]
   refine k_seq ?_
   replace G := bnd G; obtain ⟨z16, hz16, G⟩ := G
   replace hz16 := Option.some.inj hz16
   refine k_rg mixed H (.v 54 (vI (w_i64 ((w_i64 (Int.tmod a0.X 4194304)) - (w_i64 (Int.tmod a1.X 4194304))))) <|
   .v 55 (vP ((u1 0).n 0) 1) <|
   .cons [56] (ok_ld (fun u15 => .int .i16 a0.V) 56 98 1 1 (fun u15 => ((u1 0).n 0)) (fun u15 => [.int .i32 a0.X, .int .i16 a0.V]) 75) <|
   .v 57 (vI (w_i64 a0.V)) <|
   .v 58 (vP ((u1 1).n 0) 1) <|
   .cons [59] (ok_ld (fun u15 => .int .i16 a1.V) 59 99 1 1 (fun u15 => ((u1 1).n 0)) (fun u15 => [.int .i32 a1.X, .int .i16 a1.V]) 75) <|
   .v 60 (vI (w_i64 a1.V)) <|
   .v 61 (vI (w_i64 ((w_i64 a0.V) - (w_i64 a1.V)))) <|
   .v 62 (vI (w_i64 ((w_i64 ((w_i64 a0.V) - (w_i64 a1.V))) * 16))) <|
   .cons [63] (ok_as (u' := fun u15 => [(63, sI z16)]) (ok_val (fun u15 => vI (w_i64 ((w_i64 ((w_i64 (Int.tmod a0.X 4194304)) - (w_i64 (Int.tmod a1.X 4194304)))) + (w_i64 ((w_i64 ((w_i64 a0.V) - (w_i64 a1.V))) * 16))))) 63) (fun _ => by rw [← hz16])) <|
   .v 14 (vI z16) <| .nil) fun u15 a w' H => ?_
   replace H := H.kp [3, 4, 7, 12, 13, 14, 98, 99, 999999]
   refine k_seq ?_
   replace G := bnd G; obtain ⟨z18, hz18, G⟩ := G
   replace hz18 := Option.some.inj hz18
   replace G := bnd G; obtain ⟨z19, hz19, G⟩ := G
   replace hz19 := Option.some.inj hz19
   refine k_rg mixed H (.v 64 (vI (w_i64 ((w_i64 (Int.tmod a0.X 4194304)) - (w_i64 (Int.tmod a1.X 4194304))))) <|
   .v 65 (.bool (decide ((w_i64 ((w_i64 (Int.tmod a0.X 4194304)) - (w_i64 (Int.tmod a1.X 4194304)))) ≤ 0))) <|
   .v 66 (.bool (decide ((w_i64 ((w_i64 (Int.tmod a0.X 4194304)) - (w_i64 (Int.tmod a1.X 4194304)))) ≤ 0))) <|
   .cons [67] (ok_valg (fun u17 => vI z16) (fun u17 => ((decide ((w_i64 ((w_i64 (Int.tmod a0.X 4194304)) - (w_i64 (Int.tmod a1.X 4194304)))) ≤ 0)) == true)) [true] 67) <|
   .cons [68] (ok_valg (fun u17 => .bool (decide (z16 ≥ 0))) (fun u17 => ((decide ((w_i64 ((w_i64 (Int.tmod a0.X 4194304)) - (w_i64 (Int.tmod a1.X 4194304)))) ≤ 0)) == true)) [false, true] 68) <|
   .cons [69] (ok_and 66 68 (fun u17 => true) (fun u17 => true) (fun u17 => decide ((w_i64 ((w_i64 (Int.tmod a0.X 4194304)) - (w_i64 (Int.tmod a1.X 4194304)))) ≤ 0)) (fun u17 => decide (z16 ≥ 0)) 69) <|
   .cons [70] (ok_as (u' := fun u17 => [(70, sB z18)]) (ok_val (fun u17 => .bool ((decide ((w_i64 ((w_i64 (Int.tmod a0.X 4194304)) - (w_i64 (Int.tmod a1.X 4194304)))) ≤ 0)) && (decide (z16 ≥ 0)))) 70) (fun _ => by rw [← hz18])) <|
   .cons [71] (ok_valg (fun u17 => vI (w_i64 ((w_i64 (Int.tmod a0.X 4194304)) - (w_i64 (Int.tmod a1.X 4194304))))) (fun u17 => (z18 == false)) [true] 71) <|
   .cons [72] (ok_valg (fun u17 => .bool (decide ((w_i64 ((w_i64 (Int.tmod a0.X 4194304)) - (w_i64 (Int.tmod a1.X 4194304)))) ≥ 0))) (fun u17 => (z18 == false)) [false, true] 72) <|
   .cons [73] (ok_valg (fun u17 => .bool (decide ((w_i64 ((w_i64 (Int.tmod a0.X 4194304)) - (w_i64 (Int.tmod a1.X 4194304)))) ≥ 0))) (fun u17 => (z18 == false)) [false] 73) <|
   .cons [74] (ok_valg (fun u17 => vI z16) (fun u17 => ((z18 == false) && ((decide ((w_i64 ((w_i64 (Int.tmod a0.X 4194304)) - (w_i64 (Int.tmod a1.X 4194304)))) ≥ 0)) == true))) [true] 74) <|
   .cons [75] (ok_valg (fun u17 => .bool (decide (z16 ≤ 0))) (fun u17 => ((z18 == false) && ((decide ((w_i64 ((w_i64 (Int.tmod a0.X 4194304)) - (w_i64 (Int.tmod a1.X 4194304)))) ≥ 0)) == true))) [false, true] 75) <|
   .cons [76] (ok_and 73 75 (fun u17 => (z18 == false)) (fun u17 => (z18 == false)) (fun u17 => decide ((w_i64 ((w_i64 (Int.tmod a0.X 4194304)) - (w_i64 (Int.tmod a1.X 4194304)))) ≥ 0)) (fun u17 => decide (z16 ≤ 0)) 76) <|
   .cons [77] (ok_or 70 76 (fun u17 => true) (fun u17 => true) (fun u17 => z18) (fun u17 => ((decide ((w_i64 ((w_i64 (Int.tmod a0.X 4194304)) - (w_i64 (Int.tmod a1.X 4194304)))) ≥ 0)) && (decide (z16 ≤ 0)))) 77) <|
   .cons [15] (ok_as (u' := fun u17 => [(15, sB z19)]) (ok_val (fun u17 => .bool (z18 || ((decide ((w_i64 ((w_i64 (Int.tmod a0.X 4194304)) - (w_i64 (Int.tmod a1.X 4194304)))) ≥ 0)) && (decide (z16 ≤ 0))))) 15) (fun _ => by rw [← hz19])) <| .nil) fun u17 a w' H => ?_
   replace H := H.kp [3, 4, 7, 12, 15, 98, 99, 999999]
   refine k_seq ?_
   replace G := bnd G; obtain ⟨t21, ht21, G⟩ := G
   replace G := bnd G; obtain ⟨t22, ht22, G⟩ := G
   replace G := bnd G; obtain ⟨z23, hz23, G⟩ := G
   replace hz23 := Option.some.inj hz23
   refine k_rg mixed H (.v 78 (.bool t3) <|
   .v 79 (.bool t3) <|
   .cons [80] (ok_valg (fun u20 => .bool z19) (fun u20 => (t3 == true)) [true] 80) <|
   .cons [81] (ok_valg (fun u20 => .bool z19) (fun u20 => (t3 == true)) [false] 81) <|
   .cons [82] (ok_ldg (fun u20 => .agg #[.int .i32 a0.X, .int .i16 a0.V]) (fun u20 => ((t3 == true) && (z19 == false))) [true] 82 98 0 2 (fun u20 => ((u1 0).n 0)) (fun u20 => [.int .i32 a0.X, .int .i16 a0.V]) 75) <|
   .cons [83] (ok_ldg (fun u20 => .agg #[.int .i32 a1.X, .int .i16 a1.V]) (fun u20 => ((t3 == true) && (z19 == false))) [true] 83 99 0 2 (fun u20 => ((u1 1).n 0)) (fun u20 => [.int .i32 a1.X, .int .i16 a1.V]) 75) <|
   .cons [84] (ok_call 25 (fun u20 => #[.agg #[.int .i32 a0.X, .int .i16 a0.V], .agg #[.int .i32 a1.X, .int .i16 a1.V], .int .u16 0]) (vI t21) (fun u20 => ((t3 == true) && (z19 == false))) [true, false, false, true] 84 [] (fun u20 w hg _ => armillarytop_distance24.calls a0 a1 0  t21 w  (ifp ht21 hg))) <|
   .cons [85] (ok_valg (fun u20 => vI (w_i64 (Int.tmod a2 4194304))) (fun u20 => ((t3 == true) && (z19 == false))) [true] 85) <|
   .cons [86] (ok_valg (fun u20 => vI (w_i64 ((w_i64 (Int.tmod a2 4194304)) * 65535))) (fun u20 => ((t3 == true) && (z19 == false))) [false, true] 86) <|
   .cons [87] (ok_valg (fun u20 => .bool (decide (t21 < (w_i64 ((w_i64 (Int.tmod a2 4194304)) * 65535))))) (fun u20 => ((t3 == true) && (z19 == false))) [false, false] 87) <|
   .cons [88] (ok_or 81 87 (fun u20 => (t3 == true)) (fun u20 => (t3 == true)) (fun u20 => z19) (fun u20 => decide (t21 < (w_i64 ((w_i64 (Int.tmod a2 4194304)) * 65535)))) 88) <|
   .cons [89] (ok_valg (fun u20 => .bool (z19 || (decide (t21 < (w_i64 ((w_i64 (Int.tmod a2 4194304)) * 65535)))))) (fun u20 => (t3 == true)) [false] 89) <|
   .cons [90] (ok_ldg (fun u20 => .agg #[.int .i32 a0.X, .int .i16 a0.V]) (fun u20 => ((t3 == true) && ((z19 || (decide (t21 < (w_i64 ((w_i64 (Int.tmod a2 4194304)) * 65535))))) == false))) [true] 90 98 0 2 (fun u20 => ((u1 0).n 0)) (fun u20 => [.int .i32 a0.X, .int .i16 a0.V]) 75) <|
   .cons [91] (ok_ldg (fun u20 => .agg #[.int .i32 a1.X, .int .i16 a1.V]) (fun u20 => ((t3 == true) && ((z19 || (decide (t21 < (w_i64 ((w_i64 (Int.tmod a2 4194304)) * 65535))))) == false))) [true] 91 99 0 2 (fun u20 => ((u1 1).n 0)) (fun u20 => [.int .i32 a1.X, .int .i16 a1.V]) 75) <|
   .cons [92] (ok_call 25 (fun u20 => #[.agg #[.int .i32 a0.X, .int .i16 a0.V], .agg #[.int .i32 a1.X, .int .i16 a1.V], .int .u16 65535]) (vI t22) (fun u20 => ((t3 == true) && ((z19 || (decide (t21 < (w_i64 ((w_i64 (Int.tmod a2 4194304)) * 65535))))) == false))) [true, false, false, true] 92 [] (fun u20 w hg _ => armillarytop_distance24.calls a0 a1 65535  t22 w  (ifp ht22 hg))) <|
   .cons [93] (ok_valg (fun u20 => vI (w_i64 (Int.tmod a2 4194304))) (fun u20 => ((t3 == true) && ((z19 || (decide (t21 < (w_i64 ((w_i64 (Int.tmod a2 4194304)) * 65535))))) == false))) [true] 93) <|
   .cons [94] (ok_valg (fun u20 => vI (w_i64 ((w_i64 (Int.tmod a2 4194304)) * 65535))) (fun u20 => ((t3 == true) && ((z19 || (decide (t21 < (w_i64 ((w_i64 (Int.tmod a2 4194304)) * 65535))))) == false))) [false, true] 94) <|
   .cons [95] (ok_valg (fun u20 => .bool (decide (t22 < (w_i64 ((w_i64 (Int.tmod a2 4194304)) * 65535))))) (fun u20 => ((t3 == true) && ((z19 || (decide (t21 < (w_i64 ((w_i64 (Int.tmod a2 4194304)) * 65535))))) == false))) [false, false] 95) <|
   .cons [96] (ok_or 89 95 (fun u20 => (t3 == true)) (fun u20 => (t3 == true)) (fun u20 => (z19 || (decide (t21 < (w_i64 ((w_i64 (Int.tmod a2 4194304)) * 65535)))))) (fun u20 => decide (t22 < (w_i64 ((w_i64 (Int.tmod a2 4194304)) * 65535)))) 96) <|
   .cons [97] (ok_and 79 96 (fun u20 => true) (fun u20 => true) (fun u20 => t3) (fun u20 => ((z19 || (decide (t21 < (w_i64 ((w_i64 (Int.tmod a2 4194304)) * 65535))))) || (decide (t22 < (w_i64 ((w_i64 (Int.tmod a2 4194304)) * 65535)))))) 97) <|
   .cons [6] (ok_as (u' := fun u20 => [(6, sB z23)]) (ok_val (fun u20 => .bool (t3 && ((z19 || (decide (t21 < (w_i64 ((w_i64 (Int.tmod a2 4194304)) * 65535))))) || (decide (t22 < (w_i64 ((w_i64 (Int.tmod a2 4194304)) * 65535))))))) 6) (fun _ => by rw [← hz23])) <| .nil) fun u20 a w' H => ?_
   replace H := H.kp [6, 999999]
   refine k_ret ?_
   obtain rfl := Option.some.inj G
   exact k_done0 H _ (by kernel_rfl) (by kernel_rfl)
end Go.Proofs.YtpmgpcklieincaaGreatDoor
