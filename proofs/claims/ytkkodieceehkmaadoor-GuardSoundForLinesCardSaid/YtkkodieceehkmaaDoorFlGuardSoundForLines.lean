/- The law GuardSoundForLines answers as the plain Lean function of its name. Printed by a program of this session. -/
import Derived.Test.YtkkodieceehkmaaDoorFxGuardSoundForLines
set_option linter.unusedVariables false
set_option maxRecDepth 100000
namespace Go.Proofs.YtkkodieceehkmaaDoor
open Go Go.RowKit Go.Sx Go.Proofs
set_option maxHeartbeats 4000000 in
theorem armillarylaw15_GuardSoundForLines.calls (k0 : Nat) (a0 : Int) (a1 : Int) (a2 : Int) (a3 : Int) (a4 : TA2_Int) (r : Bool) (w : World) (hg : Glob w) (G : armillarylaw15_GuardSoundForLines k0 a0 a1 a2 a3 a4 = some r) :
  Calls Tryd.prog 6 #[.int .i32 a0, .int .i32 a1, .int .i32 a2, .int .i8 a3, .agg #[.int .u16 a4.e0, .int .u16 a4.e1]] w fun e w' => e = .returned (.bool r) ∧ Below w.heap.size w w' := by
 refine k_enterG (args := [.int .i32 a0, .int .i32 a1, .int .i32 a2, .int .i8 a3, .agg #[.int .u16 a4.e0, .int .u16 a4.e1]]) 121 999999 globFp Glob (glob_local hg) (glob_in hg) Tryd.func6 rfl (by kernel_rfl) (by kernel_rfl) fun a H => ?_
 unfold armillarylaw15_GuardSoundForLines at G
 refine k_seq ?_
 refine k_rg mixed H (.cons [9, 121] (ok_new (fun b => vP b 0) (fun u1 => [.int .u16 a4.e0, .int .u16 a4.e1]) 50 9 121) <|
   .v 10 (.bool false) <| .nil) fun u1 a w' H => ?_
 replace H := H.toM [(0, .slot true (.int .i32 a0)), (1, .slot true (.int .i32 a1)), (2, .slot true (.int .i32 a2)), (3, .slot true (.int .i8 a3)), (9, (sP ((u1 0).n 0) 0)), (121, .blk ((u1 0).n 0) [.int .u16 a4.e0, .int .u16 a4.e1] 50), (999999, gk)]
 refine k_seq ?_
 replace G := bnd G; obtain ⟨t3, ht3, G⟩ := G
 refine k_rg mixed H (.cons [24] (ok_callvG 999999 gk 8 (fun u2 => #[]) (.bool t3) 24 (fun _ w hg => armillarylaw15_sanity.calls k0 t3 w (glob_of hg) ht3)) <|
   .v 11 (.bool t3) <| .nil) fun u2 a w' H => ?_
 replace H := H.toM [(0, .slot true (.int .i32 a0)), (1, .slot true (.int .i32 a1)), (2, .slot true (.int .i32 a2)), (3, .slot true (.int .i8 a3)), (9, (sP ((u1 0).n 0) 0)), (11, sB t3), (121, .blk ((u1 0).n 0) [.int .u16 a4.e0, .int .u16 a4.e1] 50), (999999, gk)]
 refine k_seq ?_
 refine k_rg mixed H (.v 25 (.int .i32 a0) <|
   .v 26 (.int .i32 (Int.tmod a0 1048576)) <|
   .v 27 (vI (w_i64 (Int.tmod a0 1048576))) <|
   .v 12 (vI (w_i64 (Int.tmod a0 1048576))) <| .nil) fun u4 a w' H => ?_
 replace H := H.toM [(1, .slot true (.int .i32 a1)), (2, .slot true (.int .i32 a2)), (3, .slot true (.int .i8 a3)), (9, (sP ((u1 0).n 0) 0)), (11, sB t3), (12, (sI (w_i64 (Int.tmod a0 1048576)))), (121, .blk ((u1 0).n 0) [.int .u16 a4.e0, .int .u16 a4.e1] 50), (999999, gk)]
 refine k_seq ?_
 refine k_rg mixed H (.v 28 (.int .i32 a1) <|
   .v 29 (.int .i32 (Int.tmod a1 1048576)) <|
   .v 30 (vI (w_i64 (Int.tmod a1 1048576))) <|
   .v 13 (vI (w_i64 (Int.tmod a1 1048576))) <| .nil) fun u5 a w' H => ?_
 replace H := H.toM [(2, .slot true (.int .i32 a2)), (3, .slot true (.int .i8 a3)), (9, (sP ((u1 0).n 0) 0)), (11, sB t3), (12, (sI (w_i64 (Int.tmod a0 1048576)))), (13, (sI (w_i64 (Int.tmod a1 1048576)))), (121, .blk ((u1 0).n 0) [.int .u16 a4.e0, .int .u16 a4.e1] 50), (999999, gk)]
 refine k_seq ?_
 refine k_rg mixed H (.v 31 (.int .i32 a2) <|
   .v 32 (.int .i32 (Int.tmod a2 1048576)) <|
   .v 33 (vI (w_i64 (Int.tmod a2 1048576))) <|
   .v 14 (vI (w_i64 (Int.tmod a2 1048576))) <| .nil) fun u6 a w' H => ?_
 replace H := H.toM [(3, .slot true (.int .i8 a3)), (9, (sP ((u1 0).n 0) 0)), (11, sB t3), (12, (sI (w_i64 (Int.tmod a0 1048576)))), (13, (sI (w_i64 (Int.tmod a1 1048576)))), (14, (sI (w_i64 (Int.tmod a2 1048576)))), (121, .blk ((u1 0).n 0) [.int .u16 a4.e0, .int .u16 a4.e1] 50), (999999, gk)]
 refine k_seq ?_
 refine k_rg mixed H (.v 34 (vI (w_i64 (Int.tmod a0 1048576))) <|
   .v 35 (vI (w_i64 (Int.tmod a1 1048576))) <|
   .v 36 (vI (w_i64 ((w_i64 (Int.tmod a0 1048576)) + (w_i64 (Int.tmod a1 1048576))))) <|
   .v 15 (vI (w_i64 ((w_i64 (Int.tmod a0 1048576)) + (w_i64 (Int.tmod a1 1048576))))) <| .nil) fun u7 a w' H => ?_
 replace H := H.toM [(3, .slot true (.int .i8 a3)), (9, (sP ((u1 0).n 0) 0)), (11, sB t3), (12, (sI (w_i64 (Int.tmod a0 1048576)))), (13, (sI (w_i64 (Int.tmod a1 1048576)))), (14, (sI (w_i64 (Int.tmod a2 1048576)))), (15, (sI (w_i64 ((w_i64 (Int.tmod a0 1048576)) + (w_i64 (Int.tmod a1 1048576)))))), (121, .blk ((u1 0).n 0) [.int .u16 a4.e0, .int .u16 a4.e1] 50), (999999, gk)]
 refine k_seq ?_
 replace G := bnd G; obtain ⟨z9, hz9, G⟩ := G
 replace hz9 := Option.some.inj hz9
 replace G := bnd G; obtain ⟨z10, hz10, G⟩ := G
 replace hz10 := Option.some.inj hz10
 refine k_rg mixed H (.v 37 (vI (w_i64 (Int.tmod a0 1048576))) <|
   .v 38 (vI (w_i64 ((w_i64 (Int.tmod a0 1048576)) + (w_i64 (Int.tmod a1 1048576))))) <|
   .cons [39] (ok_as (u' := fun u8 => [(39, sI z9)]) (ok_val (fun u8 => vI (mn (w_i64 (Int.tmod a0 1048576)) (w_i64 ((w_i64 (Int.tmod a0 1048576)) + (w_i64 (Int.tmod a1 1048576)))))) 39) (fun _ => by rw [← hz9])) <|
   .v 40 (vI (w_i64 (Int.tmod a0 1048576))) <|
   .v 41 (vI (w_i64 ((w_i64 (Int.tmod a0 1048576)) + (w_i64 (Int.tmod a1 1048576))))) <|
   .cons [42] (ok_as (u' := fun u8 => [(42, sI z10)]) (ok_val (fun u8 => vI (mx (w_i64 (Int.tmod a0 1048576)) (w_i64 ((w_i64 (Int.tmod a0 1048576)) + (w_i64 (Int.tmod a1 1048576)))))) 42) (fun _ => by rw [← hz10])) <|
   .v 43 (.agg #[vI z9, vI z10]) <|
   .cons [16, 122] (ok_new (fun b => vP b 0) (fun u8 => [vI 0, vI 0]) 38 16 122) <|
   .cons [122] (ok_as (u' := fun u8 => [(122, .blk ((u8 7).n 0) [vI z9, vI z10] 38)]) (ok_store 122 0 (fun u8 => ((u8 7).n 0)) (fun u8 => [vI 0, vI 0]) (fun u8 => [vI z9, vI z10]) 38) (fun _ => by kernel_rfl)) <| .nil) fun u8 a w' H => ?_
 replace H := H.toM [(3, .slot true (.int .i8 a3)), (9, (sP ((u1 0).n 0) 0)), (11, sB t3), (12, (sI (w_i64 (Int.tmod a0 1048576)))), (13, (sI (w_i64 (Int.tmod a1 1048576)))), (14, (sI (w_i64 (Int.tmod a2 1048576)))), (15, (sI (w_i64 ((w_i64 (Int.tmod a0 1048576)) + (w_i64 (Int.tmod a1 1048576)))))), (16, (sP ((u8 7).n 0) 0)), (121, .blk ((u1 0).n 0) [.int .u16 a4.e0, .int .u16 a4.e1] 50), (122, .blk ((u8 7).n 0) [vI z9, vI z10] 38), (999999, gk)]
 refine k_seq ?_
 replace G := bnd G; obtain ⟨t12, ht12, G⟩ := G
 replace G := bnd G; obtain ⟨t13, ht13, G⟩ := G
 refine k_rg mixed H (.v 44 (vI (w_i64 (Int.tmod a0 1048576))) <|
   .cons [45] (ok_callv 23 (fun u11 => #[vI (w_i64 (Int.tmod a0 1048576))]) (.agg #[vI t12.Lo, vI t12.Hi]) 45 [] (fun _ w _ => armillaryref02_Point.calls (w_i64 (Int.tmod a0 1048576)) t12 w ht12)) <|
   .cons [46, 123] (ok_new (fun b => .slice (some ⟨b, 0, none⟩) 1 1) (fun u11 => [vI t12.Lo, vI t12.Hi]) 38 46 123) <|
   .cons [47] (ok_ld (fun u11 => .agg #[vI z9, vI z10]) 47 122 0 2 (fun u11 => ((u8 7).n 0)) (fun u11 => [vI z9, vI z10]) 38) <|
   .cons [48, 124] (ok_new (fun b => .slice (some ⟨b, 0, none⟩) 1 1) (fun u11 => [vI z9, vI z10]) 38 48 124) <|
   .cons [49] (ok_ld (fun u11 => .agg #[vI z9, vI z10]) 49 122 0 2 (fun u11 => ((u8 7).n 0)) (fun u11 => [vI z9, vI z10]) 38) <|
   .cons [50, 125] (ok_new (fun b => .slice (some ⟨b, 0, none⟩) 1 1) (fun u11 => [vI z9, vI z10]) 38 50 125) <|
   .v 51 (vI (w_i64 ((w_i64 (Int.tmod a0 1048576)) + (w_i64 (Int.tmod a1 1048576))))) <|
   .cons [52] (ok_callv 23 (fun u11 => #[vI (w_i64 ((w_i64 (Int.tmod a0 1048576)) + (w_i64 (Int.tmod a1 1048576))))]) (.agg #[vI t13.Lo, vI t13.Hi]) 52 [] (fun _ w _ => armillaryref02_Point.calls (w_i64 ((w_i64 (Int.tmod a0 1048576)) + (w_i64 (Int.tmod a1 1048576)))) t13 w ht13)) <|
   .cons [53, 126] (ok_new (fun b => .slice (some ⟨b, 0, none⟩) 1 1) (fun u11 => [vI t13.Lo, vI t13.Hi]) 38 53 126) <|
   .cons [54] (ok_val (fun u11 => .agg #[vI 0, vI 65536, .slice (some ⟨((u11 2).n 0), 0, none⟩) 1 1, .slice (some ⟨((u11 4).n 0), 0, none⟩) 1 1, .slice (some ⟨((u11 6).n 0), 0, none⟩) 1 1, .slice (some ⟨((u11 9).n 0), 0, none⟩) 1 1]) 54) <|
   .cons [17, 127] (ok_new (fun b => vP b 0) (fun u11 => [vI 0, vI 0, .slice none 0 0, .slice none 0 0, .slice none 0 0, .slice none 0 0]) 34 17 127) <|
   .cons [127] (ok_as (u' := fun u11 => [(127, .blk ((u11 11).n 0) [vI 0, vI 65536, .slice (some ⟨((u11 2).n 0), 0, none⟩) 1 1, .slice (some ⟨((u11 4).n 0), 0, none⟩) 1 1, .slice (some ⟨((u11 6).n 0), 0, none⟩) 1 1, .slice (some ⟨((u11 9).n 0), 0, none⟩) 1 1] 34)]) (ok_store 127 0 (fun u11 => ((u11 11).n 0)) (fun u11 => [vI 0, vI 0, .slice none 0 0, .slice none 0 0, .slice none 0 0, .slice none 0 0]) (fun u11 => [vI 0, vI 65536, .slice (some ⟨((u11 2).n 0), 0, none⟩) 1 1, .slice (some ⟨((u11 4).n 0), 0, none⟩) 1 1, .slice (some ⟨((u11 6).n 0), 0, none⟩) 1 1, .slice (some ⟨((u11 9).n 0), 0, none⟩) 1 1]) 34) (fun _ => by kernel_rfl)) <| .nil) fun u11 a w' H => ?_
 replace H := H.toM [(3, .slot true (.int .i8 a3)), (9, (sP ((u1 0).n 0) 0)), (11, sB t3), (12, (sI (w_i64 (Int.tmod a0 1048576)))), (13, (sI (w_i64 (Int.tmod a1 1048576)))), (14, (sI (w_i64 (Int.tmod a2 1048576)))), (15, (sI (w_i64 ((w_i64 (Int.tmod a0 1048576)) + (w_i64 (Int.tmod a1 1048576)))))), (17, (sP ((u11 11).n 0) 0)), (121, .blk ((u1 0).n 0) [.int .u16 a4.e0, .int .u16 a4.e1] 50), (123, .blk ((u11 2).n 0) [vI t12.Lo, vI t12.Hi] 38), (124, .blk ((u11 4).n 0) [vI z9, vI z10] 38), (125, .blk ((u11 6).n 0) [vI z9, vI z10] 38), (126, .blk ((u11 9).n 0) [vI t13.Lo, vI t13.Hi] 38), (127, .blk ((u11 11).n 0) [vI 0, vI 65536, .slice (some ⟨((u11 2).n 0), 0, none⟩) 1 1, .slice (some ⟨((u11 4).n 0), 0, none⟩) 1 1, .slice (some ⟨((u11 6).n 0), 0, none⟩) 1 1, .slice (some ⟨((u11 9).n 0), 0, none⟩) 1 1] 34), (999999, gk)]
 refine k_seq ?_
 replace G := bnd G; obtain ⟨t15, ht15, G⟩ := G
 refine k_rg mixed H (.v 55 (.agg #[vI 8, vI 0, vI 0, vI 0]) <|
   .v 56 (.agg #[vI 2, vI 0, vI 0, vI 0]) <|
   .v 57 (vI (w_i64 (Int.tmod a2 1048576))) <|
   .cons [58] (ok_callv 23 (fun u14 => #[vI (w_i64 (Int.tmod a2 1048576))]) (.agg #[vI t15.Lo, vI t15.Hi]) 58 [] (fun _ w _ => armillaryref02_Point.calls (w_i64 (Int.tmod a2 1048576)) t15 w ht15)) <|
   .v 59 (.agg #[vI 1, vI 0, vI t15.Lo, vI t15.Hi]) <|
   .cons [60, 128] (ok_new (fun b => .slice (some ⟨b, 0, none⟩) 3 3) (fun u14 => [vI 8, vI 0, vI 0, vI 0, vI 2, vI 0, vI 0, vI 0, vI 1, vI 0, vI t15.Lo, vI t15.Hi]) 53 60 128) <|
   .v 61 (.int .i8 a3) <|
   .v 62 (.int .i8 (Int.tmod a3 2)) <|
   .v 63 (vI (w_i64 (Int.tmod a3 2))) <|
   .cons [64] (ok_val (fun u14 => .agg #[.slice (some ⟨((u14 5).n 0), 0, none⟩) 3 3, vI (w_i64 (Int.tmod a3 2))]) 64) <|
   .cons [18, 129] (ok_new (fun b => vP b 0) (fun u14 => [.slice none 0 0, vI 0]) 31 18 129) <|
   .cons [129] (ok_as (u' := fun u14 => [(129, .blk ((u14 10).n 0) [.slice (some ⟨((u14 5).n 0), 0, none⟩) 3 3, vI (w_i64 (Int.tmod a3 2))] 31)]) (ok_store 129 0 (fun u14 => ((u14 10).n 0)) (fun u14 => [.slice none 0 0, vI 0]) (fun u14 => [.slice (some ⟨((u14 5).n 0), 0, none⟩) 3 3, vI (w_i64 (Int.tmod a3 2))]) 31) (fun _ => by kernel_rfl)) <| .nil) fun u14 a w' H => ?_
 replace H := H.toM [(9, (sP ((u1 0).n 0) 0)), (11, sB t3), (12, (sI (w_i64 (Int.tmod a0 1048576)))), (13, (sI (w_i64 (Int.tmod a1 1048576)))), (14, (sI (w_i64 (Int.tmod a2 1048576)))), (15, (sI (w_i64 ((w_i64 (Int.tmod a0 1048576)) + (w_i64 (Int.tmod a1 1048576)))))), (17, (sP ((u11 11).n 0) 0)), (18, (sP ((u14 10).n 0) 0)), (121, .blk ((u1 0).n 0) [.int .u16 a4.e0, .int .u16 a4.e1] 50), (123, .blk ((u11 2).n 0) [vI t12.Lo, vI t12.Hi] 38), (124, .blk ((u11 4).n 0) [vI z9, vI z10] 38), (125, .blk ((u11 6).n 0) [vI z9, vI z10] 38), (126, .blk ((u11 9).n 0) [vI t13.Lo, vI t13.Hi] 38), (127, .blk ((u11 11).n 0) [vI 0, vI 65536, .slice (some ⟨((u11 2).n 0), 0, none⟩) 1 1, .slice (some ⟨((u11 4).n 0), 0, none⟩) 1 1, .slice (some ⟨((u11 6).n 0), 0, none⟩) 1 1, .slice (some ⟨((u11 9).n 0), 0, none⟩) 1 1] 34), (128, .blk ((u14 5).n 0) [vI 8, vI 0, vI 0, vI 0, vI 2, vI 0, vI 0, vI 0, vI 1, vI 0, vI t15.Lo, vI t15.Hi] 53), (129, .blk ((u14 10).n 0) [.slice (some ⟨((u14 5).n 0), 0, none⟩) 3 3, vI (w_i64 (Int.tmod a3 2))] 31), (999999, gk)]
 refine k_seq ?_
 replace H := H.blk_row 123 ((u11 2).n 0) [vI t12.Lo, vI t12.Hi] 38 2 1 (by kernel_rfl) (by kernel_rfl) (by decide)
 replace H := H.blk_row 124 ((u11 4).n 0) [vI z9, vI z10] 38 2 1 (by kernel_rfl) (by kernel_rfl) (by decide)
 replace H := H.blk_row 125 ((u11 6).n 0) [vI z9, vI z10] 38 2 1 (by kernel_rfl) (by kernel_rfl) (by decide)
 replace H := H.blk_row 126 ((u11 9).n 0) [vI t13.Lo, vI t13.Hi] 38 2 1 (by kernel_rfl) (by kernel_rfl) (by decide)
 replace H := H.blk_row 128 ((u14 5).n 0) [vI 8, vI 0, vI 0, vI 0, vI 2, vI 0, vI 0, vI 0, vI 1, vI 0, vI t15.Lo, vI t15.Hi] 53 4 3 (by kernel_rfl) (by kernel_rfl) (by decide)
 replace G := bnd G; obtain ⟨t17, ht17, G⟩ := G
 refine k_rg mixed H (.cons [65] (ok_ld (fun u16 => .agg #[.slice (some ⟨((u14 5).n 0), 0, none⟩) ([(⟨8, 0, (⟨0, 0⟩ : TInterval)⟩ : TNode), (⟨2, 0, (⟨0, 0⟩ : TInterval)⟩ : TNode), (⟨1, 0, t15⟩ : TNode)] : List TNode).length 3, vI (w_i64 (Int.tmod a3 2))]) 65 129 0 2 (fun u16 => ((u14 10).n 0)) (fun u16 => [.slice (some ⟨((u14 5).n 0), 0, none⟩) ([(⟨8, 0, (⟨0, 0⟩ : TInterval)⟩ : TNode), (⟨2, 0, (⟨0, 0⟩ : TInterval)⟩ : TNode), (⟨1, 0, t15⟩ : TNode)] : List TNode).length 3, vI (w_i64 (Int.tmod a3 2))]) 31) <|
   .cons [66] (ok_ld (fun u16 => .agg #[vI 0, vI 65536, .slice (some ⟨((u11 2).n 0), 0, none⟩) ([t12] : List TInterval).length 1, .slice (some ⟨((u11 4).n 0), 0, none⟩) ([(⟨z9, z10⟩ : TInterval)] : List TInterval).length 1, .slice (some ⟨((u11 6).n 0), 0, none⟩) ([(⟨z9, z10⟩ : TInterval)] : List TInterval).length 1, .slice (some ⟨((u11 9).n 0), 0, none⟩) ([t13] : List TInterval).length 1]) 66 127 0 6 (fun u16 => ((u11 11).n 0)) (fun u16 => [vI 0, vI 65536, .slice (some ⟨((u11 2).n 0), 0, none⟩) ([t12] : List TInterval).length 1, .slice (some ⟨((u11 4).n 0), 0, none⟩) ([(⟨z9, z10⟩ : TInterval)] : List TInterval).length 1, .slice (some ⟨((u11 6).n 0), 0, none⟩) ([(⟨z9, z10⟩ : TInterval)] : List TInterval).length 1, .slice (some ⟨((u11 9).n 0), 0, none⟩) ([t13] : List TInterval).length 1]) 34) <|
   .cons [67] (ok_callL [128, 123, 124, 125, 126, 999999] (fun u16 => [owK 53 4 (some ⟨((u14 5).n 0), 0, none⟩) ([(⟨8, 0, (⟨0, 0⟩ : TInterval)⟩ : TNode), (⟨2, 0, (⟨0, 0⟩ : TInterval)⟩ : TNode), (⟨1, 0, t15⟩ : TNode)] : List TNode).length 3 (([(⟨8, 0, (⟨0, 0⟩ : TInterval)⟩ : TNode), (⟨2, 0, (⟨0, 0⟩ : TInterval)⟩ : TNode), (⟨1, 0, t15⟩ : TNode)] : List TNode).flatMap en_TNode), owK 38 2 (some ⟨((u11 2).n 0), 0, none⟩) ([t12] : List TInterval).length 1 (([t12] : List TInterval).flatMap en_TInterval), owK 38 2 (some ⟨((u11 4).n 0), 0, none⟩) ([(⟨z9, z10⟩ : TInterval)] : List TInterval).length 1 (([(⟨z9, z10⟩ : TInterval)] : List TInterval).flatMap en_TInterval), owK 38 2 (some ⟨((u11 6).n 0), 0, none⟩) ([(⟨z9, z10⟩ : TInterval)] : List TInterval).length 1 (([(⟨z9, z10⟩ : TInterval)] : List TInterval).flatMap en_TInterval), owK 38 2 (some ⟨((u11 9).n 0), 0, none⟩) ([t13] : List TInterval).length 1 (([t13] : List TInterval).flatMap en_TInterval), gk]) 19 (fun u16 => #[.agg #[.slice (some ⟨((u14 5).n 0), 0, none⟩) ([(⟨8, 0, (⟨0, 0⟩ : TInterval)⟩ : TNode), (⟨2, 0, (⟨0, 0⟩ : TInterval)⟩ : TNode), (⟨1, 0, t15⟩ : TNode)] : List TNode).length 3, vI (w_i64 (Int.tmod a3 2))], .agg #[vI 0, vI 65536, .slice (some ⟨((u11 2).n 0), 0, none⟩) ([t12] : List TInterval).length 1, .slice (some ⟨((u11 4).n 0), 0, none⟩) ([(⟨z9, z10⟩ : TInterval)] : List TInterval).length 1, .slice (some ⟨((u11 6).n 0), 0, none⟩) ([(⟨z9, z10⟩ : TInterval)] : List TInterval).length 1, .slice (some ⟨((u11 9).n 0), 0, none⟩) ([t13] : List TInterval).length 1]]) (vI t17) 67 (fun u16 w hF => guard_Crossing.calls k0 (⟨([(⟨8, 0, (⟨0, 0⟩ : TInterval)⟩ : TNode), (⟨2, 0, (⟨0, 0⟩ : TInterval)⟩ : TNode), (⟨1, 0, t15⟩ : TNode)] : List TNode), w_i64 (Int.tmod a3 2)⟩ : TGuard) (⟨0, 65536, ([t12] : List TInterval), ([(⟨z9, z10⟩ : TInterval)] : List TInterval), ([(⟨z9, z10⟩ : TInterval)] : List TInterval), ([t13] : List TInterval)⟩ : TSegment) (some ⟨((u14 5).n 0), 0, none⟩) 3 (some ⟨((u11 2).n 0), 0, none⟩) 1 (some ⟨((u11 4).n 0), 0, none⟩) 1 (some ⟨((u11 6).n 0), 0, none⟩) 1 (some ⟨((u11 9).n 0), 0, none⟩) 1 t17 w (glob_of hF.2.2.2.2.2.1) (owns_rowC (ow_of hF.1)) (owns_rowC (ow_of hF.2.1)) (owns_rowC (ow_of hF.2.2.1)) (owns_rowC (ow_of hF.2.2.2.1)) (owns_rowC (ow_of hF.2.2.2.2.1)) ht17)) <|
   .v 19 (vI t17) <| .nil) fun u16 a w' H => ?_
 replace H := H.toM [(9, (sP ((u1 0).n 0) 0)), (11, sB t3), (12, (sI (w_i64 (Int.tmod a0 1048576)))), (13, (sI (w_i64 (Int.tmod a1 1048576)))), (14, (sI (w_i64 (Int.tmod a2 1048576)))), (15, (sI (w_i64 ((w_i64 (Int.tmod a0 1048576)) + (w_i64 (Int.tmod a1 1048576)))))), (18, (sP ((u14 10).n 0) 0)), (19, sI t17), (121, .blk ((u1 0).n 0) [.int .u16 a4.e0, .int .u16 a4.e1] 50), (129, .blk ((u14 10).n 0) [.slice (some ⟨((u14 5).n 0), 0, none⟩) ([(⟨8, 0, (⟨0, 0⟩ : TInterval)⟩ : TNode), (⟨2, 0, (⟨0, 0⟩ : TInterval)⟩ : TNode), (⟨1, 0, t15⟩ : TNode)] : List TNode).length 3, vI (w_i64 (Int.tmod a3 2))] 31), (128, owK 53 4 (some ⟨((u14 5).n 0), 0, none⟩) ([(⟨8, 0, (⟨0, 0⟩ : TInterval)⟩ : TNode), (⟨2, 0, (⟨0, 0⟩ : TInterval)⟩ : TNode), (⟨1, 0, t15⟩ : TNode)] : List TNode).length 3 (([(⟨8, 0, (⟨0, 0⟩ : TInterval)⟩ : TNode), (⟨2, 0, (⟨0, 0⟩ : TInterval)⟩ : TNode), (⟨1, 0, t15⟩ : TNode)] : List TNode).flatMap en_TNode)), (999999, gk)]
 refine k_seq ?_
 refine k_rg mixed H (.v 68 (vP ((u1 0).n 0) 0) <|
   .cons [69] (ok_ld (fun u18 => .int .u16 a4.e0) 69 121 0 1 (fun u18 => ((u1 0).n 0)) (fun u18 => [.int .u16 a4.e0, .int .u16 a4.e1]) 50) <|
   .v 70 (vP ((u1 0).n 0) 1) <|
   .cons [71] (ok_ld (fun u18 => .int .u16 a4.e1) 71 121 1 1 (fun u18 => ((u1 0).n 0)) (fun u18 => [.int .u16 a4.e0, .int .u16 a4.e1]) 50) <|
   .v 72 (.int .u16 (mn a4.e0 a4.e1)) <|
   .v 73 (vI (w_i64 (mn a4.e0 a4.e1))) <|
   .v 20 (vI (w_i64 (mn a4.e0 a4.e1))) <| .nil) fun u18 a w' H => ?_
 replace H := H.toM [(9, (sP ((u1 0).n 0) 0)), (11, sB t3), (12, (sI (w_i64 (Int.tmod a0 1048576)))), (13, (sI (w_i64 (Int.tmod a1 1048576)))), (14, (sI (w_i64 (Int.tmod a2 1048576)))), (15, (sI (w_i64 ((w_i64 (Int.tmod a0 1048576)) + (w_i64 (Int.tmod a1 1048576)))))), (18, (sP ((u14 10).n 0) 0)), (19, sI t17), (20, (sI (w_i64 (mn a4.e0 a4.e1)))), (121, .blk ((u1 0).n 0) [.int .u16 a4.e0, .int .u16 a4.e1] 50), (129, .blk ((u14 10).n 0) [.slice (some ⟨((u14 5).n 0), 0, none⟩) ([(⟨8, 0, (⟨0, 0⟩ : TInterval)⟩ : TNode), (⟨2, 0, (⟨0, 0⟩ : TInterval)⟩ : TNode), (⟨1, 0, t15⟩ : TNode)] : List TNode).length 3, vI (w_i64 (Int.tmod a3 2))] 31), (128, owK 53 4 (some ⟨((u14 5).n 0), 0, none⟩) ([(⟨8, 0, (⟨0, 0⟩ : TInterval)⟩ : TNode), (⟨2, 0, (⟨0, 0⟩ : TInterval)⟩ : TNode), (⟨1, 0, t15⟩ : TNode)] : List TNode).length 3 (([(⟨8, 0, (⟨0, 0⟩ : TInterval)⟩ : TNode), (⟨2, 0, (⟨0, 0⟩ : TInterval)⟩ : TNode), (⟨1, 0, t15⟩ : TNode)] : List TNode).flatMap en_TNode)), (999999, gk)]
 refine k_seq ?_
 refine k_rg mixed H (.v 74 (vP ((u1 0).n 0) 0) <|
   .cons [75] (ok_ld (fun u19 => .int .u16 a4.e0) 75 121 0 1 (fun u19 => ((u1 0).n 0)) (fun u19 => [.int .u16 a4.e0, .int .u16 a4.e1]) 50) <|
   .v 76 (vP ((u1 0).n 0) 1) <|
   .cons [77] (ok_ld (fun u19 => .int .u16 a4.e1) 77 121 1 1 (fun u19 => ((u1 0).n 0)) (fun u19 => [.int .u16 a4.e0, .int .u16 a4.e1]) 50) <|
   .v 78 (.int .u16 (mx a4.e0 a4.e1)) <|
   .v 79 (vI (w_i64 (mx a4.e0 a4.e1))) <|
   .v 21 (vI (w_i64 (mx a4.e0 a4.e1))) <| .nil) fun u19 a w' H => ?_
 replace H := H.toM [(11, sB t3), (12, (sI (w_i64 (Int.tmod a0 1048576)))), (13, (sI (w_i64 (Int.tmod a1 1048576)))), (14, (sI (w_i64 (Int.tmod a2 1048576)))), (15, (sI (w_i64 ((w_i64 (Int.tmod a0 1048576)) + (w_i64 (Int.tmod a1 1048576)))))), (18, (sP ((u14 10).n 0) 0)), (19, sI t17), (20, (sI (w_i64 (mn a4.e0 a4.e1)))), (21, (sI (w_i64 (mx a4.e0 a4.e1)))), (129, .blk ((u14 10).n 0) [.slice (some ⟨((u14 5).n 0), 0, none⟩) ([(⟨8, 0, (⟨0, 0⟩ : TInterval)⟩ : TNode), (⟨2, 0, (⟨0, 0⟩ : TInterval)⟩ : TNode), (⟨1, 0, t15⟩ : TNode)] : List TNode).length 3, vI (w_i64 (Int.tmod a3 2))] 31), (128, owK 53 4 (some ⟨((u14 5).n 0), 0, none⟩) ([(⟨8, 0, (⟨0, 0⟩ : TInterval)⟩ : TNode), (⟨2, 0, (⟨0, 0⟩ : TInterval)⟩ : TNode), (⟨1, 0, t15⟩ : TNode)] : List TNode).length 3 (([(⟨8, 0, (⟨0, 0⟩ : TInterval)⟩ : TNode), (⟨2, 0, (⟨0, 0⟩ : TInterval)⟩ : TNode), (⟨1, 0, t15⟩ : TNode)] : List TNode).flatMap en_TNode)), (999999, gk)]
 refine k_seq ?_
 replace G := bnd G; obtain ⟨z21, hz21, G⟩ := G
 replace hz21 := Option.some.inj hz21
 refine k_rg mixed H (.v 80 (vI (w_i64 (Int.tmod a0 1048576))) <|
   .v 81 (vI (w_i64 (Int.tmod a2 1048576))) <|
   .v 82 (vI (w_i64 ((w_i64 (Int.tmod a0 1048576)) - (w_i64 (Int.tmod a2 1048576))))) <|
   .v 83 (vI (w_i64 ((w_i64 ((w_i64 (Int.tmod a0 1048576)) - (w_i64 (Int.tmod a2 1048576)))) * 65535))) <|
   .v 84 (vI (w_i64 (Int.tmod a1 1048576))) <|
   .v 85 (vI (w_i64 (mn a4.e0 a4.e1))) <|
   .v 86 (vI (w_i64 ((w_i64 (Int.tmod a1 1048576)) * (w_i64 (mn a4.e0 a4.e1))))) <|
   .cons [87] (ok_as (u' := fun u20 => [(87, sI z21)]) (ok_val (fun u20 => vI (w_i64 ((w_i64 ((w_i64 ((w_i64 (Int.tmod a0 1048576)) - (w_i64 (Int.tmod a2 1048576)))) * 65535)) + (w_i64 ((w_i64 (Int.tmod a1 1048576)) * (w_i64 (mn a4.e0 a4.e1))))))) 87) (fun _ => by rw [← hz21])) <|
   .v 22 (vI z21) <| .nil) fun u20 a w' H => ?_
 replace H := H.toM [(11, sB t3), (12, (sI (w_i64 (Int.tmod a0 1048576)))), (13, (sI (w_i64 (Int.tmod a1 1048576)))), (14, (sI (w_i64 (Int.tmod a2 1048576)))), (15, (sI (w_i64 ((w_i64 (Int.tmod a0 1048576)) + (w_i64 (Int.tmod a1 1048576)))))), (18, (sP ((u14 10).n 0) 0)), (19, sI t17), (21, (sI (w_i64 (mx a4.e0 a4.e1)))), (22, sI z21), (129, .blk ((u14 10).n 0) [.slice (some ⟨((u14 5).n 0), 0, none⟩) ([(⟨8, 0, (⟨0, 0⟩ : TInterval)⟩ : TNode), (⟨2, 0, (⟨0, 0⟩ : TInterval)⟩ : TNode), (⟨1, 0, t15⟩ : TNode)] : List TNode).length 3, vI (w_i64 (Int.tmod a3 2))] 31), (128, owK 53 4 (some ⟨((u14 5).n 0), 0, none⟩) ([(⟨8, 0, (⟨0, 0⟩ : TInterval)⟩ : TNode), (⟨2, 0, (⟨0, 0⟩ : TInterval)⟩ : TNode), (⟨1, 0, t15⟩ : TNode)] : List TNode).length 3 (([(⟨8, 0, (⟨0, 0⟩ : TInterval)⟩ : TNode), (⟨2, 0, (⟨0, 0⟩ : TInterval)⟩ : TNode), (⟨1, 0, t15⟩ : TNode)] : List TNode).flatMap en_TNode)), (999999, gk)]
 refine k_seq ?_
 replace G := bnd G; obtain ⟨z23, hz23, G⟩ := G
 replace hz23 := Option.some.inj hz23
 refine k_rg mixed H (.v 88 (vI (w_i64 (Int.tmod a0 1048576))) <|
   .v 89 (vI (w_i64 (Int.tmod a2 1048576))) <|
   .v 90 (vI (w_i64 ((w_i64 (Int.tmod a0 1048576)) - (w_i64 (Int.tmod a2 1048576))))) <|
   .v 91 (vI (w_i64 ((w_i64 ((w_i64 (Int.tmod a0 1048576)) - (w_i64 (Int.tmod a2 1048576)))) * 65535))) <|
   .v 92 (vI (w_i64 (Int.tmod a1 1048576))) <|
   .v 93 (vI (w_i64 (mx a4.e0 a4.e1))) <|
   .v 94 (vI (w_i64 ((w_i64 (Int.tmod a1 1048576)) * (w_i64 (mx a4.e0 a4.e1))))) <|
   .cons [95] (ok_as (u' := fun u22 => [(95, sI z23)]) (ok_val (fun u22 => vI (w_i64 ((w_i64 ((w_i64 ((w_i64 (Int.tmod a0 1048576)) - (w_i64 (Int.tmod a2 1048576)))) * 65535)) + (w_i64 ((w_i64 (Int.tmod a1 1048576)) * (w_i64 (mx a4.e0 a4.e1))))))) 95) (fun _ => by rw [← hz23])) <|
   .v 23 (vI z23) <| .nil) fun u22 a w' H => ?_
 replace H := H.toM [(11, sB t3), (12, (sI (w_i64 (Int.tmod a0 1048576)))), (14, (sI (w_i64 (Int.tmod a2 1048576)))), (15, (sI (w_i64 ((w_i64 (Int.tmod a0 1048576)) + (w_i64 (Int.tmod a1 1048576)))))), (18, (sP ((u14 10).n 0) 0)), (19, sI t17), (22, sI z21), (23, sI z23), (129, .blk ((u14 10).n 0) [.slice (some ⟨((u14 5).n 0), 0, none⟩) ([(⟨8, 0, (⟨0, 0⟩ : TInterval)⟩ : TNode), (⟨2, 0, (⟨0, 0⟩ : TInterval)⟩ : TNode), (⟨1, 0, t15⟩ : TNode)] : List TNode).length 3, vI (w_i64 (Int.tmod a3 2))] 31), (128, owK 53 4 (some ⟨((u14 5).n 0), 0, none⟩) ([(⟨8, 0, (⟨0, 0⟩ : TInterval)⟩ : TNode), (⟨2, 0, (⟨0, 0⟩ : TInterval)⟩ : TNode), (⟨1, 0, t15⟩ : TNode)] : List TNode).length 3 (([(⟨8, 0, (⟨0, 0⟩ : TInterval)⟩ : TNode), (⟨2, 0, (⟨0, 0⟩ : TInterval)⟩ : TNode), (⟨1, 0, t15⟩ : TNode)] : List TNode).flatMap en_TNode)), (999999, gk)]
 refine k_seq ?_
 refine k_seq ?_
 replace G := bnd G; obtain ⟨t25, ht25, G⟩ := G
 refine k_rg mixed H (.v 96 (vI t17) <|
   .v 97 (.bool (t17 == 0)) <|
   .v 98 (.bool (t17 == 0)) <|
   .cons [99] (ok_valg (fun u24 => vI z21) (fun u24 => ((t17 == 0) == true)) [true] 99) <|
   .cons [100] (ok_valg (fun u24 => vI z23) (fun u24 => ((t17 == 0) == true)) [true] 100) <|
   .cons [101] (ok_valg (fun u24 => vP ((u14 10).n 0) 1) (fun u24 => ((t17 == 0) == true)) [true] 101) <|
   .cons [102] (ok_ldg (fun u24 => vI (w_i64 (Int.tmod a3 2))) (fun u24 => ((t17 == 0) == true)) [false] 102 129 1 1 (fun u24 => ((u14 10).n 0)) (fun u24 => [.slice (some ⟨((u14 5).n 0), 0, none⟩) ([(⟨8, 0, (⟨0, 0⟩ : TInterval)⟩ : TNode), (⟨2, 0, (⟨0, 0⟩ : TInterval)⟩ : TNode), (⟨1, 0, t15⟩ : TNode)] : List TNode).length 3, vI (w_i64 (Int.tmod a3 2))]) 31) <|
   .cons [103] (ok_call 24 (fun u24 => #[vI z21, vI z23, vI (w_i64 (Int.tmod a3 2))]) (.bool t25) (fun u24 => ((t17 == 0) == true)) [true, false, false, false] 103 [] (fun _ w hg _ => armillarylaw15_crosses.calls z21 z23 (w_i64 (Int.tmod a3 2)) t25 w (ifp ht25 hg))) <|
   .cons [104] (ok_and 98 103 (fun u24 => true) (fun u24 => true) (fun u24 => (t17 == 0)) (fun u24 => t25) 104) <| .nil) fun u24 a w' H => ?_
 replace H := H.toM [(11, sB t3), (12, (sI (w_i64 (Int.tmod a0 1048576)))), (14, (sI (w_i64 (Int.tmod a2 1048576)))), (15, (sI (w_i64 ((w_i64 (Int.tmod a0 1048576)) + (w_i64 (Int.tmod a1 1048576)))))), (18, (sP ((u14 10).n 0) 0)), (19, sI t17), (104, (sB ((t17 == 0) && t25))), (129, .blk ((u14 10).n 0) [.slice (some ⟨((u14 5).n 0), 0, none⟩) ([(⟨8, 0, (⟨0, 0⟩ : TInterval)⟩ : TNode), (⟨2, 0, (⟨0, 0⟩ : TInterval)⟩ : TNode), (⟨1, 0, t15⟩ : TNode)] : List TNode).length 3, vI (w_i64 (Int.tmod a3 2))] 31), (128, owK 53 4 (some ⟨((u14 5).n 0), 0, none⟩) ([(⟨8, 0, (⟨0, 0⟩ : TInterval)⟩ : TNode), (⟨2, 0, (⟨0, 0⟩ : TInterval)⟩ : TNode), (⟨1, 0, t15⟩ : TNode)] : List TNode).length 3 (([(⟨8, 0, (⟨0, 0⟩ : TInterval)⟩ : TNode), (⟨2, 0, (⟨0, 0⟩ : TInterval)⟩ : TNode), (⟨1, 0, t15⟩ : TNode)] : List TNode).flatMap en_TNode)), (999999, gk)]
 refine k_cond H (by kernel_rfl) (t := ((t17 == 0) && t25)) (by kernel_rfl) (fun c29 => ?_) (fun c29 => ?_)
 ·rw [if_pos c29] at G
  refine k_seq ?_
  refine k_rg mixed H (.v 10 (.bool false) <| .nil) fun u26 a w' H => ?_
  replace H := H.toM [(10, sB false), (999999, gk)]
  refine k_ret ?_
  obtain rfl := Option.some.inj G
  exact k_done0 H _ (by kernel_rfl) (by kernel_rfl)
 ·rw [if_neg (nt c29)] at G
  refine k_skip ?_
  refine k_seq ?_
  replace G := bnd G; obtain ⟨t28, ht28, G⟩ := G
  refine k_rg mixed H (.v 105 (.bool t3) <|
   .v 106 (.bool t3) <|
   .cons [107] (ok_valg (fun u27 => vI t17) (fun u27 => (t3 == true)) [true] 107) <|
   .cons [108] (ok_valg (fun u27 => .bool (t17 != 2)) (fun u27 => (t3 == true)) [false, true] 108) <|
   .cons [109] (ok_valg (fun u27 => .bool (t17 != 2)) (fun u27 => (t3 == true)) [false] 109) <|
   .cons [110] (ok_valg (fun u27 => vI (w_i64 (Int.tmod a0 1048576))) (fun u27 => ((t3 == true) && ((t17 != 2) == false))) [true] 110) <|
   .cons [111] (ok_valg (fun u27 => vI (w_i64 (Int.tmod a2 1048576))) (fun u27 => ((t3 == true) && ((t17 != 2) == false))) [true] 111) <|
   .cons [112] (ok_valg (fun u27 => vI (w_i64 ((w_i64 (Int.tmod a0 1048576)) - (w_i64 (Int.tmod a2 1048576))))) (fun u27 => ((t3 == true) && ((t17 != 2) == false))) [false, false] 112) <|
   .cons [113] (ok_valg (fun u27 => vI (w_i64 ((w_i64 (Int.tmod a0 1048576)) + (w_i64 (Int.tmod a1 1048576))))) (fun u27 => ((t3 == true) && ((t17 != 2) == false))) [true] 113) <|
   .cons [114] (ok_valg (fun u27 => vI (w_i64 (Int.tmod a2 1048576))) (fun u27 => ((t3 == true) && ((t17 != 2) == false))) [true] 114) <|
   .cons [115] (ok_valg (fun u27 => vI (w_i64 ((w_i64 ((w_i64 (Int.tmod a0 1048576)) + (w_i64 (Int.tmod a1 1048576)))) - (w_i64 (Int.tmod a2 1048576))))) (fun u27 => ((t3 == true) && ((t17 != 2) == false))) [false, false] 115) <|
   .cons [116] (ok_valg (fun u27 => vP ((u14 10).n 0) 1) (fun u27 => ((t3 == true) && ((t17 != 2) == false))) [true] 116) <|
   .cons [117] (ok_ldg (fun u27 => vI (w_i64 (Int.tmod a3 2))) (fun u27 => ((t3 == true) && ((t17 != 2) == false))) [false] 117 129 1 1 (fun u27 => ((u14 10).n 0)) (fun u27 => [.slice (some ⟨((u14 5).n 0), 0, none⟩) ([(⟨8, 0, (⟨0, 0⟩ : TInterval)⟩ : TNode), (⟨2, 0, (⟨0, 0⟩ : TInterval)⟩ : TNode), (⟨1, 0, t15⟩ : TNode)] : List TNode).length 3, vI (w_i64 (Int.tmod a3 2))]) 31) <|
   .cons [118] (ok_call 24 (fun u27 => #[vI (w_i64 ((w_i64 (Int.tmod a0 1048576)) - (w_i64 (Int.tmod a2 1048576)))), vI (w_i64 ((w_i64 ((w_i64 (Int.tmod a0 1048576)) + (w_i64 (Int.tmod a1 1048576)))) - (w_i64 (Int.tmod a2 1048576)))), vI (w_i64 (Int.tmod a3 2))]) (.bool t28) (fun u27 => ((t3 == true) && ((t17 != 2) == false))) [true, false, false, false] 118 [] (fun _ w hg _ => armillarylaw15_crosses.calls (w_i64 ((w_i64 (Int.tmod a0 1048576)) - (w_i64 (Int.tmod a2 1048576)))) (w_i64 ((w_i64 ((w_i64 (Int.tmod a0 1048576)) + (w_i64 (Int.tmod a1 1048576)))) - (w_i64 (Int.tmod a2 1048576)))) (w_i64 (Int.tmod a3 2)) t28 w (ifp ht28 hg))) <|
   .cons [119] (ok_or 109 118 (fun u27 => (t3 == true)) (fun u27 => (t3 == true)) (fun u27 => (t17 != 2)) (fun u27 => t28) 119) <|
   .cons [120] (ok_and 106 119 (fun u27 => true) (fun u27 => true) (fun u27 => t3) (fun u27 => ((t17 != 2) || t28)) 120) <|
   .v 10 (.bool (t3 && ((t17 != 2) || t28))) <| .nil) fun u27 a w' H => ?_
  replace H := H.toM [(10, (sB (t3 && ((t17 != 2) || t28)))), (999999, gk)]
  refine k_ret ?_
  obtain rfl := Option.some.inj G
  exact k_done0 H _ (by kernel_rfl) (by kernel_rfl)

end Go.Proofs.YtkkodieceehkmaaDoor
