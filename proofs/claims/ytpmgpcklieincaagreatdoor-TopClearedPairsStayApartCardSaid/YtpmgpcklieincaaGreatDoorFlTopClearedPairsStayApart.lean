/- The law TopClearedPairsStayApart answers as the plain Lean function of its name. Printed by a program of this session. -/
import Derived.Test.YtpmgpcklieincaaGreatDoorFn4
set_option linter.unusedVariables false
set_option linter.unusedSimpArgs false
set_option maxRecDepth 100000
set_option maxHeartbeats 4000000
namespace Go.Proofs.YtpmgpcklieincaaGreatDoor
open Go Go.RowKit Go.Sx Go.Proofs
theorem armillarytop_TopClearedPairsStayApart.calls (k0 : Nat) (a0 : TBody) (a1 : TBody) (a2 : Int) (a3 : Int) (r : Bool) (w : World) (hg : Glob w) (G : armillarytop_TopClearedPairsStayApart k0 a0 a1 a2 a3 = some r) :
  Calls Tryz.prog 7 #[.agg #[.int .i32 a0.X, .int .i16 a0.V], .agg #[.int .i32 a1.X, .int .i16 a1.V], .int .u32 a2, .int .u16 a3] w fun e w' => e = .returned (.bool r) ∧ Below w.heap.size w w' := by
 obtain ⟨fr, hfr⟩ : ∃ fr : Nat → Prop, ∀ j, fr j := ⟨fun _ => True, fun _ => trivial⟩
 have hBf : ∀ j, w.heap.size ≤ j → fr j := fun j _ => hfr j
 refine k_enterG (args := [.agg #[.int .i32 a0.X, .int .i16 a0.V], .agg #[.int .i32 a1.X, .int .i16 a1.V], .int .u32 a2, .int .u16 a3]) 70 999999 globFp Glob (glob_local hg) (glob_in hg) Tryz.func7 rfl (by kernel_rfl) (by kernel_rfl) fun a H => ?_
 unfold armillarytop_TopClearedPairsStayApart at G
 refine k_seq ?_
 refine k_rg mixed H (.cons [4, 70] (ok_new (fun b => vP b 0) (fun u1 => [.int .i32 a0.X, .int .i16 a0.V]) 75 4 70) <|
   .cons [5, 71] (ok_new (fun b => vP b 0) (fun u1 => [.int .i32 a1.X, .int .i16 a1.V]) 75 5 71) <|
   .v 8 (.bool false) <| .nil) fun u1 a w' H => ?_
 replace H := H.kp [2, 3, 4, 5, 70, 71, 999999]
 refine k_seq ?_
 replace G := bnd G; obtain ⟨t3, ht3, G⟩ := G
 refine k_rg mixed H (.cons [17] (ok_callL [999999] (fun u2 => [gk]) 22 (fun u2 => #[]) (.bool t3) 17 (fun u2 w hF => armillarytop_sanity24.calls k0  t3 w  (glob_of hF.1) ht3)) <|
   .v 9 (.bool t3) <| .nil) fun u2 a w' H => ?_
 replace H := H.kp [2, 3, 4, 5, 9, 70, 71, 999999]
 refine k_seq ?_
 replace G := bnd G; obtain ⟨t5, ht5, G⟩ := G
 refine k_rg mixed H (.cons [19] (ok_ld (fun u4 => .agg #[.int .i32 a0.X, .int .i16 a0.V]) 19 70 0 2 (fun u4 => ((u1 0).n 0)) (fun u4 => [.int .i32 a0.X, .int .i16 a0.V]) 75) <|
   .cons [20, 72, 73] (ok_callY true fr [] [999999] (fun u4 => [gk]) [] (fun u4 => []) 23 (fun u4 => #[vI 1, .agg #[.int .i32 a0.X, .int .i16 a0.V]]) (fun u4 => [gk]) (fun u4 => []) (fun u4 g => .tuple #[.agg #[vI t5.1.Id, .slice (g.o 0) ((g.dl er_TSegment gd_TSegment 0 t5.1.Segs).length) (g.n 0)], .bool t5.2]) (fun u4 g => [fun _ => owK 63 6 (g.o 0) ((g.dl er_TSegment gd_TSegment 0 t5.1.Segs).length) (g.n 0) ((g.dl er_TSegment gd_TSegment 0 t5.1.Segs).flatMap en_TSegment), fun fr => dnK fr E_TSegment.toPart (g.dl er_TSegment gd_TSegment 0 t5.1.Segs)]) [72, 73] 20 (fun u4 w hB hF hM => armillarytop_trajectory24.calls k0 1 a0  t5 w  (glob_of hB.1) ht5) (fun u4 w hF => ⟨⟨sub_k hF.1 (.head _), trivial⟩, trivial⟩) (fun u4 g => (fams_cons fam_ow (fams_cons fam_dn fams_nil))) (.inl rfl) (fun _ => hBf)) <|
   .cons [18] (ok_val (fun u4 => .tuple #[.agg #[vI t5.1.Id, .slice ((u4 1).o 0) (((u4 1).dl er_TSegment gd_TSegment 0 t5.1.Segs).length) ((u4 1).n 0)], .bool t5.2]) 18) <|
   .cons [21] (ok_val (fun u4 => .agg #[vI t5.1.Id, .slice ((u4 1).o 0) (((u4 1).dl er_TSegment gd_TSegment 0 t5.1.Segs).length) ((u4 1).n 0)]) 21) <|
   .v 22 (.bool t5.2) <|
   .cons [10, 74] (ok_new (fun b => vP b 0) (fun u4 => [vI 0, .slice none 0 0]) 78 10 74) <|
   .cons [74] (ok_as (u' := fun u4 => [(74, .blk ((u4 5).n 0) [vI t5.1.Id, .slice ((u4 1).o 0) (((u4 1).dl er_TSegment gd_TSegment 0 t5.1.Segs).length) ((u4 1).n 0)] 78)]) (ok_store 74 0 (fun u4 => ((u4 5).n 0)) (fun u4 => [vI 0, .slice none 0 0]) (fun u4 => [vI t5.1.Id, .slice ((u4 1).o 0) (((u4 1).dl er_TSegment gd_TSegment 0 t5.1.Segs).length) ((u4 1).n 0)]) 78) (fun _ => by kernel_rfl)) <|
   .v 11 (.bool t5.2) <| .nil) fun u4 a w' H => ?_
 replace H := H.kp [2, 3, 4, 5, 9, 10, 11, 70, 71, 72, 73, 74, 999999]
 refine k_seq ?_
 replace G := bnd G; obtain ⟨t7, ht7, G⟩ := G
 refine k_rg mixed H (.cons [24] (ok_ld (fun u6 => .agg #[.int .i32 a1.X, .int .i16 a1.V]) 24 71 0 2 (fun u6 => ((u1 1).n 0)) (fun u6 => [.int .i32 a1.X, .int .i16 a1.V]) 75) <|
   .cons [25, 75, 76] (ok_callY true fr [] [999999] (fun u6 => [gk]) [] (fun u6 => []) 23 (fun u6 => #[vI 2, .agg #[.int .i32 a1.X, .int .i16 a1.V]]) (fun u6 => [gk]) (fun u6 => []) (fun u6 g => .tuple #[.agg #[vI t7.1.Id, .slice (g.o 0) ((g.dl er_TSegment gd_TSegment 0 t7.1.Segs).length) (g.n 0)], .bool t7.2]) (fun u6 g => [fun _ => owK 63 6 (g.o 0) ((g.dl er_TSegment gd_TSegment 0 t7.1.Segs).length) (g.n 0) ((g.dl er_TSegment gd_TSegment 0 t7.1.Segs).flatMap en_TSegment), fun fr => dnK fr E_TSegment.toPart (g.dl er_TSegment gd_TSegment 0 t7.1.Segs)]) [75, 76] 25 (fun u6 w hB hF hM => armillarytop_trajectory24.calls k0 2 a1  t7 w  (glob_of hB.1) ht7) (fun u6 w hF => ⟨⟨sub_k hF.1 (.head _), trivial⟩, trivial⟩) (fun u6 g => (fams_cons fam_ow (fams_cons fam_dn fams_nil))) (.inl rfl) (fun _ => hBf)) <|
   .cons [23] (ok_val (fun u6 => .tuple #[.agg #[vI t7.1.Id, .slice ((u6 1).o 0) (((u6 1).dl er_TSegment gd_TSegment 0 t7.1.Segs).length) ((u6 1).n 0)], .bool t7.2]) 23) <|
   .cons [26] (ok_val (fun u6 => .agg #[vI t7.1.Id, .slice ((u6 1).o 0) (((u6 1).dl er_TSegment gd_TSegment 0 t7.1.Segs).length) ((u6 1).n 0)]) 26) <|
   .v 27 (.bool t7.2) <|
   .cons [12, 77] (ok_new (fun b => vP b 0) (fun u6 => [vI 0, .slice none 0 0]) 78 12 77) <|
   .cons [77] (ok_as (u' := fun u6 => [(77, .blk ((u6 5).n 0) [vI t7.1.Id, .slice ((u6 1).o 0) (((u6 1).dl er_TSegment gd_TSegment 0 t7.1.Segs).length) ((u6 1).n 0)] 78)]) (ok_store 77 0 (fun u6 => ((u6 5).n 0)) (fun u6 => [vI 0, .slice none 0 0]) (fun u6 => [vI t7.1.Id, .slice ((u6 1).o 0) (((u6 1).dl er_TSegment gd_TSegment 0 t7.1.Segs).length) ((u6 1).n 0)]) 78) (fun _ => by kernel_rfl)) <|
   .v 13 (.bool t7.2) <| .nil) fun u6 a w' H => ?_
 replace H := H.kp [2, 3, 4, 5, 9, 10, 11, 12, 13, 70, 71, 72, 73, 74, 75, 76, 77, 999999]
 refine k_seq ?_
 refine k_seq ?_
 refine k_rg mixed H (.v 28 (.bool t5.2) <|
   .v 29 (.bool (!t5.2)) <|
   .v 30 (.bool (!t5.2)) <|
   .cons [31] (ok_valg (fun u8 => .bool t7.2) (fun u8 => ((!t5.2) == false)) [true] 31) <|
   .cons [32] (ok_valg (fun u8 => .bool (!t7.2)) (fun u8 => ((!t5.2) == false)) [false] 32) <|
   .cons [33] (ok_or 30 32 (fun u8 => true) (fun u8 => true) (fun u8 => (!t5.2)) (fun u8 => (!t7.2)) 33) <| .nil) fun u8 a w' H => ?_
 replace H := H.kp [2, 3, 4, 5, 9, 10, 12, 33, 70, 71, 72, 73, 74, 75, 76, 77, 999999]
 refine k_cond H (by kernel_rfl) (t := ((!t5.2) || (!t7.2))) (by kernel_rfl) (fun c21 => ?_) (fun c21 => ?_)
 ·rw [if_pos c21] at G
  refine k_seq ?_
  refine k_rg mixed H (.v 8 (.bool false) <| .nil) fun u9 a w' H => ?_
  replace H := H.kp [8, 999999]
  refine k_ret ?_
  obtain rfl := Option.some.inj G
  exact k_done0 H _ (by kernel_rfl) (by kernel_rfl)
 ·rw [if_neg (nt c21)] at G
  refine k_skip ?_
  refine k_seq ?_
  refine k_rg mixed H (.v 34 (.int .u32 a2) <|
   .v 35 (.int .u32 (Int.tmod a2 4194304)) <|
   .v 36 (vI (w_i64 (Int.tmod a2 4194304))) <|
   .v 14 (vI (w_i64 (Int.tmod a2 4194304))) <| .nil) fun u10 a w' H => ?_
  replace H := H.kp [3, 4, 5, 9, 10, 12, 14, 70, 71, 72, 73, 74, 75, 76, 77, 999999]
  refine k_seq ?_
  replace G := bnd G; obtain ⟨t12, ht12, G⟩ := G
  refine k_rg mixed H (.cons [38] (ok_ld (fun u11 => .agg #[vI t5.1.Id, .slice ((u4 1).o 0) (((u4 1).dl er_TSegment gd_TSegment 0 t5.1.Segs).length) ((u4 1).n 0)]) 38 74 0 2 (fun u11 => ((u4 5).n 0)) (fun u11 => [vI t5.1.Id, .slice ((u4 1).o 0) (((u4 1).dl er_TSegment gd_TSegment 0 t5.1.Segs).length) ((u4 1).n 0)]) 78) <|
   .cons [39] (ok_ld (fun u11 => .agg #[vI t7.1.Id, .slice ((u6 1).o 0) (((u6 1).dl er_TSegment gd_TSegment 0 t7.1.Segs).length) ((u6 1).n 0)]) 39 77 0 2 (fun u11 => ((u6 5).n 0)) (fun u11 => [vI t7.1.Id, .slice ((u6 1).o 0) (((u6 1).dl er_TSegment gd_TSegment 0 t7.1.Segs).length) ((u6 1).n 0)]) 78) <|
   .cons [40, 78] (ok_blkrow 2 2 (ok_new (fun b => .slice (some ⟨b, 0, none⟩) 2 2) (fun u11 => [vI t5.1.Id, .slice ((u4 1).o 0) (((u4 1).dl er_TSegment gd_TSegment 0 t5.1.Segs).length) ((u4 1).n 0), vI t7.1.Id, .slice ((u6 1).o 0) (((u6 1).dl er_TSegment gd_TSegment 0 t7.1.Segs).length) ((u6 1).n 0)]) 78 40 78) (fun _ => rfl) (by decide)) <|
   .v 41 (vI (w_i64 (Int.tmod a2 4194304))) <|
   .v 42 (.agg #[vI 1, vI (w_i64 (Int.tmod a2 4194304))]) <|
   .cons [43, 79] (ok_callY false fr [2] [78, 72, 73, 75, 76] (fun u11 => [owK 78 2 (some ⟨((u11 2).n 0), 0, none⟩) 2 2 (([(⟨t5.1.Id, ⟨((u4 1).o 0), ((u4 1).n 0), ((u4 1).dl er_TSegment gd_TSegment 0 t5.1.Segs)⟩⟩ : G_TTrajectory), (⟨t7.1.Id, ⟨((u6 1).o 0), ((u6 1).n 0), ((u6 1).dl er_TSegment gd_TSegment 0 t7.1.Segs)⟩⟩ : G_TTrajectory)] : List G_TTrajectory).flatMap en_TTrajectory), owK 63 6 ((u4 1).o 0) (((u4 1).dl er_TSegment gd_TSegment 0 t5.1.Segs).length) ((u4 1).n 0) (((u4 1).dl er_TSegment gd_TSegment 0 t5.1.Segs).flatMap en_TSegment), dnK fr E_TSegment.toPart ((u4 1).dl er_TSegment gd_TSegment 0 t5.1.Segs), owK 63 6 ((u6 1).o 0) (((u6 1).dl er_TSegment gd_TSegment 0 t7.1.Segs).length) ((u6 1).n 0) (((u6 1).dl er_TSegment gd_TSegment 0 t7.1.Segs).flatMap en_TSegment), dnK fr E_TSegment.toPart ((u6 1).dl er_TSegment gd_TSegment 0 t7.1.Segs)]) [] (fun u11 => []) 24 (fun u11 => #[.slice (some ⟨((u11 2).n 0), 0, none⟩) 2 2, .agg #[vI 1, vI (w_i64 (Int.tmod a2 4194304))]]) (fun u11 => [rdF anyF 2 (some ⟨((u11 2).n 0), 0, none⟩) 2 2 (([(⟨t5.1.Id, ⟨((u4 1).o 0), ((u4 1).n 0), ((u4 1).dl er_TSegment gd_TSegment 0 t5.1.Segs)⟩⟩ : G_TTrajectory), (⟨t7.1.Id, ⟨((u6 1).o 0), ((u6 1).n 0), ((u6 1).dl er_TSegment gd_TSegment 0 t7.1.Segs)⟩⟩ : G_TTrajectory)] : List G_TTrajectory).flatMap en_TTrajectory), dnK anyF E_TTrajectory.toPart ([(⟨t5.1.Id, ⟨((u4 1).o 0), ((u4 1).n 0), ((u4 1).dl er_TSegment gd_TSegment 0 t5.1.Segs)⟩⟩ : G_TTrajectory), (⟨t7.1.Id, ⟨((u6 1).o 0), ((u6 1).n 0), ((u6 1).dl er_TSegment gd_TSegment 0 t7.1.Segs)⟩⟩ : G_TTrajectory)] : List G_TTrajectory)]) (fun u11 => []) (fun u11 g => .tuple #[.slice (g.o 0) t12.1.length (g.n 0), vI t12.2]) (fun u11 g => [fun _ => owK 88 5 (g.o 0) t12.1.length (g.n 0) (t12.1.flatMap en_TVerdict)]) [79] 43 (fun u11 w hB hF hM => screening_Screen.calls k0 ([(⟨t5.1.Id, t5.1.Segs⟩ : TTrajectory), (⟨t7.1.Id, t7.1.Segs⟩ : TTrajectory)] : List TTrajectory) (⟨1, w_i64 (Int.tmod a2 4194304)⟩ : TSeparation) (some ⟨((u11 2).n 0), 0, none⟩) 2 ([(⟨t5.1.Id, ⟨((u4 1).o 0), ((u4 1).n 0), ((u4 1).dl er_TSegment gd_TSegment 0 t5.1.Segs)⟩⟩ : G_TTrajectory), (⟨t7.1.Id, ⟨((u6 1).o 0), ((u6 1).n 0), ((u6 1).dl er_TSegment gd_TSegment 0 t7.1.Segs)⟩⟩ : G_TTrajectory)] : List G_TTrajectory) t12 w (show ([(⟨t5.1.Id, t5.1.Segs⟩ : TTrajectory), (⟨t7.1.Id, t7.1.Segs⟩ : TTrajectory)] : List TTrajectory) = List.map er_TTrajectory ([(⟨t5.1.Id, ⟨((u4 1).o 0), ((u4 1).n 0), ((u4 1).dl er_TSegment gd_TSegment 0 t5.1.Segs)⟩⟩ : G_TTrajectory), (⟨t7.1.Id, ⟨((u6 1).o 0), ((u6 1).n 0), ((u6 1).dl er_TSegment gd_TSegment 0 t7.1.Segs)⟩⟩ : G_TTrajectory)] : List G_TTrajectory) from by show ([(⟨t5.1.Id, t5.1.Segs⟩ : TTrajectory), (⟨t7.1.Id, t7.1.Segs⟩ : TTrajectory)] : List TTrajectory) = ([(⟨t5.1.Id, List.map er_TSegment ((u4 1).dl er_TSegment gd_TSegment 0 t5.1.Segs)⟩ : TTrajectory), (⟨t7.1.Id, List.map er_TSegment ((u6 1).dl er_TSegment gd_TSegment 0 t7.1.Segs)⟩ : TTrajectory)] : List TTrajectory); rw [← (dl_er ergd_TSegment (u4 1) 0 t5.1.Segs), ← (dl_er ergd_TSegment (u6 1) 0 t7.1.Segs)]) hB ht12) (fun u11 w hF => ⟨⟨sub_rd0 (owns_rowC (ow_of hF.1)) (fun j h => ⟨_, (.head _), (fp_own h)⟩), sub_dn0 (E := E_TTrajectory.toPart) (L := ([(⟨t5.1.Id, ⟨((u4 1).o 0), ((u4 1).n 0), ((u4 1).dl er_TSegment gd_TSegment 0 t5.1.Segs)⟩⟩ : G_TTrajectory), (⟨t7.1.Id, ⟨((u6 1).o 0), ((u6 1).n 0), ((u6 1).dl er_TSegment gd_TSegment 0 t7.1.Segs)⟩⟩ : G_TTrajectory)] : List G_TTrajectory)) (rdl_cons ⟨(owns_rowC (ow_of hF.2.1)), (dn_of hF.2.2.1)⟩ (rdl_cons ⟨(owns_rowC (ow_of hF.2.2.2.1)), (dn_of hF.2.2.2.2.1)⟩ rdl_nil)) (fun j => (fun h => (fpl_cons h).elim (fun h => (h.elim (fun h => ⟨_, (.tail _ (.head _)), (fp_own h)⟩) (fun h => ⟨_, (.tail _ (.tail _ (.head _))), h⟩))) (fun h => (fpl_cons h).elim (fun h => (h.elim (fun h => ⟨_, (.tail _ (.tail _ (.tail _ (.head _)))), (fp_own h)⟩) (fun h => ⟨_, (.tail _ (.tail _ (.tail _ (.tail _ (.head _))))), h⟩))) (fun h => by obtain ⟨_, hy, _⟩ := h; cases hy)))), trivial⟩, trivial⟩) (fun u11 g => (fams_cons fam_ow fams_nil)) (.inr (fun u11 g => (famx_cons trivial (fun K h => by cases h)))) (fun h => by cases h) (hloc := fun u u' h => ⟨by first | rfl | simp only [h 2 (by decide)], by first | rfl | simp only [h 2 (by decide)], by first | rfl | simp only [h 2 (by decide)], by first | rfl | simp only [h 2 (by decide)], by first | rfl | simp only [h 2 (by decide)], by first | rfl | simp only [h 2 (by decide)]⟩)) <|
   .cons [37] (ok_val (fun u11 => .tuple #[.slice ((u11 5).o 0) t12.1.length ((u11 5).n 0), vI t12.2]) 37) <|
   .cons [44] (ok_val (fun u11 => .slice ((u11 5).o 0) t12.1.length ((u11 5).n 0)) 44) <|
   .v 45 (vI t12.2) <|
   .cons [15] (ok_val (fun u11 => .slice ((u11 5).o 0) t12.1.length ((u11 5).n 0)) 15) <|
   .v 16 (vI t12.2) <| .nil) fun u11 a w' H => ?_
  replace H := H.kp [3, 4, 5, 9, 14, 15, 16, 70, 71, 79, 999999]
  refine k_seq ?_
  refine k_seq ?_
  refine k_rg mixed H (.v 46 (vI t12.2) <|
   .v 47 (.bool (t12.2 != 0)) <|
   .v 48 (.bool (t12.2 != 0)) <|
   .cons [49] (ok_valg (fun u13 => .slice ((u11 5).o 0) t12.1.length ((u11 5).n 0)) (fun u13 => ((t12.2 != 0) == false)) [true] 49) <|
   .cons [50] (ok_valg (fun u13 => vI (t12.1.length : Int)) (fun u13 => ((t12.2 != 0) == false)) [false] 50) <|
   .cons [51] (ok_valg (fun u13 => .bool ((t12.1.length : Int) != 1)) (fun u13 => ((t12.2 != 0) == false)) [false, true] 51) <|
   .cons [52] (ok_or 48 51 (fun u13 => true) (fun u13 => true) (fun u13 => (t12.2 != 0)) (fun u13 => ((t12.1.length : Int) != 1)) 52) <| .nil) fun u13 a w' H => ?_
  replace H := H.toM [(3, .slot true (.int .u16 a3)), (4, (sP ((u1 0).n 0) 0)), (5, (sP ((u1 1).n 0) 0)), (9, sB t3), (14, (sI (w_i64 (Int.tmod a2 4194304)))), (15, (sS ((u11 5).o 0) t12.1.length ((u11 5).n 0))), (52, (sB ((t12.2 != 0) || ((t12.1.length : Int) != 1)))), (70, .blk ((u1 0).n 0) [.int .i32 a0.X, .int .i16 a0.V] 75), (71, .blk ((u1 1).n 0) [.int .i32 a1.X, .int .i16 a1.V] 75), (79, owK 88 5 ((u11 5).o 0) t12.1.length ((u11 5).n 0) (t12.1.flatMap en_TVerdict)), (999999, gk)]
  refine k_cond H (by kernel_rfl) (t := ((t12.2 != 0) || ((t12.1.length : Int) != 1))) (by kernel_rfl) (fun c20 => ?_) (fun c20 => ?_)
  ·rw [if_pos c20] at G
   refine k_seq ?_
   refine k_rg mixed H (.v 8 (.bool false) <| .nil) fun u14 a w' H => ?_
   replace H := H.kp [8, 999999]
   refine k_ret ?_
   obtain rfl := Option.some.inj G
   exact k_done0 H _ (by kernel_rfl) (by kernel_rfl)
  ·rw [if_neg (nt c20)] at G
   refine k_skip ?_
   refine k_seq ?_
   replace G := gd G; obtain ⟨b16, G⟩ := G
   replace G := bnd G; obtain ⟨t17, ht17, G⟩ := G
   replace G := bnd G; obtain ⟨t18, ht18, G⟩ := G
   replace G := bnd G; obtain ⟨z19, hz19, G⟩ := G
   replace hz19 := Option.some.inj hz19
   refine k_rg mixed H (.v 53 (.bool t3) <|
   .v 54 (.bool t3) <|
   .cons [55] (ok_valg (fun u15 => .slice ((u11 5).o 0) t12.1.length ((u11 5).n 0)) (fun u15 => (t3 == true)) [true] 55) <|
   .cons [56] (ok_valL [79] (fun u15 => [owK 88 5 ((u11 5).o 0) t12.1.length ((u11 5).n 0) (t12.1.flatMap en_TVerdict)]) (fun u15 => .pointer (some ⟨hdB ((u11 5).o 0), hdO ((u11 5).o 0) + ((0 : Int).toNat) * 5, none⟩)) (fun u15 => (t3 == true)) [false, true] 56 (fun u15 w hg hF => ix_row (t := 81) (k := .i64) (i := (0 : Int)) (p := ((u11 5).o 0)) (n := t12.1.length) (cap := ((u11 5).n 0)) (x := t12.1) (en := en_TVerdict) (owns_rowC (ow_of hF.1)).2 en_TVerdict_len rfl (b16 hg) (by kernel_rfl))) <|
   .cons [57] (ok_valg (fun u15 => .pointer (some ⟨hdB ((u11 5).o 0), hdO ((u11 5).o 0) + ((0 : Int).toNat) * 5 + 2, none⟩)) (fun u15 => (t3 == true)) [false] 57) <|
   .cons [58] (ok_valL [79] (fun u15 => [owK 88 5 ((u11 5).o 0) t12.1.length ((u11 5).n 0) (t12.1.flatMap en_TVerdict)]) (fun u15 => vI t17.Kind) (fun u15 => (t3 == true)) [false] 58 (fun u15 w hg hF => ld_row (en := en_TVerdict) (owns_rowC (ow_of hF.1)).2 en_TVerdict_len (ifp ht17 hg) 2 1 [vI t17.Kind] rfl (by kernel_rfl))) <|
   .cons [59] (ok_valg (fun u15 => .bool (t17.Kind != 1)) (fun u15 => (t3 == true)) [false, true] 59) <|
   .cons [60] (ok_valg (fun u15 => .bool (t17.Kind != 1)) (fun u15 => (t3 == true)) [false] 60) <|
   .cons [61] (ok_ldg (fun u15 => .agg #[.int .i32 a0.X, .int .i16 a0.V]) (fun u15 => ((t3 == true) && ((t17.Kind != 1) == false))) [true] 61 70 0 2 (fun u15 => ((u1 0).n 0)) (fun u15 => [.int .i32 a0.X, .int .i16 a0.V]) 75) <|
   .cons [62] (ok_ldg (fun u15 => .agg #[.int .i32 a1.X, .int .i16 a1.V]) (fun u15 => ((t3 == true) && ((t17.Kind != 1) == false))) [true] 62 71 0 2 (fun u15 => ((u1 1).n 0)) (fun u15 => [.int .i32 a1.X, .int .i16 a1.V]) 75) <|
   .cons [63] (ok_valg (fun u15 => .int .u16 a3) (fun u15 => ((t3 == true) && ((t17.Kind != 1) == false))) [true] 63) <|
   .cons [64] (ok_call 25 (fun u15 => #[.agg #[.int .i32 a0.X, .int .i16 a0.V], .agg #[.int .i32 a1.X, .int .i16 a1.V], .int .u16 a3]) (vI t18) (fun u15 => ((t3 == true) && ((t17.Kind != 1) == false))) [true, false, false, false] 64 [] (fun u15 w hg _ => armillarytop_distance24.calls a0 a1 a3  t18 w  (ifp ht18 hg))) <|
   .cons [65] (ok_valg (fun u15 => vI (w_i64 (Int.tmod a2 4194304))) (fun u15 => ((t3 == true) && ((t17.Kind != 1) == false))) [true] 65) <|
   .cons [66] (ok_valg (fun u15 => vI (w_i64 ((w_i64 (Int.tmod a2 4194304)) * 65535))) (fun u15 => ((t3 == true) && ((t17.Kind != 1) == false))) [false, true] 66) <|
   .cons [67] (ok_valg (fun u15 => .bool (decide (t18 > (w_i64 ((w_i64 (Int.tmod a2 4194304)) * 65535))))) (fun u15 => ((t3 == true) && ((t17.Kind != 1) == false))) [false, false] 67) <|
   .cons [68] (ok_or 60 67 (fun u15 => (t3 == true)) (fun u15 => (t3 == true)) (fun u15 => (t17.Kind != 1)) (fun u15 => decide (t18 > (w_i64 ((w_i64 (Int.tmod a2 4194304)) * 65535)))) 68) <|
   .cons [69] (ok_and 54 68 (fun u15 => true) (fun u15 => true) (fun u15 => t3) (fun u15 => ((t17.Kind != 1) || (decide (t18 > (w_i64 ((w_i64 (Int.tmod a2 4194304)) * 65535)))))) 69) <|
   .cons [8] (ok_as (u' := fun u15 => [(8, sB z19)]) (ok_val (fun u15 => .bool (t3 && ((t17.Kind != 1) || (decide (t18 > (w_i64 ((w_i64 (Int.tmod a2 4194304)) * 65535))))))) 8) (fun _ => by rw [← hz19])) <| .nil) fun u15 a w' H => ?_
   replace H := H.kp [8, 999999]
   refine k_ret ?_
   obtain rfl := Option.some.inj G
   exact k_done0 H _ (by kernel_rfl) (by kernel_rfl)
end Go.Proofs.YtpmgpcklieincaaGreatDoor
