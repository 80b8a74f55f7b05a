/- The law TopFlowEnclosesDrift answers as the plain Lean function of its name. Printed by a program of this session. -/
import Derived.Test.YtpmgpcklieincaaGreatDoorFn3
set_option linter.unusedVariables false
set_option linter.unusedSimpArgs false
set_option maxRecDepth 100000
namespace Go.Proofs.YtpmgpcklieincaaGreatDoor
open Go Go.RowKit Go.Sx Go.Proofs
set_option maxHeartbeats 4000000 in
theorem armillarytop_TopFlowEnclosesDrift.calls (k0 : Nat) (a0 : Int) (a1 : Int) (a2 : Int) (a3 : Int) (a4 : Int) (r : Bool) (w : World) (hg : Glob w) (G : armillarytop_TopFlowEnclosesDrift k0 a0 a1 a2 a3 a4 = some r) :
  Calls Tryz.prog 3 #[.int .i16 a0, .int .i32 a1, .int .i8 a2, .int .u8 a3, .int .u16 a4] w fun e w' => e = .returned (.bool r) ∧ Below w.heap.size w w' := by
 obtain ⟨fr, hfr⟩ : ∃ fr : Nat → Prop, ∀ j, fr j := ⟨fun _ => True, fun _ => trivial⟩
 have hBf : ∀ j, w.heap.size ≤ j → fr j := fun j _ => hfr j
 refine k_enterG (args := [.int .i16 a0, .int .i32 a1, .int .i8 a2, .int .u8 a3, .int .u16 a4]) 99 999999 globFp Glob (glob_local hg) (glob_in hg) Tryz.func3 rfl (by kernel_rfl) (by kernel_rfl) fun a H => ?_
 unfold armillarytop_TopFlowEnclosesDrift at G
 refine k_seq ?_
 refine k_rg mixed H (.v 10 (.bool false) <| .nil) fun u1 a w' H => ?_
 replace H := H.kp [0, 1, 2, 3, 4, 999999]
 refine k_seq ?_
 replace G := bnd G; obtain ⟨t3, ht3, G⟩ := G
 refine k_rg mixed H (.cons [21] (ok_callL [999999] (fun u2 => [gk]) 9 (fun u2 => #[]) (.bool t3) 21 (fun u2 w hF => armillarytop_sanity14.calls k0  t3 w  (glob_of hF.1) ht3)) <|
   .v 11 (.bool t3) <| .nil) fun u2 a w' H => ?_
 replace H := H.kp [0, 1, 2, 3, 4, 11, 999999]
 refine k_seq ?_
 replace G := bnd G; obtain ⟨t5, ht5, G⟩ := G
 refine k_rg mixed H (.v 22 (.int .i8 a2) <|
   .v 23 (.int .u8 a3) <|
   .cons [24] (ok_callv 10 (fun u4 => #[.int .u8 2, .int .i8 a2, .int .u8 a3]) (.agg #[vI t5.Ctrl.Order, vI t5.Ctrl.First, vI t5.Ctrl.Least, vI t5.Ctrl.Most, vI t5.Ctrl.Wide, vI t5.T, vI t5.Last]) 24 [] (fun u4 w _ => armillarytop_horizon14.calls 2 a2 a3  t5 w  ht5)) <|
   .cons [12, 99] (ok_new (fun b => vP b 0) (fun u4 => [vI 0, vI 0, vI 0, vI 0, vI 0, vI 0, vI 0]) 29 12 99) <|
   .cons [99] (ok_as (u' := fun u4 => [(99, .blk ((u4 3).n 0) [vI t5.Ctrl.Order, vI t5.Ctrl.First, vI t5.Ctrl.Least, vI t5.Ctrl.Most, vI t5.Ctrl.Wide, vI t5.T, vI t5.Last] 29)]) (ok_store 99 0 (fun u4 => ((u4 3).n 0)) (fun u4 => [vI 0, vI 0, vI 0, vI 0, vI 0, vI 0, vI 0]) (fun u4 => [vI t5.Ctrl.Order, vI t5.Ctrl.First, vI t5.Ctrl.Least, vI t5.Ctrl.Most, vI t5.Ctrl.Wide, vI t5.T, vI t5.Last]) 29) (fun _ => by kernel_rfl)) <| .nil) fun u4 a w' H => ?_
 replace H := H.kp [0, 1, 4, 11, 12, 99, 999999]
 refine k_seq ?_
 refine k_rg mixed H (.v 25 (.int .i16 a0) <|
   .v 26 (vI (w_i64 a0)) <|
   .v 27 (vI (w_i64 ((w_i64 a0) * 16))) <|
   .v 13 (vI (w_i64 ((w_i64 a0) * 16))) <| .nil) fun u6 a w' H => ?_
 replace H := H.kp [1, 4, 11, 12, 13, 99, 999999]
 refine k_seq ?_
 refine k_rg mixed H (.v 28 (.int .i32 a1) <|
   .v 29 (.int .i32 (Int.tmod a1 1048576)) <|
   .v 30 (vI (w_i64 (Int.tmod a1 1048576))) <|
   .v 14 (vI (w_i64 (Int.tmod a1 1048576))) <| .nil) fun u7 a w' H => ?_
 replace H := H.kp [4, 11, 12, 13, 14, 99, 999999]
 refine k_seq ?_
 replace G := bnd G; obtain ⟨t9, ht9, G⟩ := G
 replace G := bnd G; obtain ⟨t10, ht10, G⟩ := G
 replace G := bnd G; obtain ⟨t11, ht11, G⟩ := G
 replace G := bnd G; obtain ⟨t12, ht12, G⟩ := G
 replace G := bnd G; obtain ⟨t13, ht13, G⟩ := G
 refine k_regT mixed H (.v 32 (vI (w_i64 ((w_i64 a0) * 16))) <|
   .cons [33] (ok_callv 14 (fun u8 => #[vI (w_i64 ((w_i64 a0) * 16))]) (.agg #[vI t9.Lo, vI t9.Hi]) 33 [] (fun u8 w _ => armillaryref02_Point.calls (w_i64 ((w_i64 a0) * 16))  t9 w  ht9)) <|
   .cons [34, 100, 101] (ok_callY false fr [] [] (fun u8 => []) [] (fun u8 => []) 13 (fun u8 => #[.agg #[vI t9.Lo, vI t9.Hi]]) (fun u8 => []) (fun u8 => []) (fun u8 g => .agg #[.slice (g.o 0) t10.Names.length (g.n 0), .slice (g.o 1) ((g.dl Sl.l gd_S_TNode 1 t10.F).length) (g.n 1)]) (fun u8 g => [fun _ => owK 9 1 (g.o 0) t10.Names.length (g.n 0) (t10.Names.flatMap en_str), fun _ => nsK 59 61 4 en_TNode (g.o 1) ((g.dl Sl.l gd_S_TNode 1 t10.F).length) (g.n 1) (g.dl Sl.l gd_S_TNode 1 t10.F) (g.dl Sl.l gd_S_TNode 1 t10.F)]) [100, 101] 34 (fun u8 w hB hF hM => armillarytop_drift.calls t9  t10 w  ht10) (fun u8 w hF => ⟨trivial, trivial⟩) (fun u8 g => (fams_cons fam_ow (fams_cons fam_ns fams_nil))) (.inr (fun u8 g => (famx_cons trivial (famx_cons trivial (fun K h => by cases h))))) (fun h => by cases h)) <|
   .cons [35, 102, 103] (ok_callY false fr [2] [100, 101] (fun u8 => [owK 9 1 ((u8 2).o 0) t10.Names.length ((u8 2).n 0) (t10.Names.flatMap en_str), nsK 59 61 4 en_TNode ((u8 2).o 1) (((u8 2).dl Sl.l gd_S_TNode 1 t10.F).length) ((u8 2).n 1) ((u8 2).dl Sl.l gd_S_TNode 1 t10.F) ((u8 2).dl Sl.l gd_S_TNode 1 t10.F)]) [] (fun u8 => []) 12 (fun u8 => #[.agg #[.slice ((u8 2).o 0) t10.Names.length ((u8 2).n 0), .slice ((u8 2).o 1) (((u8 2).dl Sl.l gd_S_TNode 1 t10.F).length) ((u8 2).n 1)]]) (fun u8 => [rdF anyF 1 ((u8 2).o 0) t10.Names.length ((u8 2).n 0) (t10.Names.flatMap en_str), rdF anyF 1 ((u8 2).o 1) (((u8 2).dl Sl.l gd_S_TNode 1 t10.F).length) ((u8 2).n 1) (((u8 2).dl Sl.l gd_S_TNode 1 t10.F).flatMap enSl), dnK anyF E_S_TNode.toPart ((u8 2).dl Sl.l gd_S_TNode 1 t10.F)]) (fun u8 => []) (fun u8 g => .agg #[vI t11.N, .slice (g.o 0) t11.L.length (g.n 0), .slice (g.o 1) t11.Out.length (g.n 1)]) (fun u8 g => [fun _ => owK 110 5 (g.o 0) t11.L.length (g.n 0) (t11.L.flatMap en_TInstruction), fun _ => owK 3 1 (g.o 1) t11.Out.length (g.n 1) (t11.Out.flatMap en_i64)]) [102, 103] 35 (fun u8 w hB hF hM => tape_Compile.calls k0 t10 ((u8 2).o 0) ((u8 2).n 0) ((u8 2).o 1) ((u8 2).n 1) ((u8 2).dl Sl.l gd_S_TNode 1 t10.F) t11 w (dl_er ergd_S_TNode (u8 2) 1 t10.F) hB ht11) (fun u8 w hF => ⟨⟨sub_rd0 (owns_rowC (ow_of hF.1)) (fun j h => ⟨_, (.head _), (fp_own h)⟩), sub_rd0 (ns_of hF.2.1).row (fun j h => ⟨_, (.tail _ (.head _)), (ns_fpH h)⟩), sub_dn0 (ns_of hF.2.1).all (fun j h => ⟨_, (.tail _ (.head _)), (ns_fpA h)⟩), trivial⟩, trivial⟩) (fun u8 g => (fams_cons fam_ow (fams_cons fam_ow fams_nil))) (.inr (fun u8 g => (famx_cons trivial (famx_cons trivial (fun K h => by cases h))))) (fun h => by cases h) (hloc := fun u u' h => ⟨by first | rfl | simp only [h 2 (by decide)], by first | rfl | simp only [h 2 (by decide)], by first | rfl | simp only [h 2 (by decide)], by first | rfl | simp only [h 2 (by decide)], by first | rfl | simp only [h 2 (by decide)], by first | rfl | simp only [h 2 (by decide)]⟩)) <|
   .v 36 (vI (w_i64 (Int.tmod a1 1048576))) <|
   .cons [37] (ok_callv 14 (fun u8 => #[vI (w_i64 (Int.tmod a1 1048576))]) (.agg #[vI t12.Lo, vI t12.Hi]) 37 [] (fun u8 w _ => armillaryref02_Point.calls (w_i64 (Int.tmod a1 1048576))  t12 w  ht12)) <|
   .cons [38, 104, 104] (ok_post (fun u8 => [(104, rdF fr 2 (some ⟨((u8 6).n 0), 0, none⟩) 1 1 (([t12] : List TInterval).flatMap en_TInterval))]) (ok_blkrow 2 1 (ok_new (fun b => .slice (some ⟨b, 0, none⟩) 1 1) (fun u8 => [vI t12.Lo, vI t12.Hi]) 46 38 104) (fun _ => rfl) (by decide)) (fun u8 S a w H => H.demote fr 104 46 2 (some ⟨((u8 6).n 0), 0, none⟩) 1 1 (([t12] : List TInterval).flatMap en_TInterval) (by kernel_rfl) (by decide) hBf)) <|
   .cons [39] (ok_ld (fun u8 => .agg #[vI t5.Ctrl.Order, vI t5.Ctrl.First, vI t5.Ctrl.Least, vI t5.Ctrl.Most, vI t5.Ctrl.Wide, vI t5.T, vI t5.Last]) 39 99 0 7 (fun u8 => ((u4 3).n 0)) (fun u8 => [vI t5.Ctrl.Order, vI t5.Ctrl.First, vI t5.Ctrl.Least, vI t5.Ctrl.Most, vI t5.Ctrl.Wide, vI t5.T, vI t5.Last]) 29) <|
   .cons [40, 105, 106] (ok_callY true fr [3, 6] [102, 103, 104, 999999] (fun u8 => [owK 110 5 ((u8 3).o 0) t11.L.length ((u8 3).n 0) (t11.L.flatMap en_TInstruction), owK 3 1 ((u8 3).o 1) t11.Out.length ((u8 3).n 1) (t11.Out.flatMap en_i64), rdF fr 2 (some ⟨((u8 6).n 0), 0, none⟩) 1 1 (([t12] : List TInterval).flatMap en_TInterval), gk]) [] (fun u8 => []) 11 (fun u8 => #[.agg #[vI t11.N, .slice ((u8 3).o 0) t11.L.length ((u8 3).n 0), .slice ((u8 3).o 1) t11.Out.length ((u8 3).n 1)], .slice (some ⟨((u8 6).n 0), 0, none⟩) 1 1, .agg #[vI t5.Ctrl.Order, vI t5.Ctrl.First, vI t5.Ctrl.Least, vI t5.Ctrl.Most, vI t5.Ctrl.Wide, vI t5.T, vI t5.Last]]) (fun u8 => [rdF anyF 5 ((u8 3).o 0) t11.L.length ((u8 3).n 0) (t11.L.flatMap en_TInstruction), rdF anyF 1 ((u8 3).o 1) t11.Out.length ((u8 3).n 1) (t11.Out.flatMap en_i64), gk]) (fun u8 => [rdF anyF 2 (some ⟨((u8 6).n 0), 0, none⟩) 1 1 (([t12] : List TInterval).flatMap en_TInterval)]) (fun u8 g => .tuple #[.slice (g.o 0) ((g.dl er_TSegment gd_TSegment 0 t13.1).length) (g.n 0), vI t13.2]) (fun u8 g => [fun _ => owK 63 6 (g.o 0) ((g.dl er_TSegment gd_TSegment 0 t13.1).length) (g.n 0) ((g.dl er_TSegment gd_TSegment 0 t13.1).flatMap en_TSegment), fun fr => dnK fr E_TSegment.toPart (g.dl er_TSegment gd_TSegment 0 t13.1)]) [105, 106] 40 (fun u8 w hB hF hM => flow_Integrate.calls k0 t11 ([t12] : List TInterval) (⟨(⟨t5.Ctrl.Order, t5.Ctrl.First, t5.Ctrl.Least, t5.Ctrl.Most, t5.Ctrl.Wide⟩ : TStepControl), t5.T, t5.Last⟩ : THorizon) ((u8 3).o 0) ((u8 3).n 0) ((u8 3).o 1) ((u8 3).n 1) (some ⟨((u8 6).n 0), 0, none⟩) 1 t13 w  hB hF ht13) (fun u8 w hF => ⟨⟨sub_rd0 (owns_rowC (ow_of hF.1)) (fun j h => ⟨_, (.head _), (fp_own h)⟩), sub_rd0 (owns_rowC (ow_of hF.2.1)) (fun j h => ⟨_, (.tail _ (.head _)), (fp_own h)⟩), sub_k hF.2.2.2.1 (.tail _ (.tail _ (.tail _ (.head _)))), trivial⟩, ⟨sub_rd1 (rdF_of hF.2.2.1) (fun j h => ff_of (.tail _ (.tail _ (.head _))) (fun h => h) h (rdF_fr hF.2.2.1 _ h)), trivial⟩⟩) (fun u8 g => (fams_cons fam_ow (fams_cons fam_dn fams_nil))) (.inl rfl) (fun _ => hBf) (hloc := fun u u' h => ⟨by first | rfl | simp only [h 3 (by decide), h 6 (by decide)], by first | rfl | simp only [h 3 (by decide), h 6 (by decide)], by first | rfl | simp only [h 3 (by decide), h 6 (by decide)], by first | rfl | simp only [h 3 (by decide), h 6 (by decide)], by first | rfl | simp only [h 3 (by decide), h 6 (by decide)], by first | rfl | simp only [h 3 (by decide), h 6 (by decide)]⟩)) <|
   .cons [31] (ok_val (fun u8 => .tuple #[.slice ((u8 8).o 0) (((u8 8).dl er_TSegment gd_TSegment 0 t13.1).length) ((u8 8).n 0), vI t13.2]) 31) <|
   .cons [41] (ok_val (fun u8 => .slice ((u8 8).o 0) (((u8 8).dl er_TSegment gd_TSegment 0 t13.1).length) ((u8 8).n 0)) 41) <|
   .v 42 (vI t13.2) <|
   .cons [15] (ok_val (fun u8 => .slice ((u8 8).o 0) (((u8 8).dl er_TSegment gd_TSegment 0 t13.1).length) ((u8 8).n 0)) 15) <|
   .v 16 (vI t13.2) <| .nil) (by kernel_rfl) fun u8 a w' H => ?_
 replace H := H.kp [4, 11, 12, 13, 14, 15, 16, 99, 105, 106, 999999]
 refine k_seq ?_
 refine k_seq ?_
 refine k_rg mixed H (.v 43 (vI t13.2) <|
   .v 44 (.bool (t13.2 != 0)) <| .nil) fun u14 a w' H => ?_
 replace H := H.kp [4, 11, 12, 13, 14, 15, 44, 99, 105, 106, 999999]
 refine k_cond H (by kernel_rfl) (t := (t13.2 != 0)) (by kernel_rfl) (fun c28 => ?_) (fun c28 => ?_)
 ·rw [if_pos c28] at G
  refine k_seq ?_
  refine k_rg mixed H (.v 10 (.bool false) <| .nil) fun u15 a w' H => ?_
  replace H := H.kp [10, 999999]
  refine k_ret ?_
  obtain rfl := Option.some.inj G
  exact k_done0 H _ (by kernel_rfl) (by kernel_rfl)
 ·rw [if_neg (nt c28)] at G
  refine k_skip ?_
  refine k_seq ?_
  refine k_rg mixed H (.v 45 (vP ((u4 3).n 0) 5) <|
   .cons [46] (ok_ld (fun u16 => vI t5.T) 46 99 5 1 (fun u16 => ((u4 3).n 0)) (fun u16 => [vI t5.Ctrl.Order, vI t5.Ctrl.First, vI t5.Ctrl.Least, vI t5.Ctrl.Most, vI t5.Ctrl.Wide, vI t5.T, vI t5.Last]) 29) <|
   .v 47 (vP ((u4 3).n 0) 6) <|
   .cons [48] (ok_ld (fun u16 => vI t5.Last) 48 99 6 1 (fun u16 => ((u4 3).n 0)) (fun u16 => [vI t5.Ctrl.Order, vI t5.Ctrl.First, vI t5.Ctrl.Least, vI t5.Ctrl.Most, vI t5.Ctrl.Wide, vI t5.T, vI t5.Last]) 29) <|
   .v 49 (vP ((u4 3).n 0) 5) <|
   .cons [50] (ok_ld (fun u16 => vI t5.T) 50 99 5 1 (fun u16 => ((u4 3).n 0)) (fun u16 => [vI t5.Ctrl.Order, vI t5.Ctrl.First, vI t5.Ctrl.Least, vI t5.Ctrl.Most, vI t5.Ctrl.Wide, vI t5.T, vI t5.Last]) 29) <|
   .v 51 (vI (w_i64 (t5.Last - t5.T))) <|
   .v 52 (.int .u16 a4) <|
   .v 53 (vI (w_i64 a4)) <|
   .v 54 (vI (w_i64 ((w_i64 (t5.Last - t5.T)) * (w_i64 a4)))) <|
   .v 55 (vI (w_i64 (Int.tdiv (w_i64 ((w_i64 (t5.Last - t5.T)) * (w_i64 a4))) 65535))) <|
   .v 56 (vI (w_i64 (t5.T + (w_i64 (Int.tdiv (w_i64 ((w_i64 (t5.Last - t5.T)) * (w_i64 a4))) 65535))))) <|
   .v 17 (vI (w_i64 (t5.T + (w_i64 (Int.tdiv (w_i64 ((w_i64 (t5.Last - t5.T)) * (w_i64 a4))) 65535))))) <| .nil) fun u16 a w' H => ?_
  replace H := H.toM [(11, sB t3), (12, (sP ((u4 3).n 0) 0)), (13, (sI (w_i64 ((w_i64 a0) * 16)))), (14, (sI (w_i64 (Int.tmod a1 1048576)))), (15, (sS ((u8 8).o 0) (((u8 8).dl er_TSegment gd_TSegment 0 t13.1).length) ((u8 8).n 0))), (17, (sI (w_i64 (t5.T + (w_i64 (Int.tdiv (w_i64 ((w_i64 (t5.Last - t5.T)) * (w_i64 a4))) 65535)))))), (99, .blk ((u4 3).n 0) [vI t5.Ctrl.Order, vI t5.Ctrl.First, vI t5.Ctrl.Least, vI t5.Ctrl.Most, vI t5.Ctrl.Wide, vI t5.T, vI t5.Last] 29), (105, owK 63 6 ((u8 8).o 0) (((u8 8).dl er_TSegment gd_TSegment 0 t13.1).length) ((u8 8).n 0) (((u8 8).dl er_TSegment gd_TSegment 0 t13.1).flatMap en_TSegment)), (106, dnK fr E_TSegment.toPart ((u8 8).dl er_TSegment gd_TSegment 0 t13.1)), (999999, gk)]
  refine k_seq ?_
  replace G := bnd G; obtain ⟨t18, ht18, G⟩ := G
  refine k_rg mixed H (.v 58 (.slice ((u8 8).o 0) (((u8 8).dl er_TSegment gd_TSegment 0 t13.1).length) ((u8 8).n 0)) <|
   .v 59 (vI (w_i64 (t5.T + (w_i64 (Int.tdiv (w_i64 ((w_i64 (t5.Last - t5.T)) * (w_i64 a4))) 65535))))) <|
   .cons [60, 107] (ok_callY true fr [] [105, 106] (fun u17 => [owK 63 6 ((u8 8).o 0) (((u8 8).dl er_TSegment gd_TSegment 0 t13.1).length) ((u8 8).n 0) (((u8 8).dl er_TSegment gd_TSegment 0 t13.1).flatMap en_TSegment), dnK fr E_TSegment.toPart ((u8 8).dl er_TSegment gd_TSegment 0 t13.1)]) [] (fun u17 => []) 15 (fun u17 => #[.slice ((u8 8).o 0) (((u8 8).dl er_TSegment gd_TSegment 0 t13.1).length) ((u8 8).n 0), vI (w_i64 (t5.T + (w_i64 (Int.tdiv (w_i64 ((w_i64 (t5.Last - t5.T)) * (w_i64 a4))) 65535))))]) (fun u17 => [rdF anyF 6 ((u8 8).o 0) (((u8 8).dl er_TSegment gd_TSegment 0 t13.1).length) ((u8 8).n 0) (((u8 8).dl er_TSegment gd_TSegment 0 t13.1).flatMap en_TSegment)]) (fun u17 => [dnK anyF E_TSegment.toPart ((u8 8).dl er_TSegment gd_TSegment 0 t13.1)]) (fun u17 g => .tuple #[.slice (g.o 0) t18.1.length (g.n 0), .bool t18.2]) (fun u17 g => [fun fr => rdF fr 2 (g.o 0) t18.1.length (g.n 0) (t18.1.flatMap en_TInterval)]) [107] 60 (fun u17 w hB hF hM => flow_At.calls k0 t13.1 (w_i64 (t5.T + (w_i64 (Int.tdiv (w_i64 ((w_i64 (t5.Last - t5.T)) * (w_i64 a4))) 65535)))) ((u8 8).o 0) ((u8 8).n 0) ((u8 8).dl er_TSegment gd_TSegment 0 t13.1) t18 w (dl_er ergd_TSegment (u8 8) 0 t13.1) hB hF ht18) (fun u17 w hF => ⟨⟨sub_rd0 (owns_rowC (ow_of hF.1)) (fun j h => ⟨_, (.head _), (fp_own h)⟩), trivial⟩, ⟨sub_dn1 (dn_of hF.2.1) (fun j h => ff_of (.tail _ (.head _)) (fun h => h) h (dn_fr hF.2.1 _ h)), trivial⟩⟩) (fun u17 g => (fams_cons (fam_rd (by decide)) fams_nil)) (.inl rfl) (fun _ => hBf)) <|
   .cons [57] (ok_val (fun u17 => .tuple #[.slice ((u17 2).o 0) t18.1.length ((u17 2).n 0), .bool t18.2]) 57) <|
   .cons [61] (ok_val (fun u17 => .slice ((u17 2).o 0) t18.1.length ((u17 2).n 0)) 61) <|
   .v 62 (.bool t18.2) <|
   .cons [18] (ok_val (fun u17 => .slice ((u17 2).o 0) t18.1.length ((u17 2).n 0)) 18) <|
   .v 19 (.bool t18.2) <| .nil) fun u17 a w' H => ?_
  replace H := H.kp [11, 12, 13, 14, 17, 18, 19, 99, 107, 999999]
  refine k_seq ?_
  replace G := bnd G; obtain ⟨z20, hz20, G⟩ := G
  replace hz20 := Option.some.inj hz20
  replace G := bnd G; obtain ⟨z21, hz21, G⟩ := G
  replace hz21 := Option.some.inj hz21
  refine k_rg mixed H (.v 63 (vI (w_i64 (Int.tmod a1 1048576))) <|
   .v 64 (vI (w_i64 ((w_i64 (Int.tmod a1 1048576)) * 65536))) <|
   .v 65 (vI (w_i64 ((w_i64 a0) * 16))) <|
   .v 66 (vI (w_i64 (t5.T + (w_i64 (Int.tdiv (w_i64 ((w_i64 (t5.Last - t5.T)) * (w_i64 a4))) 65535))))) <|
   .v 67 (vP ((u4 3).n 0) 5) <|
   .cons [68] (ok_ld (fun u19 => vI t5.T) 68 99 5 1 (fun u19 => ((u4 3).n 0)) (fun u19 => [vI t5.Ctrl.Order, vI t5.Ctrl.First, vI t5.Ctrl.Least, vI t5.Ctrl.Most, vI t5.Ctrl.Wide, vI t5.T, vI t5.Last]) 29) <|
   .cons [69] (ok_as (u' := fun u19 => [(69, sI z20)]) (ok_val (fun u19 => vI (w_i64 ((w_i64 (t5.T + (w_i64 (Int.tdiv (w_i64 ((w_i64 (t5.Last - t5.T)) * (w_i64 a4))) 65535)))) - t5.T))) 69) (fun _ => by rw [← hz20])) <|
   .v 70 (vI (w_i64 ((w_i64 ((w_i64 a0) * 16)) * z20))) <|
   .cons [71] (ok_as (u' := fun u19 => [(71, sI z21)]) (ok_val (fun u19 => vI (w_i64 ((w_i64 ((w_i64 (Int.tmod a1 1048576)) * 65536)) + (w_i64 ((w_i64 ((w_i64 a0) * 16)) * z20))))) 71) (fun _ => by rw [← hz21])) <|
   .v 20 (vI z21) <| .nil) fun u19 a w' H => ?_
  replace H := H.kp [11, 18, 19, 20, 107, 999999]
  refine k_seq ?_
  replace G := gd G; obtain ⟨b23, G⟩ := G
  replace G := bnd G; obtain ⟨t24, ht24, G⟩ := G
  replace G := bnd G; obtain ⟨z25, hz25, G⟩ := G
  replace hz25 := Option.some.inj hz25
  replace G := gd G; obtain ⟨b26, G⟩ := G
  replace G := bnd G; obtain ⟨t27, ht27, G⟩ := G
  refine k_rg mixed H (.v 72 (.bool t3) <|
   .v 73 (.bool t3) <|
   .cons [74] (ok_valg (fun u22 => .bool t18.2) (fun u22 => (t3 == true)) [true] 74) <|
   .cons [75] (ok_and 73 74 (fun u22 => true) (fun u22 => true) (fun u22 => t3) (fun u22 => t18.2) 75) <|
   .v 76 (.bool (t3 && t18.2)) <|
   .cons [77] (ok_valg (fun u22 => .slice ((u17 2).o 0) t18.1.length ((u17 2).n 0)) (fun u22 => ((t3 && t18.2) == true)) [true] 77) <|
   .cons [78] (ok_valg (fun u22 => vI (t18.1.length : Int)) (fun u22 => ((t3 && t18.2) == true)) [false] 78) <|
   .cons [79] (ok_valg (fun u22 => .bool ((t18.1.length : Int) == 1)) (fun u22 => ((t3 && t18.2) == true)) [false, true] 79) <|
   .cons [80] (ok_and 76 79 (fun u22 => true) (fun u22 => true) (fun u22 => (t3 && t18.2)) (fun u22 => ((t18.1.length : Int) == 1)) 80) <|
   .v 81 (.bool ((t3 && t18.2) && ((t18.1.length : Int) == 1))) <|
   .cons [82] (ok_valg (fun u22 => .slice ((u17 2).o 0) t18.1.length ((u17 2).n 0)) (fun u22 => (((t3 && t18.2) && ((t18.1.length : Int) == 1)) == true)) [true] 82) <|
   .cons [83] (ok_valL [107] (fun u22 => [rdF fr 2 ((u17 2).o 0) t18.1.length ((u17 2).n 0) (t18.1.flatMap en_TInterval)]) (fun u22 => .pointer (some ⟨hdB ((u17 2).o 0), hdO ((u17 2).o 0) + ((0 : Int).toNat) * 2, none⟩)) (fun u22 => (((t3 && t18.2) && ((t18.1.length : Int) == 1)) == true)) [false, true] 83 (fun u22 w hg hF => ix_row (t := 48) (k := .i64) (i := (0 : Int)) (p := ((u17 2).o 0)) (n := t18.1.length) (cap := ((u17 2).n 0)) (x := t18.1) (en := en_TInterval) (rdF_of hF.1).2 en_TInterval_len rfl (b23 hg) (by kernel_rfl))) <|
   .cons [84] (ok_valg (fun u22 => .pointer (some ⟨hdB ((u17 2).o 0), hdO ((u17 2).o 0) + ((0 : Int).toNat) * 2 + 0, none⟩)) (fun u22 => (((t3 && t18.2) && ((t18.1.length : Int) == 1)) == true)) [false] 84) <|
   .cons [85] (ok_valL [107] (fun u22 => [rdF fr 2 ((u17 2).o 0) t18.1.length ((u17 2).n 0) (t18.1.flatMap en_TInterval)]) (fun u22 => vI t24.Lo) (fun u22 => (((t3 && t18.2) && ((t18.1.length : Int) == 1)) == true)) [false] 85 (fun u22 w hg hF => ld_row (en := en_TInterval) (rdF_of hF.1).2 en_TInterval_len (ifp ht24 hg) 0 1 [vI t24.Lo] rfl (by kernel_rfl))) <|
   .cons [86] (ok_valg (fun u22 => vI (w_i64 (t24.Lo * 65536))) (fun u22 => (((t3 && t18.2) && ((t18.1.length : Int) == 1)) == true)) [false, true] 86) <|
   .cons [87] (ok_valg (fun u22 => vI z21) (fun u22 => (((t3 && t18.2) && ((t18.1.length : Int) == 1)) == true)) [true] 87) <|
   .cons [88] (ok_valg (fun u22 => .bool (decide ((w_i64 (t24.Lo * 65536)) ≤ z21))) (fun u22 => (((t3 && t18.2) && ((t18.1.length : Int) == 1)) == true)) [false, false] 88) <|
   .cons [89] (ok_and 81 88 (fun u22 => true) (fun u22 => true) (fun u22 => ((t3 && t18.2) && ((t18.1.length : Int) == 1))) (fun u22 => decide ((w_i64 (t24.Lo * 65536)) ≤ z21)) 89) <|
   .cons [90] (ok_as (u' := fun u22 => [(90, sB z25)]) (ok_val (fun u22 => .bool (((t3 && t18.2) && ((t18.1.length : Int) == 1)) && (decide ((w_i64 (t24.Lo * 65536)) ≤ z21)))) 90) (fun _ => by rw [← hz25])) <|
   .cons [91] (ok_valg (fun u22 => vI z21) (fun u22 => (z25 == true)) [true] 91) <|
   .cons [92] (ok_valg (fun u22 => .slice ((u17 2).o 0) t18.1.length ((u17 2).n 0)) (fun u22 => (z25 == true)) [true] 92) <|
   .cons [93] (ok_valL [107] (fun u22 => [rdF fr 2 ((u17 2).o 0) t18.1.length ((u17 2).n 0) (t18.1.flatMap en_TInterval)]) (fun u22 => .pointer (some ⟨hdB ((u17 2).o 0), hdO ((u17 2).o 0) + ((0 : Int).toNat) * 2, none⟩)) (fun u22 => (z25 == true)) [false, true] 93 (fun u22 w hg hF => ix_row (t := 48) (k := .i64) (i := (0 : Int)) (p := ((u17 2).o 0)) (n := t18.1.length) (cap := ((u17 2).n 0)) (x := t18.1) (en := en_TInterval) (rdF_of hF.1).2 en_TInterval_len rfl (b26 hg) (by kernel_rfl))) <|
   .cons [94] (ok_valg (fun u22 => .pointer (some ⟨hdB ((u17 2).o 0), hdO ((u17 2).o 0) + ((0 : Int).toNat) * 2 + 1, none⟩)) (fun u22 => (z25 == true)) [false] 94) <|
   .cons [95] (ok_valL [107] (fun u22 => [rdF fr 2 ((u17 2).o 0) t18.1.length ((u17 2).n 0) (t18.1.flatMap en_TInterval)]) (fun u22 => vI t27.Hi) (fun u22 => (z25 == true)) [false] 95 (fun u22 w hg hF => ld_row (en := en_TInterval) (rdF_of hF.1).2 en_TInterval_len (ifp ht27 hg) 1 1 [vI t27.Hi] rfl (by kernel_rfl))) <|
   .cons [96] (ok_valg (fun u22 => vI (w_i64 (t27.Hi * 65536))) (fun u22 => (z25 == true)) [false, true] 96) <|
   .cons [97] (ok_valg (fun u22 => .bool (decide (z21 ≤ (w_i64 (t27.Hi * 65536))))) (fun u22 => (z25 == true)) [false, false] 97) <|
   .cons [98] (ok_and 90 97 (fun u22 => true) (fun u22 => true) (fun u22 => z25) (fun u22 => decide (z21 ≤ (w_i64 (t27.Hi * 65536)))) 98) <|
   .v 10 (.bool (z25 && (decide (z21 ≤ (w_i64 (t27.Hi * 65536)))))) <| .nil) fun u22 a w' H => ?_
  replace H := H.kp [10, 999999]
  refine k_ret ?_
  obtain rfl := Option.some.inj G
  exact k_done0 H _ (by kernel_rfl) (by kernel_rfl)
end Go.Proofs.YtpmgpcklieincaaGreatDoor
