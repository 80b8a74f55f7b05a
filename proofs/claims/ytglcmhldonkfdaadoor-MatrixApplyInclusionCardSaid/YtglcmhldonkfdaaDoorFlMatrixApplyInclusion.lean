/- The law MatrixApplyInclusion answers as the plain Lean function of its name. Printed by a program of this session. -/
import Derived.Test.YtglcmhldonkfdaaDoorFn3
set_option linter.unusedVariables false
set_option linter.unusedSimpArgs false
set_option maxRecDepth 100000
namespace Go.Proofs.YtglcmhldonkfdaaDoor
open Go Go.RowKit Go.Sx Go.Proofs
set_option maxHeartbeats 4000000 in
theorem armillarylaw04_MatrixApplyInclusion.calls (k0 : Nat) (a0 : TOperands) (a1 : List Int) (a2 : List Int) (p_a0_A : Option Addr) (c_a0_A : Nat) (p_a0_B : Option Addr) (c_a0_B : Nat) (p_a0_X : Option Addr) (c_a0_X : Nat) (p_a1 : Option Addr) (c_a1 : Nat) (p_a2 : Option Addr) (c_a2 : Nat) (r : Bool) (w : World) (hB : AllH [rdl anyF 2 p_a0_A c_a0_A a0.A en_TInterval, rdl anyF 2 p_a0_B c_a0_B a0.B en_TInterval, rdl anyF 2 p_a0_X c_a0_X a0.X en_TInterval, rdl anyF 1 p_a1 c_a1 a1 en_u16, rdl anyF 1 p_a2 c_a2 a2 en_u16, gk] w) (G : armillarylaw04_MatrixApplyInclusion k0 a0 a1 a2 = some r) :
  Calls Tryd.prog 3 #[.agg #[.slice p_a0_A a0.A.length c_a0_A, .slice p_a0_B a0.B.length c_a0_B, .slice p_a0_X a0.X.length c_a0_X, .int .u8 a0.N], .slice p_a1 a1.length c_a1, .slice p_a2 a2.length c_a2] w fun e w' => e = .returned (.bool r) ∧ Below w.heap.size w w' := by
 obtain ⟨fr, hfr⟩ : ∃ fr : Nat → Prop, ∀ j, fr j := ⟨fun _ => True, fun _ => trivial⟩
 have hBf : ∀ j, w.heap.size ≤ j → fr j := fun j _ => hfr j
 refine k_enterF (args := [.agg #[.slice p_a0_A a0.A.length c_a0_A, .slice p_a0_B a0.B.length c_a0_B, .slice p_a0_X a0.X.length c_a0_X, .int .u8 a0.N], .slice p_a1 a1.length c_a1, .slice p_a2 a2.length c_a2]) 63 [(63, rdl anyF 2 p_a0_A c_a0_A a0.A en_TInterval), (64, rdl anyF 2 p_a0_B c_a0_B a0.B en_TInterval), (65, rdl anyF 2 p_a0_X c_a0_X a0.X en_TInterval), (66, rdl anyF 1 p_a1 c_a1 a1 en_u16), (67, rdl anyF 1 p_a2 c_a2 a2 en_u16), (999999, gk)] (by
  intro x hx
  simp only [List.mem_cons, List.not_mem_nil, or_false] at hx
  rcases hx with rfl | rfl | rfl | rfl | rfl | rfl
  ·exact rdF_fact (rdF_of hB.1) (fun _ _ => trivial) (by decide) _
  ·exact rdF_fact (rdF_of hB.2.1) (fun _ _ => trivial) (by decide) _
  ·exact rdF_fact (rdF_of hB.2.2.1) (fun _ _ => trivial) (by decide) _
  ·exact rdF_fact (rdF_of hB.2.2.2.1) (fun _ _ => trivial) (by decide) _
  ·exact rdF_fact (rdF_of hB.2.2.2.2.1) (fun _ _ => trivial) (by decide) _
  ·exact ⟨⟨_, _, rfl⟩, hB.2.2.2.2.2.1, glob_in (glob_of hB.2.2.2.2.2.1)⟩) Tryd.func3 rfl (by kernel_rfl) (by kernel_rfl) fun a H => ?_
 unfold armillarylaw04_MatrixApplyInclusion at G
 refine k_seq ?_
 refine k_rg mixed H (.cons [3, 68] (ok_new (fun b => vP b 0) (fun u1 => [.slice p_a0_A a0.A.length c_a0_A, .slice p_a0_B a0.B.length c_a0_B, .slice p_a0_X a0.X.length c_a0_X, .int .u8 a0.N]) 24 3 68) <|
   .v 6 (.bool false) <| .nil) fun u1 a w' H => ?_
 replace H := H.kp [1, 2, 3, 63, 64, 65, 66, 67, 68, 999999]
 refine k_seq ?_
 replace G := bnd G; obtain ⟨t3, ht3, G⟩ := G
 refine k_rg mixed H (.cons [15] (ok_callL [999999] (fun u2 => [gk]) 11 (fun u2 => #[]) (.bool t3) 15 (fun u2 w hF => armillarylaw04_sanity.calls k0  t3 w  (glob_of hF.1) ht3)) <|
   .v 7 (.bool t3) <| .nil) fun u2 a w' H => ?_
 replace H := H.kp [1, 2, 3, 7, 63, 64, 65, 66, 67, 68, 999999]
 refine k_seq ?_
 replace G := bnd G; obtain ⟨t5, ht5, G⟩ := G
 refine k_rg mixed H (.cons [17] (ok_ld (fun u4 => .agg #[.slice p_a0_A a0.A.length c_a0_A, .slice p_a0_B a0.B.length c_a0_B, .slice p_a0_X a0.X.length c_a0_X, .int .u8 a0.N]) 17 68 0 4 (fun u4 => ((u1 0).n 0)) (fun u4 => [.slice p_a0_A a0.A.length c_a0_A, .slice p_a0_B a0.B.length c_a0_B, .slice p_a0_X a0.X.length c_a0_X, .int .u8 a0.N]) 24) <|
   .cons [18, 69, 70, 71] (ok_callY false fr [] [63, 64, 65] (fun u4 => [rdl anyF 2 p_a0_A c_a0_A a0.A en_TInterval, rdl anyF 2 p_a0_B c_a0_B a0.B en_TInterval, rdl anyF 2 p_a0_X c_a0_X a0.X en_TInterval]) [] (fun u4 => []) 12 (fun u4 => #[.agg #[.slice p_a0_A a0.A.length c_a0_A, .slice p_a0_B a0.B.length c_a0_B, .slice p_a0_X a0.X.length c_a0_X, .int .u8 a0.N]]) (fun u4 => [rdl anyF 2 p_a0_A c_a0_A a0.A en_TInterval, rdl anyF 2 p_a0_B c_a0_B a0.B en_TInterval, rdl anyF 2 p_a0_X c_a0_X a0.X en_TInterval]) (fun u4 => []) (fun u4 g => .tuple #[.slice (g.o 0) ((g.dl Sl.l gd_S_TInterval 0 t5.1).length) (g.n 0), .slice (g.o 1) ((g.dl Sl.l gd_S_TInterval 1 t5.2.1).length) (g.n 1), .slice (g.o 2) t5.2.2.length (g.n 2)]) (fun u4 g => [fun _ => nsK 22 37 2 en_TInterval (g.o 0) ((g.dl Sl.l gd_S_TInterval 0 t5.1).length) (g.n 0) (g.dl Sl.l gd_S_TInterval 0 t5.1) (g.dl Sl.l gd_S_TInterval 0 t5.1), fun _ => nsK 22 37 2 en_TInterval (g.o 1) ((g.dl Sl.l gd_S_TInterval 1 t5.2.1).length) (g.n 1) (g.dl Sl.l gd_S_TInterval 1 t5.2.1) (g.dl Sl.l gd_S_TInterval 1 t5.2.1), fun _ => owK 37 2 (g.o 2) t5.2.2.length (g.n 2) (t5.2.2.flatMap en_TInterval)]) [69, 70, 71] 18 (fun u4 w hB hF hM => armillarylaw04_small.calls k0 (⟨a0.A, a0.B, a0.X, a0.N⟩ : TOperands) p_a0_A c_a0_A p_a0_B c_a0_B p_a0_X c_a0_X t5 w  hB ht5) (fun u4 w hF => ⟨⟨sub_rd0 (rdF_of hF.1) (fun j h => ⟨_, (.head _), h⟩), sub_rd0 (rdF_of hF.2.1) (fun j h => ⟨_, (.tail _ (.head _)), h⟩), sub_rd0 (rdF_of hF.2.2.1) (fun j h => ⟨_, (.tail _ (.tail _ (.head _))), h⟩), trivial⟩, trivial⟩) (fun u4 g => (fams_cons fam_ns (fams_cons fam_ns (fams_cons fam_ow fams_nil)))) (.inr (fun u4 g => (famx_cons trivial (famx_cons trivial (famx_cons trivial (fun K h => by cases h)))))) (fun h => by cases h)) <|
   .cons [16] (ok_val (fun u4 => .tuple #[.slice ((u4 1).o 0) (((u4 1).dl Sl.l gd_S_TInterval 0 t5.1).length) ((u4 1).n 0), .slice ((u4 1).o 1) (((u4 1).dl Sl.l gd_S_TInterval 1 t5.2.1).length) ((u4 1).n 1), .slice ((u4 1).o 2) t5.2.2.length ((u4 1).n 2)]) 16) <|
   .cons [19] (ok_val (fun u4 => .slice ((u4 1).o 0) (((u4 1).dl Sl.l gd_S_TInterval 0 t5.1).length) ((u4 1).n 0)) 19) <|
   .cons [20] (ok_val (fun u4 => .slice ((u4 1).o 1) (((u4 1).dl Sl.l gd_S_TInterval 1 t5.2.1).length) ((u4 1).n 1)) 20) <|
   .cons [21] (ok_val (fun u4 => .slice ((u4 1).o 2) t5.2.2.length ((u4 1).n 2)) 21) <|
   .cons [8] (ok_val (fun u4 => .slice ((u4 1).o 0) (((u4 1).dl Sl.l gd_S_TInterval 0 t5.1).length) ((u4 1).n 0)) 8) <|
   .cons [9] (ok_val (fun u4 => .slice ((u4 1).o 1) (((u4 1).dl Sl.l gd_S_TInterval 1 t5.2.1).length) ((u4 1).n 1)) 9) <|
   .cons [10] (ok_val (fun u4 => .slice ((u4 1).o 2) t5.2.2.length ((u4 1).n 2)) 10) <| .nil) fun u4 a w' H => ?_
 replace H := H.kp [1, 2, 7, 8, 10, 66, 67, 69, 71, 999999]
 refine k_seq ?_
 replace G := bnd G; obtain ⟨t7, ht7, G⟩ := G
 replace G := bnd G; obtain ⟨t8, ht8, G⟩ := G
 refine k_rg mixed H (.v 22 (.slice ((u4 1).o 0) (((u4 1).dl Sl.l gd_S_TInterval 0 t5.1).length) ((u4 1).n 0)) <|
   .v 23 (.slice p_a1 a1.length c_a1) <|
   .cons [24, 72] (ok_callY false fr [] [69, 66] (fun u6 => [nsK 22 37 2 en_TInterval ((u4 1).o 0) (((u4 1).dl Sl.l gd_S_TInterval 0 t5.1).length) ((u4 1).n 0) ((u4 1).dl Sl.l gd_S_TInterval 0 t5.1) ((u4 1).dl Sl.l gd_S_TInterval 0 t5.1), rdl anyF 1 p_a1 c_a1 a1 en_u16]) [] (fun u6 => []) 13 (fun u6 => #[.slice ((u4 1).o 0) (((u4 1).dl Sl.l gd_S_TInterval 0 t5.1).length) ((u4 1).n 0), .slice p_a1 a1.length c_a1]) (fun u6 => [rdF anyF 1 ((u4 1).o 0) (((u4 1).dl Sl.l gd_S_TInterval 0 t5.1).length) ((u4 1).n 0) (((u4 1).dl Sl.l gd_S_TInterval 0 t5.1).flatMap enSl), dnK anyF E_S_TInterval.toPart ((u4 1).dl Sl.l gd_S_TInterval 0 t5.1), rdl anyF 1 p_a1 c_a1 a1 en_u16]) (fun u6 => []) (fun u6 g => .slice (g.o 0) ((g.dl Sl.l gd_S_i64 0 t7).length) (g.n 0)) (fun u6 g => [fun _ => nsK 32 2 1 en_i64 (g.o 0) ((g.dl Sl.l gd_S_i64 0 t7).length) (g.n 0) (g.dl Sl.l gd_S_i64 0 t7) (g.dl Sl.l gd_S_i64 0 t7)]) [72] 24 (fun u6 w hB hF hM => armillaryref04_Sample.calls k0 t5.1 a1 ((u4 1).o 0) ((u4 1).n 0) ((u4 1).dl Sl.l gd_S_TInterval 0 t5.1) p_a1 c_a1 t7 w (dl_er ergd_S_TInterval (u4 1) 0 t5.1) hB ht7) (fun u6 w hF => ⟨⟨sub_rd0 (ns_of hF.1).row (fun j h => ⟨_, (.head _), (ns_fpH h)⟩), sub_dn0 (ns_of hF.1).all (fun j h => ⟨_, (.head _), (ns_fpA h)⟩), sub_rd0 (rdF_of hF.2.1) (fun j h => ⟨_, (.tail _ (.head _)), h⟩), trivial⟩, trivial⟩) (fun u6 g => (fams_cons fam_ns fams_nil)) (.inr (fun u6 g => (famx_cons trivial (fun K h => by cases h)))) (fun h => by cases h)) <|
   .v 25 (.slice ((u4 1).o 2) t5.2.2.length ((u4 1).n 2)) <|
   .v 26 (.slice p_a2 a2.length c_a2) <|
   .cons [27, 73] (ok_callY false fr [] [71, 67] (fun u6 => [owK 37 2 ((u4 1).o 2) t5.2.2.length ((u4 1).n 2) (t5.2.2.flatMap en_TInterval), rdl anyF 1 p_a2 c_a2 a2 en_u16]) [] (fun u6 => []) 14 (fun u6 => #[.slice ((u4 1).o 2) t5.2.2.length ((u4 1).n 2), .slice p_a2 a2.length c_a2]) (fun u6 => [rdF anyF 2 ((u4 1).o 2) t5.2.2.length ((u4 1).n 2) (t5.2.2.flatMap en_TInterval), rdl anyF 1 p_a2 c_a2 a2 en_u16]) (fun u6 => []) (fun u6 g => .slice (g.o 0) t8.length (g.n 0)) (fun u6 g => [fun _ => owK 2 1 (g.o 0) t8.length (g.n 0) (t8.flatMap en_i64)]) [73] 27 (fun u6 w hB hF hM => armillaryref03_PointIn.calls k0 t5.2.2 a2 ((u4 1).o 2) ((u4 1).n 2) p_a2 c_a2 t8 w  hB ht8) (fun u6 w hF => ⟨⟨sub_rd0 (owns_rowC (ow_of hF.1)) (fun j h => ⟨_, (.head _), (fp_own h)⟩), sub_rd0 (rdF_of hF.2.1) (fun j h => ⟨_, (.tail _ (.head _)), h⟩), trivial⟩, trivial⟩) (fun u6 g => (fams_cons fam_ow fams_nil)) (.inr (fun u6 g => (famx_cons trivial (fun K h => by cases h)))) (fun h => by cases h)) <|
   .cons [11] (ok_val (fun u6 => .slice ((u6 2).o 0) (((u6 2).dl Sl.l gd_S_i64 0 t7).length) ((u6 2).n 0)) 11) <|
   .cons [12] (ok_val (fun u6 => .slice ((u6 5).o 0) t8.length ((u6 5).n 0)) 12) <| .nil) fun u6 a w' H => ?_
 replace H := H.kp [7, 8, 10, 11, 12, 69, 71, 72, 73, 999999]
 refine k_seq ?_
 replace G := bnd G; obtain ⟨t10, ht10, G⟩ := G
 refine k_rg mixed H (.v 28 (.slice ((u4 1).o 0) (((u4 1).dl Sl.l gd_S_TInterval 0 t5.1).length) ((u4 1).n 0)) <|
   .v 29 (.slice ((u4 1).o 2) t5.2.2.length ((u4 1).n 2)) <|
   .cons [30, 74] (ok_callY false fr [] [69, 71, 999999] (fun u9 => [nsK 22 37 2 en_TInterval ((u4 1).o 0) (((u4 1).dl Sl.l gd_S_TInterval 0 t5.1).length) ((u4 1).n 0) ((u4 1).dl Sl.l gd_S_TInterval 0 t5.1) ((u4 1).dl Sl.l gd_S_TInterval 0 t5.1), owK 37 2 ((u4 1).o 2) t5.2.2.length ((u4 1).n 2) (t5.2.2.flatMap en_TInterval), gk]) [] (fun u9 => []) 15 (fun u9 => #[.slice ((u4 1).o 0) (((u4 1).dl Sl.l gd_S_TInterval 0 t5.1).length) ((u4 1).n 0), .slice ((u4 1).o 2) t5.2.2.length ((u4 1).n 2)]) (fun u9 => [rdF anyF 1 ((u4 1).o 0) (((u4 1).dl Sl.l gd_S_TInterval 0 t5.1).length) ((u4 1).n 0) (((u4 1).dl Sl.l gd_S_TInterval 0 t5.1).flatMap enSl), dnK anyF E_S_TInterval.toPart ((u4 1).dl Sl.l gd_S_TInterval 0 t5.1), rdF anyF 2 ((u4 1).o 2) t5.2.2.length ((u4 1).n 2) (t5.2.2.flatMap en_TInterval), gk]) (fun u9 => []) (fun u9 g => .slice (g.o 0) t10.length (g.n 0)) (fun u9 g => [fun _ => owK 37 2 (g.o 0) t10.length (g.n 0) (t10.flatMap en_TInterval)]) [74] 30 (fun u9 w hB hF hM => matrix_Apply.calls k0 t5.1 t5.2.2 ((u4 1).o 0) ((u4 1).n 0) ((u4 1).dl Sl.l gd_S_TInterval 0 t5.1) ((u4 1).o 2) ((u4 1).n 2) t10 w (dl_er ergd_S_TInterval (u4 1) 0 t5.1) hB ht10) (fun u9 w hF => ⟨⟨sub_rd0 (ns_of hF.1).row (fun j h => ⟨_, (.head _), (ns_fpH h)⟩), sub_dn0 (ns_of hF.1).all (fun j h => ⟨_, (.head _), (ns_fpA h)⟩), sub_rd0 (owns_rowC (ow_of hF.2.1)) (fun j h => ⟨_, (.tail _ (.head _)), (fp_own h)⟩), sub_k hF.2.2.1 (.tail _ (.tail _ (.head _))), trivial⟩, trivial⟩) (fun u9 g => (fams_cons fam_ow fams_nil)) (.inr (fun u9 g => (famx_cons trivial (fun K h => by cases h)))) (fun h => by cases h)) <|
   .cons [13] (ok_val (fun u9 => .slice ((u9 2).o 0) t10.length ((u9 2).n 0)) 13) <| .nil) fun u9 a w' H => ?_
 replace H := H.kp [7, 11, 12, 13, 72, 73, 74, 999999]
 refine k_seq ?_
 refine k_seq ?_
 refine k_rg mixed H (.v 31 (.slice ((u9 2).o 0) t10.length ((u9 2).n 0)) <|
   .v 32 (vI (t10.length : Int)) <|
   .v 33 (.slice ((u6 2).o 0) (((u6 2).dl Sl.l gd_S_i64 0 t7).length) ((u6 2).n 0)) <|
   .cons [34] (ok_valL [72] (fun u11 => [nsK 32 2 1 en_i64 ((u6 2).o 0) (((u6 2).dl Sl.l gd_S_i64 0 t7).length) ((u6 2).n 0) ((u6 2).dl Sl.l gd_S_i64 0 t7) ((u6 2).dl Sl.l gd_S_i64 0 t7)]) (fun u11 => vI (t7.length : Int)) (fun u11 => true) [true] 34 (fun u11 w hg hF => run_lenN (((ns_of hF.1).row.2.len enSl_len (by decide)).trans (map_len (dl_er ergd_S_i64 (u6 2) 0 t7)).symm) (by kernel_rfl))) <|
   .v 35 (.bool ((t10.length : Int) != (t7.length : Int))) <| .nil) fun u11 a w' H => ?_
 replace H := H.kp [7, 11, 12, 13, 35, 72, 73, 74, 999999]
 refine k_cond H (by kernel_rfl) (t := ((t10.length : Int) != (t7.length : Int))) (by kernel_rfl) (fun c38 => ?_) (fun c38 => ?_)
 ·rw [if_pos c38] at G
  refine k_seq ?_
  refine k_rg mixed H (.v 6 (.bool false) <| .nil) fun u12 a w' H => ?_
  replace H := H.kp [6, 999999]
  refine k_ret ?_
  obtain rfl := Option.some.inj G
  exact k_done0 H _ (by kernel_rfl) (by kernel_rfl)
 ·rw [if_neg (nt c38)] at G
  refine k_skip ?_
  refine k_seq ?_
  replace G := bnd G; obtain ⟨j13, hj13, Gj13⟩ := G
  refine k_join (fun a w' => ∃ j13v, j13 = Sum.inr j13v ∧ Rep w.heap.size w 63 (ofL [(7, sB t3), (999999, gk)]) a w') ?_ ?_
  ·clear H; rintro a w' ⟨j13v, rfl, H⟩; have G := Gj13; clear Gj13; dsimp only at G
   refine k_seq ?_
   refine k_rg mixed H (.v 62 (.bool t3) <|
   .v 6 (.bool t3) <| .nil) fun u14 a w' H => ?_
   replace H := H.kp [6, 999999]
   refine k_ret ?_
   obtain rfl := Option.some.inj G
   exact k_done0 H _ (by kernel_rfl) (by kernel_rfl)
  ·have G := hj13; clear hj13
   refine k_seq ?_
   refine k_rg mixed H (.v 14 (vI 0) <| .nil) fun u15 a w' H => ?_
   replace H := H.kp [7, 11, 12, 13, 14, 72, 73, 74, 999999]
   refine k_block ?_
   refine k_loopJ (fun m a w' => ∃ x16 : Int, armillarylaw04_MatrixApplyInclusion.l17 k0 a0 a1 a2 t3 t5 t7 t8 t10 m x16 = some j13 ∧ Rep w.heap.size w 63 (ofL [(7, sB t3), (11, (sS ((u6 2).o 0) (((u6 2).dl Sl.l gd_S_i64 0 t7).length) ((u6 2).n 0))), (12, (sS ((u6 5).o 0) t8.length ((u6 5).n 0))), (13, (sS ((u9 2).o 0) t10.length ((u9 2).n 0))), (14, sI x16), (72, nsK 32 2 1 en_i64 ((u6 2).o 0) (((u6 2).dl Sl.l gd_S_i64 0 t7).length) ((u6 2).n 0) ((u6 2).dl Sl.l gd_S_i64 0 t7) ((u6 2).dl Sl.l gd_S_i64 0 t7)), (73, owK 2 1 ((u6 5).o 0) t8.length ((u6 5).n 0) (t8.flatMap en_i64)), (74, owK 37 2 ((u9 2).o 0) t10.length ((u9 2).n 0) (t10.flatMap en_TInterval)), (999999, gk)]) a w') k0 ⟨_, G, H.toL _ (by kernel_rfl)⟩ ?_
   clear G H
   rintro (_ | k) a w' ⟨x16, G, H⟩
   ·exact absurd G (by unfold armillarylaw04_MatrixApplyInclusion.l17; exact fun h => by cases h)
   ·unfold armillarylaw04_MatrixApplyInclusion.l17 at G
    refine k_seq ?_
    refine k_seq ?_
    refine k_rg mixed H (.v 36 (vI x16) <|
   .v 37 (.slice ((u6 2).o 0) (((u6 2).dl Sl.l gd_S_i64 0 t7).length) ((u6 2).n 0)) <|
   .cons [38] (ok_valL [72] (fun u18 => [nsK 32 2 1 en_i64 ((u6 2).o 0) (((u6 2).dl Sl.l gd_S_i64 0 t7).length) ((u6 2).n 0) ((u6 2).dl Sl.l gd_S_i64 0 t7) ((u6 2).dl Sl.l gd_S_i64 0 t7)]) (fun u18 => vI (t7.length : Int)) (fun u18 => true) [true] 38 (fun u18 w hg hF => run_lenN (((ns_of hF.1).row.2.len enSl_len (by decide)).trans (map_len (dl_er ergd_S_i64 (u6 2) 0 t7)).symm) (by kernel_rfl))) <|
   .v 39 (.bool (decide (x16 < (t7.length : Int)))) <| .nil) fun u18 a w' H => ?_
    replace H := H.kp [7, 11, 12, 13, 14, 39, 72, 73, 74, 999999]
    refine k_cond H (by kernel_rfl) (t := decide (x16 < (t7.length : Int))) (by kernel_rfl) (fun c37 => ?_) (fun c37 => ?_)
    ·rw [if_pos c37] at G
     refine k_skip ?_
     refine k_seq ?_
     refine k_block ?_
     refine k_seq ?_
     replace G := gd G; obtain ⟨b20, G⟩ := G
     replace G := bnd G; obtain ⟨t21, ht21, G⟩ := G
     have P22 := ptr_of (en := en_TInterval) (l := t10) (owns_rowC (ow_of (H.at (K := owK 37 2 ((u9 2).o 0) t10.length ((u9 2).n 0) (t10.flatMap en_TInterval)) 74 (by kernel_rfl)))).2 en_TInterval_len
     replace G := bnd G; obtain ⟨t23, ht23, G⟩ := G
     replace G := bnd G; obtain ⟨z24, hz24, G⟩ := G
     replace hz24 := Option.some.inj hz24
     by_cases c35 : z24 = true
     ·rw [if_pos c35] at G; subst c35
      refine k_regT mixed H (.v 42 (.slice ((u9 2).o 0) t10.length ((u9 2).n 0)) <|
   .v 43 (vI x16) <|
   .cons [44] (ok_val (fun u19 => .pointer (some ⟨hdB ((u9 2).o 0), hdO ((u9 2).o 0) + x16.toNat * 2, none⟩)) 44 (hv := fun _ _ => ix_pure (t := 22) (k := .i64) (i := x16) (p := ((u9 2).o 0)) (n := t10.length) (cap := ((u9 2).n 0)) (x := t10) P22 rfl b20 (by kernel_rfl))) <|
   .cons [45] (ok_valL [74] (fun u19 => [owK 37 2 ((u9 2).o 0) t10.length ((u9 2).n 0) (t10.flatMap en_TInterval)]) (fun u19 => .agg #[vI t21.Lo, vI t21.Hi]) (fun u19 => true) [true] 45 (fun u19 w hg hF => ld_row (en := en_TInterval) (owns_rowC (ow_of hF.1)).2 en_TInterval_len ht21 0 2 [vI t21.Lo, vI t21.Hi] rfl (by kernel_rfl))) <|
   .cons [46] (ok_callv 16 (fun u19 => #[.agg #[vI t21.Lo, vI t21.Hi]]) (.bool t23) 46 [] (fun u19 w _ => armillaryref02_Valid.calls t21  t23 w  ht23)) <|
   .v 47 (.bool (!t23)) <|
   .cons [48] (ok_as (u' := fun u19 => [(48, sB true)]) (ok_val (fun u19 => .bool (!t23)) 48) (fun _ => by rw [hz24])) <|
   .cons [49] (ok_offB 49) <|
   .cons [50] (ok_offB 50) <|
   .cons [51] (ok_offB 51) <|
   .cons [52] (ok_offB 52) <|
   .cons [53] (ok_offB 53) <|
   .cons [54] (ok_offB 54) <|
   .cons [55] (ok_offB 55) <|
   .cons [56] (ok_offB 56) <|
   .cons [57] (ok_offB 57) <|
   .cons [58] (ok_offB 58) <|
   .cons [59] (ok_offB 59) <|
   .cons [60] (ok_offB 60) <|
   .cons [61] (ok_pickK (fun u19 => .bool true) 61) <| .nil) (by kernel_rfl) fun u19 a w' H => ?_
      replace H := H.kp [7, 11, 12, 13, 14, 49, 50, 51, 52, 53, 54, 55, 56, 57, 58, 59, 60, 61, 72, 73, 74, 999999]
      refine k_cond_true H (by kernel_rfl) (by kernel_rfl) ?_
      refine k_seq ?_
      refine k_rg mixed H (.v 6 (.bool false) <| .nil) fun u25 a w' H => ?_
      replace H := H.kp [6, 999999]
      refine k_ret ?_
      obtain rfl := Option.some.inj G
      replace G := Gj13
      obtain rfl := Option.some.inj G
      exact k_done0 H _ (by kernel_rfl) (by kernel_rfl)
     rw [if_neg c35] at G
     by_cases c36 : z24 = false
     ·rw [if_pos c36] at G; subst c36
      replace G := gd G; obtain ⟨b25, G⟩ := G
      replace G := bnd G; obtain ⟨t26, ht26, G⟩ := G
      replace G := gd G; obtain ⟨b27, G⟩ := G
      replace G := bnd G; obtain ⟨t28, ht28, G⟩ := G
      obtain ⟨p_t28, c_t28, y_t28⟩ := sl_get (dl_er ergd_S_i64 (u6 2) 0 t7) ht28
      have P29 := ptr_of (en := enSl) (l := ((u6 2).dl Sl.l gd_S_i64 0 t7)) (ns_of (H.at (K := nsK 32 2 1 en_i64 ((u6 2).o 0) (((u6 2).dl Sl.l gd_S_i64 0 t7).length) ((u6 2).n 0) ((u6 2).dl Sl.l gd_S_i64 0 t7) ((u6 2).dl Sl.l gd_S_i64 0 t7)) 72 (by kernel_rfl))).row.2 enSl_len
      replace G := bnd G; obtain ⟨t30, ht30, G⟩ := G
      replace G := bnd G; obtain ⟨t31, ht31, G⟩ := G
      refine k_regT mixed H (.v 42 (.slice ((u9 2).o 0) t10.length ((u9 2).n 0)) <|
   .v 43 (vI x16) <|
   .cons [44] (ok_val (fun u19 => .pointer (some ⟨hdB ((u9 2).o 0), hdO ((u9 2).o 0) + x16.toNat * 2, none⟩)) 44 (hv := fun _ _ => ix_pure (t := 22) (k := .i64) (i := x16) (p := ((u9 2).o 0)) (n := t10.length) (cap := ((u9 2).n 0)) (x := t10) P22 rfl b20 (by kernel_rfl))) <|
   .cons [45] (ok_valL [74] (fun u19 => [owK 37 2 ((u9 2).o 0) t10.length ((u9 2).n 0) (t10.flatMap en_TInterval)]) (fun u19 => .agg #[vI t21.Lo, vI t21.Hi]) (fun u19 => true) [true] 45 (fun u19 w hg hF => ld_row (en := en_TInterval) (owns_rowC (ow_of hF.1)).2 en_TInterval_len ht21 0 2 [vI t21.Lo, vI t21.Hi] rfl (by kernel_rfl))) <|
   .cons [46] (ok_callv 16 (fun u19 => #[.agg #[vI t21.Lo, vI t21.Hi]]) (.bool t23) 46 [] (fun u19 w _ => armillaryref02_Valid.calls t21  t23 w  ht23)) <|
   .v 47 (.bool (!t23)) <|
   .cons [48] (ok_as (u' := fun u19 => [(48, sB false)]) (ok_val (fun u19 => .bool (!t23)) 48) (fun _ => by rw [hz24])) <|
   .cons [49] (ok_gd (ok_val (fun u19 => .slice ((u9 2).o 0) t10.length ((u9 2).n 0)) 49) (by intro _; kernel_rfl)) <|
   .cons [50] (ok_gd (ok_val (fun u19 => vI x16) 50) (by intro _; kernel_rfl)) <|
   .cons [51] (ok_gd (ok_val (fun u19 => .pointer (some ⟨hdB ((u9 2).o 0), hdO ((u9 2).o 0) + x16.toNat * 2, none⟩)) 51 (hv := fun _ _ => ix_pure (t := 22) (k := .i64) (i := x16) (p := ((u9 2).o 0)) (n := t10.length) (cap := ((u9 2).n 0)) (x := t10) P22 rfl b25 (by kernel_rfl))) (by intro _; kernel_rfl)) <|
   .cons [52] (ok_gd (ok_valL [74] (fun u19 => [owK 37 2 ((u9 2).o 0) t10.length ((u9 2).n 0) (t10.flatMap en_TInterval)]) (fun u19 => .agg #[vI t26.Lo, vI t26.Hi]) (fun u19 => true) [true] 52 (fun u19 w hg hF => ld_row (en := en_TInterval) (owns_rowC (ow_of hF.1)).2 en_TInterval_len ht26 0 2 [vI t26.Lo, vI t26.Hi] rfl (by kernel_rfl))) (by intro _; kernel_rfl)) <|
   .cons [53] (ok_gd (ok_val (fun u19 => .slice ((u6 2).o 0) (((u6 2).dl Sl.l gd_S_i64 0 t7).length) ((u6 2).n 0)) 53) (by intro _; kernel_rfl)) <|
   .cons [54] (ok_gd (ok_val (fun u19 => vI x16) 54) (by intro _; kernel_rfl)) <|
   .cons [55] (ok_gd (ok_val (fun u19 => .pointer (some ⟨hdB ((u6 2).o 0), hdO ((u6 2).o 0) + x16.toNat * 1, none⟩)) 55 (hv := fun _ _ => ix_pure (t := 30) (k := .i64) (i := x16) (p := ((u6 2).o 0)) (n := ((u6 2).dl Sl.l gd_S_i64 0 t7).length) (cap := ((u6 2).n 0)) (x := t7) P29 (map_len (dl_er ergd_S_i64 (u6 2) 0 t7)) b27 (by kernel_rfl))) (by intro _; kernel_rfl)) <|
   .cons [56] (ok_gd (ok_valL [72] (fun u19 => [nsK 32 2 1 en_i64 ((u6 2).o 0) (((u6 2).dl Sl.l gd_S_i64 0 t7).length) ((u6 2).n 0) ((u6 2).dl Sl.l gd_S_i64 0 t7) ((u6 2).dl Sl.l gd_S_i64 0 t7)]) (fun u19 => .slice p_t28 t28.length c_t28) (fun u19 => true) [true] 56 (fun u19 w hg hF => ld_row (en := enSl) (ns_of hF.1).row.2 enSl_len y_t28 0 1 [.slice p_t28 t28.length c_t28] rfl (by kernel_rfl))) (by intro _; kernel_rfl)) <|
   .cons [57] (ok_gd (ok_val (fun u19 => .slice ((u6 5).o 0) t8.length ((u6 5).n 0)) 57) (by intro _; kernel_rfl)) <|
   .cons [58] (ok_gd (ok_callL [72, 73] (fun u19 => [nsK 32 2 1 en_i64 ((u6 2).o 0) (((u6 2).dl Sl.l gd_S_i64 0 t7).length) ((u6 2).n 0) ((u6 2).dl Sl.l gd_S_i64 0 t7) ((u6 2).dl Sl.l gd_S_i64 0 t7), owK 2 1 ((u6 5).o 0) t8.length ((u6 5).n 0) (t8.flatMap en_i64)]) 18 (fun u19 => #[.slice p_t28 t28.length c_t28, .slice ((u6 5).o 0) t8.length ((u6 5).n 0)]) (vI t30) 58 (fun u19 w hF => armillaryref04_Dot.calls k0 t28 t8 p_t28 c_t28 ((u6 5).o 0) ((u6 5).n 0) t30 w  ⟨(rdA ((ns_of hF.1).one y_t28)), (rdA (owns_rowC (ow_of hF.2.1))), trivial⟩ ht30)) (by intro _; kernel_rfl)) <|
   .cons [59] (ok_gd (ok_callv 17 (fun u19 => #[.agg #[vI t26.Lo, vI t26.Hi], vI t30]) (.bool t31) 59 [] (fun u19 w _ => armillaryref04_ContainsScaled.calls t26 t30  t31 w  ht31)) (by intro _; kernel_rfl)) <|
   .cons [60] (ok_gd (ok_val (fun u19 => .bool (!t31)) 60) (by intro _; kernel_rfl)) <|
   .cons [61] (ok_pickK (fun u19 => .bool (!t31)) 61) <| .nil) (by kernel_rfl) fun u19 a w' H => ?_
      replace H := H.kp [7, 11, 12, 13, 14, 49, 50, 51, 52, 53, 54, 55, 56, 57, 58, 59, 60, 61, 72, 73, 74, 999999]
      refine k_cond H (by kernel_rfl) (t := (!t31)) (by kernel_rfl) (fun c34 => ?_) (fun c34 => ?_)
      ·rw [if_pos c34] at G
       refine k_seq ?_
       refine k_rg mixed H (.v 6 (.bool false) <| .nil) fun u32 a w' H => ?_
       replace H := H.kp [6, 999999]
       refine k_ret ?_
       obtain rfl := Option.some.inj G
       replace G := Gj13
       obtain rfl := Option.some.inj G
       exact k_done0 H _ (by kernel_rfl) (by kernel_rfl)
      ·rw [if_neg (nt c34)] at G
       refine k_skip ?_
       refine k_rg mixed H (.v 40 (vI x16) <|
   .v 41 (vI (w_i64 (x16 + 1))) <|
   .v 14 (vI (w_i64 (x16 + 1))) <| .nil) fun u33 a w' H => ?_
       replace H := H.kp [7, 11, 12, 13, 14, 49, 50, 51, 52, 53, 54, 55, 56, 57, 58, 59, 60, 72, 73, 74, 999999]
       exact ⟨k, Nat.lt_succ_self k, _, G, H.toL _ (by kernel_rfl)⟩
     rw [if_neg c36] at G
     cases G
    ·rw [if_neg (nt c37)] at G
     refine k_exit rfl ?_
     obtain rfl := Option.some.inj G
     exact ⟨_, rfl, H.toL _ (by kernel_rfl)⟩
end Go.Proofs.YtglcmhldonkfdaaDoor
