/- The law MatrixIsotonicity answers as the plain Lean function of its name. Printed by a program of this session. -/
import Derived.Test.YtglcmhldonkfdaaDoorFxMatrixIsotonicity
set_option linter.unusedVariables false
set_option linter.unusedSimpArgs false
set_option maxRecDepth 100000
namespace Go.Proofs.YtglcmhldonkfdaaDoor
open Go Go.RowKit Go.Sx Go.Proofs
set_option maxHeartbeats 4000000 in
theorem armillarylaw04_MatrixIsotonicity.calls (k0 : Nat) (a0 : TOperands) (a1 : TOperands) (p_a0_A : Option Addr) (c_a0_A : Nat) (p_a0_B : Option Addr) (c_a0_B : Nat) (p_a0_X : Option Addr) (c_a0_X : Nat) (p_a1_A : Option Addr) (c_a1_A : Nat) (p_a1_B : Option Addr) (c_a1_B : Nat) (p_a1_X : Option Addr) (c_a1_X : Nat) (r : Bool) (w : World) (hB : AllH [rdl anyF 2 p_a0_A c_a0_A a0.A en_TInterval, rdl anyF 2 p_a0_B c_a0_B a0.B en_TInterval, rdl anyF 2 p_a0_X c_a0_X a0.X en_TInterval, rdl anyF 2 p_a1_A c_a1_A a1.A en_TInterval, rdl anyF 2 p_a1_B c_a1_B a1.B en_TInterval, rdl anyF 2 p_a1_X c_a1_X a1.X en_TInterval, gk] w) (G : armillarylaw04_MatrixIsotonicity k0 a0 a1 = some r) :
  Calls Tryd.prog 5 #[.agg #[.slice p_a0_A a0.A.length c_a0_A, .slice p_a0_B a0.B.length c_a0_B, .slice p_a0_X a0.X.length c_a0_X, .int .u8 a0.N], .agg #[.slice p_a1_A a1.A.length c_a1_A, .slice p_a1_B a1.B.length c_a1_B, .slice p_a1_X a1.X.length c_a1_X, .int .u8 a1.N]] w fun e w' => e = .returned (.bool r) ∧ Below w.heap.size w w' := by
 obtain ⟨fr, hfr⟩ : ∃ fr : Nat → Prop, ∀ j, fr j := ⟨fun _ => True, fun _ => trivial⟩
 have hBf : ∀ j, w.heap.size ≤ j → fr j := fun j _ => hfr j
 refine k_enterF (args := [.agg #[.slice p_a0_A a0.A.length c_a0_A, .slice p_a0_B a0.B.length c_a0_B, .slice p_a0_X a0.X.length c_a0_X, .int .u8 a0.N], .agg #[.slice p_a1_A a1.A.length c_a1_A, .slice p_a1_B a1.B.length c_a1_B, .slice p_a1_X a1.X.length c_a1_X, .int .u8 a1.N]]) 147 [(147, rdl anyF 2 p_a0_A c_a0_A a0.A en_TInterval), (148, rdl anyF 2 p_a0_B c_a0_B a0.B en_TInterval), (149, rdl anyF 2 p_a0_X c_a0_X a0.X en_TInterval), (150, rdl anyF 2 p_a1_A c_a1_A a1.A en_TInterval), (151, rdl anyF 2 p_a1_B c_a1_B a1.B en_TInterval), (152, rdl anyF 2 p_a1_X c_a1_X a1.X en_TInterval), (999999, gk)] (by
  intro x hx
  simp only [List.mem_cons, List.not_mem_nil, or_false] at hx
  rcases hx with rfl | rfl | rfl | rfl | rfl | rfl | rfl
  ·exact rdF_fact (rdF_of hB.1) (fun _ _ => trivial) (by decide) _
  ·exact rdF_fact (rdF_of hB.2.1) (fun _ _ => trivial) (by decide) _
  ·exact rdF_fact (rdF_of hB.2.2.1) (fun _ _ => trivial) (by decide) _
  ·exact rdF_fact (rdF_of hB.2.2.2.1) (fun _ _ => trivial) (by decide) _
  ·exact rdF_fact (rdF_of hB.2.2.2.2.1) (fun _ _ => trivial) (by decide) _
  ·exact rdF_fact (rdF_of hB.2.2.2.2.2.1) (fun _ _ => trivial) (by decide) _
  ·exact ⟨⟨_, _, rfl⟩, hB.2.2.2.2.2.2.1, glob_in (glob_of hB.2.2.2.2.2.2.1)⟩) Tryd.func5 rfl (by kernel_rfl) (by kernel_rfl) fun a H => ?_
 unfold armillarylaw04_MatrixIsotonicity at G
 refine k_seq ?_
 refine k_rg mixed H (.cons [2, 153] (ok_new (fun b => vP b 0) (fun u1 => [.slice p_a0_A a0.A.length c_a0_A, .slice p_a0_B a0.B.length c_a0_B, .slice p_a0_X a0.X.length c_a0_X, .int .u8 a0.N]) 24 2 153) <|
   .cons [3, 154] (ok_new (fun b => vP b 0) (fun u1 => [.slice p_a1_A a1.A.length c_a1_A, .slice p_a1_B a1.B.length c_a1_B, .slice p_a1_X a1.X.length c_a1_X, .int .u8 a1.N]) 24 3 154) <|
   .v 4 (.bool false) <| .nil) fun u1 a w' H => ?_
 replace H := H.kp [2, 3, 147, 148, 149, 150, 151, 152, 153, 154, 999999]
 refine k_seq ?_
 replace G := bnd G; obtain ⟨t3, ht3, G⟩ := G
 refine k_rg mixed H (.cons [18] (ok_callL [999999] (fun u2 => [gk]) 11 (fun u2 => #[]) (.bool t3) 18 (fun u2 w hF => armillarylaw04_sanity.calls k0  t3 w  (glob_of hF.1) ht3)) <|
   .v 5 (.bool t3) <| .nil) fun u2 a w' H => ?_
 replace H := H.kp [2, 3, 5, 147, 148, 149, 150, 151, 152, 153, 154, 999999]
 refine k_seq ?_
 refine k_rg mixed H (.v 19 (vP ((u1 0).n 0) 3) <|
   .cons [20] (ok_ld (fun u4 => .int .u8 a0.N) 20 153 3 1 (fun u4 => ((u1 0).n 0)) (fun u4 => [.slice p_a0_A a0.A.length c_a0_A, .slice p_a0_B a0.B.length c_a0_B, .slice p_a0_X a0.X.length c_a0_X, .int .u8 a0.N]) 24) <|
   .v 21 (vP ((u1 1).n 0) 3) <|
   .cons [154] (ok_as (u' := fun u4 => [(154, .blk ((u1 1).n 0) [.slice p_a1_A a1.A.length c_a1_A, .slice p_a1_B a1.B.length c_a1_B, .slice p_a1_X a1.X.length c_a1_X, .int .u8 a0.N] 24)]) (ok_store 154 3 (fun u4 => ((u1 1).n 0)) (fun u4 => [.slice p_a1_A a1.A.length c_a1_A, .slice p_a1_B a1.B.length c_a1_B, .slice p_a1_X a1.X.length c_a1_X, .int .u8 a1.N]) (fun u4 => [.int .u8 a0.N]) 24) (fun _ => by kernel_rfl)) <| .nil) fun u4 a w' H => ?_
 replace H := H.kp [2, 3, 5, 147, 148, 149, 150, 151, 152, 153, 154, 999999]
 refine k_seq ?_
 replace G := bnd G; obtain ⟨t6, ht6, G⟩ := G
 refine k_rg mixed H (.cons [23] (ok_ld (fun u5 => .agg #[.slice p_a0_A a0.A.length c_a0_A, .slice p_a0_B a0.B.length c_a0_B, .slice p_a0_X a0.X.length c_a0_X, .int .u8 a0.N]) 23 153 0 4 (fun u5 => ((u1 0).n 0)) (fun u5 => [.slice p_a0_A a0.A.length c_a0_A, .slice p_a0_B a0.B.length c_a0_B, .slice p_a0_X a0.X.length c_a0_X, .int .u8 a0.N]) 24) <|
   .cons [24, 155, 156, 157] (ok_callY false fr [] [147, 148, 149] (fun u5 => [rdl anyF 2 p_a0_A c_a0_A a0.A en_TInterval, rdl anyF 2 p_a0_B c_a0_B a0.B en_TInterval, rdl anyF 2 p_a0_X c_a0_X a0.X en_TInterval]) [] (fun u5 => []) 22 (fun u5 => #[.agg #[.slice p_a0_A a0.A.length c_a0_A, .slice p_a0_B a0.B.length c_a0_B, .slice p_a0_X a0.X.length c_a0_X, .int .u8 a0.N]]) (fun u5 => [rdl anyF 2 p_a0_A c_a0_A a0.A en_TInterval, rdl anyF 2 p_a0_B c_a0_B a0.B en_TInterval, rdl anyF 2 p_a0_X c_a0_X a0.X en_TInterval]) (fun u5 => []) (fun u5 g => .tuple #[.slice (g.o 0) ((g.dl Sl.l gd_S_TInterval 0 t6.1).length) (g.n 0), .slice (g.o 1) ((g.dl Sl.l gd_S_TInterval 1 t6.2.1).length) (g.n 1), .slice (g.o 2) t6.2.2.length (g.n 2)]) (fun u5 g => [fun _ => nsK 22 37 2 en_TInterval (g.o 0) ((g.dl Sl.l gd_S_TInterval 0 t6.1).length) (g.n 0) (g.dl Sl.l gd_S_TInterval 0 t6.1) (g.dl Sl.l gd_S_TInterval 0 t6.1), fun _ => nsK 22 37 2 en_TInterval (g.o 1) ((g.dl Sl.l gd_S_TInterval 1 t6.2.1).length) (g.n 1) (g.dl Sl.l gd_S_TInterval 1 t6.2.1) (g.dl Sl.l gd_S_TInterval 1 t6.2.1), fun _ => owK 37 2 (g.o 2) t6.2.2.length (g.n 2) (t6.2.2.flatMap en_TInterval)]) [155, 156, 157] 24 (fun u5 w hB hF hM => armillarylaw04_made.calls k0 (⟨a0.A, a0.B, a0.X, a0.N⟩ : TOperands) p_a0_A c_a0_A p_a0_B c_a0_B p_a0_X c_a0_X t6 w  hB ht6) (fun u5 w hF => ⟨⟨sub_rd0 (rdF_of hF.1) (fun j h => ⟨_, (.head _), h⟩), sub_rd0 (rdF_of hF.2.1) (fun j h => ⟨_, (.tail _ (.head _)), h⟩), sub_rd0 (rdF_of hF.2.2.1) (fun j h => ⟨_, (.tail _ (.tail _ (.head _))), h⟩), trivial⟩, trivial⟩) (fun u5 g => (fams_cons fam_ns (fams_cons fam_ns (fams_cons fam_ow fams_nil)))) (.inr (fun u5 g => (famx_cons trivial (famx_cons trivial (famx_cons trivial (fun K h => by cases h)))))) (fun h => by cases h)) <|
   .cons [22] (ok_val (fun u5 => .tuple #[.slice ((u5 1).o 0) (((u5 1).dl Sl.l gd_S_TInterval 0 t6.1).length) ((u5 1).n 0), .slice ((u5 1).o 1) (((u5 1).dl Sl.l gd_S_TInterval 1 t6.2.1).length) ((u5 1).n 1), .slice ((u5 1).o 2) t6.2.2.length ((u5 1).n 2)]) 22) <|
   .cons [25] (ok_val (fun u5 => .slice ((u5 1).o 0) (((u5 1).dl Sl.l gd_S_TInterval 0 t6.1).length) ((u5 1).n 0)) 25) <|
   .cons [26] (ok_val (fun u5 => .slice ((u5 1).o 1) (((u5 1).dl Sl.l gd_S_TInterval 1 t6.2.1).length) ((u5 1).n 1)) 26) <|
   .cons [27] (ok_val (fun u5 => .slice ((u5 1).o 2) t6.2.2.length ((u5 1).n 2)) 27) <|
   .cons [6] (ok_val (fun u5 => .slice ((u5 1).o 0) (((u5 1).dl Sl.l gd_S_TInterval 0 t6.1).length) ((u5 1).n 0)) 6) <|
   .cons [7] (ok_val (fun u5 => .slice ((u5 1).o 1) (((u5 1).dl Sl.l gd_S_TInterval 1 t6.2.1).length) ((u5 1).n 1)) 7) <|
   .cons [8] (ok_val (fun u5 => .slice ((u5 1).o 2) t6.2.2.length ((u5 1).n 2)) 8) <| .nil) fun u5 a w' H => ?_
 replace H := H.kp [3, 5, 6, 7, 8, 150, 151, 152, 154, 155, 156, 157, 999999]
 refine k_seq ?_
 replace G := bnd G; obtain ⟨t8, ht8, G⟩ := G
 refine k_rg mixed H (.cons [29] (ok_ld (fun u7 => .agg #[.slice p_a1_A a1.A.length c_a1_A, .slice p_a1_B a1.B.length c_a1_B, .slice p_a1_X a1.X.length c_a1_X, .int .u8 a0.N]) 29 154 0 4 (fun u7 => ((u1 1).n 0)) (fun u7 => [.slice p_a1_A a1.A.length c_a1_A, .slice p_a1_B a1.B.length c_a1_B, .slice p_a1_X a1.X.length c_a1_X, .int .u8 a0.N]) 24) <|
   .cons [30, 158, 159, 160] (ok_callY false fr [] [150, 151, 152] (fun u7 => [rdl anyF 2 p_a1_A c_a1_A a1.A en_TInterval, rdl anyF 2 p_a1_B c_a1_B a1.B en_TInterval, rdl anyF 2 p_a1_X c_a1_X a1.X en_TInterval]) [] (fun u7 => []) 22 (fun u7 => #[.agg #[.slice p_a1_A a1.A.length c_a1_A, .slice p_a1_B a1.B.length c_a1_B, .slice p_a1_X a1.X.length c_a1_X, .int .u8 a0.N]]) (fun u7 => [rdl anyF 2 p_a1_A c_a1_A a1.A en_TInterval, rdl anyF 2 p_a1_B c_a1_B a1.B en_TInterval, rdl anyF 2 p_a1_X c_a1_X a1.X en_TInterval]) (fun u7 => []) (fun u7 g => .tuple #[.slice (g.o 0) ((g.dl Sl.l gd_S_TInterval 0 t8.1).length) (g.n 0), .slice (g.o 1) ((g.dl Sl.l gd_S_TInterval 1 t8.2.1).length) (g.n 1), .slice (g.o 2) t8.2.2.length (g.n 2)]) (fun u7 g => [fun _ => nsK 22 37 2 en_TInterval (g.o 0) ((g.dl Sl.l gd_S_TInterval 0 t8.1).length) (g.n 0) (g.dl Sl.l gd_S_TInterval 0 t8.1) (g.dl Sl.l gd_S_TInterval 0 t8.1), fun _ => nsK 22 37 2 en_TInterval (g.o 1) ((g.dl Sl.l gd_S_TInterval 1 t8.2.1).length) (g.n 1) (g.dl Sl.l gd_S_TInterval 1 t8.2.1) (g.dl Sl.l gd_S_TInterval 1 t8.2.1), fun _ => owK 37 2 (g.o 2) t8.2.2.length (g.n 2) (t8.2.2.flatMap en_TInterval)]) [158, 159, 160] 30 (fun u7 w hB hF hM => armillarylaw04_made.calls k0 (⟨a1.A, a1.B, a1.X, a0.N⟩ : TOperands) p_a1_A c_a1_A p_a1_B c_a1_B p_a1_X c_a1_X t8 w  hB ht8) (fun u7 w hF => ⟨⟨sub_rd0 (rdF_of hF.1) (fun j h => ⟨_, (.head _), h⟩), sub_rd0 (rdF_of hF.2.1) (fun j h => ⟨_, (.tail _ (.head _)), h⟩), sub_rd0 (rdF_of hF.2.2.1) (fun j h => ⟨_, (.tail _ (.tail _ (.head _))), h⟩), trivial⟩, trivial⟩) (fun u7 g => (fams_cons fam_ns (fams_cons fam_ns (fams_cons fam_ow fams_nil)))) (.inr (fun u7 g => (famx_cons trivial (famx_cons trivial (famx_cons trivial (fun K h => by cases h)))))) (fun h => by cases h)) <|
   .cons [28] (ok_val (fun u7 => .tuple #[.slice ((u7 1).o 0) (((u7 1).dl Sl.l gd_S_TInterval 0 t8.1).length) ((u7 1).n 0), .slice ((u7 1).o 1) (((u7 1).dl Sl.l gd_S_TInterval 1 t8.2.1).length) ((u7 1).n 1), .slice ((u7 1).o 2) t8.2.2.length ((u7 1).n 2)]) 28) <|
   .cons [31] (ok_val (fun u7 => .slice ((u7 1).o 0) (((u7 1).dl Sl.l gd_S_TInterval 0 t8.1).length) ((u7 1).n 0)) 31) <|
   .cons [32] (ok_val (fun u7 => .slice ((u7 1).o 1) (((u7 1).dl Sl.l gd_S_TInterval 1 t8.2.1).length) ((u7 1).n 1)) 32) <|
   .cons [33] (ok_val (fun u7 => .slice ((u7 1).o 2) t8.2.2.length ((u7 1).n 2)) 33) <|
   .cons [9] (ok_val (fun u7 => .slice ((u7 1).o 0) (((u7 1).dl Sl.l gd_S_TInterval 0 t8.1).length) ((u7 1).n 0)) 9) <|
   .cons [10] (ok_val (fun u7 => .slice ((u7 1).o 1) (((u7 1).dl Sl.l gd_S_TInterval 1 t8.2.1).length) ((u7 1).n 1)) 10) <|
   .cons [11] (ok_val (fun u7 => .slice ((u7 1).o 2) t8.2.2.length ((u7 1).n 2)) 11) <| .nil) fun u7 a w' H => ?_
 replace H := H.kp [5, 6, 7, 8, 9, 10, 11, 155, 156, 157, 158, 159, 160, 999999]
 refine k_seq ?_
 replace G := bnd G; obtain ⟨j11, hj11, G⟩ := G
 refine k_join (fun a w' => ∃ (p_j9 : Option Addr) (c_j9 np_j9 : Nat) (L_j9 : List (Sl TInterval)), np_j9 = L_j9.length ∧ j11.1 = L_j9.map Sl.l ∧ ∃ (p_j10 : Option Addr) (c_j10 np_j10 : Nat) (L_j10 : List (Sl TInterval)), np_j10 = L_j10.length ∧ j11.2 = L_j10.map Sl.l ∧ Rep w.heap.size w 147 (ofL [(5, sB t3), (6, (sS ((u5 1).o 0) (((u5 1).dl Sl.l gd_S_TInterval 0 t6.1).length) ((u5 1).n 0))), (7, (sS ((u5 1).o 1) (((u5 1).dl Sl.l gd_S_TInterval 1 t6.2.1).length) ((u5 1).n 1))), (8, (sS ((u5 1).o 2) t6.2.2.length ((u5 1).n 2))), (9, sS p_j9 np_j9 c_j9), (10, sS p_j10 np_j10 c_j10), (11, (sS ((u7 1).o 2) t8.2.2.length ((u7 1).n 2))), (155, nsK 22 37 2 en_TInterval ((u5 1).o 0) (((u5 1).dl Sl.l gd_S_TInterval 0 t6.1).length) ((u5 1).n 0) ((u5 1).dl Sl.l gd_S_TInterval 0 t6.1) ((u5 1).dl Sl.l gd_S_TInterval 0 t6.1)), (156, nsK 22 37 2 en_TInterval ((u5 1).o 1) (((u5 1).dl Sl.l gd_S_TInterval 1 t6.2.1).length) ((u5 1).n 1) ((u5 1).dl Sl.l gd_S_TInterval 1 t6.2.1) ((u5 1).dl Sl.l gd_S_TInterval 1 t6.2.1)), (157, owK 37 2 ((u5 1).o 2) t6.2.2.length ((u5 1).n 2) (t6.2.2.flatMap en_TInterval)), (160, owK 37 2 ((u7 1).o 2) t8.2.2.length ((u7 1).n 2) (t8.2.2.flatMap en_TInterval)), (900131, nsK 22 37 2 en_TInterval p_j9 np_j9 c_j9 L_j9 L_j9), (900133, nsK 22 37 2 en_TInterval p_j10 np_j10 c_j10 L_j10 L_j10), (999999, gk)]) a w') ?_ ?_
 ·clear H; rintro a w' ⟨p_j9, c_j9, _, L_j9, rfl, h_j9, p_j10, c_j10, _, L_j10, rfl, h_j10, H⟩
  refine k_seq ?_
  replace G := bnd G; obtain ⟨t13, ht13, G⟩ := G
  refine k_rg mixed H (.v 64 (.slice ((u5 1).o 2) t6.2.2.length ((u5 1).n 2)) <|
   .v 65 (.slice ((u7 1).o 2) t8.2.2.length ((u7 1).n 2)) <|
   .cons [66, 161] (ok_callY false fr [] [157, 160] (fun u12 => [owK 37 2 ((u5 1).o 2) t6.2.2.length ((u5 1).n 2) (t6.2.2.flatMap en_TInterval), owK 37 2 ((u7 1).o 2) t8.2.2.length ((u7 1).n 2) (t8.2.2.flatMap en_TInterval)]) [] (fun u12 => []) 23 (fun u12 => #[.slice ((u5 1).o 2) t6.2.2.length ((u5 1).n 2), .slice ((u7 1).o 2) t8.2.2.length ((u7 1).n 2)]) (fun u12 => [rdF anyF 2 ((u5 1).o 2) t6.2.2.length ((u5 1).n 2) (t6.2.2.flatMap en_TInterval), rdF anyF 2 ((u7 1).o 2) t8.2.2.length ((u7 1).n 2) (t8.2.2.flatMap en_TInterval)]) (fun u12 => []) (fun u12 g => .slice (g.o 0) t13.length (g.n 0)) (fun u12 g => [fun _ => owK 37 2 (g.o 0) t13.length (g.n 0) (t13.flatMap en_TInterval)]) [161] 66 (fun u12 w hB hF hM => armillaryref03_Hull.calls k0 t6.2.2 t8.2.2 ((u5 1).o 2) ((u5 1).n 2) ((u7 1).o 2) ((u7 1).n 2) t13 w  hB ht13) (fun u12 w hF => ⟨⟨sub_rd0 (owns_rowC (ow_of hF.1)) (fun j h => ⟨_, (.head _), (fp_own h)⟩), sub_rd0 (owns_rowC (ow_of hF.2.1)) (fun j h => ⟨_, (.tail _ (.head _)), (fp_own h)⟩), trivial⟩, trivial⟩) (fun u12 g => (fams_cons fam_ow fams_nil)) (.inr (fun u12 g => (famx_cons trivial (fun K h => by cases h)))) (fun h => by cases h)) <|
   .cons [11] (ok_val (fun u12 => .slice ((u12 2).o 0) t13.length ((u12 2).n 0)) 11) <| .nil) fun u12 a w' H => ?_
  replace H := H.kp [5, 6, 7, 8, 9, 10, 11, 155, 156, 157, 161, 900131, 900133, 999999]
  refine k_seq ?_
  replace G := bnd G; obtain ⟨t15, ht15, G⟩ := G
  replace G := bnd G; obtain ⟨t16, ht16, G⟩ := G
  refine k_rg mixed H (.v 67 (.slice ((u5 1).o 0) (((u5 1).dl Sl.l gd_S_TInterval 0 t6.1).length) ((u5 1).n 0)) <|
   .v 68 (.slice ((u5 1).o 1) (((u5 1).dl Sl.l gd_S_TInterval 1 t6.2.1).length) ((u5 1).n 1)) <|
   .cons [69, 162] (ok_callY false fr [] [155, 156, 999999] (fun u14 => [nsK 22 37 2 en_TInterval ((u5 1).o 0) (((u5 1).dl Sl.l gd_S_TInterval 0 t6.1).length) ((u5 1).n 0) ((u5 1).dl Sl.l gd_S_TInterval 0 t6.1) ((u5 1).dl Sl.l gd_S_TInterval 0 t6.1), nsK 22 37 2 en_TInterval ((u5 1).o 1) (((u5 1).dl Sl.l gd_S_TInterval 1 t6.2.1).length) ((u5 1).n 1) ((u5 1).dl Sl.l gd_S_TInterval 1 t6.2.1) ((u5 1).dl Sl.l gd_S_TInterval 1 t6.2.1), gk]) [] (fun u14 => []) 19 (fun u14 => #[.slice ((u5 1).o 0) (((u5 1).dl Sl.l gd_S_TInterval 0 t6.1).length) ((u5 1).n 0), .slice ((u5 1).o 1) (((u5 1).dl Sl.l gd_S_TInterval 1 t6.2.1).length) ((u5 1).n 1)]) (fun u14 => [rdF anyF 1 ((u5 1).o 0) (((u5 1).dl Sl.l gd_S_TInterval 0 t6.1).length) ((u5 1).n 0) (((u5 1).dl Sl.l gd_S_TInterval 0 t6.1).flatMap enSl), dnK anyF E_S_TInterval.toPart ((u5 1).dl Sl.l gd_S_TInterval 0 t6.1), rdF anyF 1 ((u5 1).o 1) (((u5 1).dl Sl.l gd_S_TInterval 1 t6.2.1).length) ((u5 1).n 1) (((u5 1).dl Sl.l gd_S_TInterval 1 t6.2.1).flatMap enSl), dnK anyF E_S_TInterval.toPart ((u5 1).dl Sl.l gd_S_TInterval 1 t6.2.1), gk]) (fun u14 => []) (fun u14 g => .slice (g.o 0) ((g.dl Sl.l gd_S_TInterval 0 t15).length) (g.n 0)) (fun u14 g => [fun _ => nsK 22 37 2 en_TInterval (g.o 0) ((g.dl Sl.l gd_S_TInterval 0 t15).length) (g.n 0) (g.dl Sl.l gd_S_TInterval 0 t15) (g.dl Sl.l gd_S_TInterval 0 t15)]) [162] 69 (fun u14 w hB hF hM => matrix_Mul.calls k0 t6.1 t6.2.1 ((u5 1).o 0) ((u5 1).n 0) ((u5 1).dl Sl.l gd_S_TInterval 0 t6.1) ((u5 1).o 1) ((u5 1).n 1) ((u5 1).dl Sl.l gd_S_TInterval 1 t6.2.1) t15 w (dl_er ergd_S_TInterval (u5 1) 0 t6.1) (dl_er ergd_S_TInterval (u5 1) 1 t6.2.1) hB ht15) (fun u14 w hF => ⟨⟨sub_rd0 (ns_of hF.1).row (fun j h => ⟨_, (.head _), (ns_fpH h)⟩), sub_dn0 (ns_of hF.1).all (fun j h => ⟨_, (.head _), (ns_fpA h)⟩), sub_rd0 (ns_of hF.2.1).row (fun j h => ⟨_, (.tail _ (.head _)), (ns_fpH h)⟩), sub_dn0 (ns_of hF.2.1).all (fun j h => ⟨_, (.tail _ (.head _)), (ns_fpA h)⟩), sub_k hF.2.2.1 (.tail _ (.tail _ (.head _))), trivial⟩, trivial⟩) (fun u14 g => (fams_cons fam_ns fams_nil)) (.inr (fun u14 g => (famx_cons trivial (fun K h => by cases h)))) (fun h => by cases h)) <|
   .v 70 (.slice p_j9 L_j9.length c_j9) <|
   .v 71 (.slice p_j10 L_j10.length c_j10) <|
   .cons [72, 163] (ok_callY false fr [] [900131, 900133, 999999] (fun u14 => [nsK 22 37 2 en_TInterval p_j9 L_j9.length c_j9 L_j9 L_j9, nsK 22 37 2 en_TInterval p_j10 L_j10.length c_j10 L_j10 L_j10, gk]) [] (fun u14 => []) 19 (fun u14 => #[.slice p_j9 L_j9.length c_j9, .slice p_j10 L_j10.length c_j10]) (fun u14 => [rdl anyF 1 p_j9 c_j9 L_j9 enSl, dnK anyF E_S_TInterval.toPart L_j9, rdl anyF 1 p_j10 c_j10 L_j10 enSl, dnK anyF E_S_TInterval.toPart L_j10, gk]) (fun u14 => []) (fun u14 g => .slice (g.o 0) ((g.dl Sl.l gd_S_TInterval 0 t16).length) (g.n 0)) (fun u14 g => [fun _ => nsK 22 37 2 en_TInterval (g.o 0) ((g.dl Sl.l gd_S_TInterval 0 t16).length) (g.n 0) (g.dl Sl.l gd_S_TInterval 0 t16) (g.dl Sl.l gd_S_TInterval 0 t16)]) [163] 72 (fun u14 w hB hF hM => matrix_Mul.calls k0 j11.1 j11.2 p_j9 c_j9 L_j9 p_j10 c_j10 L_j10 t16 w h_j9 h_j10 hB ht16) (fun u14 w hF => ⟨⟨sub_rd0 (ns_of hF.1).row (fun j h => ⟨_, (.head _), (ns_fpH h)⟩), sub_dn0 (ns_of hF.1).all (fun j h => ⟨_, (.head _), (ns_fpA h)⟩), sub_rd0 (ns_of hF.2.1).row (fun j h => ⟨_, (.tail _ (.head _)), (ns_fpH h)⟩), sub_dn0 (ns_of hF.2.1).all (fun j h => ⟨_, (.tail _ (.head _)), (ns_fpA h)⟩), sub_k hF.2.2.1 (.tail _ (.tail _ (.head _))), trivial⟩, trivial⟩) (fun u14 g => (fams_cons fam_ns fams_nil)) (.inr (fun u14 g => (famx_cons trivial (fun K h => by cases h)))) (fun h => by cases h)) <|
   .cons [13] (ok_val (fun u14 => .slice ((u14 2).o 0) (((u14 2).dl Sl.l gd_S_TInterval 0 t15).length) ((u14 2).n 0)) 13) <|
   .cons [14] (ok_val (fun u14 => .slice ((u14 5).o 0) (((u14 5).dl Sl.l gd_S_TInterval 0 t16).length) ((u14 5).n 0)) 14) <| .nil) fun u14 a w' H => ?_
  replace H := H.kp [5, 6, 8, 9, 11, 13, 14, 155, 157, 161, 162, 163, 900131, 999999]
  refine k_seq ?_
  refine k_seq ?_
  refine k_rg mixed H (.v 73 (.slice ((u14 2).o 0) (((u14 2).dl Sl.l gd_S_TInterval 0 t15).length) ((u14 2).n 0)) <|
   .cons [74] (ok_valL [162] (fun u17 => [nsK 22 37 2 en_TInterval ((u14 2).o 0) (((u14 2).dl Sl.l gd_S_TInterval 0 t15).length) ((u14 2).n 0) ((u14 2).dl Sl.l gd_S_TInterval 0 t15) ((u14 2).dl Sl.l gd_S_TInterval 0 t15)]) (fun u17 => vI (t15.length : Int)) (fun u17 => true) [true] 74 (fun u17 w hg hF => run_lenN (((ns_of hF.1).row.2.len enSl_len (by decide)).trans (map_len (dl_er ergd_S_TInterval (u14 2) 0 t15)).symm) (by kernel_rfl))) <|
   .v 75 (.slice ((u5 1).o 0) (((u5 1).dl Sl.l gd_S_TInterval 0 t6.1).length) ((u5 1).n 0)) <|
   .cons [76] (ok_valL [155] (fun u17 => [nsK 22 37 2 en_TInterval ((u5 1).o 0) (((u5 1).dl Sl.l gd_S_TInterval 0 t6.1).length) ((u5 1).n 0) ((u5 1).dl Sl.l gd_S_TInterval 0 t6.1) ((u5 1).dl Sl.l gd_S_TInterval 0 t6.1)]) (fun u17 => vI (t6.1.length : Int)) (fun u17 => true) [true] 76 (fun u17 w hg hF => run_lenN (((ns_of hF.1).row.2.len enSl_len (by decide)).trans (map_len (dl_er ergd_S_TInterval (u5 1) 0 t6.1)).symm) (by kernel_rfl))) <|
   .v 77 (.bool ((t15.length : Int) != (t6.1.length : Int))) <|
   .v 78 (.bool ((t15.length : Int) != (t6.1.length : Int))) <|
   .cons [79] (ok_valg (fun u17 => .slice ((u14 5).o 0) (((u14 5).dl Sl.l gd_S_TInterval 0 t16).length) ((u14 5).n 0)) (fun u17 => (((t15.length : Int) != (t6.1.length : Int)) == false)) [true] 79) <|
   .cons [80] (ok_valL [163] (fun u17 => [nsK 22 37 2 en_TInterval ((u14 5).o 0) (((u14 5).dl Sl.l gd_S_TInterval 0 t16).length) ((u14 5).n 0) ((u14 5).dl Sl.l gd_S_TInterval 0 t16) ((u14 5).dl Sl.l gd_S_TInterval 0 t16)]) (fun u17 => vI (t16.length : Int)) (fun u17 => (((t15.length : Int) != (t6.1.length : Int)) == false)) [false] 80 (fun u17 w hg hF => run_lenN (((ns_of hF.1).row.2.len enSl_len (by decide)).trans (map_len (dl_er ergd_S_TInterval (u14 5) 0 t16)).symm) (by kernel_rfl))) <|
   .cons [81] (ok_valg (fun u17 => .slice ((u5 1).o 0) (((u5 1).dl Sl.l gd_S_TInterval 0 t6.1).length) ((u5 1).n 0)) (fun u17 => (((t15.length : Int) != (t6.1.length : Int)) == false)) [true] 81) <|
   .cons [82] (ok_valL [155] (fun u17 => [nsK 22 37 2 en_TInterval ((u5 1).o 0) (((u5 1).dl Sl.l gd_S_TInterval 0 t6.1).length) ((u5 1).n 0) ((u5 1).dl Sl.l gd_S_TInterval 0 t6.1) ((u5 1).dl Sl.l gd_S_TInterval 0 t6.1)]) (fun u17 => vI (t6.1.length : Int)) (fun u17 => (((t15.length : Int) != (t6.1.length : Int)) == false)) [false] 82 (fun u17 w hg hF => run_lenN (((ns_of hF.1).row.2.len enSl_len (by decide)).trans (map_len (dl_er ergd_S_TInterval (u5 1) 0 t6.1)).symm) (by kernel_rfl))) <|
   .cons [83] (ok_valg (fun u17 => .bool ((t16.length : Int) != (t6.1.length : Int))) (fun u17 => (((t15.length : Int) != (t6.1.length : Int)) == false)) [false, false] 83) <|
   .cons [84] (ok_or 78 83 (fun u17 => true) (fun u17 => true) (fun u17 => ((t15.length : Int) != (t6.1.length : Int))) (fun u17 => ((t16.length : Int) != (t6.1.length : Int))) 84) <| .nil) fun u17 a w' H => ?_
  replace H := H.kp [5, 6, 8, 9, 11, 13, 14, 84, 155, 157, 161, 162, 163, 900131, 999999]
  refine k_cond H (by kernel_rfl) (t := (((t15.length : Int) != (t6.1.length : Int)) || ((t16.length : Int) != (t6.1.length : Int)))) (by kernel_rfl) (fun c52 => ?_) (fun c52 => ?_)
  ·rw [if_pos c52] at G
   refine k_seq ?_
   refine k_rg mixed H (.v 4 (.bool false) <| .nil) fun u18 a w' H => ?_
   replace H := H.kp [4, 999999]
   refine k_ret ?_
   obtain rfl := Option.some.inj G
   exact k_done0 H _ (by kernel_rfl) (by kernel_rfl)
  ·rw [if_neg (nt c52)] at G
   refine k_skip ?_
   refine k_seq ?_
   replace G := bnd G; obtain ⟨j19, hj19, Gj19⟩ := G
   refine k_join (fun a w' => ∃ j19v, j19 = Sum.inr j19v ∧ Rep w.heap.size w 147 (ofL [(5, sB t3), (6, (sS ((u5 1).o 0) (((u5 1).dl Sl.l gd_S_TInterval 0 t6.1).length) ((u5 1).n 0))), (8, (sS ((u5 1).o 2) t6.2.2.length ((u5 1).n 2))), (9, sS p_j9 L_j9.length c_j9), (11, (sS ((u12 2).o 0) t13.length ((u12 2).n 0))), (155, nsK 22 37 2 en_TInterval ((u5 1).o 0) (((u5 1).dl Sl.l gd_S_TInterval 0 t6.1).length) ((u5 1).n 0) ((u5 1).dl Sl.l gd_S_TInterval 0 t6.1) ((u5 1).dl Sl.l gd_S_TInterval 0 t6.1)), (157, owK 37 2 ((u5 1).o 2) t6.2.2.length ((u5 1).n 2) (t6.2.2.flatMap en_TInterval)), (161, owK 37 2 ((u12 2).o 0) t13.length ((u12 2).n 0) (t13.flatMap en_TInterval)), (900131, nsK 22 37 2 en_TInterval p_j9 L_j9.length c_j9 L_j9 L_j9), (999999, gk)]) a w') ?_ ?_
   ·clear H; rintro a w' ⟨j19v, rfl, H⟩; have G := Gj19; clear Gj19; dsimp only at G
    refine k_seq ?_
    replace G := bnd G; obtain ⟨t21, ht21, G⟩ := G
    replace G := bnd G; obtain ⟨t22, ht22, G⟩ := G
    refine k_rg mixed H (.v 121 (.slice ((u5 1).o 0) (((u5 1).dl Sl.l gd_S_TInterval 0 t6.1).length) ((u5 1).n 0)) <|
   .v 122 (.slice ((u5 1).o 2) t6.2.2.length ((u5 1).n 2)) <|
   .cons [123, 164] (ok_callY false fr [] [155, 157, 999999] (fun u20 => [nsK 22 37 2 en_TInterval ((u5 1).o 0) (((u5 1).dl Sl.l gd_S_TInterval 0 t6.1).length) ((u5 1).n 0) ((u5 1).dl Sl.l gd_S_TInterval 0 t6.1) ((u5 1).dl Sl.l gd_S_TInterval 0 t6.1), owK 37 2 ((u5 1).o 2) t6.2.2.length ((u5 1).n 2) (t6.2.2.flatMap en_TInterval), gk]) [] (fun u20 => []) 15 (fun u20 => #[.slice ((u5 1).o 0) (((u5 1).dl Sl.l gd_S_TInterval 0 t6.1).length) ((u5 1).n 0), .slice ((u5 1).o 2) t6.2.2.length ((u5 1).n 2)]) (fun u20 => [rdF anyF 1 ((u5 1).o 0) (((u5 1).dl Sl.l gd_S_TInterval 0 t6.1).length) ((u5 1).n 0) (((u5 1).dl Sl.l gd_S_TInterval 0 t6.1).flatMap enSl), dnK anyF E_S_TInterval.toPart ((u5 1).dl Sl.l gd_S_TInterval 0 t6.1), rdF anyF 2 ((u5 1).o 2) t6.2.2.length ((u5 1).n 2) (t6.2.2.flatMap en_TInterval), gk]) (fun u20 => []) (fun u20 g => .slice (g.o 0) t21.length (g.n 0)) (fun u20 g => [fun _ => owK 37 2 (g.o 0) t21.length (g.n 0) (t21.flatMap en_TInterval)]) [164] 123 (fun u20 w hB hF hM => matrix_Apply.calls k0 t6.1 t6.2.2 ((u5 1).o 0) ((u5 1).n 0) ((u5 1).dl Sl.l gd_S_TInterval 0 t6.1) ((u5 1).o 2) ((u5 1).n 2) t21 w (dl_er ergd_S_TInterval (u5 1) 0 t6.1) hB ht21) (fun u20 w hF => ⟨⟨sub_rd0 (ns_of hF.1).row (fun j h => ⟨_, (.head _), (ns_fpH h)⟩), sub_dn0 (ns_of hF.1).all (fun j h => ⟨_, (.head _), (ns_fpA h)⟩), sub_rd0 (owns_rowC (ow_of hF.2.1)) (fun j h => ⟨_, (.tail _ (.head _)), (fp_own h)⟩), sub_k hF.2.2.1 (.tail _ (.tail _ (.head _))), trivial⟩, trivial⟩) (fun u20 g => (fams_cons fam_ow fams_nil)) (.inr (fun u20 g => (famx_cons trivial (fun K h => by cases h)))) (fun h => by cases h)) <|
   .v 124 (.slice p_j9 L_j9.length c_j9) <|
   .v 125 (.slice ((u12 2).o 0) t13.length ((u12 2).n 0)) <|
   .cons [126, 165] (ok_callY false fr [] [900131, 161, 999999] (fun u20 => [nsK 22 37 2 en_TInterval p_j9 L_j9.length c_j9 L_j9 L_j9, owK 37 2 ((u12 2).o 0) t13.length ((u12 2).n 0) (t13.flatMap en_TInterval), gk]) [] (fun u20 => []) 15 (fun u20 => #[.slice p_j9 L_j9.length c_j9, .slice ((u12 2).o 0) t13.length ((u12 2).n 0)]) (fun u20 => [rdl anyF 1 p_j9 c_j9 L_j9 enSl, dnK anyF E_S_TInterval.toPart L_j9, rdF anyF 2 ((u12 2).o 0) t13.length ((u12 2).n 0) (t13.flatMap en_TInterval), gk]) (fun u20 => []) (fun u20 g => .slice (g.o 0) t22.length (g.n 0)) (fun u20 g => [fun _ => owK 37 2 (g.o 0) t22.length (g.n 0) (t22.flatMap en_TInterval)]) [165] 126 (fun u20 w hB hF hM => matrix_Apply.calls k0 j11.1 t13 p_j9 c_j9 L_j9 ((u12 2).o 0) ((u12 2).n 0) t22 w h_j9 hB ht22) (fun u20 w hF => ⟨⟨sub_rd0 (ns_of hF.1).row (fun j h => ⟨_, (.head _), (ns_fpH h)⟩), sub_dn0 (ns_of hF.1).all (fun j h => ⟨_, (.head _), (ns_fpA h)⟩), sub_rd0 (owns_rowC (ow_of hF.2.1)) (fun j h => ⟨_, (.tail _ (.head _)), (fp_own h)⟩), sub_k hF.2.2.1 (.tail _ (.tail _ (.head _))), trivial⟩, trivial⟩) (fun u20 g => (fams_cons fam_ow fams_nil)) (.inr (fun u20 g => (famx_cons trivial (fun K h => by cases h)))) (fun h => by cases h)) <|
   .cons [16] (ok_val (fun u20 => .slice ((u20 2).o 0) t21.length ((u20 2).n 0)) 16) <|
   .cons [17] (ok_val (fun u20 => .slice ((u20 5).o 0) t22.length ((u20 5).n 0)) 17) <| .nil) fun u20 a w' H => ?_
    replace H := H.kp [5, 6, 16, 17, 155, 164, 165, 999999]
    refine k_seq ?_
    replace G := bnd G; obtain ⟨z24, hz24, G⟩ := G
    replace hz24 := Option.some.inj hz24
    replace G := bnd G; obtain ⟨t25, ht25, G⟩ := G
    refine k_rg mixed H (.v 127 (.slice ((u20 2).o 0) t21.length ((u20 2).n 0)) <|
   .v 128 (vI (t21.length : Int)) <|
   .v 129 (.slice ((u5 1).o 0) (((u5 1).dl Sl.l gd_S_TInterval 0 t6.1).length) ((u5 1).n 0)) <|
   .cons [130] (ok_valL [155] (fun u23 => [nsK 22 37 2 en_TInterval ((u5 1).o 0) (((u5 1).dl Sl.l gd_S_TInterval 0 t6.1).length) ((u5 1).n 0) ((u5 1).dl Sl.l gd_S_TInterval 0 t6.1) ((u5 1).dl Sl.l gd_S_TInterval 0 t6.1)]) (fun u23 => vI (t6.1.length : Int)) (fun u23 => true) [true] 130 (fun u23 w hg hF => run_lenN (((ns_of hF.1).row.2.len enSl_len (by decide)).trans (map_len (dl_er ergd_S_TInterval (u5 1) 0 t6.1)).symm) (by kernel_rfl))) <|
   .v 131 (.bool ((t21.length : Int) == (t6.1.length : Int))) <|
   .v 132 (.bool ((t21.length : Int) == (t6.1.length : Int))) <|
   .cons [133] (ok_valg (fun u23 => .slice ((u20 5).o 0) t22.length ((u20 5).n 0)) (fun u23 => (((t21.length : Int) == (t6.1.length : Int)) == true)) [true] 133) <|
   .cons [134] (ok_valg (fun u23 => vI (t22.length : Int)) (fun u23 => (((t21.length : Int) == (t6.1.length : Int)) == true)) [false] 134) <|
   .cons [135] (ok_valg (fun u23 => .slice ((u5 1).o 0) (((u5 1).dl Sl.l gd_S_TInterval 0 t6.1).length) ((u5 1).n 0)) (fun u23 => (((t21.length : Int) == (t6.1.length : Int)) == true)) [true] 135) <|
   .cons [136] (ok_valL [155] (fun u23 => [nsK 22 37 2 en_TInterval ((u5 1).o 0) (((u5 1).dl Sl.l gd_S_TInterval 0 t6.1).length) ((u5 1).n 0) ((u5 1).dl Sl.l gd_S_TInterval 0 t6.1) ((u5 1).dl Sl.l gd_S_TInterval 0 t6.1)]) (fun u23 => vI (t6.1.length : Int)) (fun u23 => (((t21.length : Int) == (t6.1.length : Int)) == true)) [false] 136 (fun u23 w hg hF => run_lenN (((ns_of hF.1).row.2.len enSl_len (by decide)).trans (map_len (dl_er ergd_S_TInterval (u5 1) 0 t6.1)).symm) (by kernel_rfl))) <|
   .cons [137] (ok_valg (fun u23 => .bool ((t22.length : Int) == (t6.1.length : Int))) (fun u23 => (((t21.length : Int) == (t6.1.length : Int)) == true)) [false, false] 137) <|
   .cons [138] (ok_and 132 137 (fun u23 => true) (fun u23 => true) (fun u23 => ((t21.length : Int) == (t6.1.length : Int))) (fun u23 => ((t22.length : Int) == (t6.1.length : Int))) 138) <|
   .cons [139] (ok_as (u' := fun u23 => [(139, sB z24)]) (ok_val (fun u23 => .bool (((t21.length : Int) == (t6.1.length : Int)) && ((t22.length : Int) == (t6.1.length : Int)))) 139) (fun _ => by rw [← hz24])) <|
   .cons [140] (ok_valg (fun u23 => .slice ((u20 2).o 0) t21.length ((u20 2).n 0)) (fun u23 => (z24 == true)) [true] 140) <|
   .cons [141] (ok_valg (fun u23 => .slice ((u20 5).o 0) t22.length ((u20 5).n 0)) (fun u23 => (z24 == true)) [true] 141) <|
   .cons [142] (ok_callLg [164, 165] (fun u23 => [owK 37 2 ((u20 2).o 0) t21.length ((u20 2).n 0) (t21.flatMap en_TInterval), owK 37 2 ((u20 5).o 0) t22.length ((u20 5).n 0) (t22.flatMap en_TInterval)]) 24 (fun u23 => #[.slice ((u20 2).o 0) t21.length ((u20 2).n 0), .slice ((u20 5).o 0) t22.length ((u20 5).n 0)]) (.bool t25) (fun u23 => (z24 == true)) [true, false, false] 142 (fun u23 w hg hF => armillaryref03_Subset.calls k0 t21 t22 ((u20 2).o 0) ((u20 2).n 0) ((u20 5).o 0) ((u20 5).n 0) t25 w  ⟨(rdA (owns_rowC (ow_of hF.1))), (rdA (owns_rowC (ow_of hF.2.1))), trivial⟩ (ifp ht25 hg))) <|
   .cons [143] (ok_and 139 142 (fun u23 => true) (fun u23 => true) (fun u23 => z24) (fun u23 => t25) 143) <|
   .v 144 (.bool (z24 && t25)) <|
   .cons [145] (ok_valg (fun u23 => .bool t3) (fun u23 => ((z24 && t25) == true)) [true] 145) <|
   .cons [146] (ok_and 144 145 (fun u23 => true) (fun u23 => true) (fun u23 => (z24 && t25)) (fun u23 => t3) 146) <|
   .v 4 (.bool ((z24 && t25) && t3)) <| .nil) fun u23 a w' H => ?_
    replace H := H.kp [4, 999999]
    refine k_ret ?_
    obtain rfl := Option.some.inj G
    exact k_done0 H _ (by kernel_rfl) (by kernel_rfl)
   ·have G := hj19; clear hj19
    refine k_seq ?_
    refine k_rg mixed H (.v 15 (vI 0) <| .nil) fun u26 a w' H => ?_
    replace H := H.kp [5, 6, 8, 9, 11, 13, 14, 15, 155, 157, 161, 162, 163, 900131, 999999]
    refine k_block ?_
    refine k_loopJ (fun m a w' => ∃ x27 : Int, armillarylaw04_MatrixIsotonicity.l28 k0 a0 a1 t3 t6 t8 j11 t13 t15 t16 m x27 = some j19 ∧ Rep w.heap.size w 147 (ofL [(5, sB t3), (6, (sS ((u5 1).o 0) (((u5 1).dl Sl.l gd_S_TInterval 0 t6.1).length) ((u5 1).n 0))), (8, (sS ((u5 1).o 2) t6.2.2.length ((u5 1).n 2))), (9, sS p_j9 L_j9.length c_j9), (11, (sS ((u12 2).o 0) t13.length ((u12 2).n 0))), (13, (sS ((u14 2).o 0) (((u14 2).dl Sl.l gd_S_TInterval 0 t15).length) ((u14 2).n 0))), (14, (sS ((u14 5).o 0) (((u14 5).dl Sl.l gd_S_TInterval 0 t16).length) ((u14 5).n 0))), (15, sI x27), (155, nsK 22 37 2 en_TInterval ((u5 1).o 0) (((u5 1).dl Sl.l gd_S_TInterval 0 t6.1).length) ((u5 1).n 0) ((u5 1).dl Sl.l gd_S_TInterval 0 t6.1) ((u5 1).dl Sl.l gd_S_TInterval 0 t6.1)), (157, owK 37 2 ((u5 1).o 2) t6.2.2.length ((u5 1).n 2) (t6.2.2.flatMap en_TInterval)), (161, owK 37 2 ((u12 2).o 0) t13.length ((u12 2).n 0) (t13.flatMap en_TInterval)), (162, nsK 22 37 2 en_TInterval ((u14 2).o 0) (((u14 2).dl Sl.l gd_S_TInterval 0 t15).length) ((u14 2).n 0) ((u14 2).dl Sl.l gd_S_TInterval 0 t15) ((u14 2).dl Sl.l gd_S_TInterval 0 t15)), (163, nsK 22 37 2 en_TInterval ((u14 5).o 0) (((u14 5).dl Sl.l gd_S_TInterval 0 t16).length) ((u14 5).n 0) ((u14 5).dl Sl.l gd_S_TInterval 0 t16) ((u14 5).dl Sl.l gd_S_TInterval 0 t16)), (900131, nsK 22 37 2 en_TInterval p_j9 L_j9.length c_j9 L_j9 L_j9), (999999, gk)]) a w') k0 ⟨_, G, H.toL _ (by kernel_rfl)⟩ ?_
    clear G H
    rintro (_ | k) a w' ⟨x27, G, H⟩
    ·exact absurd G (by unfold armillarylaw04_MatrixIsotonicity.l28; exact fun h => by cases h)
    ·unfold armillarylaw04_MatrixIsotonicity.l28 at G
     refine k_seq ?_
     refine k_seq ?_
     refine k_rg mixed H (.v 85 (vI x27) <|
   .v 86 (.slice ((u5 1).o 0) (((u5 1).dl Sl.l gd_S_TInterval 0 t6.1).length) ((u5 1).n 0)) <|
   .cons [87] (ok_valL [155] (fun u29 => [nsK 22 37 2 en_TInterval ((u5 1).o 0) (((u5 1).dl Sl.l gd_S_TInterval 0 t6.1).length) ((u5 1).n 0) ((u5 1).dl Sl.l gd_S_TInterval 0 t6.1) ((u5 1).dl Sl.l gd_S_TInterval 0 t6.1)]) (fun u29 => vI (t6.1.length : Int)) (fun u29 => true) [true] 87 (fun u29 w hg hF => run_lenN (((ns_of hF.1).row.2.len enSl_len (by decide)).trans (map_len (dl_er ergd_S_TInterval (u5 1) 0 t6.1)).symm) (by kernel_rfl))) <|
   .v 88 (.bool (decide (x27 < (t6.1.length : Int)))) <| .nil) fun u29 a w' H => ?_
     replace H := H.kp [5, 6, 8, 9, 11, 13, 14, 15, 88, 155, 157, 161, 162, 163, 900131, 999999]
     refine k_cond H (by kernel_rfl) (t := decide (x27 < (t6.1.length : Int))) (by kernel_rfl) (fun c51 => ?_) (fun c51 => ?_)
     ·rw [if_pos c51] at G
      refine k_skip ?_
      refine k_seq ?_
      refine k_block ?_
      refine k_seq ?_
      replace G := gd G; obtain ⟨b31, G⟩ := G
      replace G := bnd G; obtain ⟨t32, ht32, G⟩ := G
      obtain ⟨p_t32, c_t32, y_t32⟩ := sl_get (dl_er ergd_S_TInterval (u14 2) 0 t15) ht32
      have P33 := ptr_of (en := enSl) (l := ((u14 2).dl Sl.l gd_S_TInterval 0 t15)) (ns_of (H.at (K := nsK 22 37 2 en_TInterval ((u14 2).o 0) (((u14 2).dl Sl.l gd_S_TInterval 0 t15).length) ((u14 2).n 0) ((u14 2).dl Sl.l gd_S_TInterval 0 t15) ((u14 2).dl Sl.l gd_S_TInterval 0 t15)) 162 (by kernel_rfl))).row.2 enSl_len
      replace G := bnd G; obtain ⟨z34, hz34, G⟩ := G
      replace hz34 := Option.some.inj hz34
      by_cases c49 : z34 = true
      ·rw [if_pos c49] at G; subst c49
       refine k_regT mixed H (.v 91 (.slice ((u14 2).o 0) (((u14 2).dl Sl.l gd_S_TInterval 0 t15).length) ((u14 2).n 0)) <|
   .v 92 (vI x27) <|
   .cons [93] (ok_val (fun u30 => .pointer (some ⟨hdB ((u14 2).o 0), hdO ((u14 2).o 0) + x27.toNat * 1, none⟩)) 93 (hv := fun _ _ => ix_pure (t := 27) (k := .i64) (i := x27) (p := ((u14 2).o 0)) (n := ((u14 2).dl Sl.l gd_S_TInterval 0 t15).length) (cap := ((u14 2).n 0)) (x := t15) P33 (map_len (dl_er ergd_S_TInterval (u14 2) 0 t15)) b31 (by kernel_rfl))) <|
   .cons [94] (ok_valL [162] (fun u30 => [nsK 22 37 2 en_TInterval ((u14 2).o 0) (((u14 2).dl Sl.l gd_S_TInterval 0 t15).length) ((u14 2).n 0) ((u14 2).dl Sl.l gd_S_TInterval 0 t15) ((u14 2).dl Sl.l gd_S_TInterval 0 t15)]) (fun u30 => .slice p_t32 t32.length c_t32) (fun u30 => true) [true] 94 (fun u30 w hg hF => ld_row (en := enSl) (ns_of hF.1).row.2 enSl_len y_t32 0 1 [.slice p_t32 t32.length c_t32] rfl (by kernel_rfl))) <|
   .v 95 (vI (t32.length : Int)) <|
   .v 96 (.slice ((u5 1).o 0) (((u5 1).dl Sl.l gd_S_TInterval 0 t6.1).length) ((u5 1).n 0)) <|
   .cons [97] (ok_valL [155] (fun u30 => [nsK 22 37 2 en_TInterval ((u5 1).o 0) (((u5 1).dl Sl.l gd_S_TInterval 0 t6.1).length) ((u5 1).n 0) ((u5 1).dl Sl.l gd_S_TInterval 0 t6.1) ((u5 1).dl Sl.l gd_S_TInterval 0 t6.1)]) (fun u30 => vI (t6.1.length : Int)) (fun u30 => true) [true] 97 (fun u30 w hg hF => run_lenN (((ns_of hF.1).row.2.len enSl_len (by decide)).trans (map_len (dl_er ergd_S_TInterval (u5 1) 0 t6.1)).symm) (by kernel_rfl))) <|
   .v 98 (.bool ((t32.length : Int) != (t6.1.length : Int))) <|
   .cons [99] (ok_as (u' := fun u30 => [(99, sB true)]) (ok_val (fun u30 => .bool ((t32.length : Int) != (t6.1.length : Int))) 99) (fun _ => by rw [hz34])) <|
   .cons [100] (ok_offB 100) <|
   .cons [101] (ok_offB 101) <|
   .cons [102] (ok_offB 102) <|
   .cons [103] (ok_offB 103) <|
   .cons [104] (ok_offB 104) <|
   .cons [105] (ok_offB 105) <|
   .cons [106] (ok_offB 106) <|
   .cons [107] (ok_offB 107) <|
   .cons [108] (ok_pickK (fun u30 => .bool true) 108) <|
   .v 109 (.bool true) <|
   .cons [110] (ok_offB 110) <|
   .cons [111] (ok_offB 111) <|
   .cons [112] (ok_offB 112) <|
   .cons [113] (ok_offB 113) <|
   .cons [114] (ok_offB 114) <|
   .cons [115] (ok_offB 115) <|
   .cons [116] (ok_offB 116) <|
   .cons [117] (ok_offB 117) <|
   .cons [118] (ok_offB 118) <|
   .cons [119] (ok_offB 119) <|
   .cons [120] (ok_pickK (fun u30 => .bool true) 120) <| .nil) (by kernel_rfl) fun u30 a w' H => ?_
       replace H := H.kp [5, 6, 8, 9, 11, 13, 14, 15, 100, 101, 102, 103, 104, 105, 106, 107, 110, 111, 112, 113, 114, 115, 116, 117, 118, 119, 120, 155, 157, 161, 162, 163, 900131, 999999]
       refine k_cond_true H (by kernel_rfl) (by kernel_rfl) ?_
       refine k_seq ?_
       refine k_rg mixed H (.v 4 (.bool false) <| .nil) fun u35 a w' H => ?_
       replace H := H.kp [4, 999999]
       refine k_ret ?_
       obtain rfl := Option.some.inj G
       replace G := Gj19
       obtain rfl := Option.some.inj G
       exact k_done0 H _ (by kernel_rfl) (by kernel_rfl)
      rw [if_neg c49] at G
      by_cases c50 : z34 = false
      ·rw [if_pos c50] at G; subst c50
       replace G := gd G; obtain ⟨b35, G⟩ := G
       replace G := bnd G; obtain ⟨t36, ht36, G⟩ := G
       obtain ⟨p_t36, c_t36, y_t36⟩ := sl_get (dl_er ergd_S_TInterval (u14 5) 0 t16) ht36
       have P37 := ptr_of (en := enSl) (l := ((u14 5).dl Sl.l gd_S_TInterval 0 t16)) (ns_of (H.at (K := nsK 22 37 2 en_TInterval ((u14 5).o 0) (((u14 5).dl Sl.l gd_S_TInterval 0 t16).length) ((u14 5).n 0) ((u14 5).dl Sl.l gd_S_TInterval 0 t16) ((u14 5).dl Sl.l gd_S_TInterval 0 t16)) 163 (by kernel_rfl))).row.2 enSl_len
       replace G := bnd G; obtain ⟨z38, hz38, G⟩ := G
       replace hz38 := Option.some.inj hz38
       by_cases c47 : z38 = true
       ·rw [if_pos c47] at G; subst c47
        refine k_regT mixed H (.v 91 (.slice ((u14 2).o 0) (((u14 2).dl Sl.l gd_S_TInterval 0 t15).length) ((u14 2).n 0)) <|
   .v 92 (vI x27) <|
   .cons [93] (ok_val (fun u30 => .pointer (some ⟨hdB ((u14 2).o 0), hdO ((u14 2).o 0) + x27.toNat * 1, none⟩)) 93 (hv := fun _ _ => ix_pure (t := 27) (k := .i64) (i := x27) (p := ((u14 2).o 0)) (n := ((u14 2).dl Sl.l gd_S_TInterval 0 t15).length) (cap := ((u14 2).n 0)) (x := t15) P33 (map_len (dl_er ergd_S_TInterval (u14 2) 0 t15)) b31 (by kernel_rfl))) <|
   .cons [94] (ok_valL [162] (fun u30 => [nsK 22 37 2 en_TInterval ((u14 2).o 0) (((u14 2).dl Sl.l gd_S_TInterval 0 t15).length) ((u14 2).n 0) ((u14 2).dl Sl.l gd_S_TInterval 0 t15) ((u14 2).dl Sl.l gd_S_TInterval 0 t15)]) (fun u30 => .slice p_t32 t32.length c_t32) (fun u30 => true) [true] 94 (fun u30 w hg hF => ld_row (en := enSl) (ns_of hF.1).row.2 enSl_len y_t32 0 1 [.slice p_t32 t32.length c_t32] rfl (by kernel_rfl))) <|
   .v 95 (vI (t32.length : Int)) <|
   .v 96 (.slice ((u5 1).o 0) (((u5 1).dl Sl.l gd_S_TInterval 0 t6.1).length) ((u5 1).n 0)) <|
   .cons [97] (ok_valL [155] (fun u30 => [nsK 22 37 2 en_TInterval ((u5 1).o 0) (((u5 1).dl Sl.l gd_S_TInterval 0 t6.1).length) ((u5 1).n 0) ((u5 1).dl Sl.l gd_S_TInterval 0 t6.1) ((u5 1).dl Sl.l gd_S_TInterval 0 t6.1)]) (fun u30 => vI (t6.1.length : Int)) (fun u30 => true) [true] 97 (fun u30 w hg hF => run_lenN (((ns_of hF.1).row.2.len enSl_len (by decide)).trans (map_len (dl_er ergd_S_TInterval (u5 1) 0 t6.1)).symm) (by kernel_rfl))) <|
   .v 98 (.bool ((t32.length : Int) != (t6.1.length : Int))) <|
   .cons [99] (ok_as (u' := fun u30 => [(99, sB false)]) (ok_val (fun u30 => .bool ((t32.length : Int) != (t6.1.length : Int))) 99) (fun _ => by rw [hz34])) <|
   .cons [100] (ok_gd (ok_val (fun u30 => .slice ((u14 5).o 0) (((u14 5).dl Sl.l gd_S_TInterval 0 t16).length) ((u14 5).n 0)) 100) (by intro _; kernel_rfl)) <|
   .cons [101] (ok_gd (ok_val (fun u30 => vI x27) 101) (by intro _; kernel_rfl)) <|
   .cons [102] (ok_gd (ok_val (fun u30 => .pointer (some ⟨hdB ((u14 5).o 0), hdO ((u14 5).o 0) + x27.toNat * 1, none⟩)) 102 (hv := fun _ _ => ix_pure (t := 27) (k := .i64) (i := x27) (p := ((u14 5).o 0)) (n := ((u14 5).dl Sl.l gd_S_TInterval 0 t16).length) (cap := ((u14 5).n 0)) (x := t16) P37 (map_len (dl_er ergd_S_TInterval (u14 5) 0 t16)) b35 (by kernel_rfl))) (by intro _; kernel_rfl)) <|
   .cons [103] (ok_gd (ok_valL [163] (fun u30 => [nsK 22 37 2 en_TInterval ((u14 5).o 0) (((u14 5).dl Sl.l gd_S_TInterval 0 t16).length) ((u14 5).n 0) ((u14 5).dl Sl.l gd_S_TInterval 0 t16) ((u14 5).dl Sl.l gd_S_TInterval 0 t16)]) (fun u30 => .slice p_t36 t36.length c_t36) (fun u30 => true) [true] 103 (fun u30 w hg hF => ld_row (en := enSl) (ns_of hF.1).row.2 enSl_len y_t36 0 1 [.slice p_t36 t36.length c_t36] rfl (by kernel_rfl))) (by intro _; kernel_rfl)) <|
   .cons [104] (ok_gd (ok_val (fun u30 => vI (t36.length : Int)) 104) (by intro _; kernel_rfl)) <|
   .cons [105] (ok_gd (ok_val (fun u30 => .slice ((u5 1).o 0) (((u5 1).dl Sl.l gd_S_TInterval 0 t6.1).length) ((u5 1).n 0)) 105) (by intro _; kernel_rfl)) <|
   .cons [106] (ok_gd (ok_valL [155] (fun u30 => [nsK 22 37 2 en_TInterval ((u5 1).o 0) (((u5 1).dl Sl.l gd_S_TInterval 0 t6.1).length) ((u5 1).n 0) ((u5 1).dl Sl.l gd_S_TInterval 0 t6.1) ((u5 1).dl Sl.l gd_S_TInterval 0 t6.1)]) (fun u30 => vI (t6.1.length : Int)) (fun u30 => true) [true] 106 (fun u30 w hg hF => run_lenN (((ns_of hF.1).row.2.len enSl_len (by decide)).trans (map_len (dl_er ergd_S_TInterval (u5 1) 0 t6.1)).symm) (by kernel_rfl))) (by intro _; kernel_rfl)) <|
   .cons [107] (ok_gd (ok_val (fun u30 => .bool ((t36.length : Int) != (t6.1.length : Int))) 107) (by intro _; kernel_rfl)) <|
   .cons [108] (ok_pickK (fun u30 => .bool ((t36.length : Int) != (t6.1.length : Int))) 108) <|
   .cons [109] (ok_as (u' := fun u30 => [(109, sB true)]) (ok_val (fun u30 => .bool ((t36.length : Int) != (t6.1.length : Int))) 109) (fun _ => by rw [hz38])) <|
   .cons [110] (ok_offB 110) <|
   .cons [111] (ok_offB 111) <|
   .cons [112] (ok_offB 112) <|
   .cons [113] (ok_offB 113) <|
   .cons [114] (ok_offB 114) <|
   .cons [115] (ok_offB 115) <|
   .cons [116] (ok_offB 116) <|
   .cons [117] (ok_offB 117) <|
   .cons [118] (ok_offB 118) <|
   .cons [119] (ok_offB 119) <|
   .cons [120] (ok_pickK (fun u30 => .bool true) 120) <| .nil) (by kernel_rfl) fun u30 a w' H => ?_
        replace H := H.kp [5, 6, 8, 9, 11, 13, 14, 15, 100, 101, 102, 103, 104, 105, 106, 107, 110, 111, 112, 113, 114, 115, 116, 117, 118, 119, 120, 155, 157, 161, 162, 163, 900131, 999999]
        refine k_cond_true H (by kernel_rfl) (by kernel_rfl) ?_
        refine k_seq ?_
        refine k_rg mixed H (.v 4 (.bool false) <| .nil) fun u39 a w' H => ?_
        replace H := H.kp [4, 999999]
        refine k_ret ?_
        obtain rfl := Option.some.inj G
        replace G := Gj19
        obtain rfl := Option.some.inj G
        exact k_done0 H _ (by kernel_rfl) (by kernel_rfl)
       rw [if_neg c47] at G
       by_cases c48 : z38 = false
       ·rw [if_pos c48] at G; subst c48
        replace G := gd G; obtain ⟨b39, G⟩ := G
        replace G := bnd G; obtain ⟨t40, ht40, G⟩ := G
        obtain ⟨p_t40, c_t40, y_t40⟩ := sl_get (dl_er ergd_S_TInterval (u14 2) 0 t15) ht40
        replace G := gd G; obtain ⟨b41, G⟩ := G
        replace G := bnd G; obtain ⟨t42, ht42, G⟩ := G
        obtain ⟨p_t42, c_t42, y_t42⟩ := sl_get (dl_er ergd_S_TInterval (u14 5) 0 t16) ht42
        replace G := bnd G; obtain ⟨t43, ht43, G⟩ := G
        refine k_regT mixed H (.v 91 (.slice ((u14 2).o 0) (((u14 2).dl Sl.l gd_S_TInterval 0 t15).length) ((u14 2).n 0)) <|
   .v 92 (vI x27) <|
   .cons [93] (ok_val (fun u30 => .pointer (some ⟨hdB ((u14 2).o 0), hdO ((u14 2).o 0) + x27.toNat * 1, none⟩)) 93 (hv := fun _ _ => ix_pure (t := 27) (k := .i64) (i := x27) (p := ((u14 2).o 0)) (n := ((u14 2).dl Sl.l gd_S_TInterval 0 t15).length) (cap := ((u14 2).n 0)) (x := t15) P33 (map_len (dl_er ergd_S_TInterval (u14 2) 0 t15)) b31 (by kernel_rfl))) <|
   .cons [94] (ok_valL [162] (fun u30 => [nsK 22 37 2 en_TInterval ((u14 2).o 0) (((u14 2).dl Sl.l gd_S_TInterval 0 t15).length) ((u14 2).n 0) ((u14 2).dl Sl.l gd_S_TInterval 0 t15) ((u14 2).dl Sl.l gd_S_TInterval 0 t15)]) (fun u30 => .slice p_t32 t32.length c_t32) (fun u30 => true) [true] 94 (fun u30 w hg hF => ld_row (en := enSl) (ns_of hF.1).row.2 enSl_len y_t32 0 1 [.slice p_t32 t32.length c_t32] rfl (by kernel_rfl))) <|
   .v 95 (vI (t32.length : Int)) <|
   .v 96 (.slice ((u5 1).o 0) (((u5 1).dl Sl.l gd_S_TInterval 0 t6.1).length) ((u5 1).n 0)) <|
   .cons [97] (ok_valL [155] (fun u30 => [nsK 22 37 2 en_TInterval ((u5 1).o 0) (((u5 1).dl Sl.l gd_S_TInterval 0 t6.1).length) ((u5 1).n 0) ((u5 1).dl Sl.l gd_S_TInterval 0 t6.1) ((u5 1).dl Sl.l gd_S_TInterval 0 t6.1)]) (fun u30 => vI (t6.1.length : Int)) (fun u30 => true) [true] 97 (fun u30 w hg hF => run_lenN (((ns_of hF.1).row.2.len enSl_len (by decide)).trans (map_len (dl_er ergd_S_TInterval (u5 1) 0 t6.1)).symm) (by kernel_rfl))) <|
   .v 98 (.bool ((t32.length : Int) != (t6.1.length : Int))) <|
   .cons [99] (ok_as (u' := fun u30 => [(99, sB false)]) (ok_val (fun u30 => .bool ((t32.length : Int) != (t6.1.length : Int))) 99) (fun _ => by rw [hz34])) <|
   .cons [100] (ok_gd (ok_val (fun u30 => .slice ((u14 5).o 0) (((u14 5).dl Sl.l gd_S_TInterval 0 t16).length) ((u14 5).n 0)) 100) (by intro _; kernel_rfl)) <|
   .cons [101] (ok_gd (ok_val (fun u30 => vI x27) 101) (by intro _; kernel_rfl)) <|
   .cons [102] (ok_gd (ok_val (fun u30 => .pointer (some ⟨hdB ((u14 5).o 0), hdO ((u14 5).o 0) + x27.toNat * 1, none⟩)) 102 (hv := fun _ _ => ix_pure (t := 27) (k := .i64) (i := x27) (p := ((u14 5).o 0)) (n := ((u14 5).dl Sl.l gd_S_TInterval 0 t16).length) (cap := ((u14 5).n 0)) (x := t16) P37 (map_len (dl_er ergd_S_TInterval (u14 5) 0 t16)) b35 (by kernel_rfl))) (by intro _; kernel_rfl)) <|
   .cons [103] (ok_gd (ok_valL [163] (fun u30 => [nsK 22 37 2 en_TInterval ((u14 5).o 0) (((u14 5).dl Sl.l gd_S_TInterval 0 t16).length) ((u14 5).n 0) ((u14 5).dl Sl.l gd_S_TInterval 0 t16) ((u14 5).dl Sl.l gd_S_TInterval 0 t16)]) (fun u30 => .slice p_t36 t36.length c_t36) (fun u30 => true) [true] 103 (fun u30 w hg hF => ld_row (en := enSl) (ns_of hF.1).row.2 enSl_len y_t36 0 1 [.slice p_t36 t36.length c_t36] rfl (by kernel_rfl))) (by intro _; kernel_rfl)) <|
   .cons [104] (ok_gd (ok_val (fun u30 => vI (t36.length : Int)) 104) (by intro _; kernel_rfl)) <|
   .cons [105] (ok_gd (ok_val (fun u30 => .slice ((u5 1).o 0) (((u5 1).dl Sl.l gd_S_TInterval 0 t6.1).length) ((u5 1).n 0)) 105) (by intro _; kernel_rfl)) <|
   .cons [106] (ok_gd (ok_valL [155] (fun u30 => [nsK 22 37 2 en_TInterval ((u5 1).o 0) (((u5 1).dl Sl.l gd_S_TInterval 0 t6.1).length) ((u5 1).n 0) ((u5 1).dl Sl.l gd_S_TInterval 0 t6.1) ((u5 1).dl Sl.l gd_S_TInterval 0 t6.1)]) (fun u30 => vI (t6.1.length : Int)) (fun u30 => true) [true] 106 (fun u30 w hg hF => run_lenN (((ns_of hF.1).row.2.len enSl_len (by decide)).trans (map_len (dl_er ergd_S_TInterval (u5 1) 0 t6.1)).symm) (by kernel_rfl))) (by intro _; kernel_rfl)) <|
   .cons [107] (ok_gd (ok_val (fun u30 => .bool ((t36.length : Int) != (t6.1.length : Int))) 107) (by intro _; kernel_rfl)) <|
   .cons [108] (ok_pickK (fun u30 => .bool ((t36.length : Int) != (t6.1.length : Int))) 108) <|
   .cons [109] (ok_as (u' := fun u30 => [(109, sB false)]) (ok_val (fun u30 => .bool ((t36.length : Int) != (t6.1.length : Int))) 109) (fun _ => by rw [hz38])) <|
   .cons [110] (ok_gd (ok_val (fun u30 => .slice ((u14 2).o 0) (((u14 2).dl Sl.l gd_S_TInterval 0 t15).length) ((u14 2).n 0)) 110) (by intro _; kernel_rfl)) <|
   .cons [111] (ok_gd (ok_val (fun u30 => vI x27) 111) (by intro _; kernel_rfl)) <|
   .cons [112] (ok_gd (ok_val (fun u30 => .pointer (some ⟨hdB ((u14 2).o 0), hdO ((u14 2).o 0) + x27.toNat * 1, none⟩)) 112 (hv := fun _ _ => ix_pure (t := 27) (k := .i64) (i := x27) (p := ((u14 2).o 0)) (n := ((u14 2).dl Sl.l gd_S_TInterval 0 t15).length) (cap := ((u14 2).n 0)) (x := t15) P33 (map_len (dl_er ergd_S_TInterval (u14 2) 0 t15)) b39 (by kernel_rfl))) (by intro _; kernel_rfl)) <|
   .cons [113] (ok_gd (ok_valL [162] (fun u30 => [nsK 22 37 2 en_TInterval ((u14 2).o 0) (((u14 2).dl Sl.l gd_S_TInterval 0 t15).length) ((u14 2).n 0) ((u14 2).dl Sl.l gd_S_TInterval 0 t15) ((u14 2).dl Sl.l gd_S_TInterval 0 t15)]) (fun u30 => .slice p_t40 t40.length c_t40) (fun u30 => true) [true] 113 (fun u30 w hg hF => ld_row (en := enSl) (ns_of hF.1).row.2 enSl_len y_t40 0 1 [.slice p_t40 t40.length c_t40] rfl (by kernel_rfl))) (by intro _; kernel_rfl)) <|
   .cons [114] (ok_gd (ok_val (fun u30 => .slice ((u14 5).o 0) (((u14 5).dl Sl.l gd_S_TInterval 0 t16).length) ((u14 5).n 0)) 114) (by intro _; kernel_rfl)) <|
   .cons [115] (ok_gd (ok_val (fun u30 => vI x27) 115) (by intro _; kernel_rfl)) <|
   .cons [116] (ok_gd (ok_val (fun u30 => .pointer (some ⟨hdB ((u14 5).o 0), hdO ((u14 5).o 0) + x27.toNat * 1, none⟩)) 116 (hv := fun _ _ => ix_pure (t := 27) (k := .i64) (i := x27) (p := ((u14 5).o 0)) (n := ((u14 5).dl Sl.l gd_S_TInterval 0 t16).length) (cap := ((u14 5).n 0)) (x := t16) P37 (map_len (dl_er ergd_S_TInterval (u14 5) 0 t16)) b41 (by kernel_rfl))) (by intro _; kernel_rfl)) <|
   .cons [117] (ok_gd (ok_valL [163] (fun u30 => [nsK 22 37 2 en_TInterval ((u14 5).o 0) (((u14 5).dl Sl.l gd_S_TInterval 0 t16).length) ((u14 5).n 0) ((u14 5).dl Sl.l gd_S_TInterval 0 t16) ((u14 5).dl Sl.l gd_S_TInterval 0 t16)]) (fun u30 => .slice p_t42 t42.length c_t42) (fun u30 => true) [true] 117 (fun u30 w hg hF => ld_row (en := enSl) (ns_of hF.1).row.2 enSl_len y_t42 0 1 [.slice p_t42 t42.length c_t42] rfl (by kernel_rfl))) (by intro _; kernel_rfl)) <|
   .cons [118] (ok_gd (ok_callL [162, 163] (fun u30 => [nsK 22 37 2 en_TInterval ((u14 2).o 0) (((u14 2).dl Sl.l gd_S_TInterval 0 t15).length) ((u14 2).n 0) ((u14 2).dl Sl.l gd_S_TInterval 0 t15) ((u14 2).dl Sl.l gd_S_TInterval 0 t15), nsK 22 37 2 en_TInterval ((u14 5).o 0) (((u14 5).dl Sl.l gd_S_TInterval 0 t16).length) ((u14 5).n 0) ((u14 5).dl Sl.l gd_S_TInterval 0 t16) ((u14 5).dl Sl.l gd_S_TInterval 0 t16)]) 24 (fun u30 => #[.slice p_t40 t40.length c_t40, .slice p_t42 t42.length c_t42]) (.bool t43) 118 (fun u30 w hF => armillaryref03_Subset.calls k0 t40 t42 p_t40 c_t40 p_t42 c_t42 t43 w  ⟨(rdA ((ns_of hF.1).one y_t40)), (rdA ((ns_of hF.2.1).one y_t42)), trivial⟩ ht43)) (by intro _; kernel_rfl)) <|
   .cons [119] (ok_gd (ok_val (fun u30 => .bool (!t43)) 119) (by intro _; kernel_rfl)) <|
   .cons [120] (ok_pickK (fun u30 => .bool (!t43)) 120) <| .nil) (by kernel_rfl) fun u30 a w' H => ?_
        replace H := H.kp [5, 6, 8, 9, 11, 13, 14, 15, 100, 101, 102, 103, 104, 105, 106, 107, 110, 111, 112, 113, 114, 115, 116, 117, 118, 119, 120, 155, 157, 161, 162, 163, 900131, 999999]
        refine k_cond H (by kernel_rfl) (t := (!t43)) (by kernel_rfl) (fun c46 => ?_) (fun c46 => ?_)
        ·rw [if_pos c46] at G
         refine k_seq ?_
         refine k_rg mixed H (.v 4 (.bool false) <| .nil) fun u44 a w' H => ?_
         replace H := H.kp [4, 999999]
         refine k_ret ?_
         obtain rfl := Option.some.inj G
         replace G := Gj19
         obtain rfl := Option.some.inj G
         exact k_done0 H _ (by kernel_rfl) (by kernel_rfl)
        ·rw [if_neg (nt c46)] at G
         refine k_skip ?_
         refine k_rg mixed H (.v 89 (vI x27) <|
   .v 90 (vI (w_i64 (x27 + 1))) <|
   .v 15 (vI (w_i64 (x27 + 1))) <| .nil) fun u45 a w' H => ?_
         replace H := H.kp [5, 6, 8, 9, 11, 13, 14, 15, 100, 101, 102, 103, 104, 105, 106, 107, 110, 111, 112, 113, 114, 115, 116, 117, 118, 119, 155, 157, 161, 162, 163, 900131, 999999]
         exact ⟨k, Nat.lt_succ_self k, _, G, H.toL _ (by kernel_rfl)⟩
       rw [if_neg c48] at G
       cases G
      rw [if_neg c50] at G
      cases G
     ·rw [if_neg (nt c51)] at G
      refine k_exit rfl ?_
      obtain rfl := Option.some.inj G
      exact ⟨_, rfl, H.toL _ (by kernel_rfl)⟩
 ·clear G; replace G := hj11; clear hj11
  refine k_seq ?_
  refine k_rg mixed H (.v 12 (vI 0) <| .nil) fun u53 a w' H => ?_
  replace H := H.toM [(5, sB t3), (6, (sS ((u5 1).o 0) (((u5 1).dl Sl.l gd_S_TInterval 0 t6.1).length) ((u5 1).n 0))), (7, (sS ((u5 1).o 1) (((u5 1).dl Sl.l gd_S_TInterval 1 t6.2.1).length) ((u5 1).n 1))), (8, (sS ((u5 1).o 2) t6.2.2.length ((u5 1).n 2))), (9, (sS ((u7 1).o 0) (((u7 1).dl Sl.l gd_S_TInterval 0 t8.1).length) ((u7 1).n 0))), (10, (sS ((u7 1).o 1) (((u7 1).dl Sl.l gd_S_TInterval 1 t8.2.1).length) ((u7 1).n 1))), (11, (sS ((u7 1).o 2) t8.2.2.length ((u7 1).n 2))), (12, sI 0), (155, nsK 22 37 2 en_TInterval ((u5 1).o 0) (((u5 1).dl Sl.l gd_S_TInterval 0 t6.1).length) ((u5 1).n 0) ((u5 1).dl Sl.l gd_S_TInterval 0 t6.1) ((u5 1).dl Sl.l gd_S_TInterval 0 t6.1)), (156, nsK 22 37 2 en_TInterval ((u5 1).o 1) (((u5 1).dl Sl.l gd_S_TInterval 1 t6.2.1).length) ((u5 1).n 1) ((u5 1).dl Sl.l gd_S_TInterval 1 t6.2.1) ((u5 1).dl Sl.l gd_S_TInterval 1 t6.2.1)), (157, owK 37 2 ((u5 1).o 2) t6.2.2.length ((u5 1).n 2) (t6.2.2.flatMap en_TInterval)), (158, nsK 22 37 2 en_TInterval ((u7 1).o 0) (((u7 1).dl Sl.l gd_S_TInterval 0 t8.1).length) ((u7 1).n 0) ((u7 1).dl Sl.l gd_S_TInterval 0 t8.1) ((u7 1).dl Sl.l gd_S_TInterval 0 t8.1)), (159, nsK 22 37 2 en_TInterval ((u7 1).o 1) (((u7 1).dl Sl.l gd_S_TInterval 1 t8.2.1).length) ((u7 1).n 1) ((u7 1).dl Sl.l gd_S_TInterval 1 t8.2.1) ((u7 1).dl Sl.l gd_S_TInterval 1 t8.2.1)), (160, owK 37 2 ((u7 1).o 2) t8.2.2.length ((u7 1).n 2) (t8.2.2.flatMap en_TInterval)), (999999, gk)]
  refine k_block ?_
  replace H := H.move (K := nsK 22 37 2 en_TInterval ((u7 1).o 0) (((u7 1).dl Sl.l gd_S_TInterval 0 t8.1).length) ((u7 1).n 0) ((u7 1).dl Sl.l gd_S_TInterval 0 t8.1) ((u7 1).dl Sl.l gd_S_TInterval 0 t8.1)) 158 900135 (by kernel_rfl) (by intro _ _ h; cases h)
  replace H := H.move (K := nsK 22 37 2 en_TInterval ((u7 1).o 1) (((u7 1).dl Sl.l gd_S_TInterval 1 t8.2.1).length) ((u7 1).n 1) ((u7 1).dl Sl.l gd_S_TInterval 1 t8.2.1) ((u7 1).dl Sl.l gd_S_TInterval 1 t8.2.1)) 159 900137 (by kernel_rfl) (by intro _ _ h; cases h)
  refine k_loopJ (fun m a w' => ∃ x54 : List (List TInterval), ∃ x55 : List (List TInterval), ∃ x56 : Int, armillarylaw04_MatrixIsotonicity.l57 k0 a0 a1 t3 t6 t8 m x54 x55 x56 = some j11 ∧ ∃ (p_x54 : Option Addr) (c_x54 np_x54 : Nat) (L_x54 : List (Sl TInterval)), np_x54 = L_x54.length ∧ x54 = L_x54.map Sl.l ∧ ∃ (p_x55 : Option Addr) (c_x55 np_x55 : Nat) (L_x55 : List (Sl TInterval)), np_x55 = L_x55.length ∧ x55 = L_x55.map Sl.l ∧ Rep w.heap.size w 147 (ofL [(5, sB t3), (6, (sS ((u5 1).o 0) (((u5 1).dl Sl.l gd_S_TInterval 0 t6.1).length) ((u5 1).n 0))), (7, (sS ((u5 1).o 1) (((u5 1).dl Sl.l gd_S_TInterval 1 t6.2.1).length) ((u5 1).n 1))), (8, (sS ((u5 1).o 2) t6.2.2.length ((u5 1).n 2))), (9, sS p_x54 np_x54 c_x54), (10, sS p_x55 np_x55 c_x55), (11, (sS ((u7 1).o 2) t8.2.2.length ((u7 1).n 2))), (12, sI x56), (155, nsK 22 37 2 en_TInterval ((u5 1).o 0) (((u5 1).dl Sl.l gd_S_TInterval 0 t6.1).length) ((u5 1).n 0) ((u5 1).dl Sl.l gd_S_TInterval 0 t6.1) ((u5 1).dl Sl.l gd_S_TInterval 0 t6.1)), (156, nsK 22 37 2 en_TInterval ((u5 1).o 1) (((u5 1).dl Sl.l gd_S_TInterval 1 t6.2.1).length) ((u5 1).n 1) ((u5 1).dl Sl.l gd_S_TInterval 1 t6.2.1) ((u5 1).dl Sl.l gd_S_TInterval 1 t6.2.1)), (157, owK 37 2 ((u5 1).o 2) t6.2.2.length ((u5 1).n 2) (t6.2.2.flatMap en_TInterval)), (160, owK 37 2 ((u7 1).o 2) t8.2.2.length ((u7 1).n 2) (t8.2.2.flatMap en_TInterval)), (900135, nsK 22 37 2 en_TInterval p_x54 np_x54 c_x54 L_x54 L_x54), (900137, nsK 22 37 2 en_TInterval p_x55 np_x55 c_x55 L_x55 L_x55), (999999, gk)]) a w') k0 ⟨_, _, _, G, ((u7 1).o 0), ((u7 1).n 0), ((u7 1).dl Sl.l gd_S_TInterval 0 t8.1).length, ((u7 1).dl Sl.l gd_S_TInterval 0 t8.1), rfl, (dl_er ergd_S_TInterval (u7 1) 0 t8.1), ((u7 1).o 1), ((u7 1).n 1), ((u7 1).dl Sl.l gd_S_TInterval 1 t8.2.1).length, ((u7 1).dl Sl.l gd_S_TInterval 1 t8.2.1), rfl, (dl_er ergd_S_TInterval (u7 1) 1 t8.2.1), H.toL _ (by kernel_rfl)⟩ ?_
  clear G H
  rintro (_ | k) a w' ⟨x54, x55, x56, G, p_x54, c_x54, _, L_x54, rfl, h_x54, p_x55, c_x55, _, L_x55, rfl, h_x55, H⟩
  ·exact absurd G (by unfold armillarylaw04_MatrixIsotonicity.l57; exact fun h => by cases h)
  ·unfold armillarylaw04_MatrixIsotonicity.l57 at G
   refine k_seq ?_
   refine k_seq ?_
   refine k_rg mixed H (.v 34 (vI x56) <|
   .v 35 (.slice ((u5 1).o 0) (((u5 1).dl Sl.l gd_S_TInterval 0 t6.1).length) ((u5 1).n 0)) <|
   .cons [36] (ok_valL [155] (fun u58 => [nsK 22 37 2 en_TInterval ((u5 1).o 0) (((u5 1).dl Sl.l gd_S_TInterval 0 t6.1).length) ((u5 1).n 0) ((u5 1).dl Sl.l gd_S_TInterval 0 t6.1) ((u5 1).dl Sl.l gd_S_TInterval 0 t6.1)]) (fun u58 => vI (t6.1.length : Int)) (fun u58 => true) [true] 36 (fun u58 w hg hF => run_lenN (((ns_of hF.1).row.2.len enSl_len (by decide)).trans (map_len (dl_er ergd_S_TInterval (u5 1) 0 t6.1)).symm) (by kernel_rfl))) <|
   .v 37 (.bool (decide (x56 < (t6.1.length : Int)))) <| .nil) fun u58 a w' H => ?_
   replace H := H.kp [5, 6, 7, 8, 9, 10, 11, 12, 37, 155, 156, 157, 160, 900135, 900137, 999999]
   refine k_cond H (by kernel_rfl) (t := decide (x56 < (t6.1.length : Int))) (by kernel_rfl) (fun c80 => ?_) (fun c80 => ?_)
   ·rw [if_pos c80] at G
    refine k_skip ?_
    refine k_seq ?_
    refine k_block ?_
    refine k_seq ?_
    replace G := gd G; obtain ⟨b60, G⟩ := G
    replace G := bnd G; obtain ⟨t61, ht61, G⟩ := G
    obtain ⟨p_t61, c_t61, y_t61⟩ := sl_get (dl_er ergd_S_TInterval (u5 1) 0 t6.1) ht61
    have P62 := ptr_of (en := enSl) (l := ((u5 1).dl Sl.l gd_S_TInterval 0 t6.1)) (ns_of (H.at (K := nsK 22 37 2 en_TInterval ((u5 1).o 0) (((u5 1).dl Sl.l gd_S_TInterval 0 t6.1).length) ((u5 1).n 0) ((u5 1).dl Sl.l gd_S_TInterval 0 t6.1) ((u5 1).dl Sl.l gd_S_TInterval 0 t6.1)) 155 (by kernel_rfl))).row.2 enSl_len
    replace G := gd G; obtain ⟨b63, G⟩ := G
    replace G := bnd G; obtain ⟨t64, ht64, G⟩ := G
    obtain ⟨p_t64, c_t64, y_t64⟩ := sl_get h_x54 ht64
    have P65 := ptr_of (en := enSl) (l := L_x54) (ns_of (H.at (K := nsK 22 37 2 en_TInterval p_x54 L_x54.length c_x54 L_x54 L_x54) 900135 (by kernel_rfl))).row.2 enSl_len
    replace G := bnd G; obtain ⟨t66, ht66, G⟩ := G
    replace G := gd G; obtain ⟨b67, G⟩ := G
    replace G := bnd G; obtain ⟨t68, ht68, G⟩ := G
    obtain ⟨p_t68, c_t68, y_t68⟩ := sl_get h_x54 ht68
    refine k_regT mixed H (.v 40 (.slice p_x54 L_x54.length c_x54) <|
   .v 41 (vI x56) <|
   .v 42 (.slice ((u5 1).o 0) (((u5 1).dl Sl.l gd_S_TInterval 0 t6.1).length) ((u5 1).n 0)) <|
   .v 43 (vI x56) <|
   .cons [44] (ok_val (fun u59 => .pointer (some ⟨hdB ((u5 1).o 0), hdO ((u5 1).o 0) + x56.toNat * 1, none⟩)) 44 (hv := fun _ _ => ix_pure (t := 27) (k := .i64) (i := x56) (p := ((u5 1).o 0)) (n := ((u5 1).dl Sl.l gd_S_TInterval 0 t6.1).length) (cap := ((u5 1).n 0)) (x := t6.1) P62 (map_len (dl_er ergd_S_TInterval (u5 1) 0 t6.1)) b60 (by kernel_rfl))) <|
   .cons [45] (ok_valL [155] (fun u59 => [nsK 22 37 2 en_TInterval ((u5 1).o 0) (((u5 1).dl Sl.l gd_S_TInterval 0 t6.1).length) ((u5 1).n 0) ((u5 1).dl Sl.l gd_S_TInterval 0 t6.1) ((u5 1).dl Sl.l gd_S_TInterval 0 t6.1)]) (fun u59 => .slice p_t61 t61.length c_t61) (fun u59 => true) [true] 45 (fun u59 w hg hF => ld_row (en := enSl) (ns_of hF.1).row.2 enSl_len y_t61 0 1 [.slice p_t61 t61.length c_t61] rfl (by kernel_rfl))) <|
   .v 46 (.slice p_x54 L_x54.length c_x54) <|
   .v 47 (vI x56) <|
   .cons [48] (ok_val (fun u59 => .pointer (some ⟨hdB p_x54, hdO p_x54 + x56.toNat * 1, none⟩)) 48 (hv := fun _ _ => ix_pure (t := 27) (k := .i64) (i := x56) (p := p_x54) (n := L_x54.length) (cap := c_x54) (x := x54) P65 (map_len h_x54) b63 (by kernel_rfl))) <|
   .cons [49] (ok_valL [900135] (fun u59 => [nsK 22 37 2 en_TInterval p_x54 L_x54.length c_x54 L_x54 L_x54]) (fun u59 => .slice p_t64 t64.length c_t64) (fun u59 => true) [true] 49 (fun u59 w hg hF => ld_row (en := enSl) (ns_of hF.1).row.2 enSl_len y_t64 0 1 [.slice p_t64 t64.length c_t64] rfl (by kernel_rfl))) <|
   .cons [50, 166] (ok_callY false fr [] [155, 900135] (fun u59 => [nsK 22 37 2 en_TInterval ((u5 1).o 0) (((u5 1).dl Sl.l gd_S_TInterval 0 t6.1).length) ((u5 1).n 0) ((u5 1).dl Sl.l gd_S_TInterval 0 t6.1) ((u5 1).dl Sl.l gd_S_TInterval 0 t6.1), nsK 22 37 2 en_TInterval p_x54 L_x54.length c_x54 L_x54 L_x54]) [] (fun u59 => []) 23 (fun u59 => #[.slice p_t61 t61.length c_t61, .slice p_t64 t64.length c_t64]) (fun u59 => [rdl anyF 2 p_t61 c_t61 t61 en_TInterval, rdl anyF 2 p_t64 c_t64 t64 en_TInterval]) (fun u59 => []) (fun u59 g => .slice (g.o 0) t66.length (g.n 0)) (fun u59 g => [fun _ => owK 37 2 (g.o 0) t66.length (g.n 0) (t66.flatMap en_TInterval)]) [166] 50 (fun u59 w hB hF hM => armillaryref03_Hull.calls k0 t61 t64 p_t61 c_t61 p_t64 c_t64 t66 w  hB ht66) (fun u59 w hF => ⟨⟨sub_rd0 ((ns_of hF.1).one y_t61) (fun j h => ⟨_, (.head _), (ns_fp1 y_t61 h)⟩), sub_rd0 ((ns_of hF.2.1).one y_t64) (fun j h => ⟨_, (.tail _ (.head _)), (ns_fp1 y_t64 h)⟩), trivial⟩, trivial⟩) (fun u59 g => (fams_cons fam_ow fams_nil)) (.inr (fun u59 g => (famx_cons trivial (fun K h => by cases h)))) (fun h => by cases h)) <|
   .cons [51] (ok_val (fun u59 => .pointer (some ⟨hdB p_x54, hdO p_x54 + x56.toNat * 1, none⟩)) 51 (hv := fun _ _ => ix_pure (t := 27) (k := .i64) (i := x56) (p := p_x54) (n := L_x54.length) (cap := c_x54) (x := x54) P65 (map_len h_x54) b67 (by kernel_rfl))) <|
   .cons [900135, 166, 900135] (ok_own2 [10] [] (fun u59 => []) 900135 166 (fun u59 => nsK 22 37 2 en_TInterval p_x54 L_x54.length c_x54 L_x54 L_x54) (fun u59 => owK 37 2 ((u59 10).o 0) t66.length ((u59 10).n 0) (t66.flatMap en_TInterval)) none (fun u59 g => .nilFunc) (fun u59 g => nsK 22 37 2 en_TInterval p_x54 L_x54.length c_x54 (L_x54.set x56.toNat (⟨((u59 10).o 0), ((u59 10).n 0), t66⟩ : Sl TInterval)) (L_x54.set x56.toNat (⟨((u59 10).o 0), ((u59 10).n 0), t66⟩ : Sl TInterval))) (fun u59 w hF hK hK2 hd => tn_take hK hK2 hd en_TInterval_len (by decide) (fun hn h => el_storeN (en := enSl) h enSl_len (y := (⟨((u59 10).o 0), ((u59 10).n 0), t66⟩ : Sl TInterval)) (vs := [.slice ((u59 10).o 0) t66.length ((u59 10).n 0)]) y_t68 0 (by simp) (by simp) rfl (by kernel_rfl))) (hloc := fun u u' h => ⟨by first | rfl | simp only [h 10 (by decide)], by first | rfl | simp only [h 10 (by decide)], by first | rfl | simp only [h 10 (by decide)], by first | rfl | simp only [h 10 (by decide)], by first | rfl | simp only [h 10 (by decide)]⟩)) <| .nil) (by kernel_rfl) fun u59 a w' H => ?_
    replace H := H.kp [5, 6, 7, 8, 9, 10, 11, 12, 155, 156, 157, 160, 900135, 900137, 999999]
    replace G := gd G; obtain ⟨b70, G⟩ := G
    replace G := bnd G; obtain ⟨t71, ht71, G⟩ := G
    obtain ⟨p_t71, c_t71, y_t71⟩ := sl_get (dl_er ergd_S_TInterval (u5 1) 1 t6.2.1) ht71
    have P72 := ptr_of (en := enSl) (l := ((u5 1).dl Sl.l gd_S_TInterval 1 t6.2.1)) (ns_of (H.at (K := nsK 22 37 2 en_TInterval ((u5 1).o 1) (((u5 1).dl Sl.l gd_S_TInterval 1 t6.2.1).length) ((u5 1).n 1) ((u5 1).dl Sl.l gd_S_TInterval 1 t6.2.1) ((u5 1).dl Sl.l gd_S_TInterval 1 t6.2.1)) 156 (by kernel_rfl))).row.2 enSl_len
    replace G := gd G; obtain ⟨b73, G⟩ := G
    replace G := bnd G; obtain ⟨t74, ht74, G⟩ := G
    obtain ⟨p_t74, c_t74, y_t74⟩ := sl_get h_x55 ht74
    have P75 := ptr_of (en := enSl) (l := L_x55) (ns_of (H.at (K := nsK 22 37 2 en_TInterval p_x55 L_x55.length c_x55 L_x55 L_x55) 900137 (by kernel_rfl))).row.2 enSl_len
    replace G := bnd G; obtain ⟨t76, ht76, G⟩ := G
    replace G := gd G; obtain ⟨b77, G⟩ := G
    replace G := bnd G; obtain ⟨t78, ht78, G⟩ := G
    obtain ⟨p_t78, c_t78, y_t78⟩ := sl_get h_x55 ht78
    refine k_regT mixed H (.v 52 (.slice p_x55 L_x55.length c_x55) <|
   .v 53 (vI x56) <|
   .v 54 (.slice ((u5 1).o 1) (((u5 1).dl Sl.l gd_S_TInterval 1 t6.2.1).length) ((u5 1).n 1)) <|
   .v 55 (vI x56) <|
   .cons [56] (ok_val (fun u69 => .pointer (some ⟨hdB ((u5 1).o 1), hdO ((u5 1).o 1) + x56.toNat * 1, none⟩)) 56 (hv := fun _ _ => ix_pure (t := 27) (k := .i64) (i := x56) (p := ((u5 1).o 1)) (n := ((u5 1).dl Sl.l gd_S_TInterval 1 t6.2.1).length) (cap := ((u5 1).n 1)) (x := t6.2.1) P72 (map_len (dl_er ergd_S_TInterval (u5 1) 1 t6.2.1)) b70 (by kernel_rfl))) <|
   .cons [57] (ok_valL [156] (fun u69 => [nsK 22 37 2 en_TInterval ((u5 1).o 1) (((u5 1).dl Sl.l gd_S_TInterval 1 t6.2.1).length) ((u5 1).n 1) ((u5 1).dl Sl.l gd_S_TInterval 1 t6.2.1) ((u5 1).dl Sl.l gd_S_TInterval 1 t6.2.1)]) (fun u69 => .slice p_t71 t71.length c_t71) (fun u69 => true) [true] 57 (fun u69 w hg hF => ld_row (en := enSl) (ns_of hF.1).row.2 enSl_len y_t71 0 1 [.slice p_t71 t71.length c_t71] rfl (by kernel_rfl))) <|
   .v 58 (.slice p_x55 L_x55.length c_x55) <|
   .v 59 (vI x56) <|
   .cons [60] (ok_val (fun u69 => .pointer (some ⟨hdB p_x55, hdO p_x55 + x56.toNat * 1, none⟩)) 60 (hv := fun _ _ => ix_pure (t := 27) (k := .i64) (i := x56) (p := p_x55) (n := L_x55.length) (cap := c_x55) (x := x55) P75 (map_len h_x55) b73 (by kernel_rfl))) <|
   .cons [61] (ok_valL [900137] (fun u69 => [nsK 22 37 2 en_TInterval p_x55 L_x55.length c_x55 L_x55 L_x55]) (fun u69 => .slice p_t74 t74.length c_t74) (fun u69 => true) [true] 61 (fun u69 w hg hF => ld_row (en := enSl) (ns_of hF.1).row.2 enSl_len y_t74 0 1 [.slice p_t74 t74.length c_t74] rfl (by kernel_rfl))) <|
   .cons [62, 167] (ok_callY false fr [] [156, 900137] (fun u69 => [nsK 22 37 2 en_TInterval ((u5 1).o 1) (((u5 1).dl Sl.l gd_S_TInterval 1 t6.2.1).length) ((u5 1).n 1) ((u5 1).dl Sl.l gd_S_TInterval 1 t6.2.1) ((u5 1).dl Sl.l gd_S_TInterval 1 t6.2.1), nsK 22 37 2 en_TInterval p_x55 L_x55.length c_x55 L_x55 L_x55]) [] (fun u69 => []) 23 (fun u69 => #[.slice p_t71 t71.length c_t71, .slice p_t74 t74.length c_t74]) (fun u69 => [rdl anyF 2 p_t71 c_t71 t71 en_TInterval, rdl anyF 2 p_t74 c_t74 t74 en_TInterval]) (fun u69 => []) (fun u69 g => .slice (g.o 0) t76.length (g.n 0)) (fun u69 g => [fun _ => owK 37 2 (g.o 0) t76.length (g.n 0) (t76.flatMap en_TInterval)]) [167] 62 (fun u69 w hB hF hM => armillaryref03_Hull.calls k0 t71 t74 p_t71 c_t71 p_t74 c_t74 t76 w  hB ht76) (fun u69 w hF => ⟨⟨sub_rd0 ((ns_of hF.1).one y_t71) (fun j h => ⟨_, (.head _), (ns_fp1 y_t71 h)⟩), sub_rd0 ((ns_of hF.2.1).one y_t74) (fun j h => ⟨_, (.tail _ (.head _)), (ns_fp1 y_t74 h)⟩), trivial⟩, trivial⟩) (fun u69 g => (fams_cons fam_ow fams_nil)) (.inr (fun u69 g => (famx_cons trivial (fun K h => by cases h)))) (fun h => by cases h)) <|
   .cons [63] (ok_val (fun u69 => .pointer (some ⟨hdB p_x55, hdO p_x55 + x56.toNat * 1, none⟩)) 63 (hv := fun _ _ => ix_pure (t := 27) (k := .i64) (i := x56) (p := p_x55) (n := L_x55.length) (cap := c_x55) (x := x55) P75 (map_len h_x55) b77 (by kernel_rfl))) <|
   .cons [900137, 167, 900137] (ok_own2 [10] [] (fun u69 => []) 900137 167 (fun u69 => nsK 22 37 2 en_TInterval p_x55 L_x55.length c_x55 L_x55 L_x55) (fun u69 => owK 37 2 ((u69 10).o 0) t76.length ((u69 10).n 0) (t76.flatMap en_TInterval)) none (fun u69 g => .nilFunc) (fun u69 g => nsK 22 37 2 en_TInterval p_x55 L_x55.length c_x55 (L_x55.set x56.toNat (⟨((u69 10).o 0), ((u69 10).n 0), t76⟩ : Sl TInterval)) (L_x55.set x56.toNat (⟨((u69 10).o 0), ((u69 10).n 0), t76⟩ : Sl TInterval))) (fun u69 w hF hK hK2 hd => tn_take hK hK2 hd en_TInterval_len (by decide) (fun hn h => el_storeN (en := enSl) h enSl_len (y := (⟨((u69 10).o 0), ((u69 10).n 0), t76⟩ : Sl TInterval)) (vs := [.slice ((u69 10).o 0) t76.length ((u69 10).n 0)]) y_t78 0 (by simp) (by simp) rfl (by kernel_rfl))) (hloc := fun u u' h => ⟨by first | rfl | simp only [h 10 (by decide)], by first | rfl | simp only [h 10 (by decide)], by first | rfl | simp only [h 10 (by decide)], by first | rfl | simp only [h 10 (by decide)], by first | rfl | simp only [h 10 (by decide)]⟩)) <| .nil) (by kernel_rfl) fun u69 a w' H => ?_
    replace H := H.kp [5, 6, 7, 8, 9, 10, 11, 12, 155, 156, 157, 160, 900135, 900137, 999999]
    refine k_rg mixed H (.v 38 (vI x56) <|
   .v 39 (vI (w_i64 (x56 + 1))) <|
   .v 12 (vI (w_i64 (x56 + 1))) <| .nil) fun u79 a w' H => ?_
    replace H := H.kp [5, 6, 7, 8, 9, 10, 11, 12, 155, 156, 157, 160, 900135, 900137, 999999]
    exact ⟨k, Nat.lt_succ_self k, _, _, _, G, p_x54, c_x54, L_x54.length, (L_x54.set x56.toNat (⟨((u59 10).o 0), ((u59 10).n 0), t66⟩ : Sl TInterval)), by simp, (map_set h_x54 x56.toNat (⟨((u59 10).o 0), ((u59 10).n 0), t66⟩ : Sl TInterval)), p_x55, c_x55, L_x55.length, (L_x55.set x56.toNat (⟨((u69 10).o 0), ((u69 10).n 0), t76⟩ : Sl TInterval)), by simp, (map_set h_x55 x56.toNat (⟨((u69 10).o 0), ((u69 10).n 0), t76⟩ : Sl TInterval)), H.toL _ (by kernel_rfl)⟩
   ·rw [if_neg (nt c80)] at G
    refine k_exit rfl ?_
    obtain rfl := Option.some.inj G
    replace H := H.move (K := nsK 22 37 2 en_TInterval p_x54 L_x54.length c_x54 L_x54 L_x54) 900135 900131 (by kernel_rfl) (by intro _ _ h; cases h)
    replace H := H.move (K := nsK 22 37 2 en_TInterval p_x55 L_x55.length c_x55 L_x55 L_x55) 900137 900133 (by kernel_rfl) (by intro _ _ h; cases h)
    exact ⟨p_x54, c_x54, L_x54.length, L_x54, rfl, h_x54, p_x55, c_x55, L_x55.length, L_x55, rfl, h_x55, H.toL _ (by kernel_rfl)⟩
end Go.Proofs.YtglcmhldonkfdaaDoor
