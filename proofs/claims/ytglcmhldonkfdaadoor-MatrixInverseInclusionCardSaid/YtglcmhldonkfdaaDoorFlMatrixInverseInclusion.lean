/- The law MatrixInverseInclusion answers as the plain Lean function of its name. Printed by a program of this session. -/
import Derived.Test.YtglcmhldonkfdaaDoorFxMatrixInverseInclusion
set_option linter.unusedVariables false
set_option linter.unusedSimpArgs false
set_option maxRecDepth 100000
namespace Go.Proofs.YtglcmhldonkfdaaDoor
open Go Go.RowKit Go.Sx Go.Proofs
set_option maxHeartbeats 4000000 in
theorem armillarylaw04_MatrixInverseInclusion.calls (k0 : Nat) (a0 : TOperands) (a1 : List Int) (a2 : List Int) (p_a0_A : Option Addr) (c_a0_A : Nat) (p_a0_B : Option Addr) (c_a0_B : Nat) (p_a0_X : Option Addr) (c_a0_X : Nat) (p_a1 : Option Addr) (c_a1 : Nat) (p_a2 : Option Addr) (c_a2 : Nat) (r : Bool) (w : World) (hB : AllH [rdl anyF 2 p_a0_A c_a0_A a0.A en_TInterval, rdl anyF 2 p_a0_B c_a0_B a0.B en_TInterval, rdl anyF 2 p_a0_X c_a0_X a0.X en_TInterval, rdl anyF 1 p_a1 c_a1 a1 en_u16, rdl anyF 1 p_a2 c_a2 a2 en_u16, gk] w) (G : armillarylaw04_MatrixInverseInclusion k0 a0 a1 a2 = some r) :
  Calls Tryd.prog 9 #[.agg #[.slice p_a0_A a0.A.length c_a0_A, .slice p_a0_B a0.B.length c_a0_B, .slice p_a0_X a0.X.length c_a0_X, .int .u8 a0.N], .slice p_a1 a1.length c_a1, .slice p_a2 a2.length c_a2] w fun e w' => e = .returned (.bool r) ∧ Below w.heap.size w w' := by
 obtain ⟨fr, hfr⟩ : ∃ fr : Nat → Prop, ∀ j, fr j := ⟨fun _ => True, fun _ => trivial⟩
 have hBf : ∀ j, w.heap.size ≤ j → fr j := fun j _ => hfr j
 refine k_enterF (args := [.agg #[.slice p_a0_A a0.A.length c_a0_A, .slice p_a0_B a0.B.length c_a0_B, .slice p_a0_X a0.X.length c_a0_X, .int .u8 a0.N], .slice p_a1 a1.length c_a1, .slice p_a2 a2.length c_a2]) 88 [(88, rdl anyF 2 p_a0_A c_a0_A a0.A en_TInterval), (89, rdl anyF 2 p_a0_B c_a0_B a0.B en_TInterval), (90, rdl anyF 2 p_a0_X c_a0_X a0.X en_TInterval), (91, rdl anyF 1 p_a1 c_a1 a1 en_u16), (92, rdl anyF 1 p_a2 c_a2 a2 en_u16), (999999, gk)] (by
  intro x hx
  simp only [List.mem_cons, List.not_mem_nil, or_false] at hx
  rcases hx with rfl | rfl | rfl | rfl | rfl | rfl
  ·exact rdF_fact (rdF_of hB.1) (fun _ _ => trivial) (by decide) _
  ·exact rdF_fact (rdF_of hB.2.1) (fun _ _ => trivial) (by decide) _
  ·exact rdF_fact (rdF_of hB.2.2.1) (fun _ _ => trivial) (by decide) _
  ·exact rdF_fact (rdF_of hB.2.2.2.1) (fun _ _ => trivial) (by decide) _
  ·exact rdF_fact (rdF_of hB.2.2.2.2.1) (fun _ _ => trivial) (by decide) _
  ·exact ⟨⟨_, _, rfl⟩, hB.2.2.2.2.2.1, glob_in (glob_of hB.2.2.2.2.2.1)⟩) Tryd.func9 rfl (by kernel_rfl) (by kernel_rfl) fun a H => ?_
 unfold armillarylaw04_MatrixInverseInclusion at G
 refine k_seq ?_
 refine k_rg mixed H (.cons [3, 93] (ok_new (fun b => vP b 0) (fun u1 => [.slice p_a0_A a0.A.length c_a0_A, .slice p_a0_B a0.B.length c_a0_B, .slice p_a0_X a0.X.length c_a0_X, .int .u8 a0.N]) 24 3 93) <|
   .v 6 (.bool false) <| .nil) fun u1 a w' H => ?_
 replace H := H.kp [1, 2, 3, 88, 89, 90, 91, 92, 93, 999999]
 refine k_seq ?_
 replace G := bnd G; obtain ⟨t3, ht3, G⟩ := G
 refine k_rg mixed H (.cons [18] (ok_callL [999999] (fun u2 => [gk]) 11 (fun u2 => #[]) (.bool t3) 18 (fun u2 w hF => armillarylaw04_sanity.calls k0  t3 w  (glob_of hF.1) ht3)) <|
   .v 7 (.bool t3) <| .nil) fun u2 a w' H => ?_
 replace H := H.kp [1, 2, 3, 7, 88, 89, 90, 91, 92, 93, 999999]
 refine k_seq ?_
 replace G := bnd G; obtain ⟨t5, ht5, G⟩ := G
 refine k_rg mixed H (.cons [20] (ok_ld (fun u4 => .agg #[.slice p_a0_A a0.A.length c_a0_A, .slice p_a0_B a0.B.length c_a0_B, .slice p_a0_X a0.X.length c_a0_X, .int .u8 a0.N]) 20 93 0 4 (fun u4 => ((u1 0).n 0)) (fun u4 => [.slice p_a0_A a0.A.length c_a0_A, .slice p_a0_B a0.B.length c_a0_B, .slice p_a0_X a0.X.length c_a0_X, .int .u8 a0.N]) 24) <|
   .cons [21, 94, 95, 96] (ok_callY false fr [] [88, 89, 90] (fun u4 => [rdl anyF 2 p_a0_A c_a0_A a0.A en_TInterval, rdl anyF 2 p_a0_B c_a0_B a0.B en_TInterval, rdl anyF 2 p_a0_X c_a0_X a0.X en_TInterval]) [] (fun u4 => []) 12 (fun u4 => #[.agg #[.slice p_a0_A a0.A.length c_a0_A, .slice p_a0_B a0.B.length c_a0_B, .slice p_a0_X a0.X.length c_a0_X, .int .u8 a0.N]]) (fun u4 => [rdl anyF 2 p_a0_A c_a0_A a0.A en_TInterval, rdl anyF 2 p_a0_B c_a0_B a0.B en_TInterval, rdl anyF 2 p_a0_X c_a0_X a0.X en_TInterval]) (fun u4 => []) (fun u4 g => .tuple #[.slice (g.o 0) ((g.dl Sl.l gd_S_TInterval 0 t5.1).length) (g.n 0), .slice (g.o 1) ((g.dl Sl.l gd_S_TInterval 1 t5.2.1).length) (g.n 1), .slice (g.o 2) t5.2.2.length (g.n 2)]) (fun u4 g => [fun _ => nsK 22 37 2 en_TInterval (g.o 0) ((g.dl Sl.l gd_S_TInterval 0 t5.1).length) (g.n 0) (g.dl Sl.l gd_S_TInterval 0 t5.1) (g.dl Sl.l gd_S_TInterval 0 t5.1), fun _ => nsK 22 37 2 en_TInterval (g.o 1) ((g.dl Sl.l gd_S_TInterval 1 t5.2.1).length) (g.n 1) (g.dl Sl.l gd_S_TInterval 1 t5.2.1) (g.dl Sl.l gd_S_TInterval 1 t5.2.1), fun _ => owK 37 2 (g.o 2) t5.2.2.length (g.n 2) (t5.2.2.flatMap en_TInterval)]) [94, 95, 96] 21 (fun u4 w hB hF hM => armillarylaw04_small.calls k0 (⟨a0.A, a0.B, a0.X, a0.N⟩ : TOperands) p_a0_A c_a0_A p_a0_B c_a0_B p_a0_X c_a0_X t5 w  hB ht5) (fun u4 w hF => ⟨⟨sub_rd0 (rdF_of hF.1) (fun j h => ⟨_, (.head _), h⟩), sub_rd0 (rdF_of hF.2.1) (fun j h => ⟨_, (.tail _ (.head _)), h⟩), sub_rd0 (rdF_of hF.2.2.1) (fun j h => ⟨_, (.tail _ (.tail _ (.head _))), h⟩), trivial⟩, trivial⟩) (fun u4 g => (fams_cons fam_ns (fams_cons fam_ns (fams_cons fam_ow fams_nil)))) (.inr (fun u4 g => (famx_cons trivial (famx_cons trivial (famx_cons trivial (fun K h => by cases h)))))) (fun h => by cases h)) <|
   .cons [19] (ok_val (fun u4 => .tuple #[.slice ((u4 1).o 0) (((u4 1).dl Sl.l gd_S_TInterval 0 t5.1).length) ((u4 1).n 0), .slice ((u4 1).o 1) (((u4 1).dl Sl.l gd_S_TInterval 1 t5.2.1).length) ((u4 1).n 1), .slice ((u4 1).o 2) t5.2.2.length ((u4 1).n 2)]) 19) <|
   .cons [22] (ok_val (fun u4 => .slice ((u4 1).o 0) (((u4 1).dl Sl.l gd_S_TInterval 0 t5.1).length) ((u4 1).n 0)) 22) <|
   .cons [23] (ok_val (fun u4 => .slice ((u4 1).o 1) (((u4 1).dl Sl.l gd_S_TInterval 1 t5.2.1).length) ((u4 1).n 1)) 23) <|
   .cons [24] (ok_val (fun u4 => .slice ((u4 1).o 2) t5.2.2.length ((u4 1).n 2)) 24) <|
   .cons [8] (ok_val (fun u4 => .slice ((u4 1).o 0) (((u4 1).dl Sl.l gd_S_TInterval 0 t5.1).length) ((u4 1).n 0)) 8) <|
   .cons [9] (ok_val (fun u4 => .slice ((u4 1).o 1) (((u4 1).dl Sl.l gd_S_TInterval 1 t5.2.1).length) ((u4 1).n 1)) 9) <|
   .cons [10] (ok_val (fun u4 => .slice ((u4 1).o 2) t5.2.2.length ((u4 1).n 2)) 10) <| .nil) fun u4 a w' H => ?_
 replace H := H.kp [1, 2, 7, 8, 10, 91, 92, 94, 96, 999999]
 refine k_seq ?_
 replace G := bnd G; obtain ⟨t7, ht7, G⟩ := G
 replace G := bnd G; obtain ⟨t8, ht8, G⟩ := G
 refine k_rg mixed H (.v 25 (.slice ((u4 1).o 0) (((u4 1).dl Sl.l gd_S_TInterval 0 t5.1).length) ((u4 1).n 0)) <|
   .v 26 (.slice p_a1 a1.length c_a1) <|
   .cons [27, 97] (ok_callY false fr [] [94, 91] (fun u6 => [nsK 22 37 2 en_TInterval ((u4 1).o 0) (((u4 1).dl Sl.l gd_S_TInterval 0 t5.1).length) ((u4 1).n 0) ((u4 1).dl Sl.l gd_S_TInterval 0 t5.1) ((u4 1).dl Sl.l gd_S_TInterval 0 t5.1), rdl anyF 1 p_a1 c_a1 a1 en_u16]) [] (fun u6 => []) 13 (fun u6 => #[.slice ((u4 1).o 0) (((u4 1).dl Sl.l gd_S_TInterval 0 t5.1).length) ((u4 1).n 0), .slice p_a1 a1.length c_a1]) (fun u6 => [rdF anyF 1 ((u4 1).o 0) (((u4 1).dl Sl.l gd_S_TInterval 0 t5.1).length) ((u4 1).n 0) (((u4 1).dl Sl.l gd_S_TInterval 0 t5.1).flatMap enSl), dnK anyF E_S_TInterval.toPart ((u4 1).dl Sl.l gd_S_TInterval 0 t5.1), rdl anyF 1 p_a1 c_a1 a1 en_u16]) (fun u6 => []) (fun u6 g => .slice (g.o 0) ((g.dl Sl.l gd_S_i64 0 t7).length) (g.n 0)) (fun u6 g => [fun _ => nsK 32 2 1 en_i64 (g.o 0) ((g.dl Sl.l gd_S_i64 0 t7).length) (g.n 0) (g.dl Sl.l gd_S_i64 0 t7) (g.dl Sl.l gd_S_i64 0 t7)]) [97] 27 (fun u6 w hB hF hM => armillaryref04_Sample.calls k0 t5.1 a1 ((u4 1).o 0) ((u4 1).n 0) ((u4 1).dl Sl.l gd_S_TInterval 0 t5.1) p_a1 c_a1 t7 w (dl_er ergd_S_TInterval (u4 1) 0 t5.1) hB ht7) (fun u6 w hF => ⟨⟨sub_rd0 (ns_of hF.1).row (fun j h => ⟨_, (.head _), (ns_fpH h)⟩), sub_dn0 (ns_of hF.1).all (fun j h => ⟨_, (.head _), (ns_fpA h)⟩), sub_rd0 (rdF_of hF.2.1) (fun j h => ⟨_, (.tail _ (.head _)), h⟩), trivial⟩, trivial⟩) (fun u6 g => (fams_cons fam_ns fams_nil)) (.inr (fun u6 g => (famx_cons trivial (fun K h => by cases h)))) (fun h => by cases h)) <|
   .v 28 (.slice ((u4 1).o 2) t5.2.2.length ((u4 1).n 2)) <|
   .v 29 (.slice p_a2 a2.length c_a2) <|
   .cons [30, 98] (ok_callY false fr [] [96, 92] (fun u6 => [owK 37 2 ((u4 1).o 2) t5.2.2.length ((u4 1).n 2) (t5.2.2.flatMap en_TInterval), rdl anyF 1 p_a2 c_a2 a2 en_u16]) [] (fun u6 => []) 14 (fun u6 => #[.slice ((u4 1).o 2) t5.2.2.length ((u4 1).n 2), .slice p_a2 a2.length c_a2]) (fun u6 => [rdF anyF 2 ((u4 1).o 2) t5.2.2.length ((u4 1).n 2) (t5.2.2.flatMap en_TInterval), rdl anyF 1 p_a2 c_a2 a2 en_u16]) (fun u6 => []) (fun u6 g => .slice (g.o 0) t8.length (g.n 0)) (fun u6 g => [fun _ => owK 2 1 (g.o 0) t8.length (g.n 0) (t8.flatMap en_i64)]) [98] 30 (fun u6 w hB hF hM => armillaryref03_PointIn.calls k0 t5.2.2 a2 ((u4 1).o 2) ((u4 1).n 2) p_a2 c_a2 t8 w  hB ht8) (fun u6 w hF => ⟨⟨sub_rd0 (owns_rowC (ow_of hF.1)) (fun j h => ⟨_, (.head _), (fp_own h)⟩), sub_rd0 (rdF_of hF.2.1) (fun j h => ⟨_, (.tail _ (.head _)), h⟩), trivial⟩, trivial⟩) (fun u6 g => (fams_cons fam_ow fams_nil)) (.inr (fun u6 g => (famx_cons trivial (fun K h => by cases h)))) (fun h => by cases h)) <|
   .cons [11] (ok_val (fun u6 => .slice ((u6 2).o 0) (((u6 2).dl Sl.l gd_S_i64 0 t7).length) ((u6 2).n 0)) 11) <|
   .cons [12] (ok_val (fun u6 => .slice ((u6 5).o 0) t8.length ((u6 5).n 0)) 12) <| .nil) fun u6 a w' H => ?_
 replace H := H.kp [7, 8, 11, 12, 94, 97, 98, 999999]
 refine k_seq ?_
 replace G := bnd G; obtain ⟨t10, ht10, G⟩ := G
 refine k_rg mixed H (.v 32 (.slice ((u4 1).o 0) (((u4 1).dl Sl.l gd_S_TInterval 0 t5.1).length) ((u4 1).n 0)) <|
   .cons [33, 99, 100] (ok_callY true fr [] [94, 999999] (fun u9 => [nsK 22 37 2 en_TInterval ((u4 1).o 0) (((u4 1).dl Sl.l gd_S_TInterval 0 t5.1).length) ((u4 1).n 0) ((u4 1).dl Sl.l gd_S_TInterval 0 t5.1) ((u4 1).dl Sl.l gd_S_TInterval 0 t5.1), gk]) [] (fun u9 => []) 35 (fun u9 => #[.slice ((u4 1).o 0) (((u4 1).dl Sl.l gd_S_TInterval 0 t5.1).length) ((u4 1).n 0)]) (fun u9 => [rdF anyF 1 ((u4 1).o 0) (((u4 1).dl Sl.l gd_S_TInterval 0 t5.1).length) ((u4 1).n 0) (((u4 1).dl Sl.l gd_S_TInterval 0 t5.1).flatMap enSl), dnK anyF E_S_TInterval.toPart ((u4 1).dl Sl.l gd_S_TInterval 0 t5.1), gk]) (fun u9 => []) (fun u9 g => .tuple #[.slice (g.o 0) ((g.dl Sl.l gd_S_TInterval 0 t10.1).length) (g.n 0), .bool t10.2]) (fun u9 g => [fun _ => owK 22 1 (g.o 0) ((g.dl Sl.l gd_S_TInterval 0 t10.1).length) (g.n 0) ((g.dl Sl.l gd_S_TInterval 0 t10.1).flatMap enSl), fun fr => dnK fr E_S_TInterval.toPart (g.dl Sl.l gd_S_TInterval 0 t10.1)]) [99, 100] 33 (fun u9 w hB hF hM => matrix_Inverse.calls k0 t5.1 ((u4 1).o 0) ((u4 1).n 0) ((u4 1).dl Sl.l gd_S_TInterval 0 t5.1) t10 w (dl_er ergd_S_TInterval (u4 1) 0 t5.1) hB ht10) (fun u9 w hF => ⟨⟨sub_rd0 (ns_of hF.1).row (fun j h => ⟨_, (.head _), (ns_fpH h)⟩), sub_dn0 (ns_of hF.1).all (fun j h => ⟨_, (.head _), (ns_fpA h)⟩), sub_k hF.2.1 (.tail _ (.head _)), trivial⟩, trivial⟩) (fun u9 g => (fams_cons fam_ow (fams_cons fam_dn fams_nil))) (.inl rfl) (fun _ => hBf)) <|
   .cons [31] (ok_val (fun u9 => .tuple #[.slice ((u9 1).o 0) (((u9 1).dl Sl.l gd_S_TInterval 0 t10.1).length) ((u9 1).n 0), .bool t10.2]) 31) <|
   .cons [34] (ok_val (fun u9 => .slice ((u9 1).o 0) (((u9 1).dl Sl.l gd_S_TInterval 0 t10.1).length) ((u9 1).n 0)) 34) <|
   .v 35 (.bool t10.2) <|
   .cons [13] (ok_val (fun u9 => .slice ((u9 1).o 0) (((u9 1).dl Sl.l gd_S_TInterval 0 t10.1).length) ((u9 1).n 0)) 13) <|
   .v 14 (.bool t10.2) <| .nil) fun u9 a w' H => ?_
 replace H := H.kp [7, 8, 11, 12, 13, 14, 94, 97, 98, 99, 100, 999999]
 refine k_seq ?_
 refine k_seq ?_
 refine k_rg mixed H (.v 36 (.bool t10.2) <|
   .v 37 (.bool (!t10.2)) <| .nil) fun u11 a w' H => ?_
 replace H := H.kp [7, 8, 11, 12, 13, 37, 94, 97, 98, 99, 100, 999999]
 refine k_cond H (by kernel_rfl) (t := (!t10.2)) (by kernel_rfl) (fun c50 => ?_) (fun c50 => ?_)
 ·rw [if_pos c50] at G
  refine k_seq ?_
  refine k_rg mixed H (.v 38 (.slice ((u9 1).o 0) (((u9 1).dl Sl.l gd_S_TInterval 0 t10.1).length) ((u9 1).n 0)) <|
   .cons [39] (ok_valL [99] (fun u12 => [owK 22 1 ((u9 1).o 0) (((u9 1).dl Sl.l gd_S_TInterval 0 t10.1).length) ((u9 1).n 0) (((u9 1).dl Sl.l gd_S_TInterval 0 t10.1).flatMap enSl)]) (fun u12 => vI (t10.1.length : Int)) (fun u12 => true) [true] 39 (fun u12 w hg hF => run_lenN (((owns_rowC (ow_of hF.1)).2.len enSl_len (by decide)).trans (map_len (dl_er ergd_S_TInterval (u9 1) 0 t10.1)).symm) (by kernel_rfl))) <|
   .v 40 (.bool ((t10.1.length : Int) == 0)) <|
   .v 41 (.bool ((t10.1.length : Int) == 0)) <|
   .cons [42] (ok_valg (fun u12 => .bool t3) (fun u12 => (((t10.1.length : Int) == 0) == true)) [true] 42) <|
   .cons [43] (ok_and 41 42 (fun u12 => true) (fun u12 => true) (fun u12 => ((t10.1.length : Int) == 0)) (fun u12 => t3) 43) <|
   .v 6 (.bool (((t10.1.length : Int) == 0) && t3)) <| .nil) fun u12 a w' H => ?_
  replace H := H.kp [6, 999999]
  refine k_ret ?_
  obtain rfl := Option.some.inj G
  exact k_done0 H _ (by kernel_rfl) (by kernel_rfl)
 ·rw [if_neg (nt c50)] at G
  refine k_skip ?_
  refine k_seq ?_
  refine k_seq ?_
  replace G := bnd G; obtain ⟨t14, ht14, G⟩ := G
  refine k_rg mixed H (.v 44 (.slice ((u9 1).o 0) (((u9 1).dl Sl.l gd_S_TInterval 0 t10.1).length) ((u9 1).n 0)) <|
   .cons [45] (ok_callL [99, 100] (fun u13 => [owK 22 1 ((u9 1).o 0) (((u9 1).dl Sl.l gd_S_TInterval 0 t10.1).length) ((u9 1).n 0) (((u9 1).dl Sl.l gd_S_TInterval 0 t10.1).flatMap enSl), dnK fr E_S_TInterval.toPart ((u9 1).dl Sl.l gd_S_TInterval 0 t10.1)]) 20 (fun u13 => #[.slice ((u9 1).o 0) (((u9 1).dl Sl.l gd_S_TInterval 0 t10.1).length) ((u9 1).n 0)]) (.bool t14) 45 (fun u13 w hF => armillaryref04_Valid.calls k0 t10.1 ((u9 1).o 0) ((u9 1).n 0) ((u9 1).dl Sl.l gd_S_TInterval 0 t10.1) t14 w (dl_er ergd_S_TInterval (u9 1) 0 t10.1) ⟨(rdA (owns_rowC (ow_of hF.1))), (dnA (dn_of hF.2.1)), trivial⟩ ht14)) <|
   .v 46 (.bool (!t14)) <|
   .v 47 (.bool (!t14)) <|
   .cons [48] (ok_valg (fun u13 => .slice ((u9 1).o 0) (((u9 1).dl Sl.l gd_S_TInterval 0 t10.1).length) ((u9 1).n 0)) (fun u13 => ((!t14) == false)) [true] 48) <|
   .cons [49] (ok_valL [99] (fun u13 => [owK 22 1 ((u9 1).o 0) (((u9 1).dl Sl.l gd_S_TInterval 0 t10.1).length) ((u9 1).n 0) (((u9 1).dl Sl.l gd_S_TInterval 0 t10.1).flatMap enSl)]) (fun u13 => vI (t10.1.length : Int)) (fun u13 => ((!t14) == false)) [false] 49 (fun u13 w hg hF => run_lenN (((owns_rowC (ow_of hF.1)).2.len enSl_len (by decide)).trans (map_len (dl_er ergd_S_TInterval (u9 1) 0 t10.1)).symm) (by kernel_rfl))) <|
   .cons [50] (ok_valg (fun u13 => .slice ((u4 1).o 0) (((u4 1).dl Sl.l gd_S_TInterval 0 t5.1).length) ((u4 1).n 0)) (fun u13 => ((!t14) == false)) [true] 50) <|
   .cons [51] (ok_valL [94] (fun u13 => [nsK 22 37 2 en_TInterval ((u4 1).o 0) (((u4 1).dl Sl.l gd_S_TInterval 0 t5.1).length) ((u4 1).n 0) ((u4 1).dl Sl.l gd_S_TInterval 0 t5.1) ((u4 1).dl Sl.l gd_S_TInterval 0 t5.1)]) (fun u13 => vI (t5.1.length : Int)) (fun u13 => ((!t14) == false)) [false] 51 (fun u13 w hg hF => run_lenN (((ns_of hF.1).row.2.len enSl_len (by decide)).trans (map_len (dl_er ergd_S_TInterval (u4 1) 0 t5.1)).symm) (by kernel_rfl))) <|
   .cons [52] (ok_valg (fun u13 => .bool ((t10.1.length : Int) != (t5.1.length : Int))) (fun u13 => ((!t14) == false)) [false, false] 52) <|
   .cons [53] (ok_or 47 52 (fun u13 => true) (fun u13 => true) (fun u13 => (!t14)) (fun u13 => ((t10.1.length : Int) != (t5.1.length : Int))) 53) <| .nil) fun u13 a w' H => ?_
  replace H := H.kp [7, 11, 12, 13, 53, 97, 98, 99, 100, 999999]
  refine k_cond H (by kernel_rfl) (t := ((!t14) || ((t10.1.length : Int) != (t5.1.length : Int)))) (by kernel_rfl) (fun c49 => ?_) (fun c49 => ?_)
  ·rw [if_pos c49] at G
   refine k_seq ?_
   refine k_rg mixed H (.v 6 (.bool false) <| .nil) fun u15 a w' H => ?_
   replace H := H.toM [(6, sB false), (999999, gk)]
   refine k_ret ?_
   obtain rfl := Option.some.inj G
   exact k_done0 H _ (by kernel_rfl) (by kernel_rfl)
  ·rw [if_neg (nt c49)] at G
   refine k_skip ?_
   refine k_seq ?_
   replace G := bnd G; obtain ⟨t17, ht17, G⟩ := G
   replace G := bnd G; obtain ⟨t18, ht18, G⟩ := G
   replace G := bnd G; obtain ⟨t19, ht19, G⟩ := G
   refine k_rg mixed H (.v 54 (.slice ((u6 2).o 0) (((u6 2).dl Sl.l gd_S_i64 0 t7).length) ((u6 2).n 0)) <|
   .cons [55, 101] (ok_callY false fr [] [97] (fun u16 => [nsK 32 2 1 en_i64 ((u6 2).o 0) (((u6 2).dl Sl.l gd_S_i64 0 t7).length) ((u6 2).n 0) ((u6 2).dl Sl.l gd_S_i64 0 t7) ((u6 2).dl Sl.l gd_S_i64 0 t7)]) [] (fun u16 => []) 37 (fun u16 => #[.slice ((u6 2).o 0) (((u6 2).dl Sl.l gd_S_i64 0 t7).length) ((u6 2).n 0)]) (fun u16 => [rdF anyF 1 ((u6 2).o 0) (((u6 2).dl Sl.l gd_S_i64 0 t7).length) ((u6 2).n 0) (((u6 2).dl Sl.l gd_S_i64 0 t7).flatMap enSl), dnK anyF E_S_i64.toPart ((u6 2).dl Sl.l gd_S_i64 0 t7)]) (fun u16 => []) (fun u16 g => .slice (g.o 0) ((g.dl Sl.l gd_S_TInterval 0 t17).length) (g.n 0)) (fun u16 g => [fun _ => nsK 22 37 2 en_TInterval (g.o 0) ((g.dl Sl.l gd_S_TInterval 0 t17).length) (g.n 0) (g.dl Sl.l gd_S_TInterval 0 t17) (g.dl Sl.l gd_S_TInterval 0 t17)]) [101] 55 (fun u16 w hB hF hM => armillaryref04_FromNumbers.calls k0 t7 ((u6 2).o 0) ((u6 2).n 0) ((u6 2).dl Sl.l gd_S_i64 0 t7) t17 w (dl_er ergd_S_i64 (u6 2) 0 t7) hB ht17) (fun u16 w hF => ⟨⟨sub_rd0 (ns_of hF.1).row (fun j h => ⟨_, (.head _), (ns_fpH h)⟩), sub_dn0 (ns_of hF.1).all (fun j h => ⟨_, (.head _), (ns_fpA h)⟩), trivial⟩, trivial⟩) (fun u16 g => (fams_cons fam_ns fams_nil)) (.inr (fun u16 g => (famx_cons trivial (fun K h => by cases h)))) (fun h => by cases h)) <|
   .v 56 (.slice ((u6 5).o 0) t8.length ((u6 5).n 0)) <|
   .cons [57, 102] (ok_callY false fr [] [98] (fun u16 => [owK 2 1 ((u6 5).o 0) t8.length ((u6 5).n 0) (t8.flatMap en_i64)]) [] (fun u16 => []) 38 (fun u16 => #[.slice ((u6 5).o 0) t8.length ((u6 5).n 0)]) (fun u16 => [rdF anyF 1 ((u6 5).o 0) t8.length ((u6 5).n 0) (t8.flatMap en_i64)]) (fun u16 => []) (fun u16 g => .slice (g.o 0) t18.length (g.n 0)) (fun u16 g => [fun _ => owK 37 2 (g.o 0) t18.length (g.n 0) (t18.flatMap en_TInterval)]) [102] 57 (fun u16 w hB hF hM => armillaryref03_Point.calls k0 t8 ((u6 5).o 0) ((u6 5).n 0) t18 w  hB ht18) (fun u16 w hF => ⟨⟨sub_rd0 (owns_rowC (ow_of hF.1)) (fun j h => ⟨_, (.head _), (fp_own h)⟩), trivial⟩, trivial⟩) (fun u16 g => (fams_cons fam_ow fams_nil)) (.inr (fun u16 g => (famx_cons trivial (fun K h => by cases h)))) (fun h => by cases h)) <|
   .cons [58, 103] (ok_callY false fr [1, 3] [101, 102] (fun u16 => [nsK 22 37 2 en_TInterval ((u16 1).o 0) (((u16 1).dl Sl.l gd_S_TInterval 0 t17).length) ((u16 1).n 0) ((u16 1).dl Sl.l gd_S_TInterval 0 t17) ((u16 1).dl Sl.l gd_S_TInterval 0 t17), owK 37 2 ((u16 3).o 0) t18.length ((u16 3).n 0) (t18.flatMap en_TInterval)]) [] (fun u16 => []) 36 (fun u16 => #[.slice ((u16 1).o 0) (((u16 1).dl Sl.l gd_S_TInterval 0 t17).length) ((u16 1).n 0), .slice ((u16 3).o 0) t18.length ((u16 3).n 0)]) (fun u16 => [rdF anyF 1 ((u16 1).o 0) (((u16 1).dl Sl.l gd_S_TInterval 0 t17).length) ((u16 1).n 0) (((u16 1).dl Sl.l gd_S_TInterval 0 t17).flatMap enSl), dnK anyF E_S_TInterval.toPart ((u16 1).dl Sl.l gd_S_TInterval 0 t17), rdF anyF 2 ((u16 3).o 0) t18.length ((u16 3).n 0) (t18.flatMap en_TInterval)]) (fun u16 => []) (fun u16 g => .slice (g.o 0) t19.length (g.n 0)) (fun u16 g => [fun _ => owK 37 2 (g.o 0) t19.length (g.n 0) (t19.flatMap en_TInterval)]) [103] 58 (fun u16 w hB hF hM => armillaryref04_Apply.calls k0 t17 t18 ((u16 1).o 0) ((u16 1).n 0) ((u16 1).dl Sl.l gd_S_TInterval 0 t17) ((u16 3).o 0) ((u16 3).n 0) t19 w (dl_er ergd_S_TInterval (u16 1) 0 t17) hB ht19) (fun u16 w hF => ⟨⟨sub_rd0 (ns_of hF.1).row (fun j h => ⟨_, (.head _), (ns_fpH h)⟩), sub_dn0 (ns_of hF.1).all (fun j h => ⟨_, (.head _), (ns_fpA h)⟩), sub_rd0 (owns_rowC (ow_of hF.2.1)) (fun j h => ⟨_, (.tail _ (.head _)), (fp_own h)⟩), trivial⟩, trivial⟩) (fun u16 g => (fams_cons fam_ow fams_nil)) (.inr (fun u16 g => (famx_cons trivial (fun K h => by cases h)))) (fun h => by cases h) (hloc := fun u u' h => ⟨by first | rfl | simp only [h 1 (by decide), h 3 (by decide)], by first | rfl | simp only [h 1 (by decide), h 3 (by decide)], by first | rfl | simp only [h 1 (by decide), h 3 (by decide)], by first | rfl | simp only [h 1 (by decide), h 3 (by decide)], by first | rfl | simp only [h 1 (by decide), h 3 (by decide)], by first | rfl | simp only [h 1 (by decide), h 3 (by decide)]⟩)) <|
   .cons [15] (ok_val (fun u16 => .slice ((u16 4).o 0) t19.length ((u16 4).n 0)) 15) <| .nil) fun u16 a w' H => ?_
   replace H := H.kp [7, 12, 13, 15, 98, 99, 100, 103, 999999]
   refine k_seq ?_
   replace G := bnd G; obtain ⟨t21, ht21, G⟩ := G
   refine k_rg mixed H (.v 59 (.slice ((u9 1).o 0) (((u9 1).dl Sl.l gd_S_TInterval 0 t10.1).length) ((u9 1).n 0)) <|
   .v 60 (.slice ((u16 4).o 0) t19.length ((u16 4).n 0)) <|
   .cons [61, 104] (ok_callY false fr [] [99, 100, 103] (fun u20 => [owK 22 1 ((u9 1).o 0) (((u9 1).dl Sl.l gd_S_TInterval 0 t10.1).length) ((u9 1).n 0) (((u9 1).dl Sl.l gd_S_TInterval 0 t10.1).flatMap enSl), dnK fr E_S_TInterval.toPart ((u9 1).dl Sl.l gd_S_TInterval 0 t10.1), owK 37 2 ((u16 4).o 0) t19.length ((u16 4).n 0) (t19.flatMap en_TInterval)]) [] (fun u20 => []) 36 (fun u20 => #[.slice ((u9 1).o 0) (((u9 1).dl Sl.l gd_S_TInterval 0 t10.1).length) ((u9 1).n 0), .slice ((u16 4).o 0) t19.length ((u16 4).n 0)]) (fun u20 => [rdF anyF 1 ((u9 1).o 0) (((u9 1).dl Sl.l gd_S_TInterval 0 t10.1).length) ((u9 1).n 0) (((u9 1).dl Sl.l gd_S_TInterval 0 t10.1).flatMap enSl), dnK anyF E_S_TInterval.toPart ((u9 1).dl Sl.l gd_S_TInterval 0 t10.1), rdF anyF 2 ((u16 4).o 0) t19.length ((u16 4).n 0) (t19.flatMap en_TInterval)]) (fun u20 => []) (fun u20 g => .slice (g.o 0) t21.length (g.n 0)) (fun u20 g => [fun _ => owK 37 2 (g.o 0) t21.length (g.n 0) (t21.flatMap en_TInterval)]) [104] 61 (fun u20 w hB hF hM => armillaryref04_Apply.calls k0 t10.1 t19 ((u9 1).o 0) ((u9 1).n 0) ((u9 1).dl Sl.l gd_S_TInterval 0 t10.1) ((u16 4).o 0) ((u16 4).n 0) t21 w (dl_er ergd_S_TInterval (u9 1) 0 t10.1) hB ht21) (fun u20 w hF => ⟨⟨sub_rd0 (owns_rowC (ow_of hF.1)) (fun j h => ⟨_, (.head _), (fp_own h)⟩), sub_dn0 (dn_of hF.2.1) (fun j h => ⟨_, (.tail _ (.head _)), h⟩), sub_rd0 (owns_rowC (ow_of hF.2.2.1)) (fun j h => ⟨_, (.tail _ (.tail _ (.head _))), (fp_own h)⟩), trivial⟩, trivial⟩) (fun u20 g => (fams_cons fam_ow fams_nil)) (.inr (fun u20 g => (famx_cons trivial (fun K h => by cases h)))) (fun h => by cases h)) <|
   .cons [16] (ok_val (fun u20 => .slice ((u20 2).o 0) t21.length ((u20 2).n 0)) 16) <| .nil) fun u20 a w' H => ?_
   replace H := H.kp [7, 12, 13, 16, 98, 99, 100, 104, 999999]
   refine k_seq ?_
   replace G := bnd G; obtain ⟨j22, hj22, Gj22⟩ := G
   refine k_join (fun a w' => ∃ j22v, j22 = Sum.inr j22v ∧ Rep w.heap.size w 88 (ofL [(7, sB t3), (999999, gk)]) a w') ?_ ?_
   ·clear H; rintro a w' ⟨j22v, rfl, H⟩; have G := Gj22; clear Gj22; dsimp only at G
    refine k_seq ?_
    refine k_rg mixed H (.v 87 (.bool t3) <|
   .v 6 (.bool t3) <| .nil) fun u23 a w' H => ?_
    replace H := H.kp [6, 999999]
    refine k_ret ?_
    obtain rfl := Option.some.inj G
    exact k_done0 H _ (by kernel_rfl) (by kernel_rfl)
   ·have G := hj22; clear hj22
    refine k_seq ?_
    refine k_rg mixed H (.v 17 (vI 0) <| .nil) fun u24 a w' H => ?_
    replace H := H.kp [7, 12, 13, 16, 17, 98, 99, 100, 104, 999999]
    refine k_block ?_
    refine k_loopJ (fun m a w' => ∃ x25 : Int, armillarylaw04_MatrixInverseInclusion.l26 k0 a0 a1 a2 t3 t5 t7 t8 t10 t14 t17 t18 t19 t21 m x25 = some j22 ∧ Rep w.heap.size w 88 (ofL [(7, sB t3), (12, (sS ((u6 5).o 0) t8.length ((u6 5).n 0))), (13, (sS ((u9 1).o 0) (((u9 1).dl Sl.l gd_S_TInterval 0 t10.1).length) ((u9 1).n 0))), (16, (sS ((u20 2).o 0) t21.length ((u20 2).n 0))), (17, sI x25), (98, owK 2 1 ((u6 5).o 0) t8.length ((u6 5).n 0) (t8.flatMap en_i64)), (99, owK 22 1 ((u9 1).o 0) (((u9 1).dl Sl.l gd_S_TInterval 0 t10.1).length) ((u9 1).n 0) (((u9 1).dl Sl.l gd_S_TInterval 0 t10.1).flatMap enSl)), (100, dnK fr E_S_TInterval.toPart ((u9 1).dl Sl.l gd_S_TInterval 0 t10.1)), (104, owK 37 2 ((u20 2).o 0) t21.length ((u20 2).n 0) (t21.flatMap en_TInterval)), (999999, gk)]) a w') k0 ⟨_, G, H.toL _ (by kernel_rfl)⟩ ?_
    clear G H
    rintro (_ | k) a w' ⟨x25, G, H⟩
    ·exact absurd G (by unfold armillarylaw04_MatrixInverseInclusion.l26; exact fun h => by cases h)
    ·unfold armillarylaw04_MatrixInverseInclusion.l26 at G
     refine k_seq ?_
     refine k_seq ?_
     refine k_rg mixed H (.v 62 (vI x25) <|
   .v 63 (.slice ((u6 5).o 0) t8.length ((u6 5).n 0)) <|
   .v 64 (vI (t8.length : Int)) <|
   .v 65 (.bool (decide (x25 < (t8.length : Int)))) <| .nil) fun u27 a w' H => ?_
     replace H := H.kp [7, 12, 13, 16, 17, 65, 98, 99, 100, 104, 999999]
     refine k_cond H (by kernel_rfl) (t := decide (x25 < (t8.length : Int))) (by kernel_rfl) (fun c48 => ?_) (fun c48 => ?_)
     ·rw [if_pos c48] at G
      refine k_skip ?_
      refine k_seq ?_
      refine k_block ?_
      refine k_seq ?_
      replace G := gd G; obtain ⟨b29, G⟩ := G
      replace G := bnd G; obtain ⟨t30, ht30, G⟩ := G
      have P31 := ptr_of (en := en_TInterval) (l := t21) (owns_rowC (ow_of (H.at (K := owK 37 2 ((u20 2).o 0) t21.length ((u20 2).n 0) (t21.flatMap en_TInterval)) 104 (by kernel_rfl)))).2 en_TInterval_len
      replace G := gd G; obtain ⟨b32, G⟩ := G
      replace G := bnd G; obtain ⟨t33, ht33, G⟩ := G
      have P34 := ptr_of (en := en_i64) (l := t8) (owns_rowC (ow_of (H.at (K := owK 2 1 ((u6 5).o 0) t8.length ((u6 5).n 0) (t8.flatMap en_i64)) 98 (by kernel_rfl)))).2 en_i64_len
      replace G := bnd G; obtain ⟨t35, ht35, G⟩ := G
      replace G := bnd G; obtain ⟨z36, hz36, G⟩ := G
      replace hz36 := Option.some.inj hz36
      by_cases c46 : z36 = true
      ·rw [if_pos c46] at G; subst c46
       refine k_rg mixed H (.v 68 (.slice ((u20 2).o 0) t21.length ((u20 2).n 0)) <|
   .v 69 (vI x25) <|
   .cons [70] (ok_val (fun u28 => .pointer (some ⟨hdB ((u20 2).o 0), hdO ((u20 2).o 0) + x25.toNat * 2, none⟩)) 70 (hv := fun _ _ => ix_pure (t := 22) (k := .i64) (i := x25) (p := ((u20 2).o 0)) (n := t21.length) (cap := ((u20 2).n 0)) (x := t21) P31 rfl b29 (by kernel_rfl))) <|
   .cons [71] (ok_valL [104] (fun u28 => [owK 37 2 ((u20 2).o 0) t21.length ((u20 2).n 0) (t21.flatMap en_TInterval)]) (fun u28 => .agg #[vI t30.Lo, vI t30.Hi]) (fun u28 => true) [true] 71 (fun u28 w hg hF => ld_row (en := en_TInterval) (owns_rowC (ow_of hF.1)).2 en_TInterval_len ht30 0 2 [vI t30.Lo, vI t30.Hi] rfl (by kernel_rfl))) <|
   .v 72 (.slice ((u6 5).o 0) t8.length ((u6 5).n 0)) <|
   .v 73 (vI x25) <|
   .cons [74] (ok_val (fun u28 => .pointer (some ⟨hdB ((u6 5).o 0), hdO ((u6 5).o 0) + x25.toNat * 1, none⟩)) 74 (hv := fun _ _ => ix_pure (t := 32) (k := .i64) (i := x25) (p := ((u6 5).o 0)) (n := t8.length) (cap := ((u6 5).n 0)) (x := t8) P34 rfl b32 (by kernel_rfl))) <|
   .cons [75] (ok_valL [98] (fun u28 => [owK 2 1 ((u6 5).o 0) t8.length ((u6 5).n 0) (t8.flatMap en_i64)]) (fun u28 => vI t33) (fun u28 => true) [true] 75 (fun u28 w hg hF => ld_row (en := en_i64) (owns_rowC (ow_of hF.1)).2 en_i64_len ht33 0 1 [vI t33] rfl (by kernel_rfl))) <|
   .cons [76] (ok_callv 39 (fun u28 => #[.agg #[vI t30.Lo, vI t30.Hi], vI t33]) (.bool t35) 76 [] (fun u28 w _ => armillaryref02_Contains.calls t30 t33  t35 w  ht35)) <|
   .v 77 (.bool (!t35)) <|
   .cons [78] (ok_as (u' := fun u28 => [(78, sB true)]) (ok_val (fun u28 => .bool (!t35)) 78) (fun _ => by rw [hz36])) <|
   .cons [79] (ok_offB 79) <|
   .cons [80] (ok_offB 80) <|
   .cons [81] (ok_offB 81) <|
   .cons [82] (ok_offB 82) <|
   .cons [83] (ok_offB 83) <|
   .cons [84] (ok_offB 84) <|
   .cons [85] (ok_offB 85) <|
   .cons [86] (ok_pickK (fun u28 => .bool true) 86) <| .nil) fun u28 a w' H => ?_
       replace H := H.kp [7, 12, 13, 16, 17, 79, 80, 81, 82, 83, 84, 85, 86, 98, 99, 100, 104, 999999]
       refine k_cond_true H (by kernel_rfl) (by kernel_rfl) ?_
       refine k_seq ?_
       refine k_rg mixed H (.v 6 (.bool false) <| .nil) fun u37 a w' H => ?_
       replace H := H.kp [6, 999999]
       refine k_ret ?_
       obtain rfl := Option.some.inj G
       replace G := Gj22
       obtain rfl := Option.some.inj G
       exact k_done0 H _ (by kernel_rfl) (by kernel_rfl)
      rw [if_neg c46] at G
      by_cases c47 : z36 = false
      ·rw [if_pos c47] at G; subst c47
       replace G := gd G; obtain ⟨b37, G⟩ := G
       replace G := bnd G; obtain ⟨t38, ht38, G⟩ := G
       obtain ⟨p_t38, c_t38, y_t38⟩ := sl_get (dl_er ergd_S_TInterval (u9 1) 0 t10.1) ht38
       have P39 := ptr_of (en := enSl) (l := ((u9 1).dl Sl.l gd_S_TInterval 0 t10.1)) (owns_rowC (ow_of (H.at (K := owK 22 1 ((u9 1).o 0) (((u9 1).dl Sl.l gd_S_TInterval 0 t10.1).length) ((u9 1).n 0) (((u9 1).dl Sl.l gd_S_TInterval 0 t10.1).flatMap enSl)) 99 (by kernel_rfl)))).2 enSl_len
       replace G := gd G; obtain ⟨b40, G⟩ := G
       replace G := bnd G; obtain ⟨t41, ht41, G⟩ := G
       replace G := bnd G; obtain ⟨t42, ht42, G⟩ := G
       refine k_rg mixed H (.v 68 (.slice ((u20 2).o 0) t21.length ((u20 2).n 0)) <|
   .v 69 (vI x25) <|
   .cons [70] (ok_val (fun u28 => .pointer (some ⟨hdB ((u20 2).o 0), hdO ((u20 2).o 0) + x25.toNat * 2, none⟩)) 70 (hv := fun _ _ => ix_pure (t := 22) (k := .i64) (i := x25) (p := ((u20 2).o 0)) (n := t21.length) (cap := ((u20 2).n 0)) (x := t21) P31 rfl b29 (by kernel_rfl))) <|
   .cons [71] (ok_valL [104] (fun u28 => [owK 37 2 ((u20 2).o 0) t21.length ((u20 2).n 0) (t21.flatMap en_TInterval)]) (fun u28 => .agg #[vI t30.Lo, vI t30.Hi]) (fun u28 => true) [true] 71 (fun u28 w hg hF => ld_row (en := en_TInterval) (owns_rowC (ow_of hF.1)).2 en_TInterval_len ht30 0 2 [vI t30.Lo, vI t30.Hi] rfl (by kernel_rfl))) <|
   .v 72 (.slice ((u6 5).o 0) t8.length ((u6 5).n 0)) <|
   .v 73 (vI x25) <|
   .cons [74] (ok_val (fun u28 => .pointer (some ⟨hdB ((u6 5).o 0), hdO ((u6 5).o 0) + x25.toNat * 1, none⟩)) 74 (hv := fun _ _ => ix_pure (t := 32) (k := .i64) (i := x25) (p := ((u6 5).o 0)) (n := t8.length) (cap := ((u6 5).n 0)) (x := t8) P34 rfl b32 (by kernel_rfl))) <|
   .cons [75] (ok_valL [98] (fun u28 => [owK 2 1 ((u6 5).o 0) t8.length ((u6 5).n 0) (t8.flatMap en_i64)]) (fun u28 => vI t33) (fun u28 => true) [true] 75 (fun u28 w hg hF => ld_row (en := en_i64) (owns_rowC (ow_of hF.1)).2 en_i64_len ht33 0 1 [vI t33] rfl (by kernel_rfl))) <|
   .cons [76] (ok_callv 39 (fun u28 => #[.agg #[vI t30.Lo, vI t30.Hi], vI t33]) (.bool t35) 76 [] (fun u28 w _ => armillaryref02_Contains.calls t30 t33  t35 w  ht35)) <|
   .v 77 (.bool (!t35)) <|
   .cons [78] (ok_as (u' := fun u28 => [(78, sB false)]) (ok_val (fun u28 => .bool (!t35)) 78) (fun _ => by rw [hz36])) <|
   .cons [79] (ok_gd (ok_val (fun u28 => .slice ((u9 1).o 0) (((u9 1).dl Sl.l gd_S_TInterval 0 t10.1).length) ((u9 1).n 0)) 79) (by intro _; kernel_rfl)) <|
   .cons [80] (ok_gd (ok_val (fun u28 => vI x25) 80) (by intro _; kernel_rfl)) <|
   .cons [81] (ok_gd (ok_val (fun u28 => .pointer (some ⟨hdB ((u9 1).o 0), hdO ((u9 1).o 0) + x25.toNat * 1, none⟩)) 81 (hv := fun _ _ => ix_pure (t := 27) (k := .i64) (i := x25) (p := ((u9 1).o 0)) (n := ((u9 1).dl Sl.l gd_S_TInterval 0 t10.1).length) (cap := ((u9 1).n 0)) (x := t10.1) P39 (map_len (dl_er ergd_S_TInterval (u9 1) 0 t10.1)) b37 (by kernel_rfl))) (by intro _; kernel_rfl)) <|
   .cons [82] (ok_gd (ok_valL [99] (fun u28 => [owK 22 1 ((u9 1).o 0) (((u9 1).dl Sl.l gd_S_TInterval 0 t10.1).length) ((u9 1).n 0) (((u9 1).dl Sl.l gd_S_TInterval 0 t10.1).flatMap enSl)]) (fun u28 => .slice p_t38 t38.length c_t38) (fun u28 => true) [true] 82 (fun u28 w hg hF => ld_row (en := enSl) (owns_rowC (ow_of hF.1)).2 enSl_len y_t38 0 1 [.slice p_t38 t38.length c_t38] rfl (by kernel_rfl))) (by intro _; kernel_rfl)) <|
   .cons [83] (ok_gd (ok_valL [100] (fun u28 => [dnK fr E_S_TInterval.toPart ((u9 1).dl Sl.l gd_S_TInterval 0 t10.1)]) (fun u28 => .pointer (some ⟨hdB p_t38, hdO p_t38 + ((0 : Int).toNat) * 2, none⟩)) (fun u28 => true) [true, true] 83 (fun u28 w hg hF => ix_row (t := 22) (k := .i64) (i := (0 : Int)) (p := p_t38) (n := t38.length) (cap := c_t38) (x := t38) (en := en_TInterval) (show RowC _ 2 p_t38 t38.length c_t38 (t38.flatMap en_TInterval) from ((dn_of hF.1) _ (List.mem_of_getElem? y_t38)).1).2 en_TInterval_len rfl b40 (by kernel_rfl))) (by intro _; kernel_rfl)) <|
   .cons [84] (ok_gd (ok_valL [100] (fun u28 => [dnK fr E_S_TInterval.toPart ((u9 1).dl Sl.l gd_S_TInterval 0 t10.1)]) (fun u28 => .agg #[vI t41.Lo, vI t41.Hi]) (fun u28 => true) [true] 84 (fun u28 w hg hF => ld_row (en := en_TInterval) (show RowC _ 2 p_t38 t38.length c_t38 (t38.flatMap en_TInterval) from ((dn_of hF.1) _ (List.mem_of_getElem? y_t38)).1).2 en_TInterval_len ht41 0 2 [vI t41.Lo, vI t41.Hi] rfl (by kernel_rfl))) (by intro _; kernel_rfl)) <|
   .cons [85] (ok_gd (ok_callv 40 (fun u28 => #[.agg #[vI t41.Lo, vI t41.Hi]]) (.bool t42) 85 [] (fun u28 w _ => armillaryref02_IsEntire.calls t41  t42 w  ht42)) (by intro _; kernel_rfl)) <|
   .cons [86] (ok_pickK (fun u28 => .bool t42) 86) <| .nil) fun u28 a w' H => ?_
       replace H := H.kp [7, 12, 13, 16, 17, 79, 80, 81, 82, 83, 84, 85, 86, 98, 99, 100, 104, 999999]
       refine k_cond H (by kernel_rfl) (t := t42) (by kernel_rfl) (fun c45 => ?_) (fun c45 => ?_)
       ·rw [if_pos c45] at G
        refine k_seq ?_
        refine k_rg mixed H (.v 6 (.bool false) <| .nil) fun u43 a w' H => ?_
        replace H := H.kp [6, 999999]
        refine k_ret ?_
        obtain rfl := Option.some.inj G
        replace G := Gj22
        obtain rfl := Option.some.inj G
        exact k_done0 H _ (by kernel_rfl) (by kernel_rfl)
       ·rw [if_neg (nt c45)] at G
        refine k_skip ?_
        refine k_rg mixed H (.v 66 (vI x25) <|
   .v 67 (vI (w_i64 (x25 + 1))) <|
   .v 17 (vI (w_i64 (x25 + 1))) <| .nil) fun u44 a w' H => ?_
        replace H := H.kp [7, 12, 13, 16, 17, 79, 80, 81, 82, 83, 84, 85, 98, 99, 100, 104, 999999]
        exact ⟨k, Nat.lt_succ_self k, _, G, H.toL _ (by kernel_rfl)⟩
      rw [if_neg c47] at G
      cases G
     ·rw [if_neg (nt c48)] at G
      refine k_exit rfl ?_
      obtain rfl := Option.some.inj G
      exact ⟨_, rfl, H.toL _ (by kernel_rfl)⟩
end Go.Proofs.YtglcmhldonkfdaaDoor
