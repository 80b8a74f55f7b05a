/- The law MatrixMulInclusion answers as the plain Lean function of its name. Printed by a program of this session. -/
import Derived.Test.YtglcmhldonkfdaaDoorFn3
set_option linter.unusedVariables false
set_option linter.unusedSimpArgs false
set_option maxRecDepth 100000
namespace Go.Proofs.YtglcmhldonkfdaaDoor
open Go Go.RowKit Go.Sx Go.Proofs
set_option maxHeartbeats 4000000 in
theorem armillarylaw04_MatrixMulInclusion.calls (k0 : Nat) (a0 : TOperands) (a1 : List Int) (p_a0_A : Option Addr) (c_a0_A : Nat) (p_a0_B : Option Addr) (c_a0_B : Nat) (p_a0_X : Option Addr) (c_a0_X : Nat) (p_a1 : Option Addr) (c_a1 : Nat) (r : Bool) (w : World) (hB : AllH [rdl anyF 2 p_a0_A c_a0_A a0.A en_TInterval, rdl anyF 2 p_a0_B c_a0_B a0.B en_TInterval, rdl anyF 2 p_a0_X c_a0_X a0.X en_TInterval, rdl anyF 1 p_a1 c_a1 a1 en_u16, gk] w) (G : armillarylaw04_MatrixMulInclusion k0 a0 a1 = some r) :
  Calls Tryd.prog 4 #[.agg #[.slice p_a0_A a0.A.length c_a0_A, .slice p_a0_B a0.B.length c_a0_B, .slice p_a0_X a0.X.length c_a0_X, .int .u8 a0.N], .slice p_a1 a1.length c_a1] w fun e w' => e = .returned (.bool r) ∧ Below w.heap.size w w' := by
 obtain ⟨fr, hfr⟩ : ∃ fr : Nat → Prop, ∀ j, fr j := ⟨fun _ => True, fun _ => trivial⟩
 have hBf : ∀ j, w.heap.size ≤ j → fr j := fun j _ => hfr j
 refine k_enterF (args := [.agg #[.slice p_a0_A a0.A.length c_a0_A, .slice p_a0_B a0.B.length c_a0_B, .slice p_a0_X a0.X.length c_a0_X, .int .u8 a0.N], .slice p_a1 a1.length c_a1]) 70 [(70, rdl anyF 2 p_a0_A c_a0_A a0.A en_TInterval), (71, rdl anyF 2 p_a0_B c_a0_B a0.B en_TInterval), (72, rdl anyF 2 p_a0_X c_a0_X a0.X en_TInterval), (73, rdl anyF 1 p_a1 c_a1 a1 en_u16), (999999, gk)] (by
  intro x hx
  simp only [List.mem_cons, List.not_mem_nil, or_false] at hx
  rcases hx with rfl | rfl | rfl | rfl | rfl
  ·exact rdF_fact (rdF_of hB.1) (fun _ _ => trivial) (by decide) _
  ·exact rdF_fact (rdF_of hB.2.1) (fun _ _ => trivial) (by decide) _
  ·exact rdF_fact (rdF_of hB.2.2.1) (fun _ _ => trivial) (by decide) _
  ·exact rdF_fact (rdF_of hB.2.2.2.1) (fun _ _ => trivial) (by decide) _
  ·exact ⟨⟨_, _, rfl⟩, hB.2.2.2.2.1, glob_in (glob_of hB.2.2.2.2.1)⟩) Tryd.func4 rfl (by kernel_rfl) (by kernel_rfl) fun a H => ?_
 unfold armillarylaw04_MatrixMulInclusion at G
 refine k_seq ?_
 refine k_rg mixed H (.cons [2, 74] (ok_new (fun b => vP b 0) (fun u1 => [.slice p_a0_A a0.A.length c_a0_A, .slice p_a0_B a0.B.length c_a0_B, .slice p_a0_X a0.X.length c_a0_X, .int .u8 a0.N]) 24 2 74) <|
   .v 4 (.bool false) <| .nil) fun u1 a w' H => ?_
 replace H := H.kp [1, 2, 70, 71, 72, 73, 74, 999999]
 refine k_seq ?_
 replace G := bnd G; obtain ⟨t3, ht3, G⟩ := G
 refine k_rg mixed H (.cons [14] (ok_callL [999999] (fun u2 => [gk]) 11 (fun u2 => #[]) (.bool t3) 14 (fun u2 w hF => armillarylaw04_sanity.calls k0  t3 w  (glob_of hF.1) ht3)) <|
   .v 5 (.bool t3) <| .nil) fun u2 a w' H => ?_
 replace H := H.kp [1, 2, 5, 70, 71, 72, 73, 74, 999999]
 refine k_seq ?_
 replace G := bnd G; obtain ⟨t5, ht5, G⟩ := G
 refine k_rg mixed H (.cons [16] (ok_ld (fun u4 => .agg #[.slice p_a0_A a0.A.length c_a0_A, .slice p_a0_B a0.B.length c_a0_B, .slice p_a0_X a0.X.length c_a0_X, .int .u8 a0.N]) 16 74 0 4 (fun u4 => ((u1 0).n 0)) (fun u4 => [.slice p_a0_A a0.A.length c_a0_A, .slice p_a0_B a0.B.length c_a0_B, .slice p_a0_X a0.X.length c_a0_X, .int .u8 a0.N]) 24) <|
   .cons [17, 75, 76, 77] (ok_callY false fr [] [70, 71, 72] (fun u4 => [rdl anyF 2 p_a0_A c_a0_A a0.A en_TInterval, rdl anyF 2 p_a0_B c_a0_B a0.B en_TInterval, rdl anyF 2 p_a0_X c_a0_X a0.X en_TInterval]) [] (fun u4 => []) 12 (fun u4 => #[.agg #[.slice p_a0_A a0.A.length c_a0_A, .slice p_a0_B a0.B.length c_a0_B, .slice p_a0_X a0.X.length c_a0_X, .int .u8 a0.N]]) (fun u4 => [rdl anyF 2 p_a0_A c_a0_A a0.A en_TInterval, rdl anyF 2 p_a0_B c_a0_B a0.B en_TInterval, rdl anyF 2 p_a0_X c_a0_X a0.X en_TInterval]) (fun u4 => []) (fun u4 g => .tuple #[.slice (g.o 0) ((g.dl Sl.l gd_S_TInterval 0 t5.1).length) (g.n 0), .slice (g.o 1) ((g.dl Sl.l gd_S_TInterval 1 t5.2.1).length) (g.n 1), .slice (g.o 2) t5.2.2.length (g.n 2)]) (fun u4 g => [fun _ => nsK 22 37 2 en_TInterval (g.o 0) ((g.dl Sl.l gd_S_TInterval 0 t5.1).length) (g.n 0) (g.dl Sl.l gd_S_TInterval 0 t5.1) (g.dl Sl.l gd_S_TInterval 0 t5.1), fun _ => nsK 22 37 2 en_TInterval (g.o 1) ((g.dl Sl.l gd_S_TInterval 1 t5.2.1).length) (g.n 1) (g.dl Sl.l gd_S_TInterval 1 t5.2.1) (g.dl Sl.l gd_S_TInterval 1 t5.2.1), fun _ => owK 37 2 (g.o 2) t5.2.2.length (g.n 2) (t5.2.2.flatMap en_TInterval)]) [75, 76, 77] 17 (fun u4 w hB hF hM => armillarylaw04_small.calls k0 (⟨a0.A, a0.B, a0.X, a0.N⟩ : TOperands) p_a0_A c_a0_A p_a0_B c_a0_B p_a0_X c_a0_X t5 w  hB ht5) (fun u4 w hF => ⟨⟨sub_rd0 (rdF_of hF.1) (fun j h => ⟨_, (.head _), h⟩), sub_rd0 (rdF_of hF.2.1) (fun j h => ⟨_, (.tail _ (.head _)), h⟩), sub_rd0 (rdF_of hF.2.2.1) (fun j h => ⟨_, (.tail _ (.tail _ (.head _))), h⟩), trivial⟩, trivial⟩) (fun u4 g => (fams_cons fam_ns (fams_cons fam_ns (fams_cons fam_ow fams_nil)))) (.inr (fun u4 g => (famx_cons trivial (famx_cons trivial (famx_cons trivial (fun K h => by cases h)))))) (fun h => by cases h)) <|
   .cons [15] (ok_val (fun u4 => .tuple #[.slice ((u4 1).o 0) (((u4 1).dl Sl.l gd_S_TInterval 0 t5.1).length) ((u4 1).n 0), .slice ((u4 1).o 1) (((u4 1).dl Sl.l gd_S_TInterval 1 t5.2.1).length) ((u4 1).n 1), .slice ((u4 1).o 2) t5.2.2.length ((u4 1).n 2)]) 15) <|
   .cons [18] (ok_val (fun u4 => .slice ((u4 1).o 0) (((u4 1).dl Sl.l gd_S_TInterval 0 t5.1).length) ((u4 1).n 0)) 18) <|
   .cons [19] (ok_val (fun u4 => .slice ((u4 1).o 1) (((u4 1).dl Sl.l gd_S_TInterval 1 t5.2.1).length) ((u4 1).n 1)) 19) <|
   .cons [20] (ok_val (fun u4 => .slice ((u4 1).o 2) t5.2.2.length ((u4 1).n 2)) 20) <|
   .cons [6] (ok_val (fun u4 => .slice ((u4 1).o 0) (((u4 1).dl Sl.l gd_S_TInterval 0 t5.1).length) ((u4 1).n 0)) 6) <|
   .cons [7] (ok_val (fun u4 => .slice ((u4 1).o 1) (((u4 1).dl Sl.l gd_S_TInterval 1 t5.2.1).length) ((u4 1).n 1)) 7) <|
   .cons [8] (ok_val (fun u4 => .slice ((u4 1).o 2) t5.2.2.length ((u4 1).n 2)) 8) <| .nil) fun u4 a w' H => ?_
 replace H := H.kp [1, 5, 6, 7, 73, 75, 76, 999999]
 refine k_seq ?_
 replace G := bnd G; obtain ⟨t7, ht7, G⟩ := G
 replace G := bnd G; obtain ⟨t8, ht8, G⟩ := G
 refine k_rg mixed H (.v 21 (.slice ((u4 1).o 0) (((u4 1).dl Sl.l gd_S_TInterval 0 t5.1).length) ((u4 1).n 0)) <|
   .v 22 (.slice p_a1 a1.length c_a1) <|
   .cons [23, 78] (ok_callY false fr [] [75, 73] (fun u6 => [nsK 22 37 2 en_TInterval ((u4 1).o 0) (((u4 1).dl Sl.l gd_S_TInterval 0 t5.1).length) ((u4 1).n 0) ((u4 1).dl Sl.l gd_S_TInterval 0 t5.1) ((u4 1).dl Sl.l gd_S_TInterval 0 t5.1), rdl anyF 1 p_a1 c_a1 a1 en_u16]) [] (fun u6 => []) 13 (fun u6 => #[.slice ((u4 1).o 0) (((u4 1).dl Sl.l gd_S_TInterval 0 t5.1).length) ((u4 1).n 0), .slice p_a1 a1.length c_a1]) (fun u6 => [rdF anyF 1 ((u4 1).o 0) (((u4 1).dl Sl.l gd_S_TInterval 0 t5.1).length) ((u4 1).n 0) (((u4 1).dl Sl.l gd_S_TInterval 0 t5.1).flatMap enSl), dnK anyF E_S_TInterval.toPart ((u4 1).dl Sl.l gd_S_TInterval 0 t5.1), rdl anyF 1 p_a1 c_a1 a1 en_u16]) (fun u6 => []) (fun u6 g => .slice (g.o 0) ((g.dl Sl.l gd_S_i64 0 t7).length) (g.n 0)) (fun u6 g => [fun _ => nsK 32 2 1 en_i64 (g.o 0) ((g.dl Sl.l gd_S_i64 0 t7).length) (g.n 0) (g.dl Sl.l gd_S_i64 0 t7) (g.dl Sl.l gd_S_i64 0 t7)]) [78] 23 (fun u6 w hB hF hM => armillaryref04_Sample.calls k0 t5.1 a1 ((u4 1).o 0) ((u4 1).n 0) ((u4 1).dl Sl.l gd_S_TInterval 0 t5.1) p_a1 c_a1 t7 w (dl_er ergd_S_TInterval (u4 1) 0 t5.1) hB ht7) (fun u6 w hF => ⟨⟨sub_rd0 (ns_of hF.1).row (fun j h => ⟨_, (.head _), (ns_fpH h)⟩), sub_dn0 (ns_of hF.1).all (fun j h => ⟨_, (.head _), (ns_fpA h)⟩), sub_rd0 (rdF_of hF.2.1) (fun j h => ⟨_, (.tail _ (.head _)), h⟩), trivial⟩, trivial⟩) (fun u6 g => (fams_cons fam_ns fams_nil)) (.inr (fun u6 g => (famx_cons trivial (fun K h => by cases h)))) (fun h => by cases h)) <|
   .v 24 (.slice ((u4 1).o 1) (((u4 1).dl Sl.l gd_S_TInterval 1 t5.2.1).length) ((u4 1).n 1)) <|
   .v 25 (.slice p_a1 a1.length c_a1) <|
   .cons [26, 79] (ok_callY false fr [] [76, 73] (fun u6 => [nsK 22 37 2 en_TInterval ((u4 1).o 1) (((u4 1).dl Sl.l gd_S_TInterval 1 t5.2.1).length) ((u4 1).n 1) ((u4 1).dl Sl.l gd_S_TInterval 1 t5.2.1) ((u4 1).dl Sl.l gd_S_TInterval 1 t5.2.1), rdl anyF 1 p_a1 c_a1 a1 en_u16]) [] (fun u6 => []) 13 (fun u6 => #[.slice ((u4 1).o 1) (((u4 1).dl Sl.l gd_S_TInterval 1 t5.2.1).length) ((u4 1).n 1), .slice p_a1 a1.length c_a1]) (fun u6 => [rdF anyF 1 ((u4 1).o 1) (((u4 1).dl Sl.l gd_S_TInterval 1 t5.2.1).length) ((u4 1).n 1) (((u4 1).dl Sl.l gd_S_TInterval 1 t5.2.1).flatMap enSl), dnK anyF E_S_TInterval.toPart ((u4 1).dl Sl.l gd_S_TInterval 1 t5.2.1), rdl anyF 1 p_a1 c_a1 a1 en_u16]) (fun u6 => []) (fun u6 g => .slice (g.o 0) ((g.dl Sl.l gd_S_i64 0 t8).length) (g.n 0)) (fun u6 g => [fun _ => nsK 32 2 1 en_i64 (g.o 0) ((g.dl Sl.l gd_S_i64 0 t8).length) (g.n 0) (g.dl Sl.l gd_S_i64 0 t8) (g.dl Sl.l gd_S_i64 0 t8)]) [79] 26 (fun u6 w hB hF hM => armillaryref04_Sample.calls k0 t5.2.1 a1 ((u4 1).o 1) ((u4 1).n 1) ((u4 1).dl Sl.l gd_S_TInterval 1 t5.2.1) p_a1 c_a1 t8 w (dl_er ergd_S_TInterval (u4 1) 1 t5.2.1) hB ht8) (fun u6 w hF => ⟨⟨sub_rd0 (ns_of hF.1).row (fun j h => ⟨_, (.head _), (ns_fpH h)⟩), sub_dn0 (ns_of hF.1).all (fun j h => ⟨_, (.head _), (ns_fpA h)⟩), sub_rd0 (rdF_of hF.2.1) (fun j h => ⟨_, (.tail _ (.head _)), h⟩), trivial⟩, trivial⟩) (fun u6 g => (fams_cons fam_ns fams_nil)) (.inr (fun u6 g => (famx_cons trivial (fun K h => by cases h)))) (fun h => by cases h)) <|
   .cons [9] (ok_val (fun u6 => .slice ((u6 2).o 0) (((u6 2).dl Sl.l gd_S_i64 0 t7).length) ((u6 2).n 0)) 9) <|
   .cons [10] (ok_val (fun u6 => .slice ((u6 5).o 0) (((u6 5).dl Sl.l gd_S_i64 0 t8).length) ((u6 5).n 0)) 10) <| .nil) fun u6 a w' H => ?_
 replace H := H.kp [5, 6, 7, 9, 10, 75, 76, 78, 79, 999999]
 refine k_seq ?_
 replace G := bnd G; obtain ⟨t10, ht10, G⟩ := G
 refine k_rg mixed H (.v 27 (.slice ((u4 1).o 0) (((u4 1).dl Sl.l gd_S_TInterval 0 t5.1).length) ((u4 1).n 0)) <|
   .v 28 (.slice ((u4 1).o 1) (((u4 1).dl Sl.l gd_S_TInterval 1 t5.2.1).length) ((u4 1).n 1)) <|
   .cons [29, 80] (ok_callY false fr [] [75, 76, 999999] (fun u9 => [nsK 22 37 2 en_TInterval ((u4 1).o 0) (((u4 1).dl Sl.l gd_S_TInterval 0 t5.1).length) ((u4 1).n 0) ((u4 1).dl Sl.l gd_S_TInterval 0 t5.1) ((u4 1).dl Sl.l gd_S_TInterval 0 t5.1), nsK 22 37 2 en_TInterval ((u4 1).o 1) (((u4 1).dl Sl.l gd_S_TInterval 1 t5.2.1).length) ((u4 1).n 1) ((u4 1).dl Sl.l gd_S_TInterval 1 t5.2.1) ((u4 1).dl Sl.l gd_S_TInterval 1 t5.2.1), gk]) [] (fun u9 => []) 19 (fun u9 => #[.slice ((u4 1).o 0) (((u4 1).dl Sl.l gd_S_TInterval 0 t5.1).length) ((u4 1).n 0), .slice ((u4 1).o 1) (((u4 1).dl Sl.l gd_S_TInterval 1 t5.2.1).length) ((u4 1).n 1)]) (fun u9 => [rdF anyF 1 ((u4 1).o 0) (((u4 1).dl Sl.l gd_S_TInterval 0 t5.1).length) ((u4 1).n 0) (((u4 1).dl Sl.l gd_S_TInterval 0 t5.1).flatMap enSl), dnK anyF E_S_TInterval.toPart ((u4 1).dl Sl.l gd_S_TInterval 0 t5.1), rdF anyF 1 ((u4 1).o 1) (((u4 1).dl Sl.l gd_S_TInterval 1 t5.2.1).length) ((u4 1).n 1) (((u4 1).dl Sl.l gd_S_TInterval 1 t5.2.1).flatMap enSl), dnK anyF E_S_TInterval.toPart ((u4 1).dl Sl.l gd_S_TInterval 1 t5.2.1), gk]) (fun u9 => []) (fun u9 g => .slice (g.o 0) ((g.dl Sl.l gd_S_TInterval 0 t10).length) (g.n 0)) (fun u9 g => [fun _ => nsK 22 37 2 en_TInterval (g.o 0) ((g.dl Sl.l gd_S_TInterval 0 t10).length) (g.n 0) (g.dl Sl.l gd_S_TInterval 0 t10) (g.dl Sl.l gd_S_TInterval 0 t10)]) [80] 29 (fun u9 w hB hF hM => matrix_Mul.calls k0 t5.1 t5.2.1 ((u4 1).o 0) ((u4 1).n 0) ((u4 1).dl Sl.l gd_S_TInterval 0 t5.1) ((u4 1).o 1) ((u4 1).n 1) ((u4 1).dl Sl.l gd_S_TInterval 1 t5.2.1) t10 w (dl_er ergd_S_TInterval (u4 1) 0 t5.1) (dl_er ergd_S_TInterval (u4 1) 1 t5.2.1) hB ht10) (fun u9 w hF => ⟨⟨sub_rd0 (ns_of hF.1).row (fun j h => ⟨_, (.head _), (ns_fpH h)⟩), sub_dn0 (ns_of hF.1).all (fun j h => ⟨_, (.head _), (ns_fpA h)⟩), sub_rd0 (ns_of hF.2.1).row (fun j h => ⟨_, (.tail _ (.head _)), (ns_fpH h)⟩), sub_dn0 (ns_of hF.2.1).all (fun j h => ⟨_, (.tail _ (.head _)), (ns_fpA h)⟩), sub_k hF.2.2.1 (.tail _ (.tail _ (.head _))), trivial⟩, trivial⟩) (fun u9 g => (fams_cons fam_ns fams_nil)) (.inr (fun u9 g => (famx_cons trivial (fun K h => by cases h)))) (fun h => by cases h)) <|
   .cons [11] (ok_val (fun u9 => .slice ((u9 2).o 0) (((u9 2).dl Sl.l gd_S_TInterval 0 t10).length) ((u9 2).n 0)) 11) <| .nil) fun u9 a w' H => ?_
 replace H := H.kp [5, 9, 10, 11, 78, 79, 80, 999999]
 refine k_seq ?_
 refine k_seq ?_
 replace G := bnd G; obtain ⟨t12, ht12, G⟩ := G
 refine k_rg mixed H (.v 30 (.slice ((u9 2).o 0) (((u9 2).dl Sl.l gd_S_TInterval 0 t10).length) ((u9 2).n 0)) <|
   .cons [31] (ok_valL [80] (fun u11 => [nsK 22 37 2 en_TInterval ((u9 2).o 0) (((u9 2).dl Sl.l gd_S_TInterval 0 t10).length) ((u9 2).n 0) ((u9 2).dl Sl.l gd_S_TInterval 0 t10) ((u9 2).dl Sl.l gd_S_TInterval 0 t10)]) (fun u11 => vI (t10.length : Int)) (fun u11 => true) [true] 31 (fun u11 w hg hF => run_lenN (((ns_of hF.1).row.2.len enSl_len (by decide)).trans (map_len (dl_er ergd_S_TInterval (u9 2) 0 t10)).symm) (by kernel_rfl))) <|
   .v 32 (.slice ((u6 2).o 0) (((u6 2).dl Sl.l gd_S_i64 0 t7).length) ((u6 2).n 0)) <|
   .cons [33] (ok_valL [78] (fun u11 => [nsK 32 2 1 en_i64 ((u6 2).o 0) (((u6 2).dl Sl.l gd_S_i64 0 t7).length) ((u6 2).n 0) ((u6 2).dl Sl.l gd_S_i64 0 t7) ((u6 2).dl Sl.l gd_S_i64 0 t7)]) (fun u11 => vI (t7.length : Int)) (fun u11 => true) [true] 33 (fun u11 w hg hF => run_lenN (((ns_of hF.1).row.2.len enSl_len (by decide)).trans (map_len (dl_er ergd_S_i64 (u6 2) 0 t7)).symm) (by kernel_rfl))) <|
   .v 34 (.bool ((t10.length : Int) != (t7.length : Int))) <|
   .v 35 (.bool ((t10.length : Int) != (t7.length : Int))) <|
   .cons [36] (ok_valg (fun u11 => .slice ((u9 2).o 0) (((u9 2).dl Sl.l gd_S_TInterval 0 t10).length) ((u9 2).n 0)) (fun u11 => (((t10.length : Int) != (t7.length : Int)) == false)) [true] 36) <|
   .cons [37] (ok_callLg [80] (fun u11 => [nsK 22 37 2 en_TInterval ((u9 2).o 0) (((u9 2).dl Sl.l gd_S_TInterval 0 t10).length) ((u9 2).n 0) ((u9 2).dl Sl.l gd_S_TInterval 0 t10) ((u9 2).dl Sl.l gd_S_TInterval 0 t10)]) 20 (fun u11 => #[.slice ((u9 2).o 0) (((u9 2).dl Sl.l gd_S_TInterval 0 t10).length) ((u9 2).n 0)]) (.bool t12) (fun u11 => (((t10.length : Int) != (t7.length : Int)) == false)) [true, false] 37 (fun u11 w hg hF => armillaryref04_Valid.calls k0 t10 ((u9 2).o 0) ((u9 2).n 0) ((u9 2).dl Sl.l gd_S_TInterval 0 t10) t12 w (dl_er ergd_S_TInterval (u9 2) 0 t10) ⟨(rdA (ns_of hF.1).row), (dnA (ns_of hF.1).all), trivial⟩ (ifp ht12 hg))) <|
   .cons [38] (ok_valg (fun u11 => .bool (!t12)) (fun u11 => (((t10.length : Int) != (t7.length : Int)) == false)) [false] 38) <|
   .cons [39] (ok_or 35 38 (fun u11 => true) (fun u11 => true) (fun u11 => ((t10.length : Int) != (t7.length : Int))) (fun u11 => (!t12)) 39) <| .nil) fun u11 a w' H => ?_
 replace H := H.kp [5, 9, 10, 11, 39, 78, 79, 80, 999999]
 refine k_cond H (by kernel_rfl) (t := (((t10.length : Int) != (t7.length : Int)) || (!t12))) (by kernel_rfl) (fun c44 => ?_) (fun c44 => ?_)
 ·rw [if_pos c44] at G
  refine k_seq ?_
  refine k_rg mixed H (.v 4 (.bool false) <| .nil) fun u13 a w' H => ?_
  replace H := H.kp [4, 999999]
  refine k_ret ?_
  obtain rfl := Option.some.inj G
  exact k_done0 H _ (by kernel_rfl) (by kernel_rfl)
 ·rw [if_neg (nt c44)] at G
  refine k_skip ?_
  refine k_seq ?_
  replace G := bnd G; obtain ⟨j14, hj14, Gj14⟩ := G
  refine k_join (fun a w' => ∃ j14v, j14 = Sum.inr j14v ∧ Rep w.heap.size w 70 (ofL [(5, sB t3), (999999, gk)]) a w') ?_ ?_
  ·clear H; rintro a w' ⟨j14v, rfl, H⟩; have G := Gj14; clear Gj14; dsimp only at G
   refine k_seq ?_
   refine k_rg mixed H (.v 69 (.bool t3) <|
   .v 4 (.bool t3) <| .nil) fun u15 a w' H => ?_
   replace H := H.kp [4, 999999]
   refine k_ret ?_
   obtain rfl := Option.some.inj G
   exact k_done0 H _ (by kernel_rfl) (by kernel_rfl)
  ·have G := hj14; clear hj14
   refine k_seq ?_
   refine k_rg mixed H (.v 12 (vI 0) <| .nil) fun u16 a w' H => ?_
   replace H := H.kp [5, 9, 10, 11, 12, 78, 79, 80, 999999]
   refine k_block ?_
   refine k_loopJ (fun m a w' => ∃ x17 : Int, armillarylaw04_MatrixMulInclusion.l18 k0 a0 a1 t3 t5 t7 t8 t10 t12 m x17 = some j14 ∧ Rep w.heap.size w 70 (ofL [(5, sB t3), (9, (sS ((u6 2).o 0) (((u6 2).dl Sl.l gd_S_i64 0 t7).length) ((u6 2).n 0))), (10, (sS ((u6 5).o 0) (((u6 5).dl Sl.l gd_S_i64 0 t8).length) ((u6 5).n 0))), (11, (sS ((u9 2).o 0) (((u9 2).dl Sl.l gd_S_TInterval 0 t10).length) ((u9 2).n 0))), (12, sI x17), (78, nsK 32 2 1 en_i64 ((u6 2).o 0) (((u6 2).dl Sl.l gd_S_i64 0 t7).length) ((u6 2).n 0) ((u6 2).dl Sl.l gd_S_i64 0 t7) ((u6 2).dl Sl.l gd_S_i64 0 t7)), (79, nsK 32 2 1 en_i64 ((u6 5).o 0) (((u6 5).dl Sl.l gd_S_i64 0 t8).length) ((u6 5).n 0) ((u6 5).dl Sl.l gd_S_i64 0 t8) ((u6 5).dl Sl.l gd_S_i64 0 t8)), (80, nsK 22 37 2 en_TInterval ((u9 2).o 0) (((u9 2).dl Sl.l gd_S_TInterval 0 t10).length) ((u9 2).n 0) ((u9 2).dl Sl.l gd_S_TInterval 0 t10) ((u9 2).dl Sl.l gd_S_TInterval 0 t10)), (999999, gk)]) a w') k0 ⟨_, G, H.toL _ (by kernel_rfl)⟩ ?_
   clear G H
   rintro (_ | k) a w' ⟨x17, G, H⟩
   ·exact absurd G (by unfold armillarylaw04_MatrixMulInclusion.l18; exact fun h => by cases h)
   ·unfold armillarylaw04_MatrixMulInclusion.l18 at G
    refine k_seq ?_
    refine k_seq ?_
    refine k_rg mixed H (.v 40 (vI x17) <|
   .v 41 (.slice ((u6 2).o 0) (((u6 2).dl Sl.l gd_S_i64 0 t7).length) ((u6 2).n 0)) <|
   .cons [42] (ok_valL [78] (fun u19 => [nsK 32 2 1 en_i64 ((u6 2).o 0) (((u6 2).dl Sl.l gd_S_i64 0 t7).length) ((u6 2).n 0) ((u6 2).dl Sl.l gd_S_i64 0 t7) ((u6 2).dl Sl.l gd_S_i64 0 t7)]) (fun u19 => vI (t7.length : Int)) (fun u19 => true) [true] 42 (fun u19 w hg hF => run_lenN (((ns_of hF.1).row.2.len enSl_len (by decide)).trans (map_len (dl_er ergd_S_i64 (u6 2) 0 t7)).symm) (by kernel_rfl))) <|
   .v 43 (.bool (decide (x17 < (t7.length : Int)))) <| .nil) fun u19 a w' H => ?_
    replace H := H.kp [5, 9, 10, 11, 12, 43, 78, 79, 80, 999999]
    refine k_cond H (by kernel_rfl) (t := decide (x17 < (t7.length : Int))) (by kernel_rfl) (fun c43 => ?_) (fun c43 => ?_)
    ·rw [if_pos c43] at G
     refine k_skip ?_
     refine k_seq ?_
     replace G := bnd G; obtain ⟨j20, hj20, Gj20⟩ := G
     refine k_join (fun a w' => ∃ j20v, j20 = Sum.inr j20v ∧ Rep w.heap.size w 70 (ofL [(5, sB t3), (9, (sS ((u6 2).o 0) (((u6 2).dl Sl.l gd_S_i64 0 t7).length) ((u6 2).n 0))), (10, (sS ((u6 5).o 0) (((u6 5).dl Sl.l gd_S_i64 0 t8).length) ((u6 5).n 0))), (11, (sS ((u9 2).o 0) (((u9 2).dl Sl.l gd_S_TInterval 0 t10).length) ((u9 2).n 0))), (12, sI x17), (78, nsK 32 2 1 en_i64 ((u6 2).o 0) (((u6 2).dl Sl.l gd_S_i64 0 t7).length) ((u6 2).n 0) ((u6 2).dl Sl.l gd_S_i64 0 t7) ((u6 2).dl Sl.l gd_S_i64 0 t7)), (79, nsK 32 2 1 en_i64 ((u6 5).o 0) (((u6 5).dl Sl.l gd_S_i64 0 t8).length) ((u6 5).n 0) ((u6 5).dl Sl.l gd_S_i64 0 t8) ((u6 5).dl Sl.l gd_S_i64 0 t8)), (80, nsK 22 37 2 en_TInterval ((u9 2).o 0) (((u9 2).dl Sl.l gd_S_TInterval 0 t10).length) ((u9 2).n 0) ((u9 2).dl Sl.l gd_S_TInterval 0 t10) ((u9 2).dl Sl.l gd_S_TInterval 0 t10)), (999999, gk)]) a w') ?_ ?_
     ·clear H; rintro a w' ⟨j20v, rfl, H⟩; have G := Gj20; clear Gj20; dsimp only at G
      refine k_rg mixed H (.v 44 (vI x17) <|
   .v 45 (vI (w_i64 (x17 + 1))) <|
   .v 12 (vI (w_i64 (x17 + 1))) <| .nil) fun u21 a w' H => ?_
      replace H := H.kp [5, 9, 10, 11, 12, 78, 79, 80, 999999]
      exact ⟨k, Nat.lt_succ_self k, _, G, H.toL _ (by kernel_rfl)⟩
     ·have G := hj20; clear hj20
      refine k_block ?_
      refine k_seq ?_
      refine k_rg mixed H (.v 13 (vI 0) <| .nil) fun u22 a w' H => ?_
      replace H := H.kp [5, 9, 10, 11, 12, 13, 78, 79, 80, 999999]
      refine k_block ?_
      refine k_loopJ (fun m a w' => ∃ x23 : Int, armillarylaw04_MatrixMulInclusion.l24 k0 a0 a1 t3 t5 t7 t8 t10 t12 x17 m x23 = some j20 ∧ Rep w.heap.size w 70 (ofL [(5, sB t3), (9, (sS ((u6 2).o 0) (((u6 2).dl Sl.l gd_S_i64 0 t7).length) ((u6 2).n 0))), (10, (sS ((u6 5).o 0) (((u6 5).dl Sl.l gd_S_i64 0 t8).length) ((u6 5).n 0))), (11, (sS ((u9 2).o 0) (((u9 2).dl Sl.l gd_S_TInterval 0 t10).length) ((u9 2).n 0))), (12, sI x17), (13, sI x23), (78, nsK 32 2 1 en_i64 ((u6 2).o 0) (((u6 2).dl Sl.l gd_S_i64 0 t7).length) ((u6 2).n 0) ((u6 2).dl Sl.l gd_S_i64 0 t7) ((u6 2).dl Sl.l gd_S_i64 0 t7)), (79, nsK 32 2 1 en_i64 ((u6 5).o 0) (((u6 5).dl Sl.l gd_S_i64 0 t8).length) ((u6 5).n 0) ((u6 5).dl Sl.l gd_S_i64 0 t8) ((u6 5).dl Sl.l gd_S_i64 0 t8)), (80, nsK 22 37 2 en_TInterval ((u9 2).o 0) (((u9 2).dl Sl.l gd_S_TInterval 0 t10).length) ((u9 2).n 0) ((u9 2).dl Sl.l gd_S_TInterval 0 t10) ((u9 2).dl Sl.l gd_S_TInterval 0 t10)), (999999, gk)]) a w') k0 ⟨_, G, H.toL _ (by kernel_rfl)⟩ ?_
      clear G H
      rintro (_ | k) a w' ⟨x23, G, H⟩
      ·exact absurd G (by unfold armillarylaw04_MatrixMulInclusion.l24; exact fun h => by cases h)
      ·unfold armillarylaw04_MatrixMulInclusion.l24 at G
       refine k_seq ?_
       refine k_seq ?_
       refine k_rg mixed H (.v 46 (vI x23) <|
   .v 47 (.slice ((u6 2).o 0) (((u6 2).dl Sl.l gd_S_i64 0 t7).length) ((u6 2).n 0)) <|
   .cons [48] (ok_valL [78] (fun u25 => [nsK 32 2 1 en_i64 ((u6 2).o 0) (((u6 2).dl Sl.l gd_S_i64 0 t7).length) ((u6 2).n 0) ((u6 2).dl Sl.l gd_S_i64 0 t7) ((u6 2).dl Sl.l gd_S_i64 0 t7)]) (fun u25 => vI (t7.length : Int)) (fun u25 => true) [true] 48 (fun u25 w hg hF => run_lenN (((ns_of hF.1).row.2.len enSl_len (by decide)).trans (map_len (dl_er ergd_S_i64 (u6 2) 0 t7)).symm) (by kernel_rfl))) <|
   .v 49 (.bool (decide (x23 < (t7.length : Int)))) <| .nil) fun u25 a w' H => ?_
       replace H := H.kp [5, 9, 10, 11, 12, 13, 49, 78, 79, 80, 999999]
       refine k_cond H (by kernel_rfl) (t := decide (x23 < (t7.length : Int))) (by kernel_rfl) (fun c42 => ?_) (fun c42 => ?_)
       ·rw [if_pos c42] at G
        refine k_skip ?_
        refine k_seq ?_
        refine k_block ?_
        refine k_seq ?_
        replace G := gd G; obtain ⟨b27, G⟩ := G
        replace G := bnd G; obtain ⟨t28, ht28, G⟩ := G
        obtain ⟨p_t28, c_t28, y_t28⟩ := sl_get (dl_er ergd_S_TInterval (u9 2) 0 t10) ht28
        have P29 := ptr_of (en := enSl) (l := ((u9 2).dl Sl.l gd_S_TInterval 0 t10)) (ns_of (H.at (K := nsK 22 37 2 en_TInterval ((u9 2).o 0) (((u9 2).dl Sl.l gd_S_TInterval 0 t10).length) ((u9 2).n 0) ((u9 2).dl Sl.l gd_S_TInterval 0 t10) ((u9 2).dl Sl.l gd_S_TInterval 0 t10)) 80 (by kernel_rfl))).row.2 enSl_len
        replace G := gd G; obtain ⟨b30, G⟩ := G
        replace G := bnd G; obtain ⟨t31, ht31, G⟩ := G
        have P32 := ptr_of (en := en_TInterval) (l := t28) ((ns_of (H.at (K := nsK 22 37 2 en_TInterval ((u9 2).o 0) (((u9 2).dl Sl.l gd_S_TInterval 0 t10).length) ((u9 2).n 0) ((u9 2).dl Sl.l gd_S_TInterval 0 t10) ((u9 2).dl Sl.l gd_S_TInterval 0 t10)) 80 (by kernel_rfl))).one y_t28).2 en_TInterval_len
        replace G := gd G; obtain ⟨b33, G⟩ := G
        replace G := bnd G; obtain ⟨t34, ht34, G⟩ := G
        obtain ⟨p_t34, c_t34, y_t34⟩ := sl_get (dl_er ergd_S_i64 (u6 2) 0 t7) ht34
        have P35 := ptr_of (en := enSl) (l := ((u6 2).dl Sl.l gd_S_i64 0 t7)) (ns_of (H.at (K := nsK 32 2 1 en_i64 ((u6 2).o 0) (((u6 2).dl Sl.l gd_S_i64 0 t7).length) ((u6 2).n 0) ((u6 2).dl Sl.l gd_S_i64 0 t7) ((u6 2).dl Sl.l gd_S_i64 0 t7)) 78 (by kernel_rfl))).row.2 enSl_len
        replace G := bnd G; obtain ⟨t36, ht36, G⟩ := G
        replace G := bnd G; obtain ⟨t37, ht37, G⟩ := G
        replace G := bnd G; obtain ⟨t38, ht38, G⟩ := G
        refine k_regT mixed H (.v 52 (.slice ((u9 2).o 0) (((u9 2).dl Sl.l gd_S_TInterval 0 t10).length) ((u9 2).n 0)) <|
   .v 53 (vI x17) <|
   .cons [54] (ok_val (fun u26 => .pointer (some ⟨hdB ((u9 2).o 0), hdO ((u9 2).o 0) + x17.toNat * 1, none⟩)) 54 (hv := fun _ _ => ix_pure (t := 27) (k := .i64) (i := x17) (p := ((u9 2).o 0)) (n := ((u9 2).dl Sl.l gd_S_TInterval 0 t10).length) (cap := ((u9 2).n 0)) (x := t10) P29 (map_len (dl_er ergd_S_TInterval (u9 2) 0 t10)) b27 (by kernel_rfl))) <|
   .cons [55] (ok_valL [80] (fun u26 => [nsK 22 37 2 en_TInterval ((u9 2).o 0) (((u9 2).dl Sl.l gd_S_TInterval 0 t10).length) ((u9 2).n 0) ((u9 2).dl Sl.l gd_S_TInterval 0 t10) ((u9 2).dl Sl.l gd_S_TInterval 0 t10)]) (fun u26 => .slice p_t28 t28.length c_t28) (fun u26 => true) [true] 55 (fun u26 w hg hF => ld_row (en := enSl) (ns_of hF.1).row.2 enSl_len y_t28 0 1 [.slice p_t28 t28.length c_t28] rfl (by kernel_rfl))) <|
   .v 56 (vI x23) <|
   .cons [57] (ok_val (fun u26 => .pointer (some ⟨hdB p_t28, hdO p_t28 + x23.toNat * 2, none⟩)) 57 (hv := fun _ _ => ix_pure (t := 22) (k := .i64) (i := x23) (p := p_t28) (n := t28.length) (cap := c_t28) (x := t28) P32 rfl b30 (by kernel_rfl))) <|
   .cons [58] (ok_valL [80] (fun u26 => [nsK 22 37 2 en_TInterval ((u9 2).o 0) (((u9 2).dl Sl.l gd_S_TInterval 0 t10).length) ((u9 2).n 0) ((u9 2).dl Sl.l gd_S_TInterval 0 t10) ((u9 2).dl Sl.l gd_S_TInterval 0 t10)]) (fun u26 => .agg #[vI t31.Lo, vI t31.Hi]) (fun u26 => true) [true] 58 (fun u26 w hg hF => ld_row (en := en_TInterval) ((ns_of hF.1).one y_t28).2 en_TInterval_len ht31 0 2 [vI t31.Lo, vI t31.Hi] rfl (by kernel_rfl))) <|
   .v 59 (.slice ((u6 2).o 0) (((u6 2).dl Sl.l gd_S_i64 0 t7).length) ((u6 2).n 0)) <|
   .v 60 (vI x17) <|
   .cons [61] (ok_val (fun u26 => .pointer (some ⟨hdB ((u6 2).o 0), hdO ((u6 2).o 0) + x17.toNat * 1, none⟩)) 61 (hv := fun _ _ => ix_pure (t := 30) (k := .i64) (i := x17) (p := ((u6 2).o 0)) (n := ((u6 2).dl Sl.l gd_S_i64 0 t7).length) (cap := ((u6 2).n 0)) (x := t7) P35 (map_len (dl_er ergd_S_i64 (u6 2) 0 t7)) b33 (by kernel_rfl))) <|
   .cons [62] (ok_valL [78] (fun u26 => [nsK 32 2 1 en_i64 ((u6 2).o 0) (((u6 2).dl Sl.l gd_S_i64 0 t7).length) ((u6 2).n 0) ((u6 2).dl Sl.l gd_S_i64 0 t7) ((u6 2).dl Sl.l gd_S_i64 0 t7)]) (fun u26 => .slice p_t34 t34.length c_t34) (fun u26 => true) [true] 62 (fun u26 w hg hF => ld_row (en := enSl) (ns_of hF.1).row.2 enSl_len y_t34 0 1 [.slice p_t34 t34.length c_t34] rfl (by kernel_rfl))) <|
   .v 63 (.slice ((u6 5).o 0) (((u6 5).dl Sl.l gd_S_i64 0 t8).length) ((u6 5).n 0)) <|
   .v 64 (vI x23) <|
   .cons [65, 81] (ok_callY false fr [] [79] (fun u26 => [nsK 32 2 1 en_i64 ((u6 5).o 0) (((u6 5).dl Sl.l gd_S_i64 0 t8).length) ((u6 5).n 0) ((u6 5).dl Sl.l gd_S_i64 0 t8) ((u6 5).dl Sl.l gd_S_i64 0 t8)]) [] (fun u26 => []) 21 (fun u26 => #[.slice ((u6 5).o 0) (((u6 5).dl Sl.l gd_S_i64 0 t8).length) ((u6 5).n 0), vI x23]) (fun u26 => [rdF anyF 1 ((u6 5).o 0) (((u6 5).dl Sl.l gd_S_i64 0 t8).length) ((u6 5).n 0) (((u6 5).dl Sl.l gd_S_i64 0 t8).flatMap enSl), dnK anyF E_S_i64.toPart ((u6 5).dl Sl.l gd_S_i64 0 t8)]) (fun u26 => []) (fun u26 g => .slice (g.o 0) t36.length (g.n 0)) (fun u26 g => [fun _ => owK 2 1 (g.o 0) t36.length (g.n 0) (t36.flatMap en_i64)]) [81] 65 (fun u26 w hB hF hM => armillaryref04_Column.calls k0 t8 x23 ((u6 5).o 0) ((u6 5).n 0) ((u6 5).dl Sl.l gd_S_i64 0 t8) t36 w (dl_er ergd_S_i64 (u6 5) 0 t8) hB ht36) (fun u26 w hF => ⟨⟨sub_rd0 (ns_of hF.1).row (fun j h => ⟨_, (.head _), (ns_fpH h)⟩), sub_dn0 (ns_of hF.1).all (fun j h => ⟨_, (.head _), (ns_fpA h)⟩), trivial⟩, trivial⟩) (fun u26 g => (fams_cons fam_ow fams_nil)) (.inr (fun u26 g => (famx_cons trivial (fun K h => by cases h)))) (fun h => by cases h)) <|
   .cons [66] (ok_callL [78, 81] (fun u26 => [nsK 32 2 1 en_i64 ((u6 2).o 0) (((u6 2).dl Sl.l gd_S_i64 0 t7).length) ((u6 2).n 0) ((u6 2).dl Sl.l gd_S_i64 0 t7) ((u6 2).dl Sl.l gd_S_i64 0 t7), owK 2 1 ((u26 13).o 0) t36.length ((u26 13).n 0) (t36.flatMap en_i64)]) 18 (fun u26 => #[.slice p_t34 t34.length c_t34, .slice ((u26 13).o 0) t36.length ((u26 13).n 0)]) (vI t37) 66 (fun u26 w hF => armillaryref04_Dot.calls k0 t34 t36 p_t34 c_t34 ((u26 13).o 0) ((u26 13).n 0) t37 w  ⟨(rdA ((ns_of hF.1).one y_t34)), (rdA (owns_rowC (ow_of hF.2.1))), trivial⟩ ht37)) <|
   .cons [67] (ok_callv 17 (fun u26 => #[.agg #[vI t31.Lo, vI t31.Hi], vI t37]) (.bool t38) 67 [] (fun u26 w _ => armillaryref04_ContainsScaled.calls t31 t37  t38 w  ht38)) <|
   .v 68 (.bool (!t38)) <| .nil) (by kernel_rfl) fun u26 a w' H => ?_
        replace H := H.kp [5, 9, 10, 11, 12, 13, 68, 78, 79, 80, 999999]
        refine k_cond H (by kernel_rfl) (t := (!t38)) (by kernel_rfl) (fun c41 => ?_) (fun c41 => ?_)
        ·rw [if_pos c41] at G
         refine k_seq ?_
         refine k_rg mixed H (.v 4 (.bool false) <| .nil) fun u39 a w' H => ?_
         replace H := H.kp [4, 999999]
         refine k_ret ?_
         obtain rfl := Option.some.inj G
         replace G := Gj20
         obtain rfl := Option.some.inj G
         replace G := Gj14
         obtain rfl := Option.some.inj G
         exact k_done0 H _ (by kernel_rfl) (by kernel_rfl)
        ·rw [if_neg (nt c41)] at G
         refine k_skip ?_
         refine k_rg mixed H (.v 50 (vI x23) <|
   .v 51 (vI (w_i64 (x23 + 1))) <|
   .v 13 (vI (w_i64 (x23 + 1))) <| .nil) fun u40 a w' H => ?_
         replace H := H.kp [5, 9, 10, 11, 12, 13, 78, 79, 80, 999999]
         exact ⟨k, Nat.lt_succ_self k, _, G, H.toL _ (by kernel_rfl)⟩
       ·rw [if_neg (nt c42)] at G
        refine k_exit rfl ?_
        obtain rfl := Option.some.inj G
        exact ⟨_, rfl, H.toL _ (by kernel_rfl)⟩
    ·rw [if_neg (nt c43)] at G
     refine k_exit rfl ?_
     obtain rfl := Option.some.inj G
     exact ⟨_, rfl, H.toL _ (by kernel_rfl)⟩
end Go.Proofs.YtglcmhldonkfdaaDoor
