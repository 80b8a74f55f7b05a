/- The law MatrixInverseSingular answers as the plain Lean function of its name. Printed by a program of this session. -/
import Derived.Test.YtglcmhldonkfdaaDoorFxMatrixInverseSingular
set_option linter.unusedVariables false
set_option linter.unusedSimpArgs false
set_option maxRecDepth 100000
namespace Go.Proofs.YtglcmhldonkfdaaDoor
open Go Go.RowKit Go.Sx Go.Proofs
set_option maxHeartbeats 4000000 in
theorem armillarylaw04_MatrixInverseSingular.calls (k0 : Nat) (a0 : TOperands) (a1 : List Int) (a2 : TA2_Int) (p_a0_A : Option Addr) (c_a0_A : Nat) (p_a0_B : Option Addr) (c_a0_B : Nat) (p_a0_X : Option Addr) (c_a0_X : Nat) (p_a1 : Option Addr) (c_a1 : Nat) (r : Bool) (w : World) (hB : AllH [rdl anyF 2 p_a0_A c_a0_A a0.A en_TInterval, rdl anyF 2 p_a0_B c_a0_B a0.B en_TInterval, rdl anyF 2 p_a0_X c_a0_X a0.X en_TInterval, rdl anyF 1 p_a1 c_a1 a1 en_u16, gk] w) (G : armillarylaw04_MatrixInverseSingular k0 a0 a1 a2 = some r) :
  Calls Tryd.prog 10 #[.agg #[.slice p_a0_A a0.A.length c_a0_A, .slice p_a0_B a0.B.length c_a0_B, .slice p_a0_X a0.X.length c_a0_X, .int .u8 a0.N], .slice p_a1 a1.length c_a1, .agg #[.int .u8 a2.e0, .int .u8 a2.e1]] w fun e w' => e = .returned (.bool r) ∧ Below w.heap.size w w' := by
 obtain ⟨fr, hfr⟩ : ∃ fr : Nat → Prop, ∀ j, fr j := ⟨fun _ => True, fun _ => trivial⟩
 have hBf : ∀ j, w.heap.size ≤ j → fr j := fun j _ => hfr j
 refine k_enterF (args := [.agg #[.slice p_a0_A a0.A.length c_a0_A, .slice p_a0_B a0.B.length c_a0_B, .slice p_a0_X a0.X.length c_a0_X, .int .u8 a0.N], .slice p_a1 a1.length c_a1, .agg #[.int .u8 a2.e0, .int .u8 a2.e1]]) 154 [(154, rdl anyF 2 p_a0_A c_a0_A a0.A en_TInterval), (155, rdl anyF 2 p_a0_B c_a0_B a0.B en_TInterval), (156, rdl anyF 2 p_a0_X c_a0_X a0.X en_TInterval), (157, rdl anyF 1 p_a1 c_a1 a1 en_u16), (999999, gk)] (by
  intro x hx
  simp only [List.mem_cons, List.not_mem_nil, or_false] at hx
  rcases hx with rfl | rfl | rfl | rfl | rfl
  ·exact rdF_fact (rdF_of hB.1) (fun _ _ => trivial) (by decide) _
  ·exact rdF_fact (rdF_of hB.2.1) (fun _ _ => trivial) (by decide) _
  ·exact rdF_fact (rdF_of hB.2.2.1) (fun _ _ => trivial) (by decide) _
  ·exact rdF_fact (rdF_of hB.2.2.2.1) (fun _ _ => trivial) (by decide) _
  ·exact ⟨⟨_, _, rfl⟩, hB.2.2.2.2.1, glob_in (glob_of hB.2.2.2.2.1)⟩) Tryd.func10 rfl (by kernel_rfl) (by kernel_rfl) fun a H => ?_
 unfold armillarylaw04_MatrixInverseSingular at G
 refine k_seq ?_
 refine k_rg mixed H (.cons [3, 158] (ok_new (fun b => vP b 0) (fun u1 => [.slice p_a0_A a0.A.length c_a0_A, .slice p_a0_B a0.B.length c_a0_B, .slice p_a0_X a0.X.length c_a0_X, .int .u8 a0.N]) 24 3 158) <|
   .cons [5, 159] (ok_new (fun b => vP b 0) (fun u1 => [.int .u8 a2.e0, .int .u8 a2.e1]) 63 5 159) <|
   .v 6 (.bool false) <| .nil) fun u1 a w' H => ?_
 replace H := H.kp [1, 3, 5, 154, 155, 156, 157, 158, 159, 999999]
 refine k_seq ?_
 replace G := bnd G; obtain ⟨t3, ht3, G⟩ := G
 refine k_rg mixed H (.cons [24] (ok_callL [999999] (fun u2 => [gk]) 11 (fun u2 => #[]) (.bool t3) 24 (fun u2 w hF => armillarylaw04_sanity.calls k0  t3 w  (glob_of hF.1) ht3)) <|
   .v 7 (.bool t3) <| .nil) fun u2 a w' H => ?_
 replace H := H.kp [1, 3, 5, 7, 154, 155, 156, 157, 158, 159, 999999]
 refine k_seq ?_
 replace G := bnd G; obtain ⟨t5, ht5, G⟩ := G
 refine k_rg mixed H (.cons [26] (ok_ld (fun u4 => .agg #[.slice p_a0_A a0.A.length c_a0_A, .slice p_a0_B a0.B.length c_a0_B, .slice p_a0_X a0.X.length c_a0_X, .int .u8 a0.N]) 26 158 0 4 (fun u4 => ((u1 0).n 0)) (fun u4 => [.slice p_a0_A a0.A.length c_a0_A, .slice p_a0_B a0.B.length c_a0_B, .slice p_a0_X a0.X.length c_a0_X, .int .u8 a0.N]) 24) <|
   .cons [27, 160, 161, 162] (ok_callY false fr [] [154, 155, 156] (fun u4 => [rdl anyF 2 p_a0_A c_a0_A a0.A en_TInterval, rdl anyF 2 p_a0_B c_a0_B a0.B en_TInterval, rdl anyF 2 p_a0_X c_a0_X a0.X en_TInterval]) [] (fun u4 => []) 12 (fun u4 => #[.agg #[.slice p_a0_A a0.A.length c_a0_A, .slice p_a0_B a0.B.length c_a0_B, .slice p_a0_X a0.X.length c_a0_X, .int .u8 a0.N]]) (fun u4 => [rdl anyF 2 p_a0_A c_a0_A a0.A en_TInterval, rdl anyF 2 p_a0_B c_a0_B a0.B en_TInterval, rdl anyF 2 p_a0_X c_a0_X a0.X en_TInterval]) (fun u4 => []) (fun u4 g => .tuple #[.slice (g.o 0) ((g.dl Sl.l gd_S_TInterval 0 t5.1).length) (g.n 0), .slice (g.o 1) ((g.dl Sl.l gd_S_TInterval 1 t5.2.1).length) (g.n 1), .slice (g.o 2) t5.2.2.length (g.n 2)]) (fun u4 g => [fun _ => nsK 22 37 2 en_TInterval (g.o 0) ((g.dl Sl.l gd_S_TInterval 0 t5.1).length) (g.n 0) (g.dl Sl.l gd_S_TInterval 0 t5.1) (g.dl Sl.l gd_S_TInterval 0 t5.1), fun _ => nsK 22 37 2 en_TInterval (g.o 1) ((g.dl Sl.l gd_S_TInterval 1 t5.2.1).length) (g.n 1) (g.dl Sl.l gd_S_TInterval 1 t5.2.1) (g.dl Sl.l gd_S_TInterval 1 t5.2.1), fun _ => owK 37 2 (g.o 2) t5.2.2.length (g.n 2) (t5.2.2.flatMap en_TInterval)]) [160, 161, 162] 27 (fun u4 w hB hF hM => armillarylaw04_small.calls k0 (⟨a0.A, a0.B, a0.X, a0.N⟩ : TOperands) p_a0_A c_a0_A p_a0_B c_a0_B p_a0_X c_a0_X t5 w  hB ht5) (fun u4 w hF => ⟨⟨sub_rd0 (rdF_of hF.1) (fun j h => ⟨_, (.head _), h⟩), sub_rd0 (rdF_of hF.2.1) (fun j h => ⟨_, (.tail _ (.head _)), h⟩), sub_rd0 (rdF_of hF.2.2.1) (fun j h => ⟨_, (.tail _ (.tail _ (.head _))), h⟩), trivial⟩, trivial⟩) (fun u4 g => (fams_cons fam_ns (fams_cons fam_ns (fams_cons fam_ow fams_nil)))) (.inr (fun u4 g => (famx_cons trivial (famx_cons trivial (famx_cons trivial (fun K h => by cases h)))))) (fun h => by cases h)) <|
   .cons [25] (ok_val (fun u4 => .tuple #[.slice ((u4 1).o 0) (((u4 1).dl Sl.l gd_S_TInterval 0 t5.1).length) ((u4 1).n 0), .slice ((u4 1).o 1) (((u4 1).dl Sl.l gd_S_TInterval 1 t5.2.1).length) ((u4 1).n 1), .slice ((u4 1).o 2) t5.2.2.length ((u4 1).n 2)]) 25) <|
   .cons [28] (ok_val (fun u4 => .slice ((u4 1).o 0) (((u4 1).dl Sl.l gd_S_TInterval 0 t5.1).length) ((u4 1).n 0)) 28) <|
   .cons [29] (ok_val (fun u4 => .slice ((u4 1).o 1) (((u4 1).dl Sl.l gd_S_TInterval 1 t5.2.1).length) ((u4 1).n 1)) 29) <|
   .cons [30] (ok_val (fun u4 => .slice ((u4 1).o 2) t5.2.2.length ((u4 1).n 2)) 30) <|
   .cons [8] (ok_val (fun u4 => .slice ((u4 1).o 0) (((u4 1).dl Sl.l gd_S_TInterval 0 t5.1).length) ((u4 1).n 0)) 8) <|
   .cons [9] (ok_val (fun u4 => .slice ((u4 1).o 1) (((u4 1).dl Sl.l gd_S_TInterval 1 t5.2.1).length) ((u4 1).n 1)) 9) <|
   .cons [10] (ok_val (fun u4 => .slice ((u4 1).o 2) t5.2.2.length ((u4 1).n 2)) 10) <| .nil) fun u4 a w' H => ?_
 replace H := H.kp [1, 5, 7, 8, 157, 159, 160, 999999]
 refine k_seq ?_
 refine k_rg mixed H (.v 31 (.slice ((u4 1).o 0) (((u4 1).dl Sl.l gd_S_TInterval 0 t5.1).length) ((u4 1).n 0)) <|
   .cons [32] (ok_valL [160] (fun u6 => [nsK 22 37 2 en_TInterval ((u4 1).o 0) (((u4 1).dl Sl.l gd_S_TInterval 0 t5.1).length) ((u4 1).n 0) ((u4 1).dl Sl.l gd_S_TInterval 0 t5.1) ((u4 1).dl Sl.l gd_S_TInterval 0 t5.1)]) (fun u6 => vI (t5.1.length : Int)) (fun u6 => true) [true] 32 (fun u6 w hg hF => run_lenN (((ns_of hF.1).row.2.len enSl_len (by decide)).trans (map_len (dl_er ergd_S_TInterval (u4 1) 0 t5.1)).symm) (by kernel_rfl))) <|
   .v 11 (vI (t5.1.length : Int)) <| .nil) fun u6 a w' H => ?_
 replace H := H.kp [1, 5, 7, 8, 11, 157, 159, 160, 999999]
 refine k_seq ?_
 replace G := gd G; obtain ⟨n8, G⟩ := G
 replace G := gd G; obtain ⟨n9, G⟩ := G
 refine k_rg mixed H (.v 33 (vP ((u1 1).n 0) 0) <|
   .cons [34] (ok_ld (fun u7 => .int .u8 a2.e0) 34 159 0 1 (fun u7 => ((u1 1).n 0)) (fun u7 => [.int .u8 a2.e0, .int .u8 a2.e1]) 63) <|
   .v 35 (vI (w_i64 a2.e0)) <|
   .v 36 (vI (t5.1.length : Int)) <|
   .cons [37] (ok_val (fun u7 => vI (Int.tmod (w_i64 a2.e0) (t5.1.length : Int))) 37 (hv := fun _ _ => run_of (by kernel_rfl) (run_rem (k := .i64) (x := w_i64 a2.e0) (y := (t5.1.length : Int)) n8))) <|
   .v 38 (vP ((u1 1).n 0) 1) <|
   .cons [39] (ok_ld (fun u7 => .int .u8 a2.e1) 39 159 1 1 (fun u7 => ((u1 1).n 0)) (fun u7 => [.int .u8 a2.e0, .int .u8 a2.e1]) 63) <|
   .v 40 (vI (w_i64 a2.e1)) <|
   .v 41 (vI (t5.1.length : Int)) <|
   .cons [42] (ok_val (fun u7 => vI (Int.tmod (w_i64 a2.e1) (t5.1.length : Int))) 42 (hv := fun _ _ => run_of (by kernel_rfl) (run_rem (k := .i64) (x := w_i64 a2.e1) (y := (t5.1.length : Int)) n9))) <|
   .v 12 (vI (Int.tmod (w_i64 a2.e0) (t5.1.length : Int))) <|
   .v 13 (vI (Int.tmod (w_i64 a2.e1) (t5.1.length : Int))) <| .nil) fun u7 a w' H => ?_
 replace H := H.kp [1, 7, 8, 11, 12, 13, 157, 160, 999999]
 refine k_seq ?_
 replace G := bnd G; obtain ⟨t11, ht11, G⟩ := G
 refine k_rg mixed H (.v 43 (.slice ((u4 1).o 0) (((u4 1).dl Sl.l gd_S_TInterval 0 t5.1).length) ((u4 1).n 0)) <|
   .v 44 (.slice p_a1 a1.length c_a1) <|
   .cons [45, 163] (ok_callY false fr [] [160, 157] (fun u10 => [nsK 22 37 2 en_TInterval ((u4 1).o 0) (((u4 1).dl Sl.l gd_S_TInterval 0 t5.1).length) ((u4 1).n 0) ((u4 1).dl Sl.l gd_S_TInterval 0 t5.1) ((u4 1).dl Sl.l gd_S_TInterval 0 t5.1), rdl anyF 1 p_a1 c_a1 a1 en_u16]) [] (fun u10 => []) 13 (fun u10 => #[.slice ((u4 1).o 0) (((u4 1).dl Sl.l gd_S_TInterval 0 t5.1).length) ((u4 1).n 0), .slice p_a1 a1.length c_a1]) (fun u10 => [rdF anyF 1 ((u4 1).o 0) (((u4 1).dl Sl.l gd_S_TInterval 0 t5.1).length) ((u4 1).n 0) (((u4 1).dl Sl.l gd_S_TInterval 0 t5.1).flatMap enSl), dnK anyF E_S_TInterval.toPart ((u4 1).dl Sl.l gd_S_TInterval 0 t5.1), rdl anyF 1 p_a1 c_a1 a1 en_u16]) (fun u10 => []) (fun u10 g => .slice (g.o 0) ((g.dl Sl.l gd_S_i64 0 t11).length) (g.n 0)) (fun u10 g => [fun _ => nsK 32 2 1 en_i64 (g.o 0) ((g.dl Sl.l gd_S_i64 0 t11).length) (g.n 0) (g.dl Sl.l gd_S_i64 0 t11) (g.dl Sl.l gd_S_i64 0 t11)]) [163] 45 (fun u10 w hB hF hM => armillaryref04_Sample.calls k0 t5.1 a1 ((u4 1).o 0) ((u4 1).n 0) ((u4 1).dl Sl.l gd_S_TInterval 0 t5.1) p_a1 c_a1 t11 w (dl_er ergd_S_TInterval (u4 1) 0 t5.1) hB ht11) (fun u10 w hF => ⟨⟨sub_rd0 (ns_of hF.1).row (fun j h => ⟨_, (.head _), (ns_fpH h)⟩), sub_dn0 (ns_of hF.1).all (fun j h => ⟨_, (.head _), (ns_fpA h)⟩), sub_rd0 (rdF_of hF.2.1) (fun j h => ⟨_, (.tail _ (.head _)), h⟩), trivial⟩, trivial⟩) (fun u10 g => (fams_cons fam_ns fams_nil)) (.inr (fun u10 g => (famx_cons trivial (fun K h => by cases h)))) (fun h => by cases h)) <|
   .cons [14] (ok_val (fun u10 => .slice ((u10 2).o 0) (((u10 2).dl Sl.l gd_S_i64 0 t11).length) ((u10 2).n 0)) 14) <| .nil) fun u10 a w' H => ?_
 replace H := H.kp [7, 8, 11, 12, 13, 14, 160, 163, 999999]
 refine k_seq ?_
 replace G := bnd G; obtain ⟨j13, hj13, G⟩ := G
 refine k_join (fun a w' => ∃ (p_j12 : Option Addr) (c_j12 np_j12 : Nat) (L_j12 : List (Sl TInterval)), np_j12 = L_j12.length ∧ j13 = L_j12.map Sl.l ∧ Rep w.heap.size w 154 (ofL [(7, sB t3), (8, sS p_j12 np_j12 c_j12), (11, (sI (t5.1.length : Int))), (14, (sS ((u10 2).o 0) (((u10 2).dl Sl.l gd_S_i64 0 t11).length) ((u10 2).n 0))), (163, nsK 32 2 1 en_i64 ((u10 2).o 0) (((u10 2).dl Sl.l gd_S_i64 0 t11).length) ((u10 2).n 0) ((u10 2).dl Sl.l gd_S_i64 0 t11) ((u10 2).dl Sl.l gd_S_i64 0 t11)), (900160, nsK 22 37 2 en_TInterval p_j12 np_j12 c_j12 L_j12 L_j12), (999999, gk)]) a w') ?_ ?_
 ·clear H; rintro a w' ⟨p_j12, c_j12, _, L_j12, rfl, h_j12, H⟩
  refine k_seq ?_
  replace G := bnd G; obtain ⟨t15, ht15, G⟩ := G
  refine k_rg mixed H (.v 78 (.slice p_j12 L_j12.length c_j12) <|
   .cons [79, 164, 165] (ok_callY true fr [] [900160, 999999] (fun u14 => [nsK 22 37 2 en_TInterval p_j12 L_j12.length c_j12 L_j12 L_j12, gk]) [] (fun u14 => []) 35 (fun u14 => #[.slice p_j12 L_j12.length c_j12]) (fun u14 => [rdl anyF 1 p_j12 c_j12 L_j12 enSl, dnK anyF E_S_TInterval.toPart L_j12, gk]) (fun u14 => []) (fun u14 g => .tuple #[.slice (g.o 0) ((g.dl Sl.l gd_S_TInterval 0 t15.1).length) (g.n 0), .bool t15.2]) (fun u14 g => [fun _ => owK 22 1 (g.o 0) ((g.dl Sl.l gd_S_TInterval 0 t15.1).length) (g.n 0) ((g.dl Sl.l gd_S_TInterval 0 t15.1).flatMap enSl), fun fr => dnK fr E_S_TInterval.toPart (g.dl Sl.l gd_S_TInterval 0 t15.1)]) [164, 165] 79 (fun u14 w hB hF hM => matrix_Inverse.calls k0 j13 p_j12 c_j12 L_j12 t15 w h_j12 hB ht15) (fun u14 w hF => ⟨⟨sub_rd0 (ns_of hF.1).row (fun j h => ⟨_, (.head _), (ns_fpH h)⟩), sub_dn0 (ns_of hF.1).all (fun j h => ⟨_, (.head _), (ns_fpA h)⟩), sub_k hF.2.1 (.tail _ (.head _)), trivial⟩, trivial⟩) (fun u14 g => (fams_cons fam_ow (fams_cons fam_dn fams_nil))) (.inl rfl) (fun _ => hBf)) <|
   .cons [77] (ok_val (fun u14 => .tuple #[.slice ((u14 1).o 0) (((u14 1).dl Sl.l gd_S_TInterval 0 t15.1).length) ((u14 1).n 0), .bool t15.2]) 77) <|
   .cons [80] (ok_val (fun u14 => .slice ((u14 1).o 0) (((u14 1).dl Sl.l gd_S_TInterval 0 t15.1).length) ((u14 1).n 0)) 80) <|
   .v 81 (.bool t15.2) <|
   .cons [17] (ok_val (fun u14 => .slice ((u14 1).o 0) (((u14 1).dl Sl.l gd_S_TInterval 0 t15.1).length) ((u14 1).n 0)) 17) <|
   .v 18 (.bool t15.2) <| .nil) fun u14 a w' H => ?_
  replace H := H.kp [7, 11, 14, 18, 163, 999999]
  refine k_seq ?_
  refine k_seq ?_
  refine k_rg mixed H (.v 82 (.bool t15.2) <| .nil) fun u16 a w' H => ?_
  replace H := H.kp [7, 11, 14, 82, 163, 999999]
  refine k_cond H (by kernel_rfl) (t := t15.2) (by kernel_rfl) (fun c80 => ?_) (fun c80 => ?_)
  ·rw [if_pos c80] at G
   refine k_seq ?_
   refine k_rg mixed H (.v 6 (.bool false) <| .nil) fun u17 a w' H => ?_
   replace H := H.kp [6, 999999]
   refine k_ret ?_
   obtain rfl := Option.some.inj G
   exact k_done0 H _ (by kernel_rfl) (by kernel_rfl)
  ·rw [if_neg (nt c80)] at G
   refine k_skip ?_
   refine k_seq ?_
   replace G := bnd G; obtain ⟨t19, ht19, G⟩ := G
   refine k_rg mixed H (.v 83 (vI (t5.1.length : Int)) <|
   .cons [84, 166] (ok_callY false fr [] [] (fun u18 => []) [] (fun u18 => []) 43 (fun u18 => #[vI (t5.1.length : Int)]) (fun u18 => []) (fun u18 => []) (fun u18 g => .slice (g.o 0) ((g.dl Sl.l gd_S_TInterval 0 t19).length) (g.n 0)) (fun u18 g => [fun _ => nsK 22 37 2 en_TInterval (g.o 0) ((g.dl Sl.l gd_S_TInterval 0 t19).length) (g.n 0) (g.dl Sl.l gd_S_TInterval 0 t19) (g.dl Sl.l gd_S_TInterval 0 t19)]) [166] 84 (fun u18 w hB hF hM => armillaryref04_Identity.calls k0 (t5.1.length : Int)  t19 w  ht19) (fun u18 w hF => ⟨trivial, trivial⟩) (fun u18 g => (fams_cons fam_ns fams_nil)) (.inr (fun u18 g => (famx_cons trivial (fun K h => by cases h)))) (fun h => by cases h)) <|
   .cons [19] (ok_val (fun u18 => .slice ((u18 1).o 0) (((u18 1).dl Sl.l gd_S_TInterval 0 t19).length) ((u18 1).n 0)) 19) <| .nil) fun u18 a w' H => ?_
   replace H := H.kp [7, 11, 14, 19, 163, 166, 999999]
   refine k_seq ?_
   replace G := bnd G; obtain ⟨j21, hj21, G⟩ := G
   refine k_join (fun a w' => ∃ (p_j20 : Option Addr) (c_j20 np_j20 : Nat) (L_j20 : List (Sl TInterval)), np_j20 = L_j20.length ∧ j21 = L_j20.map Sl.l ∧ Rep w.heap.size w 154 (ofL [(7, sB t3), (11, (sI (t5.1.length : Int))), (14, (sS ((u10 2).o 0) (((u10 2).dl Sl.l gd_S_i64 0 t11).length) ((u10 2).n 0))), (19, sS p_j20 np_j20 c_j20), (163, nsK 32 2 1 en_i64 ((u10 2).o 0) (((u10 2).dl Sl.l gd_S_i64 0 t11).length) ((u10 2).n 0) ((u10 2).dl Sl.l gd_S_i64 0 t11) ((u10 2).dl Sl.l gd_S_i64 0 t11)), (900162, nsK 22 37 2 en_TInterval p_j20 np_j20 c_j20 L_j20 L_j20), (999999, gk)]) a w') ?_ ?_
   ·clear H; rintro a w' ⟨p_j20, c_j20, _, L_j20, rfl, h_j20, H⟩
    refine k_seq ?_
    replace G := bnd G; obtain ⟨t23, ht23, G⟩ := G
    refine k_rg mixed H (.v 107 (.slice p_j20 L_j20.length c_j20) <|
   .cons [108, 167, 168] (ok_callY true fr [] [900162, 999999] (fun u22 => [nsK 22 37 2 en_TInterval p_j20 L_j20.length c_j20 L_j20 L_j20, gk]) [] (fun u22 => []) 35 (fun u22 => #[.slice p_j20 L_j20.length c_j20]) (fun u22 => [rdl anyF 1 p_j20 c_j20 L_j20 enSl, dnK anyF E_S_TInterval.toPart L_j20, gk]) (fun u22 => []) (fun u22 g => .tuple #[.slice (g.o 0) ((g.dl Sl.l gd_S_TInterval 0 t23.1).length) (g.n 0), .bool t23.2]) (fun u22 g => [fun _ => owK 22 1 (g.o 0) ((g.dl Sl.l gd_S_TInterval 0 t23.1).length) (g.n 0) ((g.dl Sl.l gd_S_TInterval 0 t23.1).flatMap enSl), fun fr => dnK fr E_S_TInterval.toPart (g.dl Sl.l gd_S_TInterval 0 t23.1)]) [167, 168] 108 (fun u22 w hB hF hM => matrix_Inverse.calls k0 j21 p_j20 c_j20 L_j20 t23 w h_j20 hB ht23) (fun u22 w hF => ⟨⟨sub_rd0 (ns_of hF.1).row (fun j h => ⟨_, (.head _), (ns_fpH h)⟩), sub_dn0 (ns_of hF.1).all (fun j h => ⟨_, (.head _), (ns_fpA h)⟩), sub_k hF.2.1 (.tail _ (.head _)), trivial⟩, trivial⟩) (fun u22 g => (fams_cons fam_ow (fams_cons fam_dn fams_nil))) (.inl rfl) (fun _ => hBf)) <|
   .cons [106] (ok_val (fun u22 => .tuple #[.slice ((u22 1).o 0) (((u22 1).dl Sl.l gd_S_TInterval 0 t23.1).length) ((u22 1).n 0), .bool t23.2]) 106) <|
   .cons [109] (ok_val (fun u22 => .slice ((u22 1).o 0) (((u22 1).dl Sl.l gd_S_TInterval 0 t23.1).length) ((u22 1).n 0)) 109) <|
   .v 110 (.bool t23.2) <|
   .cons [21] (ok_val (fun u22 => .slice ((u22 1).o 0) (((u22 1).dl Sl.l gd_S_TInterval 0 t23.1).length) ((u22 1).n 0)) 21) <|
   .v 22 (.bool t23.2) <| .nil) fun u22 a w' H => ?_
    replace H := H.kp [7, 11, 14, 21, 22, 163, 167, 168, 999999]
    refine k_seq ?_
    refine k_seq ?_
    refine k_rg mixed H (.v 111 (.bool t23.2) <|
   .v 112 (.bool (!t23.2)) <|
   .v 113 (.bool (!t23.2)) <|
   .cons [114] (ok_valg (fun u24 => .slice ((u22 1).o 0) (((u22 1).dl Sl.l gd_S_TInterval 0 t23.1).length) ((u22 1).n 0)) (fun u24 => ((!t23.2) == false)) [true] 114) <|
   .cons [115] (ok_valL [167] (fun u24 => [owK 22 1 ((u22 1).o 0) (((u22 1).dl Sl.l gd_S_TInterval 0 t23.1).length) ((u22 1).n 0) (((u22 1).dl Sl.l gd_S_TInterval 0 t23.1).flatMap enSl)]) (fun u24 => vI (t23.1.length : Int)) (fun u24 => ((!t23.2) == false)) [false] 115 (fun u24 w hg hF => run_lenN (((owns_rowC (ow_of hF.1)).2.len enSl_len (by decide)).trans (map_len (dl_er ergd_S_TInterval (u22 1) 0 t23.1)).symm) (by kernel_rfl))) <|
   .cons [116] (ok_valg (fun u24 => vI (t5.1.length : Int)) (fun u24 => ((!t23.2) == false)) [true] 116) <|
   .cons [117] (ok_valg (fun u24 => .bool ((t23.1.length : Int) != (t5.1.length : Int))) (fun u24 => ((!t23.2) == false)) [false, false] 117) <|
   .cons [118] (ok_or 113 117 (fun u24 => true) (fun u24 => true) (fun u24 => (!t23.2)) (fun u24 => ((t23.1.length : Int) != (t5.1.length : Int))) 118) <| .nil) fun u24 a w' H => ?_
    replace H := H.kp [7, 11, 14, 21, 118, 163, 167, 168, 999999]
    refine k_cond H (by kernel_rfl) (t := ((!t23.2) || ((t23.1.length : Int) != (t5.1.length : Int)))) (by kernel_rfl) (fun c57 => ?_) (fun c57 => ?_)
    ·rw [if_pos c57] at G
     refine k_seq ?_
     refine k_rg mixed H (.v 6 (.bool false) <| .nil) fun u25 a w' H => ?_
     replace H := H.kp [6, 999999]
     refine k_ret ?_
     obtain rfl := Option.some.inj G
     exact k_done0 H _ (by kernel_rfl) (by kernel_rfl)
    ·rw [if_neg (nt c57)] at G
     refine k_skip ?_
     refine k_seq ?_
     replace G := bnd G; obtain ⟨j26, hj26, Gj26⟩ := G
     refine k_join (fun a w' => ∃ j26v, j26 = Sum.inr j26v ∧ Rep w.heap.size w 154 (ofL [(7, sB t3), (999999, gk)]) a w') ?_ ?_
     ·clear H; rintro a w' ⟨j26v, rfl, H⟩; have G := Gj26; clear Gj26; dsimp only at G
      refine k_seq ?_
      refine k_rg mixed H (.v 153 (.bool t3) <|
   .v 6 (.bool t3) <| .nil) fun u27 a w' H => ?_
      replace H := H.kp [6, 999999]
      refine k_ret ?_
      obtain rfl := Option.some.inj G
      exact k_done0 H _ (by kernel_rfl) (by kernel_rfl)
     ·have G := hj26; clear hj26
      refine k_seq ?_
      refine k_rg mixed H (.v 23 (vI 0) <| .nil) fun u28 a w' H => ?_
      replace H := H.kp [7, 11, 14, 21, 23, 163, 167, 168, 999999]
      refine k_block ?_
      refine k_loopJ (fun m a w' => ∃ x29 : Int, armillarylaw04_MatrixInverseSingular.l30 k0 a0 a1 a2 t3 t5 t11 j13 t15 t19 j21 t23 m x29 = some j26 ∧ Rep w.heap.size w 154 (ofL [(7, sB t3), (11, (sI (t5.1.length : Int))), (14, (sS ((u10 2).o 0) (((u10 2).dl Sl.l gd_S_i64 0 t11).length) ((u10 2).n 0))), (21, (sS ((u22 1).o 0) (((u22 1).dl Sl.l gd_S_TInterval 0 t23.1).length) ((u22 1).n 0))), (23, sI x29), (163, nsK 32 2 1 en_i64 ((u10 2).o 0) (((u10 2).dl Sl.l gd_S_i64 0 t11).length) ((u10 2).n 0) ((u10 2).dl Sl.l gd_S_i64 0 t11) ((u10 2).dl Sl.l gd_S_i64 0 t11)), (167, owK 22 1 ((u22 1).o 0) (((u22 1).dl Sl.l gd_S_TInterval 0 t23.1).length) ((u22 1).n 0) (((u22 1).dl Sl.l gd_S_TInterval 0 t23.1).flatMap enSl)), (168, dnK fr E_S_TInterval.toPart ((u22 1).dl Sl.l gd_S_TInterval 0 t23.1)), (999999, gk)]) a w') k0 ⟨_, G, H.toL _ (by kernel_rfl)⟩ ?_
      clear G H
      rintro (_ | k) a w' ⟨x29, G, H⟩
      ·exact absurd G (by unfold armillarylaw04_MatrixInverseSingular.l30; exact fun h => by cases h)
      ·unfold armillarylaw04_MatrixInverseSingular.l30 at G
       refine k_seq ?_
       refine k_seq ?_
       refine k_rg mixed H (.v 119 (vI x29) <|
   .v 120 (vI (t5.1.length : Int)) <|
   .v 121 (.bool (decide (x29 < (t5.1.length : Int)))) <| .nil) fun u31 a w' H => ?_
       replace H := H.kp [7, 11, 14, 21, 23, 121, 163, 167, 168, 999999]
       refine k_cond H (by kernel_rfl) (t := decide (x29 < (t5.1.length : Int))) (by kernel_rfl) (fun c56 => ?_) (fun c56 => ?_)
       ·rw [if_pos c56] at G
        refine k_skip ?_
        refine k_seq ?_
        refine k_block ?_
        refine k_seq ?_
        replace G := gd G; obtain ⟨b33, G⟩ := G
        replace G := bnd G; obtain ⟨t34, ht34, G⟩ := G
        obtain ⟨p_t34, c_t34, y_t34⟩ := sl_get (dl_er ergd_S_TInterval (u22 1) 0 t23.1) ht34
        have P35 := ptr_of (en := enSl) (l := ((u22 1).dl Sl.l gd_S_TInterval 0 t23.1)) (owns_rowC (ow_of (H.at (K := owK 22 1 ((u22 1).o 0) (((u22 1).dl Sl.l gd_S_TInterval 0 t23.1).length) ((u22 1).n 0) (((u22 1).dl Sl.l gd_S_TInterval 0 t23.1).flatMap enSl)) 167 (by kernel_rfl)))).2 enSl_len
        replace G := bnd G; obtain ⟨z36, hz36, G⟩ := G
        replace hz36 := Option.some.inj hz36
        by_cases c54 : z36 = true
        ·rw [if_pos c54] at G; subst c54
         refine k_rg mixed H (.v 124 (.slice ((u22 1).o 0) (((u22 1).dl Sl.l gd_S_TInterval 0 t23.1).length) ((u22 1).n 0)) <|
   .v 125 (vI x29) <|
   .cons [126] (ok_val (fun u32 => .pointer (some ⟨hdB ((u22 1).o 0), hdO ((u22 1).o 0) + x29.toNat * 1, none⟩)) 126 (hv := fun _ _ => ix_pure (t := 27) (k := .i64) (i := x29) (p := ((u22 1).o 0)) (n := ((u22 1).dl Sl.l gd_S_TInterval 0 t23.1).length) (cap := ((u22 1).n 0)) (x := t23.1) P35 (map_len (dl_er ergd_S_TInterval (u22 1) 0 t23.1)) b33 (by kernel_rfl))) <|
   .cons [127] (ok_valL [167] (fun u32 => [owK 22 1 ((u22 1).o 0) (((u22 1).dl Sl.l gd_S_TInterval 0 t23.1).length) ((u22 1).n 0) (((u22 1).dl Sl.l gd_S_TInterval 0 t23.1).flatMap enSl)]) (fun u32 => .slice p_t34 t34.length c_t34) (fun u32 => true) [true] 127 (fun u32 w hg hF => ld_row (en := enSl) (owns_rowC (ow_of hF.1)).2 enSl_len y_t34 0 1 [.slice p_t34 t34.length c_t34] rfl (by kernel_rfl))) <|
   .v 128 (vI (t34.length : Int)) <|
   .v 129 (vI (t5.1.length : Int)) <|
   .v 130 (.bool ((t34.length : Int) != (t5.1.length : Int))) <|
   .cons [131] (ok_as (u' := fun u32 => [(131, sB true)]) (ok_val (fun u32 => .bool ((t34.length : Int) != (t5.1.length : Int))) 131) (fun _ => by rw [hz36])) <|
   .cons [132] (ok_offB 132) <|
   .cons [133] (ok_offB 133) <|
   .cons [134] (ok_offB 134) <|
   .cons [135] (ok_offB 135) <|
   .cons [136] (ok_offB 136) <|
   .cons [137] (ok_offB 137) <|
   .cons [138] (ok_offB 138) <|
   .cons [139] (ok_offB 139) <|
   .cons [140] (ok_offB 140) <|
   .cons [141] (ok_offB 141) <|
   .cons [142] (ok_offB 142) <|
   .cons [143] (ok_offB 143) <|
   .cons [144] (ok_offB 144) <|
   .cons [145] (ok_offB 145) <|
   .cons [146] (ok_offB 146) <|
   .cons [147] (ok_offB 147) <|
   .cons [148] (ok_offB 148) <|
   .cons [149] (ok_offB 149) <|
   .cons [150] (ok_offB 150) <|
   .cons [151] (ok_offB 151) <|
   .cons [152] (ok_pickK (fun u32 => .bool true) 152) <| .nil) fun u32 a w' H => ?_
         replace H := H.kp [7, 11, 14, 21, 23, 132, 133, 134, 135, 136, 137, 138, 139, 140, 141, 142, 143, 144, 145, 146, 147, 148, 149, 150, 151, 152, 163, 167, 168, 999999]
         refine k_cond_true H (by kernel_rfl) (by kernel_rfl) ?_
         refine k_seq ?_
         refine k_rg mixed H (.v 6 (.bool false) <| .nil) fun u37 a w' H => ?_
         replace H := H.kp [6, 999999]
         refine k_ret ?_
         obtain rfl := Option.some.inj G
         replace G := Gj26
         obtain rfl := Option.some.inj G
         exact k_done0 H _ (by kernel_rfl) (by kernel_rfl)
        rw [if_neg c54] at G
        by_cases c55 : z36 = false
        ·rw [if_pos c55] at G; subst c55
         replace G := gd G; obtain ⟨b37, G⟩ := G
         replace G := bnd G; obtain ⟨t38, ht38, G⟩ := G
         obtain ⟨p_t38, c_t38, y_t38⟩ := sl_get (dl_er ergd_S_TInterval (u22 1) 0 t23.1) ht38
         replace G := gd G; obtain ⟨b39, G⟩ := G
         replace G := bnd G; obtain ⟨t40, ht40, G⟩ := G
         replace G := bnd G; obtain ⟨t41, ht41, G⟩ := G
         replace G := gd G; obtain ⟨b42, G⟩ := G
         replace G := bnd G; obtain ⟨t43, ht43, G⟩ := G
         obtain ⟨p_t43, c_t43, y_t43⟩ := sl_get (dl_er ergd_S_i64 (u10 2) 0 t11) ht43
         have P44 := ptr_of (en := enSl) (l := ((u10 2).dl Sl.l gd_S_i64 0 t11)) (ns_of (H.at (K := nsK 32 2 1 en_i64 ((u10 2).o 0) (((u10 2).dl Sl.l gd_S_i64 0 t11).length) ((u10 2).n 0) ((u10 2).dl Sl.l gd_S_i64 0 t11) ((u10 2).dl Sl.l gd_S_i64 0 t11)) 163 (by kernel_rfl))).row.2 enSl_len
         replace G := gd G; obtain ⟨b45, G⟩ := G
         replace G := bnd G; obtain ⟨t46, ht46, G⟩ := G
         have P47 := ptr_of (en := en_i64) (l := t43) ((ns_of (H.at (K := nsK 32 2 1 en_i64 ((u10 2).o 0) (((u10 2).dl Sl.l gd_S_i64 0 t11).length) ((u10 2).n 0) ((u10 2).dl Sl.l gd_S_i64 0 t11) ((u10 2).dl Sl.l gd_S_i64 0 t11)) 163 (by kernel_rfl))).one y_t43).2 en_i64_len
         replace G := bnd G; obtain ⟨t48, ht48, G⟩ := G
         replace G := bnd G; obtain ⟨t49, ht49, G⟩ := G
         replace G := bnd G; obtain ⟨t50, ht50, G⟩ := G
         refine k_rg mixed H (.v 124 (.slice ((u22 1).o 0) (((u22 1).dl Sl.l gd_S_TInterval 0 t23.1).length) ((u22 1).n 0)) <|
   .v 125 (vI x29) <|
   .cons [126] (ok_val (fun u32 => .pointer (some ⟨hdB ((u22 1).o 0), hdO ((u22 1).o 0) + x29.toNat * 1, none⟩)) 126 (hv := fun _ _ => ix_pure (t := 27) (k := .i64) (i := x29) (p := ((u22 1).o 0)) (n := ((u22 1).dl Sl.l gd_S_TInterval 0 t23.1).length) (cap := ((u22 1).n 0)) (x := t23.1) P35 (map_len (dl_er ergd_S_TInterval (u22 1) 0 t23.1)) b33 (by kernel_rfl))) <|
   .cons [127] (ok_valL [167] (fun u32 => [owK 22 1 ((u22 1).o 0) (((u22 1).dl Sl.l gd_S_TInterval 0 t23.1).length) ((u22 1).n 0) (((u22 1).dl Sl.l gd_S_TInterval 0 t23.1).flatMap enSl)]) (fun u32 => .slice p_t34 t34.length c_t34) (fun u32 => true) [true] 127 (fun u32 w hg hF => ld_row (en := enSl) (owns_rowC (ow_of hF.1)).2 enSl_len y_t34 0 1 [.slice p_t34 t34.length c_t34] rfl (by kernel_rfl))) <|
   .v 128 (vI (t34.length : Int)) <|
   .v 129 (vI (t5.1.length : Int)) <|
   .v 130 (.bool ((t34.length : Int) != (t5.1.length : Int))) <|
   .cons [131] (ok_as (u' := fun u32 => [(131, sB false)]) (ok_val (fun u32 => .bool ((t34.length : Int) != (t5.1.length : Int))) 131) (fun _ => by rw [hz36])) <|
   .cons [132] (ok_gd (ok_val (fun u32 => .slice ((u22 1).o 0) (((u22 1).dl Sl.l gd_S_TInterval 0 t23.1).length) ((u22 1).n 0)) 132) (by intro _; kernel_rfl)) <|
   .cons [133] (ok_gd (ok_val (fun u32 => vI x29) 133) (by intro _; kernel_rfl)) <|
   .cons [134] (ok_gd (ok_val (fun u32 => .pointer (some ⟨hdB ((u22 1).o 0), hdO ((u22 1).o 0) + x29.toNat * 1, none⟩)) 134 (hv := fun _ _ => ix_pure (t := 27) (k := .i64) (i := x29) (p := ((u22 1).o 0)) (n := ((u22 1).dl Sl.l gd_S_TInterval 0 t23.1).length) (cap := ((u22 1).n 0)) (x := t23.1) P35 (map_len (dl_er ergd_S_TInterval (u22 1) 0 t23.1)) b37 (by kernel_rfl))) (by intro _; kernel_rfl)) <|
   .cons [135] (ok_gd (ok_valL [167] (fun u32 => [owK 22 1 ((u22 1).o 0) (((u22 1).dl Sl.l gd_S_TInterval 0 t23.1).length) ((u22 1).n 0) (((u22 1).dl Sl.l gd_S_TInterval 0 t23.1).flatMap enSl)]) (fun u32 => .slice p_t38 t38.length c_t38) (fun u32 => true) [true] 135 (fun u32 w hg hF => ld_row (en := enSl) (owns_rowC (ow_of hF.1)).2 enSl_len y_t38 0 1 [.slice p_t38 t38.length c_t38] rfl (by kernel_rfl))) (by intro _; kernel_rfl)) <|
   .cons [136] (ok_gd (ok_val (fun u32 => vI x29) 136) (by intro _; kernel_rfl)) <|
   .cons [137] (ok_gd (ok_valL [168] (fun u32 => [dnK fr E_S_TInterval.toPart ((u22 1).dl Sl.l gd_S_TInterval 0 t23.1)]) (fun u32 => .pointer (some ⟨hdB p_t38, hdO p_t38 + x29.toNat * 2, none⟩)) (fun u32 => true) [true, true] 137 (fun u32 w hg hF => ix_row (t := 22) (k := .i64) (i := x29) (p := p_t38) (n := t38.length) (cap := c_t38) (x := t38) (en := en_TInterval) (show RowC _ 2 p_t38 t38.length c_t38 (t38.flatMap en_TInterval) from ((dn_of hF.1) _ (List.mem_of_getElem? y_t38)).1).2 en_TInterval_len rfl b39 (by kernel_rfl))) (by intro _; kernel_rfl)) <|
   .cons [138] (ok_gd (ok_valL [168] (fun u32 => [dnK fr E_S_TInterval.toPart ((u22 1).dl Sl.l gd_S_TInterval 0 t23.1)]) (fun u32 => .agg #[vI t40.Lo, vI t40.Hi]) (fun u32 => true) [true] 138 (fun u32 w hg hF => ld_row (en := en_TInterval) (show RowC _ 2 p_t38 t38.length c_t38 (t38.flatMap en_TInterval) from ((dn_of hF.1) _ (List.mem_of_getElem? y_t38)).1).2 en_TInterval_len ht40 0 2 [vI t40.Lo, vI t40.Hi] rfl (by kernel_rfl))) (by intro _; kernel_rfl)) <|
   .cons [139] (ok_gd (ok_callv 42 (fun u32 => #[vI 65536]) (.agg #[vI t41.Lo, vI t41.Hi]) 139 [] (fun u32 w _ => armillaryref02_Point.calls 65536  t41 w  ht41)) (by intro _; kernel_rfl)) <|
   .cons [140] (ok_gd (ok_val (fun u32 => .slice ((u10 2).o 0) (((u10 2).dl Sl.l gd_S_i64 0 t11).length) ((u10 2).n 0)) 140) (by intro _; kernel_rfl)) <|
   .cons [141] (ok_gd (ok_val (fun u32 => vI x29) 141) (by intro _; kernel_rfl)) <|
   .cons [142] (ok_gd (ok_val (fun u32 => .pointer (some ⟨hdB ((u10 2).o 0), hdO ((u10 2).o 0) + x29.toNat * 1, none⟩)) 142 (hv := fun _ _ => ix_pure (t := 30) (k := .i64) (i := x29) (p := ((u10 2).o 0)) (n := ((u10 2).dl Sl.l gd_S_i64 0 t11).length) (cap := ((u10 2).n 0)) (x := t11) P44 (map_len (dl_er ergd_S_i64 (u10 2) 0 t11)) b42 (by kernel_rfl))) (by intro _; kernel_rfl)) <|
   .cons [143] (ok_gd (ok_valL [163] (fun u32 => [nsK 32 2 1 en_i64 ((u10 2).o 0) (((u10 2).dl Sl.l gd_S_i64 0 t11).length) ((u10 2).n 0) ((u10 2).dl Sl.l gd_S_i64 0 t11) ((u10 2).dl Sl.l gd_S_i64 0 t11)]) (fun u32 => .slice p_t43 t43.length c_t43) (fun u32 => true) [true] 143 (fun u32 w hg hF => ld_row (en := enSl) (ns_of hF.1).row.2 enSl_len y_t43 0 1 [.slice p_t43 t43.length c_t43] rfl (by kernel_rfl))) (by intro _; kernel_rfl)) <|
   .cons [144] (ok_gd (ok_val (fun u32 => vI x29) 144) (by intro _; kernel_rfl)) <|
   .cons [145] (ok_gd (ok_val (fun u32 => .pointer (some ⟨hdB p_t43, hdO p_t43 + x29.toNat * 1, none⟩)) 145 (hv := fun _ _ => ix_pure (t := 32) (k := .i64) (i := x29) (p := p_t43) (n := t43.length) (cap := c_t43) (x := t43) P47 rfl b45 (by kernel_rfl))) (by intro _; kernel_rfl)) <|
   .cons [146] (ok_gd (ok_valL [163] (fun u32 => [nsK 32 2 1 en_i64 ((u10 2).o 0) (((u10 2).dl Sl.l gd_S_i64 0 t11).length) ((u10 2).n 0) ((u10 2).dl Sl.l gd_S_i64 0 t11) ((u10 2).dl Sl.l gd_S_i64 0 t11)]) (fun u32 => vI t46) (fun u32 => true) [true] 146 (fun u32 w hg hF => ld_row (en := en_i64) ((ns_of hF.1).one y_t43).2 en_i64_len ht46 0 1 [vI t46] rfl (by kernel_rfl))) (by intro _; kernel_rfl)) <|
   .cons [147] (ok_gd (ok_callv 33 (fun u32 => #[vI t46]) (vI t48) 147 [] (fun u32 w _ => armillarylaw04_abs.calls t46  t48 w  ht48)) (by intro _; kernel_rfl)) <|
   .cons [148] (ok_gd (ok_val (fun u32 => vI (w_i64 (t48 + 4))) 148) (by intro _; kernel_rfl)) <|
   .cons [149] (ok_gd (ok_callv 42 (fun u32 => #[vI (w_i64 (t48 + 4))]) (.agg #[vI t49.Lo, vI t49.Hi]) 149 [] (fun u32 w _ => armillaryref02_Point.calls (w_i64 (t48 + 4))  t49 w  ht49)) (by intro _; kernel_rfl)) <|
   .cons [150] (ok_gd (ok_callv 44 (fun u32 => #[.agg #[vI t41.Lo, vI t41.Hi], .agg #[vI t49.Lo, vI t49.Hi]]) (.agg #[vI t50.Lo, vI t50.Hi]) 150 [] (fun u32 w _ => armillaryref02_Div.calls k0 t41 t49  t50 w  ht50)) (by intro _; kernel_rfl)) <|
   .cons [151] (ok_gd (ok_val (fun u32 => .bool (!((t40.Lo == t50.Lo) && ((t40.Hi == t50.Hi) && true)))) 151 (hv := fun _ _ => run_of (by kernel_rfl) (run_neq_agg (t := 37) (x := (.tmp 138)) (y := (.tmp 150)) (xs := #[vI t40.Lo, vI t40.Hi]) (ys := #[vI t50.Lo, vI t50.Hi]) (b := ((t40.Lo == t50.Lo) && ((t40.Hi == t50.Hi) && true))) (by kernel_rfl) (by kernel_rfl)))) (by intro _; kernel_rfl)) <|
   .cons [152] (ok_pickK (fun u32 => .bool (!((t40.Lo == t50.Lo) && ((t40.Hi == t50.Hi) && true)))) 152) <| .nil) fun u32 a w' H => ?_
         replace H := H.kp [7, 11, 14, 21, 23, 132, 133, 134, 135, 136, 137, 138, 139, 140, 141, 142, 143, 144, 145, 146, 147, 148, 149, 150, 151, 152, 163, 167, 168, 999999]
         refine k_cond H (by kernel_rfl) (t := (!((t40.Lo == t50.Lo) && ((t40.Hi == t50.Hi) && true)))) (by kernel_rfl) (fun c53 => ?_) (fun c53 => ?_)
         ·rw [if_pos c53] at G
          refine k_seq ?_
          refine k_rg mixed H (.v 6 (.bool false) <| .nil) fun u51 a w' H => ?_
          replace H := H.kp [6, 999999]
          refine k_ret ?_
          obtain rfl := Option.some.inj G
          replace G := Gj26
          obtain rfl := Option.some.inj G
          exact k_done0 H _ (by kernel_rfl) (by kernel_rfl)
         ·rw [if_neg (nt c53)] at G
          refine k_skip ?_
          refine k_rg mixed H (.v 122 (vI x29) <|
   .v 123 (vI (w_i64 (x29 + 1))) <|
   .v 23 (vI (w_i64 (x29 + 1))) <| .nil) fun u52 a w' H => ?_
          replace H := H.kp [7, 11, 14, 21, 23, 132, 133, 134, 135, 136, 137, 138, 139, 140, 141, 142, 143, 144, 145, 146, 147, 148, 149, 150, 151, 163, 167, 168, 999999]
          exact ⟨k, Nat.lt_succ_self k, _, G, H.toL _ (by kernel_rfl)⟩
        rw [if_neg c55] at G
        cases G
       ·rw [if_neg (nt c56)] at G
        refine k_exit rfl ?_
        obtain rfl := Option.some.inj G
        exact ⟨_, rfl, H.toL _ (by kernel_rfl)⟩
   ·clear G; replace G := hj21; clear hj21
    refine k_seq ?_
    refine k_rg mixed H (.v 20 (vI 0) <| .nil) fun u58 a w' H => ?_
    replace H := H.kp [7, 11, 14, 19, 20, 163, 166, 999999]
    refine k_block ?_
    replace H := H.move (K := nsK 22 37 2 en_TInterval ((u18 1).o 0) (((u18 1).dl Sl.l gd_S_TInterval 0 t19).length) ((u18 1).n 0) ((u18 1).dl Sl.l gd_S_TInterval 0 t19) ((u18 1).dl Sl.l gd_S_TInterval 0 t19)) 166 900164 (by kernel_rfl) (by intro _ _ h; cases h)
    refine k_loopJ (fun m a w' => ∃ x59 : List (List TInterval), ∃ x60 : Int, armillarylaw04_MatrixInverseSingular.l61 k0 a0 a1 a2 t3 t5 t11 j13 t15 t19 m x59 x60 = some j21 ∧ ∃ (p_x59 : Option Addr) (c_x59 np_x59 : Nat) (L_x59 : List (Sl TInterval)), np_x59 = L_x59.length ∧ x59 = L_x59.map Sl.l ∧ Rep w.heap.size w 154 (ofL [(7, sB t3), (11, (sI (t5.1.length : Int))), (14, (sS ((u10 2).o 0) (((u10 2).dl Sl.l gd_S_i64 0 t11).length) ((u10 2).n 0))), (19, sS p_x59 np_x59 c_x59), (20, sI x60), (163, nsK 32 2 1 en_i64 ((u10 2).o 0) (((u10 2).dl Sl.l gd_S_i64 0 t11).length) ((u10 2).n 0) ((u10 2).dl Sl.l gd_S_i64 0 t11) ((u10 2).dl Sl.l gd_S_i64 0 t11)), (900164, nsK 22 37 2 en_TInterval p_x59 np_x59 c_x59 L_x59 L_x59), (999999, gk)]) a w') k0 ⟨_, _, G, ((u18 1).o 0), ((u18 1).n 0), ((u18 1).dl Sl.l gd_S_TInterval 0 t19).length, ((u18 1).dl Sl.l gd_S_TInterval 0 t19), rfl, (dl_er ergd_S_TInterval (u18 1) 0 t19), H.toL _ (by kernel_rfl)⟩ ?_
    clear G H
    rintro (_ | k) a w' ⟨x59, x60, G, p_x59, c_x59, _, L_x59, rfl, h_x59, H⟩
    ·exact absurd G (by unfold armillarylaw04_MatrixInverseSingular.l61; exact fun h => by cases h)
    ·unfold armillarylaw04_MatrixInverseSingular.l61 at G
     refine k_seq ?_
     refine k_seq ?_
     refine k_rg mixed H (.v 85 (vI x60) <|
   .v 86 (vI (t5.1.length : Int)) <|
   .v 87 (.bool (decide (x60 < (t5.1.length : Int)))) <| .nil) fun u62 a w' H => ?_
     replace H := H.kp [7, 11, 14, 19, 20, 87, 163, 900164, 999999]
     refine k_cond H (by kernel_rfl) (t := decide (x60 < (t5.1.length : Int))) (by kernel_rfl) (fun c79 => ?_) (fun c79 => ?_)
     ·rw [if_pos c79] at G
      refine k_skip ?_
      refine k_seq ?_
      refine k_block ?_
      replace G := gd G; obtain ⟨b64, G⟩ := G
      replace G := bnd G; obtain ⟨t65, ht65, G⟩ := G
      obtain ⟨p_t65, c_t65, y_t65⟩ := sl_get h_x59 ht65
      have P66 := ptr_of (en := enSl) (l := L_x59) (ns_of (H.at (K := nsK 22 37 2 en_TInterval p_x59 L_x59.length c_x59 L_x59 L_x59) 900164 (by kernel_rfl))).row.2 enSl_len
      replace G := gd G; obtain ⟨b67, G⟩ := G
      replace G := bnd G; obtain ⟨t68, ht68, G⟩ := G
      obtain ⟨p_t68, c_t68, y_t68⟩ := sl_get (dl_er ergd_S_i64 (u10 2) 0 t11) ht68
      have P69 := ptr_of (en := enSl) (l := ((u10 2).dl Sl.l gd_S_i64 0 t11)) (ns_of (H.at (K := nsK 32 2 1 en_i64 ((u10 2).o 0) (((u10 2).dl Sl.l gd_S_i64 0 t11).length) ((u10 2).n 0) ((u10 2).dl Sl.l gd_S_i64 0 t11) ((u10 2).dl Sl.l gd_S_i64 0 t11)) 163 (by kernel_rfl))).row.2 enSl_len
      replace G := gd G; obtain ⟨b70, G⟩ := G
      replace G := bnd G; obtain ⟨t71, ht71, G⟩ := G
      have P72 := ptr_of (en := en_i64) (l := t68) ((ns_of (H.at (K := nsK 32 2 1 en_i64 ((u10 2).o 0) (((u10 2).dl Sl.l gd_S_i64 0 t11).length) ((u10 2).n 0) ((u10 2).dl Sl.l gd_S_i64 0 t11) ((u10 2).dl Sl.l gd_S_i64 0 t11)) 163 (by kernel_rfl))).one y_t68).2 en_i64_len
      replace G := bnd G; obtain ⟨t73, ht73, G⟩ := G
      replace G := bnd G; obtain ⟨t74, ht74, G⟩ := G
      replace G := gd G; obtain ⟨b75, G⟩ := G
      replace G := bnd G; obtain ⟨t76, ht76, G⟩ := G
      have P77 := ptr_of (en := en_TInterval) (l := t65) ((ns_of (H.at (K := nsK 22 37 2 en_TInterval p_x59 L_x59.length c_x59 L_x59 L_x59) 900164 (by kernel_rfl))).one y_t65).2 en_TInterval_len
      refine k_rg mixed H (.v 90 (.slice p_x59 L_x59.length c_x59) <|
   .v 91 (vI x60) <|
   .cons [92] (ok_val (fun u63 => .pointer (some ⟨hdB p_x59, hdO p_x59 + x60.toNat * 1, none⟩)) 92 (hv := fun _ _ => ix_pure (t := 27) (k := .i64) (i := x60) (p := p_x59) (n := L_x59.length) (cap := c_x59) (x := x59) P66 (map_len h_x59) b64 (by kernel_rfl))) <|
   .cons [93] (ok_valL [900164] (fun u63 => [nsK 22 37 2 en_TInterval p_x59 L_x59.length c_x59 L_x59 L_x59]) (fun u63 => .slice p_t65 t65.length c_t65) (fun u63 => true) [true] 93 (fun u63 w hg hF => ld_row (en := enSl) (ns_of hF.1).row.2 enSl_len y_t65 0 1 [.slice p_t65 t65.length c_t65] rfl (by kernel_rfl))) <|
   .v 94 (vI x60) <|
   .v 95 (.slice ((u10 2).o 0) (((u10 2).dl Sl.l gd_S_i64 0 t11).length) ((u10 2).n 0)) <|
   .v 96 (vI x60) <|
   .cons [97] (ok_val (fun u63 => .pointer (some ⟨hdB ((u10 2).o 0), hdO ((u10 2).o 0) + x60.toNat * 1, none⟩)) 97 (hv := fun _ _ => ix_pure (t := 30) (k := .i64) (i := x60) (p := ((u10 2).o 0)) (n := ((u10 2).dl Sl.l gd_S_i64 0 t11).length) (cap := ((u10 2).n 0)) (x := t11) P69 (map_len (dl_er ergd_S_i64 (u10 2) 0 t11)) b67 (by kernel_rfl))) <|
   .cons [98] (ok_valL [163] (fun u63 => [nsK 32 2 1 en_i64 ((u10 2).o 0) (((u10 2).dl Sl.l gd_S_i64 0 t11).length) ((u10 2).n 0) ((u10 2).dl Sl.l gd_S_i64 0 t11) ((u10 2).dl Sl.l gd_S_i64 0 t11)]) (fun u63 => .slice p_t68 t68.length c_t68) (fun u63 => true) [true] 98 (fun u63 w hg hF => ld_row (en := enSl) (ns_of hF.1).row.2 enSl_len y_t68 0 1 [.slice p_t68 t68.length c_t68] rfl (by kernel_rfl))) <|
   .v 99 (vI x60) <|
   .cons [100] (ok_val (fun u63 => .pointer (some ⟨hdB p_t68, hdO p_t68 + x60.toNat * 1, none⟩)) 100 (hv := fun _ _ => ix_pure (t := 32) (k := .i64) (i := x60) (p := p_t68) (n := t68.length) (cap := c_t68) (x := t68) P72 rfl b70 (by kernel_rfl))) <|
   .cons [101] (ok_valL [163] (fun u63 => [nsK 32 2 1 en_i64 ((u10 2).o 0) (((u10 2).dl Sl.l gd_S_i64 0 t11).length) ((u10 2).n 0) ((u10 2).dl Sl.l gd_S_i64 0 t11) ((u10 2).dl Sl.l gd_S_i64 0 t11)]) (fun u63 => vI t71) (fun u63 => true) [true] 101 (fun u63 w hg hF => ld_row (en := en_i64) ((ns_of hF.1).one y_t68).2 en_i64_len ht71 0 1 [vI t71] rfl (by kernel_rfl))) <|
   .cons [102] (ok_callv 33 (fun u63 => #[vI t71]) (vI t73) 102 [] (fun u63 w _ => armillarylaw04_abs.calls t71  t73 w  ht73)) <|
   .v 103 (vI (w_i64 (t73 + 4))) <|
   .cons [104] (ok_callv 42 (fun u63 => #[vI (w_i64 (t73 + 4))]) (.agg #[vI t74.Lo, vI t74.Hi]) 104 [] (fun u63 w _ => armillaryref02_Point.calls (w_i64 (t73 + 4))  t74 w  ht74)) <|
   .cons [105] (ok_val (fun u63 => .pointer (some ⟨hdB p_t65, hdO p_t65 + x60.toNat * 2, none⟩)) 105 (hv := fun _ _ => ix_pure (t := 22) (k := .i64) (i := x60) (p := p_t65) (n := t65.length) (cap := c_t65) (x := t65) P77 rfl b75 (by kernel_rfl))) <|
   .cons [900164, 900164] (ok_own1 [] [] (fun u63 => []) 900164 (fun u63 => nsK 22 37 2 en_TInterval p_x59 L_x59.length c_x59 L_x59 L_x59) none (fun u63 g => .nilFunc) (fun u63 g => nsK 22 37 2 en_TInterval p_x59 L_x59.length c_x59 (L_x59.set x60.toNat ⟨p_t65, c_t65, (t65.set x60.toNat t74)⟩) (L_x59.set x60.toNat ⟨p_t65, c_t65, (t65.set x60.toNat t74)⟩)) (fun u63 w hF hK => tn_el hK y_t65 (j := x60.toNat) (y := t74) (fun h => el_storeN h en_TInterval_len (vs := [vI t74.Lo, vI t74.Hi]) ht76 0 (by simp) (by simp) rfl (by kernel_rfl)))) <| .nil) fun u63 a w' H => ?_
      replace H := H.kp [7, 11, 14, 19, 20, 163, 900164, 999999]
      refine k_rg mixed H (.v 88 (vI x60) <|
   .v 89 (vI (w_i64 (x60 + 1))) <|
   .v 20 (vI (w_i64 (x60 + 1))) <| .nil) fun u78 a w' H => ?_
      replace H := H.kp [7, 11, 14, 19, 20, 163, 900164, 999999]
      exact ⟨k, Nat.lt_succ_self k, _, _, G, p_x59, c_x59, L_x59.length, (L_x59.set x60.toNat ⟨p_t65, c_t65, (t65.set x60.toNat t74)⟩), by simp, (map_set h_x59 x60.toNat (⟨p_t65, c_t65, (t65.set x60.toNat t74)⟩ : Sl TInterval)), H.toL _ (by kernel_rfl)⟩
     ·rw [if_neg (nt c79)] at G
      refine k_exit rfl ?_
      obtain rfl := Option.some.inj G
      replace H := H.move (K := nsK 22 37 2 en_TInterval p_x59 L_x59.length c_x59 L_x59 L_x59) 900164 900162 (by kernel_rfl) (by intro _ _ h; cases h)
      exact ⟨p_x59, c_x59, L_x59.length, L_x59, rfl, h_x59, H.toL _ (by kernel_rfl)⟩
 ·clear G; replace G := hj13; clear hj13
  refine k_seq ?_
  refine k_rg mixed H (.v 15 (vI 0) <| .nil) fun u81 a w' H => ?_
  replace H := H.kp [7, 8, 11, 12, 13, 14, 15, 160, 163, 999999]
  refine k_block ?_
  replace H := H.move (K := nsK 22 37 2 en_TInterval ((u4 1).o 0) (((u4 1).dl Sl.l gd_S_TInterval 0 t5.1).length) ((u4 1).n 0) ((u4 1).dl Sl.l gd_S_TInterval 0 t5.1) ((u4 1).dl Sl.l gd_S_TInterval 0 t5.1)) 160 900166 (by kernel_rfl) (by intro _ _ h; cases h)
  refine k_loopJ (fun m a w' => ∃ x82 : List (List TInterval), ∃ x83 : Int, armillarylaw04_MatrixInverseSingular.l84 k0 a0 a1 a2 t3 t5 t11 m x82 x83 = some j13 ∧ ∃ (p_x82 : Option Addr) (c_x82 np_x82 : Nat) (L_x82 : List (Sl TInterval)), np_x82 = L_x82.length ∧ x82 = L_x82.map Sl.l ∧ Rep w.heap.size w 154 (ofL [(7, sB t3), (8, sS p_x82 np_x82 c_x82), (11, (sI (t5.1.length : Int))), (12, (sI (Int.tmod (w_i64 a2.e0) (t5.1.length : Int)))), (13, (sI (Int.tmod (w_i64 a2.e1) (t5.1.length : Int)))), (14, (sS ((u10 2).o 0) (((u10 2).dl Sl.l gd_S_i64 0 t11).length) ((u10 2).n 0))), (15, sI x83), (163, nsK 32 2 1 en_i64 ((u10 2).o 0) (((u10 2).dl Sl.l gd_S_i64 0 t11).length) ((u10 2).n 0) ((u10 2).dl Sl.l gd_S_i64 0 t11) ((u10 2).dl Sl.l gd_S_i64 0 t11)), (900166, nsK 22 37 2 en_TInterval p_x82 np_x82 c_x82 L_x82 L_x82), (999999, gk)]) a w') k0 ⟨_, _, G, ((u4 1).o 0), ((u4 1).n 0), ((u4 1).dl Sl.l gd_S_TInterval 0 t5.1).length, ((u4 1).dl Sl.l gd_S_TInterval 0 t5.1), rfl, (dl_er ergd_S_TInterval (u4 1) 0 t5.1), H.toL _ (by kernel_rfl)⟩ ?_
  clear G H
  rintro (_ | k) a w' ⟨x82, x83, G, p_x82, c_x82, _, L_x82, rfl, h_x82, H⟩
  ·exact absurd G (by unfold armillarylaw04_MatrixInverseSingular.l84; exact fun h => by cases h)
  ·unfold armillarylaw04_MatrixInverseSingular.l84 at G
   refine k_seq ?_
   refine k_seq ?_
   refine k_rg mixed H (.v 46 (vI x83) <|
   .v 47 (vI (t5.1.length : Int)) <|
   .v 48 (.bool (decide (x83 < (t5.1.length : Int)))) <| .nil) fun u85 a w' H => ?_
   replace H := H.kp [7, 8, 11, 12, 13, 14, 15, 48, 163, 900166, 999999]
   refine k_cond H (by kernel_rfl) (t := decide (x83 < (t5.1.length : Int))) (by kernel_rfl) (fun c112 => ?_) (fun c112 => ?_)
   ·rw [if_pos c112] at G
    refine k_skip ?_
    refine k_seq ?_
    refine k_block ?_
    refine k_seq ?_
    refine k_rg mixed H (.v 16 (vI 0) <| .nil) fun u86 a w' H => ?_
    replace H := H.kp [7, 8, 11, 12, 13, 14, 15, 16, 163, 900166, 999999]
    refine k_seq ?_
    replace G := bnd G; obtain ⟨j88, hj88, G⟩ := G
    refine k_join (fun a w' => Rep w.heap.size w 154 (ofL [(7, sB t3), (8, sS p_x82 L_x82.length c_x82), (11, (sI (t5.1.length : Int))), (12, (sI (Int.tmod (w_i64 a2.e0) (t5.1.length : Int)))), (13, (sI (Int.tmod (w_i64 a2.e1) (t5.1.length : Int)))), (14, (sS ((u10 2).o 0) (((u10 2).dl Sl.l gd_S_i64 0 t11).length) ((u10 2).n 0))), (15, sI x83), (16, sI j88), (163, nsK 32 2 1 en_i64 ((u10 2).o 0) (((u10 2).dl Sl.l gd_S_i64 0 t11).length) ((u10 2).n 0) ((u10 2).dl Sl.l gd_S_i64 0 t11) ((u10 2).dl Sl.l gd_S_i64 0 t11)), (900166, nsK 22 37 2 en_TInterval p_x82 L_x82.length c_x82 L_x82 L_x82), (999999, gk)]) a w') ?_ ?_
    ·clear H; intro a w' H
     replace G := gd G; obtain ⟨b90, G⟩ := G
     replace G := bnd G; obtain ⟨t91, ht91, G⟩ := G
     obtain ⟨p_t91, c_t91, y_t91⟩ := sl_get h_x82 ht91
     have P92 := ptr_of (en := enSl) (l := L_x82) (ns_of (H.at (K := nsK 22 37 2 en_TInterval p_x82 L_x82.length c_x82 L_x82 L_x82) 900166 (by kernel_rfl))).row.2 enSl_len
     replace G := gd G; obtain ⟨b93, G⟩ := G
     replace G := bnd G; obtain ⟨t94, ht94, G⟩ := G
     obtain ⟨p_t94, c_t94, y_t94⟩ := sl_get h_x82 ht94
     replace G := gd G; obtain ⟨b95, G⟩ := G
     replace G := bnd G; obtain ⟨t96, ht96, G⟩ := G
     have P97 := ptr_of (en := en_TInterval) (l := t94) ((ns_of (H.at (K := nsK 22 37 2 en_TInterval p_x82 L_x82.length c_x82 L_x82 L_x82) 900166 (by kernel_rfl))).one y_t94).2 en_TInterval_len
     replace G := bnd G; obtain ⟨t98, ht98, G⟩ := G
     replace G := bnd G; obtain ⟨t99, ht99, G⟩ := G
     replace G := gd G; obtain ⟨b100, G⟩ := G
     replace G := bnd G; obtain ⟨t101, ht101, G⟩ := G
     have P102 := ptr_of (en := en_TInterval) (l := t91) ((ns_of (H.at (K := nsK 22 37 2 en_TInterval p_x82 L_x82.length c_x82 L_x82 L_x82) 900166 (by kernel_rfl))).one y_t91).2 en_TInterval_len
     refine k_rg mixed H (.v 61 (.slice p_x82 L_x82.length c_x82) <|
   .v 62 (vI (Int.tmod (w_i64 a2.e0) (t5.1.length : Int))) <|
   .cons [63] (ok_val (fun u89 => .pointer (some ⟨hdB p_x82, hdO p_x82 + ((Int.tmod (w_i64 a2.e0) (t5.1.length : Int)).toNat) * 1, none⟩)) 63 (hv := fun _ _ => ix_pure (t := 27) (k := .i64) (i := Int.tmod (w_i64 a2.e0) (t5.1.length : Int)) (p := p_x82) (n := L_x82.length) (cap := c_x82) (x := x82) P92 (map_len h_x82) b90 (by kernel_rfl))) <|
   .cons [64] (ok_valL [900166] (fun u89 => [nsK 22 37 2 en_TInterval p_x82 L_x82.length c_x82 L_x82 L_x82]) (fun u89 => .slice p_t91 t91.length c_t91) (fun u89 => true) [true] 64 (fun u89 w hg hF => ld_row (en := enSl) (ns_of hF.1).row.2 enSl_len y_t91 0 1 [.slice p_t91 t91.length c_t91] rfl (by kernel_rfl))) <|
   .v 65 (vI x83) <|
   .v 66 (.slice p_x82 L_x82.length c_x82) <|
   .v 67 (vI (Int.tmod (w_i64 a2.e0) (t5.1.length : Int))) <|
   .cons [68] (ok_val (fun u89 => .pointer (some ⟨hdB p_x82, hdO p_x82 + ((Int.tmod (w_i64 a2.e0) (t5.1.length : Int)).toNat) * 1, none⟩)) 68 (hv := fun _ _ => ix_pure (t := 27) (k := .i64) (i := Int.tmod (w_i64 a2.e0) (t5.1.length : Int)) (p := p_x82) (n := L_x82.length) (cap := c_x82) (x := x82) P92 (map_len h_x82) b93 (by kernel_rfl))) <|
   .cons [69] (ok_valL [900166] (fun u89 => [nsK 22 37 2 en_TInterval p_x82 L_x82.length c_x82 L_x82 L_x82]) (fun u89 => .slice p_t94 t94.length c_t94) (fun u89 => true) [true] 69 (fun u89 w hg hF => ld_row (en := enSl) (ns_of hF.1).row.2 enSl_len y_t94 0 1 [.slice p_t94 t94.length c_t94] rfl (by kernel_rfl))) <|
   .v 70 (vI x83) <|
   .cons [71] (ok_val (fun u89 => .pointer (some ⟨hdB p_t94, hdO p_t94 + x83.toNat * 2, none⟩)) 71 (hv := fun _ _ => ix_pure (t := 22) (k := .i64) (i := x83) (p := p_t94) (n := t94.length) (cap := c_t94) (x := t94) P97 rfl b95 (by kernel_rfl))) <|
   .cons [72] (ok_valL [900166] (fun u89 => [nsK 22 37 2 en_TInterval p_x82 L_x82.length c_x82 L_x82 L_x82]) (fun u89 => .agg #[vI t96.Lo, vI t96.Hi]) (fun u89 => true) [true] 72 (fun u89 w hg hF => ld_row (en := en_TInterval) ((ns_of hF.1).one y_t94).2 en_TInterval_len ht96 0 2 [vI t96.Lo, vI t96.Hi] rfl (by kernel_rfl))) <|
   .v 73 (vI j88) <|
   .cons [74] (ok_callv 42 (fun u89 => #[vI j88]) (.agg #[vI t98.Lo, vI t98.Hi]) 74 [] (fun u89 w _ => armillaryref02_Point.calls j88  t98 w  ht98)) <|
   .cons [75] (ok_callv 41 (fun u89 => #[.agg #[vI t96.Lo, vI t96.Hi], .agg #[vI t98.Lo, vI t98.Hi]]) (.agg #[vI t99.Lo, vI t99.Hi]) 75 [] (fun u89 w _ => armillaryref02_Hull.calls t96 t98  t99 w  ht99)) <|
   .cons [76] (ok_val (fun u89 => .pointer (some ⟨hdB p_t91, hdO p_t91 + x83.toNat * 2, none⟩)) 76 (hv := fun _ _ => ix_pure (t := 22) (k := .i64) (i := x83) (p := p_t91) (n := t91.length) (cap := c_t91) (x := t91) P102 rfl b100 (by kernel_rfl))) <|
   .cons [900166, 900166] (ok_own1 [] [] (fun u89 => []) 900166 (fun u89 => nsK 22 37 2 en_TInterval p_x82 L_x82.length c_x82 L_x82 L_x82) none (fun u89 g => .nilFunc) (fun u89 g => nsK 22 37 2 en_TInterval p_x82 L_x82.length c_x82 (L_x82.set ((Int.tmod (w_i64 a2.e0) (t5.1.length : Int)).toNat) ⟨p_t91, c_t91, (t91.set x83.toNat t99)⟩) (L_x82.set ((Int.tmod (w_i64 a2.e0) (t5.1.length : Int)).toNat) ⟨p_t91, c_t91, (t91.set x83.toNat t99)⟩)) (fun u89 w hF hK => tn_el hK y_t91 (j := x83.toNat) (y := t99) (fun h => el_storeN h en_TInterval_len (vs := [vI t99.Lo, vI t99.Hi]) ht101 0 (by simp) (by simp) rfl (by kernel_rfl)))) <| .nil) fun u89 a w' H => ?_
     replace H := H.kp [7, 8, 11, 12, 13, 14, 15, 163, 900166, 999999]
     refine k_rg mixed H (.v 49 (vI x83) <|
   .v 50 (vI (w_i64 (x83 + 1))) <|
   .v 15 (vI (w_i64 (x83 + 1))) <| .nil) fun u103 a w' H => ?_
     replace H := H.kp [7, 8, 11, 12, 13, 14, 15, 163, 900166, 999999]
     exact ⟨k, Nat.lt_succ_self k, _, _, G, p_x82, c_x82, L_x82.length, (L_x82.set ((Int.tmod (w_i64 a2.e0) (t5.1.length : Int)).toNat) ⟨p_t91, c_t91, (t91.set x83.toNat t99)⟩), by simp, (map_set h_x82 ((Int.tmod (w_i64 a2.e0) (t5.1.length : Int)).toNat) (⟨p_t91, c_t91, (t91.set x83.toNat t99)⟩ : Sl TInterval)), H.toL _ (by kernel_rfl)⟩
    ·clear G; replace G := hj88; clear hj88
     refine k_seq ?_
     replace G := bnd G; obtain ⟨z105, hz105, G⟩ := G
     replace hz105 := Option.some.inj hz105
     refine k_rg mixed H (.v 51 (vI (Int.tmod (w_i64 a2.e0) (t5.1.length : Int))) <|
   .v 52 (vI (Int.tmod (w_i64 a2.e1) (t5.1.length : Int))) <|
   .cons [53] (ok_as (u' := fun u104 => [(53, sB z105)]) (ok_val (fun u104 => .bool ((Int.tmod (w_i64 a2.e0) (t5.1.length : Int)) != (Int.tmod (w_i64 a2.e1) (t5.1.length : Int)))) 53) (fun _ => by rw [← hz105])) <| .nil) fun u104 a w' H => ?_
     replace H := H.kp [7, 8, 11, 12, 13, 14, 15, 16, 53, 163, 900166, 999999]
     refine k_cond H (by kernel_rfl) (t := z105) (by kernel_rfl) (fun c111 => ?_) (fun c111 => ?_)
     ·rw [if_pos c111] at G
      replace G := gd G; obtain ⟨b107, G⟩ := G
      replace G := bnd G; obtain ⟨t108, ht108, G⟩ := G
      obtain ⟨p_t108, c_t108, y_t108⟩ := sl_get (dl_er ergd_S_i64 (u10 2) 0 t11) ht108
      replace G := gd G; obtain ⟨b109, G⟩ := G
      replace G := bnd G; obtain ⟨t110, ht110, G⟩ := G
      refine k_rg mixed H (.v 54 (.slice ((u10 2).o 0) (((u10 2).dl Sl.l gd_S_i64 0 t11).length) ((u10 2).n 0)) <|
   .v 55 (vI (Int.tmod (w_i64 a2.e1) (t5.1.length : Int))) <|
   .cons [56] (ok_valL [163] (fun u106 => [nsK 32 2 1 en_i64 ((u10 2).o 0) (((u10 2).dl Sl.l gd_S_i64 0 t11).length) ((u10 2).n 0) ((u10 2).dl Sl.l gd_S_i64 0 t11) ((u10 2).dl Sl.l gd_S_i64 0 t11)]) (fun u106 => .pointer (some ⟨hdB ((u10 2).o 0), hdO ((u10 2).o 0) + ((Int.tmod (w_i64 a2.e1) (t5.1.length : Int)).toNat) * 1, none⟩)) (fun u106 => true) [true, true] 56 (fun u106 w hg hF => ix_row (t := 30) (k := .i64) (i := Int.tmod (w_i64 a2.e1) (t5.1.length : Int)) (p := ((u10 2).o 0)) (n := ((u10 2).dl Sl.l gd_S_i64 0 t11).length) (cap := ((u10 2).n 0)) (x := t11) (en := enSl) (ns_of hF.1).row.2 enSl_len (map_len (dl_er ergd_S_i64 (u10 2) 0 t11)) b107 (by kernel_rfl))) <|
   .cons [57] (ok_valL [163] (fun u106 => [nsK 32 2 1 en_i64 ((u10 2).o 0) (((u10 2).dl Sl.l gd_S_i64 0 t11).length) ((u10 2).n 0) ((u10 2).dl Sl.l gd_S_i64 0 t11) ((u10 2).dl Sl.l gd_S_i64 0 t11)]) (fun u106 => .slice p_t108 t108.length c_t108) (fun u106 => true) [true] 57 (fun u106 w hg hF => ld_row (en := enSl) (ns_of hF.1).row.2 enSl_len y_t108 0 1 [.slice p_t108 t108.length c_t108] rfl (by kernel_rfl))) <|
   .v 58 (vI x83) <|
   .cons [59] (ok_valL [163] (fun u106 => [nsK 32 2 1 en_i64 ((u10 2).o 0) (((u10 2).dl Sl.l gd_S_i64 0 t11).length) ((u10 2).n 0) ((u10 2).dl Sl.l gd_S_i64 0 t11) ((u10 2).dl Sl.l gd_S_i64 0 t11)]) (fun u106 => .pointer (some ⟨hdB p_t108, hdO p_t108 + x83.toNat * 1, none⟩)) (fun u106 => true) [true, true] 59 (fun u106 w hg hF => ix_row (t := 32) (k := .i64) (i := x83) (p := p_t108) (n := t108.length) (cap := c_t108) (x := t108) (en := en_i64) ((ns_of hF.1).one y_t108).2 en_i64_len rfl b109 (by kernel_rfl))) <|
   .cons [60] (ok_valL [163] (fun u106 => [nsK 32 2 1 en_i64 ((u10 2).o 0) (((u10 2).dl Sl.l gd_S_i64 0 t11).length) ((u10 2).n 0) ((u10 2).dl Sl.l gd_S_i64 0 t11) ((u10 2).dl Sl.l gd_S_i64 0 t11)]) (fun u106 => vI t110) (fun u106 => true) [true] 60 (fun u106 w hg hF => ld_row (en := en_i64) ((ns_of hF.1).one y_t108).2 en_i64_len ht110 0 1 [vI t110] rfl (by kernel_rfl))) <|
   .v 16 (vI t110) <| .nil) fun u106 a w' H => ?_
      replace H := H.kp [7, 8, 11, 12, 13, 14, 15, 16, 163, 900166, 999999]
      obtain rfl := Option.some.inj G
      exact H.toL _ (by kernel_rfl)
     ·rw [if_neg (nt c111)] at G
      refine k_skip ?_
      obtain rfl := Option.some.inj G
      exact H.toL _ (by kernel_rfl)
   ·rw [if_neg (nt c112)] at G
    refine k_exit rfl ?_
    obtain rfl := Option.some.inj G
    replace H := H.move (K := nsK 22 37 2 en_TInterval p_x82 L_x82.length c_x82 L_x82 L_x82) 900166 900160 (by kernel_rfl) (by intro _ _ h; cases h)
    exact ⟨p_x82, c_x82, L_x82.length, L_x82, rfl, h_x82, H.toL _ (by kernel_rfl)⟩
end Go.Proofs.YtglcmhldonkfdaaDoor
