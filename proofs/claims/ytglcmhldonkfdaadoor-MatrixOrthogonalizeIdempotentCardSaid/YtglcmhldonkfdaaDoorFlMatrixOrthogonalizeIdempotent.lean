/- The law MatrixOrthogonalizeIdempotent answers as the plain Lean function of its name. Printed by a program of this session. -/
import Derived.Test.YtglcmhldonkfdaaDoorFxMatrixOrthogonalizeIdempotent
set_option linter.unusedVariables false
set_option linter.unusedSimpArgs false
set_option maxRecDepth 100000
namespace Go.Proofs.YtglcmhldonkfdaaDoor
open Go Go.RowKit Go.Sx Go.Proofs
set_option maxHeartbeats 4000000 in
theorem armillarylaw04_MatrixOrthogonalizeIdempotent.calls (k0 : Nat) (a0 : List Int) (a1 : Int) (p_a0 : Option Addr) (c_a0 : Nat) (r : Bool) (w : World) (hB : AllH [rdl anyF 1 p_a0 c_a0 a0 en_i64, gk] w) (G : armillarylaw04_MatrixOrthogonalizeIdempotent k0 a0 a1 = some r) :
  Calls Tryd.prog 8 #[.slice p_a0 a0.length c_a0, .int .u8 a1] w fun e w' => e = .returned (.bool r) ∧ Below w.heap.size w w' := by
 obtain ⟨fr, hfr⟩ : ∃ fr : Nat → Prop, ∀ j, fr j := ⟨fun _ => True, fun _ => trivial⟩
 have hBf : ∀ j, w.heap.size ≤ j → fr j := fun j _ => hfr j
 refine k_enterF (args := [.slice p_a0 a0.length c_a0, .int .u8 a1]) 92 [(92, rdl anyF 1 p_a0 c_a0 a0 en_i64), (999999, gk)] (by
  intro x hx
  simp only [List.mem_cons, List.not_mem_nil, or_false] at hx
  rcases hx with rfl | rfl
  ·exact rdF_fact (rdF_of hB.1) (fun _ _ => trivial) (by decide) _
  ·exact ⟨⟨_, _, rfl⟩, hB.2.1, glob_in (glob_of hB.2.1)⟩) Tryd.func8 rfl (by kernel_rfl) (by kernel_rfl) fun a H => ?_
 unfold armillarylaw04_MatrixOrthogonalizeIdempotent at G
 refine k_seq ?_
 refine k_rg mixed H (.v 4 (.bool false) <| .nil) fun u1 a w' H => ?_
 replace H := H.kp [0, 1, 92, 999999]
 refine k_seq ?_
 replace G := bnd G; obtain ⟨t3, ht3, G⟩ := G
 refine k_rg mixed H (.cons [15] (ok_callL [999999] (fun u2 => [gk]) 11 (fun u2 => #[]) (.bool t3) 15 (fun u2 w hF => armillarylaw04_sanity.calls k0  t3 w  (glob_of hF.1) ht3)) <|
   .v 5 (.bool t3) <| .nil) fun u2 a w' H => ?_
 replace H := H.kp [0, 1, 5, 92, 999999]
 refine k_seq ?_
 replace G := bnd G; obtain ⟨t5, ht5, G⟩ := G
 refine k_rg mixed H (.v 16 (.int .u8 a1) <|
   .cons [17] (ok_callv 29 (fun u4 => #[.int .u8 a1]) (vI t5) 17 [] (fun u4 w _ => armillaryref04_Dim.calls a1  t5 w  ht5)) <|
   .v 6 (vI t5) <| .nil) fun u4 a w' H => ?_
 replace H := H.kp [0, 5, 6, 92, 999999]
 refine k_seq ?_
 replace G := bnd G; obtain ⟨t7, ht7, G⟩ := G
 refine k_rg mixed H (.v 18 (.slice p_a0 a0.length c_a0) <|
   .v 19 (vI t5) <|
   .cons [20, 93] (ok_callY false fr [] [92] (fun u6 => [rdl anyF 1 p_a0 c_a0 a0 en_i64]) [] (fun u6 => []) 31 (fun u6 => #[.slice p_a0 a0.length c_a0, vI t5]) (fun u6 => [rdl anyF 1 p_a0 c_a0 a0 en_i64]) (fun u6 => []) (fun u6 g => .slice (g.o 0) ((g.dl Sl.l gd_S_i64 0 t7).length) (g.n 0)) (fun u6 g => [fun _ => nsK 32 2 1 en_i64 (g.o 0) ((g.dl Sl.l gd_S_i64 0 t7).length) (g.n 0) (g.dl Sl.l gd_S_i64 0 t7) (g.dl Sl.l gd_S_i64 0 t7)]) [93] 20 (fun u6 w hB hF hM => armillaryref04_Numbers.calls k0 a0 t5 p_a0 c_a0 t7 w  hB ht7) (fun u6 w hF => ⟨⟨sub_rd0 (rdF_of hF.1) (fun j h => ⟨_, (.head _), h⟩), trivial⟩, trivial⟩) (fun u6 g => (fams_cons fam_ns fams_nil)) (.inr (fun u6 g => (famx_cons trivial (fun K h => by cases h)))) (fun h => by cases h)) <|
   .cons [7] (ok_val (fun u6 => .slice ((u6 2).o 0) (((u6 2).dl Sl.l gd_S_i64 0 t7).length) ((u6 2).n 0)) 7) <| .nil) fun u6 a w' H => ?_
 replace H := H.kp [5, 6, 7, 93, 999999]
 refine k_seq ?_
 replace G := bnd G; obtain ⟨t9, ht9, G⟩ := G
 refine k_rg mixed H (.v 21 (.slice ((u6 2).o 0) (((u6 2).dl Sl.l gd_S_i64 0 t7).length) ((u6 2).n 0)) <|
   .cons [22, 94] (ok_callY false fr [] [93] (fun u8 => [nsK 32 2 1 en_i64 ((u6 2).o 0) (((u6 2).dl Sl.l gd_S_i64 0 t7).length) ((u6 2).n 0) ((u6 2).dl Sl.l gd_S_i64 0 t7) ((u6 2).dl Sl.l gd_S_i64 0 t7)]) [] (fun u8 => []) 30 (fun u8 => #[.slice ((u6 2).o 0) (((u6 2).dl Sl.l gd_S_i64 0 t7).length) ((u6 2).n 0)]) (fun u8 => [rdF anyF 1 ((u6 2).o 0) (((u6 2).dl Sl.l gd_S_i64 0 t7).length) ((u6 2).n 0) (((u6 2).dl Sl.l gd_S_i64 0 t7).flatMap enSl), dnK anyF E_S_i64.toPart ((u6 2).dl Sl.l gd_S_i64 0 t7)]) (fun u8 => []) (fun u8 g => .slice (g.o 0) ((g.dl Sl.l gd_S_i64 0 t9).length) (g.n 0)) (fun u8 g => [fun _ => nsK 32 2 1 en_i64 (g.o 0) ((g.dl Sl.l gd_S_i64 0 t9).length) (g.n 0) (g.dl Sl.l gd_S_i64 0 t9) (g.dl Sl.l gd_S_i64 0 t9)]) [94] 22 (fun u8 w hB hF hM => matrix_Orthogonalize.calls k0 t7 ((u6 2).o 0) ((u6 2).n 0) ((u6 2).dl Sl.l gd_S_i64 0 t7) t9 w (dl_er ergd_S_i64 (u6 2) 0 t7) hB ht9) (fun u8 w hF => ⟨⟨sub_rd0 (ns_of hF.1).row (fun j h => ⟨_, (.head _), (ns_fpH h)⟩), sub_dn0 (ns_of hF.1).all (fun j h => ⟨_, (.head _), (ns_fpA h)⟩), trivial⟩, trivial⟩) (fun u8 g => (fams_cons fam_ns fams_nil)) (.inr (fun u8 g => (famx_cons trivial (fun K h => by cases h)))) (fun h => by cases h)) <|
   .cons [8] (ok_val (fun u8 => .slice ((u8 1).o 0) (((u8 1).dl Sl.l gd_S_i64 0 t9).length) ((u8 1).n 0)) 8) <| .nil) fun u8 a w' H => ?_
 replace H := H.kp [5, 6, 7, 8, 93, 94, 999999]
 refine k_seq ?_
 refine k_seq ?_
 replace G := bnd G; obtain ⟨t11, ht11, G⟩ := G
 refine k_rg mixed H (.v 23 (.slice ((u8 1).o 0) (((u8 1).dl Sl.l gd_S_i64 0 t9).length) ((u8 1).n 0)) <|
   .v 24 (vI t5) <|
   .cons [25] (ok_callL [94] (fun u10 => [nsK 32 2 1 en_i64 ((u8 1).o 0) (((u8 1).dl Sl.l gd_S_i64 0 t9).length) ((u8 1).n 0) ((u8 1).dl Sl.l gd_S_i64 0 t9) ((u8 1).dl Sl.l gd_S_i64 0 t9)]) 32 (fun u10 => #[.slice ((u8 1).o 0) (((u8 1).dl Sl.l gd_S_i64 0 t9).length) ((u8 1).n 0), vI t5]) (.bool t11) 25 (fun u10 w hF => armillarylaw04_bounded.calls k0 t9 t5 ((u8 1).o 0) ((u8 1).n 0) ((u8 1).dl Sl.l gd_S_i64 0 t9) t11 w (dl_er ergd_S_i64 (u8 1) 0 t9) ⟨(rdA (ns_of hF.1).row), (dnA (ns_of hF.1).all), trivial⟩ ht11)) <|
   .v 26 (.bool (!t11)) <| .nil) fun u10 a w' H => ?_
 replace H := H.kp [5, 6, 7, 8, 26, 93, 94, 999999]
 refine k_cond H (by kernel_rfl) (t := (!t11)) (by kernel_rfl) (fun c74 => ?_) (fun c74 => ?_)
 ·rw [if_pos c74] at G
  refine k_seq ?_
  refine k_rg mixed H (.v 4 (.bool false) <| .nil) fun u12 a w' H => ?_
  replace H := H.kp [4, 999999]
  refine k_ret ?_
  obtain rfl := Option.some.inj G
  exact k_done0 H _ (by kernel_rfl) (by kernel_rfl)
 ·rw [if_neg (nt c74)] at G
  refine k_skip ?_
  refine k_seq ?_
  replace G := bnd G; obtain ⟨t14, ht14, G⟩ := G
  refine k_rg mixed H (.v 27 (.slice ((u8 1).o 0) (((u8 1).dl Sl.l gd_S_i64 0 t9).length) ((u8 1).n 0)) <|
   .cons [28, 95] (ok_callY false fr [] [94] (fun u13 => [nsK 32 2 1 en_i64 ((u8 1).o 0) (((u8 1).dl Sl.l gd_S_i64 0 t9).length) ((u8 1).n 0) ((u8 1).dl Sl.l gd_S_i64 0 t9) ((u8 1).dl Sl.l gd_S_i64 0 t9)]) [] (fun u13 => []) 30 (fun u13 => #[.slice ((u8 1).o 0) (((u8 1).dl Sl.l gd_S_i64 0 t9).length) ((u8 1).n 0)]) (fun u13 => [rdF anyF 1 ((u8 1).o 0) (((u8 1).dl Sl.l gd_S_i64 0 t9).length) ((u8 1).n 0) (((u8 1).dl Sl.l gd_S_i64 0 t9).flatMap enSl), dnK anyF E_S_i64.toPart ((u8 1).dl Sl.l gd_S_i64 0 t9)]) (fun u13 => []) (fun u13 g => .slice (g.o 0) ((g.dl Sl.l gd_S_i64 0 t14).length) (g.n 0)) (fun u13 g => [fun _ => nsK 32 2 1 en_i64 (g.o 0) ((g.dl Sl.l gd_S_i64 0 t14).length) (g.n 0) (g.dl Sl.l gd_S_i64 0 t14) (g.dl Sl.l gd_S_i64 0 t14)]) [95] 28 (fun u13 w hB hF hM => matrix_Orthogonalize.calls k0 t9 ((u8 1).o 0) ((u8 1).n 0) ((u8 1).dl Sl.l gd_S_i64 0 t9) t14 w (dl_er ergd_S_i64 (u8 1) 0 t9) hB ht14) (fun u13 w hF => ⟨⟨sub_rd0 (ns_of hF.1).row (fun j h => ⟨_, (.head _), (ns_fpH h)⟩), sub_dn0 (ns_of hF.1).all (fun j h => ⟨_, (.head _), (ns_fpA h)⟩), trivial⟩, trivial⟩) (fun u13 g => (fams_cons fam_ns fams_nil)) (.inr (fun u13 g => (famx_cons trivial (fun K h => by cases h)))) (fun h => by cases h)) <|
   .cons [9] (ok_val (fun u13 => .slice ((u13 1).o 0) (((u13 1).dl Sl.l gd_S_i64 0 t14).length) ((u13 1).n 0)) 9) <| .nil) fun u13 a w' H => ?_
  replace H := H.kp [5, 6, 7, 8, 9, 93, 94, 95, 999999]
  refine k_seq ?_
  refine k_seq ?_
  replace G := bnd G; obtain ⟨t16, ht16, G⟩ := G
  refine k_rg mixed H (.v 29 (.slice ((u13 1).o 0) (((u13 1).dl Sl.l gd_S_i64 0 t14).length) ((u13 1).n 0)) <|
   .v 30 (vI t5) <|
   .cons [31] (ok_callL [95] (fun u15 => [nsK 32 2 1 en_i64 ((u13 1).o 0) (((u13 1).dl Sl.l gd_S_i64 0 t14).length) ((u13 1).n 0) ((u13 1).dl Sl.l gd_S_i64 0 t14) ((u13 1).dl Sl.l gd_S_i64 0 t14)]) 32 (fun u15 => #[.slice ((u13 1).o 0) (((u13 1).dl Sl.l gd_S_i64 0 t14).length) ((u13 1).n 0), vI t5]) (.bool t16) 31 (fun u15 w hF => armillarylaw04_bounded.calls k0 t14 t5 ((u13 1).o 0) ((u13 1).n 0) ((u13 1).dl Sl.l gd_S_i64 0 t14) t16 w (dl_er ergd_S_i64 (u13 1) 0 t14) ⟨(rdA (ns_of hF.1).row), (dnA (ns_of hF.1).all), trivial⟩ ht16)) <|
   .v 32 (.bool (!t16)) <| .nil) fun u15 a w' H => ?_
  replace H := H.toM [(5, sB t3), (6, sI t5), (7, (sS ((u6 2).o 0) (((u6 2).dl Sl.l gd_S_i64 0 t7).length) ((u6 2).n 0))), (8, (sS ((u8 1).o 0) (((u8 1).dl Sl.l gd_S_i64 0 t9).length) ((u8 1).n 0))), (9, (sS ((u13 1).o 0) (((u13 1).dl Sl.l gd_S_i64 0 t14).length) ((u13 1).n 0))), (32, (sB (!t16))), (93, nsK 32 2 1 en_i64 ((u6 2).o 0) (((u6 2).dl Sl.l gd_S_i64 0 t7).length) ((u6 2).n 0) ((u6 2).dl Sl.l gd_S_i64 0 t7) ((u6 2).dl Sl.l gd_S_i64 0 t7)), (94, nsK 32 2 1 en_i64 ((u8 1).o 0) (((u8 1).dl Sl.l gd_S_i64 0 t9).length) ((u8 1).n 0) ((u8 1).dl Sl.l gd_S_i64 0 t9) ((u8 1).dl Sl.l gd_S_i64 0 t9)), (95, nsK 32 2 1 en_i64 ((u13 1).o 0) (((u13 1).dl Sl.l gd_S_i64 0 t14).length) ((u13 1).n 0) ((u13 1).dl Sl.l gd_S_i64 0 t14) ((u13 1).dl Sl.l gd_S_i64 0 t14)), (999999, gk)]
  refine k_cond H (by kernel_rfl) (t := (!t16)) (by kernel_rfl) (fun c73 => ?_) (fun c73 => ?_)
  ·rw [if_pos c73] at G
   refine k_seq ?_
   refine k_rg mixed H (.v 4 (.bool false) <| .nil) fun u17 a w' H => ?_
   replace H := H.kp [4, 999999]
   refine k_ret ?_
   obtain rfl := Option.some.inj G
   exact k_done0 H _ (by kernel_rfl) (by kernel_rfl)
  ·rw [if_neg (nt c73)] at G
   refine k_skip ?_
   refine k_seq ?_
   replace G := bnd G; obtain ⟨j18, hj18, Gj18⟩ := G
   refine k_join (fun a w' => ∃ j18v, j18 = Sum.inr j18v ∧ Rep w.heap.size w 92 (ofL [(5, sB t3), (6, sI t5), (7, (sS ((u6 2).o 0) (((u6 2).dl Sl.l gd_S_i64 0 t7).length) ((u6 2).n 0))), (8, (sS ((u8 1).o 0) (((u8 1).dl Sl.l gd_S_i64 0 t9).length) ((u8 1).n 0))), (93, nsK 32 2 1 en_i64 ((u6 2).o 0) (((u6 2).dl Sl.l gd_S_i64 0 t7).length) ((u6 2).n 0) ((u6 2).dl Sl.l gd_S_i64 0 t7) ((u6 2).dl Sl.l gd_S_i64 0 t7)), (94, nsK 32 2 1 en_i64 ((u8 1).o 0) (((u8 1).dl Sl.l gd_S_i64 0 t9).length) ((u8 1).n 0) ((u8 1).dl Sl.l gd_S_i64 0 t9) ((u8 1).dl Sl.l gd_S_i64 0 t9)), (999999, gk)]) a w') ?_ ?_
   ·clear H; rintro a w' ⟨j18v, rfl, H⟩; have G := Gj18; clear Gj18; dsimp only at G
    refine k_seq ?_
    replace G := bnd G; obtain ⟨t20, ht20, G⟩ := G
    refine k_rg mixed H (.v 60 (.slice ((u6 2).o 0) (((u6 2).dl Sl.l gd_S_i64 0 t7).length) ((u6 2).n 0)) <|
   .cons [61, 96] (ok_callY false fr [] [93] (fun u19 => [nsK 32 2 1 en_i64 ((u6 2).o 0) (((u6 2).dl Sl.l gd_S_i64 0 t7).length) ((u6 2).n 0) ((u6 2).dl Sl.l gd_S_i64 0 t7) ((u6 2).dl Sl.l gd_S_i64 0 t7)]) [] (fun u19 => []) 21 (fun u19 => #[.slice ((u6 2).o 0) (((u6 2).dl Sl.l gd_S_i64 0 t7).length) ((u6 2).n 0), vI 0]) (fun u19 => [rdF anyF 1 ((u6 2).o 0) (((u6 2).dl Sl.l gd_S_i64 0 t7).length) ((u6 2).n 0) (((u6 2).dl Sl.l gd_S_i64 0 t7).flatMap enSl), dnK anyF E_S_i64.toPart ((u6 2).dl Sl.l gd_S_i64 0 t7)]) (fun u19 => []) (fun u19 g => .slice (g.o 0) t20.length (g.n 0)) (fun u19 g => [fun _ => owK 2 1 (g.o 0) t20.length (g.n 0) (t20.flatMap en_i64)]) [96] 61 (fun u19 w hB hF hM => armillaryref04_Column.calls k0 t7 0 ((u6 2).o 0) ((u6 2).n 0) ((u6 2).dl Sl.l gd_S_i64 0 t7) t20 w (dl_er ergd_S_i64 (u6 2) 0 t7) hB ht20) (fun u19 w hF => ⟨⟨sub_rd0 (ns_of hF.1).row (fun j h => ⟨_, (.head _), (ns_fpH h)⟩), sub_dn0 (ns_of hF.1).all (fun j h => ⟨_, (.head _), (ns_fpA h)⟩), trivial⟩, trivial⟩) (fun u19 g => (fams_cons fam_ow fams_nil)) (.inr (fun u19 g => (famx_cons trivial (fun K h => by cases h)))) (fun h => by cases h)) <|
   .cons [12] (ok_val (fun u19 => .slice ((u19 1).o 0) t20.length ((u19 1).n 0)) 12) <| .nil) fun u19 a w' H => ?_
    replace H := H.kp [5, 6, 8, 12, 94, 96, 999999]
    refine k_seq ?_
    replace G := bnd G; obtain ⟨t22, ht22, G⟩ := G
    refine k_rg mixed H (.v 62 (.slice ((u19 1).o 0) t20.length ((u19 1).n 0)) <|
   .cons [63] (ok_callL [96] (fun u21 => [owK 2 1 ((u19 1).o 0) t20.length ((u19 1).n 0) (t20.flatMap en_i64)]) 34 (fun u21 => #[.slice ((u19 1).o 0) t20.length ((u19 1).n 0)]) (vI t22) 63 (fun u21 w hF => armillaryref04_Length.calls k0 t20 ((u19 1).o 0) ((u19 1).n 0) t22 w  ⟨(rdA (owns_rowC (ow_of hF.1))), trivial⟩ ht22)) <|
   .v 13 (vI t22) <| .nil) fun u21 a w' H => ?_
    replace H := H.kp [5, 6, 8, 12, 13, 94, 96, 999999]
    refine k_seq ?_
    replace G := bnd G; obtain ⟨j23, hj23, Gj23⟩ := G
    refine k_join (fun a w' => ∃ j23v, j23 = Sum.inr j23v ∧ Rep w.heap.size w 92 (ofL [(5, sB t3), (999999, gk)]) a w') ?_ ?_
    ·clear H; rintro a w' ⟨j23v, rfl, H⟩; have G := Gj23; clear Gj23; dsimp only at G
     refine k_seq ?_
     refine k_rg mixed H (.v 91 (.bool t3) <|
   .v 4 (.bool t3) <| .nil) fun u24 a w' H => ?_
     replace H := H.kp [4, 999999]
     refine k_ret ?_
     obtain rfl := Option.some.inj G
     exact k_done0 H _ (by kernel_rfl) (by kernel_rfl)
    ·have G := hj23; clear hj23
     refine k_seq ?_
     refine k_rg mixed H (.v 14 (vI 0) <| .nil) fun u25 a w' H => ?_
     replace H := H.kp [5, 6, 8, 12, 13, 14, 94, 96, 999999]
     refine k_block ?_
     refine k_loopJ (fun m a w' => ∃ x26 : Int, armillarylaw04_MatrixOrthogonalizeIdempotent.l27 k0 a0 a1 t3 t5 t7 t9 t11 t14 t16 j18v t20 t22 m x26 = some j23 ∧ Rep w.heap.size w 92 (ofL [(5, sB t3), (6, sI t5), (8, (sS ((u8 1).o 0) (((u8 1).dl Sl.l gd_S_i64 0 t9).length) ((u8 1).n 0))), (12, (sS ((u19 1).o 0) t20.length ((u19 1).n 0))), (13, sI t22), (14, sI x26), (94, nsK 32 2 1 en_i64 ((u8 1).o 0) (((u8 1).dl Sl.l gd_S_i64 0 t9).length) ((u8 1).n 0) ((u8 1).dl Sl.l gd_S_i64 0 t9) ((u8 1).dl Sl.l gd_S_i64 0 t9)), (96, owK 2 1 ((u19 1).o 0) t20.length ((u19 1).n 0) (t20.flatMap en_i64)), (999999, gk)]) a w') k0 ⟨_, G, H.toL _ (by kernel_rfl)⟩ ?_
     clear G H
     rintro (_ | k) a w' ⟨x26, G, H⟩
     ·exact absurd G (by unfold armillarylaw04_MatrixOrthogonalizeIdempotent.l27; exact fun h => by cases h)
     ·unfold armillarylaw04_MatrixOrthogonalizeIdempotent.l27 at G
      refine k_seq ?_
      refine k_seq ?_
      refine k_rg mixed H (.v 64 (vI x26) <|
   .v 65 (vI t5) <|
   .v 66 (.bool (decide (x26 < t5))) <|
   .v 67 (.bool (decide (x26 < t5))) <|
   .cons [68] (ok_valg (fun u28 => vI t22) (fun u28 => ((decide (x26 < t5)) == true)) [true] 68) <|
   .cons [69] (ok_valg (fun u28 => .bool (decide (t22 ≥ 4096))) (fun u28 => ((decide (x26 < t5)) == true)) [false, true] 69) <|
   .cons [70] (ok_and 67 69 (fun u28 => true) (fun u28 => true) (fun u28 => decide (x26 < t5)) (fun u28 => decide (t22 ≥ 4096)) 70) <| .nil) fun u28 a w' H => ?_
      replace H := H.kp [5, 6, 8, 12, 13, 14, 68, 69, 70, 94, 96, 999999]
      refine k_cond H (by kernel_rfl) (t := ((decide (x26 < t5)) && (decide (t22 ≥ 4096)))) (by kernel_rfl) (fun c43 => ?_) (fun c43 => ?_)
      ·rw [if_pos c43] at G
       refine k_skip ?_
       refine k_seq ?_
       refine k_block ?_
       refine k_seq ?_
       replace G := gd G; obtain ⟨b30, G⟩ := G
       replace G := bnd G; obtain ⟨t31, ht31, G⟩ := G
       obtain ⟨p_t31, c_t31, y_t31⟩ := sl_get (dl_er ergd_S_i64 (u8 1) 0 t9) ht31
       have P32 := ptr_of (en := enSl) (l := ((u8 1).dl Sl.l gd_S_i64 0 t9)) (ns_of (H.at (K := nsK 32 2 1 en_i64 ((u8 1).o 0) (((u8 1).dl Sl.l gd_S_i64 0 t9).length) ((u8 1).n 0) ((u8 1).dl Sl.l gd_S_i64 0 t9) ((u8 1).dl Sl.l gd_S_i64 0 t9)) 94 (by kernel_rfl))).row.2 enSl_len
       replace G := gd G; obtain ⟨b33, G⟩ := G
       replace G := bnd G; obtain ⟨t34, ht34, G⟩ := G
       have P35 := ptr_of (en := en_i64) (l := t31) ((ns_of (H.at (K := nsK 32 2 1 en_i64 ((u8 1).o 0) (((u8 1).dl Sl.l gd_S_i64 0 t9).length) ((u8 1).n 0) ((u8 1).dl Sl.l gd_S_i64 0 t9) ((u8 1).dl Sl.l gd_S_i64 0 t9)) 94 (by kernel_rfl))).one y_t31).2 en_i64_len
       replace G := gd G; obtain ⟨b36, G⟩ := G
       replace G := bnd G; obtain ⟨t37, ht37, G⟩ := G
       have P38 := ptr_of (en := en_i64) (l := t20) (owns_rowC (ow_of (H.at (K := owK 2 1 ((u19 1).o 0) t20.length ((u19 1).n 0) (t20.flatMap en_i64)) 96 (by kernel_rfl)))).2 en_i64_len
       replace G := bnd G; obtain ⟨t39, ht39, G⟩ := G
       refine k_rg mixed H (.v 73 (.slice ((u8 1).o 0) (((u8 1).dl Sl.l gd_S_i64 0 t9).length) ((u8 1).n 0)) <|
   .v 74 (vI x26) <|
   .cons [75] (ok_val (fun u29 => .pointer (some ⟨hdB ((u8 1).o 0), hdO ((u8 1).o 0) + x26.toNat * 1, none⟩)) 75 (hv := fun _ _ => ix_pure (t := 30) (k := .i64) (i := x26) (p := ((u8 1).o 0)) (n := ((u8 1).dl Sl.l gd_S_i64 0 t9).length) (cap := ((u8 1).n 0)) (x := t9) P32 (map_len (dl_er ergd_S_i64 (u8 1) 0 t9)) b30 (by kernel_rfl))) <|
   .cons [76] (ok_valL [94] (fun u29 => [nsK 32 2 1 en_i64 ((u8 1).o 0) (((u8 1).dl Sl.l gd_S_i64 0 t9).length) ((u8 1).n 0) ((u8 1).dl Sl.l gd_S_i64 0 t9) ((u8 1).dl Sl.l gd_S_i64 0 t9)]) (fun u29 => .slice p_t31 t31.length c_t31) (fun u29 => true) [true] 76 (fun u29 w hg hF => ld_row (en := enSl) (ns_of hF.1).row.2 enSl_len y_t31 0 1 [.slice p_t31 t31.length c_t31] rfl (by kernel_rfl))) <|
   .cons [77] (ok_val (fun u29 => .pointer (some ⟨hdB p_t31, hdO p_t31 + ((0 : Int).toNat) * 1, none⟩)) 77 (hv := fun _ _ => ix_pure (t := 32) (k := .i64) (i := (0 : Int)) (p := p_t31) (n := t31.length) (cap := c_t31) (x := t31) P35 rfl b33 (by kernel_rfl))) <|
   .cons [78] (ok_valL [94] (fun u29 => [nsK 32 2 1 en_i64 ((u8 1).o 0) (((u8 1).dl Sl.l gd_S_i64 0 t9).length) ((u8 1).n 0) ((u8 1).dl Sl.l gd_S_i64 0 t9) ((u8 1).dl Sl.l gd_S_i64 0 t9)]) (fun u29 => vI t34) (fun u29 => true) [true] 78 (fun u29 w hg hF => ld_row (en := en_i64) ((ns_of hF.1).one y_t31).2 en_i64_len ht34 0 1 [vI t34] rfl (by kernel_rfl))) <|
   .v 79 (vI t22) <|
   .v 80 (vI (w_i64 (t34 * t22))) <|
   .v 81 (.slice ((u19 1).o 0) t20.length ((u19 1).n 0)) <|
   .v 82 (vI x26) <|
   .cons [83] (ok_val (fun u29 => .pointer (some ⟨hdB ((u19 1).o 0), hdO ((u19 1).o 0) + x26.toNat * 1, none⟩)) 83 (hv := fun _ _ => ix_pure (t := 32) (k := .i64) (i := x26) (p := ((u19 1).o 0)) (n := t20.length) (cap := ((u19 1).n 0)) (x := t20) P38 rfl b36 (by kernel_rfl))) <|
   .cons [84] (ok_valL [96] (fun u29 => [owK 2 1 ((u19 1).o 0) t20.length ((u19 1).n 0) (t20.flatMap en_i64)]) (fun u29 => vI t37) (fun u29 => true) [true] 84 (fun u29 w hg hF => ld_row (en := en_i64) (owns_rowC (ow_of hF.1)).2 en_i64_len ht37 0 1 [vI t37] rfl (by kernel_rfl))) <|
   .v 85 (vI (w_i64 (t37 * 65536))) <|
   .v 86 (vI (w_i64 ((w_i64 (t34 * t22)) - (w_i64 (t37 * 65536))))) <|
   .cons [87] (ok_callv 33 (fun u29 => #[vI (w_i64 ((w_i64 (t34 * t22)) - (w_i64 (t37 * 65536))))]) (vI t39) 87 [] (fun u29 w _ => armillarylaw04_abs.calls (w_i64 ((w_i64 (t34 * t22)) - (w_i64 (t37 * 65536))))  t39 w  ht39)) <|
   .v 88 (vI t22) <|
   .v 89 (vI (w_i64 (2 * t22))) <|
   .v 90 (.bool (decide (t39 > (w_i64 (2 * t22))))) <| .nil) fun u29 a w' H => ?_
       replace H := H.kp [5, 6, 8, 12, 13, 14, 68, 69, 90, 94, 96, 999999]
       refine k_cond H (by kernel_rfl) (t := decide (t39 > (w_i64 (2 * t22)))) (by kernel_rfl) (fun c42 => ?_) (fun c42 => ?_)
       ·rw [if_pos c42] at G
        refine k_seq ?_
        refine k_rg mixed H (.v 4 (.bool false) <| .nil) fun u40 a w' H => ?_
        replace H := H.kp [4, 999999]
        refine k_ret ?_
        obtain rfl := Option.some.inj G
        replace G := Gj23
        obtain rfl := Option.some.inj G
        exact k_done0 H _ (by kernel_rfl) (by kernel_rfl)
       ·rw [if_neg (nt c42)] at G
        refine k_skip ?_
        refine k_rg mixed H (.v 71 (vI x26) <|
   .v 72 (vI (w_i64 (x26 + 1))) <|
   .v 14 (vI (w_i64 (x26 + 1))) <| .nil) fun u41 a w' H => ?_
        replace H := H.kp [5, 6, 8, 12, 13, 14, 68, 69, 94, 96, 999999]
        exact ⟨k, Nat.lt_succ_self k, _, G, H.toL _ (by kernel_rfl)⟩
      ·rw [if_neg (nt c43)] at G
       refine k_exit rfl ?_
       obtain rfl := Option.some.inj G
       exact ⟨_, rfl, H.toL _ (by kernel_rfl)⟩
   ·have G := hj18; clear hj18
    refine k_seq ?_
    refine k_rg mixed H (.v 10 (vI 0) <| .nil) fun u44 a w' H => ?_
    replace H := H.kp [5, 6, 7, 8, 9, 10, 93, 94, 95, 999999]
    refine k_block ?_
    refine k_loopJ (fun m a w' => ∃ x45 : Int, armillarylaw04_MatrixOrthogonalizeIdempotent.l46 k0 a0 a1 t3 t5 t7 t9 t11 t14 t16 m x45 = some j18 ∧ Rep w.heap.size w 92 (ofL [(5, sB t3), (6, sI t5), (7, (sS ((u6 2).o 0) (((u6 2).dl Sl.l gd_S_i64 0 t7).length) ((u6 2).n 0))), (8, (sS ((u8 1).o 0) (((u8 1).dl Sl.l gd_S_i64 0 t9).length) ((u8 1).n 0))), (9, (sS ((u13 1).o 0) (((u13 1).dl Sl.l gd_S_i64 0 t14).length) ((u13 1).n 0))), (10, sI x45), (93, nsK 32 2 1 en_i64 ((u6 2).o 0) (((u6 2).dl Sl.l gd_S_i64 0 t7).length) ((u6 2).n 0) ((u6 2).dl Sl.l gd_S_i64 0 t7) ((u6 2).dl Sl.l gd_S_i64 0 t7)), (94, nsK 32 2 1 en_i64 ((u8 1).o 0) (((u8 1).dl Sl.l gd_S_i64 0 t9).length) ((u8 1).n 0) ((u8 1).dl Sl.l gd_S_i64 0 t9) ((u8 1).dl Sl.l gd_S_i64 0 t9)), (95, nsK 32 2 1 en_i64 ((u13 1).o 0) (((u13 1).dl Sl.l gd_S_i64 0 t14).length) ((u13 1).n 0) ((u13 1).dl Sl.l gd_S_i64 0 t14) ((u13 1).dl Sl.l gd_S_i64 0 t14)), (999999, gk)]) a w') k0 ⟨_, G, H.toL _ (by kernel_rfl)⟩ ?_
    clear G H
    rintro (_ | k) a w' ⟨x45, G, H⟩
    ·exact absurd G (by unfold armillarylaw04_MatrixOrthogonalizeIdempotent.l46; exact fun h => by cases h)
    ·unfold armillarylaw04_MatrixOrthogonalizeIdempotent.l46 at G
     refine k_seq ?_
     refine k_seq ?_
     refine k_rg mixed H (.v 33 (vI x45) <|
   .v 34 (vI t5) <|
   .v 35 (.bool (decide (x45 < t5))) <| .nil) fun u47 a w' H => ?_
     replace H := H.kp [5, 6, 7, 8, 9, 10, 35, 93, 94, 95, 999999]
     refine k_cond H (by kernel_rfl) (t := decide (x45 < t5)) (by kernel_rfl) (fun c72 => ?_) (fun c72 => ?_)
     ·rw [if_pos c72] at G
      refine k_skip ?_
      refine k_seq ?_
      replace G := bnd G; obtain ⟨j48, hj48, Gj48⟩ := G
      refine k_join (fun a w' => ∃ j48v, j48 = Sum.inr j48v ∧ Rep w.heap.size w 92 (ofL [(5, sB t3), (6, sI t5), (7, (sS ((u6 2).o 0) (((u6 2).dl Sl.l gd_S_i64 0 t7).length) ((u6 2).n 0))), (8, (sS ((u8 1).o 0) (((u8 1).dl Sl.l gd_S_i64 0 t9).length) ((u8 1).n 0))), (9, (sS ((u13 1).o 0) (((u13 1).dl Sl.l gd_S_i64 0 t14).length) ((u13 1).n 0))), (10, sI x45), (93, nsK 32 2 1 en_i64 ((u6 2).o 0) (((u6 2).dl Sl.l gd_S_i64 0 t7).length) ((u6 2).n 0) ((u6 2).dl Sl.l gd_S_i64 0 t7) ((u6 2).dl Sl.l gd_S_i64 0 t7)), (94, nsK 32 2 1 en_i64 ((u8 1).o 0) (((u8 1).dl Sl.l gd_S_i64 0 t9).length) ((u8 1).n 0) ((u8 1).dl Sl.l gd_S_i64 0 t9) ((u8 1).dl Sl.l gd_S_i64 0 t9)), (95, nsK 32 2 1 en_i64 ((u13 1).o 0) (((u13 1).dl Sl.l gd_S_i64 0 t14).length) ((u13 1).n 0) ((u13 1).dl Sl.l gd_S_i64 0 t14) ((u13 1).dl Sl.l gd_S_i64 0 t14)), (999999, gk)]) a w') ?_ ?_
      ·clear H; rintro a w' ⟨j48v, rfl, H⟩; have G := Gj48; clear Gj48; dsimp only at G
       refine k_rg mixed H (.v 36 (vI x45) <|
   .v 37 (vI (w_i64 (x45 + 1))) <|
   .v 10 (vI (w_i64 (x45 + 1))) <| .nil) fun u49 a w' H => ?_
       replace H := H.kp [5, 6, 7, 8, 9, 10, 93, 94, 95, 999999]
       exact ⟨k, Nat.lt_succ_self k, _, G, H.toL _ (by kernel_rfl)⟩
      ·have G := hj48; clear hj48
       refine k_block ?_
       refine k_seq ?_
       refine k_rg mixed H (.v 11 (vI 0) <| .nil) fun u50 a w' H => ?_
       replace H := H.kp [5, 6, 7, 8, 9, 10, 11, 93, 94, 95, 999999]
       refine k_block ?_
       refine k_loopJ (fun m a w' => ∃ x51 : Int, armillarylaw04_MatrixOrthogonalizeIdempotent.l52 k0 a0 a1 t3 t5 t7 t9 t11 t14 t16 x45 m x51 = some j48 ∧ Rep w.heap.size w 92 (ofL [(5, sB t3), (6, sI t5), (7, (sS ((u6 2).o 0) (((u6 2).dl Sl.l gd_S_i64 0 t7).length) ((u6 2).n 0))), (8, (sS ((u8 1).o 0) (((u8 1).dl Sl.l gd_S_i64 0 t9).length) ((u8 1).n 0))), (9, (sS ((u13 1).o 0) (((u13 1).dl Sl.l gd_S_i64 0 t14).length) ((u13 1).n 0))), (10, sI x45), (11, sI x51), (93, nsK 32 2 1 en_i64 ((u6 2).o 0) (((u6 2).dl Sl.l gd_S_i64 0 t7).length) ((u6 2).n 0) ((u6 2).dl Sl.l gd_S_i64 0 t7) ((u6 2).dl Sl.l gd_S_i64 0 t7)), (94, nsK 32 2 1 en_i64 ((u8 1).o 0) (((u8 1).dl Sl.l gd_S_i64 0 t9).length) ((u8 1).n 0) ((u8 1).dl Sl.l gd_S_i64 0 t9) ((u8 1).dl Sl.l gd_S_i64 0 t9)), (95, nsK 32 2 1 en_i64 ((u13 1).o 0) (((u13 1).dl Sl.l gd_S_i64 0 t14).length) ((u13 1).n 0) ((u13 1).dl Sl.l gd_S_i64 0 t14) ((u13 1).dl Sl.l gd_S_i64 0 t14)), (999999, gk)]) a w') k0 ⟨_, G, H.toL _ (by kernel_rfl)⟩ ?_
       clear G H
       rintro (_ | k) a w' ⟨x51, G, H⟩
       ·exact absurd G (by unfold armillarylaw04_MatrixOrthogonalizeIdempotent.l52; exact fun h => by cases h)
       ·unfold armillarylaw04_MatrixOrthogonalizeIdempotent.l52 at G
        refine k_seq ?_
        refine k_seq ?_
        refine k_rg mixed H (.v 38 (vI x51) <|
   .v 39 (vI t5) <|
   .v 40 (.bool (decide (x51 < t5))) <| .nil) fun u53 a w' H => ?_
        replace H := H.kp [5, 6, 7, 8, 9, 10, 11, 40, 93, 94, 95, 999999]
        refine k_cond H (by kernel_rfl) (t := decide (x51 < t5)) (by kernel_rfl) (fun c71 => ?_) (fun c71 => ?_)
        ·rw [if_pos c71] at G
         refine k_skip ?_
         refine k_seq ?_
         refine k_block ?_
         refine k_seq ?_
         replace G := gd G; obtain ⟨b55, G⟩ := G
         replace G := bnd G; obtain ⟨t56, ht56, G⟩ := G
         obtain ⟨p_t56, c_t56, y_t56⟩ := sl_get (dl_er ergd_S_i64 (u8 1) 0 t9) ht56
         have P57 := ptr_of (en := enSl) (l := ((u8 1).dl Sl.l gd_S_i64 0 t9)) (ns_of (H.at (K := nsK 32 2 1 en_i64 ((u8 1).o 0) (((u8 1).dl Sl.l gd_S_i64 0 t9).length) ((u8 1).n 0) ((u8 1).dl Sl.l gd_S_i64 0 t9) ((u8 1).dl Sl.l gd_S_i64 0 t9)) 94 (by kernel_rfl))).row.2 enSl_len
         replace G := gd G; obtain ⟨b58, G⟩ := G
         replace G := bnd G; obtain ⟨t59, ht59, G⟩ := G
         have P60 := ptr_of (en := en_i64) (l := t56) ((ns_of (H.at (K := nsK 32 2 1 en_i64 ((u8 1).o 0) (((u8 1).dl Sl.l gd_S_i64 0 t9).length) ((u8 1).n 0) ((u8 1).dl Sl.l gd_S_i64 0 t9) ((u8 1).dl Sl.l gd_S_i64 0 t9)) 94 (by kernel_rfl))).one y_t56).2 en_i64_len
         replace G := gd G; obtain ⟨b61, G⟩ := G
         replace G := bnd G; obtain ⟨t62, ht62, G⟩ := G
         obtain ⟨p_t62, c_t62, y_t62⟩ := sl_get (dl_er ergd_S_i64 (u13 1) 0 t14) ht62
         have P63 := ptr_of (en := enSl) (l := ((u13 1).dl Sl.l gd_S_i64 0 t14)) (ns_of (H.at (K := nsK 32 2 1 en_i64 ((u13 1).o 0) (((u13 1).dl Sl.l gd_S_i64 0 t14).length) ((u13 1).n 0) ((u13 1).dl Sl.l gd_S_i64 0 t14) ((u13 1).dl Sl.l gd_S_i64 0 t14)) 95 (by kernel_rfl))).row.2 enSl_len
         replace G := gd G; obtain ⟨b64, G⟩ := G
         replace G := bnd G; obtain ⟨t65, ht65, G⟩ := G
         have P66 := ptr_of (en := en_i64) (l := t62) ((ns_of (H.at (K := nsK 32 2 1 en_i64 ((u13 1).o 0) (((u13 1).dl Sl.l gd_S_i64 0 t14).length) ((u13 1).n 0) ((u13 1).dl Sl.l gd_S_i64 0 t14) ((u13 1).dl Sl.l gd_S_i64 0 t14)) 95 (by kernel_rfl))).one y_t62).2 en_i64_len
         replace G := bnd G; obtain ⟨t67, ht67, G⟩ := G
         refine k_rg mixed H (.v 43 (.slice ((u8 1).o 0) (((u8 1).dl Sl.l gd_S_i64 0 t9).length) ((u8 1).n 0)) <|
   .v 44 (vI x45) <|
   .cons [45] (ok_val (fun u54 => .pointer (some ⟨hdB ((u8 1).o 0), hdO ((u8 1).o 0) + x45.toNat * 1, none⟩)) 45 (hv := fun _ _ => ix_pure (t := 30) (k := .i64) (i := x45) (p := ((u8 1).o 0)) (n := ((u8 1).dl Sl.l gd_S_i64 0 t9).length) (cap := ((u8 1).n 0)) (x := t9) P57 (map_len (dl_er ergd_S_i64 (u8 1) 0 t9)) b55 (by kernel_rfl))) <|
   .cons [46] (ok_valL [94] (fun u54 => [nsK 32 2 1 en_i64 ((u8 1).o 0) (((u8 1).dl Sl.l gd_S_i64 0 t9).length) ((u8 1).n 0) ((u8 1).dl Sl.l gd_S_i64 0 t9) ((u8 1).dl Sl.l gd_S_i64 0 t9)]) (fun u54 => .slice p_t56 t56.length c_t56) (fun u54 => true) [true] 46 (fun u54 w hg hF => ld_row (en := enSl) (ns_of hF.1).row.2 enSl_len y_t56 0 1 [.slice p_t56 t56.length c_t56] rfl (by kernel_rfl))) <|
   .v 47 (vI x51) <|
   .cons [48] (ok_val (fun u54 => .pointer (some ⟨hdB p_t56, hdO p_t56 + x51.toNat * 1, none⟩)) 48 (hv := fun _ _ => ix_pure (t := 32) (k := .i64) (i := x51) (p := p_t56) (n := t56.length) (cap := c_t56) (x := t56) P60 rfl b58 (by kernel_rfl))) <|
   .cons [49] (ok_valL [94] (fun u54 => [nsK 32 2 1 en_i64 ((u8 1).o 0) (((u8 1).dl Sl.l gd_S_i64 0 t9).length) ((u8 1).n 0) ((u8 1).dl Sl.l gd_S_i64 0 t9) ((u8 1).dl Sl.l gd_S_i64 0 t9)]) (fun u54 => vI t59) (fun u54 => true) [true] 49 (fun u54 w hg hF => ld_row (en := en_i64) ((ns_of hF.1).one y_t56).2 en_i64_len ht59 0 1 [vI t59] rfl (by kernel_rfl))) <|
   .v 50 (.slice ((u13 1).o 0) (((u13 1).dl Sl.l gd_S_i64 0 t14).length) ((u13 1).n 0)) <|
   .v 51 (vI x45) <|
   .cons [52] (ok_val (fun u54 => .pointer (some ⟨hdB ((u13 1).o 0), hdO ((u13 1).o 0) + x45.toNat * 1, none⟩)) 52 (hv := fun _ _ => ix_pure (t := 30) (k := .i64) (i := x45) (p := ((u13 1).o 0)) (n := ((u13 1).dl Sl.l gd_S_i64 0 t14).length) (cap := ((u13 1).n 0)) (x := t14) P63 (map_len (dl_er ergd_S_i64 (u13 1) 0 t14)) b61 (by kernel_rfl))) <|
   .cons [53] (ok_valL [95] (fun u54 => [nsK 32 2 1 en_i64 ((u13 1).o 0) (((u13 1).dl Sl.l gd_S_i64 0 t14).length) ((u13 1).n 0) ((u13 1).dl Sl.l gd_S_i64 0 t14) ((u13 1).dl Sl.l gd_S_i64 0 t14)]) (fun u54 => .slice p_t62 t62.length c_t62) (fun u54 => true) [true] 53 (fun u54 w hg hF => ld_row (en := enSl) (ns_of hF.1).row.2 enSl_len y_t62 0 1 [.slice p_t62 t62.length c_t62] rfl (by kernel_rfl))) <|
   .v 54 (vI x51) <|
   .cons [55] (ok_val (fun u54 => .pointer (some ⟨hdB p_t62, hdO p_t62 + x51.toNat * 1, none⟩)) 55 (hv := fun _ _ => ix_pure (t := 32) (k := .i64) (i := x51) (p := p_t62) (n := t62.length) (cap := c_t62) (x := t62) P66 rfl b64 (by kernel_rfl))) <|
   .cons [56] (ok_valL [95] (fun u54 => [nsK 32 2 1 en_i64 ((u13 1).o 0) (((u13 1).dl Sl.l gd_S_i64 0 t14).length) ((u13 1).n 0) ((u13 1).dl Sl.l gd_S_i64 0 t14) ((u13 1).dl Sl.l gd_S_i64 0 t14)]) (fun u54 => vI t65) (fun u54 => true) [true] 56 (fun u54 w hg hF => ld_row (en := en_i64) ((ns_of hF.1).one y_t62).2 en_i64_len ht65 0 1 [vI t65] rfl (by kernel_rfl))) <|
   .v 57 (vI (w_i64 (t59 - t65))) <|
   .cons [58] (ok_callv 33 (fun u54 => #[vI (w_i64 (t59 - t65))]) (vI t67) 58 [] (fun u54 w _ => armillarylaw04_abs.calls (w_i64 (t59 - t65))  t67 w  ht67)) <|
   .v 59 (.bool (decide (t67 > 1024))) <| .nil) fun u54 a w' H => ?_
         replace H := H.kp [5, 6, 7, 8, 9, 10, 11, 59, 93, 94, 95, 999999]
         refine k_cond H (by kernel_rfl) (t := decide (t67 > 1024)) (by kernel_rfl) (fun c70 => ?_) (fun c70 => ?_)
         ·rw [if_pos c70] at G
          refine k_seq ?_
          refine k_rg mixed H (.v 4 (.bool false) <| .nil) fun u68 a w' H => ?_
          replace H := H.kp [4, 999999]
          refine k_ret ?_
          obtain rfl := Option.some.inj G
          replace G := Gj48
          obtain rfl := Option.some.inj G
          replace G := Gj18
          obtain rfl := Option.some.inj G
          exact k_done0 H _ (by kernel_rfl) (by kernel_rfl)
         ·rw [if_neg (nt c70)] at G
          refine k_skip ?_
          refine k_rg mixed H (.v 41 (vI x51) <|
   .v 42 (vI (w_i64 (x51 + 1))) <|
   .v 11 (vI (w_i64 (x51 + 1))) <| .nil) fun u69 a w' H => ?_
          replace H := H.kp [5, 6, 7, 8, 9, 10, 11, 93, 94, 95, 999999]
          exact ⟨k, Nat.lt_succ_self k, _, G, H.toL _ (by kernel_rfl)⟩
        ·rw [if_neg (nt c71)] at G
         refine k_exit rfl ?_
         obtain rfl := Option.some.inj G
         exact ⟨_, rfl, H.toL _ (by kernel_rfl)⟩
     ·rw [if_neg (nt c72)] at G
      refine k_exit rfl ?_
      obtain rfl := Option.some.inj G
      exact ⟨_, rfl, H.toL _ (by kernel_rfl)⟩
end Go.Proofs.YtglcmhldonkfdaaDoor
