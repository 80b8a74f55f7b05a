/- The law MatrixOrthogonality answers as the plain Lean function of its name. Printed by a program of this session. -/
import Derived.Test.YtglcmhldonkfdaaDoorFn3
set_option linter.unusedVariables false
set_option linter.unusedSimpArgs false
set_option maxRecDepth 100000
namespace Go.Proofs.YtglcmhldonkfdaaDoor
open Go Go.RowKit Go.Sx Go.Proofs
set_option maxHeartbeats 4000000 in
theorem armillarylaw04_MatrixOrthogonality.calls (k0 : Nat) (a0 : List Int) (a1 : Int) (p_a0 : Option Addr) (c_a0 : Nat) (r : Bool) (w : World) (hB : AllH [rdl anyF 1 p_a0 c_a0 a0 en_i64, gk] w) (G : armillarylaw04_MatrixOrthogonality k0 a0 a1 = some r) :
  Calls Tryd.prog 7 #[.slice p_a0 a0.length c_a0, .int .u8 a1] w fun e w' => e = .returned (.bool r) ∧ Below w.heap.size w w' := by
 obtain ⟨fr, hfr⟩ : ∃ fr : Nat → Prop, ∀ j, fr j := ⟨fun _ => True, fun _ => trivial⟩
 have hBf : ∀ j, w.heap.size ≤ j → fr j := fun j _ => hfr j
 refine k_enterF (args := [.slice p_a0 a0.length c_a0, .int .u8 a1]) 53 [(53, rdl anyF 1 p_a0 c_a0 a0 en_i64), (999999, gk)] (by
  intro x hx
  simp only [List.mem_cons, List.not_mem_nil, or_false] at hx
  rcases hx with rfl | rfl
  ·exact rdF_fact (rdF_of hB.1) (fun _ _ => trivial) (by decide) _
  ·exact ⟨⟨_, _, rfl⟩, hB.2.1, glob_in (glob_of hB.2.1)⟩) Tryd.func7 rfl (by kernel_rfl) (by kernel_rfl) fun a H => ?_
 unfold armillarylaw04_MatrixOrthogonality at G
 refine k_seq ?_
 refine k_rg mixed H (.v 4 (.bool false) <| .nil) fun u1 a w' H => ?_
 replace H := H.kp [0, 1, 53, 999999]
 refine k_seq ?_
 replace G := bnd G; obtain ⟨t3, ht3, G⟩ := G
 refine k_rg mixed H (.cons [12] (ok_callL [999999] (fun u2 => [gk]) 11 (fun u2 => #[]) (.bool t3) 12 (fun u2 w hF => armillarylaw04_sanity.calls k0  t3 w  (glob_of hF.1) ht3)) <|
   .v 5 (.bool t3) <| .nil) fun u2 a w' H => ?_
 replace H := H.kp [0, 1, 5, 53, 999999]
 refine k_seq ?_
 replace G := bnd G; obtain ⟨t5, ht5, G⟩ := G
 refine k_rg mixed H (.v 13 (.int .u8 a1) <|
   .cons [14] (ok_callv 29 (fun u4 => #[.int .u8 a1]) (vI t5) 14 [] (fun u4 w _ => armillaryref04_Dim.calls a1  t5 w  ht5)) <|
   .v 6 (vI t5) <| .nil) fun u4 a w' H => ?_
 replace H := H.kp [0, 5, 6, 53, 999999]
 refine k_seq ?_
 replace G := bnd G; obtain ⟨t7, ht7, G⟩ := G
 replace G := bnd G; obtain ⟨t8, ht8, G⟩ := G
 refine k_rg mixed H (.v 15 (.slice p_a0 a0.length c_a0) <|
   .v 16 (vI t5) <|
   .cons [17, 54] (ok_callY false fr [] [53] (fun u6 => [rdl anyF 1 p_a0 c_a0 a0 en_i64]) [] (fun u6 => []) 31 (fun u6 => #[.slice p_a0 a0.length c_a0, vI t5]) (fun u6 => [rdl anyF 1 p_a0 c_a0 a0 en_i64]) (fun u6 => []) (fun u6 g => .slice (g.o 0) ((g.dl Sl.l gd_S_i64 0 t7).length) (g.n 0)) (fun u6 g => [fun _ => nsK 32 2 1 en_i64 (g.o 0) ((g.dl Sl.l gd_S_i64 0 t7).length) (g.n 0) (g.dl Sl.l gd_S_i64 0 t7) (g.dl Sl.l gd_S_i64 0 t7)]) [54] 17 (fun u6 w hB hF hM => armillaryref04_Numbers.calls k0 a0 t5 p_a0 c_a0 t7 w  hB ht7) (fun u6 w hF => ⟨⟨sub_rd0 (rdF_of hF.1) (fun j h => ⟨_, (.head _), h⟩), trivial⟩, trivial⟩) (fun u6 g => (fams_cons fam_ns fams_nil)) (.inr (fun u6 g => (famx_cons trivial (fun K h => by cases h)))) (fun h => by cases h)) <|
   .cons [18, 55] (ok_callY false fr [2] [54] (fun u6 => [nsK 32 2 1 en_i64 ((u6 2).o 0) (((u6 2).dl Sl.l gd_S_i64 0 t7).length) ((u6 2).n 0) ((u6 2).dl Sl.l gd_S_i64 0 t7) ((u6 2).dl Sl.l gd_S_i64 0 t7)]) [] (fun u6 => []) 30 (fun u6 => #[.slice ((u6 2).o 0) (((u6 2).dl Sl.l gd_S_i64 0 t7).length) ((u6 2).n 0)]) (fun u6 => [rdF anyF 1 ((u6 2).o 0) (((u6 2).dl Sl.l gd_S_i64 0 t7).length) ((u6 2).n 0) (((u6 2).dl Sl.l gd_S_i64 0 t7).flatMap enSl), dnK anyF E_S_i64.toPart ((u6 2).dl Sl.l gd_S_i64 0 t7)]) (fun u6 => []) (fun u6 g => .slice (g.o 0) ((g.dl Sl.l gd_S_i64 0 t8).length) (g.n 0)) (fun u6 g => [fun _ => nsK 32 2 1 en_i64 (g.o 0) ((g.dl Sl.l gd_S_i64 0 t8).length) (g.n 0) (g.dl Sl.l gd_S_i64 0 t8) (g.dl Sl.l gd_S_i64 0 t8)]) [55] 18 (fun u6 w hB hF hM => matrix_Orthogonalize.calls k0 t7 ((u6 2).o 0) ((u6 2).n 0) ((u6 2).dl Sl.l gd_S_i64 0 t7) t8 w (dl_er ergd_S_i64 (u6 2) 0 t7) hB ht8) (fun u6 w hF => ⟨⟨sub_rd0 (ns_of hF.1).row (fun j h => ⟨_, (.head _), (ns_fpH h)⟩), sub_dn0 (ns_of hF.1).all (fun j h => ⟨_, (.head _), (ns_fpA h)⟩), trivial⟩, trivial⟩) (fun u6 g => (fams_cons fam_ns fams_nil)) (.inr (fun u6 g => (famx_cons trivial (fun K h => by cases h)))) (fun h => by cases h) (hloc := fun u u' h => ⟨by first | rfl | simp only [h 2 (by decide)], by first | rfl | simp only [h 2 (by decide)], by first | rfl | simp only [h 2 (by decide)], by first | rfl | simp only [h 2 (by decide)], by first | rfl | simp only [h 2 (by decide)], by first | rfl | simp only [h 2 (by decide)]⟩)) <|
   .cons [7] (ok_val (fun u6 => .slice ((u6 3).o 0) (((u6 3).dl Sl.l gd_S_i64 0 t8).length) ((u6 3).n 0)) 7) <| .nil) fun u6 a w' H => ?_
 replace H := H.kp [5, 6, 7, 55, 999999]
 refine k_seq ?_
 refine k_seq ?_
 replace G := bnd G; obtain ⟨t10, ht10, G⟩ := G
 refine k_rg mixed H (.v 19 (.slice ((u6 3).o 0) (((u6 3).dl Sl.l gd_S_i64 0 t8).length) ((u6 3).n 0)) <|
   .v 20 (vI t5) <|
   .cons [21] (ok_callL [55] (fun u9 => [nsK 32 2 1 en_i64 ((u6 3).o 0) (((u6 3).dl Sl.l gd_S_i64 0 t8).length) ((u6 3).n 0) ((u6 3).dl Sl.l gd_S_i64 0 t8) ((u6 3).dl Sl.l gd_S_i64 0 t8)]) 32 (fun u9 => #[.slice ((u6 3).o 0) (((u6 3).dl Sl.l gd_S_i64 0 t8).length) ((u6 3).n 0), vI t5]) (.bool t10) 21 (fun u9 w hF => armillarylaw04_bounded.calls k0 t8 t5 ((u6 3).o 0) ((u6 3).n 0) ((u6 3).dl Sl.l gd_S_i64 0 t8) t10 w (dl_er ergd_S_i64 (u6 3) 0 t8) ⟨(rdA (ns_of hF.1).row), (dnA (ns_of hF.1).all), trivial⟩ ht10)) <|
   .v 22 (.bool (!t10)) <| .nil) fun u9 a w' H => ?_
 replace H := H.kp [5, 6, 7, 22, 55, 999999]
 refine k_cond H (by kernel_rfl) (t := (!t10)) (by kernel_rfl) (fun c40 => ?_) (fun c40 => ?_)
 ·rw [if_pos c40] at G
  refine k_seq ?_
  refine k_rg mixed H (.v 4 (.bool false) <| .nil) fun u11 a w' H => ?_
  replace H := H.kp [4, 999999]
  refine k_ret ?_
  obtain rfl := Option.some.inj G
  exact k_done0 H _ (by kernel_rfl) (by kernel_rfl)
 ·rw [if_neg (nt c40)] at G
  refine k_skip ?_
  refine k_seq ?_
  replace G := bnd G; obtain ⟨j12, hj12, Gj12⟩ := G
  refine k_join (fun a w' => ∃ j12v, j12 = Sum.inr j12v ∧ Rep w.heap.size w 53 (ofL [(5, sB t3), (999999, gk)]) a w') ?_ ?_
  ·clear H; rintro a w' ⟨j12v, rfl, H⟩; have G := Gj12; clear Gj12; dsimp only at G
   refine k_seq ?_
   refine k_rg mixed H (.v 52 (.bool t3) <|
   .v 4 (.bool t3) <| .nil) fun u13 a w' H => ?_
   replace H := H.kp [4, 999999]
   refine k_ret ?_
   obtain rfl := Option.some.inj G
   exact k_done0 H _ (by kernel_rfl) (by kernel_rfl)
  ·have G := hj12; clear hj12
   refine k_seq ?_
   refine k_rg mixed H (.v 8 (vI 0) <| .nil) fun u14 a w' H => ?_
   replace H := H.kp [5, 6, 7, 8, 55, 999999]
   refine k_block ?_
   refine k_loopJ (fun m a w' => ∃ x15 : Int, armillarylaw04_MatrixOrthogonality.l16 k0 a0 a1 t3 t5 t7 t8 t10 m x15 = some j12 ∧ Rep w.heap.size w 53 (ofL [(5, sB t3), (6, sI t5), (7, (sS ((u6 3).o 0) (((u6 3).dl Sl.l gd_S_i64 0 t8).length) ((u6 3).n 0))), (8, sI x15), (55, nsK 32 2 1 en_i64 ((u6 3).o 0) (((u6 3).dl Sl.l gd_S_i64 0 t8).length) ((u6 3).n 0) ((u6 3).dl Sl.l gd_S_i64 0 t8) ((u6 3).dl Sl.l gd_S_i64 0 t8)), (999999, gk)]) a w') k0 ⟨_, G, H.toL _ (by kernel_rfl)⟩ ?_
   clear G H
   rintro (_ | k) a w' ⟨x15, G, H⟩
   ·exact absurd G (by unfold armillarylaw04_MatrixOrthogonality.l16; exact fun h => by cases h)
   ·unfold armillarylaw04_MatrixOrthogonality.l16 at G
    refine k_seq ?_
    refine k_seq ?_
    refine k_rg mixed H (.v 23 (vI x15) <|
   .v 24 (vI t5) <|
   .v 25 (.bool (decide (x15 < t5))) <| .nil) fun u17 a w' H => ?_
    replace H := H.kp [5, 6, 7, 8, 25, 55, 999999]
    refine k_cond H (by kernel_rfl) (t := decide (x15 < t5)) (by kernel_rfl) (fun c39 => ?_) (fun c39 => ?_)
    ·rw [if_pos c39] at G
     refine k_skip ?_
     refine k_seq ?_
     replace G := bnd G; obtain ⟨j18, hj18, Gj18⟩ := G
     refine k_join (fun a w' => ∃ j18v, j18 = Sum.inr j18v ∧ Rep w.heap.size w 53 (ofL [(5, sB t3), (6, sI t5), (7, (sS ((u6 3).o 0) (((u6 3).dl Sl.l gd_S_i64 0 t8).length) ((u6 3).n 0))), (8, sI x15), (55, nsK 32 2 1 en_i64 ((u6 3).o 0) (((u6 3).dl Sl.l gd_S_i64 0 t8).length) ((u6 3).n 0) ((u6 3).dl Sl.l gd_S_i64 0 t8) ((u6 3).dl Sl.l gd_S_i64 0 t8)), (999999, gk)]) a w') ?_ ?_
     ·clear H; rintro a w' ⟨j18v, rfl, H⟩; have G := Gj18; clear Gj18; dsimp only at G
      refine k_rg mixed H (.v 26 (vI x15) <|
   .v 27 (vI (w_i64 (x15 + 1))) <|
   .v 8 (vI (w_i64 (x15 + 1))) <| .nil) fun u19 a w' H => ?_
      replace H := H.kp [5, 6, 7, 8, 55, 999999]
      exact ⟨k, Nat.lt_succ_self k, _, G, H.toL _ (by kernel_rfl)⟩
     ·have G := hj18; clear hj18
      refine k_block ?_
      refine k_seq ?_
      replace G := bnd G; obtain ⟨t21, ht21, G⟩ := G
      refine k_rg mixed H (.v 28 (.slice ((u6 3).o 0) (((u6 3).dl Sl.l gd_S_i64 0 t8).length) ((u6 3).n 0)) <|
   .v 29 (vI x15) <|
   .cons [30, 56] (ok_callY false fr [] [55] (fun u20 => [nsK 32 2 1 en_i64 ((u6 3).o 0) (((u6 3).dl Sl.l gd_S_i64 0 t8).length) ((u6 3).n 0) ((u6 3).dl Sl.l gd_S_i64 0 t8) ((u6 3).dl Sl.l gd_S_i64 0 t8)]) [] (fun u20 => []) 21 (fun u20 => #[.slice ((u6 3).o 0) (((u6 3).dl Sl.l gd_S_i64 0 t8).length) ((u6 3).n 0), vI x15]) (fun u20 => [rdF anyF 1 ((u6 3).o 0) (((u6 3).dl Sl.l gd_S_i64 0 t8).length) ((u6 3).n 0) (((u6 3).dl Sl.l gd_S_i64 0 t8).flatMap enSl), dnK anyF E_S_i64.toPart ((u6 3).dl Sl.l gd_S_i64 0 t8)]) (fun u20 => []) (fun u20 g => .slice (g.o 0) t21.length (g.n 0)) (fun u20 g => [fun _ => owK 2 1 (g.o 0) t21.length (g.n 0) (t21.flatMap en_i64)]) [56] 30 (fun u20 w hB hF hM => armillaryref04_Column.calls k0 t8 x15 ((u6 3).o 0) ((u6 3).n 0) ((u6 3).dl Sl.l gd_S_i64 0 t8) t21 w (dl_er ergd_S_i64 (u6 3) 0 t8) hB ht21) (fun u20 w hF => ⟨⟨sub_rd0 (ns_of hF.1).row (fun j h => ⟨_, (.head _), (ns_fpH h)⟩), sub_dn0 (ns_of hF.1).all (fun j h => ⟨_, (.head _), (ns_fpA h)⟩), trivial⟩, trivial⟩) (fun u20 g => (fams_cons fam_ow fams_nil)) (.inr (fun u20 g => (famx_cons trivial (fun K h => by cases h)))) (fun h => by cases h)) <|
   .cons [9] (ok_val (fun u20 => .slice ((u20 2).o 0) t21.length ((u20 2).n 0)) 9) <| .nil) fun u20 a w' H => ?_
      replace H := H.kp [5, 6, 7, 8, 9, 55, 56, 999999]
      refine k_seq ?_
      replace G := bnd G; obtain ⟨t23, ht23, G⟩ := G
      refine k_rg mixed H (.v 31 (.slice ((u20 2).o 0) t21.length ((u20 2).n 0)) <|
   .v 32 (.slice ((u20 2).o 0) t21.length ((u20 2).n 0)) <|
   .cons [33] (ok_callL [56] (fun u22 => [owK 2 1 ((u20 2).o 0) t21.length ((u20 2).n 0) (t21.flatMap en_i64)]) 18 (fun u22 => #[.slice ((u20 2).o 0) t21.length ((u20 2).n 0), .slice ((u20 2).o 0) t21.length ((u20 2).n 0)]) (vI t23) 33 (fun u22 w hF => armillaryref04_Dot.calls k0 t21 t21 ((u20 2).o 0) ((u20 2).n 0) ((u20 2).o 0) ((u20 2).n 0) t23 w  ⟨(rdA (owns_rowC (ow_of hF.1))), (rdA (owns_rowC (ow_of hF.1))), trivial⟩ ht23)) <|
   .v 10 (vI t23) <| .nil) fun u22 a w' H => ?_
      replace H := H.kp [5, 6, 7, 8, 9, 10, 55, 56, 999999]
      refine k_seq ?_
      refine k_seq ?_
      refine k_rg mixed H (.v 34 (vI t23) <|
   .v 35 (.bool (decide (t23 < 4290774016))) <|
   .v 36 (.bool (decide (t23 < 4290774016))) <|
   .cons [37] (ok_valg (fun u24 => vI t23) (fun u24 => ((decide (t23 < 4290774016)) == false)) [true] 37) <|
   .cons [38] (ok_valg (fun u24 => .bool (decide (t23 > 4299162624))) (fun u24 => ((decide (t23 < 4290774016)) == false)) [false, true] 38) <|
   .cons [39] (ok_or 36 38 (fun u24 => true) (fun u24 => true) (fun u24 => decide (t23 < 4290774016)) (fun u24 => decide (t23 > 4299162624)) 39) <| .nil) fun u24 a w' H => ?_
      replace H := H.kp [5, 6, 7, 8, 9, 37, 38, 39, 55, 56, 999999]
      refine k_cond H (by kernel_rfl) (t := ((decide (t23 < 4290774016)) || (decide (t23 > 4299162624)))) (by kernel_rfl) (fun c38 => ?_) (fun c38 => ?_)
      ·rw [if_pos c38] at G
       refine k_seq ?_
       refine k_rg mixed H (.v 4 (.bool false) <| .nil) fun u25 a w' H => ?_
       replace H := H.kp [4, 999999]
       refine k_ret ?_
       obtain rfl := Option.some.inj G
       replace G := Gj18
       obtain rfl := Option.some.inj G
       replace G := Gj12
       obtain rfl := Option.some.inj G
       exact k_done0 H _ (by kernel_rfl) (by kernel_rfl)
      ·rw [if_neg (nt c38)] at G
       refine k_skip ?_
       refine k_seq ?_
       refine k_rg mixed H (.v 11 (vI 0) <| .nil) fun u26 a w' H => ?_
       replace H := H.kp [5, 6, 7, 8, 9, 11, 37, 38, 55, 56, 999999]
       refine k_block ?_
       refine k_loopJ (fun m a w' => ∃ x27 : Int, armillarylaw04_MatrixOrthogonality.l28 k0 a0 a1 t3 t5 t7 t8 t10 x15 t21 t23 m x27 = some j18 ∧ Rep w.heap.size w 53 (ofL [(5, sB t3), (6, sI t5), (7, (sS ((u6 3).o 0) (((u6 3).dl Sl.l gd_S_i64 0 t8).length) ((u6 3).n 0))), (8, sI x15), (9, (sS ((u20 2).o 0) t21.length ((u20 2).n 0))), (11, sI x27), (37, .slot ((decide (t23 < 4290774016)) == false) (vI t23)), (38, .slot ((decide (t23 < 4290774016)) == false) (.bool (decide (t23 > 4299162624)))), (55, nsK 32 2 1 en_i64 ((u6 3).o 0) (((u6 3).dl Sl.l gd_S_i64 0 t8).length) ((u6 3).n 0) ((u6 3).dl Sl.l gd_S_i64 0 t8) ((u6 3).dl Sl.l gd_S_i64 0 t8)), (56, owK 2 1 ((u20 2).o 0) t21.length ((u20 2).n 0) (t21.flatMap en_i64)), (999999, gk)]) a w') k0 ⟨_, G, H.toL _ (by kernel_rfl)⟩ ?_
       clear G H
       rintro (_ | k) a w' ⟨x27, G, H⟩
       ·exact absurd G (by unfold armillarylaw04_MatrixOrthogonality.l28; exact fun h => by cases h)
       ·unfold armillarylaw04_MatrixOrthogonality.l28 at G
        refine k_seq ?_
        refine k_seq ?_
        refine k_rg mixed H (.v 40 (vI x27) <|
   .v 41 (vI x15) <|
   .v 42 (.bool (decide (x27 < x15))) <| .nil) fun u29 a w' H => ?_
        replace H := H.kp [5, 6, 7, 8, 9, 11, 37, 38, 42, 55, 56, 999999]
        refine k_cond H (by kernel_rfl) (t := decide (x27 < x15)) (by kernel_rfl) (fun c37 => ?_) (fun c37 => ?_)
        ·rw [if_pos c37] at G
         refine k_skip ?_
         refine k_seq ?_
         refine k_block ?_
         refine k_seq ?_
         replace G := bnd G; obtain ⟨t31, ht31, G⟩ := G
         replace G := bnd G; obtain ⟨t32, ht32, G⟩ := G
         replace G := bnd G; obtain ⟨t33, ht33, G⟩ := G
         refine k_rg mixed H (.v 45 (.slice ((u20 2).o 0) t21.length ((u20 2).n 0)) <|
   .v 46 (.slice ((u6 3).o 0) (((u6 3).dl Sl.l gd_S_i64 0 t8).length) ((u6 3).n 0)) <|
   .v 47 (vI x27) <|
   .cons [48, 57] (ok_callY false fr [] [55] (fun u30 => [nsK 32 2 1 en_i64 ((u6 3).o 0) (((u6 3).dl Sl.l gd_S_i64 0 t8).length) ((u6 3).n 0) ((u6 3).dl Sl.l gd_S_i64 0 t8) ((u6 3).dl Sl.l gd_S_i64 0 t8)]) [] (fun u30 => []) 21 (fun u30 => #[.slice ((u6 3).o 0) (((u6 3).dl Sl.l gd_S_i64 0 t8).length) ((u6 3).n 0), vI x27]) (fun u30 => [rdF anyF 1 ((u6 3).o 0) (((u6 3).dl Sl.l gd_S_i64 0 t8).length) ((u6 3).n 0) (((u6 3).dl Sl.l gd_S_i64 0 t8).flatMap enSl), dnK anyF E_S_i64.toPart ((u6 3).dl Sl.l gd_S_i64 0 t8)]) (fun u30 => []) (fun u30 g => .slice (g.o 0) t31.length (g.n 0)) (fun u30 g => [fun _ => owK 2 1 (g.o 0) t31.length (g.n 0) (t31.flatMap en_i64)]) [57] 48 (fun u30 w hB hF hM => armillaryref04_Column.calls k0 t8 x27 ((u6 3).o 0) ((u6 3).n 0) ((u6 3).dl Sl.l gd_S_i64 0 t8) t31 w (dl_er ergd_S_i64 (u6 3) 0 t8) hB ht31) (fun u30 w hF => ⟨⟨sub_rd0 (ns_of hF.1).row (fun j h => ⟨_, (.head _), (ns_fpH h)⟩), sub_dn0 (ns_of hF.1).all (fun j h => ⟨_, (.head _), (ns_fpA h)⟩), trivial⟩, trivial⟩) (fun u30 g => (fams_cons fam_ow fams_nil)) (.inr (fun u30 g => (famx_cons trivial (fun K h => by cases h)))) (fun h => by cases h)) <|
   .cons [49] (ok_callL [56, 57] (fun u30 => [owK 2 1 ((u20 2).o 0) t21.length ((u20 2).n 0) (t21.flatMap en_i64), owK 2 1 ((u30 3).o 0) t31.length ((u30 3).n 0) (t31.flatMap en_i64)]) 18 (fun u30 => #[.slice ((u20 2).o 0) t21.length ((u20 2).n 0), .slice ((u30 3).o 0) t31.length ((u30 3).n 0)]) (vI t32) 49 (fun u30 w hF => armillaryref04_Dot.calls k0 t21 t31 ((u20 2).o 0) ((u20 2).n 0) ((u30 3).o 0) ((u30 3).n 0) t32 w  ⟨(rdA (owns_rowC (ow_of hF.1))), (rdA (owns_rowC (ow_of hF.2.1))), trivial⟩ ht32)) <|
   .cons [50] (ok_callv 33 (fun u30 => #[vI t32]) (vI t33) 50 [] (fun u30 w _ => armillarylaw04_abs.calls t32  t33 w  ht33)) <|
   .v 51 (.bool (decide (t33 > 67108864))) <| .nil) fun u30 a w' H => ?_
         replace H := H.kp [5, 6, 7, 8, 9, 11, 37, 38, 51, 55, 56, 999999]
         refine k_cond H (by kernel_rfl) (t := decide (t33 > 67108864)) (by kernel_rfl) (fun c36 => ?_) (fun c36 => ?_)
         ·rw [if_pos c36] at G
          refine k_seq ?_
          refine k_rg mixed H (.v 4 (.bool false) <| .nil) fun u34 a w' H => ?_
          replace H := H.kp [4, 999999]
          refine k_ret ?_
          obtain rfl := Option.some.inj G
          replace G := Gj18
          obtain rfl := Option.some.inj G
          replace G := Gj12
          obtain rfl := Option.some.inj G
          exact k_done0 H _ (by kernel_rfl) (by kernel_rfl)
         ·rw [if_neg (nt c36)] at G
          refine k_skip ?_
          refine k_rg mixed H (.v 43 (vI x27) <|
   .v 44 (vI (w_i64 (x27 + 1))) <|
   .v 11 (vI (w_i64 (x27 + 1))) <| .nil) fun u35 a w' H => ?_
          replace H := H.kp [5, 6, 7, 8, 9, 11, 37, 38, 55, 56, 999999]
          exact ⟨k, Nat.lt_succ_self k, _, G, H.toL _ (by kernel_rfl)⟩
        ·rw [if_neg (nt c37)] at G
         refine k_exit rfl ?_
         obtain rfl := Option.some.inj G
         exact ⟨_, rfl, H.toL _ (by kernel_rfl)⟩
    ·rw [if_neg (nt c39)] at G
     refine k_exit rfl ?_
     obtain rfl := Option.some.inj G
     exact ⟨_, rfl, H.toL _ (by kernel_rfl)⟩
end Go.Proofs.YtglcmhldonkfdaaDoor
