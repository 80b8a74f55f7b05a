/- Each function of the program answers as the plain Lean function of its name (part 2). Printed by a program of this session. -/
import Derived.Test.YtglcmhldonkfdaaGreatDoorFn1
set_option linter.unusedVariables false
set_option linter.unusedSimpArgs false
set_option maxRecDepth 100000
set_option maxHeartbeats 4000000
namespace Go.Proofs.YtglcmhldonkfdaaGreatDoor
open Go Go.RowKit Go.Sx Go.Proofs
theorem Qu.calls (k0 : Nat) (a0 : List (List qG)) (p_a0 : Option Addr) (c_a0 : Nat) (L_a0 : List (Sl qG)) (r : List qG) (w : World) (h_a0 : a0 = L_a0.map Sl.l) (hB : Yj [Qh qi 1 p_a0 c_a0 L_a0 ql, QA qi ZA.toPart L_a0] w) (G : Qu k0 a0 = some r) :
  Calls Tryz.prog 99 #[.slice p_a0 L_a0.length c_a0] w fun e w' => ∃ g : Gh, e = .returned (.slice (g.o 0) r.length (g.n 0)) ∧ Y7 (YT []) w w' ∧ YD w.heap.size (YT []) (JG w.heap.size []) [fun _ => QU 69 6 (g.o 0) (g.n 0) r qn] w' := by
 obtain ⟨fr, hfr, hBf⟩ := J4 w []
 refine QQ (args := [.slice p_a0 L_a0.length c_a0]) 36 [(36, Qh qi 1 p_a0 c_a0 L_a0 ql), (37, QA qi ZA.toPart L_a0)] (by
  intro x hx
  simp only [List.mem_cons, List.not_mem_nil, or_false] at hx
  rcases hx with rfl | rfl
  ·exact Ql (qq hB.1) (fun _ _ => trivial) (by decide) _
  ·exact Xt (Qb hB.2.1) (fun _ _ => trivial) _) Tryz.func99 rfl (by kernel_rfl) (by kernel_rfl) fun a H => ?_
 unfold Qu at G
 refine qg qd H (.v 2 (.slice none 0 0) <| .nil) [0, 36, 37] fun u1 a w' H => ?_
 refine qg qd H (.v 3 (vI 0) <| .nil) [0, 3, 36, 37] fun u2 a w' H => ?_
 refine qs ?_
 obtain ⟨j4, hj4, G⟩ := qP G
 refine Qw (fun a w' => RL w 36 [(0, sS p_a0 L_a0.length c_a0), (3, sI j4), (36, Qh qi 1 p_a0 c_a0 L_a0 ql), (37, QA qi ZA.toPart L_a0)] a w') ?_ ?_
 ·clear H; intro a w' H
  obtain ⟨t6, ht6, G⟩ := qP G
  refine qg qd H (.v 23 (vI j4) <|
 .cons [24, 38] (Qo false fr [] [] (fun u5 => []) [] (fun u5 => []) 103 _ (fun u5 => []) _ _ _ [38] 24 (fun u5 w hB hF hM => Yt.calls j4  t6 w  ht6) (fun u5 w hF => ⟨trivial, trivial⟩) (fun u5 g => (qx X2 qI)) (.inr (fun u5 g => (Qj trivial (fun K h => by cases h)))) (fun h => by cases h)) <|
 .cons [6] (qp (fun u5 => .slice ((u5 1).o 0) t6.length ((u5 1).n 0)) 6) <| .nil) [0, 6, 36, 37, 38] fun u5 a w' H => ?_
  refine qs ?_
  obtain ⟨j8, hj8, G⟩ := qP G
  refine Qw (fun a w' => ∃ (p_j7 : Option Addr) (c_j7 np_j7 : Nat), np_j7 = j8.length ∧ RL w 36 [(6, sS p_j7 np_j7 c_j7), (900074, Yo 69 6 p_j7 np_j7 c_j7 (j8.flatMap qn))] a w') ?_ ?_
  ·clear H; rintro a w' ⟨p_j7, c_j7, _, rfl, H⟩
   refine qg qd H (.v 35 (.slice p_j7 j8.length c_j7) <|
 .v 2 (.slice p_j7 j8.length c_j7) <| .nil) [2, 900074] fun u9 a w' H => ?_
   refine q7 ?_
   obtain rfl := sj G
   obtain ⟨g, o0, n0⟩ := VI p_j7 c_j7
   refine Xo H _ g _ _ _ fr [900074] [] (.slice p_j7 j8.length c_j7) [fun _ => QU 69 6 p_j7 c_j7 j8 qn] (by simp only [QU, o0, n0]) (by simp only [QU, o0, n0]) hfr (.inl ⟨rfl, rfl⟩) (qx X2 qI) (by simp)
  ·clear G; replace G := hj8; clear hj8
   refine qg qd H (.v 25 (.slice p_a0 L_a0.length c_a0) <|
 .cons [26] (qy 36 (Qh qi 1 p_a0 c_a0 L_a0 ql) (vI (a0.length : Int)) 26 fun _ w h => Q7 (((qq h).2.len qk (by decide)).trans (qD h_a0).symm) (by kernel_rfl)) <|
 .v 27 (vI 0) <| .nil) [6, 25, 26, 27, 36, 37, 38] fun u10 a w' H => ?_
   refine qA ?_
   replace H := H.move (K := QU 69 6 ((u5 1).o 0) ((u5 1).n 0) t6 qn) 38 900075 (by kernel_rfl) (by intro _ _ h; cases h)
   refine Qv (fun m a w' => ∃ x11 : List qG, ∃ x12 : Int, Qu.l13 k0 a0 j4 t6 m x11 x12 = some j8 ∧ ∃ (p_x11 : Option Addr) (c_x11 np_x11 : Nat), np_x11 = x11.length ∧ RL w 36 [(6, sS p_x11 np_x11 c_x11), (25, sS p_a0 L_a0.length c_a0), (26, (sI (a0.length : Int))), (27, sI x12), (36, Qh qi 1 p_a0 c_a0 L_a0 ql), (37, QA qi ZA.toPart L_a0), (900075, Yo 69 6 p_x11 np_x11 c_x11 (x11.flatMap qn))] a w') k0 ⟨_, _, G, ((u5 1).o 0), ((u5 1).n 0), t6.length, rfl, H.toM _⟩ ?_
   clear G H
   rintro (_ | k) a w' ⟨x11, x12, G, p_x11, c_x11, _, rfl, H⟩
   ·exact absurd G (by unfold Qu.l13; exact fun h => by cases h)
   ·unfold Qu.l13 at G
    refine qg qd H (.v 28 (.bool (decide (x12 < (a0.length : Int)))) <| .nil) [6, 25, 26, 27, 28, 36, 37, 900075] fun u14 a w' H => ?_
    refine qs ?_
    refine Qr H (decide (x12 < (a0.length : Int))) (fun c21 => ?_) fun c21 => ?_
    ·rw [if_pos c21] at G
     refine qT ?_
     refine qs ?_
     refine qA ?_
     refine qs ?_
     replace G := gd G; obtain ⟨b16, G⟩ := G
     obtain ⟨t17, ht17, G⟩ := qP G
     obtain ⟨p_t17, c_t17, y_t17⟩ := QE h_a0 ht17
     refine qN qd H (.cons [29] (qy 36 (Qh qi 1 p_a0 c_a0 L_a0 ql) (.pointer (some ⟨XB p_a0, XC p_a0 + x12.toNat * 1, none⟩)) 29 fun _ w h => YQ 105 .i64 x12 p_a0 L_a0.length c_a0 a0 ql (qq h).2 qk (qD h_a0) b16) <|
 .cons [30] (qy 36 (Qh qi 1 p_a0 c_a0 L_a0 ql) (.slice p_t17 t17.length c_t17) 30 fun _ w h => Ya ql (qq h).2 qk y_t17 0 1 [.slice p_t17 t17.length c_t17]) <|
 .v 8 (.slice p_t17 t17.length c_t17) <| .nil) [6, 8, 25, 26, 27, 36, 37, 900075] fun u15 a w' H => ?_
     replace G := gd G; obtain ⟨b19, G⟩ := G
     refine qN qd H (.v 31 (.slice p_x11 x11.length c_x11) <|
 .v 32 (.slice p_t17 t17.length c_t17) <|
 .cons [33, 900075, 900075] (Xs [] [37] (fun u18 => [QA qi ZA.toPart L_a0]) 900075 (fun u18 => QU 69 6 p_x11 c_x11 x11 qn) (some 33) (fun u18 g => .slice (g.o 0) (x11 ++ t17).length (g.n 0)) (fun u18 g => QU 69 6 (g.o 0) (g.n 0) (x11 ++ t17) qn) (fun u18 w hF hK => ZB (Zr (t := 67) (ty := 67) (en := qn) (m := t17) (p2 := p_t17) (n2 := t17.length) (cap2 := c_t17) Qq (fun _ => rfl) qb1 (QN hK) (show Xv _ 6 p_t17 t17.length c_t17 (t17.flatMap qn) from ((Qb hF.1) _ (List.mem_of_getElem? y_t17)).1).2 b19 (by kernel_rfl)))) <|
 .cons [6] (qp (fun u18 => .slice ((u18 2).o 0) ((x11 ++ t17).length) ((u18 2).n 0)) 6) <| .nil) [6, 25, 26, 27, 36, 37, 900075] fun u18 a w' H => ?_
     refine qN qd H (.v 34 (vI (qe (x12 + 1))) <|
 .v 27 (vI (qe (x12 + 1))) <| .nil) [6, 25, 26, 27, 36, 37, 900075] fun u20 a w' H => ?_
     exact ⟨k, Nat.lt_succ_self k, _, _, G, ((u18 2).o 0), ((u18 2).n 0), (x11 ++ t17).length, rfl, H.toM _⟩
    ·rw [if_neg (nt c21)] at G
     refine QO rfl ?_
     obtain rfl := sj G
     replace H := H.move (K := QU 69 6 p_x11 c_x11 x11 qn) 900075 900074 (by kernel_rfl) (by intro _ _ h; cases h)
     exact ⟨p_x11, c_x11, x11.length, rfl, H.toM _⟩
 ·clear G; replace G := hj4; clear hj4
  refine qg qd H (.v 9 (.slice p_a0 L_a0.length c_a0) <|
 .cons [10] (qy 36 (Qh qi 1 p_a0 c_a0 L_a0 ql) (vI (a0.length : Int)) 10 fun _ w h => Q7 (((qq h).2.len qk (by decide)).trans (qD h_a0).symm) (by kernel_rfl)) <|
 .v 11 (vI 0) <| .nil) [0, 3, 9, 10, 11, 36, 37] fun u22 a w' H => ?_
  refine qA ?_
  refine Qv (fun m a w' => ∃ x23 : Int, ∃ x24 : Int, Qu.l25 k0 a0 m x23 x24 = some j4 ∧ RL w 36 [(0, sS p_a0 L_a0.length c_a0), (3, sI x23), (9, sS p_a0 L_a0.length c_a0), (10, (sI (a0.length : Int))), (11, sI x24), (36, Qh qi 1 p_a0 c_a0 L_a0 ql), (37, QA qi ZA.toPart L_a0)] a w') k0 ⟨_, _, G, H.toM _⟩ ?_
  clear G H
  rintro (_ | k) a w' ⟨x23, x24, G, H⟩
  ·exact absurd G (by unfold Qu.l25; exact fun h => by cases h)
  ·unfold Qu.l25 at G
   refine qg qd H (.v 12 (.bool (decide (x24 < (a0.length : Int)))) <| .nil) [0, 3, 9, 10, 11, 12, 36, 37] fun u26 a w' H => ?_
   refine qs ?_
   refine Qr H (decide (x24 < (a0.length : Int))) (fun c34 => ?_) fun c34 => ?_
   ·rw [if_pos c34] at G
    refine qT ?_
    refine qs ?_
    refine qA ?_
    refine qs ?_
    replace G := gd G; obtain ⟨b28, G⟩ := G
    obtain ⟨t29, ht29, G⟩ := qP G
    obtain ⟨p_t29, c_t29, y_t29⟩ := QE h_a0 ht29
    refine qN qd H (.cons [13] (qy 36 (Qh qi 1 p_a0 c_a0 L_a0 ql) (.pointer (some ⟨XB p_a0, XC p_a0 + x24.toNat * 1, none⟩)) 13 fun _ w h => YQ 105 .i64 x24 p_a0 L_a0.length c_a0 a0 ql (qq h).2 qk (qD h_a0) b28) <|
 .cons [14] (qy 36 (Qh qi 1 p_a0 c_a0 L_a0 ql) (.slice p_t29 t29.length c_t29) 14 fun _ w h => Ya ql (qq h).2 qk y_t29 0 1 [.slice p_t29 t29.length c_t29]) <|
 .v 5 (.slice p_t29 t29.length c_t29) <| .nil) [0, 3, 5, 9, 10, 11, 36, 37] fun u27 a w' H => ?_
    refine qg qd H (.v 15 (vI x23) <|
 .v 16 (.slice p_t29 t29.length c_t29) <|
 .v 17 (vI (t29.length : Int)) <|
 .v 18 (vI (qe (x23 + (t29.length : Int)))) <|
 .v 3 (vI (qe (x23 + (t29.length : Int)))) <| .nil) [0, 3, 9, 10, 11, 36, 37] fun u30 a w' H => ?_
    refine qg qd H (.v 19 (vI (qe (x23 + (t29.length : Int)))) <|
 .v 20 (.bool (decide ((qe (x23 + (t29.length : Int))) < 0))) <| .nil) [0, 3, 9, 10, 11, 20, 36, 37] fun u31 a w' H => ?_
    refine Qr H (decide ((qe (x23 + (t29.length : Int))) < 0)) (fun c33 => ?_) fun c33 => ?_
    ·rw [if_pos c33] at G
     cases G
    ·rw [if_neg (nt c33)] at G
     refine qT ?_
     refine qN qd H (.v 22 (vI (qe (x24 + 1))) <|
 .v 11 (vI (qe (x24 + 1))) <| .nil) [0, 3, 9, 10, 11, 36, 37] fun u32 a w' H => ?_
     exact ⟨k, Nat.lt_succ_self k, _, _, G, H.toM _⟩
   ·rw [if_neg (nt c34)] at G
    refine QO rfl ?_
    obtain rfl := sj G
    exact H.toM _
theorem XJ.calls (k0 : Nat) (a0 : Int) (r : Int) (w : World) (G : XJ k0 a0 = some r) :
  Calls Tryz.prog 100 #[.int .u64 a0] w fun e w' => e = .returned (vI r) ∧ Below w.heap.size w w' := by
 refine Q4 (args := [.int .u64 a0]) 23 Tryz.func100 rfl (by kernel_rfl) (by kernel_rfl) fun a H => ?_
 unfold XJ at G
 refine qg qd H (.v 2 (vI 0) <| .nil) [0] fun u1 a w' H => ?_
 refine qg qd H (.v 3 (.int .u64 0) <| .nil) [0, 3] fun u2 a w' H => ?_
 refine qs ?_
 obtain ⟨j4, hj4, G⟩ := qP G
 refine Qw (fun a w' => RL w 23 [(3, .slot true (.int .u64 j4))] a w') ?_ ?_
 ·clear H; intro a w' H
  refine qg qd H (.v 21 (.int .u64 j4) <|
 .v 22 (vI (qe j4)) <|
 .v 2 (vI (qe j4)) <| .nil) [2] fun u5 a w' H => ?_
  refine q7 ?_
  obtain rfl := sj G
  exact QG H _ (by kernel_rfl) (by kernel_rfl)
 ·clear G; replace G := hj4; clear hj4
  refine qg qd H (.v 4 (.int .u64 2147483648) <| .nil) [0, 3, 4] fun u6 a w' H => ?_
  refine qA ?_
  refine Qv (fun m a w' => ∃ x7 : Int, ∃ x8 : Int, XJ.l9 k0 a0 m x7 x8 = some j4 ∧ RL w 23 [(0, .slot true (.int .u64 a0)), (3, .slot true (.int .u64 x7)), (4, .slot true (.int .u64 x8))] a w') k0 ⟨_, _, G, H.toM _⟩ ?_
  clear G H
  rintro (_ | k) a w' ⟨x7, x8, G, H⟩
  ·exact absurd G (by unfold XJ.l9; exact fun h => by cases h)
  ·unfold XJ.l9 at G
   refine qs ?_
   refine qg qd H (.v 5 (.int .u64 x8) <|
 .v 6 (.bool (decide (x8 > 0))) <| .nil) [0, 3, 4, 6] fun u10 a w' H => ?_
   refine Qr H (decide (x8 > 0)) (fun c17 => ?_) fun c17 => ?_
   ·rw [if_pos c17] at G
    refine qT ?_
    refine qs ?_
    obtain ⟨j12, hj12, G⟩ := qP G
    refine Qw (fun a w' => RL w 23 [(0, .slot true (.int .u64 a0)), (3, .slot true (.int .u64 j12)), (4, .slot true (.int .u64 x8))] a w') ?_ ?_
    ·clear H; intro a w' H
     refine qN qd H (.v 7 (.int .u64 x8) <|
 .v 8 (.int .u64 (Int.fdiv x8 2)) <|
 .v 4 (.int .u64 (Int.fdiv x8 2)) <| .nil) [0, 3, 4] fun u13 a w' H => ?_
     exact ⟨k, Nat.lt_succ_self k, _, _, G, H.toM _⟩
    ·clear G; replace G := hj12; clear hj12
     refine qA ?_
     refine qg qd H (.v 9 (.int .u64 x7) <|
 .v 10 (.int .u64 x8) <|
 .v 11 (.int .u64 (XI (x7 + x8))) <|
 .v 12 (.int .u64 x7) <|
 .v 13 (.int .u64 x8) <|
 .v 14 (.int .u64 (XI (x7 + x8))) <|
 .v 15 (.int .u64 (XI ((XI (x7 + x8)) * (XI (x7 + x8))))) <|
 .v 16 (.int .u64 a0) <|
 .v 17 (.bool (decide ((XI ((XI (x7 + x8)) * (XI (x7 + x8)))) ≤ a0))) <| .nil) [0, 3, 4, 17] fun u14 a w' H => ?_
     refine Qr H (decide ((XI ((XI (x7 + x8)) * (XI (x7 + x8)))) ≤ a0)) (fun c16 => ?_) fun c16 => ?_
     ·rw [if_pos c16] at G
      refine qN qd H (.v 18 (.int .u64 x7) <|
 .v 19 (.int .u64 x8) <|
 .v 20 (.int .u64 (XI (x7 + x8))) <|
 .v 3 (.int .u64 (XI (x7 + x8))) <| .nil) [0, 3, 4] fun u15 a w' H => ?_
      obtain rfl := sj G
      exact H.toM _
     ·rw [if_neg (nt c16)] at G
      refine qT ?_
      obtain rfl := sj G
      exact H.toM _
   ·rw [if_neg (nt c17)] at G
    refine QO rfl ?_
    obtain rfl := sj G
    exact H.toM _
theorem Qn.calls (k0 : Nat) (a0 : qG) (r : Int) (w : World) (G : Qn k0 a0 = some r) :
  Calls Tryz.prog 91 #[.agg #[vI a0.e0, vI a0.e1, vI a0.e2, vI a0.e3, vI a0.e4, vI a0.e5]] w fun e w' => e = .returned (vI r) ∧ Below w.heap.size w w' := by
 refine Q4 (args := [.agg #[vI a0.e0, vI a0.e1, vI a0.e2, vI a0.e3, vI a0.e4, vI a0.e5]]) 19 Tryz.func91 rfl (by kernel_rfl) (by kernel_rfl) fun a H => ?_
 unfold Qn at G
 refine qg qd H (.cons [1, 19] (qH (fun b => vP b 0) (fun u1 => [vI a0.e0, vI a0.e1, vI a0.e2, vI a0.e3, vI a0.e4, vI a0.e5]) 69 1 19) <|
 .v 2 (vI 0) <| .nil) [1, 19] fun u1 a w' H => ?_
 refine qg qd H (.v 3 (.int .u64 0) <| .nil) [1, 3, 19] fun u2 a w' H => ?_
 refine qs ?_
 replace G := qP G; obtain ⟨j4, hj4, G⟩ := G
 refine Qw (fun a w' => RL w 19 [(3, .slot true (.int .u64 j4))] a w') ?_ ?_
 ·clear H; intro a w' H
  replace G := qP G; obtain ⟨t6, ht6, G⟩ := G
  refine qg qd H (.v 17 (.int .u64 j4) <|
 .cons [18] (qo 100 _ _ 18 [] (fun u5 w _ => XJ.calls k0 j4  t6 w  ht6)) <|
 .v 2 (vI t6) <| .nil) [2] fun u5 a w' H => ?_
  refine q7 ?_
  obtain rfl := sj G
  exact QG H _ (by kernel_rfl) (by kernel_rfl)
 ·clear G; replace G := hj4; clear hj4
  refine qg qd H (.cons [6] (qv (.agg #[vI a0.e0, vI a0.e1, vI a0.e2, vI a0.e3, vI a0.e4, vI a0.e5]) 6 19 0 6 ((u1 0).n 0) [vI a0.e0, vI a0.e1, vI a0.e2, vI a0.e3, vI a0.e4, vI a0.e5] 69) <|
 .v 7 (vI 0) <| .nil) [3, 6, 7] fun u7 a w' H => ?_
  refine qA ?_
  refine Qv (fun m a w' => ∃ x8 : Int, ∃ x9 : Int, Qn.l10 k0 a0 m x8 x9 = some j4 ∧ RL w 19 [(3, .slot true (.int .u64 x8)), (6, .slot true (.agg #[vI a0.e0, vI a0.e1, vI a0.e2, vI a0.e3, vI a0.e4, vI a0.e5])), (7, sI x9)] a w') k0 ⟨_, _, G, H.toM _⟩ ?_
  clear G H
  rintro (_ | k) a w' ⟨x8, x9, G, H⟩
  ·exact absurd G (by unfold Qn.l10; exact fun h => by cases h)
  ·unfold Qn.l10 at G
   refine qg qd H (.v 8 (.bool (decide (x9 < 6))) <| .nil) [3, 6, 7, 8] fun u11 a w' H => ?_
   refine qs ?_
   refine Qr H (decide (x9 < 6)) (fun c36 => ?_) fun c36 => ?_
   ·rw [if_pos c36] at G
    refine qT ?_
    refine qs ?_
    refine qA ?_
    refine qs ?_
    by_cases c30 : x9 = 0
    ·rw [if_pos c30] at G; subst c30
     refine qN qd H (.v 9 (vI a0.e0) <|
 .v 5 (vI a0.e0) <| .nil) [3, 5, 6, 7] fun u12 a w' H => ?_
     refine qN qd H (.v 10 (.int .u64 x8) <|
 .v 11 (vI a0.e0) <|
 .v 12 (vI a0.e0) <|
 .v 13 (vI (qe (a0.e0 * a0.e0))) <|
 .v 14 (.int .u64 (XI (qe (a0.e0 * a0.e0)))) <|
 .v 15 (.int .u64 (XI (x8 + (XI (qe (a0.e0 * a0.e0)))))) <|
 .v 3 (.int .u64 (XI (x8 + (XI (qe (a0.e0 * a0.e0)))))) <| .nil) [3, 6, 7] fun u13 a w' H => ?_
     refine qN qd H (.v 16 (vI (qe (0 + 1))) <|
 .v 7 (vI (qe (0 + 1))) <| .nil) [3, 6, 7] fun u14 a w' H => ?_
     exact ⟨k, Nat.lt_succ_self k, _, _, G, H.toM _⟩
    rw [if_neg c30] at G
    by_cases c31 : x9 = 1
    ·rw [if_pos c31] at G; subst c31
     refine qN qd H (.v 9 (vI a0.e1) <|
 .v 5 (vI a0.e1) <| .nil) [3, 5, 6, 7] fun u15 a w' H => ?_
     refine qN qd H (.v 10 (.int .u64 x8) <|
 .v 11 (vI a0.e1) <|
 .v 12 (vI a0.e1) <|
 .v 13 (vI (qe (a0.e1 * a0.e1))) <|
 .v 14 (.int .u64 (XI (qe (a0.e1 * a0.e1)))) <|
 .v 15 (.int .u64 (XI (x8 + (XI (qe (a0.e1 * a0.e1)))))) <|
 .v 3 (.int .u64 (XI (x8 + (XI (qe (a0.e1 * a0.e1)))))) <| .nil) [3, 6, 7] fun u16 a w' H => ?_
     refine qN qd H (.v 16 (vI (qe (1 + 1))) <|
 .v 7 (vI (qe (1 + 1))) <| .nil) [3, 6, 7] fun u17 a w' H => ?_
     exact ⟨k, Nat.lt_succ_self k, _, _, G, H.toM _⟩
    rw [if_neg c31] at G
    by_cases c32 : x9 = 2
    ·rw [if_pos c32] at G; subst c32
     refine qN qd H (.v 9 (vI a0.e2) <|
 .v 5 (vI a0.e2) <| .nil) [3, 5, 6, 7] fun u18 a w' H => ?_
     refine qN qd H (.v 10 (.int .u64 x8) <|
 .v 11 (vI a0.e2) <|
 .v 12 (vI a0.e2) <|
 .v 13 (vI (qe (a0.e2 * a0.e2))) <|
 .v 14 (.int .u64 (XI (qe (a0.e2 * a0.e2)))) <|
 .v 15 (.int .u64 (XI (x8 + (XI (qe (a0.e2 * a0.e2)))))) <|
 .v 3 (.int .u64 (XI (x8 + (XI (qe (a0.e2 * a0.e2)))))) <| .nil) [3, 6, 7] fun u19 a w' H => ?_
     refine qN qd H (.v 16 (vI (qe (2 + 1))) <|
 .v 7 (vI (qe (2 + 1))) <| .nil) [3, 6, 7] fun u20 a w' H => ?_
     exact ⟨k, Nat.lt_succ_self k, _, _, G, H.toM _⟩
    rw [if_neg c32] at G
    by_cases c33 : x9 = 3
    ·rw [if_pos c33] at G; subst c33
     refine qN qd H (.v 9 (vI a0.e3) <|
 .v 5 (vI a0.e3) <| .nil) [3, 5, 6, 7] fun u21 a w' H => ?_
     refine qN qd H (.v 10 (.int .u64 x8) <|
 .v 11 (vI a0.e3) <|
 .v 12 (vI a0.e3) <|
 .v 13 (vI (qe (a0.e3 * a0.e3))) <|
 .v 14 (.int .u64 (XI (qe (a0.e3 * a0.e3)))) <|
 .v 15 (.int .u64 (XI (x8 + (XI (qe (a0.e3 * a0.e3)))))) <|
 .v 3 (.int .u64 (XI (x8 + (XI (qe (a0.e3 * a0.e3)))))) <| .nil) [3, 6, 7] fun u22 a w' H => ?_
     refine qN qd H (.v 16 (vI (qe (3 + 1))) <|
 .v 7 (vI (qe (3 + 1))) <| .nil) [3, 6, 7] fun u23 a w' H => ?_
     exact ⟨k, Nat.lt_succ_self k, _, _, G, H.toM _⟩
    rw [if_neg c33] at G
    by_cases c34 : x9 = 4
    ·rw [if_pos c34] at G; subst c34
     refine qN qd H (.v 9 (vI a0.e4) <|
 .v 5 (vI a0.e4) <| .nil) [3, 5, 6, 7] fun u24 a w' H => ?_
     refine qN qd H (.v 10 (.int .u64 x8) <|
 .v 11 (vI a0.e4) <|
 .v 12 (vI a0.e4) <|
 .v 13 (vI (qe (a0.e4 * a0.e4))) <|
 .v 14 (.int .u64 (XI (qe (a0.e4 * a0.e4)))) <|
 .v 15 (.int .u64 (XI (x8 + (XI (qe (a0.e4 * a0.e4)))))) <|
 .v 3 (.int .u64 (XI (x8 + (XI (qe (a0.e4 * a0.e4)))))) <| .nil) [3, 6, 7] fun u25 a w' H => ?_
     refine qN qd H (.v 16 (vI (qe (4 + 1))) <|
 .v 7 (vI (qe (4 + 1))) <| .nil) [3, 6, 7] fun u26 a w' H => ?_
     exact ⟨k, Nat.lt_succ_self k, _, _, G, H.toM _⟩
    rw [if_neg c34] at G
    by_cases c35 : x9 = 5
    ·rw [if_pos c35] at G; subst c35
     refine qN qd H (.v 9 (vI a0.e5) <|
 .v 5 (vI a0.e5) <| .nil) [3, 5, 6, 7] fun u27 a w' H => ?_
     refine qN qd H (.v 10 (.int .u64 x8) <|
 .v 11 (vI a0.e5) <|
 .v 12 (vI a0.e5) <|
 .v 13 (vI (qe (a0.e5 * a0.e5))) <|
 .v 14 (.int .u64 (XI (qe (a0.e5 * a0.e5)))) <|
 .v 15 (.int .u64 (XI (x8 + (XI (qe (a0.e5 * a0.e5)))))) <|
 .v 3 (.int .u64 (XI (x8 + (XI (qe (a0.e5 * a0.e5)))))) <| .nil) [3, 6, 7] fun u28 a w' H => ?_
     refine qN qd H (.v 16 (vI (qe (5 + 1))) <|
 .v 7 (vI (qe (5 + 1))) <| .nil) [3, 6, 7] fun u29 a w' H => ?_
     exact ⟨k, Nat.lt_succ_self k, _, _, G, H.toM _⟩
    rw [if_neg c35] at G
    cases G
   ·rw [if_neg (nt c36)] at G
    refine QO rfl ?_
    obtain rfl := sj G
    exact H.toM _
theorem Xq.calls (a0 : Int) (a1 : Int) (a2 : Int) (r : Int × Int × Int) (w : World) (G : Xq a0 a1 a2 = some r) :
  Calls Tryz.prog 92 #[vI a0, vI a1, vI a2] w fun e w' => e = .returned (.tuple #[vI r.1, vI r.2.1, vI r.2.2]) ∧ Below w.heap.size w w' := by
 refine Q4 (args := [vI a0, vI a1, vI a2]) 35 Tryz.func92 rfl (by kernel_rfl) (by kernel_rfl) fun a H => ?_
 unfold Xq at G
 refine qg qd H (.v 6 (vI 0) <|
 .v 7 (vI 0) <|
 .v 8 (vI 0) <| .nil) [0, 1, 2] fun u1 a w' H => ?_
 refine qs ?_
 refine qg qd H (.v 11 (vI a1) <|
 .v 12 (.bool (decide (a1 < (-1073741824)))) <|
 .v 13 (.bool (decide (a1 < (-1073741824)))) <|
 .cons [14] (Qc (fun u2 => vI a1) (fun u2 => ((decide (a1 < (-1073741824))) == false)) [true] 14) <|
 .cons [15] (Qc (fun u2 => .bool (decide (a1 > 1073741824))) (fun u2 => ((decide (a1 < (-1073741824))) == false)) [false, true] 15) <|
 .cons [16] (Zt 13 15 (fun u2 => true) (fun u2 => true) (fun u2 => decide (a1 < (-1073741824))) (fun u2 => decide (a1 > 1073741824)) 16) <|
 .v 17 (.bool ((decide (a1 < (-1073741824))) || (decide (a1 > 1073741824)))) <|
 .cons [18] (Qc (fun u2 => vI a2) (fun u2 => (((decide (a1 < (-1073741824))) || (decide (a1 > 1073741824))) == false)) [true] 18) <|
 .cons [19] (Qc (fun u2 => .bool (decide (a2 < 1))) (fun u2 => (((decide (a1 < (-1073741824))) || (decide (a1 > 1073741824))) == false)) [false, true] 19) <|
 .cons [20] (Zt 17 19 (fun u2 => true) (fun u2 => true) (fun u2 => ((decide (a1 < (-1073741824))) || (decide (a1 > 1073741824)))) (fun u2 => decide (a2 < 1)) 20) <|
 .v 21 (.bool (((decide (a1 < (-1073741824))) || (decide (a1 > 1073741824))) || (decide (a2 < 1)))) <|
 .cons [22] (Qc (fun u2 => vI a2) (fun u2 => ((((decide (a1 < (-1073741824))) || (decide (a1 > 1073741824))) || (decide (a2 < 1))) == false)) [true] 22) <|
 .cons [23] (Qc (fun u2 => .bool (decide (a2 > 1073741824))) (fun u2 => ((((decide (a1 < (-1073741824))) || (decide (a1 > 1073741824))) || (decide (a2 < 1))) == false)) [false, true] 23) <|
 .cons [24] (Zt 21 23 (fun u2 => true) (fun u2 => true) (fun u2 => (((decide (a1 < (-1073741824))) || (decide (a1 > 1073741824))) || (decide (a2 < 1)))) (fun u2 => decide (a2 > 1073741824)) 24) <| .nil) [0, 1, 2, 24] fun u2 a w' H => ?_
 refine Qr H ((((decide (a1 < (-1073741824))) || (decide (a1 > 1073741824))) || (decide (a2 < 1))) || (decide (a2 > 1073741824))) (fun c7 => ?_) fun c7 => ?_
 ·rw [if_pos c7] at G
  refine qg qd H (.v 6 (vI 0) <|
 .v 7 (vI 0) <|
 .v 8 (vI 1) <| .nil) [6, 7, 8] fun u3 a w' H => ?_
  refine q7 ?_
  obtain rfl := sj G
  exact QG H _ (by kernel_rfl) (by kernel_rfl)
 ·rw [if_neg (nt c7)] at G
  refine qT ?_
  obtain ⟨t5, ht5, G⟩ := qP G
  refine qg qd H (.v 26 (vI a0) <|
 .v 27 (vI a1) <|
 .v 28 (vI (qe (a0 * a1))) <|
 .v 29 (vI a2) <|
 .cons [30] (qo 97 _ _ 30 [] (fun u4 w _ => Yp.calls (qe (a0 * a1)) a2  t5 w  ht5)) <|
 .v 25 (.tuple #[vI t5.1, vI t5.2]) <|
 .v 31 (vI t5.1) <|
 .v 32 (vI t5.2) <|
 .v 9 (vI t5.1) <|
 .v 10 (vI t5.2) <| .nil) [9, 10] fun u4 a w' H => ?_
  refine qg qd H (.v 33 (vI t5.1) <|
 .v 34 (vI t5.2) <|
 .v 6 (vI t5.1) <|
 .v 7 (vI t5.2) <|
 .v 8 (vI 0) <| .nil) [6, 7, 8] fun u6 a w' H => ?_
  refine q7 ?_
  obtain rfl := sj G
  exact QG H _ (by kernel_rfl) (by kernel_rfl)
theorem qu.calls (k0 : Nat) (a0 : Zx) (a1 : qG) (b_a0 : Nat) (p_a0_columns : Option Addr) (c_a0_columns : Nat) (r : qG) (w : World) (hB : Yj [Qh qi 6 p_a0_columns c_a0_columns a0.columns qn, X7 b_a0 [vI a0.n, .slice p_a0_columns a0.columns.length c_a0_columns] 72] w) (G : qu k0 a0 a1 = some r) :
  Calls Tryz.prog 90 #[vP b_a0 0, .agg #[vI a1.e0, vI a1.e1, vI a1.e2, vI a1.e3, vI a1.e4, vI a1.e5]] w fun e w' => e = .returned (.agg #[vI r.e0, vI r.e1, vI r.e2, vI r.e3, vI r.e4, vI r.e5]) ∧ Below w.heap.size w w' := by
 obtain ⟨fr, hfr⟩ : ∃ fr : Nat → Prop, ∀ j, fr j := ⟨fun _ => True, fun _ => trivial⟩
 have hBf : ∀ j, w.heap.size ≤ j → fr j := fun j _ => hfr j
 refine QQ (args := [vP b_a0 0, .agg #[vI a1.e0, vI a1.e1, vI a1.e2, vI a1.e3, vI a1.e4, vI a1.e5]]) 78 [(79, Qh qi 6 p_a0_columns c_a0_columns a0.columns qn), (78, X7 b_a0 [vI a0.n, .slice p_a0_columns a0.columns.length c_a0_columns] 72)] (by
  intro x hx
  simp only [List.mem_cons, List.not_mem_nil, or_false] at hx
  rcases hx with rfl | rfl
  ·exact Ql (qq hB.1) (fun _ _ => trivial) (by decide) _
  ·exact Q3 (hB.2.1 w (agree.refl _ _)) _) Tryz.func90 rfl (by kernel_rfl) (by kernel_rfl) fun a H => ?_
 unfold qu at G
 refine qg qd H (.cons [3, 80] (qH (fun b => vP b 0) (fun u1 => [vI a1.e0, vI a1.e1, vI a1.e2, vI a1.e3, vI a1.e4, vI a1.e5]) 69 3 80) <|
 .cons [4, 81] (qH (fun b => vP b 0) (fun u1 => [vI 0, vI 0, vI 0, vI 0, vI 0, vI 0]) 69 4 81) <| .nil) [0, 3, 4, 79, 80, 81, 78] fun u1 a w' H => ?_
 refine qs ?_
 replace G := qP G; obtain ⟨j8, hj8, G⟩ := G
 refine Qw (fun a w' => RL w 78 [(3, (sP ((u1 0).n 0) 0)), (4, (sP ((u1 1).n 0) 0)), (79, Qh qi 6 p_a0_columns c_a0_columns a0.columns qn), (80, .blk ((u1 0).n 0) [vI j8.1, vI j8.2.1, vI j8.2.2.1, vI j8.2.2.2.1, vI j8.2.2.2.2.1, vI j8.2.2.2.2.2] 69), (81, .blk ((u1 1).n 0) [vI 0, vI 0, vI 0, vI 0, vI 0, vI 0] 69), (78, X7 b_a0 [vI a0.n, .slice p_a0_columns a0.columns.length c_a0_columns] 72)] a w') ?_ ?_
 ·clear H; intro a w' H
  refine qg qd H (.cons [77] (qv (.agg #[vI j8.1, vI j8.2.1, vI j8.2.2.1, vI j8.2.2.2.1, vI j8.2.2.2.2.1, vI j8.2.2.2.2.2]) 77 80 0 6 ((u1 0).n 0) [vI j8.1, vI j8.2.1, vI j8.2.2.1, vI j8.2.2.2.1, vI j8.2.2.2.2.1, vI j8.2.2.2.2.2] 69) <|
 .cons [81] (QV 81 0 ((u1 1).n 0) [vI 0, vI 0, vI 0, vI 0, vI 0, vI 0] [vI j8.1, vI j8.2.1, vI j8.2.2.1, vI j8.2.2.2.1, vI j8.2.2.2.2.1, vI j8.2.2.2.2.2] 69 [vI j8.1, vI j8.2.1, vI j8.2.2.1, vI j8.2.2.2.1, vI j8.2.2.2.2.1, vI j8.2.2.2.2.2]) <| .nil) [4, 79, 81, 78] fun u9 a w' H => ?_
  refine q7 ?_
  obtain rfl := sj G
  exact Xe H _ 81 ((u1 1).n 0) [vI j8.1, vI j8.2.1, vI j8.2.2.1, vI j8.2.2.2.1, vI j8.2.2.2.2.1, vI j8.2.2.2.2.2] 69 0 6 (by kernel_rfl) (by kernel_rfl) (by kernel_rfl) (by kernel_rfl)
 ·clear G; replace G := hj8; clear hj8
  refine qs ?_
  replace G := qP G; obtain ⟨t11, ht11, G⟩ := G
  refine WU qd H (.v 14 (vP b_a0 0) <|
 .v 15 (vP b_a0 0) <|
 .v 16 (vP b_a0 1) <|
 .cons [17] (XX (fun u10 => .slice p_a0_columns a0.columns.length c_a0_columns) 17 78 (X7 b_a0 [vI a0.n, .slice p_a0_columns a0.columns.length c_a0_columns] 72) b_a0 1 1 [vI a0.n, .slice p_a0_columns a0.columns.length c_a0_columns] (fun w h => Za h)) <|
 .v 18 (vP b_a0 0) <|
 .v 19 (vP b_a0 0) <|
 .v 20 (vP b_a0 1) <|
 .cons [21] (XX (fun u10 => .slice p_a0_columns a0.columns.length c_a0_columns) 21 78 (X7 b_a0 [vI a0.n, .slice p_a0_columns a0.columns.length c_a0_columns] 72) b_a0 1 1 [vI a0.n, .slice p_a0_columns a0.columns.length c_a0_columns] (fun w h => Za h)) <|
 .v 22 (vP b_a0 0) <|
 .v 23 (vP b_a0 0) <|
 .v 24 (vP b_a0 1) <|
 .cons [25] (XX (fun u10 => .slice p_a0_columns a0.columns.length c_a0_columns) 25 78 (X7 b_a0 [vI a0.n, .slice p_a0_columns a0.columns.length c_a0_columns] 72) b_a0 1 1 [vI a0.n, .slice p_a0_columns a0.columns.length c_a0_columns] (fun w h => Za h)) <|
 .cons [26, 82] (YE 1 3 (qH (fun b => .slice (some ⟨b, 0, none⟩) 3 3) (fun u10 => [.slice p_a0_columns a0.columns.length c_a0_columns, .slice p_a0_columns a0.columns.length c_a0_columns, .slice p_a0_columns a0.columns.length c_a0_columns]) 67 26 82) (fun _ => rfl) (by decide)) <|
 .cons [27, 83] (Qo false fr [12] [82, 79] (fun u10 => [Yo 67 1 (some ⟨((u10 12).n 0), 0, none⟩) 3 3 (([⟨p_a0_columns, c_a0_columns, a0.columns⟩, ⟨p_a0_columns, c_a0_columns, a0.columns⟩, ⟨p_a0_columns, c_a0_columns, a0.columns⟩] : List (Sl qG)).flatMap ql), Qh qi 6 p_a0_columns c_a0_columns a0.columns qn]) [] (fun u10 => []) 99 _ _ _ _ _ [83] 27 (fun u10 w hB hF hM => Qu.calls k0 ([a0.columns, a0.columns, a0.columns] : List (List qG)) (some ⟨((u10 12).n 0), 0, none⟩) 3 ([⟨p_a0_columns, c_a0_columns, a0.columns⟩, ⟨p_a0_columns, c_a0_columns, a0.columns⟩, ⟨p_a0_columns, c_a0_columns, a0.columns⟩] : List (Sl qG)) t11 w rfl hB ht11) (fun u10 w hF => ⟨⟨QP (qY (QN hF.1)) (fun j h => ⟨_, (.head _), (Zm h)⟩), Xk (E := ZA.toPart) (L := ([⟨p_a0_columns, c_a0_columns, a0.columns⟩, ⟨p_a0_columns, c_a0_columns, a0.columns⟩, ⟨p_a0_columns, c_a0_columns, a0.columns⟩] : List (Sl qG))) (ZL ⟨(qq hF.2.1), fun _ _ => trivial⟩ (ZL ⟨(qq hF.2.1), fun _ _ => trivial⟩ (ZL ⟨(qq hF.2.1), fun _ _ => trivial⟩ Zw))) (fun j => (fun h => (JM h).elim (fun h => (h.elim (fun h => ⟨_, (.tail _ (.head _)), h⟩) (fun ⟨_, _, hz⟩ => hz.elim))) (fun h => (JM h).elim (fun h => (h.elim (fun h => ⟨_, (.tail _ (.head _)), h⟩) (fun ⟨_, _, hz⟩ => hz.elim))) (fun h => (JM h).elim (fun h => (h.elim (fun h => ⟨_, (.tail _ (.head _)), h⟩) (fun ⟨_, _, hz⟩ => hz.elim))) (fun h => by obtain ⟨_, hy, _⟩ := h; cases hy))))), trivial⟩, trivial⟩) (fun u10 g => (qx X2 qI)) (.inr (fun u10 g => (Qj trivial (fun K h => by cases h)))) (fun h => by cases h) (hloc := fun u u' h => ⟨by first | rfl | simp only [h 12 (by decide)], by first | rfl | simp only [h 12 (by decide)], by first | rfl | simp only [h 12 (by decide)], by first | rfl | simp only [h 12 (by decide)], by first | rfl | simp only [h 12 (by decide)], by first | rfl | simp only [h 12 (by decide)]⟩)) <|
 .v 28 (vI (t11.length : Int)) <|
 .v 29 (vI 0) <| .nil) (by kernel_rfl) fun u10 a w' H => ?_
  replace H := H.kp [0, 3, 4, 27, 28, 29, 79, 80, 81, 83, 78]
  refine qA ?_
  refine Qv (fun m a w' => ∃ x12 : Int, ∃ x13 : Int, ∃ x14 : Int, ∃ x15 : Int, ∃ x16 : Int, ∃ x17 : Int, ∃ x18 : Int, qu.l19 k0 a0 a1 t11 m x12 x13 x14 x15 x16 x17 x18 = some j8 ∧ RL w 78 [(0, sP b_a0 0), (3, (sP ((u1 0).n 0) 0)), (4, (sP ((u1 1).n 0) 0)), (27, (sS ((u10 13).o 0) t11.length ((u10 13).n 0))), (28, (sI (t11.length : Int))), (29, sI x18), (79, Qh qi 6 p_a0_columns c_a0_columns a0.columns qn), (80, .blk ((u1 0).n 0) [vI x12, vI x13, vI x14, vI x15, vI x16, vI x17] 69), (81, .blk ((u1 1).n 0) [vI 0, vI 0, vI 0, vI 0, vI 0, vI 0] 69), (83, QU 69 6 ((u10 13).o 0) ((u10 13).n 0) t11 qn), (78, X7 b_a0 [vI a0.n, .slice p_a0_columns a0.columns.length c_a0_columns] 72)] a w') k0 ⟨_, _, _, _, _, _, _, G, H.toM _⟩ ?_
  clear G H
  rintro (_ | k) a w' ⟨x12, x13, x14, x15, x16, x17, x18, G, H⟩
  ·exact absurd G (by unfold qu.l19; exact fun h => by cases h)
  ·unfold qu.l19 at G
   refine qg qd H (.v 30 (.bool (decide (x18 < (t11.length : Int)))) <| .nil) [0, 3, 4, 27, 28, 29, 30, 79, 80, 81, 83, 78] fun u20 a w' H => ?_
   refine qs ?_
   refine Qr H (decide (x18 < (t11.length : Int))) (fun c114 => ?_) fun c114 => ?_
   ·rw [if_pos c114] at G
    refine qT ?_
    refine qs ?_
    replace G := qP G; obtain ⟨j27, hj27, G⟩ := G
    refine Qw (fun a w' => RL w 78 [(0, sP b_a0 0), (3, (sP ((u1 0).n 0) 0)), (4, (sP ((u1 1).n 0) 0)), (27, (sS ((u10 13).o 0) t11.length ((u10 13).n 0))), (28, (sI (t11.length : Int))), (29, sI x18), (79, Qh qi 6 p_a0_columns c_a0_columns a0.columns qn), (80, .blk ((u1 0).n 0) [vI j27.1, vI j27.2.1, vI j27.2.2.1, vI j27.2.2.2.1, vI j27.2.2.2.2.1, vI j27.2.2.2.2.2] 69), (81, .blk ((u1 1).n 0) [vI 0, vI 0, vI 0, vI 0, vI 0, vI 0] 69), (83, QU 69 6 ((u10 13).o 0) ((u10 13).n 0) t11 qn), (78, X7 b_a0 [vI a0.n, .slice p_a0_columns a0.columns.length c_a0_columns] 72)] a w') ?_ ?_
    ·clear H; intro a w' H
     refine qN qd H (.v 76 (vI (qe (x18 + 1))) <|
 .v 29 (vI (qe (x18 + 1))) <| .nil) [0, 3, 4, 27, 28, 29, 79, 80, 81, 83, 78] fun u28 a w' H => ?_
     exact ⟨k, Nat.lt_succ_self k, _, _, _, _, _, _, _, G, H.toM _⟩
    ·clear G; replace G := hj27; clear hj27
     refine qA ?_
     refine qs ?_
     replace G := gd G; obtain ⟨b30, G⟩ := G
     replace G := qP G; obtain ⟨t31, ht31, G⟩ := G
     refine qN qd H (.cons [31] (qy 83 (QU 69 6 ((u10 13).o 0) ((u10 13).n 0) t11 qn) (.pointer (some ⟨XB ((u10 13).o 0), XC ((u10 13).o 0) + x18.toNat * 6, none⟩)) 31 fun _ w h => Z6 (t := 67) (k := .i64) (i := x18) (p := ((u10 13).o 0)) (n := t11.length) (cap := ((u10 13).n 0)) (x := t11) (en := qn) (qY (QN h)).2 Qq rfl b30 (by kernel_rfl)) <|
 .cons [32] (qy 83 (QU 69 6 ((u10 13).o 0) ((u10 13).n 0) t11 qn) (.agg #[vI t31.e0, vI t31.e1, vI t31.e2, vI t31.e3, vI t31.e4, vI t31.e5]) 32 fun _ w h => Ya qn (qY (QN h)).2 Qq ht31 0 6 [vI t31.e0, vI t31.e1, vI t31.e2, vI t31.e3, vI t31.e4, vI t31.e5]) <|
 .cons [6, 84] (qH (fun b => vP b 0) (fun u29 => [vI 0, vI 0, vI 0, vI 0, vI 0, vI 0]) 69 6 84) <|
 .cons [84] (XO (u' := fun u29 => [(84, .blk ((u29 2).n 0) [vI t31.e0, vI t31.e1, vI t31.e2, vI t31.e3, vI t31.e4, vI t31.e5] 69)]) (X1 84 0 (fun u29 => ((u29 2).n 0)) (fun u29 => [vI 0, vI 0, vI 0, vI 0, vI 0, vI 0]) (fun u29 => [vI t31.e0, vI t31.e1, vI t31.e2, vI t31.e3, vI t31.e4, vI t31.e5]) 69) (fun _ => by kernel_rfl)) <| .nil) [0, 3, 4, 6, 27, 28, 29, 79, 80, 81, 83, 84, 78] fun u29 a w' H => ?_
     refine qg qd H (.v 7 (vI 0) <| .nil) [0, 3, 4, 6, 7, 27, 28, 29, 79, 80, 81, 83, 84, 78] fun u32 a w' H => ?_
     refine qs ?_
     replace G := qP G; obtain ⟨j34, hj34, G⟩ := G
     refine Qw (fun a w' => RL w 78 [(0, sP b_a0 0), (3, (sP ((u1 0).n 0) 0)), (4, (sP ((u1 1).n 0) 0)), (6, (sP ((u29 2).n 0) 0)), (7, sI j34), (27, (sS ((u10 13).o 0) t11.length ((u10 13).n 0))), (28, (sI (t11.length : Int))), (29, sI x18), (79, Qh qi 6 p_a0_columns c_a0_columns a0.columns qn), (80, .blk ((u1 0).n 0) [vI x12, vI x13, vI x14, vI x15, vI x16, vI x17] 69), (81, .blk ((u1 1).n 0) [vI 0, vI 0, vI 0, vI 0, vI 0, vI 0] 69), (83, QU 69 6 ((u10 13).o 0) ((u10 13).n 0) t11 qn), (84, .blk ((u29 2).n 0) [vI t31.e0, vI t31.e1, vI t31.e2, vI t31.e3, vI t31.e4, vI t31.e5] 69), (78, X7 b_a0 [vI a0.n, .slice p_a0_columns a0.columns.length c_a0_columns] 72)] a w') ?_ ?_
     ·clear H; intro a w' H
      refine qg qd H (.v 54 (vP b_a0 0) <|
 .v 55 (vP b_a0 0) <|
 .v 56 (vP b_a0 0) <|
 .cons [57] (XX (fun u35 => vI a0.n) 57 78 (X7 b_a0 [vI a0.n, .slice p_a0_columns a0.columns.length c_a0_columns] 72) b_a0 0 1 [vI a0.n, .slice p_a0_columns a0.columns.length c_a0_columns] (fun w h => Za h)) <|
 .v 58 (vI 0) <| .nil) [0, 3, 4, 6, 7, 27, 28, 29, 57, 58, 79, 80, 81, 83, 84, 78] fun u35 a w' H => ?_
      refine qA ?_
      refine Qv (fun m a w' => ∃ x36 : Int, ∃ x37 : Int, ∃ x38 : Int, ∃ x39 : Int, ∃ x40 : Int, ∃ x41 : Int, ∃ x42 : Int, qu.l43 k0 a0 a1 t11 x12 x13 x14 x15 x16 x17 x18 t31 j34 m x36 x37 x38 x39 x40 x41 x42 = some j27 ∧ RL w 78 [(0, sP b_a0 0), (3, (sP ((u1 0).n 0) 0)), (4, (sP ((u1 1).n 0) 0)), (6, (sP ((u29 2).n 0) 0)), (7, sI j34), (27, (sS ((u10 13).o 0) t11.length ((u10 13).n 0))), (28, (sI (t11.length : Int))), (29, sI x18), (57, sI a0.n), (58, sI x42), (79, Qh qi 6 p_a0_columns c_a0_columns a0.columns qn), (80, .blk ((u1 0).n 0) [vI x36, vI x37, vI x38, vI x39, vI x40, vI x41] 69), (81, .blk ((u1 1).n 0) [vI 0, vI 0, vI 0, vI 0, vI 0, vI 0] 69), (83, QU 69 6 ((u10 13).o 0) ((u10 13).n 0) t11 qn), (84, .blk ((u29 2).n 0) [vI t31.e0, vI t31.e1, vI t31.e2, vI t31.e3, vI t31.e4, vI t31.e5] 69), (78, X7 b_a0 [vI a0.n, .slice p_a0_columns a0.columns.length c_a0_columns] 72)] a w') k0 ⟨_, _, _, _, _, _, _, G, H.toM _⟩ ?_
      clear G H
      rintro (_ | k) a w' ⟨x36, x37, x38, x39, x40, x41, x42, G, H⟩
      ·exact absurd G (by unfold qu.l43; exact fun h => by cases h)
      ·unfold qu.l43 at G
       refine qg qd H (.v 59 (.bool (decide (x42 < a0.n))) <| .nil) [0, 3, 4, 6, 7, 27, 28, 29, 57, 58, 59, 79, 80, 81, 83, 84, 78] fun u44 a w' H => ?_
       refine qs ?_
       refine Qr H (decide (x42 < a0.n)) (fun c76 => ?_) fun c76 => ?_
       ·rw [if_pos c76] at G
        refine qT ?_
        refine qs ?_
        refine qA ?_
        refine qg qd H (.v 60 (vI x42) <|
 .v 11 (vI x42) <| .nil) [0, 3, 4, 6, 7, 11, 27, 28, 29, 57, 58, 79, 80, 81, 83, 84, 78] fun u45 a w' H => ?_
        refine qs ?_
        by_cases c70 : x42 = 0
        ·rw [if_pos c70] at G; subst c70
         replace G := qP G; obtain ⟨t47, ht47, G⟩ := G
         refine qN qd H (.v 62 (vI j34) <|
 .v 63 (vI 0) <|
 .v 64 (vP ((u29 2).n 0) 0) <|
 .cons [65] (qv (vI t31.e0) 65 84 0 1 ((u29 2).n 0) [vI t31.e0, vI t31.e1, vI t31.e2, vI t31.e3, vI t31.e4, vI t31.e5] 69) <|
 .cons [66] (qo 84 _ _ 66 [] (fun u46 w _ => Qa.calls j34 t31.e0  t47 w  ht47)) <|
 .v 61 (.tuple #[vI t47.1, vI t47.2]) <|
 .v 67 (vI t47.1) <|
 .v 68 (vI t47.2) <|
 .v 12 (vI t47.1) <|
 .v 13 (vI t47.2) <| .nil) [0, 3, 4, 6, 7, 11, 12, 27, 28, 29, 57, 58, 79, 80, 81, 83, 84, 78] fun u46 a w' H => ?_
         refine qN qd H (.v 69 (vI 0) <|
 .v 70 (vP ((u1 0).n 0) 0) <|
 .cons [71] (qv (vI x36) 71 80 0 1 ((u1 0).n 0) [vI x36, vI x37, vI x38, vI x39, vI x40, vI x41] 69) <|
 .v 72 (vI t47.1) <|
 .v 73 (vI (qe (x36 - t47.1))) <|
 .v 74 (vP ((u1 0).n 0) 0) <|
 .cons [80] (QV 80 0 ((u1 0).n 0) [vI x36, vI x37, vI x38, vI x39, vI x40, vI x41] [vI (qe (x36 - t47.1))] 69 [vI (qe (x36 - t47.1)), vI x37, vI x38, vI x39, vI x40, vI x41]) <| .nil) [0, 3, 4, 6, 7, 27, 28, 29, 57, 58, 79, 80, 81, 83, 84, 78] fun u48 a w' H => ?_
         refine qN qd H (.v 75 (vI (qe (0 + 1))) <|
 .v 58 (vI (qe (0 + 1))) <| .nil) [0, 3, 4, 6, 7, 27, 28, 29, 57, 58, 79, 80, 81, 83, 84, 78] fun u49 a w' H => ?_
         exact ⟨k, Nat.lt_succ_self k, _, _, _, _, _, _, _, G, H.toM _⟩
        rw [if_neg c70] at G
        by_cases c71 : x42 = 1
        ·rw [if_pos c71] at G; subst c71
         replace G := qP G; obtain ⟨t51, ht51, G⟩ := G
         refine qN qd H (.v 62 (vI j34) <|
 .v 63 (vI 1) <|
 .v 64 (vP ((u29 2).n 0) 1) <|
 .cons [65] (qv (vI t31.e1) 65 84 1 1 ((u29 2).n 0) [vI t31.e0, vI t31.e1, vI t31.e2, vI t31.e3, vI t31.e4, vI t31.e5] 69) <|
 .cons [66] (qo 84 _ _ 66 [] (fun u50 w _ => Qa.calls j34 t31.e1  t51 w  ht51)) <|
 .v 61 (.tuple #[vI t51.1, vI t51.2]) <|
 .v 67 (vI t51.1) <|
 .v 68 (vI t51.2) <|
 .v 12 (vI t51.1) <|
 .v 13 (vI t51.2) <| .nil) [0, 3, 4, 6, 7, 11, 12, 27, 28, 29, 57, 58, 79, 80, 81, 83, 84, 78] fun u50 a w' H => ?_
         refine qN qd H (.v 69 (vI 1) <|
 .v 70 (vP ((u1 0).n 0) 1) <|
 .cons [71] (qv (vI x37) 71 80 1 1 ((u1 0).n 0) [vI x36, vI x37, vI x38, vI x39, vI x40, vI x41] 69) <|
 .v 72 (vI t51.1) <|
 .v 73 (vI (qe (x37 - t51.1))) <|
 .v 74 (vP ((u1 0).n 0) 1) <|
 .cons [80] (QV 80 1 ((u1 0).n 0) [vI x36, vI x37, vI x38, vI x39, vI x40, vI x41] [vI (qe (x37 - t51.1))] 69 [vI x36, vI (qe (x37 - t51.1)), vI x38, vI x39, vI x40, vI x41]) <| .nil) [0, 3, 4, 6, 7, 27, 28, 29, 57, 58, 79, 80, 81, 83, 84, 78] fun u52 a w' H => ?_
         refine qN qd H (.v 75 (vI (qe (1 + 1))) <|
 .v 58 (vI (qe (1 + 1))) <| .nil) [0, 3, 4, 6, 7, 27, 28, 29, 57, 58, 79, 80, 81, 83, 84, 78] fun u53 a w' H => ?_
         exact ⟨k, Nat.lt_succ_self k, _, _, _, _, _, _, _, G, H.toM _⟩
        rw [if_neg c71] at G
        by_cases c72 : x42 = 2
        ·rw [if_pos c72] at G; subst c72
         replace G := qP G; obtain ⟨t55, ht55, G⟩ := G
         refine qN qd H (.v 62 (vI j34) <|
 .v 63 (vI 2) <|
 .v 64 (vP ((u29 2).n 0) 2) <|
 .cons [65] (qv (vI t31.e2) 65 84 2 1 ((u29 2).n 0) [vI t31.e0, vI t31.e1, vI t31.e2, vI t31.e3, vI t31.e4, vI t31.e5] 69) <|
 .cons [66] (qo 84 _ _ 66 [] (fun u54 w _ => Qa.calls j34 t31.e2  t55 w  ht55)) <|
 .v 61 (.tuple #[vI t55.1, vI t55.2]) <|
 .v 67 (vI t55.1) <|
 .v 68 (vI t55.2) <|
 .v 12 (vI t55.1) <|
 .v 13 (vI t55.2) <| .nil) [0, 3, 4, 6, 7, 11, 12, 27, 28, 29, 57, 58, 79, 80, 81, 83, 84, 78] fun u54 a w' H => ?_
         refine qN qd H (.v 69 (vI 2) <|
 .v 70 (vP ((u1 0).n 0) 2) <|
 .cons [71] (qv (vI x38) 71 80 2 1 ((u1 0).n 0) [vI x36, vI x37, vI x38, vI x39, vI x40, vI x41] 69) <|
 .v 72 (vI t55.1) <|
 .v 73 (vI (qe (x38 - t55.1))) <|
 .v 74 (vP ((u1 0).n 0) 2) <|
 .cons [80] (QV 80 2 ((u1 0).n 0) [vI x36, vI x37, vI x38, vI x39, vI x40, vI x41] [vI (qe (x38 - t55.1))] 69 [vI x36, vI x37, vI (qe (x38 - t55.1)), vI x39, vI x40, vI x41]) <| .nil) [0, 3, 4, 6, 7, 27, 28, 29, 57, 58, 79, 80, 81, 83, 84, 78] fun u56 a w' H => ?_
         refine qN qd H (.v 75 (vI (qe (2 + 1))) <|
 .v 58 (vI (qe (2 + 1))) <| .nil) [0, 3, 4, 6, 7, 27, 28, 29, 57, 58, 79, 80, 81, 83, 84, 78] fun u57 a w' H => ?_
         exact ⟨k, Nat.lt_succ_self k, _, _, _, _, _, _, _, G, H.toM _⟩
        rw [if_neg c72] at G
        by_cases c73 : x42 = 3
        ·rw [if_pos c73] at G; subst c73
         replace G := qP G; obtain ⟨t59, ht59, G⟩ := G
         refine qN qd H (.v 62 (vI j34) <|
 .v 63 (vI 3) <|
 .v 64 (vP ((u29 2).n 0) 3) <|
 .cons [65] (qv (vI t31.e3) 65 84 3 1 ((u29 2).n 0) [vI t31.e0, vI t31.e1, vI t31.e2, vI t31.e3, vI t31.e4, vI t31.e5] 69) <|
 .cons [66] (qo 84 _ _ 66 [] (fun u58 w _ => Qa.calls j34 t31.e3  t59 w  ht59)) <|
 .v 61 (.tuple #[vI t59.1, vI t59.2]) <|
 .v 67 (vI t59.1) <|
 .v 68 (vI t59.2) <|
 .v 12 (vI t59.1) <|
 .v 13 (vI t59.2) <| .nil) [0, 3, 4, 6, 7, 11, 12, 27, 28, 29, 57, 58, 79, 80, 81, 83, 84, 78] fun u58 a w' H => ?_
         refine qN qd H (.v 69 (vI 3) <|
 .v 70 (vP ((u1 0).n 0) 3) <|
 .cons [71] (qv (vI x39) 71 80 3 1 ((u1 0).n 0) [vI x36, vI x37, vI x38, vI x39, vI x40, vI x41] 69) <|
 .v 72 (vI t59.1) <|
 .v 73 (vI (qe (x39 - t59.1))) <|
 .v 74 (vP ((u1 0).n 0) 3) <|
 .cons [80] (QV 80 3 ((u1 0).n 0) [vI x36, vI x37, vI x38, vI x39, vI x40, vI x41] [vI (qe (x39 - t59.1))] 69 [vI x36, vI x37, vI x38, vI (qe (x39 - t59.1)), vI x40, vI x41]) <| .nil) [0, 3, 4, 6, 7, 27, 28, 29, 57, 58, 79, 80, 81, 83, 84, 78] fun u60 a w' H => ?_
         refine qN qd H (.v 75 (vI (qe (3 + 1))) <|
 .v 58 (vI (qe (3 + 1))) <| .nil) [0, 3, 4, 6, 7, 27, 28, 29, 57, 58, 79, 80, 81, 83, 84, 78] fun u61 a w' H => ?_
         exact ⟨k, Nat.lt_succ_self k, _, _, _, _, _, _, _, G, H.toM _⟩
        rw [if_neg c73] at G
        by_cases c74 : x42 = 4
        ·rw [if_pos c74] at G; subst c74
         replace G := qP G; obtain ⟨t63, ht63, G⟩ := G
         refine qN qd H (.v 62 (vI j34) <|
 .v 63 (vI 4) <|
 .v 64 (vP ((u29 2).n 0) 4) <|
 .cons [65] (qv (vI t31.e4) 65 84 4 1 ((u29 2).n 0) [vI t31.e0, vI t31.e1, vI t31.e2, vI t31.e3, vI t31.e4, vI t31.e5] 69) <|
 .cons [66] (qo 84 _ _ 66 [] (fun u62 w _ => Qa.calls j34 t31.e4  t63 w  ht63)) <|
 .v 61 (.tuple #[vI t63.1, vI t63.2]) <|
 .v 67 (vI t63.1) <|
 .v 68 (vI t63.2) <|
 .v 12 (vI t63.1) <|
 .v 13 (vI t63.2) <| .nil) [0, 3, 4, 6, 7, 11, 12, 27, 28, 29, 57, 58, 79, 80, 81, 83, 84, 78] fun u62 a w' H => ?_
         refine qN qd H (.v 69 (vI 4) <|
 .v 70 (vP ((u1 0).n 0) 4) <|
 .cons [71] (qv (vI x40) 71 80 4 1 ((u1 0).n 0) [vI x36, vI x37, vI x38, vI x39, vI x40, vI x41] 69) <|
 .v 72 (vI t63.1) <|
 .v 73 (vI (qe (x40 - t63.1))) <|
 .v 74 (vP ((u1 0).n 0) 4) <|
 .cons [80] (QV 80 4 ((u1 0).n 0) [vI x36, vI x37, vI x38, vI x39, vI x40, vI x41] [vI (qe (x40 - t63.1))] 69 [vI x36, vI x37, vI x38, vI x39, vI (qe (x40 - t63.1)), vI x41]) <| .nil) [0, 3, 4, 6, 7, 27, 28, 29, 57, 58, 79, 80, 81, 83, 84, 78] fun u64 a w' H => ?_
         refine qN qd H (.v 75 (vI (qe (4 + 1))) <|
 .v 58 (vI (qe (4 + 1))) <| .nil) [0, 3, 4, 6, 7, 27, 28, 29, 57, 58, 79, 80, 81, 83, 84, 78] fun u65 a w' H => ?_
         exact ⟨k, Nat.lt_succ_self k, _, _, _, _, _, _, _, G, H.toM _⟩
        rw [if_neg c74] at G
        by_cases c75 : x42 = 5
        ·rw [if_pos c75] at G; subst c75
         replace G := qP G; obtain ⟨t67, ht67, G⟩ := G
         refine qN qd H (.v 62 (vI j34) <|
 .v 63 (vI 5) <|
 .v 64 (vP ((u29 2).n 0) 5) <|
 .cons [65] (qv (vI t31.e5) 65 84 5 1 ((u29 2).n 0) [vI t31.e0, vI t31.e1, vI t31.e2, vI t31.e3, vI t31.e4, vI t31.e5] 69) <|
 .cons [66] (qo 84 _ _ 66 [] (fun u66 w _ => Qa.calls j34 t31.e5  t67 w  ht67)) <|
 .v 61 (.tuple #[vI t67.1, vI t67.2]) <|
 .v 67 (vI t67.1) <|
 .v 68 (vI t67.2) <|
 .v 12 (vI t67.1) <|
 .v 13 (vI t67.2) <| .nil) [0, 3, 4, 6, 7, 11, 12, 27, 28, 29, 57, 58, 79, 80, 81, 83, 84, 78] fun u66 a w' H => ?_
         refine qN qd H (.v 69 (vI 5) <|
 .v 70 (vP ((u1 0).n 0) 5) <|
 .cons [71] (qv (vI x41) 71 80 5 1 ((u1 0).n 0) [vI x36, vI x37, vI x38, vI x39, vI x40, vI x41] 69) <|
 .v 72 (vI t67.1) <|
 .v 73 (vI (qe (x41 - t67.1))) <|
 .v 74 (vP ((u1 0).n 0) 5) <|
 .cons [80] (QV 80 5 ((u1 0).n 0) [vI x36, vI x37, vI x38, vI x39, vI x40, vI x41] [vI (qe (x41 - t67.1))] 69 [vI x36, vI x37, vI x38, vI x39, vI x40, vI (qe (x41 - t67.1))]) <| .nil) [0, 3, 4, 6, 7, 27, 28, 29, 57, 58, 79, 80, 81, 83, 84, 78] fun u68 a w' H => ?_
         refine qN qd H (.v 75 (vI (qe (5 + 1))) <|
 .v 58 (vI (qe (5 + 1))) <| .nil) [0, 3, 4, 6, 7, 27, 28, 29, 57, 58, 79, 80, 81, 83, 84, 78] fun u69 a w' H => ?_
         exact ⟨k, Nat.lt_succ_self k, _, _, _, _, _, _, _, G, H.toM _⟩
        rw [if_neg c75] at G
        cases G
       ·rw [if_neg (nt c76)] at G
        refine QO rfl ?_
        obtain rfl := sj G
        exact H.toM _
     ·clear G; replace G := hj34; clear hj34
      refine qg qd H (.v 33 (vP b_a0 0) <|
 .v 34 (vP b_a0 0) <|
 .v 35 (vP b_a0 0) <|
 .cons [36] (XX (fun u77 => vI a0.n) 36 78 (X7 b_a0 [vI a0.n, .slice p_a0_columns a0.columns.length c_a0_columns] 72) b_a0 0 1 [vI a0.n, .slice p_a0_columns a0.columns.length c_a0_columns] (fun w h => Za h)) <|
 .v 37 (vI 0) <| .nil) [0, 3, 4, 6, 7, 27, 28, 29, 36, 37, 79, 80, 81, 83, 84, 78] fun u77 a w' H => ?_
      refine qA ?_
      refine Qv (fun m a w' => ∃ x78 : Int, ∃ x79 : Int, qu.l80 k0 a0 a1 t11 x12 x13 x14 x15 x16 x17 x18 t31 m x78 x79 = some j34 ∧ RL w 78 [(0, sP b_a0 0), (3, (sP ((u1 0).n 0) 0)), (4, (sP ((u1 1).n 0) 0)), (6, (sP ((u29 2).n 0) 0)), (7, sI x78), (27, (sS ((u10 13).o 0) t11.length ((u10 13).n 0))), (28, (sI (t11.length : Int))), (29, sI x18), (36, sI a0.n), (37, sI x79), (79, Qh qi 6 p_a0_columns c_a0_columns a0.columns qn), (80, .blk ((u1 0).n 0) [vI x12, vI x13, vI x14, vI x15, vI x16, vI x17] 69), (81, .blk ((u1 1).n 0) [vI 0, vI 0, vI 0, vI 0, vI 0, vI 0] 69), (83, QU 69 6 ((u10 13).o 0) ((u10 13).n 0) t11 qn), (84, .blk ((u29 2).n 0) [vI t31.e0, vI t31.e1, vI t31.e2, vI t31.e3, vI t31.e4, vI t31.e5] 69), (78, X7 b_a0 [vI a0.n, .slice p_a0_columns a0.columns.length c_a0_columns] 72)] a w') k0 ⟨_, _, G, H.toM _⟩ ?_
      clear G H
      rintro (_ | k) a w' ⟨x78, x79, G, H⟩
      ·exact absurd G (by unfold qu.l80; exact fun h => by cases h)
      ·unfold qu.l80 at G
       refine qg qd H (.v 38 (.bool (decide (x79 < a0.n))) <| .nil) [0, 3, 4, 6, 7, 27, 28, 29, 36, 37, 38, 79, 80, 81, 83, 84, 78] fun u81 a w' H => ?_
       refine qs ?_
       refine Qr H (decide (x79 < a0.n)) (fun c113 => ?_) fun c113 => ?_
       ·rw [if_pos c113] at G
        refine qT ?_
        refine qs ?_
        refine qA ?_
        refine qg qd H (.v 39 (vI x79) <|
 .v 8 (vI x79) <| .nil) [0, 3, 4, 6, 7, 8, 27, 28, 29, 36, 37, 79, 80, 81, 83, 84, 78] fun u82 a w' H => ?_
        refine qs ?_
        by_cases c107 : x79 = 0
        ·rw [if_pos c107] at G; subst c107
         replace G := qP G; obtain ⟨t84, ht84, G⟩ := G
         refine qN qd H (.v 41 (vI 0) <|
 .v 42 (vP ((u1 0).n 0) 0) <|
 .cons [43] (qv (vI x12) 43 80 0 1 ((u1 0).n 0) [vI x12, vI x13, vI x14, vI x15, vI x16, vI x17] 69) <|
 .v 44 (vI 0) <|
 .v 45 (vP ((u29 2).n 0) 0) <|
 .cons [46] (qv (vI t31.e0) 46 84 0 1 ((u29 2).n 0) [vI t31.e0, vI t31.e1, vI t31.e2, vI t31.e3, vI t31.e4, vI t31.e5] 69) <|
 .cons [47] (qo 84 _ _ 47 [] (fun u83 w _ => Qa.calls x12 t31.e0  t84 w  ht84)) <|
 .v 40 (.tuple #[vI t84.1, vI t84.2]) <|
 .v 48 (vI t84.1) <|
 .v 49 (vI t84.2) <|
 .v 9 (vI t84.1) <|
 .v 10 (vI t84.2) <| .nil) [0, 3, 4, 6, 7, 9, 27, 28, 29, 36, 37, 79, 80, 81, 83, 84, 78] fun u83 a w' H => ?_
         refine qN qd H (.v 50 (vI x78) <|
 .v 51 (vI t84.1) <|
 .v 52 (vI (qe (x78 + t84.1))) <|
 .v 7 (vI (qe (x78 + t84.1))) <| .nil) [0, 3, 4, 6, 7, 27, 28, 29, 36, 37, 79, 80, 81, 83, 84, 78] fun u85 a w' H => ?_
         refine qN qd H (.v 53 (vI (qe (0 + 1))) <|
 .v 37 (vI (qe (0 + 1))) <| .nil) [0, 3, 4, 6, 7, 27, 28, 29, 36, 37, 79, 80, 81, 83, 84, 78] fun u86 a w' H => ?_
         exact ⟨k, Nat.lt_succ_self k, _, _, G, H.toM _⟩
        rw [if_neg c107] at G
        by_cases c108 : x79 = 1
        ·rw [if_pos c108] at G; subst c108
         replace G := qP G; obtain ⟨t88, ht88, G⟩ := G
         refine qN qd H (.v 41 (vI 1) <|
 .v 42 (vP ((u1 0).n 0) 1) <|
 .cons [43] (qv (vI x13) 43 80 1 1 ((u1 0).n 0) [vI x12, vI x13, vI x14, vI x15, vI x16, vI x17] 69) <|
 .v 44 (vI 1) <|
 .v 45 (vP ((u29 2).n 0) 1) <|
 .cons [46] (qv (vI t31.e1) 46 84 1 1 ((u29 2).n 0) [vI t31.e0, vI t31.e1, vI t31.e2, vI t31.e3, vI t31.e4, vI t31.e5] 69) <|
 .cons [47] (qo 84 _ _ 47 [] (fun u87 w _ => Qa.calls x13 t31.e1  t88 w  ht88)) <|
 .v 40 (.tuple #[vI t88.1, vI t88.2]) <|
 .v 48 (vI t88.1) <|
 .v 49 (vI t88.2) <|
 .v 9 (vI t88.1) <|
 .v 10 (vI t88.2) <| .nil) [0, 3, 4, 6, 7, 9, 27, 28, 29, 36, 37, 79, 80, 81, 83, 84, 78] fun u87 a w' H => ?_
         refine qN qd H (.v 50 (vI x78) <|
 .v 51 (vI t88.1) <|
 .v 52 (vI (qe (x78 + t88.1))) <|
 .v 7 (vI (qe (x78 + t88.1))) <| .nil) [0, 3, 4, 6, 7, 27, 28, 29, 36, 37, 79, 80, 81, 83, 84, 78] fun u89 a w' H => ?_
         refine qN qd H (.v 53 (vI (qe (1 + 1))) <|
 .v 37 (vI (qe (1 + 1))) <| .nil) [0, 3, 4, 6, 7, 27, 28, 29, 36, 37, 79, 80, 81, 83, 84, 78] fun u90 a w' H => ?_
         exact ⟨k, Nat.lt_succ_self k, _, _, G, H.toM _⟩
        rw [if_neg c108] at G
        by_cases c109 : x79 = 2
        ·rw [if_pos c109] at G; subst c109
         replace G := qP G; obtain ⟨t92, ht92, G⟩ := G
         refine qN qd H (.v 41 (vI 2) <|
 .v 42 (vP ((u1 0).n 0) 2) <|
 .cons [43] (qv (vI x14) 43 80 2 1 ((u1 0).n 0) [vI x12, vI x13, vI x14, vI x15, vI x16, vI x17] 69) <|
 .v 44 (vI 2) <|
 .v 45 (vP ((u29 2).n 0) 2) <|
 .cons [46] (qv (vI t31.e2) 46 84 2 1 ((u29 2).n 0) [vI t31.e0, vI t31.e1, vI t31.e2, vI t31.e3, vI t31.e4, vI t31.e5] 69) <|
 .cons [47] (qo 84 _ _ 47 [] (fun u91 w _ => Qa.calls x14 t31.e2  t92 w  ht92)) <|
 .v 40 (.tuple #[vI t92.1, vI t92.2]) <|
 .v 48 (vI t92.1) <|
 .v 49 (vI t92.2) <|
 .v 9 (vI t92.1) <|
 .v 10 (vI t92.2) <| .nil) [0, 3, 4, 6, 7, 9, 27, 28, 29, 36, 37, 79, 80, 81, 83, 84, 78] fun u91 a w' H => ?_
         refine qN qd H (.v 50 (vI x78) <|
 .v 51 (vI t92.1) <|
 .v 52 (vI (qe (x78 + t92.1))) <|
 .v 7 (vI (qe (x78 + t92.1))) <| .nil) [0, 3, 4, 6, 7, 27, 28, 29, 36, 37, 79, 80, 81, 83, 84, 78] fun u93 a w' H => ?_
         refine qN qd H (.v 53 (vI (qe (2 + 1))) <|
 .v 37 (vI (qe (2 + 1))) <| .nil) [0, 3, 4, 6, 7, 27, 28, 29, 36, 37, 79, 80, 81, 83, 84, 78] fun u94 a w' H => ?_
         exact ⟨k, Nat.lt_succ_self k, _, _, G, H.toM _⟩
        rw [if_neg c109] at G
        by_cases c110 : x79 = 3
        ·rw [if_pos c110] at G; subst c110
         replace G := qP G; obtain ⟨t96, ht96, G⟩ := G
         refine qN qd H (.v 41 (vI 3) <|
 .v 42 (vP ((u1 0).n 0) 3) <|
 .cons [43] (qv (vI x15) 43 80 3 1 ((u1 0).n 0) [vI x12, vI x13, vI x14, vI x15, vI x16, vI x17] 69) <|
 .v 44 (vI 3) <|
 .v 45 (vP ((u29 2).n 0) 3) <|
 .cons [46] (qv (vI t31.e3) 46 84 3 1 ((u29 2).n 0) [vI t31.e0, vI t31.e1, vI t31.e2, vI t31.e3, vI t31.e4, vI t31.e5] 69) <|
 .cons [47] (qo 84 _ _ 47 [] (fun u95 w _ => Qa.calls x15 t31.e3  t96 w  ht96)) <|
 .v 40 (.tuple #[vI t96.1, vI t96.2]) <|
 .v 48 (vI t96.1) <|
 .v 49 (vI t96.2) <|
 .v 9 (vI t96.1) <|
 .v 10 (vI t96.2) <| .nil) [0, 3, 4, 6, 7, 9, 27, 28, 29, 36, 37, 79, 80, 81, 83, 84, 78] fun u95 a w' H => ?_
         refine qN qd H (.v 50 (vI x78) <|
 .v 51 (vI t96.1) <|
 .v 52 (vI (qe (x78 + t96.1))) <|
 .v 7 (vI (qe (x78 + t96.1))) <| .nil) [0, 3, 4, 6, 7, 27, 28, 29, 36, 37, 79, 80, 81, 83, 84, 78] fun u97 a w' H => ?_
         refine qN qd H (.v 53 (vI (qe (3 + 1))) <|
 .v 37 (vI (qe (3 + 1))) <| .nil) [0, 3, 4, 6, 7, 27, 28, 29, 36, 37, 79, 80, 81, 83, 84, 78] fun u98 a w' H => ?_
         exact ⟨k, Nat.lt_succ_self k, _, _, G, H.toM _⟩
        rw [if_neg c110] at G
        by_cases c111 : x79 = 4
        ·rw [if_pos c111] at G; subst c111
         replace G := qP G; obtain ⟨t100, ht100, G⟩ := G
         refine qN qd H (.v 41 (vI 4) <|
 .v 42 (vP ((u1 0).n 0) 4) <|
 .cons [43] (qv (vI x16) 43 80 4 1 ((u1 0).n 0) [vI x12, vI x13, vI x14, vI x15, vI x16, vI x17] 69) <|
 .v 44 (vI 4) <|
 .v 45 (vP ((u29 2).n 0) 4) <|
 .cons [46] (qv (vI t31.e4) 46 84 4 1 ((u29 2).n 0) [vI t31.e0, vI t31.e1, vI t31.e2, vI t31.e3, vI t31.e4, vI t31.e5] 69) <|
 .cons [47] (qo 84 _ _ 47 [] (fun u99 w _ => Qa.calls x16 t31.e4  t100 w  ht100)) <|
 .v 40 (.tuple #[vI t100.1, vI t100.2]) <|
 .v 48 (vI t100.1) <|
 .v 49 (vI t100.2) <|
 .v 9 (vI t100.1) <|
 .v 10 (vI t100.2) <| .nil) [0, 3, 4, 6, 7, 9, 27, 28, 29, 36, 37, 79, 80, 81, 83, 84, 78] fun u99 a w' H => ?_
         refine qN qd H (.v 50 (vI x78) <|
 .v 51 (vI t100.1) <|
 .v 52 (vI (qe (x78 + t100.1))) <|
 .v 7 (vI (qe (x78 + t100.1))) <| .nil) [0, 3, 4, 6, 7, 27, 28, 29, 36, 37, 79, 80, 81, 83, 84, 78] fun u101 a w' H => ?_
         refine qN qd H (.v 53 (vI (qe (4 + 1))) <|
 .v 37 (vI (qe (4 + 1))) <| .nil) [0, 3, 4, 6, 7, 27, 28, 29, 36, 37, 79, 80, 81, 83, 84, 78] fun u102 a w' H => ?_
         exact ⟨k, Nat.lt_succ_self k, _, _, G, H.toM _⟩
        rw [if_neg c111] at G
        by_cases c112 : x79 = 5
        ·rw [if_pos c112] at G; subst c112
         replace G := qP G; obtain ⟨t104, ht104, G⟩ := G
         refine qN qd H (.v 41 (vI 5) <|
 .v 42 (vP ((u1 0).n 0) 5) <|
 .cons [43] (qv (vI x17) 43 80 5 1 ((u1 0).n 0) [vI x12, vI x13, vI x14, vI x15, vI x16, vI x17] 69) <|
 .v 44 (vI 5) <|
 .v 45 (vP ((u29 2).n 0) 5) <|
 .cons [46] (qv (vI t31.e5) 46 84 5 1 ((u29 2).n 0) [vI t31.e0, vI t31.e1, vI t31.e2, vI t31.e3, vI t31.e4, vI t31.e5] 69) <|
 .cons [47] (qo 84 _ _ 47 [] (fun u103 w _ => Qa.calls x17 t31.e5  t104 w  ht104)) <|
 .v 40 (.tuple #[vI t104.1, vI t104.2]) <|
 .v 48 (vI t104.1) <|
 .v 49 (vI t104.2) <|
 .v 9 (vI t104.1) <|
 .v 10 (vI t104.2) <| .nil) [0, 3, 4, 6, 7, 9, 27, 28, 29, 36, 37, 79, 80, 81, 83, 84, 78] fun u103 a w' H => ?_
         refine qN qd H (.v 50 (vI x78) <|
 .v 51 (vI t104.1) <|
 .v 52 (vI (qe (x78 + t104.1))) <|
 .v 7 (vI (qe (x78 + t104.1))) <| .nil) [0, 3, 4, 6, 7, 27, 28, 29, 36, 37, 79, 80, 81, 83, 84, 78] fun u105 a w' H => ?_
         refine qN qd H (.v 53 (vI (qe (5 + 1))) <|
 .v 37 (vI (qe (5 + 1))) <| .nil) [0, 3, 4, 6, 7, 27, 28, 29, 36, 37, 79, 80, 81, 83, 84, 78] fun u106 a w' H => ?_
         exact ⟨k, Nat.lt_succ_self k, _, _, G, H.toM _⟩
        rw [if_neg c112] at G
        cases G
       ·rw [if_neg (nt c113)] at G
        refine QO rfl ?_
        obtain rfl := sj G
        exact H.toM _
   ·rw [if_neg (nt c114)] at G
    refine QO rfl ?_
    obtain rfl := sj G
    exact H.toM _
theorem qJ.calls (k0 : Nat) (a0_0 : Int) (a0_1 : List qG) (a1 : List qG) (b_a0 : Nat) (p_a0_1 : Option Addr) (c_a0_1 : Nat) (p_a1 : Option Addr) (c_a1 : Nat) (r : Int × List qG) (w : World) (hB : Yj [Qh qi 6 p_a1 c_a1 a1 qn] w) (hM : qah [QU 69 6 p_a0_1 c_a0_1 a0_1 qn, .blk b_a0 [vI a0_0, .slice p_a0_1 a0_1.length c_a0_1] 72] ([Qh qi 6 p_a1 c_a1 a1 qn] ++ []) w) (G : qJ k0 a0_0 a0_1 a1 = some r) :
  Calls Tryz.prog 63 #[vP b_a0 0, .slice p_a1 a1.length c_a1] w fun e w' => ∃ g : Gh, e = .returned (.tuple #[]) ∧ Y7 (YT [QU 69 6 p_a0_1 c_a0_1 a0_1 qn, .blk b_a0 [vI a0_0, .slice p_a0_1 a0_1.length c_a0_1] 72]) w w' ∧ YD w.heap.size (YT [QU 69 6 p_a0_1 c_a0_1 a0_1 qn, .blk b_a0 [vI a0_0, .slice p_a0_1 a0_1.length c_a0_1] 72]) (JG w.heap.size []) [fun _ => QU 69 6 (g.o 0) (g.n 0) r.2 qn, fun _ => .blk b_a0 [vI r.1, .slice (g.o 0) r.2.length (g.n 0)] 72] w' := by
 obtain ⟨fr, hfr, hBf⟩ := J4 w []
 refine qdx (args := [vP b_a0 0, .slice p_a1 a1.length c_a1]) 56 [(58, Qh qi 6 p_a1 c_a1 a1 qn)] [(57, QU 69 6 p_a0_1 c_a0_1 a0_1 qn), (56, .blk b_a0 [vI a0_0, .slice p_a0_1 a0_1.length c_a0_1] 72)] (qec hM (by rfl)) (by
  intro x hx
  simp only [List.mem_cons, List.not_mem_nil, or_false] at hx
  rcases hx with rfl
  exact Ql (qq hB.1) (fun _ _ => trivial) (by decide) _) (by rfl) Tryz.func63 rfl (by kernel_rfl) (by kernel_rfl) fun a H => ?_
 unfold qJ at G
 refine qg qd H (.v 10 (vP b_a0 0) <|
 .v 11 (.func (.func 90) #[vP b_a0 0] #[]) <|
 .v 4 (.func (.func 90) #[vP b_a0 0] #[]) <|
 .v 5 (vI 4096) <| .nil) [0, 1, 4, 5, 56, 57, 58, 999998] fun u1 a w' H => ?_
 refine qg qd H (.v 12 (.slice p_a1 a1.length c_a1) <|
 .v 13 (vI (a1.length : Int)) <|
 .v 14 (vI 0) <| .nil) [0, 4, 5, 12, 13, 14, 56, 57, 58, 999998] fun u2 a w' H => ?_
 refine qA ?_
 refine Qv (fun m a w' => ∃ x3 : Int, ∃ x4 : Int, qJ.l5 k0 a0_0 a0_1 a1 m x3 x4 = some r ∧ Yb 0 w 56 (Wy [(0, sP b_a0 0), (4, .slot true (.func (.func 90) #[vP b_a0 0] #[])), (5, sI x3), (12, sS p_a1 a1.length c_a1), (13, (sI (a1.length : Int))), (14, sI x4), (56, .blk b_a0 [vI a0_0, .slice p_a0_1 a0_1.length c_a0_1] 72), (57, QU 69 6 p_a0_1 c_a0_1 a0_1 qn), (58, Qh qi 6 p_a1 c_a1 a1 qn), (999998, frM [QU 69 6 p_a0_1 c_a0_1 a0_1 qn, .blk b_a0 [vI a0_0, .slice p_a0_1 a0_1.length c_a0_1] 72] w)]) a w') k0 ⟨_, _, G, H.toM _⟩ ?_
 clear G H
 rintro (_ | k) a w' ⟨x3, x4, G, H⟩
 ·exact absurd G (by unfold qJ.l5; exact fun h => by cases h)
 ·unfold qJ.l5 at G
  refine qg qd H (.v 15 (.bool (decide (x4 < (a1.length : Int)))) <| .nil) [0, 4, 5, 12, 13, 14, 15, 56, 57, 58, 999998] fun u6 a w' H => ?_
  refine qs ?_
  refine Qr H (decide (x4 < (a1.length : Int))) (fun c65 => ?_) fun c65 => ?_
  ·rw [if_pos c65] at G
   refine qT ?_
   refine qs ?_
   replace G := qP G; obtain ⟨j7, hj7, Gj7⟩ := G
   refine Qw (fun a w' => ∃ j7v, j7 = Sum.inr j7v ∧ Yb 0 w 56 (Wy [(0, sP b_a0 0), (4, .slot true (.func (.func 90) #[vP b_a0 0] #[])), (5, sI 16384), (12, sS p_a1 a1.length c_a1), (13, (sI (a1.length : Int))), (14, sI x4), (56, .blk b_a0 [vI a0_0, .slice p_a0_1 a0_1.length c_a0_1] 72), (57, QU 69 6 p_a0_1 c_a0_1 a0_1 qn), (58, Qh qi 6 p_a1 c_a1 a1 qn), (999998, frM [QU 69 6 p_a0_1 c_a0_1 a0_1 qn, .blk b_a0 [vI a0_0, .slice p_a0_1 a0_1.length c_a0_1] 72] w)]) a w') ?_ ?_
   ·clear H; rintro a w' ⟨j7v, rfl, H⟩; have G := Gj7; clear Gj7; dsimp only at G
    refine qN qd H (.v 55 (vI (qe (x4 + 1))) <|
 .v 14 (vI (qe (x4 + 1))) <| .nil) [0, 4, 5, 12, 13, 14, 56, 57, 58, 999998] fun u8 a w' H => ?_
    exact ⟨k, Nat.lt_succ_self k, _, _, G, H.toM _⟩
   ·have G := hj7; clear hj7
    refine qA ?_
    refine qs ?_
    replace G := gd G; obtain ⟨b10, G⟩ := G
    replace G := qP G; obtain ⟨t11, ht11, G⟩ := G
    refine qN qd H (.cons [16] (qy 58 (Qh qi 6 p_a1 c_a1 a1 qn) (.pointer (some ⟨XB p_a1, XC p_a1 + x4.toNat * 6, none⟩)) 16 fun _ w h => YQ 67 .i64 x4 p_a1 a1.length c_a1 a1 qn (qq h).2 Qq rfl b10) <|
 .cons [17] (qy 58 (Qh qi 6 p_a1 c_a1 a1 qn) (.agg #[vI t11.e0, vI t11.e1, vI t11.e2, vI t11.e3, vI t11.e4, vI t11.e5]) 17 fun _ w h => Ya qn (qq h).2 Qq ht11 0 6 [vI t11.e0, vI t11.e1, vI t11.e2, vI t11.e3, vI t11.e4, vI t11.e5]) <|
 .cons [7, 59] (qH (fun b => vP b 0) (fun u9 => [vI 0, vI 0, vI 0, vI 0, vI 0, vI 0]) 69 7 59) <|
 .cons [59] (XO (u' := fun u9 => [(59, .blk ((u9 2).n 0) [vI t11.e0, vI t11.e1, vI t11.e2, vI t11.e3, vI t11.e4, vI t11.e5] 69)]) (X1 59 0 (fun u9 => ((u9 2).n 0)) (fun u9 => [vI 0, vI 0, vI 0, vI 0, vI 0, vI 0]) (fun u9 => [vI t11.e0, vI t11.e1, vI t11.e2, vI t11.e3, vI t11.e4, vI t11.e5]) 69) (fun _ => by kernel_rfl)) <| .nil) [0, 4, 5, 7, 12, 13, 14, 56, 57, 58, 59, 999998] fun u9 a w' H => ?_
    replace G := qP G; obtain ⟨t13, ht13, G⟩ := G
    refine qg qd H (.v 18 (.func (.func 90) #[vP b_a0 0] #[]) <|
 .cons [19] (qv (.agg #[vI t11.e0, vI t11.e1, vI t11.e2, vI t11.e3, vI t11.e4, vI t11.e5]) 19 59 0 6 ((u9 2).n 0) [vI t11.e0, vI t11.e1, vI t11.e2, vI t11.e3, vI t11.e4, vI t11.e5] 69) <|
 .cons [20] (Xi [57, 56] (fun u12 => [QU 69 6 p_a0_1 c_a0_1 a0_1 qn, .blk b_a0 [vI a0_0, .slice p_a0_1 a0_1.length c_a0_1] 72]) 90 _ _ 20 (fun u12 w hF => qu.calls k0 (⟨a0_0, a0_1⟩ : Zx) t11 b_a0 p_a0_1 c_a0_1 t13 w  ⟨(ZN (qY (QN hF.1))), (Q3 hF.2.1 0).2.1, trivial⟩ ht13)) <|
 .cons [59] (QV 59 0 ((u9 2).n 0) [vI t11.e0, vI t11.e1, vI t11.e2, vI t11.e3, vI t11.e4, vI t11.e5] [vI t13.e0, vI t13.e1, vI t13.e2, vI t13.e3, vI t13.e4, vI t13.e5] 69 [vI t13.e0, vI t13.e1, vI t13.e2, vI t13.e3, vI t13.e4, vI t13.e5]) <| .nil) [0, 4, 5, 7, 12, 13, 14, 56, 57, 58, 59, 999998] fun u12 a w' H => ?_
    refine qs ?_
    replace G := qP G; obtain ⟨j14, hj14, Gj14⟩ := G
    refine Qw (fun a w' => ∃ j14v, j14 = Sum.inr j14v ∧ Yb 0 w 56 (Wy [(0, sP b_a0 0), (4, .slot true (.func (.func 90) #[vP b_a0 0] #[])), (12, sS p_a1 a1.length c_a1), (13, (sI (a1.length : Int))), (14, sI x4), (56, .blk b_a0 [vI a0_0, .slice p_a0_1 a0_1.length c_a0_1] 72), (57, QU 69 6 p_a0_1 c_a0_1 a0_1 qn), (58, Qh qi 6 p_a1 c_a1 a1 qn), (999998, frM [QU 69 6 p_a0_1 c_a0_1 a0_1 qn, .blk b_a0 [vI a0_0, .slice p_a0_1 a0_1.length c_a0_1] 72] w)]) a w') ?_ ?_
    ·clear H; rintro a w' ⟨j14v, rfl, H⟩; have G := Gj14; clear Gj14; dsimp only at G
     refine qN qd H (.v 5 (vI 16384) <| .nil) [0, 4, 5, 12, 13, 14, 56, 57, 58, 999998] fun u15 a w' H => ?_
     obtain rfl := sj G
     exact ⟨_, rfl, H.toM _⟩
    ·have G := hj14; clear hj14
     replace G := qP G; obtain ⟨t17, ht17, G⟩ := G
     refine qg qd H (.cons [21] (qv (.agg #[vI t13.e0, vI t13.e1, vI t13.e2, vI t13.e3, vI t13.e4, vI t13.e5]) 21 59 0 6 ((u9 2).n 0) [vI t13.e0, vI t13.e1, vI t13.e2, vI t13.e3, vI t13.e4, vI t13.e5] 69) <|
 .cons [22] (qo 91 _ _ 22 [] (fun u16 w _ => Qn.calls k0 t13  t17 w  ht17)) <|
 .v 8 (vI t17) <| .nil) [0, 4, 5, 7, 8, 12, 13, 14, 56, 57, 58, 59, 999998] fun u16 a w' H => ?_
     refine qg qd H (.v 23 (vI t17) <|
 .v 24 (vI x3) <|
 .v 25 (.bool (decide (t17 ≥ x3))) <| .nil) [0, 4, 7, 8, 12, 13, 14, 25, 56, 57, 58, 59, 999998] fun u18 a w' H => ?_
     refine Qr H (decide (t17 ≥ x3)) (fun c64 => ?_) fun c64 => ?_
     ·rw [if_pos c64] at G
      refine qs ?_
      replace G := qP G; obtain ⟨j25, hj25, G⟩ := G
      refine Qw (fun a w' => Yb 0 w 56 (Wy [(0, sP b_a0 0), (7, (sP ((u9 2).n 0) 0)), (56, .blk b_a0 [vI a0_0, .slice p_a0_1 a0_1.length c_a0_1] 72), (57, QU 69 6 p_a0_1 c_a0_1 a0_1 qn), (59, .blk ((u9 2).n 0) [vI j25.1, vI j25.2.1, vI j25.2.2.1, vI j25.2.2.2.1, vI j25.2.2.2.2.1, vI j25.2.2.2.2.2] 69), (999998, frM [QU 69 6 p_a0_1 c_a0_1 a0_1 qn, .blk b_a0 [vI a0_0, .slice p_a0_1 a0_1.length c_a0_1] 72] w)]) a w') ?_ ?_
      ·clear H; intro a w' H
       refine qs ?_
       replace G := gd G; obtain ⟨b27, G⟩ := G
       refine qN qd H (.v 45 (vP b_a0 0) <|
 .v 46 (vP b_a0 0) <|
 .v 47 (vP b_a0 0) <|
 .v 48 (vP b_a0 1) <|
 .cons [49] (qv (.slice p_a0_1 a0_1.length c_a0_1) 49 56 1 1 b_a0 [vI a0_0, .slice p_a0_1 a0_1.length c_a0_1] 72) <|
 .cons [50] (qv (.agg #[vI j25.1, vI j25.2.1, vI j25.2.2.1, vI j25.2.2.2.1, vI j25.2.2.2.2.1, vI j25.2.2.2.2.2]) 50 59 0 6 ((u9 2).n 0) [vI j25.1, vI j25.2.1, vI j25.2.2.1, vI j25.2.2.2.1, vI j25.2.2.2.2.1, vI j25.2.2.2.2.2] 69) <|
 .cons [51, 60] (qH (fun b => .slice (some ⟨b, 0, none⟩) 1 1) (fun u26 => [vI j25.1, vI j25.2.1, vI j25.2.2.1, vI j25.2.2.2.1, vI j25.2.2.2.2.1, vI j25.2.2.2.2.2]) 69 51 60) <|
 .cons [52, 57, 57] (Xs [6] [60] (fun u26 => [.blk ((u26 6).n 0) [vI j25.1, vI j25.2.1, vI j25.2.2.1, vI j25.2.2.2.1, vI j25.2.2.2.2.1, vI j25.2.2.2.2.2] 69]) 57 (fun u26 => QU 69 6 p_a0_1 c_a0_1 a0_1 qn) (some 52) (fun u26 g => .slice (g.o 0) (a0_1 ++ [(⟨j25.1, j25.2.1, j25.2.2.1, j25.2.2.2.1, j25.2.2.2.2.1, j25.2.2.2.2.2⟩ : qG)]).length (g.n 0)) (fun u26 g => QU 69 6 (g.o 0) (g.n 0) (a0_1 ++ [(⟨j25.1, j25.2.1, j25.2.2.1, j25.2.2.2.1, j25.2.2.2.2.1, j25.2.2.2.2.2⟩ : qG)]) qn) (fun u26 w hF hK => ZB (Q8 (t := 67) (ty := 67) (en := qn) Qq qb1 (QN hK) hF.1 (news := [(⟨j25.1, j25.2.1, j25.2.2.1, j25.2.2.2.1, j25.2.2.2.2.1, j25.2.2.2.2.2⟩ : qG)]) rfl (by simp) (by kernel_rfl) b27)) (hloc := fun u u' h => ⟨by first | rfl | simp only [h 6 (by decide)], by first | rfl | simp only [h 6 (by decide)], by first | rfl | simp only [h 6 (by decide)], by first | rfl | simp only [h 6 (by decide)]⟩)) <|
 .v 53 (vP b_a0 0) <|
 .v 54 (vP b_a0 1) <|
 .cons [56] (XO (u' := fun u26 => [(56, .blk b_a0 [vI a0_0, .slice ((u26 7).o 0) ((a0_1 ++ [(⟨j25.1, j25.2.1, j25.2.2.1, j25.2.2.2.1, j25.2.2.2.2.1, j25.2.2.2.2.2⟩ : qG)]).length) ((u26 7).n 0)] 72)]) (X1 56 1 (fun u26 => b_a0) (fun u26 => [vI a0_0, .slice p_a0_1 a0_1.length c_a0_1]) (fun u26 => [.slice ((u26 7).o 0) ((a0_1 ++ [(⟨j25.1, j25.2.1, j25.2.2.1, j25.2.2.2.1, j25.2.2.2.2.1, j25.2.2.2.2.2⟩ : qG)]).length) ((u26 7).n 0)]) 72) (fun _ => by kernel_rfl)) <| .nil) [56, 57, 999998] fun u26 a w' H => ?_
       refine q7 ?_
       obtain rfl := sj G
       replace G := Gj14
       obtain rfl := sj G
       replace G := Gj7
       obtain rfl := sj G
       obtain ⟨g, o0, n0⟩ := VI ((u26 7).o 0) ((u26 7).n 0)
       refine Xo H _ g _ _ _ fr [57, 56] [] (.tuple #[]) [fun _ => QU 69 6 ((u26 7).o 0) ((u26 7).n 0) (a0_1 ++ [(⟨j25.1, j25.2.1, j25.2.2.1, j25.2.2.2.1, j25.2.2.2.2.1, j25.2.2.2.2.2⟩ : qG)]) qn, fun _ => .blk b_a0 [vI a0_0, .slice ((u26 7).o 0) ((a0_1 ++ [(⟨j25.1, j25.2.1, j25.2.2.1, j25.2.2.2.1, j25.2.2.2.2.1, j25.2.2.2.2.2⟩ : qG)]).length) ((u26 7).n 0)] 72] (by simp only [QU, o0, n0]) (by simp only [QU, o0, n0]) hfr (.inr (by kernel_rfl)) (qx X2 (qx qa6 qI)) (by simp)
      ·clear G; replace G := hj25; clear hj25
       refine qg qd H (.v 26 (vP b_a0 0) <|
 .v 27 (vP b_a0 0) <|
 .v 28 (vP b_a0 0) <|
 .cons [29] (qv (vI a0_0) 29 56 0 1 b_a0 [vI a0_0, .slice p_a0_1 a0_1.length c_a0_1] 72) <|
 .v 30 (vI 0) <| .nil) [0, 7, 8, 29, 30, 56, 57, 59, 999998] fun u28 a w' H => ?_
       refine qA ?_
       refine Qv (fun m a w' => ∃ x29 : Int, ∃ x30 : Int, ∃ x31 : Int, ∃ x32 : Int, ∃ x33 : Int, ∃ x34 : Int, ∃ x35 : Int, qJ.l36 k0 a0_0 a0_1 a1 x3 x4 t11 t13 t17 m x29 x30 x31 x32 x33 x34 x35 = some j25 ∧ Yb 0 w 56 (Wy [(0, sP b_a0 0), (7, (sP ((u9 2).n 0) 0)), (8, sI t17), (29, sI a0_0), (30, sI x35), (56, .blk b_a0 [vI a0_0, .slice p_a0_1 a0_1.length c_a0_1] 72), (57, QU 69 6 p_a0_1 c_a0_1 a0_1 qn), (59, .blk ((u9 2).n 0) [vI x29, vI x30, vI x31, vI x32, vI x33, vI x34] 69), (999998, frM [QU 69 6 p_a0_1 c_a0_1 a0_1 qn, .blk b_a0 [vI a0_0, .slice p_a0_1 a0_1.length c_a0_1] 72] w)]) a w') k0 ⟨_, _, _, _, _, _, _, G, H.toM _⟩ ?_
       clear G H
       rintro (_ | k) a w' ⟨x29, x30, x31, x32, x33, x34, x35, G, H⟩
       ·exact absurd G (by unfold qJ.l36; exact fun h => by cases h)
       ·unfold qJ.l36 at G
        refine qg qd H (.v 31 (.bool (decide (x35 < a0_0))) <| .nil) [0, 7, 8, 29, 30, 31, 56, 57, 59, 999998] fun u37 a w' H => ?_
        refine qs ?_
        refine Qr H (decide (x35 < a0_0)) (fun c63 => ?_) fun c63 => ?_
        ·rw [if_pos c63] at G
         refine qT ?_
         refine qs ?_
         refine qA ?_
         refine qg qd H (.v 32 (vI x35) <|
 .v 9 (vI x35) <| .nil) [0, 7, 8, 9, 29, 30, 56, 57, 59, 999998] fun u38 a w' H => ?_
         by_cases c57 : x35 = 0
         ·rw [if_pos c57] at G; subst c57
          replace G := qP G; obtain ⟨t40, ht40, G⟩ := G
          refine qN qd H (.v 34 (vI 0) <|
 .v 35 (vI 0) <|
 .v 36 (vP ((u9 2).n 0) 0) <|
 .cons [37] (qv (vI x29) 37 59 0 1 ((u9 2).n 0) [vI x29, vI x30, vI x31, vI x32, vI x33, vI x34] 69) <|
 .v 38 (vI t17) <|
 .cons [39] (qo 92 _ _ 39 [] (fun u39 w _ => Xq.calls x29 65536 t17  t40 w  ht40)) <|
 .v 33 (.tuple #[vI t40.1, vI t40.2.1, vI t40.2.2]) <|
 .v 40 (vI t40.1) <|
 .v 41 (vI t40.2.1) <|
 .v 42 (vI t40.2.2) <|
 .v 43 (vP ((u9 2).n 0) 0) <|
 .cons [59] (QV 59 0 ((u9 2).n 0) [vI x29, vI x30, vI x31, vI x32, vI x33, vI x34] [vI t40.1] 69 [vI t40.1, vI x30, vI x31, vI x32, vI x33, vI x34]) <| .nil) [0, 7, 8, 29, 30, 56, 57, 59, 999998] fun u39 a w' H => ?_
          refine qN qd H (.v 44 (vI (qe (0 + 1))) <|
 .v 30 (vI (qe (0 + 1))) <| .nil) [0, 7, 8, 29, 30, 56, 57, 59, 999998] fun u41 a w' H => ?_
          exact ⟨k, Nat.lt_succ_self k, _, _, _, _, _, _, _, G, H.toM _⟩
         rw [if_neg c57] at G
         by_cases c58 : x35 = 1
         ·rw [if_pos c58] at G; subst c58
          replace G := qP G; obtain ⟨t43, ht43, G⟩ := G
          refine qN qd H (.v 34 (vI 1) <|
 .v 35 (vI 1) <|
 .v 36 (vP ((u9 2).n 0) 1) <|
 .cons [37] (qv (vI x30) 37 59 1 1 ((u9 2).n 0) [vI x29, vI x30, vI x31, vI x32, vI x33, vI x34] 69) <|
 .v 38 (vI t17) <|
 .cons [39] (qo 92 _ _ 39 [] (fun u42 w _ => Xq.calls x30 65536 t17  t43 w  ht43)) <|
 .v 33 (.tuple #[vI t43.1, vI t43.2.1, vI t43.2.2]) <|
 .v 40 (vI t43.1) <|
 .v 41 (vI t43.2.1) <|
 .v 42 (vI t43.2.2) <|
 .v 43 (vP ((u9 2).n 0) 1) <|
 .cons [59] (QV 59 1 ((u9 2).n 0) [vI x29, vI x30, vI x31, vI x32, vI x33, vI x34] [vI t43.1] 69 [vI x29, vI t43.1, vI x31, vI x32, vI x33, vI x34]) <| .nil) [0, 7, 8, 29, 30, 56, 57, 59, 999998] fun u42 a w' H => ?_
          refine qN qd H (.v 44 (vI (qe (1 + 1))) <|
 .v 30 (vI (qe (1 + 1))) <| .nil) [0, 7, 8, 29, 30, 56, 57, 59, 999998] fun u44 a w' H => ?_
          exact ⟨k, Nat.lt_succ_self k, _, _, _, _, _, _, _, G, H.toM _⟩
         rw [if_neg c58] at G
         by_cases c59 : x35 = 2
         ·rw [if_pos c59] at G; subst c59
          replace G := qP G; obtain ⟨t46, ht46, G⟩ := G
          refine qN qd H (.v 34 (vI 2) <|
 .v 35 (vI 2) <|
 .v 36 (vP ((u9 2).n 0) 2) <|
 .cons [37] (qv (vI x31) 37 59 2 1 ((u9 2).n 0) [vI x29, vI x30, vI x31, vI x32, vI x33, vI x34] 69) <|
 .v 38 (vI t17) <|
 .cons [39] (qo 92 _ _ 39 [] (fun u45 w _ => Xq.calls x31 65536 t17  t46 w  ht46)) <|
 .v 33 (.tuple #[vI t46.1, vI t46.2.1, vI t46.2.2]) <|
 .v 40 (vI t46.1) <|
 .v 41 (vI t46.2.1) <|
 .v 42 (vI t46.2.2) <|
 .v 43 (vP ((u9 2).n 0) 2) <|
 .cons [59] (QV 59 2 ((u9 2).n 0) [vI x29, vI x30, vI x31, vI x32, vI x33, vI x34] [vI t46.1] 69 [vI x29, vI x30, vI t46.1, vI x32, vI x33, vI x34]) <| .nil) [0, 7, 8, 29, 30, 56, 57, 59, 999998] fun u45 a w' H => ?_
          refine qN qd H (.v 44 (vI (qe (2 + 1))) <|
 .v 30 (vI (qe (2 + 1))) <| .nil) [0, 7, 8, 29, 30, 56, 57, 59, 999998] fun u47 a w' H => ?_
          exact ⟨k, Nat.lt_succ_self k, _, _, _, _, _, _, _, G, H.toM _⟩
         rw [if_neg c59] at G
         by_cases c60 : x35 = 3
         ·rw [if_pos c60] at G; subst c60
          replace G := qP G; obtain ⟨t49, ht49, G⟩ := G
          refine qN qd H (.v 34 (vI 3) <|
 .v 35 (vI 3) <|
 .v 36 (vP ((u9 2).n 0) 3) <|
 .cons [37] (qv (vI x32) 37 59 3 1 ((u9 2).n 0) [vI x29, vI x30, vI x31, vI x32, vI x33, vI x34] 69) <|
 .v 38 (vI t17) <|
 .cons [39] (qo 92 _ _ 39 [] (fun u48 w _ => Xq.calls x32 65536 t17  t49 w  ht49)) <|
 .v 33 (.tuple #[vI t49.1, vI t49.2.1, vI t49.2.2]) <|
 .v 40 (vI t49.1) <|
 .v 41 (vI t49.2.1) <|
 .v 42 (vI t49.2.2) <|
 .v 43 (vP ((u9 2).n 0) 3) <|
 .cons [59] (QV 59 3 ((u9 2).n 0) [vI x29, vI x30, vI x31, vI x32, vI x33, vI x34] [vI t49.1] 69 [vI x29, vI x30, vI x31, vI t49.1, vI x33, vI x34]) <| .nil) [0, 7, 8, 29, 30, 56, 57, 59, 999998] fun u48 a w' H => ?_
          refine qN qd H (.v 44 (vI (qe (3 + 1))) <|
 .v 30 (vI (qe (3 + 1))) <| .nil) [0, 7, 8, 29, 30, 56, 57, 59, 999998] fun u50 a w' H => ?_
          exact ⟨k, Nat.lt_succ_self k, _, _, _, _, _, _, _, G, H.toM _⟩
         rw [if_neg c60] at G
         by_cases c61 : x35 = 4
         ·rw [if_pos c61] at G; subst c61
          replace G := qP G; obtain ⟨t52, ht52, G⟩ := G
          refine qN qd H (.v 34 (vI 4) <|
 .v 35 (vI 4) <|
 .v 36 (vP ((u9 2).n 0) 4) <|
 .cons [37] (qv (vI x33) 37 59 4 1 ((u9 2).n 0) [vI x29, vI x30, vI x31, vI x32, vI x33, vI x34] 69) <|
 .v 38 (vI t17) <|
 .cons [39] (qo 92 _ _ 39 [] (fun u51 w _ => Xq.calls x33 65536 t17  t52 w  ht52)) <|
 .v 33 (.tuple #[vI t52.1, vI t52.2.1, vI t52.2.2]) <|
 .v 40 (vI t52.1) <|
 .v 41 (vI t52.2.1) <|
 .v 42 (vI t52.2.2) <|
 .v 43 (vP ((u9 2).n 0) 4) <|
 .cons [59] (QV 59 4 ((u9 2).n 0) [vI x29, vI x30, vI x31, vI x32, vI x33, vI x34] [vI t52.1] 69 [vI x29, vI x30, vI x31, vI x32, vI t52.1, vI x34]) <| .nil) [0, 7, 8, 29, 30, 56, 57, 59, 999998] fun u51 a w' H => ?_
          refine qN qd H (.v 44 (vI (qe (4 + 1))) <|
 .v 30 (vI (qe (4 + 1))) <| .nil) [0, 7, 8, 29, 30, 56, 57, 59, 999998] fun u53 a w' H => ?_
          exact ⟨k, Nat.lt_succ_self k, _, _, _, _, _, _, _, G, H.toM _⟩
         rw [if_neg c61] at G
         by_cases c62 : x35 = 5
         ·rw [if_pos c62] at G; subst c62
          replace G := qP G; obtain ⟨t55, ht55, G⟩ := G
          refine qN qd H (.v 34 (vI 5) <|
 .v 35 (vI 5) <|
 .v 36 (vP ((u9 2).n 0) 5) <|
 .cons [37] (qv (vI x34) 37 59 5 1 ((u9 2).n 0) [vI x29, vI x30, vI x31, vI x32, vI x33, vI x34] 69) <|
 .v 38 (vI t17) <|
 .cons [39] (qo 92 _ _ 39 [] (fun u54 w _ => Xq.calls x34 65536 t17  t55 w  ht55)) <|
 .v 33 (.tuple #[vI t55.1, vI t55.2.1, vI t55.2.2]) <|
 .v 40 (vI t55.1) <|
 .v 41 (vI t55.2.1) <|
 .v 42 (vI t55.2.2) <|
 .v 43 (vP ((u9 2).n 0) 5) <|
 .cons [59] (QV 59 5 ((u9 2).n 0) [vI x29, vI x30, vI x31, vI x32, vI x33, vI x34] [vI t55.1] 69 [vI x29, vI x30, vI x31, vI x32, vI x33, vI t55.1]) <| .nil) [0, 7, 8, 29, 30, 56, 57, 59, 999998] fun u54 a w' H => ?_
          refine qN qd H (.v 44 (vI (qe (5 + 1))) <|
 .v 30 (vI (qe (5 + 1))) <| .nil) [0, 7, 8, 29, 30, 56, 57, 59, 999998] fun u56 a w' H => ?_
          exact ⟨k, Nat.lt_succ_self k, _, _, _, _, _, _, _, G, H.toM _⟩
         rw [if_neg c62] at G
         cases G
        ·rw [if_neg (nt c63)] at G
         refine QO rfl ?_
         obtain rfl := sj G
         exact H.toM _
     ·rw [if_neg (nt c64)] at G
      refine qT ?_
      obtain rfl := sj G
      exact ⟨_, rfl, H.toM _⟩
  ·rw [if_neg (nt c65)] at G
   refine QO rfl ?_
   obtain rfl := sj G
   obtain ⟨g, o0, n0⟩ := VI p_a0_1 c_a0_1
   refine Xo H _ g _ _ _ fr [57, 56] [] (.tuple #[]) [fun _ => QU 69 6 p_a0_1 c_a0_1 a0_1 qn, fun _ => .blk b_a0 [vI a0_0, .slice p_a0_1 a0_1.length c_a0_1] 72] (by simp only [QU, o0, n0]) (by simp only [QU, o0, n0]) hfr (.inr (by kernel_rfl)) (qx X2 (qx qa6 qI)) (by simp)
theorem XW.calls (a0 : Int) (a1 : Int) (q0_0 : Zx) (b_q0 : Nat) (b_q0_0 : Nat) (p_q0_0_columns : Option Addr) (c_q0_0_columns : Nat) (r : Int) (w : World) (hB : Yj [Qh qi 6 p_q0_0_columns c_q0_0_columns q0_0.columns qn, X7 b_q0_0 [vI q0_0.n, .slice p_q0_0_columns q0_0.columns.length c_q0_0_columns] 72, X7 b_q0 [vP b_q0_0 0] 70] w) (G : XW a0 a1 q0_0 = some r) :
  Calls Tryz.prog 64 #[vI a0, vI a1, vP b_q0 0] w fun e w' => e = .returned (vI r) ∧ Below w.heap.size w w' := by
 obtain ⟨fr, hfr⟩ : ∃ fr : Nat → Prop, ∀ j, fr j := ⟨fun _ => True, fun _ => trivial⟩
 have hBf : ∀ j, w.heap.size ≤ j → fr j := fun j _ => hfr j
 refine QQ (args := [vI a0, vI a1, vP b_q0 0]) 15 [(17, Qh qi 6 p_q0_0_columns c_q0_0_columns q0_0.columns qn), (16, X7 b_q0_0 [vI q0_0.n, .slice p_q0_0_columns q0_0.columns.length c_q0_0_columns] 72), (15, X7 b_q0 [vP b_q0_0 0] 70)] (by
  intro x hx
  simp only [List.mem_cons, List.not_mem_nil, or_false] at hx
  rcases hx with rfl | rfl | rfl
  ·exact Ql (qq hB.1) (fun _ _ => trivial) (by decide) _
  ·exact Q3 (hB.2.1 w (agree.refl _ _)) _
  ·exact Q3 (hB.2.2.1 w (agree.refl _ _)) _) Tryz.func64 rfl (by kernel_rfl) (by kernel_rfl) fun a H => ?_
 unfold XW at G
 refine qg qd H (.v 5 (vI 0) <| .nil) [0, 1, 2, 17, 15, 16] fun u1 a w' H => ?_
 refine qs ?_
 by_cases c20 : a0 = 0
 ·rw [if_pos c20] at G; subst c20
  replace G := gd G; obtain ⟨b3, G⟩ := G
  replace G := qP G; obtain ⟨t4, ht4, G⟩ := G
  refine qN qd H (.cons [6] (XX (fun u2 => vP b_q0_0 0) 6 15 (X7 b_q0 [vP b_q0_0 0] 70) b_q0 0 1 [vP b_q0_0 0] (fun w h => Za h)) <|
 .v 7 (vP b_q0_0 0) <|
 .v 8 (vP b_q0_0 1) <|
 .cons [9] (XX (fun u2 => .slice p_q0_0_columns q0_0.columns.length c_q0_0_columns) 9 16 (X7 b_q0_0 [vI q0_0.n, .slice p_q0_0_columns q0_0.columns.length c_q0_0_columns] 72) b_q0_0 1 1 [vI q0_0.n, .slice p_q0_0_columns q0_0.columns.length c_q0_0_columns] (fun w h => Za h)) <|
 .v 10 (vI a1) <|
 .v 11 (vI 0) <|
 .cons [12] (qy 17 (Qh qi 6 p_q0_0_columns c_q0_0_columns q0_0.columns qn) (.pointer (some ⟨XB p_q0_0_columns, XC p_q0_0_columns + a1.toNat * 6, none⟩)) 12 fun _ w h => YQ 67 .i64 a1 p_q0_0_columns q0_0.columns.length c_q0_0_columns q0_0.columns qn (qq h).2 Qq rfl b3) <|
 .v 13 (.pointer (some ⟨XB p_q0_0_columns, XC p_q0_0_columns + a1.toNat * 6 + 0, none⟩)) <|
 .cons [14] (qy 17 (Qh qi 6 p_q0_0_columns c_q0_0_columns q0_0.columns qn) (vI t4.e0) 14 fun _ w h => Ya qn (qq h).2 Qq ht4 0 1 [vI t4.e0]) <|
 .v 5 (vI t4.e0) <| .nil) [5, 17, 15, 16] fun u2 a w' H => ?_
  refine q7 ?_
  obtain rfl := sj G
  exact QG H _ (by kernel_rfl) (by kernel_rfl)
 rw [if_neg c20] at G
 by_cases c21 : a0 = 1
 ·rw [if_pos c21] at G; subst c21
  replace G := gd G; obtain ⟨b6, G⟩ := G
  replace G := qP G; obtain ⟨t7, ht7, G⟩ := G
  refine qN qd H (.cons [6] (XX (fun u5 => vP b_q0_0 0) 6 15 (X7 b_q0 [vP b_q0_0 0] 70) b_q0 0 1 [vP b_q0_0 0] (fun w h => Za h)) <|
 .v 7 (vP b_q0_0 0) <|
 .v 8 (vP b_q0_0 1) <|
 .cons [9] (XX (fun u5 => .slice p_q0_0_columns q0_0.columns.length c_q0_0_columns) 9 16 (X7 b_q0_0 [vI q0_0.n, .slice p_q0_0_columns q0_0.columns.length c_q0_0_columns] 72) b_q0_0 1 1 [vI q0_0.n, .slice p_q0_0_columns q0_0.columns.length c_q0_0_columns] (fun w h => Za h)) <|
 .v 10 (vI a1) <|
 .v 11 (vI 1) <|
 .cons [12] (qy 17 (Qh qi 6 p_q0_0_columns c_q0_0_columns q0_0.columns qn) (.pointer (some ⟨XB p_q0_0_columns, XC p_q0_0_columns + a1.toNat * 6, none⟩)) 12 fun _ w h => YQ 67 .i64 a1 p_q0_0_columns q0_0.columns.length c_q0_0_columns q0_0.columns qn (qq h).2 Qq rfl b6) <|
 .v 13 (.pointer (some ⟨XB p_q0_0_columns, XC p_q0_0_columns + a1.toNat * 6 + 1, none⟩)) <|
 .cons [14] (qy 17 (Qh qi 6 p_q0_0_columns c_q0_0_columns q0_0.columns qn) (vI t7.e1) 14 fun _ w h => Ya qn (qq h).2 Qq ht7 1 1 [vI t7.e1]) <|
 .v 5 (vI t7.e1) <| .nil) [5, 17, 15, 16] fun u5 a w' H => ?_
  refine q7 ?_
  obtain rfl := sj G
  exact QG H _ (by kernel_rfl) (by kernel_rfl)
 rw [if_neg c21] at G
 by_cases c22 : a0 = 2
 ·rw [if_pos c22] at G; subst c22
  replace G := gd G; obtain ⟨b9, G⟩ := G
  replace G := qP G; obtain ⟨t10, ht10, G⟩ := G
  refine qN qd H (.cons [6] (XX (fun u8 => vP b_q0_0 0) 6 15 (X7 b_q0 [vP b_q0_0 0] 70) b_q0 0 1 [vP b_q0_0 0] (fun w h => Za h)) <|
 .v 7 (vP b_q0_0 0) <|
 .v 8 (vP b_q0_0 1) <|
 .cons [9] (XX (fun u8 => .slice p_q0_0_columns q0_0.columns.length c_q0_0_columns) 9 16 (X7 b_q0_0 [vI q0_0.n, .slice p_q0_0_columns q0_0.columns.length c_q0_0_columns] 72) b_q0_0 1 1 [vI q0_0.n, .slice p_q0_0_columns q0_0.columns.length c_q0_0_columns] (fun w h => Za h)) <|
 .v 10 (vI a1) <|
 .v 11 (vI 2) <|
 .cons [12] (qy 17 (Qh qi 6 p_q0_0_columns c_q0_0_columns q0_0.columns qn) (.pointer (some ⟨XB p_q0_0_columns, XC p_q0_0_columns + a1.toNat * 6, none⟩)) 12 fun _ w h => YQ 67 .i64 a1 p_q0_0_columns q0_0.columns.length c_q0_0_columns q0_0.columns qn (qq h).2 Qq rfl b9) <|
 .v 13 (.pointer (some ⟨XB p_q0_0_columns, XC p_q0_0_columns + a1.toNat * 6 + 2, none⟩)) <|
 .cons [14] (qy 17 (Qh qi 6 p_q0_0_columns c_q0_0_columns q0_0.columns qn) (vI t10.e2) 14 fun _ w h => Ya qn (qq h).2 Qq ht10 2 1 [vI t10.e2]) <|
 .v 5 (vI t10.e2) <| .nil) [5, 17, 15, 16] fun u8 a w' H => ?_
  refine q7 ?_
  obtain rfl := sj G
  exact QG H _ (by kernel_rfl) (by kernel_rfl)
 rw [if_neg c22] at G
 by_cases c23 : a0 = 3
 ·rw [if_pos c23] at G; subst c23
  replace G := gd G; obtain ⟨b12, G⟩ := G
  replace G := qP G; obtain ⟨t13, ht13, G⟩ := G
  refine qN qd H (.cons [6] (XX (fun u11 => vP b_q0_0 0) 6 15 (X7 b_q0 [vP b_q0_0 0] 70) b_q0 0 1 [vP b_q0_0 0] (fun w h => Za h)) <|
 .v 7 (vP b_q0_0 0) <|
 .v 8 (vP b_q0_0 1) <|
 .cons [9] (XX (fun u11 => .slice p_q0_0_columns q0_0.columns.length c_q0_0_columns) 9 16 (X7 b_q0_0 [vI q0_0.n, .slice p_q0_0_columns q0_0.columns.length c_q0_0_columns] 72) b_q0_0 1 1 [vI q0_0.n, .slice p_q0_0_columns q0_0.columns.length c_q0_0_columns] (fun w h => Za h)) <|
 .v 10 (vI a1) <|
 .v 11 (vI 3) <|
 .cons [12] (qy 17 (Qh qi 6 p_q0_0_columns c_q0_0_columns q0_0.columns qn) (.pointer (some ⟨XB p_q0_0_columns, XC p_q0_0_columns + a1.toNat * 6, none⟩)) 12 fun _ w h => YQ 67 .i64 a1 p_q0_0_columns q0_0.columns.length c_q0_0_columns q0_0.columns qn (qq h).2 Qq rfl b12) <|
 .v 13 (.pointer (some ⟨XB p_q0_0_columns, XC p_q0_0_columns + a1.toNat * 6 + 3, none⟩)) <|
 .cons [14] (qy 17 (Qh qi 6 p_q0_0_columns c_q0_0_columns q0_0.columns qn) (vI t13.e3) 14 fun _ w h => Ya qn (qq h).2 Qq ht13 3 1 [vI t13.e3]) <|
 .v 5 (vI t13.e3) <| .nil) [5, 17, 15, 16] fun u11 a w' H => ?_
  refine q7 ?_
  obtain rfl := sj G
  exact QG H _ (by kernel_rfl) (by kernel_rfl)
 rw [if_neg c23] at G
 by_cases c24 : a0 = 4
 ·rw [if_pos c24] at G; subst c24
  replace G := gd G; obtain ⟨b15, G⟩ := G
  replace G := qP G; obtain ⟨t16, ht16, G⟩ := G
  refine qN qd H (.cons [6] (XX (fun u14 => vP b_q0_0 0) 6 15 (X7 b_q0 [vP b_q0_0 0] 70) b_q0 0 1 [vP b_q0_0 0] (fun w h => Za h)) <|
 .v 7 (vP b_q0_0 0) <|
 .v 8 (vP b_q0_0 1) <|
 .cons [9] (XX (fun u14 => .slice p_q0_0_columns q0_0.columns.length c_q0_0_columns) 9 16 (X7 b_q0_0 [vI q0_0.n, .slice p_q0_0_columns q0_0.columns.length c_q0_0_columns] 72) b_q0_0 1 1 [vI q0_0.n, .slice p_q0_0_columns q0_0.columns.length c_q0_0_columns] (fun w h => Za h)) <|
 .v 10 (vI a1) <|
 .v 11 (vI 4) <|
 .cons [12] (qy 17 (Qh qi 6 p_q0_0_columns c_q0_0_columns q0_0.columns qn) (.pointer (some ⟨XB p_q0_0_columns, XC p_q0_0_columns + a1.toNat * 6, none⟩)) 12 fun _ w h => YQ 67 .i64 a1 p_q0_0_columns q0_0.columns.length c_q0_0_columns q0_0.columns qn (qq h).2 Qq rfl b15) <|
 .v 13 (.pointer (some ⟨XB p_q0_0_columns, XC p_q0_0_columns + a1.toNat * 6 + 4, none⟩)) <|
 .cons [14] (qy 17 (Qh qi 6 p_q0_0_columns c_q0_0_columns q0_0.columns qn) (vI t16.e4) 14 fun _ w h => Ya qn (qq h).2 Qq ht16 4 1 [vI t16.e4]) <|
 .v 5 (vI t16.e4) <| .nil) [5, 17, 15, 16] fun u14 a w' H => ?_
  refine q7 ?_
  obtain rfl := sj G
  exact QG H _ (by kernel_rfl) (by kernel_rfl)
 rw [if_neg c24] at G
 by_cases c25 : a0 = 5
 ·rw [if_pos c25] at G; subst c25
  replace G := gd G; obtain ⟨b18, G⟩ := G
  replace G := qP G; obtain ⟨t19, ht19, G⟩ := G
  refine qN qd H (.cons [6] (XX (fun u17 => vP b_q0_0 0) 6 15 (X7 b_q0 [vP b_q0_0 0] 70) b_q0 0 1 [vP b_q0_0 0] (fun w h => Za h)) <|
 .v 7 (vP b_q0_0 0) <|
 .v 8 (vP b_q0_0 1) <|
 .cons [9] (XX (fun u17 => .slice p_q0_0_columns q0_0.columns.length c_q0_0_columns) 9 16 (X7 b_q0_0 [vI q0_0.n, .slice p_q0_0_columns q0_0.columns.length c_q0_0_columns] 72) b_q0_0 1 1 [vI q0_0.n, .slice p_q0_0_columns q0_0.columns.length c_q0_0_columns] (fun w h => Za h)) <|
 .v 10 (vI a1) <|
 .v 11 (vI 5) <|
 .cons [12] (qy 17 (Qh qi 6 p_q0_0_columns c_q0_0_columns q0_0.columns qn) (.pointer (some ⟨XB p_q0_0_columns, XC p_q0_0_columns + a1.toNat * 6, none⟩)) 12 fun _ w h => YQ 67 .i64 a1 p_q0_0_columns q0_0.columns.length c_q0_0_columns q0_0.columns qn (qq h).2 Qq rfl b18) <|
 .v 13 (.pointer (some ⟨XB p_q0_0_columns, XC p_q0_0_columns + a1.toNat * 6 + 5, none⟩)) <|
 .cons [14] (qy 17 (Qh qi 6 p_q0_0_columns c_q0_0_columns q0_0.columns qn) (vI t19.e5) 14 fun _ w h => Ya qn (qq h).2 Qq ht19 5 1 [vI t19.e5]) <|
 .v 5 (vI t19.e5) <| .nil) [5, 17, 15, 16] fun u17 a w' H => ?_
  refine q7 ?_
  obtain rfl := sj G
  exact QG H _ (by kernel_rfl) (by kernel_rfl)
 rw [if_neg c25] at G
 cases G
theorem qS.calls (k0 : Nat) (a0 : Int) (a1_0_0 : Zx) (b_a1_0 : Nat) (b_a1_0_0 : Nat) (p_a1_0_0_columns : Option Addr) (c_a1_0_0_columns : Nat) (r : List (List Int)) (w : World) (hB : Yj [Qh qi 6 p_a1_0_0_columns c_a1_0_0_columns a1_0_0.columns qn, X7 b_a1_0_0 [vI a1_0_0.n, .slice p_a1_0_0_columns a1_0_0.columns.length c_a1_0_0_columns] 72, X7 b_a1_0 [vP b_a1_0_0 0] 70] w) (G : qS k0 a0 a1_0_0 = some r) :
  Calls Tryz.prog 59 #[vI a0, .func (.func 64) #[] #[vP b_a1_0 0]] w fun e w' => ∃ g : Gh, e = .returned (slgd_S_i64 g 0 r) ∧ Y7 (YT []) w w' ∧ YD w.heap.size (YT []) (JG w.heap.size []) [fun _ => ns_en_i64g g 0 r] w' := by
 obtain ⟨fr, hfr, hBf⟩ := J4 w []
 refine QQ (args := [vI a0, .func (.func 64) #[] #[vP b_a1_0 0]]) 34 [(36, Qh qi 6 p_a1_0_0_columns c_a1_0_0_columns a1_0_0.columns qn), (35, X7 b_a1_0_0 [vI a1_0_0.n, .slice p_a1_0_0_columns a1_0_0.columns.length c_a1_0_0_columns] 72), (34, X7 b_a1_0 [vP b_a1_0_0 0] 70)] (by
  intro x hx
  simp only [List.mem_cons, List.not_mem_nil, or_false] at hx
  rcases hx with rfl | rfl | rfl
  ·exact Ql (qq hB.1) (fun _ _ => trivial) (by decide) _
  ·exact Q3 (hB.2.1 w (agree.refl _ _)) _
  ·exact Q3 (hB.2.2.1 w (agree.refl _ _)) _) Tryz.func59 rfl (by kernel_rfl) (by kernel_rfl) fun a H => ?_
 unfold qS at G
 refine qg qd H (.v 4 (.slice none 0 0) <| .nil) [0, 1, 36, 34, 35] fun u1 a w' H => ?_
 refine qs ?_
 replace G := gd G; obtain ⟨b3, G⟩ := G
 refine qN qd H (.v 8 (vI a0) <|
 .cons [9, 37] (Ju 2 1 qB (Zl [] (fun u2 => []) 26 1 (List.replicate a0.toNat (⟨none, 0, []⟩ : Sl Int)).length ((List.replicate a0.toNat (⟨none, 0, []⟩ : Sl Int)).flatMap ql) 9 37 (fun _ => .none) (fun u2 w hF => YG (t := 31) (k := .i64) (m := a0) (en := ql) (z := (⟨none, 0, []⟩ : Sl Int)) qk qaF rfl b3 (by kernel_rfl)) (fun _ => .inl rfl)) Jt) <|
 .cons [5] (qp (fun u2 => .slice ((u2 1).o 0) ((List.replicate a0.toNat (⟨none, 0, []⟩ : Sl Int)).length) ((u2 1).n 0)) 5) <| .nil) [0, 1, 5, 36, 37, 34, 35] fun u2 a w' H => ?_
 refine qs ?_
 obtain ⟨j5, hj5, G⟩ := qP G
 refine Qw (fun a w' => ∃ (p_j4 : Option Addr) (c_j4 np_j4 : Nat) (L_j4 : List (Sl Int)), np_j4 = L_j4.length ∧ j5 = L_j4.map Sl.l ∧ RL w 34 [(5, sS p_j4 np_j4 c_j4), (36, Qh qi 6 p_a1_0_0_columns c_a1_0_0_columns a1_0_0.columns qn), (900079, Q9 p_j4 np_j4 c_j4 L_j4), (34, X7 b_a1_0 [vP b_a1_0_0 0] 70), (35, X7 b_a1_0_0 [vI a1_0_0.n, .slice p_a1_0_0_columns a1_0_0.columns.length c_a1_0_0_columns] 72)] a w') ?_ ?_
 ·clear H; rintro a w' ⟨p_j4, c_j4, _, L_j4, rfl, h_j4, H⟩
  refine qg qd H (.v 33 (.slice p_j4 L_j4.length c_j4) <|
 .v 4 (.slice p_j4 L_j4.length c_j4) <| .nil) [4, 36, 900079, 34, 35] fun u6 a w' H => ?_
  refine q7 ?_
  obtain rfl := sj G
  obtain ⟨g, o0, n0, d0⟩ := ZQ ZI p_j4 c_j4 h_j4
  refine Xo H _ g _ _ _ fr [900079] [] (.slice p_j4 L_j4.length c_j4) [fun _ => Qm p_j4 c_j4 L_j4] (by simp only [slgd_S_i64, dlgd_S_i64, ns_en_i64g, Qm, Q9, QU, o0, n0, d0]) (by simp only [slgd_S_i64, dlgd_S_i64, ns_en_i64g, Qm, Q9, QU, o0, n0, d0]) hfr (.inl ⟨rfl, rfl⟩) (qx QZ qI) (by simp)
 ·clear G; replace G := hj5; clear hj5
  refine qg qd H (.v 10 (vI a0) <|
 .v 11 (vI 0) <| .nil) [0, 1, 5, 10, 11, 36, 37, 34, 35] fun u7 a w' H => ?_
  refine qA ?_
  replace H := H.move (K := Qm ((u2 1).o 0) ((u2 1).n 0) (List.replicate a0.toNat (⟨none, 0, []⟩ : Sl Int))) 37 900081 (by kernel_rfl) (by intro _ _ h; cases h)
  refine Qv (fun m a w' => ∃ x8 : List (List Int), ∃ x9 : Int, qS.l10 k0 a0 a1_0_0 m x8 x9 = some j5 ∧ ∃ (p_x8 : Option Addr) (c_x8 np_x8 : Nat) (L_x8 : List (Sl Int)), np_x8 = L_x8.length ∧ x8 = L_x8.map Sl.l ∧ RL w 34 [(0, sI a0), (1, .slot true (.func (.func 64) #[] #[vP b_a1_0 0])), (5, sS p_x8 np_x8 c_x8), (10, sI a0), (11, sI x9), (36, Qh qi 6 p_a1_0_0_columns c_a1_0_0_columns a1_0_0.columns qn), (900081, Q9 p_x8 np_x8 c_x8 L_x8), (34, X7 b_a1_0 [vP b_a1_0_0 0] 70), (35, X7 b_a1_0_0 [vI a1_0_0.n, .slice p_a1_0_0_columns a1_0_0.columns.length c_a1_0_0_columns] 72)] a w') k0 ⟨_, _, G, ((u2 1).o 0), ((u2 1).n 0), (List.replicate a0.toNat (⟨none, 0, []⟩ : Sl Int)).length, (List.replicate a0.toNat (⟨none, 0, []⟩ : Sl Int)), rfl, (Jr a0.toNat (⟨none, 0, []⟩ : Sl Int)), H.toM _⟩ ?_
  clear G H
  rintro (_ | k) a w' ⟨x8, x9, G, p_x8, c_x8, _, L_x8, rfl, h_x8, H⟩
  ·exact absurd G (by unfold qS.l10; exact fun h => by cases h)
  ·unfold qS.l10 at G
   refine qg qd H (.v 12 (.bool (decide (x9 < a0))) <| .nil) [0, 1, 5, 10, 11, 12, 36, 900081, 34, 35] fun u11 a w' H => ?_
   refine qs ?_
   refine Qr H (decide (x9 < a0)) (fun c32 => ?_) fun c32 => ?_
   ·rw [if_pos c32] at G
    refine qT ?_
    refine qs ?_
    obtain ⟨j13, hj13, G⟩ := qP G
    refine Qw (fun a w' => ∃ (p_j12 : Option Addr) (c_j12 np_j12 : Nat) (L_j12 : List (Sl Int)), np_j12 = L_j12.length ∧ j13 = L_j12.map Sl.l ∧ RL w 34 [(0, sI a0), (1, .slot true (.func (.func 64) #[] #[vP b_a1_0 0])), (5, sS p_j12 np_j12 c_j12), (10, sI a0), (11, sI x9), (36, Qh qi 6 p_a1_0_0_columns c_a1_0_0_columns a1_0_0.columns qn), (900083, Q9 p_j12 np_j12 c_j12 L_j12), (34, X7 b_a1_0 [vP b_a1_0_0 0] 70), (35, X7 b_a1_0_0 [vI a1_0_0.n, .slice p_a1_0_0_columns a1_0_0.columns.length c_a1_0_0_columns] 72)] a w') ?_ ?_
    ·clear H; rintro a w' ⟨p_j12, c_j12, _, L_j12, rfl, h_j12, H⟩
     refine qN qd H (.v 32 (vI (qe (x9 + 1))) <|
 .v 11 (vI (qe (x9 + 1))) <| .nil) [0, 1, 5, 10, 11, 36, 900083, 34, 35] fun u14 a w' H => ?_
     replace H := H.move (K := Qm p_j12 c_j12 L_j12) 900083 900081 (by kernel_rfl) (by intro _ _ h; cases h)
     exact ⟨k, Nat.lt_succ_self k, _, _, G, p_j12, c_j12, L_j12.length, L_j12, rfl, h_j12, H.toM _⟩
    ·clear G; replace G := hj13; clear hj13
     refine qA ?_
     refine qg qd H (.v 13 (vI x9) <|
 .v 6 (vI x9) <| .nil) [0, 1, 5, 6, 10, 11, 36, 900081, 34, 35] fun u15 a w' H => ?_
     refine qg qd H (.v 14 (vI a0) <|
 .v 15 (vI 0) <| .nil) [0, 1, 5, 6, 10, 11, 14, 15, 36, 900081, 34, 35] fun u16 a w' H => ?_
     refine qA ?_
     replace H := H.move (K := Qm p_x8 c_x8 L_x8) 900081 900085 (by kernel_rfl) (by intro _ _ h; cases h)
     refine Qv (fun m a w' => ∃ x17 : List (List Int), ∃ x18 : Int, qS.l19 k0 a0 a1_0_0 x8 x9 m x17 x18 = some j13 ∧ ∃ (p_x17 : Option Addr) (c_x17 np_x17 : Nat) (L_x17 : List (Sl Int)), np_x17 = L_x17.length ∧ x17 = L_x17.map Sl.l ∧ RL w 34 [(0, sI a0), (1, .slot true (.func (.func 64) #[] #[vP b_a1_0 0])), (5, sS p_x17 np_x17 c_x17), (6, sI x9), (10, sI a0), (11, sI x9), (14, sI a0), (15, sI x18), (36, Qh qi 6 p_a1_0_0_columns c_a1_0_0_columns a1_0_0.columns qn), (900085, Q9 p_x17 np_x17 c_x17 L_x17), (34, X7 b_a1_0 [vP b_a1_0_0 0] 70), (35, X7 b_a1_0_0 [vI a1_0_0.n, .slice p_a1_0_0_columns a1_0_0.columns.length c_a1_0_0_columns] 72)] a w') k0 ⟨_, _, G, p_x8, c_x8, L_x8.length, L_x8, rfl, h_x8, H.toM _⟩ ?_
     clear G H
     rintro (_ | k) a w' ⟨x17, x18, G, p_x17, c_x17, _, L_x17, rfl, h_x17, H⟩
     ·exact absurd G (by unfold qS.l19; exact fun h => by cases h)
     ·unfold qS.l19 at G
      refine qg qd H (.v 16 (.bool (decide (x18 < a0))) <| .nil) [0, 1, 5, 6, 10, 11, 14, 15, 16, 36, 900085, 34, 35] fun u20 a w' H => ?_
      refine qs ?_
      refine Qr H (decide (x18 < a0)) (fun c31 => ?_) fun c31 => ?_
      ·rw [if_pos c31] at G
       refine qT ?_
       refine qs ?_
       refine qA ?_
       refine qg qd H (.v 17 (vI x18) <|
 .v 7 (vI x18) <| .nil) [0, 1, 5, 6, 7, 10, 11, 14, 15, 36, 900085, 34, 35] fun u21 a w' H => ?_
       replace G := gd G; obtain ⟨b23, G⟩ := G
       obtain ⟨t24, ht24, G⟩ := qP G
       obtain ⟨p_t24, c_t24, y_t24⟩ := QE h_x17 ht24
       have P25 := XT (en := ql) (l := L_x17) (qQ (H.at (K := Qm p_x17 c_x17 L_x17) 900085 (by kernel_rfl))).row.2 qk
       obtain ⟨t26, ht26, G⟩ := qP G
       replace G := gd G; obtain ⟨b27, G⟩ := G
       replace G := gd G; obtain ⟨b28, G⟩ := G
       obtain ⟨t29, ht29, G⟩ := qP G
       obtain ⟨p_t29, c_t29, y_t29⟩ := QE h_x17 ht29
       refine qN qd H (.v 18 (.slice p_x17 L_x17.length c_x17) <|
 .v 19 (vI x9) <|
 .v 20 (.slice p_x17 L_x17.length c_x17) <|
 .v 21 (vI x9) <|
 .cons [22] (qp (fun u22 => .pointer (some ⟨XB p_x17, XC p_x17 + x9.toNat * 1, none⟩)) 22 (hv := fun _ _ => QH (t := 31) (k := .i64) (i := x9) (p := p_x17) (n := L_x17.length) (cap := c_x17) (x := x17) P25 (qD h_x17) b23 (by kernel_rfl))) <|
 .cons [23] (qy 900085 (Qm p_x17 c_x17 L_x17) (.slice p_t24 t24.length c_t24) 23 fun _ w h => Ya ql (qQ h).row.2 qk y_t24 0 1 [.slice p_t24 t24.length c_t24]) <|
 .v 24 (.func (.func 64) #[] #[vP b_a1_0 0]) <|
 .v 25 (vI x9) <|
 .v 26 (vI x18) <|
 .cons [27] (Xi [36, 35, 34] (fun u22 => [Qh qi 6 p_a1_0_0_columns c_a1_0_0_columns a1_0_0.columns qn, X7 b_a1_0_0 [vI a1_0_0.n, .slice p_a1_0_0_columns a1_0_0.columns.length c_a1_0_0_columns] 72, X7 b_a1_0 [vP b_a1_0_0 0] 70]) 64 _ _ 27 (fun u22 w hF => XW.calls x9 x18 (⟨a1_0_0.n, a1_0_0.columns⟩ : Zx) b_a1_0 b_a1_0_0 p_a1_0_0_columns c_a1_0_0_columns t26 w  ⟨(ZN (qq hF.1)), (Q3 (hF.2.1 w (agree.refl _ _)) 0).2.1, (Q3 (hF.2.2.1 w (agree.refl _ _)) 0).2.1, trivial⟩ ht26)) <|
 .cons [28, 40] (qH (fun b => .slice (some ⟨b, 0, none⟩) 1 1) (fun u22 => [vI t26]) 2 28 40) <|
 .cons [29, 900085, 900085] (Xs [10] [40] (fun u22 => [.blk ((u22 10).n 0) [vI t26] 2]) 900085 (fun u22 => Qm p_x17 c_x17 L_x17) (some 29) (fun u22 g => .slice (g.o 0) (t24 ++ [t26]).length (g.n 0)) (fun u22 g => ZC 26 2 1 qB p_x17 L_x17.length c_x17 L_x17 (L_x17.set x9.toNat (⟨(g.o 0), (g.n 0), (t24 ++ [t26])⟩ : Sl Int))) (fun u22 w hF hK => Wm hK y_t24 (l' := (t24 ++ [t26])) (fun h => Q8 (t := 26) (ty := 26) (en := qB) q8 qco h hF.1 (news := [t26]) rfl (by simp) (by kernel_rfl) b27)) (hloc := fun u u' h => ⟨by first | rfl | simp only [h 10 (by decide)], by first | rfl | simp only [h 10 (by decide)], by first | rfl | simp only [h 10 (by decide)], by first | rfl | simp only [h 10 (by decide)]⟩)) <|
 .cons [30] (qp (fun u22 => .pointer (some ⟨XB p_x17, XC p_x17 + x9.toNat * 1, none⟩)) 30 (hv := fun _ _ => QH (t := 31) (k := .i64) (i := x9) (p := p_x17) (n := L_x17.length) (cap := c_x17) (x := x17) P25 (qD h_x17) b28 (by kernel_rfl))) <|
 .cons [900085, 900085] (Xs [11] [] (fun u22 => []) 900085 (fun u22 => ZC 26 2 1 qB p_x17 L_x17.length c_x17 L_x17 (L_x17.set x9.toNat (⟨((u22 11).o 0), ((u22 11).n 0), (t24 ++ [t26])⟩ : Sl Int))) none (fun u22 g => .nilFunc) (fun u22 g => Q9 p_x17 L_x17.length c_x17 (L_x17.set x9.toNat (⟨((u22 11).o 0), ((u22 11).n 0), (t24 ++ [t26])⟩ : Sl Int))) (fun u22 w hF hK => WB hK (fun h => XP (en := ql) h qk (y := (⟨((u22 11).o 0), ((u22 11).n 0), (t24 ++ [t26])⟩ : Sl Int)) (vs := [.slice ((u22 11).o 0) ((t24 ++ [t26]).length) ((u22 11).n 0)]) y_t29 0 (by simp) (by simp) rfl (by kernel_rfl))) (hloc := fun u u' h => ⟨by first | rfl | simp only [h 11 (by decide)], by first | rfl | simp only [h 11 (by decide)], by first | rfl | simp only [h 11 (by decide)], by first | rfl | simp only [h 11 (by decide)]⟩)) <| .nil) [0, 1, 5, 6, 10, 11, 14, 15, 36, 900085, 34, 35] fun u22 a w' H => ?_
       refine qN qd H (.v 31 (vI (qe (x18 + 1))) <|
 .v 15 (vI (qe (x18 + 1))) <| .nil) [0, 1, 5, 6, 10, 11, 14, 15, 36, 900085, 34, 35] fun u30 a w' H => ?_
       exact ⟨k, Nat.lt_succ_self k, _, _, G, p_x17, c_x17, L_x17.length, (L_x17.set x9.toNat (⟨((u22 11).o 0), ((u22 11).n 0), (t24 ++ [t26])⟩ : Sl Int)), by simp, (map_set h_x17 x9.toNat (⟨((u22 11).o 0), ((u22 11).n 0), (t24 ++ [t26])⟩ : Sl Int)), H.toM _⟩
      ·rw [if_neg (nt c31)] at G
       refine QO rfl ?_
       obtain rfl := sj G
       replace H := H.move (K := Qm p_x17 c_x17 L_x17) 900085 900083 (by kernel_rfl) (by intro _ _ h; cases h)
       exact ⟨p_x17, c_x17, L_x17.length, L_x17, rfl, h_x17, H.toM _⟩
   ·rw [if_neg (nt c32)] at G
    refine QO rfl ?_
    obtain rfl := sj G
    replace H := H.move (K := Qm p_x8 c_x8 L_x8) 900081 900079 (by kernel_rfl) (by intro _ _ h; cases h)
    exact ⟨p_x8, c_x8, L_x8.length, L_x8, rfl, h_x8, H.toM _⟩
theorem qt.calls (k0 : Nat) (a0 : List (List Int)) (p_a0 : Option Addr) (c_a0 : Nat) (L_a0 : List (Sl Int)) (r : List (List Int)) (w : World) (h_a0 : a0 = L_a0.map Sl.l) (hB : Yj [Qh qi 1 p_a0 c_a0 L_a0 ql, QA qi Qp.toPart L_a0] w) (G : qt k0 a0 = some r) :
  Calls Tryz.prog 24 #[.slice p_a0 L_a0.length c_a0] w fun e w' => ∃ g : Gh, e = .returned (slgd_S_i64 g 0 r) ∧ Y7 (YT []) w w' ∧ YD w.heap.size (YT []) (JG w.heap.size []) [fun _ => ns_en_i64g g 0 r] w' := by
 obtain ⟨fr, hfr, hBf⟩ := J4 w []
 refine QQ (args := [.slice p_a0 L_a0.length c_a0]) 55 [(55, Qh qi 1 p_a0 c_a0 L_a0 ql), (56, QA qi Qp.toPart L_a0)] (by
  intro x hx
  simp only [List.mem_cons, List.not_mem_nil, or_false] at hx
  rcases hx with rfl | rfl
  ·exact Ql (qq hB.1) (fun _ _ => trivial) (by decide) _
  ·exact Xt (Qb hB.2.1) (fun _ _ => trivial) _) Tryz.func24 rfl (by kernel_rfl) (by kernel_rfl) fun a H => ?_
 unfold qt at G
 refine qg qd H (.v 2 (.slice none 0 0) <| .nil) [0, 55, 56] fun u1 a w' H => ?_
 refine qg qd H (.v 10 (.slice p_a0 L_a0.length c_a0) <|
 .cons [11] (qy 55 (Qh qi 1 p_a0 c_a0 L_a0 ql) (vI (a0.length : Int)) 11 fun _ w h => Q7 (((qq h).2.len qk (by decide)).trans (qD h_a0).symm) (by kernel_rfl)) <|
 .v 3 (vI (a0.length : Int)) <| .nil) [0, 3, 55, 56] fun u2 a w' H => ?_
 refine qs ?_
 replace G := gd G; obtain ⟨b4, G⟩ := G
 refine qN qd H (.v 12 (vI (a0.length : Int)) <|
 .cons [13, 57] (Zl [] (fun u3 => []) 69 6 (List.replicate (a0.length : Int).toNat (⟨0, 0, 0, 0, 0, 0⟩ : qG)).length ((List.replicate (a0.length : Int).toNat (⟨0, 0, 0, 0, 0, 0⟩ : qG)).flatMap qn) 13 57 (fun _ => .none) (fun u3 w hF => YG (t := 67) (k := .i64) (m := (a0.length : Int)) (en := qn) (z := (⟨0, 0, 0, 0, 0, 0⟩ : qG)) Qq qb1 rfl b4 (by kernel_rfl)) (fun _ => .inl rfl)) <|
 .cons [4] (qp (fun u3 => .slice ((u3 1).o 0) ((List.replicate (a0.length : Int).toNat (⟨0, 0, 0, 0, 0, 0⟩ : qG)).length) ((u3 1).n 0)) 4) <| .nil) [0, 3, 4, 55, 56, 57] fun u3 a w' H => ?_
 refine qs ?_
 replace G := qP G; obtain ⟨j6, hj6, G⟩ := G
 refine Qw (fun a w' => ∃ (p_j5 : Option Addr) (c_j5 np_j5 : Nat), np_j5 = j6.length ∧ RL w 55 [(0, sS p_a0 L_a0.length c_a0), (3, (sI (a0.length : Int))), (4, sS p_j5 np_j5 c_j5), (55, Qh qi 1 p_a0 c_a0 L_a0 ql), (56, QA qi Qp.toPart L_a0), (900087, Yo 69 6 p_j5 np_j5 c_j5 (j6.flatMap qn))] a w') ?_ ?_
 ·clear H; rintro a w' ⟨p_j5, c_j5, _, rfl, H⟩
  refine qg qd H (.v 24 (vI (a0.length : Int)) <|
 .v 25 (.agg #[vI (a0.length : Int), .slice none 0 0]) <|
 .cons [26, 58] (qH (fun b => vP b 0) (fun u7 => [vI (a0.length : Int), .slice none 0 0]) 72 26 58) <|
 .cons [6, 59] (qH (fun b => vP b 0) (fun u7 => [.pointer none]) 70 6 59) <|
 .cons [59] (XO (u' := fun u7 => [(59, .blk ((u7 3).n 0) [vP ((u7 2).n 0) 0] 70)]) (X1 59 0 (fun u7 => ((u7 3).n 0)) (fun u7 => [.pointer none]) (fun u7 => [vP ((u7 2).n 0) 0]) 70) (fun _ => by kernel_rfl)) <| .nil) [0, 3, 4, 6, 55, 56, 58, 59, 900087] fun u7 a w' H => ?_
  refine qs ?_
  replace G := qP G; obtain ⟨j10, hj10, G⟩ := G
  refine Qw (fun a w' => ∃ (p_j9 : Option Addr) (c_j9 np_j9 : Nat), np_j9 = j10.2.length ∧ RL w 55 [(3, (sI (a0.length : Int))), (6, (sP ((u7 3).n 0) 0)), (58, .blk ((u7 2).n 0) [vI j10.1, .slice p_j9 np_j9 c_j9] 72), (59, .blk ((u7 3).n 0) [vP ((u7 2).n 0) 0] 70), (900088, Yo 69 6 p_j9 np_j9 c_j9 (j10.2.flatMap qn))] a w') ?_ ?_
  ·clear H; rintro a w' ⟨p_j9, c_j9, _, rfl, H⟩
   replace G := qP G; obtain ⟨t12, ht12, G⟩ := G
   refine qg qd H (.v 52 (vI (a0.length : Int)) <|
 .v 53 (.func (.func 64) #[] #[vP ((u7 3).n 0) 0]) <|
 .cons [54, 60] (Qo false fr [] [900088, 58, 59] (fun u11 => [QU 69 6 p_j9 c_j9 j10.2 qn, .blk ((u7 2).n 0) [vI j10.1, .slice p_j9 j10.2.length c_j9] 72, .blk ((u7 3).n 0) [vP ((u7 2).n 0) 0] 70]) [] (fun u11 => []) 59 _ _ _ _ _ [60] 54 (fun u11 w hB hF hM => qS.calls k0 (a0.length : Int) (⟨j10.1, j10.2⟩ : Zx) ((u7 3).n 0) ((u7 2).n 0) p_j9 c_j9 t12 w  hB ht12) (fun u11 w hF => ⟨⟨QP (qY (QN hF.1)) (fun j h => ⟨_, (.head _), (Zm h)⟩), VH hF.2.1 (.tail _ (.head _)) rfl, VH hF.2.2.1 (.tail _ (.tail _ (.head _))) rfl, trivial⟩, trivial⟩) (fun u11 g => (qx QZ qI)) (.inr (fun u11 g => (Qj trivial (fun K h => by cases h)))) (fun h => by cases h)) <|
 .cons [2] (qp (fun u11 => slgd_S_i64 (u11 2) 0 t12) 2) <| .nil) [2, 60] fun u11 a w' H => ?_
   refine q7 ?_
   obtain rfl := sj G
   obtain ⟨g, o0, n0, d0⟩ := ZQ ZI ((u11 2).o 0) ((u11 2).n 0) (Xc Xa (u11 2) 0 t12)
   refine Xo H _ g _ _ _ fr [60] [] (slgd_S_i64 (u11 2) 0 t12) [fun _ => ns_en_i64g (u11 2) 0 t12] (by simp only [slgd_S_i64, dlgd_S_i64, ns_en_i64g, Qm, Q9, QU, o0, n0, d0]) (by simp only [slgd_S_i64, dlgd_S_i64, ns_en_i64g, Qm, Q9, QU, o0, n0, d0]) hfr (.inl ⟨rfl, rfl⟩) (qx QZ qI) (by simp)
  ·clear G; replace G := hj10; clear hj10
   refine qg qd H (.v 27 (vI (a0.length : Int)) <|
 .v 28 (vI 0) <| .nil) [0, 3, 4, 6, 27, 28, 55, 56, 58, 59, 900087] fun u13 a w' H => ?_
   refine qA ?_
   replace H := H.nil_row 67 69 6
   replace H := H.move (K := Yo 69 6 none 0 0 (([] : List qG).flatMap qn)) 67 900089 (by kernel_rfl) (by intro _ _ h; cases h)
   refine Qv (fun m a w' => ∃ x14 : Int, ∃ x15 : List qG, ∃ x16 : Int, qt.l17 k0 a0 j6 m x14 x15 x16 = some j10 ∧ ∃ (p_x15 : Option Addr) (c_x15 np_x15 : Nat), np_x15 = x15.length ∧ RL w 55 [(0, sS p_a0 L_a0.length c_a0), (3, (sI (a0.length : Int))), (4, sS p_j5 j6.length c_j5), (6, (sP ((u7 3).n 0) 0)), (27, (sI (a0.length : Int))), (28, sI x16), (55, Qh qi 1 p_a0 c_a0 L_a0 ql), (56, QA qi Qp.toPart L_a0), (58, .blk ((u7 2).n 0) [vI x14, .slice p_x15 np_x15 c_x15] 72), (59, .blk ((u7 3).n 0) [vP ((u7 2).n 0) 0] 70), (900087, QU 69 6 p_j5 c_j5 j6 qn), (900089, Yo 69 6 p_x15 np_x15 c_x15 (x15.flatMap qn))] a w') k0 ⟨_, _, _, G, none, 0, 0, rfl, H.toM _⟩ ?_
   clear G H
   rintro (_ | k) a w' ⟨x14, x15, x16, G, p_x15, c_x15, _, rfl, H⟩
   ·exact absurd G (by unfold qt.l17; exact fun h => by cases h)
   ·unfold qt.l17 at G
    refine qg qd H (.v 29 (.bool (decide (x16 < (a0.length : Int)))) <| .nil) [0, 3, 4, 6, 27, 28, 29, 55, 56, 58, 59, 900087, 900089] fun u18 a w' H => ?_
    refine qs ?_
    refine Qr H (decide (x16 < (a0.length : Int))) (fun c89 => ?_) fun c89 => ?_
    ·rw [if_pos c89] at G
     refine qT ?_
     refine qs ?_
     replace G := qP G; obtain ⟨j21, hj21, G⟩ := G
     refine Qw (fun a w' => ∃ (p_j20 : Option Addr) (c_j20 np_j20 : Nat), np_j20 = j21.2.length ∧ RL w 55 [(0, sS p_a0 L_a0.length c_a0), (3, (sI (a0.length : Int))), (4, sS p_j5 j6.length c_j5), (6, (sP ((u7 3).n 0) 0)), (27, (sI (a0.length : Int))), (28, sI x16), (55, Qh qi 1 p_a0 c_a0 L_a0 ql), (56, QA qi Qp.toPart L_a0), (58, .blk ((u7 2).n 0) [vI j21.1, .slice p_j20 np_j20 c_j20] 72), (59, .blk ((u7 3).n 0) [vP ((u7 2).n 0) 0] 70), (900087, QU 69 6 p_j5 c_j5 j6 qn), (900090, Yo 69 6 p_j20 np_j20 c_j20 (j21.2.flatMap qn))] a w') ?_ ?_
     ·clear H; rintro a w' ⟨p_j20, c_j20, _, rfl, H⟩
      refine qN qd H (.v 51 (vI (qe (x16 + 1))) <|
 .v 28 (vI (qe (x16 + 1))) <| .nil) [0, 3, 4, 6, 27, 28, 55, 56, 58, 59, 900087, 900090] fun u22 a w' H => ?_
      replace H := H.move (K := QU 69 6 p_j20 c_j20 j21.2 qn) 900090 900089 (by kernel_rfl) (by intro _ _ h; cases h)
      exact ⟨k, Nat.lt_succ_self k, _, _, _, G, p_j20, c_j20, j21.2.length, rfl, H.toM _⟩
     ·clear G; replace G := hj21; clear hj21
      refine qA ?_
      refine qg qd H (.v 30 (vI x16) <|
 .v 7 (vI x16) <| .nil) [0, 3, 4, 6, 7, 27, 28, 55, 56, 58, 59, 900087, 900089] fun u23 a w' H => ?_
      refine qg qd H (.cons [8, 62] (qH (fun b => vP b 0) (fun u24 => [vI 0, vI 0, vI 0, vI 0, vI 0, vI 0]) 69 8 62) <| .nil) [0, 3, 4, 6, 7, 8, 27, 28, 55, 56, 58, 59, 62, 900087, 900089] fun u24 a w' H => ?_
      refine qs ?_
      replace G := qP G; obtain ⟨j31, hj31, G⟩ := G
      refine Qw (fun a w' => RL w 55 [(0, sS p_a0 L_a0.length c_a0), (3, (sI (a0.length : Int))), (4, sS p_j5 j6.length c_j5), (6, (sP ((u7 3).n 0) 0)), (8, (sP ((u24 0).n 0) 0)), (27, (sI (a0.length : Int))), (28, sI x16), (55, Qh qi 1 p_a0 c_a0 L_a0 ql), (56, QA qi Qp.toPart L_a0), (58, .blk ((u7 2).n 0) [vI x14, .slice p_x15 x15.length c_x15] 72), (59, .blk ((u7 3).n 0) [vP ((u7 2).n 0) 0] 70), (62, .blk ((u24 0).n 0) [vI j31.1, vI j31.2.1, vI j31.2.2.1, vI j31.2.2.2.1, vI j31.2.2.2.2.1, vI j31.2.2.2.2.2] 69), (900087, QU 69 6 p_j5 c_j5 j6 qn), (900089, QU 69 6 p_x15 c_x15 x15 qn)] a w') ?_ ?_
      ·clear H; intro a w' H
       replace G := gd G; obtain ⟨b33, G⟩ := G
       replace G := qP G; obtain ⟨t34, ht34, G⟩ := G
       refine WU qd H (.cons [45] (qv (vP ((u7 2).n 0) 0) 45 59 0 1 ((u7 3).n 0) [vP ((u7 2).n 0) 0] 70) <|
 .cons [46] (qv (.agg #[vI j31.1, vI j31.2.1, vI j31.2.2.1, vI j31.2.2.2.1, vI j31.2.2.2.2.1, vI j31.2.2.2.2.2]) 46 62 0 6 ((u24 0).n 0) [vI j31.1, vI j31.2.1, vI j31.2.2.1, vI j31.2.2.2.1, vI j31.2.2.2.2.1, vI j31.2.2.2.2.2] 69) <|
 .cons [47, 63] (YE 6 1 (qH (fun b => .slice (some ⟨b, 0, none⟩) 1 1) (fun u32 => [vI j31.1, vI j31.2.1, vI j31.2.2.1, vI j31.2.2.2.1, vI j31.2.2.2.2.1, vI j31.2.2.2.2.2]) 69 47 63) (fun _ => rfl) (by decide)) <|
 .v 48 (.slice p_j5 j6.length c_j5) <|
 .cons [49, 63, 63] (Xs [2] [900087] (fun u32 => [QU 69 6 p_j5 c_j5 j6 qn]) 63 (fun u32 => Yo 69 6 (some ⟨((u32 2).n 0), 0, none⟩) 1 1 (([(⟨j31.1, j31.2.1, j31.2.2.1, j31.2.2.2.1, j31.2.2.2.2.1, j31.2.2.2.2.2⟩ : qG)] : List qG).flatMap qn)) (some 49) (fun u32 g => .slice (g.o 0) (([(⟨j31.1, j31.2.1, j31.2.2.1, j31.2.2.2.1, j31.2.2.2.2.1, j31.2.2.2.2.2⟩ : qG)] : List qG) ++ j6).length (g.n 0)) (fun u32 g => QU 69 6 (g.o 0) (g.n 0) (([(⟨j31.1, j31.2.1, j31.2.2.1, j31.2.2.2.1, j31.2.2.2.2.1, j31.2.2.2.2.2⟩ : qG)] : List qG) ++ j6) qn) (fun u32 w hF hK => ZB (Zr (t := 67) (ty := 67) (en := qn) (m := j6) (p2 := p_j5) (n2 := j6.length) (cap2 := c_j5) Qq (fun _ => rfl) qb1 (QN hK) (qY (QN hF.1)).2 b33 (by kernel_rfl))) (hloc := fun u u' h => ⟨by first | rfl | simp only [h 2 (by decide)], by first | rfl | simp only [h 2 (by decide)], by first | rfl | simp only [h 2 (by decide)], by first | rfl | simp only [h 2 (by decide)]⟩)) <|
 .cons [50, 900089, 58, 64, 58] (Qo false fr [4] [63] (fun u32 => [QU 69 6 ((u32 4).o 0) ((u32 4).n 0) (([(⟨j31.1, j31.2.1, j31.2.2.1, j31.2.2.2.1, j31.2.2.2.2.1, j31.2.2.2.2.2⟩ : qG)] : List qG) ++ j6) qn]) [900089, 58] (fun u32 => [QU 69 6 p_x15 c_x15 x15 qn, .blk ((u7 2).n 0) [vI x14, .slice p_x15 x15.length c_x15] 72]) 63 _ _ _ _ _ [64, 58] 50 (fun u32 w hB hF hM => qJ.calls k0 x14 x15 (([(⟨j31.1, j31.2.1, j31.2.2.1, j31.2.2.2.1, j31.2.2.2.2.1, j31.2.2.2.2.2⟩ : qG)] : List qG) ++ j6) ((u7 2).n 0) p_x15 c_x15 ((u32 4).o 0) ((u32 4).n 0) t34 w  hB hM ht34) (fun u32 w hF => ⟨⟨QP (qY (QN hF.1)) (fun j h => ⟨_, (.head _), (Zm h)⟩), trivial⟩, trivial⟩) (fun u32 g => (qx X2 (qx qa6 qI))) (.inr (fun u32 g => (Qj trivial (Qj trivial (fun K h => by cases h))))) (fun h => by cases h) (hloc := fun u u' h => ⟨by first | rfl | simp only [h 4 (by decide)], by first | rfl | simp only [h 4 (by decide)], by first | rfl | simp only [h 4 (by decide)], by first | rfl | simp only [h 4 (by decide)], by first | rfl | simp only [h 4 (by decide)], by first | rfl | simp only [h 4 (by decide)]⟩)) <| .nil) (by kernel_rfl) fun u32 a w' H => ?_
       replace H := H.kp [0, 3, 4, 6, 27, 28, 55, 56, 58, 59, 64, 900087]
       obtain rfl := sj G
       replace H := H.move (K := QU 69 6 ((u32 5).o 0) ((u32 5).n 0) t34.2 qn) 64 900090 (by kernel_rfl) (by intro _ _ h; cases h)
       exact ⟨((u32 5).o 0), ((u32 5).n 0), t34.2.length, rfl, H.toM _⟩
      ·clear G; replace G := hj31; clear hj31
       refine qg qd H (.v 31 (vI (a0.length : Int)) <|
 .v 32 (vI 0) <| .nil) [0, 3, 4, 6, 7, 8, 27, 28, 31, 32, 55, 56, 58, 59, 62, 900087, 900089] fun u35 a w' H => ?_
       refine qA ?_
       refine Qv (fun m a w' => ∃ x36 : Int, ∃ x37 : Int, ∃ x38 : Int, ∃ x39 : Int, ∃ x40 : Int, ∃ x41 : Int, ∃ x42 : Int, qt.l43 k0 a0 j6 x14 x15 x16 m x36 x37 x38 x39 x40 x41 x42 = some j31 ∧ RL w 55 [(0, sS p_a0 L_a0.length c_a0), (3, (sI (a0.length : Int))), (4, sS p_j5 j6.length c_j5), (6, (sP ((u7 3).n 0) 0)), (7, sI x16), (8, (sP ((u24 0).n 0) 0)), (27, (sI (a0.length : Int))), (28, sI x16), (31, (sI (a0.length : Int))), (32, sI x42), (55, Qh qi 1 p_a0 c_a0 L_a0 ql), (56, QA qi Qp.toPart L_a0), (58, .blk ((u7 2).n 0) [vI x14, .slice p_x15 x15.length c_x15] 72), (59, .blk ((u7 3).n 0) [vP ((u7 2).n 0) 0] 70), (62, .blk ((u24 0).n 0) [vI x36, vI x37, vI x38, vI x39, vI x40, vI x41] 69), (900087, QU 69 6 p_j5 c_j5 j6 qn), (900089, QU 69 6 p_x15 c_x15 x15 qn)] a w') k0 ⟨_, _, _, _, _, _, _, G, H.toM _⟩ ?_
       clear G H
       rintro (_ | k) a w' ⟨x36, x37, x38, x39, x40, x41, x42, G, H⟩
       ·exact absurd G (by unfold qt.l43; exact fun h => by cases h)
       ·unfold qt.l43 at G
        refine qg qd H (.v 33 (.bool (decide (x42 < (a0.length : Int)))) <| .nil) [0, 3, 4, 6, 7, 8, 27, 28, 31, 32, 33, 55, 56, 58, 59, 62, 900087, 900089] fun u44 a w' H => ?_
        refine qs ?_
        refine Qr H (decide (x42 < (a0.length : Int))) (fun c88 => ?_) fun c88 => ?_
        ·rw [if_pos c88] at G
         refine qT ?_
         refine qs ?_
         refine qA ?_
         refine qg qd H (.v 34 (vI x42) <|
 .v 9 (vI x42) <| .nil) [0, 3, 4, 6, 7, 8, 9, 27, 28, 31, 32, 55, 56, 58, 59, 62, 900087, 900089] fun u45 a w' H => ?_
         by_cases c82 : x42 = 0
         ·rw [if_pos c82] at G; subst c82
          replace G := gd G; obtain ⟨b47, G⟩ := G
          replace G := qP G; obtain ⟨t48, ht48, G⟩ := G
          obtain ⟨p_t48, c_t48, y_t48⟩ := QE h_a0 ht48
          replace G := gd G; obtain ⟨b49, G⟩ := G
          replace G := qP G; obtain ⟨t50, ht50, G⟩ := G
          refine qN qd H (.v 35 (vI 0) <|
 .v 36 (.slice p_a0 L_a0.length c_a0) <|
 .v 37 (vI 0) <|
 .cons [38] (qy 55 (Qh qi 1 p_a0 c_a0 L_a0 ql) (.pointer (some ⟨XB p_a0, XC p_a0 + ((0 : Int).toNat) * 1, none⟩)) 38 fun _ w h => YQ 31 .i64 (0 : Int) p_a0 L_a0.length c_a0 a0 ql (qq h).2 qk (qD h_a0) b47) <|
 .cons [39] (qy 55 (Qh qi 1 p_a0 c_a0 L_a0 ql) (.slice p_t48 t48.length c_t48) 39 fun _ w h => Ya ql (qq h).2 qk y_t48 0 1 [.slice p_t48 t48.length c_t48]) <|
 .v 40 (vI x16) <|
 .cons [41] (qy 56 (QA qi Qp.toPart L_a0) (.pointer (some ⟨XB p_t48, XC p_t48 + x16.toNat * 1, none⟩)) 41 fun _ w h => YQ 26 .i64 x16 p_t48 t48.length c_t48 t48 qB (show Xv _ 1 p_t48 t48.length c_t48 (t48.flatMap qB) from ((Qb h) _ (List.mem_of_getElem? y_t48)).1).2 q8 rfl b49) <|
 .cons [42] (qy 56 (QA qi Qp.toPart L_a0) (vI t50) 42 fun _ w h => Ya qB (show Xv _ 1 p_t48 t48.length c_t48 (t48.flatMap qB) from ((Qb h) _ (List.mem_of_getElem? y_t48)).1).2 q8 ht50 0 1 [vI t50]) <|
 .v 43 (vP ((u24 0).n 0) 0) <|
 .cons [62] (QV 62 0 ((u24 0).n 0) [vI x36, vI x37, vI x38, vI x39, vI x40, vI x41] [vI t50] 69 [vI t50, vI x37, vI x38, vI x39, vI x40, vI x41]) <| .nil) [0, 3, 4, 6, 7, 8, 27, 28, 31, 32, 55, 56, 58, 59, 62, 900087, 900089] fun u46 a w' H => ?_
          refine qN qd H (.v 44 (vI (qe (0 + 1))) <|
 .v 32 (vI (qe (0 + 1))) <| .nil) [0, 3, 4, 6, 7, 8, 27, 28, 31, 32, 55, 56, 58, 59, 62, 900087, 900089] fun u51 a w' H => ?_
          exact ⟨k, Nat.lt_succ_self k, _, _, _, _, _, _, _, G, H.toM _⟩
         rw [if_neg c82] at G
         by_cases c83 : x42 = 1
         ·rw [if_pos c83] at G; subst c83
          replace G := gd G; obtain ⟨b53, G⟩ := G
          replace G := qP G; obtain ⟨t54, ht54, G⟩ := G
          obtain ⟨p_t54, c_t54, y_t54⟩ := QE h_a0 ht54
          replace G := gd G; obtain ⟨b55, G⟩ := G
          replace G := qP G; obtain ⟨t56, ht56, G⟩ := G
          refine qN qd H (.v 35 (vI 1) <|
 .v 36 (.slice p_a0 L_a0.length c_a0) <|
 .v 37 (vI 1) <|
 .cons [38] (qy 55 (Qh qi 1 p_a0 c_a0 L_a0 ql) (.pointer (some ⟨XB p_a0, XC p_a0 + ((1 : Int).toNat) * 1, none⟩)) 38 fun _ w h => YQ 31 .i64 (1 : Int) p_a0 L_a0.length c_a0 a0 ql (qq h).2 qk (qD h_a0) b53) <|
 .cons [39] (qy 55 (Qh qi 1 p_a0 c_a0 L_a0 ql) (.slice p_t54 t54.length c_t54) 39 fun _ w h => Ya ql (qq h).2 qk y_t54 0 1 [.slice p_t54 t54.length c_t54]) <|
 .v 40 (vI x16) <|
 .cons [41] (qy 56 (QA qi Qp.toPart L_a0) (.pointer (some ⟨XB p_t54, XC p_t54 + x16.toNat * 1, none⟩)) 41 fun _ w h => YQ 26 .i64 x16 p_t54 t54.length c_t54 t54 qB (show Xv _ 1 p_t54 t54.length c_t54 (t54.flatMap qB) from ((Qb h) _ (List.mem_of_getElem? y_t54)).1).2 q8 rfl b55) <|
 .cons [42] (qy 56 (QA qi Qp.toPart L_a0) (vI t56) 42 fun _ w h => Ya qB (show Xv _ 1 p_t54 t54.length c_t54 (t54.flatMap qB) from ((Qb h) _ (List.mem_of_getElem? y_t54)).1).2 q8 ht56 0 1 [vI t56]) <|
 .v 43 (vP ((u24 0).n 0) 1) <|
 .cons [62] (QV 62 1 ((u24 0).n 0) [vI x36, vI x37, vI x38, vI x39, vI x40, vI x41] [vI t56] 69 [vI x36, vI t56, vI x38, vI x39, vI x40, vI x41]) <| .nil) [0, 3, 4, 6, 7, 8, 27, 28, 31, 32, 55, 56, 58, 59, 62, 900087, 900089] fun u52 a w' H => ?_
          refine qN qd H (.v 44 (vI (qe (1 + 1))) <|
 .v 32 (vI (qe (1 + 1))) <| .nil) [0, 3, 4, 6, 7, 8, 27, 28, 31, 32, 55, 56, 58, 59, 62, 900087, 900089] fun u57 a w' H => ?_
          exact ⟨k, Nat.lt_succ_self k, _, _, _, _, _, _, _, G, H.toM _⟩
         rw [if_neg c83] at G
         by_cases c84 : x42 = 2
         ·rw [if_pos c84] at G; subst c84
          replace G := gd G; obtain ⟨b59, G⟩ := G
          replace G := qP G; obtain ⟨t60, ht60, G⟩ := G
          obtain ⟨p_t60, c_t60, y_t60⟩ := QE h_a0 ht60
          replace G := gd G; obtain ⟨b61, G⟩ := G
          replace G := qP G; obtain ⟨t62, ht62, G⟩ := G
          refine qN qd H (.v 35 (vI 2) <|
 .v 36 (.slice p_a0 L_a0.length c_a0) <|
 .v 37 (vI 2) <|
 .cons [38] (qy 55 (Qh qi 1 p_a0 c_a0 L_a0 ql) (.pointer (some ⟨XB p_a0, XC p_a0 + ((2 : Int).toNat) * 1, none⟩)) 38 fun _ w h => YQ 31 .i64 (2 : Int) p_a0 L_a0.length c_a0 a0 ql (qq h).2 qk (qD h_a0) b59) <|
 .cons [39] (qy 55 (Qh qi 1 p_a0 c_a0 L_a0 ql) (.slice p_t60 t60.length c_t60) 39 fun _ w h => Ya ql (qq h).2 qk y_t60 0 1 [.slice p_t60 t60.length c_t60]) <|
 .v 40 (vI x16) <|
 .cons [41] (qy 56 (QA qi Qp.toPart L_a0) (.pointer (some ⟨XB p_t60, XC p_t60 + x16.toNat * 1, none⟩)) 41 fun _ w h => YQ 26 .i64 x16 p_t60 t60.length c_t60 t60 qB (show Xv _ 1 p_t60 t60.length c_t60 (t60.flatMap qB) from ((Qb h) _ (List.mem_of_getElem? y_t60)).1).2 q8 rfl b61) <|
 .cons [42] (qy 56 (QA qi Qp.toPart L_a0) (vI t62) 42 fun _ w h => Ya qB (show Xv _ 1 p_t60 t60.length c_t60 (t60.flatMap qB) from ((Qb h) _ (List.mem_of_getElem? y_t60)).1).2 q8 ht62 0 1 [vI t62]) <|
 .v 43 (vP ((u24 0).n 0) 2) <|
 .cons [62] (QV 62 2 ((u24 0).n 0) [vI x36, vI x37, vI x38, vI x39, vI x40, vI x41] [vI t62] 69 [vI x36, vI x37, vI t62, vI x39, vI x40, vI x41]) <| .nil) [0, 3, 4, 6, 7, 8, 27, 28, 31, 32, 55, 56, 58, 59, 62, 900087, 900089] fun u58 a w' H => ?_
          refine qN qd H (.v 44 (vI (qe (2 + 1))) <|
 .v 32 (vI (qe (2 + 1))) <| .nil) [0, 3, 4, 6, 7, 8, 27, 28, 31, 32, 55, 56, 58, 59, 62, 900087, 900089] fun u63 a w' H => ?_
          exact ⟨k, Nat.lt_succ_self k, _, _, _, _, _, _, _, G, H.toM _⟩
         rw [if_neg c84] at G
         by_cases c85 : x42 = 3
         ·rw [if_pos c85] at G; subst c85
          replace G := gd G; obtain ⟨b65, G⟩ := G
          replace G := qP G; obtain ⟨t66, ht66, G⟩ := G
          obtain ⟨p_t66, c_t66, y_t66⟩ := QE h_a0 ht66
          replace G := gd G; obtain ⟨b67, G⟩ := G
          replace G := qP G; obtain ⟨t68, ht68, G⟩ := G
          refine qN qd H (.v 35 (vI 3) <|
 .v 36 (.slice p_a0 L_a0.length c_a0) <|
 .v 37 (vI 3) <|
 .cons [38] (qy 55 (Qh qi 1 p_a0 c_a0 L_a0 ql) (.pointer (some ⟨XB p_a0, XC p_a0 + ((3 : Int).toNat) * 1, none⟩)) 38 fun _ w h => YQ 31 .i64 (3 : Int) p_a0 L_a0.length c_a0 a0 ql (qq h).2 qk (qD h_a0) b65) <|
 .cons [39] (qy 55 (Qh qi 1 p_a0 c_a0 L_a0 ql) (.slice p_t66 t66.length c_t66) 39 fun _ w h => Ya ql (qq h).2 qk y_t66 0 1 [.slice p_t66 t66.length c_t66]) <|
 .v 40 (vI x16) <|
 .cons [41] (qy 56 (QA qi Qp.toPart L_a0) (.pointer (some ⟨XB p_t66, XC p_t66 + x16.toNat * 1, none⟩)) 41 fun _ w h => YQ 26 .i64 x16 p_t66 t66.length c_t66 t66 qB (show Xv _ 1 p_t66 t66.length c_t66 (t66.flatMap qB) from ((Qb h) _ (List.mem_of_getElem? y_t66)).1).2 q8 rfl b67) <|
 .cons [42] (qy 56 (QA qi Qp.toPart L_a0) (vI t68) 42 fun _ w h => Ya qB (show Xv _ 1 p_t66 t66.length c_t66 (t66.flatMap qB) from ((Qb h) _ (List.mem_of_getElem? y_t66)).1).2 q8 ht68 0 1 [vI t68]) <|
 .v 43 (vP ((u24 0).n 0) 3) <|
 .cons [62] (QV 62 3 ((u24 0).n 0) [vI x36, vI x37, vI x38, vI x39, vI x40, vI x41] [vI t68] 69 [vI x36, vI x37, vI x38, vI t68, vI x40, vI x41]) <| .nil) [0, 3, 4, 6, 7, 8, 27, 28, 31, 32, 55, 56, 58, 59, 62, 900087, 900089] fun u64 a w' H => ?_
          refine qN qd H (.v 44 (vI (qe (3 + 1))) <|
 .v 32 (vI (qe (3 + 1))) <| .nil) [0, 3, 4, 6, 7, 8, 27, 28, 31, 32, 55, 56, 58, 59, 62, 900087, 900089] fun u69 a w' H => ?_
          exact ⟨k, Nat.lt_succ_self k, _, _, _, _, _, _, _, G, H.toM _⟩
         rw [if_neg c85] at G
         by_cases c86 : x42 = 4
         ·rw [if_pos c86] at G; subst c86
          replace G := gd G; obtain ⟨b71, G⟩ := G
          replace G := qP G; obtain ⟨t72, ht72, G⟩ := G
          obtain ⟨p_t72, c_t72, y_t72⟩ := QE h_a0 ht72
          replace G := gd G; obtain ⟨b73, G⟩ := G
          replace G := qP G; obtain ⟨t74, ht74, G⟩ := G
          refine qN qd H (.v 35 (vI 4) <|
 .v 36 (.slice p_a0 L_a0.length c_a0) <|
 .v 37 (vI 4) <|
 .cons [38] (qy 55 (Qh qi 1 p_a0 c_a0 L_a0 ql) (.pointer (some ⟨XB p_a0, XC p_a0 + ((4 : Int).toNat) * 1, none⟩)) 38 fun _ w h => YQ 31 .i64 (4 : Int) p_a0 L_a0.length c_a0 a0 ql (qq h).2 qk (qD h_a0) b71) <|
 .cons [39] (qy 55 (Qh qi 1 p_a0 c_a0 L_a0 ql) (.slice p_t72 t72.length c_t72) 39 fun _ w h => Ya ql (qq h).2 qk y_t72 0 1 [.slice p_t72 t72.length c_t72]) <|
 .v 40 (vI x16) <|
 .cons [41] (qy 56 (QA qi Qp.toPart L_a0) (.pointer (some ⟨XB p_t72, XC p_t72 + x16.toNat * 1, none⟩)) 41 fun _ w h => YQ 26 .i64 x16 p_t72 t72.length c_t72 t72 qB (show Xv _ 1 p_t72 t72.length c_t72 (t72.flatMap qB) from ((Qb h) _ (List.mem_of_getElem? y_t72)).1).2 q8 rfl b73) <|
 .cons [42] (qy 56 (QA qi Qp.toPart L_a0) (vI t74) 42 fun _ w h => Ya qB (show Xv _ 1 p_t72 t72.length c_t72 (t72.flatMap qB) from ((Qb h) _ (List.mem_of_getElem? y_t72)).1).2 q8 ht74 0 1 [vI t74]) <|
 .v 43 (vP ((u24 0).n 0) 4) <|
 .cons [62] (QV 62 4 ((u24 0).n 0) [vI x36, vI x37, vI x38, vI x39, vI x40, vI x41] [vI t74] 69 [vI x36, vI x37, vI x38, vI x39, vI t74, vI x41]) <| .nil) [0, 3, 4, 6, 7, 8, 27, 28, 31, 32, 55, 56, 58, 59, 62, 900087, 900089] fun u70 a w' H => ?_
          refine qN qd H (.v 44 (vI (qe (4 + 1))) <|
 .v 32 (vI (qe (4 + 1))) <| .nil) [0, 3, 4, 6, 7, 8, 27, 28, 31, 32, 55, 56, 58, 59, 62, 900087, 900089] fun u75 a w' H => ?_
          exact ⟨k, Nat.lt_succ_self k, _, _, _, _, _, _, _, G, H.toM _⟩
         rw [if_neg c86] at G
         by_cases c87 : x42 = 5
         ·rw [if_pos c87] at G; subst c87
          replace G := gd G; obtain ⟨b77, G⟩ := G
          replace G := qP G; obtain ⟨t78, ht78, G⟩ := G
          obtain ⟨p_t78, c_t78, y_t78⟩ := QE h_a0 ht78
          replace G := gd G; obtain ⟨b79, G⟩ := G
          replace G := qP G; obtain ⟨t80, ht80, G⟩ := G
          refine qN qd H (.v 35 (vI 5) <|
 .v 36 (.slice p_a0 L_a0.length c_a0) <|
 .v 37 (vI 5) <|
 .cons [38] (qy 55 (Qh qi 1 p_a0 c_a0 L_a0 ql) (.pointer (some ⟨XB p_a0, XC p_a0 + ((5 : Int).toNat) * 1, none⟩)) 38 fun _ w h => YQ 31 .i64 (5 : Int) p_a0 L_a0.length c_a0 a0 ql (qq h).2 qk (qD h_a0) b77) <|
 .cons [39] (qy 55 (Qh qi 1 p_a0 c_a0 L_a0 ql) (.slice p_t78 t78.length c_t78) 39 fun _ w h => Ya ql (qq h).2 qk y_t78 0 1 [.slice p_t78 t78.length c_t78]) <|
 .v 40 (vI x16) <|
 .cons [41] (qy 56 (QA qi Qp.toPart L_a0) (.pointer (some ⟨XB p_t78, XC p_t78 + x16.toNat * 1, none⟩)) 41 fun _ w h => YQ 26 .i64 x16 p_t78 t78.length c_t78 t78 qB (show Xv _ 1 p_t78 t78.length c_t78 (t78.flatMap qB) from ((Qb h) _ (List.mem_of_getElem? y_t78)).1).2 q8 rfl b79) <|
 .cons [42] (qy 56 (QA qi Qp.toPart L_a0) (vI t80) 42 fun _ w h => Ya qB (show Xv _ 1 p_t78 t78.length c_t78 (t78.flatMap qB) from ((Qb h) _ (List.mem_of_getElem? y_t78)).1).2 q8 ht80 0 1 [vI t80]) <|
 .v 43 (vP ((u24 0).n 0) 5) <|
 .cons [62] (QV 62 5 ((u24 0).n 0) [vI x36, vI x37, vI x38, vI x39, vI x40, vI x41] [vI t80] 69 [vI x36, vI x37, vI x38, vI x39, vI x40, vI t80]) <| .nil) [0, 3, 4, 6, 7, 8, 27, 28, 31, 32, 55, 56, 58, 59, 62, 900087, 900089] fun u76 a w' H => ?_
          refine qN qd H (.v 44 (vI (qe (5 + 1))) <|
 .v 32 (vI (qe (5 + 1))) <| .nil) [0, 3, 4, 6, 7, 8, 27, 28, 31, 32, 55, 56, 58, 59, 62, 900087, 900089] fun u81 a w' H => ?_
          exact ⟨k, Nat.lt_succ_self k, _, _, _, _, _, _, _, G, H.toM _⟩
         rw [if_neg c87] at G
         cases G
        ·rw [if_neg (nt c88)] at G
         refine QO rfl ?_
         obtain rfl := sj G
         exact H.toM _
    ·rw [if_neg (nt c89)] at G
     refine QO rfl ?_
     obtain rfl := sj G
     replace H := H.move (K := QU 69 6 p_x15 c_x15 x15 qn) 900089 900088 (by kernel_rfl) (by intro _ _ h; cases h)
     exact ⟨p_x15, c_x15, x15.length, rfl, H.toM _⟩
 ·clear G; replace G := hj6; clear hj6
  refine qg qd H (.v 14 (vI (a0.length : Int)) <|
 .v 15 (vI 0) <| .nil) [0, 3, 4, 14, 15, 55, 56, 57] fun u90 a w' H => ?_
  refine qA ?_
  replace H := H.move (K := QU 69 6 ((u3 1).o 0) ((u3 1).n 0) (List.replicate (a0.length : Int).toNat (⟨0, 0, 0, 0, 0, 0⟩ : qG)) qn) 57 900091 (by kernel_rfl) (by intro _ _ h; cases h)
  refine Qv (fun m a w' => ∃ x91 : List qG, ∃ x92 : Int, qt.l93 k0 a0 m x91 x92 = some j6 ∧ ∃ (p_x91 : Option Addr) (c_x91 np_x91 : Nat), np_x91 = x91.length ∧ RL w 55 [(0, sS p_a0 L_a0.length c_a0), (3, (sI (a0.length : Int))), (4, sS p_x91 np_x91 c_x91), (14, (sI (a0.length : Int))), (15, sI x92), (55, Qh qi 1 p_a0 c_a0 L_a0 ql), (56, QA qi Qp.toPart L_a0), (900091, Yo 69 6 p_x91 np_x91 c_x91 (x91.flatMap qn))] a w') k0 ⟨_, _, G, ((u3 1).o 0), ((u3 1).n 0), (List.replicate (a0.length : Int).toNat (⟨0, 0, 0, 0, 0, 0⟩ : qG)).length, rfl, H.toM _⟩ ?_
  clear G H
  rintro (_ | k) a w' ⟨x91, x92, G, p_x91, c_x91, _, rfl, H⟩
  ·exact absurd G (by unfold qt.l93; exact fun h => by cases h)
  ·unfold qt.l93 at G
   refine qg qd H (.v 16 (.bool (decide (x92 < (a0.length : Int)))) <| .nil) [0, 3, 4, 14, 15, 16, 55, 56, 900091] fun u94 a w' H => ?_
   refine qs ?_
   refine Qr H (decide (x92 < (a0.length : Int))) (fun c126 => ?_) fun c126 => ?_
   ·rw [if_pos c126] at G
    refine qT ?_
    refine qs ?_
    refine qA ?_
    refine qg qd H (.v 17 (vI x92) <|
 .v 5 (vI x92) <| .nil) [0, 3, 4, 5, 14, 15, 55, 56, 900091] fun u95 a w' H => ?_
    by_cases c120 : x92 = 0
    ·rw [if_pos c120] at G; subst c120
     replace G := gd G; obtain ⟨b97, G⟩ := G
     replace G := qP G; obtain ⟨t98, ht98, G⟩ := G
     refine qN qd H (.v 18 (.slice p_x91 x91.length c_x91) <|
 .v 19 (vI 0) <|
 .v 20 (vI 0) <|
 .cons [21] (qy 900091 (QU 69 6 p_x91 c_x91 x91 qn) (.pointer (some ⟨XB p_x91, XC p_x91 + ((0 : Int).toNat) * 6, none⟩)) 21 fun _ w h => YQ 67 .i64 (0 : Int) p_x91 x91.length c_x91 x91 qn (qY (QN h)).2 Qq rfl b97) <|
 .v 22 (.pointer (some ⟨XB p_x91, XC p_x91 + ((0 : Int).toNat) * 6 + 0, none⟩)) <|
 .cons [900091, 900091] (Xs [] [] (fun u96 => []) 900091 (fun u96 => QU 69 6 p_x91 c_x91 x91 qn) none (fun u96 g => .nilFunc) (fun u96 g => Yo 69 6 p_x91 x91.length c_x91 ((x91.set ((0 : Int).toNat) (⟨65536, t98.e1, t98.e2, t98.e3, t98.e4, t98.e5⟩ : qG)).flatMap qn)) (fun u96 w hF hK => Z8 (XP (QN hK) Qq (y := (⟨65536, t98.e1, t98.e2, t98.e3, t98.e4, t98.e5⟩ : qG)) (vs := [vI 65536]) ht98 0 (by simp) (by simp) rfl (by kernel_rfl)))) <| .nil) [0, 3, 4, 14, 15, 55, 56, 900091] fun u96 a w' H => ?_
     refine qN qd H (.v 23 (vI (qe (0 + 1))) <|
 .v 15 (vI (qe (0 + 1))) <| .nil) [0, 3, 4, 14, 15, 55, 56, 900091] fun u99 a w' H => ?_
     exact ⟨k, Nat.lt_succ_self k, _, _, G, p_x91, c_x91, x91.length, by simp, H.toM _⟩
    rw [if_neg c120] at G
    by_cases c121 : x92 = 1
    ·rw [if_pos c121] at G; subst c121
     replace G := gd G; obtain ⟨b101, G⟩ := G
     replace G := qP G; obtain ⟨t102, ht102, G⟩ := G
     refine qN qd H (.v 18 (.slice p_x91 x91.length c_x91) <|
 .v 19 (vI 1) <|
 .v 20 (vI 1) <|
 .cons [21] (qy 900091 (QU 69 6 p_x91 c_x91 x91 qn) (.pointer (some ⟨XB p_x91, XC p_x91 + ((1 : Int).toNat) * 6, none⟩)) 21 fun _ w h => YQ 67 .i64 (1 : Int) p_x91 x91.length c_x91 x91 qn (qY (QN h)).2 Qq rfl b101) <|
 .v 22 (.pointer (some ⟨XB p_x91, XC p_x91 + ((1 : Int).toNat) * 6 + 1, none⟩)) <|
 .cons [900091, 900091] (Xs [] [] (fun u100 => []) 900091 (fun u100 => QU 69 6 p_x91 c_x91 x91 qn) none (fun u100 g => .nilFunc) (fun u100 g => Yo 69 6 p_x91 x91.length c_x91 ((x91.set ((1 : Int).toNat) (⟨t102.e0, 65536, t102.e2, t102.e3, t102.e4, t102.e5⟩ : qG)).flatMap qn)) (fun u100 w hF hK => Z8 (XP (QN hK) Qq (y := (⟨t102.e0, 65536, t102.e2, t102.e3, t102.e4, t102.e5⟩ : qG)) (vs := [vI 65536]) ht102 1 (by simp) (by simp) rfl (by kernel_rfl)))) <| .nil) [0, 3, 4, 14, 15, 55, 56, 900091] fun u100 a w' H => ?_
     refine qN qd H (.v 23 (vI (qe (1 + 1))) <|
 .v 15 (vI (qe (1 + 1))) <| .nil) [0, 3, 4, 14, 15, 55, 56, 900091] fun u103 a w' H => ?_
     exact ⟨k, Nat.lt_succ_self k, _, _, G, p_x91, c_x91, x91.length, by simp, H.toM _⟩
    rw [if_neg c121] at G
    by_cases c122 : x92 = 2
    ·rw [if_pos c122] at G; subst c122
     replace G := gd G; obtain ⟨b105, G⟩ := G
     replace G := qP G; obtain ⟨t106, ht106, G⟩ := G
     refine qN qd H (.v 18 (.slice p_x91 x91.length c_x91) <|
 .v 19 (vI 2) <|
 .v 20 (vI 2) <|
 .cons [21] (qy 900091 (QU 69 6 p_x91 c_x91 x91 qn) (.pointer (some ⟨XB p_x91, XC p_x91 + ((2 : Int).toNat) * 6, none⟩)) 21 fun _ w h => YQ 67 .i64 (2 : Int) p_x91 x91.length c_x91 x91 qn (qY (QN h)).2 Qq rfl b105) <|
 .v 22 (.pointer (some ⟨XB p_x91, XC p_x91 + ((2 : Int).toNat) * 6 + 2, none⟩)) <|
 .cons [900091, 900091] (Xs [] [] (fun u104 => []) 900091 (fun u104 => QU 69 6 p_x91 c_x91 x91 qn) none (fun u104 g => .nilFunc) (fun u104 g => Yo 69 6 p_x91 x91.length c_x91 ((x91.set ((2 : Int).toNat) (⟨t106.e0, t106.e1, 65536, t106.e3, t106.e4, t106.e5⟩ : qG)).flatMap qn)) (fun u104 w hF hK => Z8 (XP (QN hK) Qq (y := (⟨t106.e0, t106.e1, 65536, t106.e3, t106.e4, t106.e5⟩ : qG)) (vs := [vI 65536]) ht106 2 (by simp) (by simp) rfl (by kernel_rfl)))) <| .nil) [0, 3, 4, 14, 15, 55, 56, 900091] fun u104 a w' H => ?_
     refine qN qd H (.v 23 (vI (qe (2 + 1))) <|
 .v 15 (vI (qe (2 + 1))) <| .nil) [0, 3, 4, 14, 15, 55, 56, 900091] fun u107 a w' H => ?_
     exact ⟨k, Nat.lt_succ_self k, _, _, G, p_x91, c_x91, x91.length, by simp, H.toM _⟩
    rw [if_neg c122] at G
    by_cases c123 : x92 = 3
    ·rw [if_pos c123] at G; subst c123
     replace G := gd G; obtain ⟨b109, G⟩ := G
     replace G := qP G; obtain ⟨t110, ht110, G⟩ := G
     refine qN qd H (.v 18 (.slice p_x91 x91.length c_x91) <|
 .v 19 (vI 3) <|
 .v 20 (vI 3) <|
 .cons [21] (qy 900091 (QU 69 6 p_x91 c_x91 x91 qn) (.pointer (some ⟨XB p_x91, XC p_x91 + ((3 : Int).toNat) * 6, none⟩)) 21 fun _ w h => YQ 67 .i64 (3 : Int) p_x91 x91.length c_x91 x91 qn (qY (QN h)).2 Qq rfl b109) <|
 .v 22 (.pointer (some ⟨XB p_x91, XC p_x91 + ((3 : Int).toNat) * 6 + 3, none⟩)) <|
 .cons [900091, 900091] (Xs [] [] (fun u108 => []) 900091 (fun u108 => QU 69 6 p_x91 c_x91 x91 qn) none (fun u108 g => .nilFunc) (fun u108 g => Yo 69 6 p_x91 x91.length c_x91 ((x91.set ((3 : Int).toNat) (⟨t110.e0, t110.e1, t110.e2, 65536, t110.e4, t110.e5⟩ : qG)).flatMap qn)) (fun u108 w hF hK => Z8 (XP (QN hK) Qq (y := (⟨t110.e0, t110.e1, t110.e2, 65536, t110.e4, t110.e5⟩ : qG)) (vs := [vI 65536]) ht110 3 (by simp) (by simp) rfl (by kernel_rfl)))) <| .nil) [0, 3, 4, 14, 15, 55, 56, 900091] fun u108 a w' H => ?_
     refine qN qd H (.v 23 (vI (qe (3 + 1))) <|
 .v 15 (vI (qe (3 + 1))) <| .nil) [0, 3, 4, 14, 15, 55, 56, 900091] fun u111 a w' H => ?_
     exact ⟨k, Nat.lt_succ_self k, _, _, G, p_x91, c_x91, x91.length, by simp, H.toM _⟩
    rw [if_neg c123] at G
    by_cases c124 : x92 = 4
    ·rw [if_pos c124] at G; subst c124
     replace G := gd G; obtain ⟨b113, G⟩ := G
     replace G := qP G; obtain ⟨t114, ht114, G⟩ := G
     refine qN qd H (.v 18 (.slice p_x91 x91.length c_x91) <|
 .v 19 (vI 4) <|
 .v 20 (vI 4) <|
 .cons [21] (qy 900091 (QU 69 6 p_x91 c_x91 x91 qn) (.pointer (some ⟨XB p_x91, XC p_x91 + ((4 : Int).toNat) * 6, none⟩)) 21 fun _ w h => YQ 67 .i64 (4 : Int) p_x91 x91.length c_x91 x91 qn (qY (QN h)).2 Qq rfl b113) <|
 .v 22 (.pointer (some ⟨XB p_x91, XC p_x91 + ((4 : Int).toNat) * 6 + 4, none⟩)) <|
 .cons [900091, 900091] (Xs [] [] (fun u112 => []) 900091 (fun u112 => QU 69 6 p_x91 c_x91 x91 qn) none (fun u112 g => .nilFunc) (fun u112 g => Yo 69 6 p_x91 x91.length c_x91 ((x91.set ((4 : Int).toNat) (⟨t114.e0, t114.e1, t114.e2, t114.e3, 65536, t114.e5⟩ : qG)).flatMap qn)) (fun u112 w hF hK => Z8 (XP (QN hK) Qq (y := (⟨t114.e0, t114.e1, t114.e2, t114.e3, 65536, t114.e5⟩ : qG)) (vs := [vI 65536]) ht114 4 (by simp) (by simp) rfl (by kernel_rfl)))) <| .nil) [0, 3, 4, 14, 15, 55, 56, 900091] fun u112 a w' H => ?_
     refine qN qd H (.v 23 (vI (qe (4 + 1))) <|
 .v 15 (vI (qe (4 + 1))) <| .nil) [0, 3, 4, 14, 15, 55, 56, 900091] fun u115 a w' H => ?_
     exact ⟨k, Nat.lt_succ_self k, _, _, G, p_x91, c_x91, x91.length, by simp, H.toM _⟩
    rw [if_neg c124] at G
    by_cases c125 : x92 = 5
    ·rw [if_pos c125] at G; subst c125
     replace G := gd G; obtain ⟨b117, G⟩ := G
     replace G := qP G; obtain ⟨t118, ht118, G⟩ := G
     refine qN qd H (.v 18 (.slice p_x91 x91.length c_x91) <|
 .v 19 (vI 5) <|
 .v 20 (vI 5) <|
 .cons [21] (qy 900091 (QU 69 6 p_x91 c_x91 x91 qn) (.pointer (some ⟨XB p_x91, XC p_x91 + ((5 : Int).toNat) * 6, none⟩)) 21 fun _ w h => YQ 67 .i64 (5 : Int) p_x91 x91.length c_x91 x91 qn (qY (QN h)).2 Qq rfl b117) <|
 .v 22 (.pointer (some ⟨XB p_x91, XC p_x91 + ((5 : Int).toNat) * 6 + 5, none⟩)) <|
 .cons [900091, 900091] (Xs [] [] (fun u116 => []) 900091 (fun u116 => QU 69 6 p_x91 c_x91 x91 qn) none (fun u116 g => .nilFunc) (fun u116 g => Yo 69 6 p_x91 x91.length c_x91 ((x91.set ((5 : Int).toNat) (⟨t118.e0, t118.e1, t118.e2, t118.e3, t118.e4, 65536⟩ : qG)).flatMap qn)) (fun u116 w hF hK => Z8 (XP (QN hK) Qq (y := (⟨t118.e0, t118.e1, t118.e2, t118.e3, t118.e4, 65536⟩ : qG)) (vs := [vI 65536]) ht118 5 (by simp) (by simp) rfl (by kernel_rfl)))) <| .nil) [0, 3, 4, 14, 15, 55, 56, 900091] fun u116 a w' H => ?_
     refine qN qd H (.v 23 (vI (qe (5 + 1))) <|
 .v 15 (vI (qe (5 + 1))) <| .nil) [0, 3, 4, 14, 15, 55, 56, 900091] fun u119 a w' H => ?_
     exact ⟨k, Nat.lt_succ_self k, _, _, G, p_x91, c_x91, x91.length, by simp, H.toM _⟩
    rw [if_neg c125] at G
    cases G
   ·rw [if_neg (nt c126)] at G
    refine QO rfl ?_
    obtain rfl := sj G
    replace H := H.move (K := QU 69 6 p_x91 c_x91 x91 qn) 900091 900087 (by kernel_rfl) (by intro _ _ h; cases h)
    exact ⟨p_x91, c_x91, x91.length, rfl, H.toM _⟩
theorem QM.calls (a0 : Int) (a1 : Int) (a2 : Int) (a3 : Int) (r : List (List Int)) (w : World) (G : QM a0 a1 a2 a3 = some r) :
  Calls Tryz.prog 28 #[vI a0, vI a1, vI a2, vI a3] w fun e w' => ∃ g : Gh, e = .returned (slgd_S_i64 g 0 r) ∧ Y7 (YT []) w w' ∧ YD w.heap.size (YT []) (JG w.heap.size []) [fun _ => ns_en_i64g g 0 r] w' := by
 obtain ⟨fr, hfr, hBf⟩ := J4 w []
 refine Q4 (args := [vI a0, vI a1, vI a2, vI a3]) 20 Tryz.func28 rfl (by kernel_rfl) (by kernel_rfl) fun a H => ?_
 unfold QM at G
 refine qg qd H (.v 8 (.slice none 0 0) <| .nil) [0, 1, 2, 3] fun u1 a w' H => ?_
 refine qg qd H (.v 9 (vI a0) <|
 .v 10 (vI (qe (a0 * 65536))) <|
 .v 11 (vI a1) <|
 .v 12 (vI (qe (a1 * 65536))) <|
 .cons [13, 20] (qH (fun b => .slice (some ⟨b, 0, none⟩) 2 2) (fun u2 => [vI (qe (a0 * 65536)), vI (qe (a1 * 65536))]) 2 13 20) <|
 .v 14 (vI a2) <|
 .v 15 (vI (qe (a2 * 65536))) <|
 .v 16 (vI a3) <|
 .v 17 (vI (qe (a3 * 65536))) <|
 .cons [18, 21] (qH (fun b => .slice (some ⟨b, 0, none⟩) 2 2) (fun u2 => [vI (qe (a2 * 65536)), vI (qe (a3 * 65536))]) 2 18 21) <|
 .cons [19, 22] (qH (fun b => .slice (some ⟨b, 0, none⟩) 2 2) (fun u2 => [.slice (some ⟨((u2 4).n 0), 0, none⟩) 2 2, .slice (some ⟨((u2 9).n 0), 0, none⟩) 2 2]) 26 19 22) <|
 .cons [8] (qp (fun u2 => .slice (some ⟨((u2 10).n 0), 0, none⟩) 2 2) 8) <| .nil) [8, 20, 21, 22] fun u2 a w' H => ?_
 refine q7 ?_
 obtain rfl := sj G
 replace H := H.blk_row 20 ((u2 4).n 0) [vI (qe (a0 * 65536)), vI (qe (a1 * 65536))] 2 1 2 (by kernel_rfl) (by kernel_rfl) (by decide)
 replace H := H.blk_row 21 ((u2 9).n 0) [vI (qe (a2 * 65536)), vI (qe (a3 * 65536))] 2 1 2 (by kernel_rfl) (by kernel_rfl) (by decide)
 replace H := H.blk_row 22 ((u2 10).n 0) [.slice (some ⟨((u2 4).n 0), 0, none⟩) 2 2, .slice (some ⟨((u2 9).n 0), 0, none⟩) 2 2] 26 1 2 (by kernel_rfl) (by kernel_rfl) (by decide)
 replace H := H.nestOpen (e := 26) (m := 2) (cap := 2) (p := (some ⟨((u2 10).n 0), 0, none⟩)) (H := ([⟨(some ⟨((u2 4).n 0), 0, none⟩), 2, ([qe (a0 * 65536), qe (a1 * 65536)] : List Int)⟩, ⟨(some ⟨((u2 9).n 0), 0, none⟩), 2, ([qe (a2 * 65536), qe (a3 * 65536)] : List Int)⟩] : List (Sl Int))) 22 2 1 qB (by kernel_rfl)
 replace H := H.nestTake (e := 26) (e2 := 2) (m := 2) (cap := 2) (p := (some ⟨((u2 10).n 0), 0, none⟩)) (H := ([⟨(some ⟨((u2 4).n 0), 0, none⟩), 2, ([qe (a0 * 65536), qe (a1 * 65536)] : List Int)⟩, ⟨(some ⟨((u2 9).n 0), 0, none⟩), 2, ([qe (a2 * 65536), qe (a3 * 65536)] : List Int)⟩] : List (Sl Int))) (L := ([] : List (Sl Int))) (n2 := 2) (c := 2) (q := (some ⟨((u2 4).n 0), 0, none⟩)) (en := qB) (l := ([qe (a0 * 65536), qe (a1 * 65536)] : List Int)) 22 20 (by kernel_rfl) (by kernel_rfl) (by rfl) q8 (by decide)
 replace H := H.nestTake (e := 26) (e2 := 2) (m := 2) (cap := 2) (p := (some ⟨((u2 10).n 0), 0, none⟩)) (H := ([⟨(some ⟨((u2 4).n 0), 0, none⟩), 2, ([qe (a0 * 65536), qe (a1 * 65536)] : List Int)⟩, ⟨(some ⟨((u2 9).n 0), 0, none⟩), 2, ([qe (a2 * 65536), qe (a3 * 65536)] : List Int)⟩] : List (Sl Int))) (L := (([] : List (Sl Int)) ++ [⟨(some ⟨((u2 4).n 0), 0, none⟩), 2, ([qe (a0 * 65536), qe (a1 * 65536)] : List Int)⟩])) (n2 := 2) (c := 2) (q := (some ⟨((u2 9).n 0), 0, none⟩)) (en := qB) (l := ([qe (a2 * 65536), qe (a3 * 65536)] : List Int)) 22 21 (by kernel_rfl) (by kernel_rfl) (by rfl) q8 (by decide)
 obtain ⟨g, o0, n0, d0⟩ := ZQ ZI (some ⟨((u2 10).n 0), 0, none⟩) 2 (show ([([qe (a0 * 65536), qe (a1 * 65536)] : List Int), ([qe (a2 * 65536), qe (a3 * 65536)] : List Int)] : List (List Int)) = List.map Sl.l ([⟨(some ⟨((u2 4).n 0), 0, none⟩), 2, ([qe (a0 * 65536), qe (a1 * 65536)] : List Int)⟩, ⟨(some ⟨((u2 9).n 0), 0, none⟩), 2, ([qe (a2 * 65536), qe (a3 * 65536)] : List Int)⟩] : List (Sl Int)) from rfl)
 refine Xo H _ g _ _ _ fr [22] [] (.slice (some ⟨((u2 10).n 0), 0, none⟩) 2 2) [fun _ => Q9 (some ⟨((u2 10).n 0), 0, none⟩) 2 2 ([⟨(some ⟨((u2 4).n 0), 0, none⟩), 2, ([qe (a0 * 65536), qe (a1 * 65536)] : List Int)⟩, ⟨(some ⟨((u2 9).n 0), 0, none⟩), 2, ([qe (a2 * 65536), qe (a3 * 65536)] : List Int)⟩] : List (Sl Int))] (by simp only [slgd_S_i64, dlgd_S_i64, ns_en_i64g, Qm, Q9, QU, o0, n0, d0, List.length_set, List.length_cons, List.length_nil, Nat.zero_add, Nat.reduceAdd]) (by simp only [slgd_S_i64, dlgd_S_i64, ns_en_i64g, Qm, Q9, QU, o0, n0, d0, List.length_set, List.length_cons, List.length_nil, Nat.zero_add, Nat.reduceAdd]) hfr (.inl ⟨rfl, rfl⟩) (qx QZ qI) (by simp)
theorem Q6.calls (a0 : Int) (r : Bool) (w : World) (G : Q6 a0 = some r) :
  Calls Tryz.prog 71 #[vI a0] w fun e w' => e = .returned (.bool r) ∧ Below w.heap.size w w' := by
 refine Q4 (args := [vI a0]) 9 Tryz.func71 rfl (by kernel_rfl) (by kernel_rfl) fun a H => ?_
 unfold Q6 at G
 refine qg qd H (.v 2 (.bool false) <| .nil) [0] fun u1 a w' H => ?_
 refine qg qd H (.v 3 (vI a0) <|
 .v 4 (.bool (decide (a0 > (-2147483648)))) <|
 .v 5 (.bool (decide (a0 > (-2147483648)))) <|
 .cons [6] (Qc (fun u2 => vI a0) (fun u2 => ((decide (a0 > (-2147483648))) == true)) [true] 6) <|
 .cons [7] (Qc (fun u2 => .bool (decide (a0 < 2147483648))) (fun u2 => ((decide (a0 > (-2147483648))) == true)) [false, true] 7) <|
 .cons [8] (Y9 5 7 (fun u2 => true) (fun u2 => true) (fun u2 => decide (a0 > (-2147483648))) (fun u2 => decide (a0 < 2147483648)) 8) <|
 .v 2 (.bool ((decide (a0 > (-2147483648))) && (decide (a0 < 2147483648)))) <| .nil) [2] fun u2 a w' H => ?_
 refine q7 ?_
 obtain rfl := sj G
 exact QG H _ (by kernel_rfl) (by kernel_rfl)
theorem Xf.calls (r : qa) (w : World) (G : Xf = some r) :
  Calls Tryz.prog 87 #[] w fun e w' => e = .returned (.agg #[vI r.Lo, vI r.Hi]) ∧ Below w.heap.size w w' := by
 refine Q4 (args := []) 2 Tryz.func87 rfl (by kernel_rfl) (by kernel_rfl) fun a H => ?_
 unfold Xf at G
 refine qg qd H (.cons [0, 2] (qH (fun b => vP b 0) (fun u1 => [vI 0, vI 0]) 48 0 2) <| .nil) [0, 2] fun u1 a w' H => ?_
 refine qg qd H (.v 1 (.agg #[vI (-2147483648), vI 2147483648]) <|
 .cons [2] (QV 2 0 ((u1 0).n 0) [vI 0, vI 0] [vI (-2147483648), vI 2147483648] 48 [vI (-2147483648), vI 2147483648]) <| .nil) [0, 2] fun u2 a w' H => ?_
 refine q7 ?_
 obtain rfl := sj G
 exact Xe H _ 2 ((u1 0).n 0) [vI (-2147483648), vI 2147483648] 48 0 2 (by kernel_rfl) (by kernel_rfl) (by kernel_rfl) (by kernel_rfl)
theorem Xn.calls (a0 : Int) (a1 : Int) (r : qa) (w : World) (G : Xn a0 a1 = some r) :
  Calls Tryz.prog 68 #[vI a0, vI a1] w fun e w' => e = .returned (.agg #[vI r.Lo, vI r.Hi]) ∧ Below w.heap.size w w' := by
 refine Q4 (args := [vI a0, vI a1]) 17 Tryz.func68 rfl (by kernel_rfl) (by kernel_rfl) fun a H => ?_
 unfold Xn at G
 refine qg qd H (.cons [4, 17] (qH (fun b => vP b 0) (fun u1 => [vI 0, vI 0]) 48 4 17) <| .nil) [0, 1, 4, 17] fun u1 a w' H => ?_
 refine qs ?_
 obtain ⟨t3, ht3, G⟩ := qP G
 obtain ⟨t4, ht4, G⟩ := qP G
 refine qg qd H (.v 5 (vI a0) <|
 .cons [6] (qo 71 _ _ 6 [] (fun u2 w _ => Q6.calls a0  t3 w  ht3)) <|
 .v 7 (.bool (!t3)) <|
 .v 8 (.bool (!t3)) <|
 .cons [9] (Qc (fun u2 => vI a1) (fun u2 => ((!t3) == false)) [true] 9) <|
 .cons [10] (Zi 71 (fun u2 => #[vI a1]) (.bool t4) (fun u2 => ((!t3) == false)) [true, false] 10 [] (fun u2 w hg _ => Q6.calls a1  t4 w  (ifp ht4 hg))) <|
 .cons [11] (Qc (fun u2 => .bool (!t4)) (fun u2 => ((!t3) == false)) [false] 11) <|
 .cons [12] (Zt 8 11 (fun u2 => true) (fun u2 => true) (fun u2 => (!t3)) (fun u2 => (!t4)) 12) <| .nil) [0, 1, 4, 12, 17] fun u2 a w' H => ?_
 refine Qr H ((!t3) || (!t4)) (fun c8 => ?_) fun c8 => ?_
 ·rw [if_pos c8] at G
  obtain ⟨t6, ht6, G⟩ := qP G
  refine qg qd H (.cons [13] (qo 87 _ _ 13 [] (fun u5 w _ => Xf.calls   t6 w  ht6)) <|
 .cons [17] (QV 17 0 ((u1 0).n 0) [vI 0, vI 0] [vI t6.Lo, vI t6.Hi] 48 [vI t6.Lo, vI t6.Hi]) <| .nil) [4, 17] fun u5 a w' H => ?_
  refine q7 ?_
  obtain rfl := sj G
  exact Xe H _ 17 ((u1 0).n 0) [vI t6.Lo, vI t6.Hi] 48 0 2 (by kernel_rfl) (by kernel_rfl) (by kernel_rfl) (by kernel_rfl)
 ·rw [if_neg (nt c8)] at G
  refine qT ?_
  refine qg qd H (.v 14 (vI a0) <|
 .v 15 (vI a1) <|
 .v 16 (.agg #[vI a0, vI a1]) <|
 .cons [17] (QV 17 0 ((u1 0).n 0) [vI 0, vI 0] [vI a0, vI a1] 48 [vI a0, vI a1]) <| .nil) [4, 17] fun u7 a w' H => ?_
  refine q7 ?_
  obtain rfl := sj G
  exact Xe H _ 17 ((u1 0).n 0) [vI a0, vI a1] 48 0 2 (by kernel_rfl) (by kernel_rfl) (by kernel_rfl) (by kernel_rfl)
theorem QR.calls (a0 : Int) (r : qa) (w : World) (G : QR a0 = some r) :
  Calls Tryz.prog 29 #[vI a0] w fun e w' => e = .returned (.agg #[vI r.Lo, vI r.Hi]) ∧ Below w.heap.size w w' := by
 refine Q4 (args := [vI a0]) 6 Tryz.func29 rfl (by kernel_rfl) (by kernel_rfl) fun a H => ?_
 unfold QR at G
 refine qg qd H (.cons [2, 6] (qH (fun b => vP b 0) (fun u1 => [vI 0, vI 0]) 48 2 6) <| .nil) [0, 2, 6] fun u1 a w' H => ?_
 obtain ⟨t3, ht3, G⟩ := qP G
 refine qg qd H (.v 3 (vI a0) <|
 .v 4 (vI a0) <|
 .cons [5] (qo 68 _ _ 5 [] (fun u2 w _ => Xn.calls a0 a0  t3 w  ht3)) <|
 .cons [6] (QV 6 0 ((u1 0).n 0) [vI 0, vI 0] [vI t3.Lo, vI t3.Hi] 48 [vI t3.Lo, vI t3.Hi]) <| .nil) [2, 6] fun u2 a w' H => ?_
 refine q7 ?_
 obtain rfl := sj G
 exact Xe H _ 6 ((u1 0).n 0) [vI t3.Lo, vI t3.Hi] 48 0 2 (by kernel_rfl) (by kernel_rfl) (by kernel_rfl) (by kernel_rfl)
end Go.Proofs.YtglcmhldonkfdaaGreatDoor
