/- Each function of the program answers as the plain Lean function of its name (part 0). Printed by a program of this session. -/
import Derived.Test.YtglcmhldonkfdaaGreatDoorEn
set_option linter.unusedVariables false
set_option linter.unusedSimpArgs false
set_option maxRecDepth 100000
set_option maxHeartbeats 4000000
namespace Go.Proofs.YtglcmhldonkfdaaGreatDoor
open Go Go.RowKit Go.Sx Go.Proofs
theorem XD.calls (r : qa) (w : World) (G : XD = some r) :
  Calls Tryz.prog 77 #[] w fun e w' => e = .returned (.agg #[vI r.Lo, vI r.Hi]) ∧ Below w.heap.size w w' := by
 refine Q4 (args := []) 2 Tryz.func77 rfl (by kernel_rfl) (by kernel_rfl) fun a H => ?_
 unfold XD at G
 refine qg qd H (.cons [0, 2] (qH (fun b => vP b 0) (fun u1 => [vI 0, vI 0]) 48 0 2) <| .nil) [0, 2] fun u1 a w' H => ?_
 refine qg qd H (.v 1 (.agg #[vI (-2147483648), vI 2147483648]) <|
 .cons [2] (QV 2 0 ((u1 0).n 0) [vI 0, vI 0] [vI (-2147483648), vI 2147483648] 48 [vI (-2147483648), vI 2147483648]) <| .nil) [0, 2] fun u2 a w' H => ?_
 refine q7 ?_
 obtain rfl := sj G
 exact Xe H _ 2 ((u1 0).n 0) [vI (-2147483648), vI 2147483648] 48 0 2 (by kernel_rfl) (by kernel_rfl) (by kernel_rfl) (by kernel_rfl)
theorem Qz.calls (a0 : qa) (r : Bool) (w : World) (G : Qz a0 = some r) :
  Calls Tryz.prog 42 #[.agg #[vI a0.Lo, vI a0.Hi]] w fun e w' => e = .returned (.bool r) ∧ Below w.heap.size w w' := by
 refine Q4 (args := [.agg #[vI a0.Lo, vI a0.Hi]]) 6 Tryz.func42 rfl (by kernel_rfl) (by kernel_rfl) fun a H => ?_
 unfold Qz at G
 refine qg qd H (.cons [1, 6] (qH (fun b => vP b 0) (fun u1 => [vI a0.Lo, vI a0.Hi]) 48 1 6) <|
 .v 2 (.bool false) <| .nil) [1, 6] fun u1 a w' H => ?_
 obtain ⟨t3, ht3, G⟩ := qP G
 refine qg qd H (.cons [3] (qv (.agg #[vI a0.Lo, vI a0.Hi]) 3 6 0 2 ((u1 0).n 0) [vI a0.Lo, vI a0.Hi] 48) <|
 .cons [4] (qo 77 _ _ 4 [] (fun u2 w _ => XD.calls   t3 w  ht3)) <|
 .cons [5] (qp (fun u2 => .bool ((a0.Lo == t3.Lo) && ((a0.Hi == t3.Hi) && true))) 5 (hv := fun _ _ => Zz (by kernel_rfl) (qbH (t := 48) (x := (.tmp 3)) (y := (.tmp 4)) (xs := #[vI a0.Lo, vI a0.Hi]) (ys := #[vI t3.Lo, vI t3.Hi]) (b := ((a0.Lo == t3.Lo) && ((a0.Hi == t3.Hi) && true))) (by kernel_rfl) (by kernel_rfl)))) <|
 .v 2 (.bool ((a0.Lo == t3.Lo) && ((a0.Hi == t3.Hi) && true))) <| .nil) [2] fun u2 a w' H => ?_
 refine q7 ?_
 obtain rfl := sj G
 exact QG H _ (by kernel_rfl) (by kernel_rfl)
theorem Y8.calls (a0 : Int) (r : Bool) (w : World) (G : Y8 a0 = some r) :
  Calls Tryz.prog 70 #[vI a0] w fun e w' => e = .returned (.bool r) ∧ Below w.heap.size w w' := by
 refine Q4 (args := [vI a0]) 9 Tryz.func70 rfl (by kernel_rfl) (by kernel_rfl) fun a H => ?_
 unfold Y8 at G
 refine qg qd H (.v 2 (.bool false) <| .nil) [0] fun u1 a w' H => ?_
 refine qg qd H (.v 3 (vI a0) <|
 .v 4 (.bool (decide ((-2147483648) < a0))) <|
 .v 5 (.bool (decide ((-2147483648) < a0))) <|
 .cons [6] (Qc (fun u2 => vI a0) (fun u2 => ((decide ((-2147483648) < a0)) == true)) [true] 6) <|
 .cons [7] (Qc (fun u2 => .bool (decide (a0 < 2147483648))) (fun u2 => ((decide ((-2147483648) < a0)) == true)) [false, true] 7) <|
 .cons [8] (Y9 5 7 (fun u2 => true) (fun u2 => true) (fun u2 => decide ((-2147483648) < a0)) (fun u2 => decide (a0 < 2147483648)) 8) <|
 .v 2 (.bool ((decide ((-2147483648) < a0)) && (decide (a0 < 2147483648)))) <| .nil) [2] fun u2 a w' H => ?_
 refine q7 ?_
 obtain rfl := sj G
 exact QG H _ (by kernel_rfl) (by kernel_rfl)
theorem YY.calls (a0 : qa) (r : Bool) (w : World) (G : YY a0 = some r) :
  Calls Tryz.prog 32 #[.agg #[vI a0.Lo, vI a0.Hi]] w fun e w' => e = .returned (.bool r) ∧ Below w.heap.size w w' := by
 refine Q4 (args := [.agg #[vI a0.Lo, vI a0.Hi]]) 22 Tryz.func32 rfl (by kernel_rfl) (by kernel_rfl) fun a H => ?_
 unfold YY at G
 refine qg qd H (.cons [1, 22] (qH (fun b => vP b 0) (fun u1 => [vI a0.Lo, vI a0.Hi]) 48 1 22) <|
 .v 2 (.bool false) <| .nil) [1, 22] fun u1 a w' H => ?_
 obtain ⟨t3, ht3, G⟩ := qP G
 obtain ⟨t4, ht4, G⟩ := qP G
 obtain ⟨t5, ht5, G⟩ := qP G
 refine qg qd H (.cons [3] (qv (.agg #[vI a0.Lo, vI a0.Hi]) 3 22 0 2 ((u1 0).n 0) [vI a0.Lo, vI a0.Hi] 48) <|
 .cons [4] (qo 42 _ _ 4 [] (fun u2 w _ => Qz.calls a0  t3 w  ht3)) <|
 .v 5 (.bool t3) <|
 .cons [6] (Qc (fun u2 => vP ((u1 0).n 0) 0) (fun u2 => (t3 == false)) [true] 6) <|
 .cons [7] (Zc (fun u2 => vI a0.Lo) (fun u2 => (t3 == false)) [false] 7 22 0 1 (fun u2 => ((u1 0).n 0)) (fun u2 => [vI a0.Lo, vI a0.Hi]) 48) <|
 .cons [8] (Zi 70 (fun u2 => #[vI a0.Lo]) (.bool t4) (fun u2 => (t3 == false)) [true, false] 8 [] (fun u2 w hg _ => Y8.calls a0.Lo  t4 w  (ifp ht4 hg))) <|
 .cons [9] (Qc (fun u2 => .bool t4) (fun u2 => (t3 == false)) [false] 9) <|
 .cons [10] (Qc (fun u2 => vP ((u1 0).n 0) 1) (fun u2 => ((t3 == false) && (t4 == true))) [true] 10) <|
 .cons [11] (Zc (fun u2 => vI a0.Hi) (fun u2 => ((t3 == false) && (t4 == true))) [false] 11 22 1 1 (fun u2 => ((u1 0).n 0)) (fun u2 => [vI a0.Lo, vI a0.Hi]) 48) <|
 .cons [12] (Zi 70 (fun u2 => #[vI a0.Hi]) (.bool t5) (fun u2 => ((t3 == false) && (t4 == true))) [true, false] 12 [] (fun u2 w hg _ => Y8.calls a0.Hi  t5 w  (ifp ht5 hg))) <|
 .cons [13] (Y9 9 12 (fun u2 => (t3 == false)) (fun u2 => (t3 == false)) (fun u2 => t4) (fun u2 => t5) 13) <|
 .cons [14] (Qc (fun u2 => .bool (t4 && t5)) (fun u2 => (t3 == false)) [false] 14) <|
 .cons [15] (Qc (fun u2 => vP ((u1 0).n 0) 0) (fun u2 => ((t3 == false) && ((t4 && t5) == true))) [true] 15) <|
 .cons [16] (Zc (fun u2 => vI a0.Lo) (fun u2 => ((t3 == false) && ((t4 && t5) == true))) [false] 16 22 0 1 (fun u2 => ((u1 0).n 0)) (fun u2 => [vI a0.Lo, vI a0.Hi]) 48) <|
 .cons [17] (Qc (fun u2 => vP ((u1 0).n 0) 1) (fun u2 => ((t3 == false) && ((t4 && t5) == true))) [true] 17) <|
 .cons [18] (Zc (fun u2 => vI a0.Hi) (fun u2 => ((t3 == false) && ((t4 && t5) == true))) [false] 18 22 1 1 (fun u2 => ((u1 0).n 0)) (fun u2 => [vI a0.Lo, vI a0.Hi]) 48) <|
 .cons [19] (Qc (fun u2 => .bool (decide (a0.Lo ≤ a0.Hi))) (fun u2 => ((t3 == false) && ((t4 && t5) == true))) [false, false] 19) <|
 .cons [20] (Y9 14 19 (fun u2 => (t3 == false)) (fun u2 => (t3 == false)) (fun u2 => (t4 && t5)) (fun u2 => decide (a0.Lo ≤ a0.Hi)) 20) <|
 .cons [21] (Zt 5 20 (fun u2 => true) (fun u2 => true) (fun u2 => t3) (fun u2 => ((t4 && t5) && (decide (a0.Lo ≤ a0.Hi)))) 21) <|
 .v 2 (.bool (t3 || ((t4 && t5) && (decide (a0.Lo ≤ a0.Hi))))) <| .nil) [2] fun u2 a w' H => ?_
 refine q7 ?_
 obtain rfl := sj G
 exact QG H _ (by kernel_rfl) (by kernel_rfl)
theorem Y1.calls (a0 : qa) (r : Bool) (w : World) (G : Y1 a0 = some r) :
  Calls Tryz.prog 31 #[.agg #[vI a0.Lo, vI a0.Hi]] w fun e w' => e = .returned (.bool r) ∧ Below w.heap.size w w' := by
 refine Q4 (args := [.agg #[vI a0.Lo, vI a0.Hi]]) 6 Tryz.func31 rfl (by kernel_rfl) (by kernel_rfl) fun a H => ?_
 unfold Y1 at G
 refine qg qd H (.cons [1, 6] (qH (fun b => vP b 0) (fun u1 => [vI a0.Lo, vI a0.Hi]) 48 1 6) <|
 .v 2 (.bool false) <| .nil) [1, 6] fun u1 a w' H => ?_
 obtain ⟨t3, ht3, G⟩ := qP G
 refine qg qd H (.cons [3] (qv (.agg #[vI a0.Lo, vI a0.Hi]) 3 6 0 2 ((u1 0).n 0) [vI a0.Lo, vI a0.Hi] 48) <|
 .cons [4] (qo 32 _ _ 4 [] (fun u2 w _ => YY.calls a0  t3 w  ht3)) <|
 .v 5 (.bool (!t3)) <|
 .v 2 (.bool (!t3)) <| .nil) [2] fun u2 a w' H => ?_
 refine q7 ?_
 obtain rfl := sj G
 exact QG H _ (by kernel_rfl) (by kernel_rfl)
theorem QY.calls (k0 : Nat) (a0 : List qa) (p_a0 : Option Addr) (c_a0 : Nat) (r : Int) (w : World) (hB : Yj [Qh qi 2 p_a0 c_a0 a0 qb] w) (G : QY k0 a0 = some r) :
  Calls Tryz.prog 69 #[.slice p_a0 a0.length c_a0, .func (.func 31) #[] #[]] w fun e w' => e = .returned (vI r) ∧ Below w.heap.size w w' := by
 obtain ⟨fr, hfr⟩ : ∃ fr : Nat → Prop, ∀ j, fr j := ⟨fun _ => True, fun _ => trivial⟩
 have hBf : ∀ j, w.heap.size ≤ j → fr j := fun j _ => hfr j
 refine QQ (args := [.slice p_a0 a0.length c_a0, .func (.func 31) #[] #[]]) 19 [(19, Qh qi 2 p_a0 c_a0 a0 qb)] (by
  intro x hx
  simp only [List.mem_cons, List.not_mem_nil, or_false] at hx
  rcases hx with rfl
  exact Ql (qq hB.1) (fun _ _ => trivial) (by decide) _) Tryz.func69 rfl (by kernel_rfl) (by kernel_rfl) fun a H => ?_
 unfold QY at G
 refine qg qd H (.v 4 (vI 0) <| .nil) [0, 1, 19] fun u1 a w' H => ?_
 refine qs ?_
 obtain ⟨j2, hj2, Gj2⟩ := qP G
 refine Qw (fun a w' => ∃ j2v, j2 = Sum.inr j2v ∧ RL w 19 [] a w') ?_ ?_
 ·clear H; rintro a w' ⟨j2v, rfl, H⟩; have G := Gj2; clear Gj2; dsimp only at G
  refine qg qd H (.v 4 (vI (-1)) <| .nil) [4] fun u3 a w' H => ?_
  refine q7 ?_
  obtain rfl := sj G
  exact QG H _ (by kernel_rfl) (by kernel_rfl)
 ·have G := hj2; clear hj2
  refine qg qd H (.v 6 (.slice p_a0 a0.length c_a0) <|
 .v 7 (vI (a0.length : Int)) <|
 .v 8 (vI 0) <| .nil) [0, 1, 7, 8, 19] fun u4 a w' H => ?_
  refine qA ?_
  refine Qv (fun m a w' => ∃ x5 : Int, QY.l6 k0 a0 m x5 = some j2 ∧ RL w 19 [(0, sS p_a0 a0.length c_a0), (1, .slot true (.func (.func 31) #[] #[])), (7, (sI (a0.length : Int))), (8, sI x5), (19, Qh qi 2 p_a0 c_a0 a0 qb)] a w') k0 ⟨_, G, H.toM _⟩ ?_
  clear G H
  rintro (_ | k) a w' ⟨x5, G, H⟩
  ·exact absurd G (by unfold QY.l6; exact fun h => by cases h)
  ·unfold QY.l6 at G
   refine qg qd H (.v 9 (.bool (decide (x5 < (a0.length : Int)))) <| .nil) [0, 1, 7, 8, 9, 19] fun u7 a w' H => ?_
   refine qs ?_
   refine Qr H (decide (x5 < (a0.length : Int))) (fun c16 => ?_) fun c16 => ?_
   ·rw [if_pos c16] at G
    refine qT ?_
    refine qs ?_
    refine qA ?_
    refine qg qd H (.v 10 (vI x5) <|
 .v 5 (vI x5) <| .nil) [0, 1, 5, 7, 8, 19] fun u8 a w' H => ?_
    refine qs ?_
    replace G := gd G; obtain ⟨b10, G⟩ := G
    obtain ⟨t11, ht11, G⟩ := qP G
    obtain ⟨t12, ht12, G⟩ := qP G
    refine qN qd H (.v 11 (.func (.func 31) #[] #[]) <|
 .v 12 (.slice p_a0 a0.length c_a0) <|
 .v 13 (vI x5) <|
 .cons [14] (qy 19 (Qh qi 2 p_a0 c_a0 a0 qb) (.pointer (some ⟨XB p_a0, XC p_a0 + x5.toNat * 2, none⟩)) 14 fun _ w h => YQ 22 .i64 x5 p_a0 a0.length c_a0 a0 qb (qq h).2 qh rfl b10) <|
 .cons [15] (qy 19 (Qh qi 2 p_a0 c_a0 a0 qb) (.agg #[vI t11.Lo, vI t11.Hi]) 15 fun _ w h => Ya qb (qq h).2 qh ht11 0 2 [vI t11.Lo, vI t11.Hi]) <|
 .cons [16] (qo 31 _ _ 16 [] (fun u9 w _ => Y1.calls t11  t12 w  ht12)) <| .nil) [0, 1, 5, 7, 8, 16, 19] fun u9 a w' H => ?_
    refine Qr H t12 (fun c15 => ?_) fun c15 => ?_
    ·rw [if_pos c15] at G
     refine qg qd H (.v 17 (vI x5) <|
 .v 4 (vI x5) <| .nil) [4] fun u13 a w' H => ?_
     refine q7 ?_
     obtain rfl := sj G
     replace G := Gj2
     obtain rfl := sj G
     exact QG H _ (by kernel_rfl) (by kernel_rfl)
    ·rw [if_neg (nt c15)] at G
     refine qT ?_
     refine qN qd H (.v 18 (vI (qe (x5 + 1))) <|
 .v 8 (vI (qe (x5 + 1))) <| .nil) [0, 1, 7, 8, 19] fun u14 a w' H => ?_
     exact ⟨k, Nat.lt_succ_self k, _, G, H.toM _⟩
   ·rw [if_neg (nt c16)] at G
    refine QO rfl ?_
    obtain rfl := sj G
    exact ⟨_, rfl, H.toM _⟩
theorem Yv.calls (k0 : Nat) (a0 : List qa) (p_a0 : Option Addr) (c_a0 : Nat) (r : Bool) (w : World) (hB : Yj [Qh qi 2 p_a0 c_a0 a0 qb] w) (G : Yv k0 a0 = some r) :
  Calls Tryz.prog 30 #[.slice p_a0 a0.length c_a0, .func (.func 31) #[] #[]] w fun e w' => e = .returned (.bool r) ∧ Below w.heap.size w w' := by
 obtain ⟨fr, hfr⟩ : ∃ fr : Nat → Prop, ∀ j, fr j := ⟨fun _ => True, fun _ => trivial⟩
 have hBf : ∀ j, w.heap.size ≤ j → fr j := fun j _ => hfr j
 refine QQ (args := [.slice p_a0 a0.length c_a0, .func (.func 31) #[] #[]]) 9 [(9, Qh qi 2 p_a0 c_a0 a0 qb)] (by
  intro x hx
  simp only [List.mem_cons, List.not_mem_nil, or_false] at hx
  rcases hx with rfl
  exact Ql (qq hB.1) (fun _ _ => trivial) (by decide) _) Tryz.func30 rfl (by kernel_rfl) (by kernel_rfl) fun a H => ?_
 unfold Yv at G
 refine qg qd H (.v 4 (.bool false) <| .nil) [0, 1, 9] fun u1 a w' H => ?_
 obtain ⟨t3, ht3, G⟩ := qP G
 refine qg qd H (.v 5 (.slice p_a0 a0.length c_a0) <|
 .v 6 (.func (.func 31) #[] #[]) <|
 .cons [7] (Xi [9] (fun u2 => [Qh qi 2 p_a0 c_a0 a0 qb]) 69 _ _ 7 (fun u2 w hF => QY.calls k0 a0 p_a0 c_a0 t3 w  ⟨(ZN (qq hF.1)), trivial⟩ ht3)) <|
 .v 8 (.bool (decide (t3 ≥ 0))) <|
 .v 4 (.bool (decide (t3 ≥ 0))) <| .nil) [4] fun u2 a w' H => ?_
 refine q7 ?_
 obtain rfl := sj G
 exact QG H _ (by kernel_rfl) (by kernel_rfl)
theorem Xd.calls (k0 : Nat) (a0 : List (List qa)) (p_a0 : Option Addr) (c_a0 : Nat) (L_a0 : List (Sl qa)) (r : Bool) (w : World) (h_a0 : a0 = L_a0.map Sl.l) (hB : Yj [Qh qi 1 p_a0 c_a0 L_a0 ql, QA qi qc.toPart L_a0] w) (G : Xd k0 a0 = some r) :
  Calls Tryz.prog 5 #[.slice p_a0 L_a0.length c_a0] w fun e w' => e = .returned (.bool r) ∧ Below w.heap.size w w' := by
 obtain ⟨fr, hfr⟩ : ∃ fr : Nat → Prop, ∀ j, fr j := ⟨fun _ => True, fun _ => trivial⟩
 have hBf : ∀ j, w.heap.size ≤ j → fr j := fun j _ => hfr j
 refine QQ (args := [.slice p_a0 L_a0.length c_a0]) 29 [(29, Qh qi 1 p_a0 c_a0 L_a0 ql), (30, QA qi qc.toPart L_a0)] (by
  intro x hx
  simp only [List.mem_cons, List.not_mem_nil, or_false] at hx
  rcases hx with rfl | rfl
  ·exact Ql (qq hB.1) (fun _ _ => trivial) (by decide) _
  ·exact Xt (Qb hB.2.1) (fun _ _ => trivial) _) Tryz.func5 rfl (by kernel_rfl) (by kernel_rfl) fun a H => ?_
 unfold Xd at G
 refine qg qd H (.v 2 (.bool false) <| .nil) [0, 29, 30] fun u1 a w' H => ?_
 refine qg qd H (.v 6 (.slice p_a0 L_a0.length c_a0) <|
 .cons [7] (qy 29 (Qh qi 1 p_a0 c_a0 L_a0 ql) (vI (a0.length : Int)) 7 fun _ w h => Q7 (((qq h).2.len qk (by decide)).trans (qD h_a0).symm) (by kernel_rfl)) <|
 .v 3 (vI (a0.length : Int)) <| .nil) [0, 3, 29, 30] fun u2 a w' H => ?_
 refine qs ?_
 refine qg qd H (.v 8 (vI (a0.length : Int)) <|
 .v 9 (.bool (decide ((a0.length : Int) < 1))) <|
 .v 10 (.bool (decide ((a0.length : Int) < 1))) <|
 .cons [11] (Qc (fun u3 => vI (a0.length : Int)) (fun u3 => ((decide ((a0.length : Int) < 1)) == false)) [true] 11) <|
 .cons [12] (Qc (fun u3 => .bool (decide ((a0.length : Int) > 6))) (fun u3 => ((decide ((a0.length : Int) < 1)) == false)) [false, true] 12) <|
 .cons [13] (Zt 10 12 (fun u3 => true) (fun u3 => true) (fun u3 => decide ((a0.length : Int) < 1)) (fun u3 => decide ((a0.length : Int) > 6)) 13) <| .nil) [0, 3, 13, 29, 30] fun u3 a w' H => ?_
 refine Qr H ((decide ((a0.length : Int) < 1)) || (decide ((a0.length : Int) > 6))) (fun c20 => ?_) fun c20 => ?_
 ·rw [if_pos c20] at G
  refine qg qd H (.v 2 (.bool false) <| .nil) [2] fun u4 a w' H => ?_
  refine q7 ?_
  obtain rfl := sj G
  exact QG H _ (by kernel_rfl) (by kernel_rfl)
 ·rw [if_neg (nt c20)] at G
  refine qT ?_
  refine qs ?_
  obtain ⟨j5, hj5, Gj5⟩ := qP G
  refine Qw (fun a w' => ∃ j5v, j5 = Sum.inr j5v ∧ RL w 29 [] a w') ?_ ?_
  ·clear H; rintro a w' ⟨j5v, rfl, H⟩; have G := Gj5; clear Gj5; dsimp only at G
   refine qg qd H (.v 2 (.bool true) <| .nil) [2] fun u6 a w' H => ?_
   refine q7 ?_
   obtain rfl := sj G
   exact QG H _ (by kernel_rfl) (by kernel_rfl)
  ·have G := hj5; clear hj5
   refine qg qd H (.v 14 (.slice p_a0 L_a0.length c_a0) <|
 .cons [15] (qy 29 (Qh qi 1 p_a0 c_a0 L_a0 ql) (vI (a0.length : Int)) 15 fun _ w h => Q7 (((qq h).2.len qk (by decide)).trans (qD h_a0).symm) (by kernel_rfl)) <|
 .v 16 (vI 0) <| .nil) [3, 14, 15, 16, 29, 30] fun u7 a w' H => ?_
   refine qA ?_
   refine Qv (fun m a w' => ∃ x8 : Int, Xd.l9 k0 a0 m x8 = some j5 ∧ RL w 29 [(3, (sI (a0.length : Int))), (14, sS p_a0 L_a0.length c_a0), (15, (sI (a0.length : Int))), (16, sI x8), (29, Qh qi 1 p_a0 c_a0 L_a0 ql), (30, QA qi qc.toPart L_a0)] a w') k0 ⟨_, G, H.toM _⟩ ?_
   clear G H
   rintro (_ | k) a w' ⟨x8, G, H⟩
   ·exact absurd G (by unfold Xd.l9; exact fun h => by cases h)
   ·unfold Xd.l9 at G
    refine qg qd H (.v 17 (.bool (decide (x8 < (a0.length : Int)))) <| .nil) [3, 14, 15, 16, 17, 29, 30] fun u10 a w' H => ?_
    refine qs ?_
    refine Qr H (decide (x8 < (a0.length : Int))) (fun c19 => ?_) fun c19 => ?_
    ·rw [if_pos c19] at G
     refine qT ?_
     refine qs ?_
     refine qA ?_
     refine qs ?_
     replace G := gd G; obtain ⟨b12, G⟩ := G
     obtain ⟨t13, ht13, G⟩ := qP G
     obtain ⟨p_t13, c_t13, y_t13⟩ := QE h_a0 ht13
     refine qN qd H (.cons [18] (qy 29 (Qh qi 1 p_a0 c_a0 L_a0 ql) (.pointer (some ⟨XB p_a0, XC p_a0 + x8.toNat * 1, none⟩)) 18 fun _ w h => YQ 25 .i64 x8 p_a0 L_a0.length c_a0 a0 ql (qq h).2 qk (qD h_a0) b12) <|
 .cons [19] (qy 29 (Qh qi 1 p_a0 c_a0 L_a0 ql) (.slice p_t13 t13.length c_t13) 19 fun _ w h => Ya ql (qq h).2 qk y_t13 0 1 [.slice p_t13 t13.length c_t13]) <|
 .v 5 (.slice p_t13 t13.length c_t13) <| .nil) [3, 5, 14, 15, 16, 29, 30] fun u11 a w' H => ?_
     obtain ⟨t15, ht15, G⟩ := qP G
     refine qg qd H (.v 20 (.slice p_t13 t13.length c_t13) <|
 .v 21 (vI (t13.length : Int)) <|
 .v 22 (vI (a0.length : Int)) <|
 .v 23 (.bool ((t13.length : Int) != (a0.length : Int))) <|
 .v 24 (.bool ((t13.length : Int) != (a0.length : Int))) <|
 .cons [25] (Qc (fun u14 => .slice p_t13 t13.length c_t13) (fun u14 => (((t13.length : Int) != (a0.length : Int)) == false)) [true] 25) <|
 .cons [26] (Vy [30] (fun u14 => [QA qi qc.toPart L_a0]) 30 (fun u14 => #[.slice p_t13 t13.length c_t13, .func (.func 31) #[] #[]]) (.bool t15) (fun u14 => (((t13.length : Int) != (a0.length : Int)) == false)) [true, false, true] 26 (fun u14 w hg hF => Yv.calls k0 t13 p_t13 c_t13 t15 w  ⟨(ZN (show Xv _ 2 p_t13 t13.length c_t13 (t13.flatMap qb) from ((Qb hF.1) _ (List.mem_of_getElem? y_t13)).1)), trivial⟩ (ifp ht15 hg))) <|
 .cons [27] (Zt 24 26 (fun u14 => true) (fun u14 => true) (fun u14 => ((t13.length : Int) != (a0.length : Int))) (fun u14 => t15) 27) <| .nil) [3, 14, 15, 16, 25, 26, 27, 29, 30] fun u14 a w' H => ?_
     refine Qr H (((t13.length : Int) != (a0.length : Int)) || t15) (fun c18 => ?_) fun c18 => ?_
     ·rw [if_pos c18] at G
      refine qg qd H (.v 2 (.bool false) <| .nil) [2] fun u16 a w' H => ?_
      refine q7 ?_
      obtain rfl := sj G
      replace G := Gj5
      obtain rfl := sj G
      exact QG H _ (by kernel_rfl) (by kernel_rfl)
     ·rw [if_neg (nt c18)] at G
      refine qT ?_
      refine qN qd H (.v 28 (vI (qe (x8 + 1))) <|
 .v 16 (vI (qe (x8 + 1))) <| .nil) [3, 14, 15, 16, 25, 26, 29, 30] fun u17 a w' H => ?_
      exact ⟨k, Nat.lt_succ_self k, _, G, H.toM _⟩
    ·rw [if_neg (nt c19)] at G
     refine QO rfl ?_
     obtain rfl := sj G
     exact ⟨_, rfl, H.toM _⟩
theorem Qx.calls (a0 : Int) (a1 : Int) (r : qa) (w : World) (G : Qx a0 a1 = some r) :
  Calls Tryz.prog 81 #[vI a0, vI a1] w fun e w' => e = .returned (.agg #[vI r.Lo, vI r.Hi]) ∧ Below w.heap.size w w' := by
 refine Q4 (args := [vI a0, vI a1]) 23 Tryz.func81 rfl (by kernel_rfl) (by kernel_rfl) fun a H => ?_
 unfold Qx at G
 refine qg qd H (.cons [4, 23] (qH (fun b => vP b 0) (fun u1 => [vI 0, vI 0]) 48 4 23) <| .nil) [0, 1, 4, 23] fun u1 a w' H => ?_
 refine qs ?_
 obtain ⟨z3, hz3, G⟩ := qP G
 replace hz3 := Option.some.inj hz3
 refine qg qd H (.v 5 (vI a0) <|
 .v 6 (.bool (decide (a0 ≤ (-2147483648)))) <|
 .v 7 (.bool (decide (a0 ≤ (-2147483648)))) <|
 .cons [8] (Qc (fun u2 => vI a1) (fun u2 => ((decide (a0 ≤ (-2147483648))) == false)) [true] 8) <|
 .cons [9] (Qc (fun u2 => .bool (decide (a1 ≥ 2147483648))) (fun u2 => ((decide (a0 ≤ (-2147483648))) == false)) [false, true] 9) <|
 .cons [10] (Zt 7 9 (fun u2 => true) (fun u2 => true) (fun u2 => decide (a0 ≤ (-2147483648))) (fun u2 => decide (a1 ≥ 2147483648)) 10) <|
 .v 11 (.bool ((decide (a0 ≤ (-2147483648))) || (decide (a1 ≥ 2147483648)))) <|
 .cons [12] (Qc (fun u2 => vI a0) (fun u2 => (((decide (a0 ≤ (-2147483648))) || (decide (a1 ≥ 2147483648))) == false)) [true] 12) <|
 .cons [13] (Qc (fun u2 => .bool (decide (a0 ≥ 2147483648))) (fun u2 => (((decide (a0 ≤ (-2147483648))) || (decide (a1 ≥ 2147483648))) == false)) [false, true] 13) <|
 .cons [14] (Zt 11 13 (fun u2 => true) (fun u2 => true) (fun u2 => ((decide (a0 ≤ (-2147483648))) || (decide (a1 ≥ 2147483648)))) (fun u2 => decide (a0 ≥ 2147483648)) 14) <|
 .cons [15] (XO (u' := fun u2 => [(15, sB z3)]) (qp (fun u2 => .bool (((decide (a0 ≤ (-2147483648))) || (decide (a1 ≥ 2147483648))) || (decide (a0 ≥ 2147483648)))) 15) (fun _ => by rw [← hz3])) <|
 .cons [16] (Qc (fun u2 => vI a1) (fun u2 => (z3 == false)) [true] 16) <|
 .cons [17] (Qc (fun u2 => .bool (decide (a1 ≤ (-2147483648)))) (fun u2 => (z3 == false)) [false, true] 17) <|
 .cons [18] (Zt 15 17 (fun u2 => true) (fun u2 => true) (fun u2 => z3) (fun u2 => decide (a1 ≤ (-2147483648))) 18) <| .nil) [0, 1, 4, 18, 23] fun u2 a w' H => ?_
 refine Qr H (z3 || (decide (a1 ≤ (-2147483648)))) (fun c7 => ?_) fun c7 => ?_
 ·rw [if_pos c7] at G
  obtain ⟨t5, ht5, G⟩ := qP G
  refine qg qd H (.cons [19] (qo 77 _ _ 19 [] (fun u4 w _ => XD.calls   t5 w  ht5)) <|
 .cons [23] (QV 23 0 ((u1 0).n 0) [vI 0, vI 0] [vI t5.Lo, vI t5.Hi] 48 [vI t5.Lo, vI t5.Hi]) <| .nil) [4, 23] fun u4 a w' H => ?_
  refine q7 ?_
  obtain rfl := sj G
  exact Xe H _ 23 ((u1 0).n 0) [vI t5.Lo, vI t5.Hi] 48 0 2 (by kernel_rfl) (by kernel_rfl) (by kernel_rfl) (by kernel_rfl)
 ·rw [if_neg (nt c7)] at G
  refine qT ?_
  refine qg qd H (.v 20 (vI a0) <|
 .v 21 (vI a1) <|
 .v 22 (.agg #[vI a0, vI a1]) <|
 .cons [23] (QV 23 0 ((u1 0).n 0) [vI 0, vI 0] [vI a0, vI a1] 48 [vI a0, vI a1]) <| .nil) [4, 23] fun u6 a w' H => ?_
  refine q7 ?_
  obtain rfl := sj G
  exact Xe H _ 23 ((u1 0).n 0) [vI a0, vI a1] 48 0 2 (by kernel_rfl) (by kernel_rfl) (by kernel_rfl) (by kernel_rfl)
theorem Yl.calls (a0 : Int) (r : qa) (w : World) (G : Yl a0 = some r) :
  Calls Tryz.prog 58 #[vI a0] w fun e w' => e = .returned (.agg #[vI r.Lo, vI r.Hi]) ∧ Below w.heap.size w w' := by
 refine Q4 (args := [vI a0]) 6 Tryz.func58 rfl (by kernel_rfl) (by kernel_rfl) fun a H => ?_
 unfold Yl at G
 refine qg qd H (.cons [2, 6] (qH (fun b => vP b 0) (fun u1 => [vI 0, vI 0]) 48 2 6) <| .nil) [0, 2, 6] fun u1 a w' H => ?_
 obtain ⟨t3, ht3, G⟩ := qP G
 refine qg qd H (.v 3 (vI a0) <|
 .v 4 (vI a0) <|
 .cons [5] (qo 81 _ _ 5 [] (fun u2 w _ => Qx.calls a0 a0  t3 w  ht3)) <|
 .cons [6] (QV 6 0 ((u1 0).n 0) [vI 0, vI 0] [vI t3.Lo, vI t3.Hi] 48 [vI t3.Lo, vI t3.Hi]) <| .nil) [2, 6] fun u2 a w' H => ?_
 refine q7 ?_
 obtain rfl := sj G
 exact Xe H _ 6 ((u1 0).n 0) [vI t3.Lo, vI t3.Hi] 48 0 2 (by kernel_rfl) (by kernel_rfl) (by kernel_rfl) (by kernel_rfl)
theorem YH.calls (a0 : Int) (a1 : Int) (r : qa) (w : World) (G : YH a0 a1 = some r) :
  Calls Tryz.prog 67 #[vI a0, vI a1] w fun e w' => e = .returned (.agg #[vI r.Lo, vI r.Hi]) ∧ Below w.heap.size w w' := by
 refine Q4 (args := [vI a0, vI a1]) 10 Tryz.func67 rfl (by kernel_rfl) (by kernel_rfl) fun a H => ?_
 unfold YH at G
 refine qg qd H (.cons [4, 10] (qH (fun b => vP b 0) (fun u1 => [vI 0, vI 0]) 48 4 10) <| .nil) [0, 1, 4, 10] fun u1 a w' H => ?_
 refine qs ?_
 refine qg qd H (.v 5 (vI a0) <|
 .v 6 (vI a1) <|
 .v 7 (.bool (a0 == a1)) <| .nil) [4, 7, 10] fun u2 a w' H => ?_
 refine Qr H (a0 == a1) (fun c7 => ?_) fun c7 => ?_
 ·rw [if_pos c7] at G
  obtain ⟨t4, ht4, G⟩ := qP G
  refine qg qd H (.cons [8] (qo 58 _ _ 8 [] (fun u3 w _ => Yl.calls 65536  t4 w  ht4)) <|
 .cons [10] (QV 10 0 ((u1 0).n 0) [vI 0, vI 0] [vI t4.Lo, vI t4.Hi] 48 [vI t4.Lo, vI t4.Hi]) <| .nil) [4, 10] fun u3 a w' H => ?_
  refine q7 ?_
  obtain rfl := sj G
  exact Xe H _ 10 ((u1 0).n 0) [vI t4.Lo, vI t4.Hi] 48 0 2 (by kernel_rfl) (by kernel_rfl) (by kernel_rfl) (by kernel_rfl)
 ·rw [if_neg (nt c7)] at G
  refine qT ?_
  obtain ⟨t6, ht6, G⟩ := qP G
  refine qg qd H (.cons [9] (qo 58 _ _ 9 [] (fun u5 w _ => Yl.calls 0  t6 w  ht6)) <|
 .cons [10] (QV 10 0 ((u1 0).n 0) [vI 0, vI 0] [vI t6.Lo, vI t6.Hi] 48 [vI t6.Lo, vI t6.Hi]) <| .nil) [4, 10] fun u5 a w' H => ?_
  refine q7 ?_
  obtain rfl := sj G
  exact Xe H _ 10 ((u1 0).n 0) [vI t6.Lo, vI t6.Hi] 48 0 2 (by kernel_rfl) (by kernel_rfl) (by kernel_rfl) (by kernel_rfl)
theorem Qg.calls (k0 : Nat) (a0 : Int) (r : List (List qa)) (w : World) (G : Qg k0 a0 = some r) :
  Calls Tryz.prog 47 #[vI a0, .func (.func 67) #[] #[]] w fun e w' => ∃ g : Gh, e = .returned (slgd_S_TInterval g 0 r) ∧ Y7 (YT []) w w' ∧ YD w.heap.size (YT []) (JG w.heap.size []) [fun _ => ns_en_TIntervalg g 0 r] w' := by
 obtain ⟨fr, hfr, hBf⟩ := J4 w []
 refine Q4 (args := [vI a0, .func (.func 67) #[] #[]]) 34 Tryz.func47 rfl (by kernel_rfl) (by kernel_rfl) fun a H => ?_
 unfold Qg at G
 refine qg qd H (.v 4 (.slice none 0 0) <| .nil) [0, 1] fun u1 a w' H => ?_
 refine qs ?_
 replace G := gd G; obtain ⟨b3, G⟩ := G
 refine qN qd H (.v 8 (vI a0) <|
 .cons [9, 34] (Ju 48 2 qb (Zl [] (fun u2 => []) 22 1 (List.replicate a0.toNat (⟨none, 0, []⟩ : Sl qa)).length ((List.replicate a0.toNat (⟨none, 0, []⟩ : Sl qa)).flatMap ql) 9 34 (fun _ => .none) (fun u2 w hF => YG (t := 25) (k := .i64) (m := a0) (en := ql) (z := (⟨none, 0, []⟩ : Sl qa)) qk J2 rfl b3 (by kernel_rfl)) (fun _ => .inl rfl)) Jt) <|
 .cons [5] (qp (fun u2 => .slice ((u2 1).o 0) ((List.replicate a0.toNat (⟨none, 0, []⟩ : Sl qa)).length) ((u2 1).n 0)) 5) <| .nil) [0, 1, 5, 34] fun u2 a w' H => ?_
 refine qs ?_
 obtain ⟨j5, hj5, G⟩ := qP G
 refine Qw (fun a w' => ∃ (p_j4 : Option Addr) (c_j4 np_j4 : Nat) (L_j4 : List (Sl qa)), np_j4 = L_j4.length ∧ j5 = L_j4.map Sl.l ∧ RL w 34 [(5, sS p_j4 np_j4 c_j4), (900001, qj p_j4 np_j4 c_j4 L_j4)] a w') ?_ ?_
 ·clear H; rintro a w' ⟨p_j4, c_j4, _, L_j4, rfl, h_j4, H⟩
  refine qg qd H (.v 33 (.slice p_j4 L_j4.length c_j4) <|
 .v 4 (.slice p_j4 L_j4.length c_j4) <| .nil) [4, 900001] fun u6 a w' H => ?_
  refine q7 ?_
  obtain rfl := sj G
  obtain ⟨g, o0, n0, d0⟩ := ZQ QS p_j4 c_j4 h_j4
  refine Xo H _ g _ _ _ fr [900001] [] (.slice p_j4 L_j4.length c_j4) [fun _ => qf p_j4 c_j4 L_j4] (by simp only [slgd_S_TInterval, dlgd_S_TInterval, ns_en_TIntervalg, qf, qj, QU, o0, n0, d0]) (by simp only [slgd_S_TInterval, dlgd_S_TInterval, ns_en_TIntervalg, qf, qj, QU, o0, n0, d0]) hfr (.inl ⟨rfl, rfl⟩) (qx QZ qI) (by simp)
 ·clear G; replace G := hj5; clear hj5
  refine qg qd H (.v 10 (vI a0) <|
 .v 11 (vI 0) <| .nil) [0, 1, 5, 10, 11, 34] fun u7 a w' H => ?_
  refine qA ?_
  replace H := H.move (K := qf ((u2 1).o 0) ((u2 1).n 0) (List.replicate a0.toNat (⟨none, 0, []⟩ : Sl qa))) 34 900003 (by kernel_rfl) (by intro _ _ h; cases h)
  refine Qv (fun m a w' => ∃ x8 : List (List qa), ∃ x9 : Int, Qg.l10 k0 a0 m x8 x9 = some j5 ∧ ∃ (p_x8 : Option Addr) (c_x8 np_x8 : Nat) (L_x8 : List (Sl qa)), np_x8 = L_x8.length ∧ x8 = L_x8.map Sl.l ∧ RL w 34 [(0, sI a0), (1, .slot true (.func (.func 67) #[] #[])), (5, sS p_x8 np_x8 c_x8), (10, sI a0), (11, sI x9), (900003, qj p_x8 np_x8 c_x8 L_x8)] a w') k0 ⟨_, _, G, ((u2 1).o 0), ((u2 1).n 0), (List.replicate a0.toNat (⟨none, 0, []⟩ : Sl qa)).length, (List.replicate a0.toNat (⟨none, 0, []⟩ : Sl qa)), rfl, (Jr a0.toNat (⟨none, 0, []⟩ : Sl qa)), H.toM _⟩ ?_
  clear G H
  rintro (_ | k) a w' ⟨x8, x9, G, p_x8, c_x8, _, L_x8, rfl, h_x8, H⟩
  ·exact absurd G (by unfold Qg.l10; exact fun h => by cases h)
  ·unfold Qg.l10 at G
   refine qg qd H (.v 12 (.bool (decide (x9 < a0))) <| .nil) [0, 1, 5, 10, 11, 12, 900003] fun u11 a w' H => ?_
   refine qs ?_
   refine Qr H (decide (x9 < a0)) (fun c32 => ?_) fun c32 => ?_
   ·rw [if_pos c32] at G
    refine qT ?_
    refine qs ?_
    obtain ⟨j13, hj13, G⟩ := qP G
    refine Qw (fun a w' => ∃ (p_j12 : Option Addr) (c_j12 np_j12 : Nat) (L_j12 : List (Sl qa)), np_j12 = L_j12.length ∧ j13 = L_j12.map Sl.l ∧ RL w 34 [(0, sI a0), (1, .slot true (.func (.func 67) #[] #[])), (5, sS p_j12 np_j12 c_j12), (10, sI a0), (11, sI x9), (900005, qj p_j12 np_j12 c_j12 L_j12)] a w') ?_ ?_
    ·clear H; rintro a w' ⟨p_j12, c_j12, _, L_j12, rfl, h_j12, H⟩
     refine qN qd H (.v 32 (vI (qe (x9 + 1))) <|
 .v 11 (vI (qe (x9 + 1))) <| .nil) [0, 1, 5, 10, 11, 900005] fun u14 a w' H => ?_
     replace H := H.move (K := qf p_j12 c_j12 L_j12) 900005 900003 (by kernel_rfl) (by intro _ _ h; cases h)
     exact ⟨k, Nat.lt_succ_self k, _, _, G, p_j12, c_j12, L_j12.length, L_j12, rfl, h_j12, H.toM _⟩
    ·clear G; replace G := hj13; clear hj13
     refine qA ?_
     refine qg qd H (.v 13 (vI x9) <|
 .v 6 (vI x9) <| .nil) [0, 1, 5, 6, 10, 11, 900003] fun u15 a w' H => ?_
     refine qg qd H (.v 14 (vI a0) <|
 .v 15 (vI 0) <| .nil) [0, 1, 5, 6, 10, 11, 14, 15, 900003] fun u16 a w' H => ?_
     refine qA ?_
     replace H := H.move (K := qf p_x8 c_x8 L_x8) 900003 900007 (by kernel_rfl) (by intro _ _ h; cases h)
     refine Qv (fun m a w' => ∃ x17 : List (List qa), ∃ x18 : Int, Qg.l19 k0 a0 x8 x9 m x17 x18 = some j13 ∧ ∃ (p_x17 : Option Addr) (c_x17 np_x17 : Nat) (L_x17 : List (Sl qa)), np_x17 = L_x17.length ∧ x17 = L_x17.map Sl.l ∧ RL w 34 [(0, sI a0), (1, .slot true (.func (.func 67) #[] #[])), (5, sS p_x17 np_x17 c_x17), (6, sI x9), (10, sI a0), (11, sI x9), (14, sI a0), (15, sI x18), (900007, qj p_x17 np_x17 c_x17 L_x17)] a w') k0 ⟨_, _, G, p_x8, c_x8, L_x8.length, L_x8, rfl, h_x8, H.toM _⟩ ?_
     clear G H
     rintro (_ | k) a w' ⟨x17, x18, G, p_x17, c_x17, _, L_x17, rfl, h_x17, H⟩
     ·exact absurd G (by unfold Qg.l19; exact fun h => by cases h)
     ·unfold Qg.l19 at G
      refine qg qd H (.v 16 (.bool (decide (x18 < a0))) <| .nil) [0, 1, 5, 6, 10, 11, 14, 15, 16, 900007] fun u20 a w' H => ?_
      refine qs ?_
      refine Qr H (decide (x18 < a0)) (fun c31 => ?_) fun c31 => ?_
      ·rw [if_pos c31] at G
       refine qT ?_
       refine qs ?_
       refine qA ?_
       refine qg qd H (.v 17 (vI x18) <|
 .v 7 (vI x18) <| .nil) [0, 1, 5, 6, 7, 10, 11, 14, 15, 900007] fun u21 a w' H => ?_
       replace G := gd G; obtain ⟨b23, G⟩ := G
       obtain ⟨t24, ht24, G⟩ := qP G
       obtain ⟨p_t24, c_t24, y_t24⟩ := QE h_x17 ht24
       have P25 := XT (en := ql) (l := L_x17) (qQ (H.at (K := qf p_x17 c_x17 L_x17) 900007 (by kernel_rfl))).row.2 qk
       obtain ⟨t26, ht26, G⟩ := qP G
       replace G := gd G; obtain ⟨b27, G⟩ := G
       replace G := gd G; obtain ⟨b28, G⟩ := G
       obtain ⟨t29, ht29, G⟩ := qP G
       obtain ⟨p_t29, c_t29, y_t29⟩ := QE h_x17 ht29
       refine qN qd H (.v 18 (.slice p_x17 L_x17.length c_x17) <|
 .v 19 (vI x9) <|
 .v 20 (.slice p_x17 L_x17.length c_x17) <|
 .v 21 (vI x9) <|
 .cons [22] (qp (fun u22 => .pointer (some ⟨XB p_x17, XC p_x17 + x9.toNat * 1, none⟩)) 22 (hv := fun _ _ => QH (t := 25) (k := .i64) (i := x9) (p := p_x17) (n := L_x17.length) (cap := c_x17) (x := x17) P25 (qD h_x17) b23 (by kernel_rfl))) <|
 .cons [23] (qy 900007 (qf p_x17 c_x17 L_x17) (.slice p_t24 t24.length c_t24) 23 fun _ w h => Ya ql (qQ h).row.2 qk y_t24 0 1 [.slice p_t24 t24.length c_t24]) <|
 .v 24 (.func (.func 67) #[] #[]) <|
 .v 25 (vI x9) <|
 .v 26 (vI x18) <|
 .cons [27] (qo 67 _ _ 27 [] (fun u22 w _ => YH.calls x9 x18  t26 w  ht26)) <|
 .cons [28, 37] (qH (fun b => .slice (some ⟨b, 0, none⟩) 1 1) (fun u22 => [vI t26.Lo, vI t26.Hi]) 48 28 37) <|
 .cons [29, 900007, 900007] (Xs [10] [37] (fun u22 => [.blk ((u22 10).n 0) [vI t26.Lo, vI t26.Hi] 48]) 900007 (fun u22 => qf p_x17 c_x17 L_x17) (some 29) (fun u22 g => .slice (g.o 0) (t24 ++ [t26]).length (g.n 0)) (fun u22 g => ZC 22 48 2 qb p_x17 L_x17.length c_x17 L_x17 (L_x17.set x9.toNat (⟨(g.o 0), (g.n 0), (t24 ++ [t26])⟩ : Sl qa))) (fun u22 w hF hK => Wm hK y_t24 (l' := (t24 ++ [t26])) (fun h => Q8 (t := 22) (ty := 22) (en := qb) qh Jd h hF.1 (news := [t26]) rfl (by simp) (by kernel_rfl) b27)) (hloc := fun u u' h => ⟨by first | rfl | simp only [h 10 (by decide)], by first | rfl | simp only [h 10 (by decide)], by first | rfl | simp only [h 10 (by decide)], by first | rfl | simp only [h 10 (by decide)]⟩)) <|
 .cons [30] (qp (fun u22 => .pointer (some ⟨XB p_x17, XC p_x17 + x9.toNat * 1, none⟩)) 30 (hv := fun _ _ => QH (t := 25) (k := .i64) (i := x9) (p := p_x17) (n := L_x17.length) (cap := c_x17) (x := x17) P25 (qD h_x17) b28 (by kernel_rfl))) <|
 .cons [900007, 900007] (Xs [11] [] (fun u22 => []) 900007 (fun u22 => ZC 22 48 2 qb p_x17 L_x17.length c_x17 L_x17 (L_x17.set x9.toNat (⟨((u22 11).o 0), ((u22 11).n 0), (t24 ++ [t26])⟩ : Sl qa))) none (fun u22 g => .nilFunc) (fun u22 g => qj p_x17 L_x17.length c_x17 (L_x17.set x9.toNat (⟨((u22 11).o 0), ((u22 11).n 0), (t24 ++ [t26])⟩ : Sl qa))) (fun u22 w hF hK => WB hK (fun h => XP (en := ql) h qk (y := (⟨((u22 11).o 0), ((u22 11).n 0), (t24 ++ [t26])⟩ : Sl qa)) (vs := [.slice ((u22 11).o 0) ((t24 ++ [t26]).length) ((u22 11).n 0)]) y_t29 0 (by simp) (by simp) rfl (by kernel_rfl))) (hloc := fun u u' h => ⟨by first | rfl | simp only [h 11 (by decide)], by first | rfl | simp only [h 11 (by decide)], by first | rfl | simp only [h 11 (by decide)], by first | rfl | simp only [h 11 (by decide)]⟩)) <| .nil) [0, 1, 5, 6, 10, 11, 14, 15, 900007] fun u22 a w' H => ?_
       refine qN qd H (.v 31 (vI (qe (x18 + 1))) <|
 .v 15 (vI (qe (x18 + 1))) <| .nil) [0, 1, 5, 6, 10, 11, 14, 15, 900007] fun u30 a w' H => ?_
       exact ⟨k, Nat.lt_succ_self k, _, _, G, p_x17, c_x17, L_x17.length, (L_x17.set x9.toNat (⟨((u22 11).o 0), ((u22 11).n 0), (t24 ++ [t26])⟩ : Sl qa)), by simp, (map_set h_x17 x9.toNat (⟨((u22 11).o 0), ((u22 11).n 0), (t24 ++ [t26])⟩ : Sl qa)), H.toM _⟩
      ·rw [if_neg (nt c31)] at G
       refine QO rfl ?_
       obtain rfl := sj G
       replace H := H.move (K := qf p_x17 c_x17 L_x17) 900007 900005 (by kernel_rfl) (by intro _ _ h; cases h)
       exact ⟨p_x17, c_x17, L_x17.length, L_x17, rfl, h_x17, H.toM _⟩
   ·rw [if_neg (nt c32)] at G
    refine QO rfl ?_
    obtain rfl := sj G
    replace H := H.move (K := qf p_x8 c_x8 L_x8) 900003 900001 (by kernel_rfl) (by intro _ _ h; cases h)
    exact ⟨p_x8, c_x8, L_x8.length, L_x8, rfl, h_x8, H.toM _⟩
theorem Xp.calls (k0 : Nat) (a0 : Int) (r : List (List qa)) (w : World) (G : Xp k0 a0 = some r) :
  Calls Tryz.prog 26 #[vI a0] w fun e w' => ∃ g : Gh, e = .returned (slgd_S_TInterval g 0 r) ∧ Y7 (YT []) w w' ∧ YD w.heap.size (YT []) (JG w.heap.size []) [fun _ => ns_en_TIntervalg g 0 r] w' := by
 obtain ⟨fr, hfr, hBf⟩ := J4 w []
 refine Q4 (args := [vI a0]) 11 Tryz.func26 rfl (by kernel_rfl) (by kernel_rfl) fun a H => ?_
 unfold Xp at G
 refine qg qd H (.v 2 (.slice none 0 0) <| .nil) [0] fun u1 a w' H => ?_
 refine qs ?_
 refine qg qd H (.v 3 (vI a0) <|
 .v 4 (.bool (decide (a0 < 1))) <|
 .v 5 (.bool (decide (a0 < 1))) <|
 .cons [6] (Qc (fun u2 => vI a0) (fun u2 => ((decide (a0 < 1)) == false)) [true] 6) <|
 .cons [7] (Qc (fun u2 => .bool (decide (a0 > 6))) (fun u2 => ((decide (a0 < 1)) == false)) [false, true] 7) <|
 .cons [8] (Zt 5 7 (fun u2 => true) (fun u2 => true) (fun u2 => decide (a0 < 1)) (fun u2 => decide (a0 > 6)) 8) <| .nil) [0, 8] fun u2 a w' H => ?_
 refine Qr H ((decide (a0 < 1)) || (decide (a0 > 6))) (fun c6 => ?_) fun c6 => ?_
 ·rw [if_pos c6] at G
  refine qg qd H (.v 2 (.slice none 0 0) <| .nil) [2] fun u3 a w' H => ?_
  refine q7 ?_
  obtain rfl := sj G
  replace H := H.nil_row 11 22 1
  replace H := H.nest0 (e := 22) (m := 0) (cap := 0) (p := none) (H := ([] : List (Sl qa))) 11 48 2 qb (by kernel_rfl) (fun x h => by cases h)
  obtain ⟨g, o0, n0, d0⟩ := ZQ QS none 0 (show ([] : List (List qa)) = List.map Sl.l ([] : List (Sl qa)) from rfl)
  refine Xo H _ g _ _ _ fr [11] [] (.slice none 0 0) [fun _ => qj none 0 0 ([] : List (Sl qa))] (by simp only [slgd_S_TInterval, dlgd_S_TInterval, ns_en_TIntervalg, qf, qj, QU, o0, n0, d0, List.length_set, List.length_cons, List.length_nil, Nat.zero_add, Nat.reduceAdd]) (by simp only [slgd_S_TInterval, dlgd_S_TInterval, ns_en_TIntervalg, qf, qj, QU, o0, n0, d0, List.length_set, List.length_cons, List.length_nil, Nat.zero_add, Nat.reduceAdd]) hfr (.inl ⟨rfl, rfl⟩) (qx QZ qI) (by simp)
 ·rw [if_neg (nt c6)] at G
  refine qT ?_
  obtain ⟨t5, ht5, G⟩ := qP G
  refine qg qd H (.v 9 (vI a0) <|
 .cons [10, 12] (Qo false fr [] [] (fun u4 => []) [] (fun u4 => []) 47 _ (fun u4 => []) _ _ _ [12] 10 (fun u4 w hB hF hM => Qg.calls k0 a0  t5 w  ht5) (fun u4 w hF => ⟨trivial, trivial⟩) (fun u4 g => (qx QZ qI)) (.inr (fun u4 g => (Qj trivial (fun K h => by cases h)))) (fun h => by cases h)) <|
 .cons [2] (qp (fun u4 => slgd_S_TInterval (u4 1) 0 t5) 2) <| .nil) [2, 12] fun u4 a w' H => ?_
  refine q7 ?_
  obtain rfl := sj G
  obtain ⟨g, o0, n0, d0⟩ := ZQ QS ((u4 1).o 0) ((u4 1).n 0) (Xc qC (u4 1) 0 t5)
  refine Xo H _ g _ _ _ fr [12] [] (slgd_S_TInterval (u4 1) 0 t5) [fun _ => ns_en_TIntervalg (u4 1) 0 t5] (by simp only [slgd_S_TInterval, dlgd_S_TInterval, ns_en_TIntervalg, qf, qj, QU, o0, n0, d0]) (by simp only [slgd_S_TInterval, dlgd_S_TInterval, ns_en_TIntervalg, qf, qj, QU, o0, n0, d0]) hfr (.inl ⟨rfl, rfl⟩) (qx QZ qI) (by simp)
theorem YF.calls (a1 : Int) (r : List qa) (w : World) (G : YF a1 = some r) :
  Calls Tryz.prog 73 #[.slice none 0 0, vI a1] w fun e w' => ∃ g : Gh, e = .returned (.slice (g.o 0) r.length (g.n 0)) ∧ Y7 (YT []) w w' ∧ YD w.heap.size (YT []) (JG w.heap.size []) [fun _ => QU 48 2 (g.o 0) (g.n 0) r qb] w' := by
 obtain ⟨fr, hfr, hBf⟩ := J4 w []
 refine Q4 (args := [.slice none 0 0, vI a1]) 27 Tryz.func73 rfl (by kernel_rfl) (by kernel_rfl) fun a H => ?_
 unfold YF at G
 refine qg qd H (.v 4 (.slice none 0 0) <| .nil) [0, 1] fun u1 a w' H => ?_
 refine qs ?_
 refine qg qd H (.v 5 (vI a1) <|
 .v 6 (.bool (decide (a1 < 0))) <| .nil) [0, 1, 6] fun u2 a w' H => ?_
 refine Qr H (decide (a1 < 0)) (fun c10 => ?_) fun c10 => ?_
 ·rw [if_pos c10] at G
  cases G
 ·rw [if_neg (nt c10)] at G
  refine qT ?_
  refine qs ?_
  refine qg qd H (.v 8 (vI a1) <|
 .v 9 (.slice none 0 0) <|
 .v 10 (vI 0) <|
 .v 11 (.slice none 0 0) <|
 .v 12 (vI 0) <|
 .v 13 (vI (qe (0 - 0))) <|
 .v 14 (vI (qe (a1 - (qe (0 - 0))))) <|
 .v 1 (vI (qe (a1 - (qe (0 - 0))))) <| .nil) [0, 1] fun u3 a w' H => ?_
  refine qg qd H (.v 15 (vI (qe (a1 - (qe (0 - 0))))) <|
 .v 16 (.bool (decide ((qe (a1 - (qe (0 - 0)))) > 0))) <| .nil) [0, 1, 16] fun u4 a w' H => ?_
  refine Qr H (decide ((qe (a1 - (qe (0 - 0)))) > 0)) (fun c9 => ?_) fun c9 => ?_
  ·rw [if_pos c9] at G
   replace G := gd G; obtain ⟨b6, G⟩ := G
   refine qN qd H (.v 17 (.slice none 0 0) <|
 .v 18 (.slice none 0 0) <|
 .v 19 (vI 0) <|
 .v 20 (.slice none 0 0) <|
 .v 21 (vI (qe (a1 - (qe (0 - 0))))) <|
 .cons [22, 27] (Zl [] (fun u5 => []) 48 2 (List.replicate (qe (a1 - (qe (0 - 0)))).toNat (⟨0, 0⟩ : qa)).length ((List.replicate (qe (a1 - (qe (0 - 0)))).toNat (⟨0, 0⟩ : qa)).flatMap qb) 22 27 (fun _ => .none) (fun u5 w hF => VD (t := 22) (tn := 3) (ty := 22) (kn := .i64) (k := .i64) (m := qe (a1 - (qe (0 - 0)))) (en := qb) (z := (⟨0, 0⟩ : qa)) qh Jd rfl b6 (by kernel_rfl)) (fun _ => .inl rfl)) <|
 .v 23 (.slice none 0 0) <|
 .v 24 (vI 0) <|
 .cons [25, 27] (Zl [27] (fun u5 => [QU 48 2 ((u5 5).o 0) ((u5 5).n 0) (List.replicate (qe (a1 - (qe (0 - 0)))).toNat (⟨0, 0⟩ : qa)) qb]) 48 2 ([] : List qa).length (([] : List qa).flatMap qb) 25 27 (fun u5 => QU 48 2 ((u5 5).o 0) ((u5 5).n 0) (List.replicate (qe (a1 - (qe (0 - 0)))).toNat (⟨0, 0⟩ : qa)) qb) (fun u5 w hF => qbK (t := 22) (l := (List.replicate (qe (a1 - (qe (0 - 0)))).toNat (⟨0, 0⟩ : qa))) (k := .i64) (QN hF.1) rfl (by kernel_rfl)) (fun _ => .inr trivial)) <|
 .cons [0] (qp (fun u5 => .slice ((u5 8).o 0) 0 ((u5 8).n 0)) 0) <| .nil) [0, 27] fun u5 a w' H => ?_
   refine qg qd H (.v 26 (.slice ((u5 8).o 0) 0 ((u5 8).n 0)) <|
 .v 4 (.slice ((u5 8).o 0) 0 ((u5 8).n 0)) <| .nil) [4, 27] fun u7 a w' H => ?_
   refine q7 ?_
   obtain rfl := sj G
   obtain ⟨g, o0, n0⟩ := VI ((u5 8).o 0) ((u5 8).n 0)
   refine Xo H _ g _ _ _ fr [27] [] (.slice ((u5 8).o 0) 0 ((u5 8).n 0)) [fun _ => QU 48 2 ((u5 8).o 0) ((u5 8).n 0) ([] : List qa) qb] (by simp only [QU, o0, n0, List.length_set, List.length_cons, List.length_nil, Nat.zero_add, Nat.reduceAdd]) (by simp only [QU, o0, n0, List.length_set, List.length_cons, List.length_nil, Nat.zero_add, Nat.reduceAdd]) hfr (.inl ⟨rfl, rfl⟩) (qx X2 qI) (by simp)
  ·rw [if_neg (nt c9)] at G
   refine qT ?_
   refine qg qd H (.v 26 (.slice none 0 0) <|
 .v 4 (.slice none 0 0) <| .nil) [4] fun u8 a w' H => ?_
   refine q7 ?_
   obtain rfl := sj G
   replace H := H.nil_row 28 48 2
   obtain ⟨g, o0, n0⟩ := VI none 0
   refine Xo H _ g _ _ _ fr [28] [] (.slice none 0 0) [fun _ => Yo 48 2 none 0 0 (([] : List qa).flatMap qb)] (by simp only [QU, o0, n0, List.length_set, List.length_cons, List.length_nil, Nat.zero_add, Nat.reduceAdd]) (by simp only [QU, o0, n0, List.length_set, List.length_cons, List.length_nil, Nat.zero_add, Nat.reduceAdd]) hfr (.inl ⟨rfl, rfl⟩) (qx X2 qI) (by simp)
theorem QK.calls (k0 : Nat) (a0 : List (List qa)) (p_a0 : Option Addr) (c_a0 : Nat) (L_a0 : List (Sl qa)) (r : List qa) (w : World) (h_a0 : a0 = L_a0.map Sl.l) (hB : Yj [Qh qi 1 p_a0 c_a0 L_a0 ql, QA qi qc.toPart L_a0] w) (G : QK k0 a0 = some r) :
  Calls Tryz.prog 37 #[.slice p_a0 L_a0.length c_a0] w fun e w' => ∃ g : Gh, e = .returned (.slice (g.o 0) r.length (g.n 0)) ∧ Y7 (YT []) w w' ∧ YD w.heap.size (YT []) (JG w.heap.size []) [fun _ => QU 48 2 (g.o 0) (g.n 0) r qb] w' := by
 obtain ⟨fr, hfr, hBf⟩ := J4 w []
 refine QQ (args := [.slice p_a0 L_a0.length c_a0]) 36 [(36, Qh qi 1 p_a0 c_a0 L_a0 ql), (37, QA qi qc.toPart L_a0)] (by
  intro x hx
  simp only [List.mem_cons, List.not_mem_nil, or_false] at hx
  rcases hx with rfl | rfl
  ·exact Ql (qq hB.1) (fun _ _ => trivial) (by decide) _
  ·exact Xt (Qb hB.2.1) (fun _ _ => trivial) _) Tryz.func37 rfl (by kernel_rfl) (by kernel_rfl) fun a H => ?_
 unfold QK at G
 refine qg qd H (.v 2 (.slice none 0 0) <| .nil) [0, 36, 37] fun u1 a w' H => ?_
 refine qg qd H (.v 3 (vI 0) <| .nil) [0, 3, 36, 37] fun u2 a w' H => ?_
 refine qs ?_
 obtain ⟨j4, hj4, G⟩ := qP G
 refine Qw (fun a w' => RL w 36 [(0, sS p_a0 L_a0.length c_a0), (3, sI j4), (36, Qh qi 1 p_a0 c_a0 L_a0 ql), (37, QA qi qc.toPart L_a0)] a w') ?_ ?_
 ·clear H; intro a w' H
  obtain ⟨t6, ht6, G⟩ := qP G
  refine qg qd H (.v 23 (vI j4) <|
 .cons [24, 38] (Qo false fr [] [] (fun u5 => []) [] (fun u5 => []) 73 _ (fun u5 => []) _ _ _ [38] 24 (fun u5 w hB hF hM => YF.calls j4  t6 w  ht6) (fun u5 w hF => ⟨trivial, trivial⟩) (fun u5 g => (qx X2 qI)) (.inr (fun u5 g => (Qj trivial (fun K h => by cases h)))) (fun h => by cases h)) <|
 .cons [6] (qp (fun u5 => .slice ((u5 1).o 0) t6.length ((u5 1).n 0)) 6) <| .nil) [0, 6, 36, 37, 38] fun u5 a w' H => ?_
  refine qs ?_
  obtain ⟨j8, hj8, G⟩ := qP G
  refine Qw (fun a w' => ∃ (p_j7 : Option Addr) (c_j7 np_j7 : Nat), np_j7 = j8.length ∧ RL w 36 [(6, sS p_j7 np_j7 c_j7), (900009, Yo 48 2 p_j7 np_j7 c_j7 (j8.flatMap qb))] a w') ?_ ?_
  ·clear H; rintro a w' ⟨p_j7, c_j7, _, rfl, H⟩
   refine qg qd H (.v 35 (.slice p_j7 j8.length c_j7) <|
 .v 2 (.slice p_j7 j8.length c_j7) <| .nil) [2, 900009] fun u9 a w' H => ?_
   refine q7 ?_
   obtain rfl := sj G
   obtain ⟨g, o0, n0⟩ := VI p_j7 c_j7
   refine Xo H _ g _ _ _ fr [900009] [] (.slice p_j7 j8.length c_j7) [fun _ => QU 48 2 p_j7 c_j7 j8 qb] (by simp only [QU, o0, n0]) (by simp only [QU, o0, n0]) hfr (.inl ⟨rfl, rfl⟩) (qx X2 qI) (by simp)
  ·clear G; replace G := hj8; clear hj8
   refine qg qd H (.v 25 (.slice p_a0 L_a0.length c_a0) <|
 .cons [26] (qy 36 (Qh qi 1 p_a0 c_a0 L_a0 ql) (vI (a0.length : Int)) 26 fun _ w h => Q7 (((qq h).2.len qk (by decide)).trans (qD h_a0).symm) (by kernel_rfl)) <|
 .v 27 (vI 0) <| .nil) [6, 25, 26, 27, 36, 37, 38] fun u10 a w' H => ?_
   refine qA ?_
   replace H := H.move (K := QU 48 2 ((u5 1).o 0) ((u5 1).n 0) t6 qb) 38 900010 (by kernel_rfl) (by intro _ _ h; cases h)
   refine Qv (fun m a w' => ∃ x11 : List qa, ∃ x12 : Int, QK.l13 k0 a0 j4 t6 m x11 x12 = some j8 ∧ ∃ (p_x11 : Option Addr) (c_x11 np_x11 : Nat), np_x11 = x11.length ∧ RL w 36 [(6, sS p_x11 np_x11 c_x11), (25, sS p_a0 L_a0.length c_a0), (26, (sI (a0.length : Int))), (27, sI x12), (36, Qh qi 1 p_a0 c_a0 L_a0 ql), (37, QA qi qc.toPart L_a0), (900010, Yo 48 2 p_x11 np_x11 c_x11 (x11.flatMap qb))] a w') k0 ⟨_, _, G, ((u5 1).o 0), ((u5 1).n 0), t6.length, rfl, H.toM _⟩ ?_
   clear G H
   rintro (_ | k) a w' ⟨x11, x12, G, p_x11, c_x11, _, rfl, H⟩
   ·exact absurd G (by unfold QK.l13; exact fun h => by cases h)
   ·unfold QK.l13 at G
    refine qg qd H (.v 28 (.bool (decide (x12 < (a0.length : Int)))) <| .nil) [6, 25, 26, 27, 28, 36, 37, 900010] fun u14 a w' H => ?_
    refine qs ?_
    refine Qr H (decide (x12 < (a0.length : Int))) (fun c21 => ?_) fun c21 => ?_
    ·rw [if_pos c21] at G
     refine qT ?_
     refine qs ?_
     refine qA ?_
     refine qs ?_
     replace G := gd G; obtain ⟨b16, G⟩ := G
     obtain ⟨t17, ht17, G⟩ := qP G
     obtain ⟨p_t17, c_t17, y_t17⟩ := QE h_a0 ht17
     refine qN qd H (.cons [29] (qy 36 (Qh qi 1 p_a0 c_a0 L_a0 ql) (.pointer (some ⟨XB p_a0, XC p_a0 + x12.toNat * 1, none⟩)) 29 fun _ w h => YQ 25 .i64 x12 p_a0 L_a0.length c_a0 a0 ql (qq h).2 qk (qD h_a0) b16) <|
 .cons [30] (qy 36 (Qh qi 1 p_a0 c_a0 L_a0 ql) (.slice p_t17 t17.length c_t17) 30 fun _ w h => Ya ql (qq h).2 qk y_t17 0 1 [.slice p_t17 t17.length c_t17]) <|
 .v 8 (.slice p_t17 t17.length c_t17) <| .nil) [6, 8, 25, 26, 27, 36, 37, 900010] fun u15 a w' H => ?_
     replace G := gd G; obtain ⟨b19, G⟩ := G
     refine qN qd H (.v 31 (.slice p_x11 x11.length c_x11) <|
 .v 32 (.slice p_t17 t17.length c_t17) <|
 .cons [33, 900010, 900010] (Xs [] [37] (fun u18 => [QA qi qc.toPart L_a0]) 900010 (fun u18 => QU 48 2 p_x11 c_x11 x11 qb) (some 33) (fun u18 g => .slice (g.o 0) (x11 ++ t17).length (g.n 0)) (fun u18 g => QU 48 2 (g.o 0) (g.n 0) (x11 ++ t17) qb) (fun u18 w hF hK => ZB (Zr (t := 22) (ty := 22) (en := qb) (m := t17) (p2 := p_t17) (n2 := t17.length) (cap2 := c_t17) qh (fun _ => rfl) Jd (QN hK) (show Xv _ 2 p_t17 t17.length c_t17 (t17.flatMap qb) from ((Qb hF.1) _ (List.mem_of_getElem? y_t17)).1).2 b19 (by kernel_rfl)))) <|
 .cons [6] (qp (fun u18 => .slice ((u18 2).o 0) ((x11 ++ t17).length) ((u18 2).n 0)) 6) <| .nil) [6, 25, 26, 27, 36, 37, 900010] fun u18 a w' H => ?_
     refine qN qd H (.v 34 (vI (qe (x12 + 1))) <|
 .v 27 (vI (qe (x12 + 1))) <| .nil) [6, 25, 26, 27, 36, 37, 900010] fun u20 a w' H => ?_
     exact ⟨k, Nat.lt_succ_self k, _, _, G, ((u18 2).o 0), ((u18 2).n 0), (x11 ++ t17).length, rfl, H.toM _⟩
    ·rw [if_neg (nt c21)] at G
     refine QO rfl ?_
     obtain rfl := sj G
     replace H := H.move (K := QU 48 2 p_x11 c_x11 x11 qb) 900010 900009 (by kernel_rfl) (by intro _ _ h; cases h)
     exact ⟨p_x11, c_x11, x11.length, rfl, H.toM _⟩
 ·clear G; replace G := hj4; clear hj4
  refine qg qd H (.v 9 (.slice p_a0 L_a0.length c_a0) <|
 .cons [10] (qy 36 (Qh qi 1 p_a0 c_a0 L_a0 ql) (vI (a0.length : Int)) 10 fun _ w h => Q7 (((qq h).2.len qk (by decide)).trans (qD h_a0).symm) (by kernel_rfl)) <|
 .v 11 (vI 0) <| .nil) [0, 3, 9, 10, 11, 36, 37] fun u22 a w' H => ?_
  refine qA ?_
  refine Qv (fun m a w' => ∃ x23 : Int, ∃ x24 : Int, QK.l25 k0 a0 m x23 x24 = some j4 ∧ RL w 36 [(0, sS p_a0 L_a0.length c_a0), (3, sI x23), (9, sS p_a0 L_a0.length c_a0), (10, (sI (a0.length : Int))), (11, sI x24), (36, Qh qi 1 p_a0 c_a0 L_a0 ql), (37, QA qi qc.toPart L_a0)] a w') k0 ⟨_, _, G, H.toM _⟩ ?_
  clear G H
  rintro (_ | k) a w' ⟨x23, x24, G, H⟩
  ·exact absurd G (by unfold QK.l25; exact fun h => by cases h)
  ·unfold QK.l25 at G
   refine qg qd H (.v 12 (.bool (decide (x24 < (a0.length : Int)))) <| .nil) [0, 3, 9, 10, 11, 12, 36, 37] fun u26 a w' H => ?_
   refine qs ?_
   refine Qr H (decide (x24 < (a0.length : Int))) (fun c34 => ?_) fun c34 => ?_
   ·rw [if_pos c34] at G
    refine qT ?_
    refine qs ?_
    refine qA ?_
    refine qs ?_
    replace G := gd G; obtain ⟨b28, G⟩ := G
    obtain ⟨t29, ht29, G⟩ := qP G
    obtain ⟨p_t29, c_t29, y_t29⟩ := QE h_a0 ht29
    refine qN qd H (.cons [13] (qy 36 (Qh qi 1 p_a0 c_a0 L_a0 ql) (.pointer (some ⟨XB p_a0, XC p_a0 + x24.toNat * 1, none⟩)) 13 fun _ w h => YQ 25 .i64 x24 p_a0 L_a0.length c_a0 a0 ql (qq h).2 qk (qD h_a0) b28) <|
 .cons [14] (qy 36 (Qh qi 1 p_a0 c_a0 L_a0 ql) (.slice p_t29 t29.length c_t29) 14 fun _ w h => Ya ql (qq h).2 qk y_t29 0 1 [.slice p_t29 t29.length c_t29]) <|
 .v 5 (.slice p_t29 t29.length c_t29) <| .nil) [0, 3, 5, 9, 10, 11, 36, 37] fun u27 a w' H => ?_
    refine qg qd H (.v 15 (vI x23) <|
 .v 16 (.slice p_t29 t29.length c_t29) <|
 .v 17 (vI (t29.length : Int)) <|
 .v 18 (vI (qe (x23 + (t29.length : Int)))) <|
 .v 3 (vI (qe (x23 + (t29.length : Int)))) <| .nil) [0, 3, 9, 10, 11, 36, 37] fun u30 a w' H => ?_
    refine qg qd H (.v 19 (vI (qe (x23 + (t29.length : Int)))) <|
 .v 20 (.bool (decide ((qe (x23 + (t29.length : Int))) < 0))) <| .nil) [0, 3, 9, 10, 11, 20, 36, 37] fun u31 a w' H => ?_
    refine Qr H (decide ((qe (x23 + (t29.length : Int))) < 0)) (fun c33 => ?_) fun c33 => ?_
    ·rw [if_pos c33] at G
     cases G
    ·rw [if_neg (nt c33)] at G
     refine qT ?_
     refine qN qd H (.v 22 (vI (qe (x24 + 1))) <|
 .v 11 (vI (qe (x24 + 1))) <| .nil) [0, 3, 9, 10, 11, 36, 37] fun u32 a w' H => ?_
     exact ⟨k, Nat.lt_succ_self k, _, _, G, H.toM _⟩
   ·rw [if_neg (nt c34)] at G
    refine QO rfl ?_
    obtain rfl := sj G
    exact H.toM _
theorem Q2.calls (a0 : Bool) (a1 : Int) (a2 : Int) (r : Int) (w : World) (G : Q2 a0 a1 a2 = some r) :
  Calls Tryz.prog 79 #[.bool a0, vI a1, vI a2] w fun e w' => e = .returned (vI r) ∧ Below w.heap.size w w' := by
 refine Q4 (args := [.bool a0, vI a1, vI a2]) 10 Tryz.func79 rfl (by kernel_rfl) (by kernel_rfl) fun a H => ?_
 unfold Q2 at G
 refine qg qd H (.v 6 (vI 0) <| .nil) [0, 1, 2] fun u1 a w' H => ?_
 refine qs ?_
 refine qg qd H (.v 7 (.bool a0) <| .nil) [1, 2, 7] fun u2 a w' H => ?_
 refine Qr H a0 (fun c5 => ?_) fun c5 => ?_
 ·rw [if_pos c5] at G
  refine qg qd H (.v 8 (vI a1) <|
 .v 6 (vI a1) <| .nil) [6] fun u3 a w' H => ?_
  refine q7 ?_
  obtain rfl := sj G
  exact QG H _ (by kernel_rfl) (by kernel_rfl)
 ·rw [if_neg (nt c5)] at G
  refine qT ?_
  refine qg qd H (.v 9 (vI a2) <|
 .v 6 (vI a2) <| .nil) [6] fun u4 a w' H => ?_
  refine q7 ?_
  obtain rfl := sj G
  exact QG H _ (by kernel_rfl) (by kernel_rfl)
theorem YM.calls (a0 : qa) (r : Int) (w : World) (G : YM a0 = some r) :
  Calls Tryz.prog 74 #[.agg #[vI a0.Lo, vI a0.Hi]] w fun e w' => e = .returned (vI r) ∧ Below w.heap.size w w' := by
 refine Q4 (args := [.agg #[vI a0.Lo, vI a0.Hi]]) 11 Tryz.func74 rfl (by kernel_rfl) (by kernel_rfl) fun a H => ?_
 unfold YM at G
 refine qg qd H (.cons [1, 11] (qH (fun b => vP b 0) (fun u1 => [vI a0.Lo, vI a0.Hi]) 48 1 11) <|
 .v 2 (vI 0) <| .nil) [1, 11] fun u1 a w' H => ?_
 obtain ⟨t3, ht3, G⟩ := qP G
 obtain ⟨t4, ht4, G⟩ := qP G
 refine qg qd H (.v 3 (vP ((u1 0).n 0) 0) <|
 .cons [4] (qv (vI a0.Lo) 4 11 0 1 ((u1 0).n 0) [vI a0.Lo, vI a0.Hi] 48) <|
 .v 5 (.bool (decide (a0.Lo > 0))) <|
 .v 6 (vP ((u1 0).n 0) 1) <|
 .cons [7] (qv (vI a0.Hi) 7 11 1 1 ((u1 0).n 0) [vI a0.Lo, vI a0.Hi] 48) <|
 .v 8 (.bool (decide (a0.Hi < 0))) <|
 .cons [9] (qo 79 _ _ 9 [] (fun u2 w _ => Q2.calls (decide (a0.Hi < 0)) (-1) 0  t3 w  ht3)) <|
 .cons [10] (qo 79 _ _ 10 [] (fun u2 w _ => Q2.calls (decide (a0.Lo > 0)) 1 t3  t4 w  ht4)) <|
 .v 2 (vI t4) <| .nil) [2] fun u2 a w' H => ?_
 refine q7 ?_
 obtain rfl := sj G
 exact QG H _ (by kernel_rfl) (by kernel_rfl)
theorem Yr.calls (a0 : qa) (r : Int) (w : World) (G : Yr a0 = some r) :
  Calls Tryz.prog 75 #[.agg #[vI a0.Lo, vI a0.Hi]] w fun e w' => e = .returned (vI r) ∧ Below w.heap.size w w' := by
 refine Q4 (args := [.agg #[vI a0.Lo, vI a0.Hi]]) 16 Tryz.func75 rfl (by kernel_rfl) (by kernel_rfl) fun a H => ?_
 unfold Yr at G
 refine qg qd H (.cons [1, 16] (qH (fun b => vP b 0) (fun u1 => [vI a0.Lo, vI a0.Hi]) 48 1 16) <|
 .v 2 (vI 0) <| .nil) [1, 16] fun u1 a w' H => ?_
 refine qg qd H (.v 3 (vP ((u1 0).n 0) 0) <|
 .cons [4] (qv (vI a0.Lo) 4 16 0 1 ((u1 0).n 0) [vI a0.Lo, vI a0.Hi] 48) <|
 .v 5 (vP ((u1 0).n 0) 0) <|
 .cons [6] (qv (vI a0.Lo) 6 16 0 1 ((u1 0).n 0) [vI a0.Lo, vI a0.Hi] 48) <|
 .v 7 (vI (qe (0 - a0.Lo))) <|
 .v 8 (vI (mx a0.Lo (qe (0 - a0.Lo)))) <|
 .v 9 (vP ((u1 0).n 0) 1) <|
 .cons [10] (qv (vI a0.Hi) 10 16 1 1 ((u1 0).n 0) [vI a0.Lo, vI a0.Hi] 48) <|
 .v 11 (vP ((u1 0).n 0) 1) <|
 .cons [12] (qv (vI a0.Hi) 12 16 1 1 ((u1 0).n 0) [vI a0.Lo, vI a0.Hi] 48) <|
 .v 13 (vI (qe (0 - a0.Hi))) <|
 .v 14 (vI (mx a0.Hi (qe (0 - a0.Hi)))) <|
 .v 15 (vI (mn (mx a0.Lo (qe (0 - a0.Lo))) (mx a0.Hi (qe (0 - a0.Hi))))) <|
 .v 2 (vI (mn (mx a0.Lo (qe (0 - a0.Lo))) (mx a0.Hi (qe (0 - a0.Hi))))) <| .nil) [2] fun u2 a w' H => ?_
 refine q7 ?_
 obtain rfl := sj G
 exact QG H _ (by kernel_rfl) (by kernel_rfl)
theorem Xl.calls (k0 : Nat) (a0 : List (List qa)) (a1 : Int) (p_a0 : Option Addr) (c_a0 : Nat) (L_a0 : List (Sl qa)) (r : Int) (w : World) (h_a0 : a0 = L_a0.map Sl.l) (hB : Yj [Qh qi 1 p_a0 c_a0 L_a0 ql, QA qi qc.toPart L_a0] w) (G : Xl k0 a0 a1 = some r) :
  Calls Tryz.prog 38 #[.slice p_a0 L_a0.length c_a0, vI a1] w fun e w' => e = .returned (vI r) ∧ Below w.heap.size w w' := by
 obtain ⟨fr, hfr⟩ : ∃ fr : Nat → Prop, ∀ j, fr j := ⟨fun _ => True, fun _ => trivial⟩
 have hBf : ∀ j, w.heap.size ≤ j → fr j := fun j _ => hfr j
 refine QQ (args := [.slice p_a0 L_a0.length c_a0, vI a1]) 48 [(48, Qh qi 1 p_a0 c_a0 L_a0 ql), (49, QA qi qc.toPart L_a0)] (by
  intro x hx
  simp only [List.mem_cons, List.not_mem_nil, or_false] at hx
  rcases hx with rfl | rfl
  ·exact Ql (qq hB.1) (fun _ _ => trivial) (by decide) _
  ·exact Xt (Qb hB.2.1) (fun _ _ => trivial) _) Tryz.func38 rfl (by kernel_rfl) (by kernel_rfl) fun a H => ?_
 unfold Xl at G
 refine qg qd H (.v 4 (vI 0) <| .nil) [0, 1, 48, 49] fun u1 a w' H => ?_
 refine qg qd H (.v 5 (vI (-1)) <| .nil) [0, 1, 5, 48, 49] fun u2 a w' H => ?_
 refine qs ?_
 replace G := qP G; obtain ⟨j4, hj4, G⟩ := G
 refine Qw (fun a w' => RL w 48 [(5, sI j4)] a w') ?_ ?_
 ·clear H; intro a w' H
  refine qg qd H (.v 47 (vI j4) <|
 .v 4 (vI j4) <| .nil) [4] fun u5 a w' H => ?_
  refine q7 ?_
  obtain rfl := sj G
  exact QG H _ (by kernel_rfl) (by kernel_rfl)
 ·clear G; replace G := hj4; clear hj4
  refine qg qd H (.v 7 (vI a1) <|
 .v 6 (vI a1) <| .nil) [0, 1, 5, 6, 48, 49] fun u6 a w' H => ?_
  refine qA ?_
  refine Qv (fun m a w' => ∃ x7 : Int, ∃ x8 : Int, Xl.l9 k0 a0 a1 m x7 x8 = some j4 ∧ RL w 48 [(0, sS p_a0 L_a0.length c_a0), (1, sI a1), (5, sI x7), (6, sI x8), (48, Qh qi 1 p_a0 c_a0 L_a0 ql), (49, QA qi qc.toPart L_a0)] a w') k0 ⟨_, _, G, H.toM _⟩ ?_
  clear G H
  rintro (_ | k) a w' ⟨x7, x8, G, H⟩
  ·exact absurd G (by unfold Xl.l9; exact fun h => by cases h)
  ·unfold Xl.l9 at G
   refine qs ?_
   refine qg qd H (.v 8 (vI x8) <|
 .v 9 (.slice p_a0 L_a0.length c_a0) <|
 .cons [10] (qy 48 (Qh qi 1 p_a0 c_a0 L_a0 ql) (vI (a0.length : Int)) 10 fun _ w h => Q7 (((qq h).2.len qk (by decide)).trans (qD h_a0).symm) (by kernel_rfl)) <|
 .v 11 (.bool (decide (x8 < (a0.length : Int)))) <| .nil) [0, 1, 5, 6, 11, 48, 49] fun u10 a w' H => ?_
   refine Qr H (decide (x8 < (a0.length : Int))) (fun c24 => ?_) fun c24 => ?_
   ·rw [if_pos c24] at G
    refine qT ?_
    refine qs ?_
    replace G := qP G; obtain ⟨j12, hj12, G⟩ := G
    refine Qw (fun a w' => RL w 48 [(0, sS p_a0 L_a0.length c_a0), (1, sI a1), (5, sI j12), (6, sI x8), (48, Qh qi 1 p_a0 c_a0 L_a0 ql), (49, QA qi qc.toPart L_a0)] a w') ?_ ?_
    ·clear H; intro a w' H
     refine qN qd H (.v 12 (vI x8) <|
 .v 13 (vI (qe (x8 + 1))) <|
 .v 6 (vI (qe (x8 + 1))) <| .nil) [0, 1, 5, 6, 48, 49] fun u13 a w' H => ?_
     exact ⟨k, Nat.lt_succ_self k, _, _, G, H.toM _⟩
    ·clear G; replace G := hj12; clear hj12
     refine qA ?_
     refine qs ?_
     replace G := gd G; obtain ⟨b15, G⟩ := G
     replace G := qP G; obtain ⟨t16, ht16, G⟩ := G
     obtain ⟨p_t16, c_t16, y_t16⟩ := QE h_a0 ht16
     have P17 := XT (en := ql) (l := L_a0) (qq (H.at (K := Qh qi 1 p_a0 c_a0 L_a0 ql) 48 (by kernel_rfl))).2 qk
     replace G := gd G; obtain ⟨b18, G⟩ := G
     replace G := qP G; obtain ⟨t19, ht19, G⟩ := G
     replace G := qP G; obtain ⟨t20, ht20, G⟩ := G
     replace G := qP G; obtain ⟨z21, hz21, G⟩ := G
     replace hz21 := Option.some.inj hz21
     by_cases c22 : z21 = true
     ·rw [if_pos c22] at G; subst c22
      replace G := qP G; obtain ⟨z22, hz22, G⟩ := G
      replace hz22 := Option.some.inj hz22
      by_cases c35 : z22 = true
      ·rw [if_pos c35] at G; subst c35
       refine qN qd H (.v 14 (.slice p_a0 L_a0.length c_a0) <|
 .v 15 (vI x8) <|
 .cons [16] (qp (fun u14 => .pointer (some ⟨XB p_a0, XC p_a0 + x8.toNat * 1, none⟩)) 16 (hv := fun _ _ => QH (t := 25) (k := .i64) (i := x8) (p := p_a0) (n := L_a0.length) (cap := c_a0) (x := a0) P17 (qD h_a0) b15 (by kernel_rfl))) <|
 .cons [17] (qy 48 (Qh qi 1 p_a0 c_a0 L_a0 ql) (.slice p_t16 t16.length c_t16) 17 fun _ w h => Ya ql (qq h).2 qk y_t16 0 1 [.slice p_t16 t16.length c_t16]) <|
 .v 18 (vI a1) <|
 .cons [19] (qy 49 (QA qi qc.toPart L_a0) (.pointer (some ⟨XB p_t16, XC p_t16 + a1.toNat * 2, none⟩)) 19 fun _ w h => YQ 22 .i64 a1 p_t16 t16.length c_t16 t16 qb (show Xv _ 2 p_t16 t16.length c_t16 (t16.flatMap qb) from ((Qb h) _ (List.mem_of_getElem? y_t16)).1).2 qh rfl b18) <|
 .cons [20] (qy 49 (QA qi qc.toPart L_a0) (.agg #[vI t19.Lo, vI t19.Hi]) 20 fun _ w h => Ya qb (show Xv _ 2 p_t16 t16.length c_t16 (t16.flatMap qb) from ((Qb h) _ (List.mem_of_getElem? y_t16)).1).2 qh ht19 0 2 [vI t19.Lo, vI t19.Hi]) <|
 .cons [21] (qo 74 _ _ 21 [] (fun u14 w _ => YM.calls t19  t20 w  ht20)) <|
 .v 22 (.bool (t20 != 0)) <|
 .cons [23] (XO (u' := fun u14 => [(23, sB true)]) (qp (fun u14 => .bool (t20 != 0)) 23) (fun _ => by rw [hz21])) <|
 .cons [24] (q6 (qp (fun u14 => vI x7) 24) (by intro _; kernel_rfl)) <|
 .cons [25] (q6 (qp (fun u14 => .bool (decide (x7 < 0))) 25) (by intro _; kernel_rfl)) <|
 .cons [26] (XO (u' := fun u14 => [(26, sB true)]) (q6 (qp (fun u14 => .bool (decide (x7 < 0))) 26) (by intro _; kernel_rfl)) (fun _ => by rw [hz22])) <|
 .cons [27] (QB 27) <|
 .cons [28] (QB 28) <|
 .cons [29] (QB 29) <|
 .cons [30] (QB 30) <|
 .cons [31] (QB 31) <|
 .cons [32] (QB 32) <|
 .cons [33] (QB 33) <|
 .cons [34] (QB 34) <|
 .cons [35] (QB 35) <|
 .cons [36] (QB 36) <|
 .cons [37] (QB 37) <|
 .cons [38] (QB 38) <|
 .cons [39] (QB 39) <|
 .cons [40] (QB 40) <|
 .cons [41] (QB 41) <|
 .cons [42] (QB 42) <|
 .cons [43] (QB 43) <|
 .cons [44] (q6 (XF (fun u14 => .bool true) 44) (by intro _; kernel_rfl)) <|
 .cons [45] (XF (fun u14 => .bool true) 45) <| .nil) [0, 1, 5, 6, 24, 25, 26, 27, 28, 29, 30, 31, 32, 33, 34, 35, 36, 37, 38, 39, 40, 41, 42, 43, 44, 45, 48, 49] fun u14 a w' H => ?_
       refine Wz H (by kernel_rfl) (by kernel_rfl) ?_
       refine qN qd H (.v 46 (vI x8) <|
 .v 5 (vI x8) <| .nil) [0, 1, 5, 6, 24, 25, 26, 27, 28, 29, 30, 31, 32, 33, 34, 35, 36, 37, 38, 39, 40, 41, 42, 43, 44, 48, 49] fun u23 a w' H => ?_
       obtain rfl := sj G
       exact H.toM _
      rw [if_neg c35] at G
      by_cases c36 : z22 = false
      ·rw [if_pos c36] at G; subst c36
       replace G := gd G; obtain ⟨b23, G⟩ := G
       replace G := qP G; obtain ⟨t24, ht24, G⟩ := G
       obtain ⟨p_t24, c_t24, y_t24⟩ := QE h_a0 ht24
       replace G := gd G; obtain ⟨b25, G⟩ := G
       replace G := qP G; obtain ⟨t26, ht26, G⟩ := G
       replace G := qP G; obtain ⟨t27, ht27, G⟩ := G
       replace G := gd G; obtain ⟨b28, G⟩ := G
       replace G := qP G; obtain ⟨t29, ht29, G⟩ := G
       obtain ⟨p_t29, c_t29, y_t29⟩ := QE h_a0 ht29
       replace G := gd G; obtain ⟨b30, G⟩ := G
       replace G := qP G; obtain ⟨t31, ht31, G⟩ := G
       replace G := qP G; obtain ⟨t32, ht32, G⟩ := G
       refine qN qd H (.v 14 (.slice p_a0 L_a0.length c_a0) <|
 .v 15 (vI x8) <|
 .cons [16] (qp (fun u14 => .pointer (some ⟨XB p_a0, XC p_a0 + x8.toNat * 1, none⟩)) 16 (hv := fun _ _ => QH (t := 25) (k := .i64) (i := x8) (p := p_a0) (n := L_a0.length) (cap := c_a0) (x := a0) P17 (qD h_a0) b15 (by kernel_rfl))) <|
 .cons [17] (qy 48 (Qh qi 1 p_a0 c_a0 L_a0 ql) (.slice p_t16 t16.length c_t16) 17 fun _ w h => Ya ql (qq h).2 qk y_t16 0 1 [.slice p_t16 t16.length c_t16]) <|
 .v 18 (vI a1) <|
 .cons [19] (qy 49 (QA qi qc.toPart L_a0) (.pointer (some ⟨XB p_t16, XC p_t16 + a1.toNat * 2, none⟩)) 19 fun _ w h => YQ 22 .i64 a1 p_t16 t16.length c_t16 t16 qb (show Xv _ 2 p_t16 t16.length c_t16 (t16.flatMap qb) from ((Qb h) _ (List.mem_of_getElem? y_t16)).1).2 qh rfl b18) <|
 .cons [20] (qy 49 (QA qi qc.toPart L_a0) (.agg #[vI t19.Lo, vI t19.Hi]) 20 fun _ w h => Ya qb (show Xv _ 2 p_t16 t16.length c_t16 (t16.flatMap qb) from ((Qb h) _ (List.mem_of_getElem? y_t16)).1).2 qh ht19 0 2 [vI t19.Lo, vI t19.Hi]) <|
 .cons [21] (qo 74 _ _ 21 [] (fun u14 w _ => YM.calls t19  t20 w  ht20)) <|
 .v 22 (.bool (t20 != 0)) <|
 .cons [23] (XO (u' := fun u14 => [(23, sB true)]) (qp (fun u14 => .bool (t20 != 0)) 23) (fun _ => by rw [hz21])) <|
 .cons [24] (q6 (qp (fun u14 => vI x7) 24) (by intro _; kernel_rfl)) <|
 .cons [25] (q6 (qp (fun u14 => .bool (decide (x7 < 0))) 25) (by intro _; kernel_rfl)) <|
 .cons [26] (XO (u' := fun u14 => [(26, sB false)]) (q6 (qp (fun u14 => .bool (decide (x7 < 0))) 26) (by intro _; kernel_rfl)) (fun _ => by rw [hz22])) <|
 .cons [27] (q6 (qp (fun u14 => .slice p_a0 L_a0.length c_a0) 27) (by intro _; kernel_rfl)) <|
 .cons [28] (q6 (qp (fun u14 => vI x8) 28) (by intro _; kernel_rfl)) <|
 .cons [29] (q6 (qp (fun u14 => .pointer (some ⟨XB p_a0, XC p_a0 + x8.toNat * 1, none⟩)) 29 (hv := fun _ _ => QH (t := 25) (k := .i64) (i := x8) (p := p_a0) (n := L_a0.length) (cap := c_a0) (x := a0) P17 (qD h_a0) b23 (by kernel_rfl))) (by intro _; kernel_rfl)) <|
 .cons [30] (q6 (qy 48 (Qh qi 1 p_a0 c_a0 L_a0 ql) (.slice p_t24 t24.length c_t24) 30 fun _ w h => Ya ql (qq h).2 qk y_t24 0 1 [.slice p_t24 t24.length c_t24]) (by intro _; kernel_rfl)) <|
 .cons [31] (q6 (qp (fun u14 => vI a1) 31) (by intro _; kernel_rfl)) <|
 .cons [32] (q6 (qy 49 (QA qi qc.toPart L_a0) (.pointer (some ⟨XB p_t24, XC p_t24 + a1.toNat * 2, none⟩)) 32 fun _ w h => YQ 22 .i64 a1 p_t24 t24.length c_t24 t24 qb (show Xv _ 2 p_t24 t24.length c_t24 (t24.flatMap qb) from ((Qb h) _ (List.mem_of_getElem? y_t24)).1).2 qh rfl b25) (by intro _; kernel_rfl)) <|
 .cons [33] (q6 (qy 49 (QA qi qc.toPart L_a0) (.agg #[vI t26.Lo, vI t26.Hi]) 33 fun _ w h => Ya qb (show Xv _ 2 p_t24 t24.length c_t24 (t24.flatMap qb) from ((Qb h) _ (List.mem_of_getElem? y_t24)).1).2 qh ht26 0 2 [vI t26.Lo, vI t26.Hi]) (by intro _; kernel_rfl)) <|
 .cons [34] (q6 (qo 75 _ _ 34 [] (fun u14 w _ => Yr.calls t26  t27 w  ht27)) (by intro _; kernel_rfl)) <|
 .cons [35] (q6 (qp (fun u14 => .slice p_a0 L_a0.length c_a0) 35) (by intro _; kernel_rfl)) <|
 .cons [36] (q6 (qp (fun u14 => vI x7) 36) (by intro _; kernel_rfl)) <|
 .cons [37] (q6 (qp (fun u14 => .pointer (some ⟨XB p_a0, XC p_a0 + x7.toNat * 1, none⟩)) 37 (hv := fun _ _ => QH (t := 25) (k := .i64) (i := x7) (p := p_a0) (n := L_a0.length) (cap := c_a0) (x := a0) P17 (qD h_a0) b28 (by kernel_rfl))) (by intro _; kernel_rfl)) <|
 .cons [38] (q6 (qy 48 (Qh qi 1 p_a0 c_a0 L_a0 ql) (.slice p_t29 t29.length c_t29) 38 fun _ w h => Ya ql (qq h).2 qk y_t29 0 1 [.slice p_t29 t29.length c_t29]) (by intro _; kernel_rfl)) <|
 .cons [39] (q6 (qp (fun u14 => vI a1) 39) (by intro _; kernel_rfl)) <|
 .cons [40] (q6 (qy 49 (QA qi qc.toPart L_a0) (.pointer (some ⟨XB p_t29, XC p_t29 + a1.toNat * 2, none⟩)) 40 fun _ w h => YQ 22 .i64 a1 p_t29 t29.length c_t29 t29 qb (show Xv _ 2 p_t29 t29.length c_t29 (t29.flatMap qb) from ((Qb h) _ (List.mem_of_getElem? y_t29)).1).2 qh rfl b30) (by intro _; kernel_rfl)) <|
 .cons [41] (q6 (qy 49 (QA qi qc.toPart L_a0) (.agg #[vI t31.Lo, vI t31.Hi]) 41 fun _ w h => Ya qb (show Xv _ 2 p_t29 t29.length c_t29 (t29.flatMap qb) from ((Qb h) _ (List.mem_of_getElem? y_t29)).1).2 qh ht31 0 2 [vI t31.Lo, vI t31.Hi]) (by intro _; kernel_rfl)) <|
 .cons [42] (q6 (qo 75 _ _ 42 [] (fun u14 w _ => Yr.calls t31  t32 w  ht32)) (by intro _; kernel_rfl)) <|
 .cons [43] (q6 (qp (fun u14 => .bool (decide (t27 > t32))) 43) (by intro _; kernel_rfl)) <|
 .cons [44] (q6 (XF (fun u14 => .bool (decide (t27 > t32))) 44) (by intro _; kernel_rfl)) <|
 .cons [45] (XF (fun u14 => .bool (decide (t27 > t32))) 45) <| .nil) [0, 1, 5, 6, 24, 25, 26, 27, 28, 29, 30, 31, 32, 33, 34, 35, 36, 37, 38, 39, 40, 41, 42, 43, 44, 45, 48, 49] fun u14 a w' H => ?_
       refine Qr H (decide (t27 > t32)) (fun c34 => ?_) fun c34 => ?_
       ·rw [if_pos c34] at G
        refine qN qd H (.v 46 (vI x8) <|
 .v 5 (vI x8) <| .nil) [0, 1, 5, 6, 24, 25, 26, 27, 28, 29, 30, 31, 32, 33, 34, 35, 36, 37, 38, 39, 40, 41, 42, 43, 44, 48, 49] fun u33 a w' H => ?_
        obtain rfl := sj G
        exact H.toM _
       ·rw [if_neg (nt c34)] at G
        refine qT ?_
        obtain rfl := sj G
        exact H.toM _
      rw [if_neg c36] at G
      cases G
     rw [if_neg c22] at G
     by_cases c23 : z21 = false
     ·rw [if_pos c23] at G; subst c23
      refine qN qd H (.v 14 (.slice p_a0 L_a0.length c_a0) <|
 .v 15 (vI x8) <|
 .cons [16] (qp (fun u14 => .pointer (some ⟨XB p_a0, XC p_a0 + x8.toNat * 1, none⟩)) 16 (hv := fun _ _ => QH (t := 25) (k := .i64) (i := x8) (p := p_a0) (n := L_a0.length) (cap := c_a0) (x := a0) P17 (qD h_a0) b15 (by kernel_rfl))) <|
 .cons [17] (qy 48 (Qh qi 1 p_a0 c_a0 L_a0 ql) (.slice p_t16 t16.length c_t16) 17 fun _ w h => Ya ql (qq h).2 qk y_t16 0 1 [.slice p_t16 t16.length c_t16]) <|
 .v 18 (vI a1) <|
 .cons [19] (qy 49 (QA qi qc.toPart L_a0) (.pointer (some ⟨XB p_t16, XC p_t16 + a1.toNat * 2, none⟩)) 19 fun _ w h => YQ 22 .i64 a1 p_t16 t16.length c_t16 t16 qb (show Xv _ 2 p_t16 t16.length c_t16 (t16.flatMap qb) from ((Qb h) _ (List.mem_of_getElem? y_t16)).1).2 qh rfl b18) <|
 .cons [20] (qy 49 (QA qi qc.toPart L_a0) (.agg #[vI t19.Lo, vI t19.Hi]) 20 fun _ w h => Ya qb (show Xv _ 2 p_t16 t16.length c_t16 (t16.flatMap qb) from ((Qb h) _ (List.mem_of_getElem? y_t16)).1).2 qh ht19 0 2 [vI t19.Lo, vI t19.Hi]) <|
 .cons [21] (qo 74 _ _ 21 [] (fun u14 w _ => YM.calls t19  t20 w  ht20)) <|
 .v 22 (.bool (t20 != 0)) <|
 .cons [23] (XO (u' := fun u14 => [(23, sB false)]) (qp (fun u14 => .bool (t20 != 0)) 23) (fun _ => by rw [hz21])) <|
 .cons [24] (QB 24) <|
 .cons [25] (QB 25) <|
 .cons [26] (QB 26) <|
 .cons [27] (QB 27) <|
 .cons [28] (QB 28) <|
 .cons [29] (QB 29) <|
 .cons [30] (QB 30) <|
 .cons [31] (QB 31) <|
 .cons [32] (QB 32) <|
 .cons [33] (QB 33) <|
 .cons [34] (QB 34) <|
 .cons [35] (QB 35) <|
 .cons [36] (QB 36) <|
 .cons [37] (QB 37) <|
 .cons [38] (QB 38) <|
 .cons [39] (QB 39) <|
 .cons [40] (QB 40) <|
 .cons [41] (QB 41) <|
 .cons [42] (QB 42) <|
 .cons [43] (QB 43) <|
 .cons [44] (QB 44) <|
 .cons [45] (XF (fun u14 => .bool false) 45) <| .nil) [0, 1, 5, 6, 24, 25, 26, 27, 28, 29, 30, 31, 32, 33, 34, 35, 36, 37, 38, 39, 40, 41, 42, 43, 44, 45, 48, 49] fun u14 a w' H => ?_
      refine VU H (by kernel_rfl) (by kernel_rfl) ?_
      refine qT ?_
      obtain rfl := sj G
      exact H.toM _
     rw [if_neg c23] at G
     cases G
   ·rw [if_neg (nt c24)] at G
    refine QO rfl ?_
    obtain rfl := sj G
    exact H.toM _
theorem Yx.calls (a0 : qa) (a1 : Int) (r : Bool) (w : World) (G : Yx a0 a1 = some r) :
  Calls Tryz.prog 76 #[.agg #[vI a0.Lo, vI a0.Hi], vI a1] w fun e w' => e = .returned (.bool r) ∧ Below w.heap.size w w' := by
 refine Q4 (args := [.agg #[vI a0.Lo, vI a0.Hi], vI a1]) 19 Tryz.func76 rfl (by kernel_rfl) (by kernel_rfl) fun a H => ?_
 unfold Yx at G
 refine qg qd H (.cons [2, 19] (qH (fun b => vP b 0) (fun u1 => [vI a0.Lo, vI a0.Hi]) 48 2 19) <|
 .v 4 (.bool false) <| .nil) [1, 2, 19] fun u1 a w' H => ?_
 obtain ⟨t3, ht3, G⟩ := qP G
 refine qg qd H (.cons [5] (qv (.agg #[vI a0.Lo, vI a0.Hi]) 5 19 0 2 ((u1 0).n 0) [vI a0.Lo, vI a0.Hi] 48) <|
 .cons [6] (qo 42 _ _ 6 [] (fun u2 w _ => Qz.calls a0  t3 w  ht3)) <|
 .v 7 (.bool t3) <|
 .cons [8] (Qc (fun u2 => vP ((u1 0).n 0) 0) (fun u2 => (t3 == false)) [true] 8) <|
 .cons [9] (Zc (fun u2 => vI a0.Lo) (fun u2 => (t3 == false)) [false] 9 19 0 1 (fun u2 => ((u1 0).n 0)) (fun u2 => [vI a0.Lo, vI a0.Hi]) 48) <|
 .cons [10] (Qc (fun u2 => vI a1) (fun u2 => (t3 == false)) [true] 10) <|
 .cons [11] (Qc (fun u2 => .bool (decide (a0.Lo ≤ a1))) (fun u2 => (t3 == false)) [false, false] 11) <|
 .cons [12] (Qc (fun u2 => .bool (decide (a0.Lo ≤ a1))) (fun u2 => (t3 == false)) [false] 12) <|
 .cons [13] (Qc (fun u2 => vI a1) (fun u2 => ((t3 == false) && ((decide (a0.Lo ≤ a1)) == true))) [true] 13) <|
 .cons [14] (Qc (fun u2 => vP ((u1 0).n 0) 1) (fun u2 => ((t3 == false) && ((decide (a0.Lo ≤ a1)) == true))) [true] 14) <|
 .cons [15] (Zc (fun u2 => vI a0.Hi) (fun u2 => ((t3 == false) && ((decide (a0.Lo ≤ a1)) == true))) [false] 15 19 1 1 (fun u2 => ((u1 0).n 0)) (fun u2 => [vI a0.Lo, vI a0.Hi]) 48) <|
 .cons [16] (Qc (fun u2 => .bool (decide (a1 ≤ a0.Hi))) (fun u2 => ((t3 == false) && ((decide (a0.Lo ≤ a1)) == true))) [false, false] 16) <|
 .cons [17] (Y9 12 16 (fun u2 => (t3 == false)) (fun u2 => (t3 == false)) (fun u2 => decide (a0.Lo ≤ a1)) (fun u2 => decide (a1 ≤ a0.Hi)) 17) <|
 .cons [18] (Zt 7 17 (fun u2 => true) (fun u2 => true) (fun u2 => t3) (fun u2 => ((decide (a0.Lo ≤ a1)) && (decide (a1 ≤ a0.Hi)))) 18) <|
 .v 4 (.bool (t3 || ((decide (a0.Lo ≤ a1)) && (decide (a1 ≤ a0.Hi))))) <| .nil) [4] fun u2 a w' H => ?_
 refine q7 ?_
 obtain rfl := sj G
 exact QG H _ (by kernel_rfl) (by kernel_rfl)
theorem XR.calls (a0 : qa) (r : Int) (w : World) (G : XR a0 = some r) :
  Calls Tryz.prog 78 #[.agg #[vI a0.Lo, vI a0.Hi]] w fun e w' => e = .returned (vI r) ∧ Below w.heap.size w w' := by
 refine Q4 (args := [.agg #[vI a0.Lo, vI a0.Hi]]) 11 Tryz.func78 rfl (by kernel_rfl) (by kernel_rfl) fun a H => ?_
 unfold XR at G
 refine qg qd H (.cons [1, 11] (qH (fun b => vP b 0) (fun u1 => [vI a0.Lo, vI a0.Hi]) 48 1 11) <|
 .v 2 (vI 0) <| .nil) [1, 11] fun u1 a w' H => ?_
 refine qs ?_
 refine qA ?_
 refine qg qd H (.v 4 (vP ((u1 0).n 0) 1) <|
 .cons [5] (qv (vI a0.Hi) 5 11 1 1 ((u1 0).n 0) [vI a0.Lo, vI a0.Hi] 48) <|
 .v 6 (.bool (decide (a0.Hi ≤ 0))) <|
 .v 3 (.bool (decide (a0.Hi ≤ 0))) <| .nil) [1, 3, 11] fun u2 a w' H => ?_
 refine Qr H (decide (a0.Hi ≤ 0)) (fun c8 => ?_) fun c8 => ?_
 ·rw [if_pos c8] at G
  refine qg qd H (.v 2 (vI 0) <| .nil) [2] fun u3 a w' H => ?_
  refine q7 ?_
  obtain rfl := sj G
  exact QG H _ (by kernel_rfl) (by kernel_rfl)
 ·rw [if_neg (nt c8)] at G
  refine qg qd H (.v 8 (vP ((u1 0).n 0) 0) <|
 .cons [9] (qv (vI a0.Lo) 9 11 0 1 ((u1 0).n 0) [vI a0.Lo, vI a0.Hi] 48) <|
 .v 10 (.bool (decide (a0.Lo ≥ 0))) <|
 .v 7 (.bool (decide (a0.Lo ≥ 0))) <| .nil) [7] fun u4 a w' H => ?_
  refine Qr H (decide (a0.Lo ≥ 0)) (fun c7 => ?_) fun c7 => ?_
  ·rw [if_pos c7] at G
   refine qg qd H (.v 2 (vI 2) <| .nil) [2] fun u5 a w' H => ?_
   refine q7 ?_
   obtain rfl := sj G
   exact QG H _ (by kernel_rfl) (by kernel_rfl)
  ·rw [if_neg (nt c7)] at G
   refine qT ?_
   refine qg qd H (.v 2 (vI 1) <| .nil) [2] fun u6 a w' H => ?_
   refine q7 ?_
   obtain rfl := sj G
   exact QG H _ (by kernel_rfl) (by kernel_rfl)
theorem Zh.calls (a0 : Int) (r : Int) (w : World) (G : Zh a0 = some r) :
  Calls Tryz.prog 102 #[vI a0] w fun e w' => e = .returned (vI r) ∧ Below w.heap.size w w' := by
 refine Q4 (args := [vI a0]) 5 Tryz.func102 rfl (by kernel_rfl) (by kernel_rfl) fun a H => ?_
 unfold Zh at G
 refine qg qd H (.v 2 (vI 0) <| .nil) [0] fun u1 a w' H => ?_
 refine qg qd H (.v 3 (vI a0) <|
 .v 4 (vI (mn a0 1)) <|
 .v 2 (vI (mn a0 1)) <| .nil) [2] fun u2 a w' H => ?_
 refine q7 ?_
 obtain rfl := sj G
 exact QG H _ (by kernel_rfl) (by kernel_rfl)
theorem XH.calls (a0 : Int) (a1 : Int) (r : Int × Int) (w : World) (G : XH a0 a1 = some r) :
  Calls Tryz.prog 101 #[vI a0, vI a1, .func (.func 102) #[] #[]] w fun e w' => e = .returned (.tuple #[vI r.1, vI r.2]) ∧ Below w.heap.size w w' := by
 refine Q4 (args := [vI a0, vI a1, .func (.func 102) #[] #[]]) 29 Tryz.func101 rfl (by kernel_rfl) (by kernel_rfl) fun a H => ?_
 unfold XH at G
 refine qg qd H (.v 6 (vI 0) <|
 .v 7 (vI 0) <| .nil) [0, 1, 2] fun u1 a w' H => ?_
 refine qs ?_
 replace G := gd G; obtain ⟨n3, G⟩ := G
 replace G := gd G; obtain ⟨n4, G⟩ := G
 refine qN qd H (.v 10 (vI a0) <|
 .v 11 (vI a1) <|
 .cons [12] (qp (fun u2 => vI (qe (Int.tdiv a0 a1))) 12 (hv := fun _ _ => Zz (by kernel_rfl) (qa8 (k := .i64) (x := a0) (y := a1) n3))) <|
 .v 13 (vI a0) <|
 .v 14 (vI a1) <|
 .cons [15] (qp (fun u2 => vI (Int.tmod a0 a1)) 15 (hv := fun _ _ => Zz (by kernel_rfl) (qbh (k := .i64) (x := a0) (y := a1) n4))) <|
 .v 8 (vI (qe (Int.tdiv a0 a1))) <|
 .v 9 (vI (Int.tmod a0 a1)) <| .nil) [1, 2, 8, 9] fun u2 a w' H => ?_
 refine qs ?_
 obtain ⟨j7, hj7, G⟩ := qP G
 refine Qw (fun a w' => RL w 29 [(2, .slot true (.func (.func 102) #[] #[])), (8, sI j7.1), (9, sI j7.2)] a w') ?_ ?_
 ·clear H; intro a w' H
  obtain ⟨t9, ht9, G⟩ := qP G
  refine qg qd H (.v 23 (vI j7.1) <|
 .v 24 (vI j7.1) <|
 .v 25 (.func (.func 102) #[] #[]) <|
 .v 26 (vI j7.2) <|
 .cons [27] (qo 102 _ _ 27 [] (fun u8 w _ => Zh.calls j7.2  t9 w  ht9)) <|
 .v 28 (vI (qe (j7.1 + t9))) <|
 .v 6 (vI j7.1) <|
 .v 7 (vI (qe (j7.1 + t9))) <| .nil) [6, 7] fun u8 a w' H => ?_
  refine q7 ?_
  obtain rfl := sj G
  exact QG H _ (by kernel_rfl) (by kernel_rfl)
 ·clear G; replace G := hj7; clear hj7
  refine qg qd H (.v 16 (vI (Int.tmod a0 a1)) <|
 .v 17 (.bool (decide ((Int.tmod a0 a1) < 0))) <| .nil) [1, 2, 8, 9, 17] fun u10 a w' H => ?_
  refine Qr H (decide ((Int.tmod a0 a1) < 0)) (fun c12 => ?_) fun c12 => ?_
  ·rw [if_pos c12] at G
   refine qN qd H (.v 18 (vI (qe (Int.tdiv a0 a1))) <|
 .v 19 (vI (qe ((qe (Int.tdiv a0 a1)) - 1))) <|
 .v 20 (vI (Int.tmod a0 a1)) <|
 .v 21 (vI a1) <|
 .v 22 (vI (qe ((Int.tmod a0 a1) + a1))) <|
 .v 8 (vI (qe ((qe (Int.tdiv a0 a1)) - 1))) <|
 .v 9 (vI (qe ((Int.tmod a0 a1) + a1))) <| .nil) [2, 8, 9] fun u11 a w' H => ?_
   obtain rfl := sj G
   exact H.toM _
  ·rw [if_neg (nt c12)] at G
   refine qT ?_
   obtain rfl := sj G
   exact H.toM _
theorem Yp.calls (a0 : Int) (a1 : Int) (r : Int × Int) (w : World) (G : Yp a0 a1 = some r) :
  Calls Tryz.prog 97 #[vI a0, vI a1] w fun e w' => e = .returned (.tuple #[vI r.1, vI r.2]) ∧ Below w.heap.size w w' := by
 refine Q4 (args := [vI a0, vI a1]) 17 Tryz.func97 rfl (by kernel_rfl) (by kernel_rfl) fun a H => ?_
 unfold Yp at G
 refine qg qd H (.v 4 (vI 0) <|
 .v 5 (vI 0) <| .nil) [0, 1] fun u1 a w' H => ?_
 refine qs ?_
 obtain ⟨j4, hj4, G⟩ := qP G
 refine Qw (fun a w' => RL w 17 [(0, sI j4.1), (1, sI j4.2)] a w') ?_ ?_
 ·clear H; intro a w' H
  obtain ⟨t6, ht6, G⟩ := qP G
  refine qg qd H (.v 12 (vI j4.1) <|
 .v 13 (vI j4.2) <|
 .cons [14] (qo 101 _ _ 14 [] (fun u5 w _ => XH.calls j4.1 j4.2  t6 w  ht6)) <|
 .v 15 (vI t6.1) <|
 .v 16 (vI t6.2) <|
 .v 4 (vI t6.1) <|
 .v 5 (vI t6.2) <| .nil) [4, 5] fun u5 a w' H => ?_
  refine q7 ?_
  obtain rfl := sj G
  exact QG H _ (by kernel_rfl) (by kernel_rfl)
 ·clear G; replace G := hj4; clear hj4
  refine qg qd H (.v 6 (vI a1) <|
 .v 7 (.bool (decide (a1 < 0))) <| .nil) [0, 1, 7] fun u7 a w' H => ?_
  refine Qr H (decide (a1 < 0)) (fun c9 => ?_) fun c9 => ?_
  ·rw [if_pos c9] at G
   refine qN qd H (.v 8 (vI a0) <|
 .v 9 (vI (qe (0 - a0))) <|
 .v 10 (vI a1) <|
 .v 11 (vI (qe (0 - a1))) <|
 .v 0 (vI (qe (0 - a0))) <|
 .v 1 (vI (qe (0 - a1))) <| .nil) [0, 1] fun u8 a w' H => ?_
   obtain rfl := sj G
   exact H.toM _
  ·rw [if_neg (nt c9)] at G
   refine qT ?_
   obtain rfl := sj G
   exact H.toM _
theorem Xu.calls (a0 : Int) (a1 : Int) (r : Int × Int × Int) (w : World) (G : Xu a0 a1 = some r) :
  Calls Tryz.prog 80 #[vI a0, vI a1] w fun e w' => e = .returned (.tuple #[vI r.1, vI r.2.1, vI r.2.2]) ∧ Below w.heap.size w w' := by
 refine Q4 (args := [vI a0, vI a1]) 20 Tryz.func80 rfl (by kernel_rfl) (by kernel_rfl) fun a H => ?_
 unfold Xu at G
 refine qg qd H (.v 4 (vI 0) <|
 .v 5 (vI 0) <|
 .v 6 (vI 0) <| .nil) [0, 1] fun u1 a w' H => ?_
 refine qs ?_
 refine qg qd H (.v 9 (vI a1) <|
 .v 10 (.bool (a1 == 0)) <| .nil) [0, 1, 10] fun u2 a w' H => ?_
 refine Qr H (a1 == 0) (fun c7 => ?_) fun c7 => ?_
 ·rw [if_pos c7] at G
  refine qg qd H (.v 4 (vI 0) <|
 .v 5 (vI 0) <|
 .v 6 (vI 3) <| .nil) [4, 5, 6] fun u3 a w' H => ?_
  refine q7 ?_
  obtain rfl := sj G
  exact QG H _ (by kernel_rfl) (by kernel_rfl)
 ·rw [if_neg (nt c7)] at G
  refine qT ?_
  obtain ⟨t5, ht5, G⟩ := qP G
  refine qg qd H (.v 12 (vI a0) <|
 .v 13 (vI (qe (a0 * 65536))) <|
 .v 14 (vI a1) <|
 .cons [15] (qo 97 _ _ 15 [] (fun u4 w _ => Yp.calls (qe (a0 * 65536)) a1  t5 w  ht5)) <|
 .v 11 (.tuple #[vI t5.1, vI t5.2]) <|
 .v 16 (vI t5.1) <|
 .v 17 (vI t5.2) <|
 .v 7 (vI t5.1) <|
 .v 8 (vI t5.2) <| .nil) [7, 8] fun u4 a w' H => ?_
  refine qg qd H (.v 18 (vI t5.1) <|
 .v 19 (vI t5.2) <|
 .v 4 (vI t5.1) <|
 .v 5 (vI t5.2) <|
 .v 6 (vI 0) <| .nil) [4, 5, 6] fun u6 a w' H => ?_
  refine q7 ?_
  obtain rfl := sj G
  exact QG H _ (by kernel_rfl) (by kernel_rfl)
theorem XK.calls (a0 : qa) (a1 : qa) (r : Int × Int) (w : World) (G : XK a0 a1 = some r) :
  Calls Tryz.prog 121 #[.agg #[vI a0.Lo, vI a0.Hi], .agg #[vI a1.Lo, vI a1.Hi]] w fun e w' => e = .returned (.tuple #[vI r.1, vI r.2]) ∧ Below w.heap.size w w' := by
 refine Q4 (args := [.agg #[vI a0.Lo, vI a0.Hi], .agg #[vI a1.Lo, vI a1.Hi]]) 10 Tryz.func121 rfl (by kernel_rfl) (by kernel_rfl) fun a H => ?_
 unfold XK at G
 refine qg qd H (.cons [2, 10] (qH (fun b => vP b 0) (fun u1 => [vI a0.Lo, vI a0.Hi]) 48 2 10) <|
 .cons [3, 11] (qH (fun b => vP b 0) (fun u1 => [vI a1.Lo, vI a1.Hi]) 48 3 11) <|
 .v 4 (vI 0) <|
 .v 5 (vI 0) <| .nil) [2, 3, 10, 11] fun u1 a w' H => ?_
 refine qg qd H (.v 6 (vP ((u1 0).n 0) 1) <|
 .cons [7] (qv (vI a0.Hi) 7 10 1 1 ((u1 0).n 0) [vI a0.Lo, vI a0.Hi] 48) <|
 .v 8 (vP ((u1 1).n 0) 0) <|
 .cons [9] (qv (vI a1.Lo) 9 11 0 1 ((u1 1).n 0) [vI a1.Lo, vI a1.Hi] 48) <|
 .v 4 (vI a0.Hi) <|
 .v 5 (vI a1.Lo) <| .nil) [4, 5] fun u2 a w' H => ?_
 refine q7 ?_
 obtain rfl := sj G
 exact QG H _ (by kernel_rfl) (by kernel_rfl)
theorem XL.calls (a0 : qa) (a1 : qa) (r : Int × Int) (w : World) (G : XL a0 a1 = some r) :
  Calls Tryz.prog 122 #[.agg #[vI a0.Lo, vI a0.Hi], .agg #[vI a1.Lo, vI a1.Hi]] w fun e w' => e = .returned (.tuple #[vI r.1, vI r.2]) ∧ Below w.heap.size w w' := by
 refine Q4 (args := [.agg #[vI a0.Lo, vI a0.Hi], .agg #[vI a1.Lo, vI a1.Hi]]) 10 Tryz.func122 rfl (by kernel_rfl) (by kernel_rfl) fun a H => ?_
 unfold XL at G
 refine qg qd H (.cons [2, 10] (qH (fun b => vP b 0) (fun u1 => [vI a0.Lo, vI a0.Hi]) 48 2 10) <|
 .cons [3, 11] (qH (fun b => vP b 0) (fun u1 => [vI a1.Lo, vI a1.Hi]) 48 3 11) <|
 .v 4 (vI 0) <|
 .v 5 (vI 0) <| .nil) [2, 3, 10, 11] fun u1 a w' H => ?_
 refine qg qd H (.v 6 (vP ((u1 0).n 0) 0) <|
 .cons [7] (qv (vI a0.Lo) 7 10 0 1 ((u1 0).n 0) [vI a0.Lo, vI a0.Hi] 48) <|
 .v 8 (vP ((u1 1).n 0) 1) <|
 .cons [9] (qv (vI a1.Hi) 9 11 1 1 ((u1 1).n 0) [vI a1.Lo, vI a1.Hi] 48) <|
 .v 4 (vI a0.Lo) <|
 .v 5 (vI a1.Hi) <| .nil) [4, 5] fun u2 a w' H => ?_
 refine q7 ?_
 obtain rfl := sj G
 exact QG H _ (by kernel_rfl) (by kernel_rfl)
theorem XN.calls (a0 : qa) (a1 : qa) (r : Int × Int) (w : World) (G : XN a0 a1 = some r) :
  Calls Tryz.prog 123 #[.agg #[vI a0.Lo, vI a0.Hi], .agg #[vI a1.Lo, vI a1.Hi]] w fun e w' => e = .returned (.tuple #[vI r.1, vI r.2]) ∧ Below w.heap.size w w' := by
 refine Q4 (args := [.agg #[vI a0.Lo, vI a0.Hi], .agg #[vI a1.Lo, vI a1.Hi]]) 10 Tryz.func123 rfl (by kernel_rfl) (by kernel_rfl) fun a H => ?_
 unfold XN at G
 refine qg qd H (.cons [2, 10] (qH (fun b => vP b 0) (fun u1 => [vI a0.Lo, vI a0.Hi]) 48 2 10) <|
 .cons [3, 11] (qH (fun b => vP b 0) (fun u1 => [vI a1.Lo, vI a1.Hi]) 48 3 11) <|
 .v 4 (vI 0) <|
 .v 5 (vI 0) <| .nil) [2, 3, 10, 11] fun u1 a w' H => ?_
 refine qg qd H (.v 6 (vP ((u1 0).n 0) 0) <|
 .cons [7] (qv (vI a0.Lo) 7 10 0 1 ((u1 0).n 0) [vI a0.Lo, vI a0.Hi] 48) <|
 .v 8 (vP ((u1 1).n 0) 0) <|
 .cons [9] (qv (vI a1.Lo) 9 11 0 1 ((u1 1).n 0) [vI a1.Lo, vI a1.Hi] 48) <|
 .v 4 (vI a0.Lo) <|
 .v 5 (vI a1.Lo) <| .nil) [4, 5] fun u2 a w' H => ?_
 refine q7 ?_
 obtain rfl := sj G
 exact QG H _ (by kernel_rfl) (by kernel_rfl)
theorem XM.calls (a0 : qa) (a1 : qa) (r : Int × Int) (w : World) (G : XM a0 a1 = some r) :
  Calls Tryz.prog 124 #[.agg #[vI a0.Lo, vI a0.Hi], .agg #[vI a1.Lo, vI a1.Hi]] w fun e w' => e = .returned (.tuple #[vI r.1, vI r.2]) ∧ Below w.heap.size w w' := by
 refine Q4 (args := [.agg #[vI a0.Lo, vI a0.Hi], .agg #[vI a1.Lo, vI a1.Hi]]) 10 Tryz.func124 rfl (by kernel_rfl) (by kernel_rfl) fun a H => ?_
 unfold XM at G
 refine qg qd H (.cons [2, 10] (qH (fun b => vP b 0) (fun u1 => [vI a0.Lo, vI a0.Hi]) 48 2 10) <|
 .cons [3, 11] (qH (fun b => vP b 0) (fun u1 => [vI a1.Lo, vI a1.Hi]) 48 3 11) <|
 .v 4 (vI 0) <|
 .v 5 (vI 0) <| .nil) [2, 3, 10, 11] fun u1 a w' H => ?_
 refine qg qd H (.v 6 (vP ((u1 0).n 0) 1) <|
 .cons [7] (qv (vI a0.Hi) 7 10 1 1 ((u1 0).n 0) [vI a0.Lo, vI a0.Hi] 48) <|
 .v 8 (vP ((u1 1).n 0) 1) <|
 .cons [9] (qv (vI a1.Hi) 9 11 1 1 ((u1 1).n 0) [vI a1.Lo, vI a1.Hi] 48) <|
 .v 4 (vI a0.Hi) <|
 .v 5 (vI a1.Hi) <| .nil) [4, 5] fun u2 a w' H => ?_
 refine q7 ?_
 obtain rfl := sj G
 exact QG H _ (by kernel_rfl) (by kernel_rfl)
theorem Xz.calls (a0 : qa) (a1 : qa) (r : qa) (w : World) (hg : Wn w) (G : Xz a0 a1 = some r) :
  Calls Tryz.prog 39 #[.agg #[vI a0.Lo, vI a0.Hi], .agg #[vI a1.Lo, vI a1.Hi]] w fun e w' => e = .returned (.agg #[vI r.Lo, vI r.Hi]) ∧ Below w.heap.size w w' := by
 refine WZ (args := [.agg #[vI a0.Lo, vI a0.Hi], .agg #[vI a1.Lo, vI a1.Hi]]) 59 999999 Wb Wn (JR hg) (ZV hg) Tryz.func39 rfl (by kernel_rfl) (by kernel_rfl) fun a H => ?_
 unfold Xz at G
 refine qg qd H (.cons [2, 59] (qH (fun b => vP b 0) (fun u1 => [vI a0.Lo, vI a0.Hi]) 48 2 59) <|
 .cons [3, 60] (qH (fun b => vP b 0) (fun u1 => [vI a1.Lo, vI a1.Hi]) 48 3 60) <|
 .cons [4, 61] (qH (fun b => vP b 0) (fun u1 => [vI 0, vI 0]) 48 4 61) <| .nil) [2, 3, 4, 59, 60, 61, 999999] fun u1 a w' H => ?_
 refine qs ?_
 replace G := qP G; obtain ⟨t3, ht3, G⟩ := G
 replace G := qP G; obtain ⟨t4, ht4, G⟩ := G
 replace G := qP G; obtain ⟨t5, ht5, G⟩ := G
 refine qg qd H (.cons [12] (qv (.agg #[vI a0.Lo, vI a0.Hi]) 12 59 0 2 ((u1 0).n 0) [vI a0.Lo, vI a0.Hi] 48) <|
 .cons [13] (qo 42 _ _ 13 [] (fun u2 w _ => Qz.calls a0  t3 w  ht3)) <|
 .v 14 (.bool t3) <|
 .cons [15] (Zc (fun u2 => .agg #[vI a1.Lo, vI a1.Hi]) (fun u2 => (t3 == false)) [true] 15 60 0 2 (fun u2 => ((u1 1).n 0)) (fun u2 => [vI a1.Lo, vI a1.Hi]) 48) <|
 .cons [16] (Zi 42 (fun u2 => #[.agg #[vI a1.Lo, vI a1.Hi]]) (.bool t4) (fun u2 => (t3 == false)) [true, false] 16 [] (fun u2 w hg _ => Qz.calls a1  t4 w  (ifp ht4 hg))) <|
 .cons [17] (Zt 14 16 (fun u2 => true) (fun u2 => true) (fun u2 => t3) (fun u2 => t4) 17) <|
 .v 18 (.bool (t3 || t4)) <|
 .cons [19] (Zc (fun u2 => .agg #[vI a1.Lo, vI a1.Hi]) (fun u2 => ((t3 || t4) == false)) [true] 19 60 0 2 (fun u2 => ((u1 1).n 0)) (fun u2 => [vI a1.Lo, vI a1.Hi]) 48) <|
 .cons [20] (Zi 76 (fun u2 => #[.agg #[vI a1.Lo, vI a1.Hi], vI 0]) (.bool t5) (fun u2 => ((t3 || t4) == false)) [true, false, true] 20 [] (fun u2 w hg _ => Yx.calls a1 0  t5 w  (ifp ht5 hg))) <|
 .cons [21] (Zt 18 20 (fun u2 => true) (fun u2 => true) (fun u2 => (t3 || t4)) (fun u2 => t5) 21) <| .nil) [2, 3, 4, 21, 59, 60, 61, 999999] fun u2 a w' H => ?_
 refine Qr H ((t3 || t4) || t5) (fun c24 => ?_) fun c24 => ?_
 ·rw [if_pos c24] at G
  replace G := qP G; obtain ⟨t7, ht7, G⟩ := G
  refine qg qd H (.cons [22] (qo 77 _ _ 22 [] (fun u6 w _ => XD.calls   t7 w  ht7)) <|
 .cons [61] (QV 61 0 ((u1 2).n 0) [vI 0, vI 0] [vI t7.Lo, vI t7.Hi] 48 [vI t7.Lo, vI t7.Hi]) <| .nil) [4, 61, 999999] fun u6 a w' H => ?_
  refine q7 ?_
  obtain rfl := sj G
  exact Xe H _ 61 ((u1 2).n 0) [vI t7.Lo, vI t7.Hi] 48 0 2 (by kernel_rfl) (by kernel_rfl) (by kernel_rfl) (by kernel_rfl)
 ·rw [if_neg (nt c24)] at G
  refine qT ?_
  refine qs ?_
  replace G := qP G; obtain ⟨t9, ht9, G⟩ := G
  by_cases c21 : t9 = 0
  ·rw [if_pos c21] at G; subst c21
   replace G := qP G; obtain ⟨t10, ht10, G⟩ := G
   by_cases c19 : t10 = 0
   ·rw [if_pos c19] at G; subst c19
    refine qN qd H (.cons [23] (qv (.agg #[vI a0.Lo, vI a0.Hi]) 23 59 0 2 ((u1 0).n 0) [vI a0.Lo, vI a0.Hi] 48) <|
 .cons [24] (qo 78 _ _ 24 [] (fun u8 w _ => XR.calls a0  0 w  ht9)) <|
 .v 25 (vP ((u1 1).n 0) 0) <|
 .cons [26] (qv (vI a1.Lo) 26 60 0 1 ((u1 1).n 0) [vI a1.Lo, vI a1.Hi] 48) <|
 .v 27 (.bool (decide (a1.Lo > 0))) <|
 .cons [28] (qo 79 _ _ 28 [] (fun u8 w _ => Q2.calls (decide (a1.Lo > 0)) 1 0  0 w  ht10)) <|
 .v 29 (vP 0 0) <|
 .v 30 (vP 0 0) <|
 .cons [31] (XX (fun u8 => .agg #[.func (.func 121) #[] #[], .func (.func 122) #[] #[]]) 31 999999 gk 0 0 2 Wt (fun w h => (Yc h).tab0)) <|
 .cons [5, 62] (qH (fun b => vP b 0) (fun u8 => [.nilFunc, .nilFunc]) 84 5 62) <|
 .cons [62] (XO (u' := fun u8 => [(62, .blk ((u8 9).n 0) [.func (.func 121) #[] #[], .func (.func 122) #[] #[]] 84)]) (X1 62 0 (fun u8 => ((u8 9).n 0)) (fun u8 => [.nilFunc, .nilFunc]) (fun u8 => [.func (.func 121) #[] #[], .func (.func 122) #[] #[]]) 84) (fun _ => by kernel_rfl)) <| .nil) [2, 3, 4, 5, 59, 60, 61, 62, 999999] fun u8 a w' H => ?_
    replace G := qP G; obtain ⟨t12, ht12, G⟩ := G
    replace G := qP G; obtain ⟨t13, ht13, G⟩ := G
    refine qg qd H (.v 33 (vP ((u8 9).n 0) 0) <|
 .cons [34] (qv (.func (.func 121) #[] #[]) 34 62 0 1 ((u8 9).n 0) [.func (.func 121) #[] #[], .func (.func 122) #[] #[]] 84) <|
 .cons [35] (qv (.agg #[vI a0.Lo, vI a0.Hi]) 35 59 0 2 ((u1 0).n 0) [vI a0.Lo, vI a0.Hi] 48) <|
 .cons [36] (qv (.agg #[vI a1.Lo, vI a1.Hi]) 36 60 0 2 ((u1 1).n 0) [vI a1.Lo, vI a1.Hi] 48) <|
 .cons [37] (qo 121 _ _ 37 [] (fun u11 w _ => XK.calls a0 a1  t12 w  ht12)) <|
 .v 38 (vI t12.1) <|
 .v 39 (vI t12.2) <|
 .cons [40] (qo 80 _ _ 40 [] (fun u11 w _ => Xu.calls t12.1 t12.2  t13 w  ht13)) <|
 .v 32 (.tuple #[vI t13.1, vI t13.2.1, vI t13.2.2]) <|
 .v 41 (vI t13.1) <|
 .v 42 (vI t13.2.1) <|
 .v 43 (vI t13.2.2) <|
 .v 6 (vI t13.1) <|
 .v 7 (vI t13.2.1) <|
 .v 8 (vI t13.2.2) <| .nil) [2, 3, 4, 5, 6, 59, 60, 61, 62, 999999] fun u11 a w' H => ?_
    replace G := qP G; obtain ⟨t15, ht15, G⟩ := G
    replace G := qP G; obtain ⟨t16, ht16, G⟩ := G
    refine qg qd H (.v 45 (vP ((u8 9).n 0) 1) <|
 .cons [46] (qv (.func (.func 122) #[] #[]) 46 62 1 1 ((u8 9).n 0) [.func (.func 121) #[] #[], .func (.func 122) #[] #[]] 84) <|
 .cons [47] (qv (.agg #[vI a0.Lo, vI a0.Hi]) 47 59 0 2 ((u1 0).n 0) [vI a0.Lo, vI a0.Hi] 48) <|
 .cons [48] (qv (.agg #[vI a1.Lo, vI a1.Hi]) 48 60 0 2 ((u1 1).n 0) [vI a1.Lo, vI a1.Hi] 48) <|
 .cons [49] (qo 122 _ _ 49 [] (fun u14 w _ => XL.calls a0 a1  t15 w  ht15)) <|
 .v 50 (vI t15.1) <|
 .v 51 (vI t15.2) <|
 .cons [52] (qo 80 _ _ 52 [] (fun u14 w _ => Xu.calls t15.1 t15.2  t16 w  ht16)) <|
 .v 44 (.tuple #[vI t16.1, vI t16.2.1, vI t16.2.2]) <|
 .v 53 (vI t16.1) <|
 .v 54 (vI t16.2.1) <|
 .v 55 (vI t16.2.2) <|
 .v 9 (vI t16.1) <|
 .v 10 (vI t16.2.1) <|
 .v 11 (vI t16.2.2) <| .nil) [4, 6, 10, 61, 999999] fun u14 a w' H => ?_
    replace G := qP G; obtain ⟨t18, ht18, G⟩ := G
    refine qg qd H (.v 56 (vI t13.1) <|
 .v 57 (vI t16.2.1) <|
 .cons [58] (qo 81 _ _ 58 [] (fun u17 w _ => Qx.calls t13.1 t16.2.1  t18 w  ht18)) <|
 .cons [61] (QV 61 0 ((u1 2).n 0) [vI 0, vI 0] [vI t18.Lo, vI t18.Hi] 48 [vI t18.Lo, vI t18.Hi]) <| .nil) [4, 61, 999999] fun u17 a w' H => ?_
    refine q7 ?_
    obtain rfl := sj G
    exact Xe H _ 61 ((u1 2).n 0) [vI t18.Lo, vI t18.Hi] 48 0 2 (by kernel_rfl) (by kernel_rfl) (by kernel_rfl) (by kernel_rfl)
   rw [if_neg c19] at G
   by_cases c20 : t10 = 1
   ·rw [if_pos c20] at G; subst c20
    refine qN qd H (.cons [23] (qv (.agg #[vI a0.Lo, vI a0.Hi]) 23 59 0 2 ((u1 0).n 0) [vI a0.Lo, vI a0.Hi] 48) <|
 .cons [24] (qo 78 _ _ 24 [] (fun u8 w _ => XR.calls a0  0 w  ht9)) <|
 .v 25 (vP ((u1 1).n 0) 0) <|
 .cons [26] (qv (vI a1.Lo) 26 60 0 1 ((u1 1).n 0) [vI a1.Lo, vI a1.Hi] 48) <|
 .v 27 (.bool (decide (a1.Lo > 0))) <|
 .cons [28] (qo 79 _ _ 28 [] (fun u8 w _ => Q2.calls (decide (a1.Lo > 0)) 1 0  1 w  ht10)) <|
 .v 29 (vP 0 0) <|
 .v 30 (vP 0 2) <|
 .cons [31] (XX (fun u8 => .agg #[.func (.func 123) #[] #[], .func (.func 124) #[] #[]]) 31 999999 gk 0 2 2 Wt (fun w h => (Yc h).tab0)) <|
 .cons [5, 62] (qH (fun b => vP b 0) (fun u8 => [.nilFunc, .nilFunc]) 84 5 62) <|
 .cons [62] (XO (u' := fun u8 => [(62, .blk ((u8 9).n 0) [.func (.func 123) #[] #[], .func (.func 124) #[] #[]] 84)]) (X1 62 0 (fun u8 => ((u8 9).n 0)) (fun u8 => [.nilFunc, .nilFunc]) (fun u8 => [.func (.func 123) #[] #[], .func (.func 124) #[] #[]]) 84) (fun _ => by kernel_rfl)) <| .nil) [2, 3, 4, 5, 59, 60, 61, 62, 999999] fun u8 a w' H => ?_
    replace G := qP G; obtain ⟨t12, ht12, G⟩ := G
    replace G := qP G; obtain ⟨t13, ht13, G⟩ := G
    refine qg qd H (.v 33 (vP ((u8 9).n 0) 0) <|
 .cons [34] (qv (.func (.func 123) #[] #[]) 34 62 0 1 ((u8 9).n 0) [.func (.func 123) #[] #[], .func (.func 124) #[] #[]] 84) <|
 .cons [35] (qv (.agg #[vI a0.Lo, vI a0.Hi]) 35 59 0 2 ((u1 0).n 0) [vI a0.Lo, vI a0.Hi] 48) <|
 .cons [36] (qv (.agg #[vI a1.Lo, vI a1.Hi]) 36 60 0 2 ((u1 1).n 0) [vI a1.Lo, vI a1.Hi] 48) <|
 .cons [37] (qo 123 _ _ 37 [] (fun u11 w _ => XN.calls a0 a1  t12 w  ht12)) <|
 .v 38 (vI t12.1) <|
 .v 39 (vI t12.2) <|
 .cons [40] (qo 80 _ _ 40 [] (fun u11 w _ => Xu.calls t12.1 t12.2  t13 w  ht13)) <|
 .v 32 (.tuple #[vI t13.1, vI t13.2.1, vI t13.2.2]) <|
 .v 41 (vI t13.1) <|
 .v 42 (vI t13.2.1) <|
 .v 43 (vI t13.2.2) <|
 .v 6 (vI t13.1) <|
 .v 7 (vI t13.2.1) <|
 .v 8 (vI t13.2.2) <| .nil) [2, 3, 4, 5, 6, 59, 60, 61, 62, 999999] fun u11 a w' H => ?_
    replace G := qP G; obtain ⟨t15, ht15, G⟩ := G
    replace G := qP G; obtain ⟨t16, ht16, G⟩ := G
    refine qg qd H (.v 45 (vP ((u8 9).n 0) 1) <|
 .cons [46] (qv (.func (.func 124) #[] #[]) 46 62 1 1 ((u8 9).n 0) [.func (.func 123) #[] #[], .func (.func 124) #[] #[]] 84) <|
 .cons [47] (qv (.agg #[vI a0.Lo, vI a0.Hi]) 47 59 0 2 ((u1 0).n 0) [vI a0.Lo, vI a0.Hi] 48) <|
 .cons [48] (qv (.agg #[vI a1.Lo, vI a1.Hi]) 48 60 0 2 ((u1 1).n 0) [vI a1.Lo, vI a1.Hi] 48) <|
 .cons [49] (qo 124 _ _ 49 [] (fun u14 w _ => XM.calls a0 a1  t15 w  ht15)) <|
 .v 50 (vI t15.1) <|
 .v 51 (vI t15.2) <|
 .cons [52] (qo 80 _ _ 52 [] (fun u14 w _ => Xu.calls t15.1 t15.2  t16 w  ht16)) <|
 .v 44 (.tuple #[vI t16.1, vI t16.2.1, vI t16.2.2]) <|
 .v 53 (vI t16.1) <|
 .v 54 (vI t16.2.1) <|
 .v 55 (vI t16.2.2) <|
 .v 9 (vI t16.1) <|
 .v 10 (vI t16.2.1) <|
 .v 11 (vI t16.2.2) <| .nil) [4, 6, 10, 61, 999999] fun u14 a w' H => ?_
    replace G := qP G; obtain ⟨t18, ht18, G⟩ := G
    refine qg qd H (.v 56 (vI t13.1) <|
 .v 57 (vI t16.2.1) <|
 .cons [58] (qo 81 _ _ 58 [] (fun u17 w _ => Qx.calls t13.1 t16.2.1  t18 w  ht18)) <|
 .cons [61] (QV 61 0 ((u1 2).n 0) [vI 0, vI 0] [vI t18.Lo, vI t18.Hi] 48 [vI t18.Lo, vI t18.Hi]) <| .nil) [4, 61, 999999] fun u17 a w' H => ?_
    refine q7 ?_
    obtain rfl := sj G
    exact Xe H _ 61 ((u1 2).n 0) [vI t18.Lo, vI t18.Hi] 48 0 2 (by kernel_rfl) (by kernel_rfl) (by kernel_rfl) (by kernel_rfl)
   rw [if_neg c20] at G
   cases G
  rw [if_neg c21] at G
  by_cases c22 : t9 = 1
  ·rw [if_pos c22] at G; subst c22
   replace G := qP G; obtain ⟨t10, ht10, G⟩ := G
   by_cases c19 : t10 = 0
   ·rw [if_pos c19] at G; subst c19
    refine qN qd H (.cons [23] (qv (.agg #[vI a0.Lo, vI a0.Hi]) 23 59 0 2 ((u1 0).n 0) [vI a0.Lo, vI a0.Hi] 48) <|
 .cons [24] (qo 78 _ _ 24 [] (fun u8 w _ => XR.calls a0  1 w  ht9)) <|
 .v 25 (vP ((u1 1).n 0) 0) <|
 .cons [26] (qv (vI a1.Lo) 26 60 0 1 ((u1 1).n 0) [vI a1.Lo, vI a1.Hi] 48) <|
 .v 27 (.bool (decide (a1.Lo > 0))) <|
 .cons [28] (qo 79 _ _ 28 [] (fun u8 w _ => Q2.calls (decide (a1.Lo > 0)) 1 0  0 w  ht10)) <|
 .v 29 (vP 0 4) <|
 .v 30 (vP 0 4) <|
 .cons [31] (XX (fun u8 => .agg #[.func (.func 124) #[] #[], .func (.func 122) #[] #[]]) 31 999999 gk 0 4 2 Wt (fun w h => (Yc h).tab0)) <|
 .cons [5, 62] (qH (fun b => vP b 0) (fun u8 => [.nilFunc, .nilFunc]) 84 5 62) <|
 .cons [62] (XO (u' := fun u8 => [(62, .blk ((u8 9).n 0) [.func (.func 124) #[] #[], .func (.func 122) #[] #[]] 84)]) (X1 62 0 (fun u8 => ((u8 9).n 0)) (fun u8 => [.nilFunc, .nilFunc]) (fun u8 => [.func (.func 124) #[] #[], .func (.func 122) #[] #[]]) 84) (fun _ => by kernel_rfl)) <| .nil) [2, 3, 4, 5, 59, 60, 61, 62, 999999] fun u8 a w' H => ?_
    replace G := qP G; obtain ⟨t12, ht12, G⟩ := G
    replace G := qP G; obtain ⟨t13, ht13, G⟩ := G
    refine qg qd H (.v 33 (vP ((u8 9).n 0) 0) <|
 .cons [34] (qv (.func (.func 124) #[] #[]) 34 62 0 1 ((u8 9).n 0) [.func (.func 124) #[] #[], .func (.func 122) #[] #[]] 84) <|
 .cons [35] (qv (.agg #[vI a0.Lo, vI a0.Hi]) 35 59 0 2 ((u1 0).n 0) [vI a0.Lo, vI a0.Hi] 48) <|
 .cons [36] (qv (.agg #[vI a1.Lo, vI a1.Hi]) 36 60 0 2 ((u1 1).n 0) [vI a1.Lo, vI a1.Hi] 48) <|
 .cons [37] (qo 124 _ _ 37 [] (fun u11 w _ => XM.calls a0 a1  t12 w  ht12)) <|
 .v 38 (vI t12.1) <|
 .v 39 (vI t12.2) <|
 .cons [40] (qo 80 _ _ 40 [] (fun u11 w _ => Xu.calls t12.1 t12.2  t13 w  ht13)) <|
 .v 32 (.tuple #[vI t13.1, vI t13.2.1, vI t13.2.2]) <|
 .v 41 (vI t13.1) <|
 .v 42 (vI t13.2.1) <|
 .v 43 (vI t13.2.2) <|
 .v 6 (vI t13.1) <|
 .v 7 (vI t13.2.1) <|
 .v 8 (vI t13.2.2) <| .nil) [2, 3, 4, 5, 6, 59, 60, 61, 62, 999999] fun u11 a w' H => ?_
    replace G := qP G; obtain ⟨t15, ht15, G⟩ := G
    replace G := qP G; obtain ⟨t16, ht16, G⟩ := G
    refine qg qd H (.v 45 (vP ((u8 9).n 0) 1) <|
 .cons [46] (qv (.func (.func 122) #[] #[]) 46 62 1 1 ((u8 9).n 0) [.func (.func 124) #[] #[], .func (.func 122) #[] #[]] 84) <|
 .cons [47] (qv (.agg #[vI a0.Lo, vI a0.Hi]) 47 59 0 2 ((u1 0).n 0) [vI a0.Lo, vI a0.Hi] 48) <|
 .cons [48] (qv (.agg #[vI a1.Lo, vI a1.Hi]) 48 60 0 2 ((u1 1).n 0) [vI a1.Lo, vI a1.Hi] 48) <|
 .cons [49] (qo 122 _ _ 49 [] (fun u14 w _ => XL.calls a0 a1  t15 w  ht15)) <|
 .v 50 (vI t15.1) <|
 .v 51 (vI t15.2) <|
 .cons [52] (qo 80 _ _ 52 [] (fun u14 w _ => Xu.calls t15.1 t15.2  t16 w  ht16)) <|
 .v 44 (.tuple #[vI t16.1, vI t16.2.1, vI t16.2.2]) <|
 .v 53 (vI t16.1) <|
 .v 54 (vI t16.2.1) <|
 .v 55 (vI t16.2.2) <|
 .v 9 (vI t16.1) <|
 .v 10 (vI t16.2.1) <|
 .v 11 (vI t16.2.2) <| .nil) [4, 6, 10, 61, 999999] fun u14 a w' H => ?_
    replace G := qP G; obtain ⟨t18, ht18, G⟩ := G
    refine qg qd H (.v 56 (vI t13.1) <|
 .v 57 (vI t16.2.1) <|
 .cons [58] (qo 81 _ _ 58 [] (fun u17 w _ => Qx.calls t13.1 t16.2.1  t18 w  ht18)) <|
 .cons [61] (QV 61 0 ((u1 2).n 0) [vI 0, vI 0] [vI t18.Lo, vI t18.Hi] 48 [vI t18.Lo, vI t18.Hi]) <| .nil) [4, 61, 999999] fun u17 a w' H => ?_
    refine q7 ?_
    obtain rfl := sj G
    exact Xe H _ 61 ((u1 2).n 0) [vI t18.Lo, vI t18.Hi] 48 0 2 (by kernel_rfl) (by kernel_rfl) (by kernel_rfl) (by kernel_rfl)
   rw [if_neg c19] at G
   by_cases c20 : t10 = 1
   ·rw [if_pos c20] at G; subst c20
    refine qN qd H (.cons [23] (qv (.agg #[vI a0.Lo, vI a0.Hi]) 23 59 0 2 ((u1 0).n 0) [vI a0.Lo, vI a0.Hi] 48) <|
 .cons [24] (qo 78 _ _ 24 [] (fun u8 w _ => XR.calls a0  1 w  ht9)) <|
 .v 25 (vP ((u1 1).n 0) 0) <|
 .cons [26] (qv (vI a1.Lo) 26 60 0 1 ((u1 1).n 0) [vI a1.Lo, vI a1.Hi] 48) <|
 .v 27 (.bool (decide (a1.Lo > 0))) <|
 .cons [28] (qo 79 _ _ 28 [] (fun u8 w _ => Q2.calls (decide (a1.Lo > 0)) 1 0  1 w  ht10)) <|
 .v 29 (vP 0 4) <|
 .v 30 (vP 0 6) <|
 .cons [31] (XX (fun u8 => .agg #[.func (.func 123) #[] #[], .func (.func 121) #[] #[]]) 31 999999 gk 0 6 2 Wt (fun w h => (Yc h).tab0)) <|
 .cons [5, 62] (qH (fun b => vP b 0) (fun u8 => [.nilFunc, .nilFunc]) 84 5 62) <|
 .cons [62] (XO (u' := fun u8 => [(62, .blk ((u8 9).n 0) [.func (.func 123) #[] #[], .func (.func 121) #[] #[]] 84)]) (X1 62 0 (fun u8 => ((u8 9).n 0)) (fun u8 => [.nilFunc, .nilFunc]) (fun u8 => [.func (.func 123) #[] #[], .func (.func 121) #[] #[]]) 84) (fun _ => by kernel_rfl)) <| .nil) [2, 3, 4, 5, 59, 60, 61, 62, 999999] fun u8 a w' H => ?_
    replace G := qP G; obtain ⟨t12, ht12, G⟩ := G
    replace G := qP G; obtain ⟨t13, ht13, G⟩ := G
    refine qg qd H (.v 33 (vP ((u8 9).n 0) 0) <|
 .cons [34] (qv (.func (.func 123) #[] #[]) 34 62 0 1 ((u8 9).n 0) [.func (.func 123) #[] #[], .func (.func 121) #[] #[]] 84) <|
 .cons [35] (qv (.agg #[vI a0.Lo, vI a0.Hi]) 35 59 0 2 ((u1 0).n 0) [vI a0.Lo, vI a0.Hi] 48) <|
 .cons [36] (qv (.agg #[vI a1.Lo, vI a1.Hi]) 36 60 0 2 ((u1 1).n 0) [vI a1.Lo, vI a1.Hi] 48) <|
 .cons [37] (qo 123 _ _ 37 [] (fun u11 w _ => XN.calls a0 a1  t12 w  ht12)) <|
 .v 38 (vI t12.1) <|
 .v 39 (vI t12.2) <|
 .cons [40] (qo 80 _ _ 40 [] (fun u11 w _ => Xu.calls t12.1 t12.2  t13 w  ht13)) <|
 .v 32 (.tuple #[vI t13.1, vI t13.2.1, vI t13.2.2]) <|
 .v 41 (vI t13.1) <|
 .v 42 (vI t13.2.1) <|
 .v 43 (vI t13.2.2) <|
 .v 6 (vI t13.1) <|
 .v 7 (vI t13.2.1) <|
 .v 8 (vI t13.2.2) <| .nil) [2, 3, 4, 5, 6, 59, 60, 61, 62, 999999] fun u11 a w' H => ?_
    replace G := qP G; obtain ⟨t15, ht15, G⟩ := G
    replace G := qP G; obtain ⟨t16, ht16, G⟩ := G
    refine qg qd H (.v 45 (vP ((u8 9).n 0) 1) <|
 .cons [46] (qv (.func (.func 121) #[] #[]) 46 62 1 1 ((u8 9).n 0) [.func (.func 123) #[] #[], .func (.func 121) #[] #[]] 84) <|
 .cons [47] (qv (.agg #[vI a0.Lo, vI a0.Hi]) 47 59 0 2 ((u1 0).n 0) [vI a0.Lo, vI a0.Hi] 48) <|
 .cons [48] (qv (.agg #[vI a1.Lo, vI a1.Hi]) 48 60 0 2 ((u1 1).n 0) [vI a1.Lo, vI a1.Hi] 48) <|
 .cons [49] (qo 121 _ _ 49 [] (fun u14 w _ => XK.calls a0 a1  t15 w  ht15)) <|
 .v 50 (vI t15.1) <|
 .v 51 (vI t15.2) <|
 .cons [52] (qo 80 _ _ 52 [] (fun u14 w _ => Xu.calls t15.1 t15.2  t16 w  ht16)) <|
 .v 44 (.tuple #[vI t16.1, vI t16.2.1, vI t16.2.2]) <|
 .v 53 (vI t16.1) <|
 .v 54 (vI t16.2.1) <|
 .v 55 (vI t16.2.2) <|
 .v 9 (vI t16.1) <|
 .v 10 (vI t16.2.1) <|
 .v 11 (vI t16.2.2) <| .nil) [4, 6, 10, 61, 999999] fun u14 a w' H => ?_
    replace G := qP G; obtain ⟨t18, ht18, G⟩ := G
    refine qg qd H (.v 56 (vI t13.1) <|
 .v 57 (vI t16.2.1) <|
 .cons [58] (qo 81 _ _ 58 [] (fun u17 w _ => Qx.calls t13.1 t16.2.1  t18 w  ht18)) <|
 .cons [61] (QV 61 0 ((u1 2).n 0) [vI 0, vI 0] [vI t18.Lo, vI t18.Hi] 48 [vI t18.Lo, vI t18.Hi]) <| .nil) [4, 61, 999999] fun u17 a w' H => ?_
    refine q7 ?_
    obtain rfl := sj G
    exact Xe H _ 61 ((u1 2).n 0) [vI t18.Lo, vI t18.Hi] 48 0 2 (by kernel_rfl) (by kernel_rfl) (by kernel_rfl) (by kernel_rfl)
   rw [if_neg c20] at G
   cases G
  rw [if_neg c22] at G
  by_cases c23 : t9 = 2
  ·rw [if_pos c23] at G; subst c23
   replace G := qP G; obtain ⟨t10, ht10, G⟩ := G
   by_cases c19 : t10 = 0
   ·rw [if_pos c19] at G; subst c19
    refine qN qd H (.cons [23] (qv (.agg #[vI a0.Lo, vI a0.Hi]) 23 59 0 2 ((u1 0).n 0) [vI a0.Lo, vI a0.Hi] 48) <|
 .cons [24] (qo 78 _ _ 24 [] (fun u8 w _ => XR.calls a0  2 w  ht9)) <|
 .v 25 (vP ((u1 1).n 0) 0) <|
 .cons [26] (qv (vI a1.Lo) 26 60 0 1 ((u1 1).n 0) [vI a1.Lo, vI a1.Hi] 48) <|
 .v 27 (.bool (decide (a1.Lo > 0))) <|
 .cons [28] (qo 79 _ _ 28 [] (fun u8 w _ => Q2.calls (decide (a1.Lo > 0)) 1 0  0 w  ht10)) <|
 .v 29 (vP 0 8) <|
 .v 30 (vP 0 8) <|
 .cons [31] (XX (fun u8 => .agg #[.func (.func 124) #[] #[], .func (.func 123) #[] #[]]) 31 999999 gk 0 8 2 Wt (fun w h => (Yc h).tab0)) <|
 .cons [5, 62] (qH (fun b => vP b 0) (fun u8 => [.nilFunc, .nilFunc]) 84 5 62) <|
 .cons [62] (XO (u' := fun u8 => [(62, .blk ((u8 9).n 0) [.func (.func 124) #[] #[], .func (.func 123) #[] #[]] 84)]) (X1 62 0 (fun u8 => ((u8 9).n 0)) (fun u8 => [.nilFunc, .nilFunc]) (fun u8 => [.func (.func 124) #[] #[], .func (.func 123) #[] #[]]) 84) (fun _ => by kernel_rfl)) <| .nil) [2, 3, 4, 5, 59, 60, 61, 62, 999999] fun u8 a w' H => ?_
    replace G := qP G; obtain ⟨t12, ht12, G⟩ := G
    replace G := qP G; obtain ⟨t13, ht13, G⟩ := G
    refine qg qd H (.v 33 (vP ((u8 9).n 0) 0) <|
 .cons [34] (qv (.func (.func 124) #[] #[]) 34 62 0 1 ((u8 9).n 0) [.func (.func 124) #[] #[], .func (.func 123) #[] #[]] 84) <|
 .cons [35] (qv (.agg #[vI a0.Lo, vI a0.Hi]) 35 59 0 2 ((u1 0).n 0) [vI a0.Lo, vI a0.Hi] 48) <|
 .cons [36] (qv (.agg #[vI a1.Lo, vI a1.Hi]) 36 60 0 2 ((u1 1).n 0) [vI a1.Lo, vI a1.Hi] 48) <|
 .cons [37] (qo 124 _ _ 37 [] (fun u11 w _ => XM.calls a0 a1  t12 w  ht12)) <|
 .v 38 (vI t12.1) <|
 .v 39 (vI t12.2) <|
 .cons [40] (qo 80 _ _ 40 [] (fun u11 w _ => Xu.calls t12.1 t12.2  t13 w  ht13)) <|
 .v 32 (.tuple #[vI t13.1, vI t13.2.1, vI t13.2.2]) <|
 .v 41 (vI t13.1) <|
 .v 42 (vI t13.2.1) <|
 .v 43 (vI t13.2.2) <|
 .v 6 (vI t13.1) <|
 .v 7 (vI t13.2.1) <|
 .v 8 (vI t13.2.2) <| .nil) [2, 3, 4, 5, 6, 59, 60, 61, 62, 999999] fun u11 a w' H => ?_
    replace G := qP G; obtain ⟨t15, ht15, G⟩ := G
    replace G := qP G; obtain ⟨t16, ht16, G⟩ := G
    refine qg qd H (.v 45 (vP ((u8 9).n 0) 1) <|
 .cons [46] (qv (.func (.func 123) #[] #[]) 46 62 1 1 ((u8 9).n 0) [.func (.func 124) #[] #[], .func (.func 123) #[] #[]] 84) <|
 .cons [47] (qv (.agg #[vI a0.Lo, vI a0.Hi]) 47 59 0 2 ((u1 0).n 0) [vI a0.Lo, vI a0.Hi] 48) <|
 .cons [48] (qv (.agg #[vI a1.Lo, vI a1.Hi]) 48 60 0 2 ((u1 1).n 0) [vI a1.Lo, vI a1.Hi] 48) <|
 .cons [49] (qo 123 _ _ 49 [] (fun u14 w _ => XN.calls a0 a1  t15 w  ht15)) <|
 .v 50 (vI t15.1) <|
 .v 51 (vI t15.2) <|
 .cons [52] (qo 80 _ _ 52 [] (fun u14 w _ => Xu.calls t15.1 t15.2  t16 w  ht16)) <|
 .v 44 (.tuple #[vI t16.1, vI t16.2.1, vI t16.2.2]) <|
 .v 53 (vI t16.1) <|
 .v 54 (vI t16.2.1) <|
 .v 55 (vI t16.2.2) <|
 .v 9 (vI t16.1) <|
 .v 10 (vI t16.2.1) <|
 .v 11 (vI t16.2.2) <| .nil) [4, 6, 10, 61, 999999] fun u14 a w' H => ?_
    replace G := qP G; obtain ⟨t18, ht18, G⟩ := G
    refine qg qd H (.v 56 (vI t13.1) <|
 .v 57 (vI t16.2.1) <|
 .cons [58] (qo 81 _ _ 58 [] (fun u17 w _ => Qx.calls t13.1 t16.2.1  t18 w  ht18)) <|
 .cons [61] (QV 61 0 ((u1 2).n 0) [vI 0, vI 0] [vI t18.Lo, vI t18.Hi] 48 [vI t18.Lo, vI t18.Hi]) <| .nil) [4, 61, 999999] fun u17 a w' H => ?_
    refine q7 ?_
    obtain rfl := sj G
    exact Xe H _ 61 ((u1 2).n 0) [vI t18.Lo, vI t18.Hi] 48 0 2 (by kernel_rfl) (by kernel_rfl) (by kernel_rfl) (by kernel_rfl)
   rw [if_neg c19] at G
   by_cases c20 : t10 = 1
   ·rw [if_pos c20] at G; subst c20
    refine qN qd H (.cons [23] (qv (.agg #[vI a0.Lo, vI a0.Hi]) 23 59 0 2 ((u1 0).n 0) [vI a0.Lo, vI a0.Hi] 48) <|
 .cons [24] (qo 78 _ _ 24 [] (fun u8 w _ => XR.calls a0  2 w  ht9)) <|
 .v 25 (vP ((u1 1).n 0) 0) <|
 .cons [26] (qv (vI a1.Lo) 26 60 0 1 ((u1 1).n 0) [vI a1.Lo, vI a1.Hi] 48) <|
 .v 27 (.bool (decide (a1.Lo > 0))) <|
 .cons [28] (qo 79 _ _ 28 [] (fun u8 w _ => Q2.calls (decide (a1.Lo > 0)) 1 0  1 w  ht10)) <|
 .v 29 (vP 0 8) <|
 .v 30 (vP 0 10) <|
 .cons [31] (XX (fun u8 => .agg #[.func (.func 122) #[] #[], .func (.func 121) #[] #[]]) 31 999999 gk 0 10 2 Wt (fun w h => (Yc h).tab0)) <|
 .cons [5, 62] (qH (fun b => vP b 0) (fun u8 => [.nilFunc, .nilFunc]) 84 5 62) <|
 .cons [62] (XO (u' := fun u8 => [(62, .blk ((u8 9).n 0) [.func (.func 122) #[] #[], .func (.func 121) #[] #[]] 84)]) (X1 62 0 (fun u8 => ((u8 9).n 0)) (fun u8 => [.nilFunc, .nilFunc]) (fun u8 => [.func (.func 122) #[] #[], .func (.func 121) #[] #[]]) 84) (fun _ => by kernel_rfl)) <| .nil) [2, 3, 4, 5, 59, 60, 61, 62, 999999] fun u8 a w' H => ?_
    replace G := qP G; obtain ⟨t12, ht12, G⟩ := G
    replace G := qP G; obtain ⟨t13, ht13, G⟩ := G
    refine qg qd H (.v 33 (vP ((u8 9).n 0) 0) <|
 .cons [34] (qv (.func (.func 122) #[] #[]) 34 62 0 1 ((u8 9).n 0) [.func (.func 122) #[] #[], .func (.func 121) #[] #[]] 84) <|
 .cons [35] (qv (.agg #[vI a0.Lo, vI a0.Hi]) 35 59 0 2 ((u1 0).n 0) [vI a0.Lo, vI a0.Hi] 48) <|
 .cons [36] (qv (.agg #[vI a1.Lo, vI a1.Hi]) 36 60 0 2 ((u1 1).n 0) [vI a1.Lo, vI a1.Hi] 48) <|
 .cons [37] (qo 122 _ _ 37 [] (fun u11 w _ => XL.calls a0 a1  t12 w  ht12)) <|
 .v 38 (vI t12.1) <|
 .v 39 (vI t12.2) <|
 .cons [40] (qo 80 _ _ 40 [] (fun u11 w _ => Xu.calls t12.1 t12.2  t13 w  ht13)) <|
 .v 32 (.tuple #[vI t13.1, vI t13.2.1, vI t13.2.2]) <|
 .v 41 (vI t13.1) <|
 .v 42 (vI t13.2.1) <|
 .v 43 (vI t13.2.2) <|
 .v 6 (vI t13.1) <|
 .v 7 (vI t13.2.1) <|
 .v 8 (vI t13.2.2) <| .nil) [2, 3, 4, 5, 6, 59, 60, 61, 62, 999999] fun u11 a w' H => ?_
    replace G := qP G; obtain ⟨t15, ht15, G⟩ := G
    replace G := qP G; obtain ⟨t16, ht16, G⟩ := G
    refine qg qd H (.v 45 (vP ((u8 9).n 0) 1) <|
 .cons [46] (qv (.func (.func 121) #[] #[]) 46 62 1 1 ((u8 9).n 0) [.func (.func 122) #[] #[], .func (.func 121) #[] #[]] 84) <|
 .cons [47] (qv (.agg #[vI a0.Lo, vI a0.Hi]) 47 59 0 2 ((u1 0).n 0) [vI a0.Lo, vI a0.Hi] 48) <|
 .cons [48] (qv (.agg #[vI a1.Lo, vI a1.Hi]) 48 60 0 2 ((u1 1).n 0) [vI a1.Lo, vI a1.Hi] 48) <|
 .cons [49] (qo 121 _ _ 49 [] (fun u14 w _ => XK.calls a0 a1  t15 w  ht15)) <|
 .v 50 (vI t15.1) <|
 .v 51 (vI t15.2) <|
 .cons [52] (qo 80 _ _ 52 [] (fun u14 w _ => Xu.calls t15.1 t15.2  t16 w  ht16)) <|
 .v 44 (.tuple #[vI t16.1, vI t16.2.1, vI t16.2.2]) <|
 .v 53 (vI t16.1) <|
 .v 54 (vI t16.2.1) <|
 .v 55 (vI t16.2.2) <|
 .v 9 (vI t16.1) <|
 .v 10 (vI t16.2.1) <|
 .v 11 (vI t16.2.2) <| .nil) [4, 6, 10, 61, 999999] fun u14 a w' H => ?_
    replace G := qP G; obtain ⟨t18, ht18, G⟩ := G
    refine qg qd H (.v 56 (vI t13.1) <|
 .v 57 (vI t16.2.1) <|
 .cons [58] (qo 81 _ _ 58 [] (fun u17 w _ => Qx.calls t13.1 t16.2.1  t18 w  ht18)) <|
 .cons [61] (QV 61 0 ((u1 2).n 0) [vI 0, vI 0] [vI t18.Lo, vI t18.Hi] 48 [vI t18.Lo, vI t18.Hi]) <| .nil) [4, 61, 999999] fun u17 a w' H => ?_
    refine q7 ?_
    obtain rfl := sj G
    exact Xe H _ 61 ((u1 2).n 0) [vI t18.Lo, vI t18.Hi] 48 0 2 (by kernel_rfl) (by kernel_rfl) (by kernel_rfl) (by kernel_rfl)
   rw [if_neg c20] at G
   cases G
  rw [if_neg c23] at G
  cases G
theorem Xx.calls (a0 : qa) (a1 : qa) (r : qa) (w : World) (G : Xx a0 a1 = some r) :
  Calls Tryz.prog 82 #[.agg #[vI a0.Lo, vI a0.Hi], .agg #[vI a1.Lo, vI a1.Hi]] w fun e w' => e = .returned (.agg #[vI r.Lo, vI r.Hi]) ∧ Below w.heap.size w w' := by
 refine Q4 (args := [.agg #[vI a0.Lo, vI a0.Hi], .agg #[vI a1.Lo, vI a1.Hi]]) 23 Tryz.func82 rfl (by kernel_rfl) (by kernel_rfl) fun a H => ?_
 unfold Xx at G
 refine qg qd H (.cons [2, 23] (qH (fun b => vP b 0) (fun u1 => [vI a0.Lo, vI a0.Hi]) 48 2 23) <|
 .cons [3, 24] (qH (fun b => vP b 0) (fun u1 => [vI a1.Lo, vI a1.Hi]) 48 3 24) <|
 .cons [4, 25] (qH (fun b => vP b 0) (fun u1 => [vI 0, vI 0]) 48 4 25) <| .nil) [2, 3, 4, 23, 24, 25] fun u1 a w' H => ?_
 refine qs ?_
 obtain ⟨t3, ht3, G⟩ := qP G
 obtain ⟨t4, ht4, G⟩ := qP G
 refine qg qd H (.cons [5] (qv (.agg #[vI a0.Lo, vI a0.Hi]) 5 23 0 2 ((u1 0).n 0) [vI a0.Lo, vI a0.Hi] 48) <|
 .cons [6] (qo 42 _ _ 6 [] (fun u2 w _ => Qz.calls a0  t3 w  ht3)) <|
 .v 7 (.bool t3) <|
 .cons [8] (Zc (fun u2 => .agg #[vI a1.Lo, vI a1.Hi]) (fun u2 => (t3 == false)) [true] 8 24 0 2 (fun u2 => ((u1 1).n 0)) (fun u2 => [vI a1.Lo, vI a1.Hi]) 48) <|
 .cons [9] (Zi 42 (fun u2 => #[.agg #[vI a1.Lo, vI a1.Hi]]) (.bool t4) (fun u2 => (t3 == false)) [true, false] 9 [] (fun u2 w hg _ => Qz.calls a1  t4 w  (ifp ht4 hg))) <|
 .cons [10] (Zt 7 9 (fun u2 => true) (fun u2 => true) (fun u2 => t3) (fun u2 => t4) 10) <| .nil) [2, 3, 4, 10, 23, 24, 25] fun u2 a w' H => ?_
 refine Qr H (t3 || t4) (fun c9 => ?_) fun c9 => ?_
 ·rw [if_pos c9] at G
  obtain ⟨t6, ht6, G⟩ := qP G
  refine qg qd H (.cons [11] (qo 77 _ _ 11 [] (fun u5 w _ => XD.calls   t6 w  ht6)) <|
 .cons [25] (QV 25 0 ((u1 2).n 0) [vI 0, vI 0] [vI t6.Lo, vI t6.Hi] 48 [vI t6.Lo, vI t6.Hi]) <| .nil) [4, 25] fun u5 a w' H => ?_
  refine q7 ?_
  obtain rfl := sj G
  exact Xe H _ 25 ((u1 2).n 0) [vI t6.Lo, vI t6.Hi] 48 0 2 (by kernel_rfl) (by kernel_rfl) (by kernel_rfl) (by kernel_rfl)
 ·rw [if_neg (nt c9)] at G
  refine qT ?_
  obtain ⟨t8, ht8, G⟩ := qP G
  refine qg qd H (.v 12 (vP ((u1 0).n 0) 0) <|
 .cons [13] (qv (vI a0.Lo) 13 23 0 1 ((u1 0).n 0) [vI a0.Lo, vI a0.Hi] 48) <|
 .v 14 (vP ((u1 1).n 0) 0) <|
 .cons [15] (qv (vI a1.Lo) 15 24 0 1 ((u1 1).n 0) [vI a1.Lo, vI a1.Hi] 48) <|
 .v 16 (vI (qe (a0.Lo + a1.Lo))) <|
 .v 17 (vP ((u1 0).n 0) 1) <|
 .cons [18] (qv (vI a0.Hi) 18 23 1 1 ((u1 0).n 0) [vI a0.Lo, vI a0.Hi] 48) <|
 .v 19 (vP ((u1 1).n 0) 1) <|
 .cons [20] (qv (vI a1.Hi) 20 24 1 1 ((u1 1).n 0) [vI a1.Lo, vI a1.Hi] 48) <|
 .v 21 (vI (qe (a0.Hi + a1.Hi))) <|
 .cons [22] (qo 81 _ _ 22 [] (fun u7 w _ => Qx.calls (qe (a0.Lo + a1.Lo)) (qe (a0.Hi + a1.Hi))  t8 w  ht8)) <|
 .cons [25] (QV 25 0 ((u1 2).n 0) [vI 0, vI 0] [vI t8.Lo, vI t8.Hi] 48 [vI t8.Lo, vI t8.Hi]) <| .nil) [4, 25] fun u7 a w' H => ?_
  refine q7 ?_
  obtain rfl := sj G
  exact Xe H _ 25 ((u1 2).n 0) [vI t8.Lo, vI t8.Hi] 48 0 2 (by kernel_rfl) (by kernel_rfl) (by kernel_rfl) (by kernel_rfl)
theorem YK.calls (a0 : qa) (r : qa) (w : World) (G : YK a0 = some r) :
  Calls Tryz.prog 83 #[.agg #[vI a0.Lo, vI a0.Hi]] w fun e w' => e = .returned (.agg #[vI r.Lo, vI r.Hi]) ∧ Below w.heap.size w w' := by
 refine Q4 (args := [.agg #[vI a0.Lo, vI a0.Hi]]) 10 Tryz.func83 rfl (by kernel_rfl) (by kernel_rfl) fun a H => ?_
 unfold YK at G
 refine qg qd H (.cons [1, 10] (qH (fun b => vP b 0) (fun u1 => [vI a0.Lo, vI a0.Hi]) 48 1 10) <|
 .cons [2, 11] (qH (fun b => vP b 0) (fun u1 => [vI 0, vI 0]) 48 2 11) <| .nil) [1, 2, 10, 11] fun u1 a w' H => ?_
 refine qg qd H (.v 3 (vP ((u1 0).n 0) 1) <|
 .cons [4] (qv (vI a0.Hi) 4 10 1 1 ((u1 0).n 0) [vI a0.Lo, vI a0.Hi] 48) <|
 .v 5 (vI (qe (0 - a0.Hi))) <|
 .v 6 (vP ((u1 0).n 0) 0) <|
 .cons [7] (qv (vI a0.Lo) 7 10 0 1 ((u1 0).n 0) [vI a0.Lo, vI a0.Hi] 48) <|
 .v 8 (vI (qe (0 - a0.Lo))) <|
 .v 9 (.agg #[vI (qe (0 - a0.Hi)), vI (qe (0 - a0.Lo))]) <|
 .cons [11] (QV 11 0 ((u1 1).n 0) [vI 0, vI 0] [vI (qe (0 - a0.Hi)), vI (qe (0 - a0.Lo))] 48 [vI (qe (0 - a0.Hi)), vI (qe (0 - a0.Lo))]) <| .nil) [2, 11] fun u2 a w' H => ?_
 refine q7 ?_
 obtain rfl := sj G
 exact Xe H _ 11 ((u1 1).n 0) [vI (qe (0 - a0.Hi)), vI (qe (0 - a0.Lo))] 48 0 2 (by kernel_rfl) (by kernel_rfl) (by kernel_rfl) (by kernel_rfl)
theorem XV.calls (a0 : qa) (a1 : qa) (r : qa) (w : World) (G : XV a0 a1 = some r) :
  Calls Tryz.prog 40 #[.agg #[vI a0.Lo, vI a0.Hi], .agg #[vI a1.Lo, vI a1.Hi]] w fun e w' => e = .returned (.agg #[vI r.Lo, vI r.Hi]) ∧ Below w.heap.size w w' := by
 refine Q4 (args := [.agg #[vI a0.Lo, vI a0.Hi], .agg #[vI a1.Lo, vI a1.Hi]]) 9 Tryz.func40 rfl (by kernel_rfl) (by kernel_rfl) fun a H => ?_
 unfold XV at G
 refine qg qd H (.cons [2, 9] (qH (fun b => vP b 0) (fun u1 => [vI a0.Lo, vI a0.Hi]) 48 2 9) <|
 .cons [3, 10] (qH (fun b => vP b 0) (fun u1 => [vI a1.Lo, vI a1.Hi]) 48 3 10) <|
 .cons [4, 11] (qH (fun b => vP b 0) (fun u1 => [vI 0, vI 0]) 48 4 11) <| .nil) [2, 3, 4, 9, 10, 11] fun u1 a w' H => ?_
 obtain ⟨t3, ht3, G⟩ := qP G
 obtain ⟨t4, ht4, G⟩ := qP G
 refine qg qd H (.cons [5] (qv (.agg #[vI a0.Lo, vI a0.Hi]) 5 9 0 2 ((u1 0).n 0) [vI a0.Lo, vI a0.Hi] 48) <|
 .cons [6] (qv (.agg #[vI a1.Lo, vI a1.Hi]) 6 10 0 2 ((u1 1).n 0) [vI a1.Lo, vI a1.Hi] 48) <|
 .cons [7] (qo 83 _ _ 7 [] (fun u2 w _ => YK.calls a1  t3 w  ht3)) <|
 .cons [8] (qo 82 _ _ 8 [] (fun u2 w _ => Xx.calls a0 t3  t4 w  ht4)) <|
 .cons [11] (QV 11 0 ((u1 2).n 0) [vI 0, vI 0] [vI t4.Lo, vI t4.Hi] 48 [vI t4.Lo, vI t4.Hi]) <| .nil) [4, 11] fun u2 a w' H => ?_
 refine q7 ?_
 obtain rfl := sj G
 exact Xe H _ 11 ((u1 2).n 0) [vI t4.Lo, vI t4.Hi] 48 0 2 (by kernel_rfl) (by kernel_rfl) (by kernel_rfl) (by kernel_rfl)
theorem Qa.calls (a0 : Int) (a1 : Int) (r : Int × Int) (w : World) (G : Qa a0 a1 = some r) :
  Calls Tryz.prog 84 #[vI a0, vI a1] w fun e w' => e = .returned (.tuple #[vI r.1, vI r.2]) ∧ Below w.heap.size w w' := by
 refine Q4 (args := [vI a0, vI a1]) 12 Tryz.func84 rfl (by kernel_rfl) (by kernel_rfl) fun a H => ?_
 unfold Qa at G
 refine qg qd H (.v 4 (vI 0) <|
 .v 5 (vI 0) <| .nil) [0, 1] fun u1 a w' H => ?_
 obtain ⟨t3, ht3, G⟩ := qP G
 refine qg qd H (.v 6 (vI a0) <|
 .v 7 (vI a1) <|
 .v 8 (vI (qe (a0 * a1))) <|
 .cons [9] (qo 97 _ _ 9 [] (fun u2 w _ => Yp.calls (qe (a0 * a1)) 65536  t3 w  ht3)) <|
 .v 10 (vI t3.1) <|
 .v 11 (vI t3.2) <|
 .v 4 (vI t3.1) <|
 .v 5 (vI t3.2) <| .nil) [4, 5] fun u2 a w' H => ?_
 refine q7 ?_
 obtain rfl := sj G
 exact QG H _ (by kernel_rfl) (by kernel_rfl)
theorem Xh.calls (a0 : qa) (a1 : qa) (r : qa) (w : World) (hg : Wn w) (G : Xh a0 a1 = some r) :
  Calls Tryz.prog 41 #[.agg #[vI a0.Lo, vI a0.Hi], .agg #[vI a1.Lo, vI a1.Hi]] w fun e w' => e = .returned (.agg #[vI r.Lo, vI r.Hi]) ∧ Below w.heap.size w w' := by
 refine WZ (args := [.agg #[vI a0.Lo, vI a0.Hi], .agg #[vI a1.Lo, vI a1.Hi]]) 106 999999 Wb Wn (JR hg) (ZV hg) Tryz.func41 rfl (by kernel_rfl) (by kernel_rfl) fun a H => ?_
 unfold Xh at G
 refine qg qd H (.cons [2, 106] (qH (fun b => vP b 0) (fun u1 => [vI a0.Lo, vI a0.Hi]) 48 2 106) <|
 .cons [3, 107] (qH (fun b => vP b 0) (fun u1 => [vI a1.Lo, vI a1.Hi]) 48 3 107) <|
 .cons [4, 108] (qH (fun b => vP b 0) (fun u1 => [vI 0, vI 0]) 48 4 108) <| .nil) [2, 3, 4, 106, 107, 108, 999999] fun u1 a w' H => ?_
 refine qs ?_
 replace G := qP G; obtain ⟨t3, ht3, G⟩ := G
 replace G := qP G; obtain ⟨t4, ht4, G⟩ := G
 refine qg qd H (.cons [20] (qv (.agg #[vI a0.Lo, vI a0.Hi]) 20 106 0 2 ((u1 0).n 0) [vI a0.Lo, vI a0.Hi] 48) <|
 .cons [21] (qo 42 _ _ 21 [] (fun u2 w _ => Qz.calls a0  t3 w  ht3)) <|
 .v 22 (.bool t3) <|
 .cons [23] (Zc (fun u2 => .agg #[vI a1.Lo, vI a1.Hi]) (fun u2 => (t3 == false)) [true] 23 107 0 2 (fun u2 => ((u1 1).n 0)) (fun u2 => [vI a1.Lo, vI a1.Hi]) 48) <|
 .cons [24] (Zi 42 (fun u2 => #[.agg #[vI a1.Lo, vI a1.Hi]]) (.bool t4) (fun u2 => (t3 == false)) [true, false] 24 [] (fun u2 w hg _ => Qz.calls a1  t4 w  (ifp ht4 hg))) <|
 .cons [25] (Zt 22 24 (fun u2 => true) (fun u2 => true) (fun u2 => t3) (fun u2 => t4) 25) <| .nil) [2, 3, 4, 25, 106, 107, 108, 999999] fun u2 a w' H => ?_
 refine Qr H (t3 || t4) (fun c107 => ?_) fun c107 => ?_
 ·rw [if_pos c107] at G
  replace G := qP G; obtain ⟨t6, ht6, G⟩ := G
  refine qg qd H (.cons [26] (qo 77 _ _ 26 [] (fun u5 w _ => XD.calls   t6 w  ht6)) <|
 .cons [108] (QV 108 0 ((u1 2).n 0) [vI 0, vI 0] [vI t6.Lo, vI t6.Hi] 48 [vI t6.Lo, vI t6.Hi]) <| .nil) [4, 108, 999999] fun u5 a w' H => ?_
  refine q7 ?_
  obtain rfl := sj G
  exact Xe H _ 108 ((u1 2).n 0) [vI t6.Lo, vI t6.Hi] 48 0 2 (by kernel_rfl) (by kernel_rfl) (by kernel_rfl) (by kernel_rfl)
 ·rw [if_neg (nt c107)] at G
  refine qT ?_
  replace G := qP G; obtain ⟨t8, ht8, G⟩ := G
  replace G := qP G; obtain ⟨t9, ht9, G⟩ := G
  refine qg qd H (.cons [27] (qv (.agg #[vI a0.Lo, vI a0.Hi]) 27 106 0 2 ((u1 0).n 0) [vI a0.Lo, vI a0.Hi] 48) <|
 .cons [28] (qo 78 _ _ 28 [] (fun u7 w _ => XR.calls a0  t8 w  ht8)) <|
 .cons [29] (qv (.agg #[vI a1.Lo, vI a1.Hi]) 29 107 0 2 ((u1 1).n 0) [vI a1.Lo, vI a1.Hi] 48) <|
 .cons [30] (qo 78 _ _ 30 [] (fun u7 w _ => XR.calls a1  t9 w  ht9)) <|
 .v 5 (vI t8) <|
 .v 6 (vI t9) <| .nil) [2, 3, 4, 5, 6, 106, 107, 108, 999999] fun u7 a w' H => ?_
  refine qs ?_
  refine qg qd H (.v 31 (vI t8) <|
 .v 32 (.bool (t8 == 1)) <|
 .v 33 (.bool (t8 == 1)) <|
 .cons [34] (Qc (fun u10 => vI t9) (fun u10 => ((t8 == 1) == true)) [true] 34) <|
 .cons [35] (Qc (fun u10 => .bool (t9 == 1)) (fun u10 => ((t8 == 1) == true)) [false, true] 35) <|
 .cons [36] (Y9 33 35 (fun u10 => true) (fun u10 => true) (fun u10 => (t8 == 1)) (fun u10 => (t9 == 1)) 36) <| .nil) [2, 3, 4, 5, 6, 36, 106, 107, 108, 999999] fun u10 a w' H => ?_
  refine Qr H ((t8 == 1) && (t9 == 1)) (fun c106 => ?_) fun c106 => ?_
  ·rw [if_pos c106] at G
   replace G := qP G; obtain ⟨t12, ht12, G⟩ := G
   refine qg qd H (.v 38 (vP ((u1 0).n 0) 0) <|
 .cons [39] (qv (vI a0.Lo) 39 106 0 1 ((u1 0).n 0) [vI a0.Lo, vI a0.Hi] 48) <|
 .v 40 (vP ((u1 1).n 0) 1) <|
 .cons [41] (qv (vI a1.Hi) 41 107 1 1 ((u1 1).n 0) [vI a1.Lo, vI a1.Hi] 48) <|
 .cons [42] (qo 84 _ _ 42 [] (fun u11 w _ => Qa.calls a0.Lo a1.Hi  t12 w  ht12)) <|
 .v 37 (.tuple #[vI t12.1, vI t12.2]) <|
 .v 43 (vI t12.1) <|
 .v 44 (vI t12.2) <|
 .v 7 (vI t12.1) <|
 .v 8 (vI t12.2) <| .nil) [2, 3, 4, 7, 106, 107, 108, 999999] fun u11 a w' H => ?_
   replace G := qP G; obtain ⟨t14, ht14, G⟩ := G
   refine qg qd H (.v 46 (vP ((u1 0).n 0) 1) <|
 .cons [47] (qv (vI a0.Hi) 47 106 1 1 ((u1 0).n 0) [vI a0.Lo, vI a0.Hi] 48) <|
 .v 48 (vP ((u1 1).n 0) 0) <|
 .cons [49] (qv (vI a1.Lo) 49 107 0 1 ((u1 1).n 0) [vI a1.Lo, vI a1.Hi] 48) <|
 .cons [50] (qo 84 _ _ 50 [] (fun u13 w _ => Qa.calls a0.Hi a1.Lo  t14 w  ht14)) <|
 .v 45 (.tuple #[vI t14.1, vI t14.2]) <|
 .v 51 (vI t14.1) <|
 .v 52 (vI t14.2) <|
 .v 9 (vI t14.1) <|
 .v 10 (vI t14.2) <| .nil) [2, 3, 4, 7, 9, 106, 107, 108, 999999] fun u13 a w' H => ?_
   replace G := qP G; obtain ⟨t16, ht16, G⟩ := G
   refine qg qd H (.v 54 (vP ((u1 0).n 0) 0) <|
 .cons [55] (qv (vI a0.Lo) 55 106 0 1 ((u1 0).n 0) [vI a0.Lo, vI a0.Hi] 48) <|
 .v 56 (vP ((u1 1).n 0) 0) <|
 .cons [57] (qv (vI a1.Lo) 57 107 0 1 ((u1 1).n 0) [vI a1.Lo, vI a1.Hi] 48) <|
 .cons [58] (qo 84 _ _ 58 [] (fun u15 w _ => Qa.calls a0.Lo a1.Lo  t16 w  ht16)) <|
 .v 53 (.tuple #[vI t16.1, vI t16.2]) <|
 .v 59 (vI t16.1) <|
 .v 60 (vI t16.2) <|
 .v 11 (vI t16.1) <|
 .v 12 (vI t16.2) <| .nil) [2, 3, 4, 7, 9, 12, 106, 107, 108, 999999] fun u15 a w' H => ?_
   replace G := qP G; obtain ⟨t18, ht18, G⟩ := G
   refine qg qd H (.v 62 (vP ((u1 0).n 0) 1) <|
 .cons [63] (qv (vI a0.Hi) 63 106 1 1 ((u1 0).n 0) [vI a0.Lo, vI a0.Hi] 48) <|
 .v 64 (vP ((u1 1).n 0) 1) <|
 .cons [65] (qv (vI a1.Hi) 65 107 1 1 ((u1 1).n 0) [vI a1.Lo, vI a1.Hi] 48) <|
 .cons [66] (qo 84 _ _ 66 [] (fun u17 w _ => Qa.calls a0.Hi a1.Hi  t18 w  ht18)) <|
 .v 61 (.tuple #[vI t18.1, vI t18.2]) <|
 .v 67 (vI t18.1) <|
 .v 68 (vI t18.2) <|
 .v 13 (vI t18.1) <|
 .v 14 (vI t18.2) <| .nil) [4, 7, 9, 12, 14, 108, 999999] fun u17 a w' H => ?_
   replace G := qP G; obtain ⟨t20, ht20, G⟩ := G
   refine qg qd H (.v 69 (vI t12.1) <|
 .v 70 (vI t14.1) <|
 .v 71 (vI (mn t12.1 t14.1)) <|
 .v 72 (vI t16.2) <|
 .v 73 (vI t18.2) <|
 .v 74 (vI (mx t16.2 t18.2)) <|
 .cons [75] (qo 81 _ _ 75 [] (fun u19 w _ => Qx.calls (mn t12.1 t14.1) (mx t16.2 t18.2)  t20 w  ht20)) <|
 .cons [108] (QV 108 0 ((u1 2).n 0) [vI 0, vI 0] [vI t20.Lo, vI t20.Hi] 48 [vI t20.Lo, vI t20.Hi]) <| .nil) [4, 108, 999999] fun u19 a w' H => ?_
   refine q7 ?_
   obtain rfl := sj G
   exact Xe H _ 108 ((u1 2).n 0) [vI t20.Lo, vI t20.Hi] 48 0 2 (by kernel_rfl) (by kernel_rfl) (by kernel_rfl) (by kernel_rfl)
  ·rw [if_neg (nt c106)] at G
   refine qT ?_
   refine qs ?_
   by_cases c103 : t8 = 0
   ·rw [if_pos c103] at G; subst c103
    by_cases c48 : t9 = 0
    ·rw [if_pos c48] at G; subst c48
     refine qN qd H (.v 76 (vI 0) <|
 .v 77 (vI 0) <|
 .v 78 (vP 1 0) <|
 .v 79 (vP 1 0) <|
 .cons [80] (XX (fun u21 => .agg #[.func (.func 124) #[] #[], .func (.func 123) #[] #[]]) 80 999999 gk 1 0 2 Vd (fun w h => (Yc h).tab1)) <|
 .cons [15, 109] (qH (fun b => vP b 0) (fun u21 => [.nilFunc, .nilFunc]) 84 15 109) <|
 .cons [109] (XO (u' := fun u21 => [(109, .blk ((u21 5).n 0) [.func (.func 124) #[] #[], .func (.func 123) #[] #[]] 84)]) (X1 109 0 (fun u21 => ((u21 5).n 0)) (fun u21 => [.nilFunc, .nilFunc]) (fun u21 => [.func (.func 124) #[] #[], .func (.func 123) #[] #[]]) 84) (fun _ => by kernel_rfl)) <| .nil) [2, 3, 4, 15, 106, 107, 108, 109, 999999] fun u21 a w' H => ?_
     replace G := qP G; obtain ⟨t23, ht23, G⟩ := G
     replace G := qP G; obtain ⟨t24, ht24, G⟩ := G
     refine qg qd H (.v 82 (vP ((u21 5).n 0) 0) <|
 .cons [83] (qv (.func (.func 124) #[] #[]) 83 109 0 1 ((u21 5).n 0) [.func (.func 124) #[] #[], .func (.func 123) #[] #[]] 84) <|
 .cons [84] (qv (.agg #[vI a0.Lo, vI a0.Hi]) 84 106 0 2 ((u1 0).n 0) [vI a0.Lo, vI a0.Hi] 48) <|
 .cons [85] (qv (.agg #[vI a1.Lo, vI a1.Hi]) 85 107 0 2 ((u1 1).n 0) [vI a1.Lo, vI a1.Hi] 48) <|
 .cons [86] (qo 124 _ _ 86 [] (fun u22 w _ => XM.calls a0 a1  t23 w  ht23)) <|
 .v 87 (vI t23.1) <|
 .v 88 (vI t23.2) <|
 .cons [89] (qo 84 _ _ 89 [] (fun u22 w _ => Qa.calls t23.1 t23.2  t24 w  ht24)) <|
 .v 81 (.tuple #[vI t24.1, vI t24.2]) <|
 .v 90 (vI t24.1) <|
 .v 91 (vI t24.2) <|
 .v 16 (vI t24.1) <|
 .v 17 (vI t24.2) <| .nil) [2, 3, 4, 15, 16, 106, 107, 108, 109, 999999] fun u22 a w' H => ?_
     replace G := qP G; obtain ⟨t26, ht26, G⟩ := G
     replace G := qP G; obtain ⟨t27, ht27, G⟩ := G
     refine qg qd H (.v 93 (vP ((u21 5).n 0) 1) <|
 .cons [94] (qv (.func (.func 123) #[] #[]) 94 109 1 1 ((u21 5).n 0) [.func (.func 124) #[] #[], .func (.func 123) #[] #[]] 84) <|
 .cons [95] (qv (.agg #[vI a0.Lo, vI a0.Hi]) 95 106 0 2 ((u1 0).n 0) [vI a0.Lo, vI a0.Hi] 48) <|
 .cons [96] (qv (.agg #[vI a1.Lo, vI a1.Hi]) 96 107 0 2 ((u1 1).n 0) [vI a1.Lo, vI a1.Hi] 48) <|
 .cons [97] (qo 123 _ _ 97 [] (fun u25 w _ => XN.calls a0 a1  t26 w  ht26)) <|
 .v 98 (vI t26.1) <|
 .v 99 (vI t26.2) <|
 .cons [100] (qo 84 _ _ 100 [] (fun u25 w _ => Qa.calls t26.1 t26.2  t27 w  ht27)) <|
 .v 92 (.tuple #[vI t27.1, vI t27.2]) <|
 .v 101 (vI t27.1) <|
 .v 102 (vI t27.2) <|
 .v 18 (vI t27.1) <|
 .v 19 (vI t27.2) <| .nil) [4, 16, 19, 108, 999999] fun u25 a w' H => ?_
     replace G := qP G; obtain ⟨t29, ht29, G⟩ := G
     refine qg qd H (.v 103 (vI t24.1) <|
 .v 104 (vI t27.2) <|
 .cons [105] (qo 81 _ _ 105 [] (fun u28 w _ => Qx.calls t24.1 t27.2  t29 w  ht29)) <|
 .cons [108] (QV 108 0 ((u1 2).n 0) [vI 0, vI 0] [vI t29.Lo, vI t29.Hi] 48 [vI t29.Lo, vI t29.Hi]) <| .nil) [4, 108, 999999] fun u28 a w' H => ?_
     refine q7 ?_
     obtain rfl := sj G
     exact Xe H _ 108 ((u1 2).n 0) [vI t29.Lo, vI t29.Hi] 48 0 2 (by kernel_rfl) (by kernel_rfl) (by kernel_rfl) (by kernel_rfl)
    rw [if_neg c48] at G
    by_cases c49 : t9 = 1
    ·rw [if_pos c49] at G; subst c49
     refine qN qd H (.v 76 (vI 0) <|
 .v 77 (vI 1) <|
 .v 78 (vP 1 0) <|
 .v 79 (vP 1 2) <|
 .cons [80] (XX (fun u30 => .agg #[.func (.func 122) #[] #[], .func (.func 123) #[] #[]]) 80 999999 gk 1 2 2 Vd (fun w h => (Yc h).tab1)) <|
 .cons [15, 110] (qH (fun b => vP b 0) (fun u30 => [.nilFunc, .nilFunc]) 84 15 110) <|
 .cons [110] (XO (u' := fun u30 => [(110, .blk ((u30 5).n 0) [.func (.func 122) #[] #[], .func (.func 123) #[] #[]] 84)]) (X1 110 0 (fun u30 => ((u30 5).n 0)) (fun u30 => [.nilFunc, .nilFunc]) (fun u30 => [.func (.func 122) #[] #[], .func (.func 123) #[] #[]]) 84) (fun _ => by kernel_rfl)) <| .nil) [2, 3, 4, 15, 106, 107, 108, 110, 999999] fun u30 a w' H => ?_
     replace G := qP G; obtain ⟨t32, ht32, G⟩ := G
     replace G := qP G; obtain ⟨t33, ht33, G⟩ := G
     refine qg qd H (.v 82 (vP ((u30 5).n 0) 0) <|
 .cons [83] (qv (.func (.func 122) #[] #[]) 83 110 0 1 ((u30 5).n 0) [.func (.func 122) #[] #[], .func (.func 123) #[] #[]] 84) <|
 .cons [84] (qv (.agg #[vI a0.Lo, vI a0.Hi]) 84 106 0 2 ((u1 0).n 0) [vI a0.Lo, vI a0.Hi] 48) <|
 .cons [85] (qv (.agg #[vI a1.Lo, vI a1.Hi]) 85 107 0 2 ((u1 1).n 0) [vI a1.Lo, vI a1.Hi] 48) <|
 .cons [86] (qo 122 _ _ 86 [] (fun u31 w _ => XL.calls a0 a1  t32 w  ht32)) <|
 .v 87 (vI t32.1) <|
 .v 88 (vI t32.2) <|
 .cons [89] (qo 84 _ _ 89 [] (fun u31 w _ => Qa.calls t32.1 t32.2  t33 w  ht33)) <|
 .v 81 (.tuple #[vI t33.1, vI t33.2]) <|
 .v 90 (vI t33.1) <|
 .v 91 (vI t33.2) <|
 .v 16 (vI t33.1) <|
 .v 17 (vI t33.2) <| .nil) [2, 3, 4, 15, 16, 106, 107, 108, 110, 999999] fun u31 a w' H => ?_
     replace G := qP G; obtain ⟨t35, ht35, G⟩ := G
     replace G := qP G; obtain ⟨t36, ht36, G⟩ := G
     refine qg qd H (.v 93 (vP ((u30 5).n 0) 1) <|
 .cons [94] (qv (.func (.func 123) #[] #[]) 94 110 1 1 ((u30 5).n 0) [.func (.func 122) #[] #[], .func (.func 123) #[] #[]] 84) <|
 .cons [95] (qv (.agg #[vI a0.Lo, vI a0.Hi]) 95 106 0 2 ((u1 0).n 0) [vI a0.Lo, vI a0.Hi] 48) <|
 .cons [96] (qv (.agg #[vI a1.Lo, vI a1.Hi]) 96 107 0 2 ((u1 1).n 0) [vI a1.Lo, vI a1.Hi] 48) <|
 .cons [97] (qo 123 _ _ 97 [] (fun u34 w _ => XN.calls a0 a1  t35 w  ht35)) <|
 .v 98 (vI t35.1) <|
 .v 99 (vI t35.2) <|
 .cons [100] (qo 84 _ _ 100 [] (fun u34 w _ => Qa.calls t35.1 t35.2  t36 w  ht36)) <|
 .v 92 (.tuple #[vI t36.1, vI t36.2]) <|
 .v 101 (vI t36.1) <|
 .v 102 (vI t36.2) <|
 .v 18 (vI t36.1) <|
 .v 19 (vI t36.2) <| .nil) [4, 16, 19, 108, 999999] fun u34 a w' H => ?_
     replace G := qP G; obtain ⟨t38, ht38, G⟩ := G
     refine qg qd H (.v 103 (vI t33.1) <|
 .v 104 (vI t36.2) <|
 .cons [105] (qo 81 _ _ 105 [] (fun u37 w _ => Qx.calls t33.1 t36.2  t38 w  ht38)) <|
 .cons [108] (QV 108 0 ((u1 2).n 0) [vI 0, vI 0] [vI t38.Lo, vI t38.Hi] 48 [vI t38.Lo, vI t38.Hi]) <| .nil) [4, 108, 999999] fun u37 a w' H => ?_
     refine q7 ?_
     obtain rfl := sj G
     exact Xe H _ 108 ((u1 2).n 0) [vI t38.Lo, vI t38.Hi] 48 0 2 (by kernel_rfl) (by kernel_rfl) (by kernel_rfl) (by kernel_rfl)
    rw [if_neg c49] at G
    by_cases c50 : t9 = 2
    ·rw [if_pos c50] at G; subst c50
     refine qN qd H (.v 76 (vI 0) <|
 .v 77 (vI 2) <|
 .v 78 (vP 1 0) <|
 .v 79 (vP 1 4) <|
 .cons [80] (XX (fun u39 => .agg #[.func (.func 122) #[] #[], .func (.func 121) #[] #[]]) 80 999999 gk 1 4 2 Vd (fun w h => (Yc h).tab1)) <|
 .cons [15, 111] (qH (fun b => vP b 0) (fun u39 => [.nilFunc, .nilFunc]) 84 15 111) <|
 .cons [111] (XO (u' := fun u39 => [(111, .blk ((u39 5).n 0) [.func (.func 122) #[] #[], .func (.func 121) #[] #[]] 84)]) (X1 111 0 (fun u39 => ((u39 5).n 0)) (fun u39 => [.nilFunc, .nilFunc]) (fun u39 => [.func (.func 122) #[] #[], .func (.func 121) #[] #[]]) 84) (fun _ => by kernel_rfl)) <| .nil) [2, 3, 4, 15, 106, 107, 108, 111, 999999] fun u39 a w' H => ?_
     replace G := qP G; obtain ⟨t41, ht41, G⟩ := G
     replace G := qP G; obtain ⟨t42, ht42, G⟩ := G
     refine qg qd H (.v 82 (vP ((u39 5).n 0) 0) <|
 .cons [83] (qv (.func (.func 122) #[] #[]) 83 111 0 1 ((u39 5).n 0) [.func (.func 122) #[] #[], .func (.func 121) #[] #[]] 84) <|
 .cons [84] (qv (.agg #[vI a0.Lo, vI a0.Hi]) 84 106 0 2 ((u1 0).n 0) [vI a0.Lo, vI a0.Hi] 48) <|
 .cons [85] (qv (.agg #[vI a1.Lo, vI a1.Hi]) 85 107 0 2 ((u1 1).n 0) [vI a1.Lo, vI a1.Hi] 48) <|
 .cons [86] (qo 122 _ _ 86 [] (fun u40 w _ => XL.calls a0 a1  t41 w  ht41)) <|
 .v 87 (vI t41.1) <|
 .v 88 (vI t41.2) <|
 .cons [89] (qo 84 _ _ 89 [] (fun u40 w _ => Qa.calls t41.1 t41.2  t42 w  ht42)) <|
 .v 81 (.tuple #[vI t42.1, vI t42.2]) <|
 .v 90 (vI t42.1) <|
 .v 91 (vI t42.2) <|
 .v 16 (vI t42.1) <|
 .v 17 (vI t42.2) <| .nil) [2, 3, 4, 15, 16, 106, 107, 108, 111, 999999] fun u40 a w' H => ?_
     replace G := qP G; obtain ⟨t44, ht44, G⟩ := G
     replace G := qP G; obtain ⟨t45, ht45, G⟩ := G
     refine qg qd H (.v 93 (vP ((u39 5).n 0) 1) <|
 .cons [94] (qv (.func (.func 121) #[] #[]) 94 111 1 1 ((u39 5).n 0) [.func (.func 122) #[] #[], .func (.func 121) #[] #[]] 84) <|
 .cons [95] (qv (.agg #[vI a0.Lo, vI a0.Hi]) 95 106 0 2 ((u1 0).n 0) [vI a0.Lo, vI a0.Hi] 48) <|
 .cons [96] (qv (.agg #[vI a1.Lo, vI a1.Hi]) 96 107 0 2 ((u1 1).n 0) [vI a1.Lo, vI a1.Hi] 48) <|
 .cons [97] (qo 121 _ _ 97 [] (fun u43 w _ => XK.calls a0 a1  t44 w  ht44)) <|
 .v 98 (vI t44.1) <|
 .v 99 (vI t44.2) <|
 .cons [100] (qo 84 _ _ 100 [] (fun u43 w _ => Qa.calls t44.1 t44.2  t45 w  ht45)) <|
 .v 92 (.tuple #[vI t45.1, vI t45.2]) <|
 .v 101 (vI t45.1) <|
 .v 102 (vI t45.2) <|
 .v 18 (vI t45.1) <|
 .v 19 (vI t45.2) <| .nil) [4, 16, 19, 108, 999999] fun u43 a w' H => ?_
     replace G := qP G; obtain ⟨t47, ht47, G⟩ := G
     refine qg qd H (.v 103 (vI t42.1) <|
 .v 104 (vI t45.2) <|
 .cons [105] (qo 81 _ _ 105 [] (fun u46 w _ => Qx.calls t42.1 t45.2  t47 w  ht47)) <|
 .cons [108] (QV 108 0 ((u1 2).n 0) [vI 0, vI 0] [vI t47.Lo, vI t47.Hi] 48 [vI t47.Lo, vI t47.Hi]) <| .nil) [4, 108, 999999] fun u46 a w' H => ?_
     refine q7 ?_
     obtain rfl := sj G
     exact Xe H _ 108 ((u1 2).n 0) [vI t47.Lo, vI t47.Hi] 48 0 2 (by kernel_rfl) (by kernel_rfl) (by kernel_rfl) (by kernel_rfl)
    rw [if_neg c50] at G
    cases G
   rw [if_neg c103] at G
   by_cases c104 : t8 = 1
   ·rw [if_pos c104] at G; subst c104
    by_cases c70 : t9 = 0
    ·rw [if_pos c70] at G; subst c70
     refine qN qd H (.v 76 (vI 1) <|
 .v 77 (vI 0) <|
 .v 78 (vP 1 6) <|
 .v 79 (vP 1 6) <|
 .cons [80] (XX (fun u51 => .agg #[.func (.func 121) #[] #[], .func (.func 123) #[] #[]]) 80 999999 gk 1 6 2 Vd (fun w h => (Yc h).tab1)) <|
 .cons [15, 112] (qH (fun b => vP b 0) (fun u51 => [.nilFunc, .nilFunc]) 84 15 112) <|
 .cons [112] (XO (u' := fun u51 => [(112, .blk ((u51 5).n 0) [.func (.func 121) #[] #[], .func (.func 123) #[] #[]] 84)]) (X1 112 0 (fun u51 => ((u51 5).n 0)) (fun u51 => [.nilFunc, .nilFunc]) (fun u51 => [.func (.func 121) #[] #[], .func (.func 123) #[] #[]]) 84) (fun _ => by kernel_rfl)) <| .nil) [2, 3, 4, 15, 106, 107, 108, 112, 999999] fun u51 a w' H => ?_
     replace G := qP G; obtain ⟨t53, ht53, G⟩ := G
     replace G := qP G; obtain ⟨t54, ht54, G⟩ := G
     refine qg qd H (.v 82 (vP ((u51 5).n 0) 0) <|
 .cons [83] (qv (.func (.func 121) #[] #[]) 83 112 0 1 ((u51 5).n 0) [.func (.func 121) #[] #[], .func (.func 123) #[] #[]] 84) <|
 .cons [84] (qv (.agg #[vI a0.Lo, vI a0.Hi]) 84 106 0 2 ((u1 0).n 0) [vI a0.Lo, vI a0.Hi] 48) <|
 .cons [85] (qv (.agg #[vI a1.Lo, vI a1.Hi]) 85 107 0 2 ((u1 1).n 0) [vI a1.Lo, vI a1.Hi] 48) <|
 .cons [86] (qo 121 _ _ 86 [] (fun u52 w _ => XK.calls a0 a1  t53 w  ht53)) <|
 .v 87 (vI t53.1) <|
 .v 88 (vI t53.2) <|
 .cons [89] (qo 84 _ _ 89 [] (fun u52 w _ => Qa.calls t53.1 t53.2  t54 w  ht54)) <|
 .v 81 (.tuple #[vI t54.1, vI t54.2]) <|
 .v 90 (vI t54.1) <|
 .v 91 (vI t54.2) <|
 .v 16 (vI t54.1) <|
 .v 17 (vI t54.2) <| .nil) [2, 3, 4, 15, 16, 106, 107, 108, 112, 999999] fun u52 a w' H => ?_
     replace G := qP G; obtain ⟨t56, ht56, G⟩ := G
     replace G := qP G; obtain ⟨t57, ht57, G⟩ := G
     refine qg qd H (.v 93 (vP ((u51 5).n 0) 1) <|
 .cons [94] (qv (.func (.func 123) #[] #[]) 94 112 1 1 ((u51 5).n 0) [.func (.func 121) #[] #[], .func (.func 123) #[] #[]] 84) <|
 .cons [95] (qv (.agg #[vI a0.Lo, vI a0.Hi]) 95 106 0 2 ((u1 0).n 0) [vI a0.Lo, vI a0.Hi] 48) <|
 .cons [96] (qv (.agg #[vI a1.Lo, vI a1.Hi]) 96 107 0 2 ((u1 1).n 0) [vI a1.Lo, vI a1.Hi] 48) <|
 .cons [97] (qo 123 _ _ 97 [] (fun u55 w _ => XN.calls a0 a1  t56 w  ht56)) <|
 .v 98 (vI t56.1) <|
 .v 99 (vI t56.2) <|
 .cons [100] (qo 84 _ _ 100 [] (fun u55 w _ => Qa.calls t56.1 t56.2  t57 w  ht57)) <|
 .v 92 (.tuple #[vI t57.1, vI t57.2]) <|
 .v 101 (vI t57.1) <|
 .v 102 (vI t57.2) <|
 .v 18 (vI t57.1) <|
 .v 19 (vI t57.2) <| .nil) [4, 16, 19, 108, 999999] fun u55 a w' H => ?_
     replace G := qP G; obtain ⟨t59, ht59, G⟩ := G
     refine qg qd H (.v 103 (vI t54.1) <|
 .v 104 (vI t57.2) <|
 .cons [105] (qo 81 _ _ 105 [] (fun u58 w _ => Qx.calls t54.1 t57.2  t59 w  ht59)) <|
 .cons [108] (QV 108 0 ((u1 2).n 0) [vI 0, vI 0] [vI t59.Lo, vI t59.Hi] 48 [vI t59.Lo, vI t59.Hi]) <| .nil) [4, 108, 999999] fun u58 a w' H => ?_
     refine q7 ?_
     obtain rfl := sj G
     exact Xe H _ 108 ((u1 2).n 0) [vI t59.Lo, vI t59.Hi] 48 0 2 (by kernel_rfl) (by kernel_rfl) (by kernel_rfl) (by kernel_rfl)
    rw [if_neg c70] at G
    by_cases c71 : t9 = 1
    ·rw [if_pos c71] at G; subst c71
     refine qN qd H (.v 76 (vI 1) <|
 .v 77 (vI 1) <|
 .v 78 (vP 1 6) <|
 .v 79 (vP 1 8) <|
 .cons [80] (XX (fun u60 => .agg #[.nilFunc, .nilFunc]) 80 999999 gk 1 8 2 Vd (fun w h => (Yc h).tab1)) <|
 .cons [15, 113] (qH (fun b => vP b 0) (fun u60 => [.nilFunc, .nilFunc]) 84 15 113) <|
 .cons [113] (XO (u' := fun u60 => [(113, .blk ((u60 5).n 0) [.nilFunc, .nilFunc] 84)]) (X1 113 0 (fun u60 => ((u60 5).n 0)) (fun u60 => [.nilFunc, .nilFunc]) (fun u60 => [.nilFunc, .nilFunc]) 84) (fun _ => by kernel_rfl)) <| .nil) [2, 3, 4, 15, 106, 107, 108, 113, 999999] fun u60 a w' H => ?_
     refine qs ?_
     cases G
    rw [if_neg c71] at G
    by_cases c72 : t9 = 2
    ·rw [if_pos c72] at G; subst c72
     refine qN qd H (.v 76 (vI 1) <|
 .v 77 (vI 2) <|
 .v 78 (vP 1 6) <|
 .v 79 (vP 1 10) <|
 .cons [80] (XX (fun u61 => .agg #[.func (.func 122) #[] #[], .func (.func 124) #[] #[]]) 80 999999 gk 1 10 2 Vd (fun w h => (Yc h).tab1)) <|
 .cons [15, 114] (qH (fun b => vP b 0) (fun u61 => [.nilFunc, .nilFunc]) 84 15 114) <|
 .cons [114] (XO (u' := fun u61 => [(114, .blk ((u61 5).n 0) [.func (.func 122) #[] #[], .func (.func 124) #[] #[]] 84)]) (X1 114 0 (fun u61 => ((u61 5).n 0)) (fun u61 => [.nilFunc, .nilFunc]) (fun u61 => [.func (.func 122) #[] #[], .func (.func 124) #[] #[]]) 84) (fun _ => by kernel_rfl)) <| .nil) [2, 3, 4, 15, 106, 107, 108, 114, 999999] fun u61 a w' H => ?_
     replace G := qP G; obtain ⟨t63, ht63, G⟩ := G
     replace G := qP G; obtain ⟨t64, ht64, G⟩ := G
     refine qg qd H (.v 82 (vP ((u61 5).n 0) 0) <|
 .cons [83] (qv (.func (.func 122) #[] #[]) 83 114 0 1 ((u61 5).n 0) [.func (.func 122) #[] #[], .func (.func 124) #[] #[]] 84) <|
 .cons [84] (qv (.agg #[vI a0.Lo, vI a0.Hi]) 84 106 0 2 ((u1 0).n 0) [vI a0.Lo, vI a0.Hi] 48) <|
 .cons [85] (qv (.agg #[vI a1.Lo, vI a1.Hi]) 85 107 0 2 ((u1 1).n 0) [vI a1.Lo, vI a1.Hi] 48) <|
 .cons [86] (qo 122 _ _ 86 [] (fun u62 w _ => XL.calls a0 a1  t63 w  ht63)) <|
 .v 87 (vI t63.1) <|
 .v 88 (vI t63.2) <|
 .cons [89] (qo 84 _ _ 89 [] (fun u62 w _ => Qa.calls t63.1 t63.2  t64 w  ht64)) <|
 .v 81 (.tuple #[vI t64.1, vI t64.2]) <|
 .v 90 (vI t64.1) <|
 .v 91 (vI t64.2) <|
 .v 16 (vI t64.1) <|
 .v 17 (vI t64.2) <| .nil) [2, 3, 4, 15, 16, 106, 107, 108, 114, 999999] fun u62 a w' H => ?_
     replace G := qP G; obtain ⟨t66, ht66, G⟩ := G
     replace G := qP G; obtain ⟨t67, ht67, G⟩ := G
     refine qg qd H (.v 93 (vP ((u61 5).n 0) 1) <|
 .cons [94] (qv (.func (.func 124) #[] #[]) 94 114 1 1 ((u61 5).n 0) [.func (.func 122) #[] #[], .func (.func 124) #[] #[]] 84) <|
 .cons [95] (qv (.agg #[vI a0.Lo, vI a0.Hi]) 95 106 0 2 ((u1 0).n 0) [vI a0.Lo, vI a0.Hi] 48) <|
 .cons [96] (qv (.agg #[vI a1.Lo, vI a1.Hi]) 96 107 0 2 ((u1 1).n 0) [vI a1.Lo, vI a1.Hi] 48) <|
 .cons [97] (qo 124 _ _ 97 [] (fun u65 w _ => XM.calls a0 a1  t66 w  ht66)) <|
 .v 98 (vI t66.1) <|
 .v 99 (vI t66.2) <|
 .cons [100] (qo 84 _ _ 100 [] (fun u65 w _ => Qa.calls t66.1 t66.2  t67 w  ht67)) <|
 .v 92 (.tuple #[vI t67.1, vI t67.2]) <|
 .v 101 (vI t67.1) <|
 .v 102 (vI t67.2) <|
 .v 18 (vI t67.1) <|
 .v 19 (vI t67.2) <| .nil) [4, 16, 19, 108, 999999] fun u65 a w' H => ?_
     replace G := qP G; obtain ⟨t69, ht69, G⟩ := G
     refine qg qd H (.v 103 (vI t64.1) <|
 .v 104 (vI t67.2) <|
 .cons [105] (qo 81 _ _ 105 [] (fun u68 w _ => Qx.calls t64.1 t67.2  t69 w  ht69)) <|
 .cons [108] (QV 108 0 ((u1 2).n 0) [vI 0, vI 0] [vI t69.Lo, vI t69.Hi] 48 [vI t69.Lo, vI t69.Hi]) <| .nil) [4, 108, 999999] fun u68 a w' H => ?_
     refine q7 ?_
     obtain rfl := sj G
     exact Xe H _ 108 ((u1 2).n 0) [vI t69.Lo, vI t69.Hi] 48 0 2 (by kernel_rfl) (by kernel_rfl) (by kernel_rfl) (by kernel_rfl)
    rw [if_neg c72] at G
    cases G
   rw [if_neg c104] at G
   by_cases c105 : t8 = 2
   ·rw [if_pos c105] at G; subst c105
    by_cases c100 : t9 = 0
    ·rw [if_pos c100] at G; subst c100
     refine qN qd H (.v 76 (vI 2) <|
 .v 77 (vI 0) <|
 .v 78 (vP 1 12) <|
 .v 79 (vP 1 12) <|
 .cons [80] (XX (fun u73 => .agg #[.func (.func 121) #[] #[], .func (.func 122) #[] #[]]) 80 999999 gk 1 12 2 Vd (fun w h => (Yc h).tab1)) <|
 .cons [15, 115] (qH (fun b => vP b 0) (fun u73 => [.nilFunc, .nilFunc]) 84 15 115) <|
 .cons [115] (XO (u' := fun u73 => [(115, .blk ((u73 5).n 0) [.func (.func 121) #[] #[], .func (.func 122) #[] #[]] 84)]) (X1 115 0 (fun u73 => ((u73 5).n 0)) (fun u73 => [.nilFunc, .nilFunc]) (fun u73 => [.func (.func 121) #[] #[], .func (.func 122) #[] #[]]) 84) (fun _ => by kernel_rfl)) <| .nil) [2, 3, 4, 15, 106, 107, 108, 115, 999999] fun u73 a w' H => ?_
     replace G := qP G; obtain ⟨t75, ht75, G⟩ := G
     replace G := qP G; obtain ⟨t76, ht76, G⟩ := G
     refine qg qd H (.v 82 (vP ((u73 5).n 0) 0) <|
 .cons [83] (qv (.func (.func 121) #[] #[]) 83 115 0 1 ((u73 5).n 0) [.func (.func 121) #[] #[], .func (.func 122) #[] #[]] 84) <|
 .cons [84] (qv (.agg #[vI a0.Lo, vI a0.Hi]) 84 106 0 2 ((u1 0).n 0) [vI a0.Lo, vI a0.Hi] 48) <|
 .cons [85] (qv (.agg #[vI a1.Lo, vI a1.Hi]) 85 107 0 2 ((u1 1).n 0) [vI a1.Lo, vI a1.Hi] 48) <|
 .cons [86] (qo 121 _ _ 86 [] (fun u74 w _ => XK.calls a0 a1  t75 w  ht75)) <|
 .v 87 (vI t75.1) <|
 .v 88 (vI t75.2) <|
 .cons [89] (qo 84 _ _ 89 [] (fun u74 w _ => Qa.calls t75.1 t75.2  t76 w  ht76)) <|
 .v 81 (.tuple #[vI t76.1, vI t76.2]) <|
 .v 90 (vI t76.1) <|
 .v 91 (vI t76.2) <|
 .v 16 (vI t76.1) <|
 .v 17 (vI t76.2) <| .nil) [2, 3, 4, 15, 16, 106, 107, 108, 115, 999999] fun u74 a w' H => ?_
     replace G := qP G; obtain ⟨t78, ht78, G⟩ := G
     replace G := qP G; obtain ⟨t79, ht79, G⟩ := G
     refine qg qd H (.v 93 (vP ((u73 5).n 0) 1) <|
 .cons [94] (qv (.func (.func 122) #[] #[]) 94 115 1 1 ((u73 5).n 0) [.func (.func 121) #[] #[], .func (.func 122) #[] #[]] 84) <|
 .cons [95] (qv (.agg #[vI a0.Lo, vI a0.Hi]) 95 106 0 2 ((u1 0).n 0) [vI a0.Lo, vI a0.Hi] 48) <|
 .cons [96] (qv (.agg #[vI a1.Lo, vI a1.Hi]) 96 107 0 2 ((u1 1).n 0) [vI a1.Lo, vI a1.Hi] 48) <|
 .cons [97] (qo 122 _ _ 97 [] (fun u77 w _ => XL.calls a0 a1  t78 w  ht78)) <|
 .v 98 (vI t78.1) <|
 .v 99 (vI t78.2) <|
 .cons [100] (qo 84 _ _ 100 [] (fun u77 w _ => Qa.calls t78.1 t78.2  t79 w  ht79)) <|
 .v 92 (.tuple #[vI t79.1, vI t79.2]) <|
 .v 101 (vI t79.1) <|
 .v 102 (vI t79.2) <|
 .v 18 (vI t79.1) <|
 .v 19 (vI t79.2) <| .nil) [4, 16, 19, 108, 999999] fun u77 a w' H => ?_
     replace G := qP G; obtain ⟨t81, ht81, G⟩ := G
     refine qg qd H (.v 103 (vI t76.1) <|
 .v 104 (vI t79.2) <|
 .cons [105] (qo 81 _ _ 105 [] (fun u80 w _ => Qx.calls t76.1 t79.2  t81 w  ht81)) <|
 .cons [108] (QV 108 0 ((u1 2).n 0) [vI 0, vI 0] [vI t81.Lo, vI t81.Hi] 48 [vI t81.Lo, vI t81.Hi]) <| .nil) [4, 108, 999999] fun u80 a w' H => ?_
     refine q7 ?_
     obtain rfl := sj G
     exact Xe H _ 108 ((u1 2).n 0) [vI t81.Lo, vI t81.Hi] 48 0 2 (by kernel_rfl) (by kernel_rfl) (by kernel_rfl) (by kernel_rfl)
    rw [if_neg c100] at G
    by_cases c101 : t9 = 1
    ·rw [if_pos c101] at G; subst c101
     refine qN qd H (.v 76 (vI 2) <|
 .v 77 (vI 1) <|
 .v 78 (vP 1 12) <|
 .v 79 (vP 1 14) <|
 .cons [80] (XX (fun u82 => .agg #[.func (.func 121) #[] #[], .func (.func 124) #[] #[]]) 80 999999 gk 1 14 2 Vd (fun w h => (Yc h).tab1)) <|
 .cons [15, 116] (qH (fun b => vP b 0) (fun u82 => [.nilFunc, .nilFunc]) 84 15 116) <|
 .cons [116] (XO (u' := fun u82 => [(116, .blk ((u82 5).n 0) [.func (.func 121) #[] #[], .func (.func 124) #[] #[]] 84)]) (X1 116 0 (fun u82 => ((u82 5).n 0)) (fun u82 => [.nilFunc, .nilFunc]) (fun u82 => [.func (.func 121) #[] #[], .func (.func 124) #[] #[]]) 84) (fun _ => by kernel_rfl)) <| .nil) [2, 3, 4, 15, 106, 107, 108, 116, 999999] fun u82 a w' H => ?_
     replace G := qP G; obtain ⟨t84, ht84, G⟩ := G
     replace G := qP G; obtain ⟨t85, ht85, G⟩ := G
     refine qg qd H (.v 82 (vP ((u82 5).n 0) 0) <|
 .cons [83] (qv (.func (.func 121) #[] #[]) 83 116 0 1 ((u82 5).n 0) [.func (.func 121) #[] #[], .func (.func 124) #[] #[]] 84) <|
 .cons [84] (qv (.agg #[vI a0.Lo, vI a0.Hi]) 84 106 0 2 ((u1 0).n 0) [vI a0.Lo, vI a0.Hi] 48) <|
 .cons [85] (qv (.agg #[vI a1.Lo, vI a1.Hi]) 85 107 0 2 ((u1 1).n 0) [vI a1.Lo, vI a1.Hi] 48) <|
 .cons [86] (qo 121 _ _ 86 [] (fun u83 w _ => XK.calls a0 a1  t84 w  ht84)) <|
 .v 87 (vI t84.1) <|
 .v 88 (vI t84.2) <|
 .cons [89] (qo 84 _ _ 89 [] (fun u83 w _ => Qa.calls t84.1 t84.2  t85 w  ht85)) <|
 .v 81 (.tuple #[vI t85.1, vI t85.2]) <|
 .v 90 (vI t85.1) <|
 .v 91 (vI t85.2) <|
 .v 16 (vI t85.1) <|
 .v 17 (vI t85.2) <| .nil) [2, 3, 4, 15, 16, 106, 107, 108, 116, 999999] fun u83 a w' H => ?_
     replace G := qP G; obtain ⟨t87, ht87, G⟩ := G
     replace G := qP G; obtain ⟨t88, ht88, G⟩ := G
     refine qg qd H (.v 93 (vP ((u82 5).n 0) 1) <|
 .cons [94] (qv (.func (.func 124) #[] #[]) 94 116 1 1 ((u82 5).n 0) [.func (.func 121) #[] #[], .func (.func 124) #[] #[]] 84) <|
 .cons [95] (qv (.agg #[vI a0.Lo, vI a0.Hi]) 95 106 0 2 ((u1 0).n 0) [vI a0.Lo, vI a0.Hi] 48) <|
 .cons [96] (qv (.agg #[vI a1.Lo, vI a1.Hi]) 96 107 0 2 ((u1 1).n 0) [vI a1.Lo, vI a1.Hi] 48) <|
 .cons [97] (qo 124 _ _ 97 [] (fun u86 w _ => XM.calls a0 a1  t87 w  ht87)) <|
 .v 98 (vI t87.1) <|
 .v 99 (vI t87.2) <|
 .cons [100] (qo 84 _ _ 100 [] (fun u86 w _ => Qa.calls t87.1 t87.2  t88 w  ht88)) <|
 .v 92 (.tuple #[vI t88.1, vI t88.2]) <|
 .v 101 (vI t88.1) <|
 .v 102 (vI t88.2) <|
 .v 18 (vI t88.1) <|
 .v 19 (vI t88.2) <| .nil) [4, 16, 19, 108, 999999] fun u86 a w' H => ?_
     replace G := qP G; obtain ⟨t90, ht90, G⟩ := G
     refine qg qd H (.v 103 (vI t85.1) <|
 .v 104 (vI t88.2) <|
 .cons [105] (qo 81 _ _ 105 [] (fun u89 w _ => Qx.calls t85.1 t88.2  t90 w  ht90)) <|
 .cons [108] (QV 108 0 ((u1 2).n 0) [vI 0, vI 0] [vI t90.Lo, vI t90.Hi] 48 [vI t90.Lo, vI t90.Hi]) <| .nil) [4, 108, 999999] fun u89 a w' H => ?_
     refine q7 ?_
     obtain rfl := sj G
     exact Xe H _ 108 ((u1 2).n 0) [vI t90.Lo, vI t90.Hi] 48 0 2 (by kernel_rfl) (by kernel_rfl) (by kernel_rfl) (by kernel_rfl)
    rw [if_neg c101] at G
    by_cases c102 : t9 = 2
    ·rw [if_pos c102] at G; subst c102
     refine qN qd H (.v 76 (vI 2) <|
 .v 77 (vI 2) <|
 .v 78 (vP 1 12) <|
 .v 79 (vP 1 16) <|
 .cons [80] (XX (fun u91 => .agg #[.func (.func 123) #[] #[], .func (.func 124) #[] #[]]) 80 999999 gk 1 16 2 Vd (fun w h => (Yc h).tab1)) <|
 .cons [15, 117] (qH (fun b => vP b 0) (fun u91 => [.nilFunc, .nilFunc]) 84 15 117) <|
 .cons [117] (XO (u' := fun u91 => [(117, .blk ((u91 5).n 0) [.func (.func 123) #[] #[], .func (.func 124) #[] #[]] 84)]) (X1 117 0 (fun u91 => ((u91 5).n 0)) (fun u91 => [.nilFunc, .nilFunc]) (fun u91 => [.func (.func 123) #[] #[], .func (.func 124) #[] #[]]) 84) (fun _ => by kernel_rfl)) <| .nil) [2, 3, 4, 15, 106, 107, 108, 117, 999999] fun u91 a w' H => ?_
     replace G := qP G; obtain ⟨t93, ht93, G⟩ := G
     replace G := qP G; obtain ⟨t94, ht94, G⟩ := G
     refine qg qd H (.v 82 (vP ((u91 5).n 0) 0) <|
 .cons [83] (qv (.func (.func 123) #[] #[]) 83 117 0 1 ((u91 5).n 0) [.func (.func 123) #[] #[], .func (.func 124) #[] #[]] 84) <|
 .cons [84] (qv (.agg #[vI a0.Lo, vI a0.Hi]) 84 106 0 2 ((u1 0).n 0) [vI a0.Lo, vI a0.Hi] 48) <|
 .cons [85] (qv (.agg #[vI a1.Lo, vI a1.Hi]) 85 107 0 2 ((u1 1).n 0) [vI a1.Lo, vI a1.Hi] 48) <|
 .cons [86] (qo 123 _ _ 86 [] (fun u92 w _ => XN.calls a0 a1  t93 w  ht93)) <|
 .v 87 (vI t93.1) <|
 .v 88 (vI t93.2) <|
 .cons [89] (qo 84 _ _ 89 [] (fun u92 w _ => Qa.calls t93.1 t93.2  t94 w  ht94)) <|
 .v 81 (.tuple #[vI t94.1, vI t94.2]) <|
 .v 90 (vI t94.1) <|
 .v 91 (vI t94.2) <|
 .v 16 (vI t94.1) <|
 .v 17 (vI t94.2) <| .nil) [2, 3, 4, 15, 16, 106, 107, 108, 117, 999999] fun u92 a w' H => ?_
     replace G := qP G; obtain ⟨t96, ht96, G⟩ := G
     replace G := qP G; obtain ⟨t97, ht97, G⟩ := G
     refine qg qd H (.v 93 (vP ((u91 5).n 0) 1) <|
 .cons [94] (qv (.func (.func 124) #[] #[]) 94 117 1 1 ((u91 5).n 0) [.func (.func 123) #[] #[], .func (.func 124) #[] #[]] 84) <|
 .cons [95] (qv (.agg #[vI a0.Lo, vI a0.Hi]) 95 106 0 2 ((u1 0).n 0) [vI a0.Lo, vI a0.Hi] 48) <|
 .cons [96] (qv (.agg #[vI a1.Lo, vI a1.Hi]) 96 107 0 2 ((u1 1).n 0) [vI a1.Lo, vI a1.Hi] 48) <|
 .cons [97] (qo 124 _ _ 97 [] (fun u95 w _ => XM.calls a0 a1  t96 w  ht96)) <|
 .v 98 (vI t96.1) <|
 .v 99 (vI t96.2) <|
 .cons [100] (qo 84 _ _ 100 [] (fun u95 w _ => Qa.calls t96.1 t96.2  t97 w  ht97)) <|
 .v 92 (.tuple #[vI t97.1, vI t97.2]) <|
 .v 101 (vI t97.1) <|
 .v 102 (vI t97.2) <|
 .v 18 (vI t97.1) <|
 .v 19 (vI t97.2) <| .nil) [4, 16, 19, 108, 999999] fun u95 a w' H => ?_
     replace G := qP G; obtain ⟨t99, ht99, G⟩ := G
     refine qg qd H (.v 103 (vI t94.1) <|
 .v 104 (vI t97.2) <|
 .cons [105] (qo 81 _ _ 105 [] (fun u98 w _ => Qx.calls t94.1 t97.2  t99 w  ht99)) <|
 .cons [108] (QV 108 0 ((u1 2).n 0) [vI 0, vI 0] [vI t99.Lo, vI t99.Hi] 48 [vI t99.Lo, vI t99.Hi]) <| .nil) [4, 108, 999999] fun u98 a w' H => ?_
     refine q7 ?_
     obtain rfl := sj G
     exact Xe H _ 108 ((u1 2).n 0) [vI t99.Lo, vI t99.Hi] 48 0 2 (by kernel_rfl) (by kernel_rfl) (by kernel_rfl) (by kernel_rfl)
    rw [if_neg c102] at G
    cases G
   rw [if_neg c105] at G
   cases G
theorem QX.calls (k0 : Nat) (a0 : List qa) (p_a0 : Option Addr) (c_a0 : Nat) (r : Int) (w : World) (hB : Yj [Qh qi 2 p_a0 c_a0 a0 qb] w) (G : QX k0 a0 = some r) :
  Calls Tryz.prog 69 #[.slice p_a0 a0.length c_a0, .func (.func 42) #[] #[]] w fun e w' => e = .returned (vI r) ∧ Below w.heap.size w w' := by
 obtain ⟨fr, hfr⟩ : ∃ fr : Nat → Prop, ∀ j, fr j := ⟨fun _ => True, fun _ => trivial⟩
 have hBf : ∀ j, w.heap.size ≤ j → fr j := fun j _ => hfr j
 refine QQ (args := [.slice p_a0 a0.length c_a0, .func (.func 42) #[] #[]]) 19 [(19, Qh qi 2 p_a0 c_a0 a0 qb)] (by
  intro x hx
  simp only [List.mem_cons, List.not_mem_nil, or_false] at hx
  rcases hx with rfl
  exact Ql (qq hB.1) (fun _ _ => trivial) (by decide) _) Tryz.func69 rfl (by kernel_rfl) (by kernel_rfl) fun a H => ?_
 unfold QX at G
 refine qg qd H (.v 4 (vI 0) <| .nil) [0, 1, 19] fun u1 a w' H => ?_
 refine qs ?_
 obtain ⟨j2, hj2, Gj2⟩ := qP G
 refine Qw (fun a w' => ∃ j2v, j2 = Sum.inr j2v ∧ RL w 19 [] a w') ?_ ?_
 ·clear H; rintro a w' ⟨j2v, rfl, H⟩; have G := Gj2; clear Gj2; dsimp only at G
  refine qg qd H (.v 4 (vI (-1)) <| .nil) [4] fun u3 a w' H => ?_
  refine q7 ?_
  obtain rfl := sj G
  exact QG H _ (by kernel_rfl) (by kernel_rfl)
 ·have G := hj2; clear hj2
  refine qg qd H (.v 6 (.slice p_a0 a0.length c_a0) <|
 .v 7 (vI (a0.length : Int)) <|
 .v 8 (vI 0) <| .nil) [0, 1, 7, 8, 19] fun u4 a w' H => ?_
  refine qA ?_
  refine Qv (fun m a w' => ∃ x5 : Int, QX.l6 k0 a0 m x5 = some j2 ∧ RL w 19 [(0, sS p_a0 a0.length c_a0), (1, .slot true (.func (.func 42) #[] #[])), (7, (sI (a0.length : Int))), (8, sI x5), (19, Qh qi 2 p_a0 c_a0 a0 qb)] a w') k0 ⟨_, G, H.toM _⟩ ?_
  clear G H
  rintro (_ | k) a w' ⟨x5, G, H⟩
  ·exact absurd G (by unfold QX.l6; exact fun h => by cases h)
  ·unfold QX.l6 at G
   refine qg qd H (.v 9 (.bool (decide (x5 < (a0.length : Int)))) <| .nil) [0, 1, 7, 8, 9, 19] fun u7 a w' H => ?_
   refine qs ?_
   refine Qr H (decide (x5 < (a0.length : Int))) (fun c16 => ?_) fun c16 => ?_
   ·rw [if_pos c16] at G
    refine qT ?_
    refine qs ?_
    refine qA ?_
    refine qg qd H (.v 10 (vI x5) <|
 .v 5 (vI x5) <| .nil) [0, 1, 5, 7, 8, 19] fun u8 a w' H => ?_
    refine qs ?_
    replace G := gd G; obtain ⟨b10, G⟩ := G
    obtain ⟨t11, ht11, G⟩ := qP G
    obtain ⟨t12, ht12, G⟩ := qP G
    refine qN qd H (.v 11 (.func (.func 42) #[] #[]) <|
 .v 12 (.slice p_a0 a0.length c_a0) <|
 .v 13 (vI x5) <|
 .cons [14] (qy 19 (Qh qi 2 p_a0 c_a0 a0 qb) (.pointer (some ⟨XB p_a0, XC p_a0 + x5.toNat * 2, none⟩)) 14 fun _ w h => YQ 22 .i64 x5 p_a0 a0.length c_a0 a0 qb (qq h).2 qh rfl b10) <|
 .cons [15] (qy 19 (Qh qi 2 p_a0 c_a0 a0 qb) (.agg #[vI t11.Lo, vI t11.Hi]) 15 fun _ w h => Ya qb (qq h).2 qh ht11 0 2 [vI t11.Lo, vI t11.Hi]) <|
 .cons [16] (qo 42 _ _ 16 [] (fun u9 w _ => Qz.calls t11  t12 w  ht12)) <| .nil) [0, 1, 5, 7, 8, 16, 19] fun u9 a w' H => ?_
    refine Qr H t12 (fun c15 => ?_) fun c15 => ?_
    ·rw [if_pos c15] at G
     refine qg qd H (.v 17 (vI x5) <|
 .v 4 (vI x5) <| .nil) [4] fun u13 a w' H => ?_
     refine q7 ?_
     obtain rfl := sj G
     replace G := Gj2
     obtain rfl := sj G
     exact QG H _ (by kernel_rfl) (by kernel_rfl)
    ·rw [if_neg (nt c15)] at G
     refine qT ?_
     refine qN qd H (.v 18 (vI (qe (x5 + 1))) <|
 .v 8 (vI (qe (x5 + 1))) <| .nil) [0, 1, 7, 8, 19] fun u14 a w' H => ?_
     exact ⟨k, Nat.lt_succ_self k, _, G, H.toM _⟩
   ·rw [if_neg (nt c16)] at G
    refine QO rfl ?_
    obtain rfl := sj G
    exact ⟨_, rfl, H.toM _⟩
theorem Ys.calls (k0 : Nat) (a0 : List qa) (p_a0 : Option Addr) (c_a0 : Nat) (r : Bool) (w : World) (hB : Yj [Qh qi 2 p_a0 c_a0 a0 qb] w) (G : Ys k0 a0 = some r) :
  Calls Tryz.prog 30 #[.slice p_a0 a0.length c_a0, .func (.func 42) #[] #[]] w fun e w' => e = .returned (.bool r) ∧ Below w.heap.size w w' := by
 obtain ⟨fr, hfr⟩ : ∃ fr : Nat → Prop, ∀ j, fr j := ⟨fun _ => True, fun _ => trivial⟩
 have hBf : ∀ j, w.heap.size ≤ j → fr j := fun j _ => hfr j
 refine QQ (args := [.slice p_a0 a0.length c_a0, .func (.func 42) #[] #[]]) 9 [(9, Qh qi 2 p_a0 c_a0 a0 qb)] (by
  intro x hx
  simp only [List.mem_cons, List.not_mem_nil, or_false] at hx
  rcases hx with rfl
  exact Ql (qq hB.1) (fun _ _ => trivial) (by decide) _) Tryz.func30 rfl (by kernel_rfl) (by kernel_rfl) fun a H => ?_
 unfold Ys at G
 refine qg qd H (.v 4 (.bool false) <| .nil) [0, 1, 9] fun u1 a w' H => ?_
 obtain ⟨t3, ht3, G⟩ := qP G
 refine qg qd H (.v 5 (.slice p_a0 a0.length c_a0) <|
 .v 6 (.func (.func 42) #[] #[]) <|
 .cons [7] (Xi [9] (fun u2 => [Qh qi 2 p_a0 c_a0 a0 qb]) 69 _ _ 7 (fun u2 w hF => QX.calls k0 a0 p_a0 c_a0 t3 w  ⟨(ZN (qq hF.1)), trivial⟩ ht3)) <|
 .v 8 (.bool (decide (t3 ≥ 0))) <|
 .v 4 (.bool (decide (t3 ≥ 0))) <| .nil) [4] fun u2 a w' H => ?_
 refine q7 ?_
 obtain rfl := sj G
 exact QG H _ (by kernel_rfl) (by kernel_rfl)
end Go.Proofs.YtglcmhldonkfdaaGreatDoor
