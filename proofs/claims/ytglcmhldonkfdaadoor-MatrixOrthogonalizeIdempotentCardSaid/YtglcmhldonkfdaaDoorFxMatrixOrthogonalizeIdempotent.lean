/- Functions that the law MatrixOrthogonalizeIdempotent alone reaches. Printed by a program of this session. -/
import Derived.Test.YtglcmhldonkfdaaDoorFn3
set_option linter.unusedVariables false
set_option linter.unusedSimpArgs false
set_option maxRecDepth 100000
namespace Go.Proofs.YtglcmhldonkfdaaDoor
open Go Go.RowKit Go.Sx Go.Proofs
set_option maxHeartbeats 4000000 in
theorem armillaryref04_Length.calls (k0 : Nat) (a0 : List Int) (p_a0 : Option Addr) (c_a0 : Nat) (r : Int) (w : World) (hB : AllH [rdl anyF 1 p_a0 c_a0 a0 en_i64] w) (G : armillaryref04_Length k0 a0 = some r) :
  Calls Tryd.prog 34 #[.slice p_a0 a0.length c_a0] w fun e w' => e = .returned (vI r) ∧ Below w.heap.size w w' := by
 obtain ⟨fr, hfr⟩ : ∃ fr : Nat → Prop, ∀ j, fr j := ⟨fun _ => True, fun _ => trivial⟩
 have hBf : ∀ j, w.heap.size ≤ j → fr j := fun j _ => hfr j
 refine k_enterF (args := [.slice p_a0 a0.length c_a0]) 42 [(42, rdl anyF 1 p_a0 c_a0 a0 en_i64)] (by
  intro x hx
  simp only [List.mem_cons, List.not_mem_nil, or_false] at hx
  rcases hx with rfl
  exact rdF_fact (rdF_of hB.1) (fun _ _ => trivial) (by decide) _) Tryd.func34 rfl (by kernel_rfl) (by kernel_rfl) fun a H => ?_
 unfold armillaryref04_Length at G
 refine k_seq ?_
 refine k_rg mixed H (.v 2 (vI 0) <| .nil) fun u1 a w' H => ?_
 replace H := H.kp [0, 42]
 refine k_seq ?_
 refine k_rg mixed H (.v 3 (vI 0) <| .nil) fun u2 a w' H => ?_
 replace H := H.kp [0, 3, 42]
 refine k_seq ?_
 replace G := bnd G; obtain ⟨j4, hj4, G⟩ := G
 refine k_join (fun a w' => Rep w.heap.size w 42 (ofL [(3, sI j4)]) a w') ?_ ?_
 ·clear H; intro a w' H
  refine k_seq ?_
  refine k_rg mixed H (.v 5 (vI 0) <|
   .v 6 (vI 2147483648) <| .nil) fun u5 a w' H => ?_
  replace H := H.kp [3, 5, 6]
  refine k_seq ?_
  replace G := bnd G; obtain ⟨j7, hj7, G⟩ := G
  refine k_join (fun a w' => Rep w.heap.size w 42 (ofL [(5, sI j7)]) a w') ?_ ?_
  ·clear H; intro a w' H
   refine k_seq ?_
   refine k_rg mixed H (.v 41 (vI j7) <|
   .v 2 (vI j7) <| .nil) fun u8 a w' H => ?_
   replace H := H.kp [2]
   refine k_ret ?_
   obtain rfl := Option.some.inj G
   exact k_done0 H _ (by kernel_rfl) (by kernel_rfl)
  ·clear G; replace G := hj7; clear hj7
   refine k_block ?_
   refine k_loopJ (fun m a w' => ∃ x9 : Int, ∃ x10 : Int, armillaryref04_Length.l11 k0 a0 j4 m x9 x10 = some j7 ∧ Rep w.heap.size w 42 (ofL [(3, sI j4), (5, sI x9), (6, sI x10)]) a w') k0 ⟨_, _, G, H.toL _ (by kernel_rfl)⟩ ?_
   clear G H
   rintro (_ | k) a w' ⟨x9, x10, G, H⟩
   ·exact absurd G (by unfold armillaryref04_Length.l11; exact fun h => by cases h)
   ·unfold armillaryref04_Length.l11 at G
    refine k_seq ?_
    refine k_seq ?_
    refine k_rg mixed H (.v 25 (vI x9) <|
   .v 26 (vI x10) <|
   .v 27 (.bool (decide (x9 < x10))) <| .nil) fun u12 a w' H => ?_
    replace H := H.kp [3, 5, 6, 27]
    refine k_cond H (by kernel_rfl) (t := decide (x9 < x10)) (by kernel_rfl) (fun c19 => ?_) (fun c19 => ?_)
    ·rw [if_pos c19] at G
     refine k_skip ?_
     refine k_block ?_
     refine k_seq ?_
     refine k_rg mixed H (.v 28 (vI x9) <|
   .v 29 (vI x10) <|
   .v 30 (vI (w_i64 (x9 + x10))) <|
   .v 31 (vI (w_i64 ((w_i64 (x9 + x10)) + 1))) <|
   .v 32 (vI (w_i64 (Int.tdiv (w_i64 ((w_i64 (x9 + x10)) + 1)) 2))) <|
   .v 7 (vI (w_i64 (Int.tdiv (w_i64 ((w_i64 (x9 + x10)) + 1)) 2))) <| .nil) fun u13 a w' H => ?_
     replace H := H.kp [3, 5, 6, 7]
     refine k_seq ?_
     replace G := bnd G; obtain ⟨z15, hz15, G⟩ := G
     replace hz15 := Option.some.inj hz15
     refine k_rg mixed H (.v 33 (vI (w_i64 (Int.tdiv (w_i64 ((w_i64 (x9 + x10)) + 1)) 2))) <|
   .v 34 (vI (w_i64 (Int.tdiv (w_i64 ((w_i64 (x9 + x10)) + 1)) 2))) <|
   .cons [35] (ok_as (u' := fun u14 => [(35, sI z15)]) (ok_val (fun u14 => vI (w_i64 ((w_i64 (Int.tdiv (w_i64 ((w_i64 (x9 + x10)) + 1)) 2)) * (w_i64 (Int.tdiv (w_i64 ((w_i64 (x9 + x10)) + 1)) 2))))) 35) (fun _ => by rw [← hz15])) <|
   .v 36 (vI j4) <|
   .v 37 (.bool (decide (z15 ≤ j4))) <| .nil) fun u14 a w' H => ?_
     replace H := H.kp [3, 5, 6, 7, 37]
     refine k_cond H (by kernel_rfl) (t := decide (z15 ≤ j4)) (by kernel_rfl) (fun c18 => ?_) (fun c18 => ?_)
     ·rw [if_pos c18] at G
      refine k_rg mixed H (.v 38 (vI (w_i64 (Int.tdiv (w_i64 ((w_i64 (x9 + x10)) + 1)) 2))) <|
   .v 5 (vI (w_i64 (Int.tdiv (w_i64 ((w_i64 (x9 + x10)) + 1)) 2))) <| .nil) fun u16 a w' H => ?_
      replace H := H.kp [3, 5, 6]
      exact ⟨k, Nat.lt_succ_self k, _, _, G, H.toL _ (by kernel_rfl)⟩
     ·rw [if_neg (nt c18)] at G
      refine k_rg mixed H (.v 39 (vI (w_i64 (Int.tdiv (w_i64 ((w_i64 (x9 + x10)) + 1)) 2))) <|
   .v 40 (vI (w_i64 ((w_i64 (Int.tdiv (w_i64 ((w_i64 (x9 + x10)) + 1)) 2)) - 1))) <|
   .v 6 (vI (w_i64 ((w_i64 (Int.tdiv (w_i64 ((w_i64 (x9 + x10)) + 1)) 2)) - 1))) <| .nil) fun u17 a w' H => ?_
      replace H := H.kp [3, 5, 6]
      exact ⟨k, Nat.lt_succ_self k, _, _, G, H.toL _ (by kernel_rfl)⟩
    ·rw [if_neg (nt c19)] at G
     refine k_exit rfl ?_
     obtain rfl := Option.some.inj G
     exact H.toL _ (by kernel_rfl)
 ·clear G; replace G := hj4; clear hj4
  refine k_seq ?_
  refine k_rg mixed H (.v 4 (vI 0) <| .nil) fun u20 a w' H => ?_
  replace H := H.kp [0, 3, 4, 42]
  refine k_block ?_
  refine k_loopJ (fun m a w' => ∃ x21 : Int, ∃ x22 : Int, armillaryref04_Length.l23 k0 a0 m x21 x22 = some j4 ∧ Rep w.heap.size w 42 (ofL [(0, sS p_a0 a0.length c_a0), (3, sI x21), (4, sI x22), (42, rdl anyF 1 p_a0 c_a0 a0 en_i64)]) a w') k0 ⟨_, _, G, H.toL _ (by kernel_rfl)⟩ ?_
  clear G H
  rintro (_ | k) a w' ⟨x21, x22, G, H⟩
  ·exact absurd G (by unfold armillaryref04_Length.l23; exact fun h => by cases h)
  ·unfold armillaryref04_Length.l23 at G
   refine k_seq ?_
   refine k_seq ?_
   refine k_rg mixed H (.v 8 (vI x22) <|
   .v 9 (.slice p_a0 a0.length c_a0) <|
   .v 10 (vI (a0.length : Int)) <|
   .v 11 (.bool (decide (x22 < (a0.length : Int)))) <| .nil) fun u24 a w' H => ?_
   replace H := H.kp [0, 3, 4, 11, 42]
   refine k_cond H (by kernel_rfl) (t := decide (x22 < (a0.length : Int))) (by kernel_rfl) (fun c32 => ?_) (fun c32 => ?_)
   ·rw [if_pos c32] at G
    refine k_skip ?_
    refine k_seq ?_
    refine k_block ?_
    replace G := gd G; obtain ⟨b26, G⟩ := G
    replace G := bnd G; obtain ⟨t27, ht27, G⟩ := G
    have P28 := ptr_of (en := en_i64) (l := a0) (rdF_of (H.at (K := rdl anyF 1 p_a0 c_a0 a0 en_i64) 42 (by kernel_rfl))).2 en_i64_len
    replace G := gd G; obtain ⟨b29, G⟩ := G
    replace G := bnd G; obtain ⟨t30, ht30, G⟩ := G
    refine k_rg mixed H (.v 14 (vI x21) <|
   .v 15 (.slice p_a0 a0.length c_a0) <|
   .v 16 (vI x22) <|
   .cons [17] (ok_val (fun u25 => .pointer (some ⟨hdB p_a0, hdO p_a0 + x22.toNat * 1, none⟩)) 17 (hv := fun _ _ => ix_pure (t := 32) (k := .i64) (i := x22) (p := p_a0) (n := a0.length) (cap := c_a0) (x := a0) P28 rfl b26 (by kernel_rfl))) <|
   .cons [18] (ok_valL [42] (fun u25 => [rdl anyF 1 p_a0 c_a0 a0 en_i64]) (fun u25 => vI t27) (fun u25 => true) [true] 18 (fun u25 w hg hF => ld_row (en := en_i64) (rdF_of hF.1).2 en_i64_len ht27 0 1 [vI t27] rfl (by kernel_rfl))) <|
   .v 19 (.slice p_a0 a0.length c_a0) <|
   .v 20 (vI x22) <|
   .cons [21] (ok_val (fun u25 => .pointer (some ⟨hdB p_a0, hdO p_a0 + x22.toNat * 1, none⟩)) 21 (hv := fun _ _ => ix_pure (t := 32) (k := .i64) (i := x22) (p := p_a0) (n := a0.length) (cap := c_a0) (x := a0) P28 rfl b29 (by kernel_rfl))) <|
   .cons [22] (ok_valL [42] (fun u25 => [rdl anyF 1 p_a0 c_a0 a0 en_i64]) (fun u25 => vI t30) (fun u25 => true) [true] 22 (fun u25 w hg hF => ld_row (en := en_i64) (rdF_of hF.1).2 en_i64_len ht30 0 1 [vI t30] rfl (by kernel_rfl))) <|
   .v 23 (vI (w_i64 (t27 * t30))) <|
   .v 24 (vI (w_i64 (x21 + (w_i64 (t27 * t30))))) <|
   .v 3 (vI (w_i64 (x21 + (w_i64 (t27 * t30))))) <| .nil) fun u25 a w' H => ?_
    replace H := H.kp [0, 3, 4, 42]
    refine k_rg mixed H (.v 12 (vI x22) <|
   .v 13 (vI (w_i64 (x22 + 1))) <|
   .v 4 (vI (w_i64 (x22 + 1))) <| .nil) fun u31 a w' H => ?_
    replace H := H.kp [0, 3, 4, 42]
    exact ⟨k, Nat.lt_succ_self k, _, _, G, H.toL _ (by kernel_rfl)⟩
   ·rw [if_neg (nt c32)] at G
    refine k_exit rfl ?_
    obtain rfl := Option.some.inj G
    exact H.toL _ (by kernel_rfl)
end Go.Proofs.YtglcmhldonkfdaaDoor
