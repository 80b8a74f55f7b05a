/- Each function of the program answers as the plain Lean function of its name (part 1). Printed by a program of this session. -/
import Derived.Test.YtglcmhldonkfdaaGreatDoorFn0
set_option linter.unusedVariables false
set_option linter.unusedSimpArgs false
set_option maxRecDepth 100000
set_option maxHeartbeats 4000000
namespace Go.Proofs.YtglcmhldonkfdaaGreatDoor
open Go Go.RowKit Go.Sx Go.Proofs
theorem qw.calls (k0 : Nat) (a0 : List (List qa)) (p_a0 : Option Addr) (c_a0 : Nat) (L_a0 : List (Sl qa)) (r : List (List qa) × Bool) (w : World) (h_a0 : a0 = L_a0.map Sl.l) (hB : Yj [Qh qi 1 p_a0 c_a0 L_a0 ql, QA qi qc.toPart L_a0, gk] w) (G : qw k0 a0 = some r) :
  Calls Tryz.prog 10 #[.slice p_a0 L_a0.length c_a0] w fun e w' => ∃ g : Gh, e = .returned (.tuple #[slgd_S_TInterval g 0 r.1, .bool r.2]) ∧ Y7 (YT []) w w' ∧ YD w.heap.size (YT []) (JG w.heap.size []) [fun _ => QU 22 1 (g.o 0) (g.n 0) (dlgd_S_TInterval g 0 r.1) ql, fun fr => QA fr qc.toPart (dlgd_S_TInterval g 0 r.1)] w' := by
 obtain ⟨fr, hfr, hBf⟩ := J4 w []
 refine QQ (args := [.slice p_a0 L_a0.length c_a0]) 161 [(161, Qh qi 1 p_a0 c_a0 L_a0 ql), (162, QA qi qc.toPart L_a0), (999999, gk)] (by
  intro x hx
  simp only [List.mem_cons, List.not_mem_nil, or_false] at hx
  rcases hx with rfl | rfl | rfl
  ·exact Ql (qq hB.1) (fun _ _ => trivial) (by decide) _
  ·exact Xt (Qb hB.2.1) (fun _ _ => trivial) _
  ·exact ⟨⟨_, _, rfl⟩, hB.2.2.1, ZV (Yc hB.2.2.1)⟩) Tryz.func10 rfl (by kernel_rfl) (by kernel_rfl) fun a H => ?_
 unfold qw at G
 refine qg qd H (.v 2 (.slice none 0 0) <|
 .v 3 (.bool false) <| .nil) [0, 161, 162, 999999] fun u1 a w' H => ?_
 refine qg qd H (.v 16 (.slice p_a0 L_a0.length c_a0) <|
 .cons [17] (qy 161 (Qh qi 1 p_a0 c_a0 L_a0 ql) (vI (a0.length : Int)) 17 fun _ w h => Q7 (((qq h).2.len qk (by decide)).trans (qD h_a0).symm) (by kernel_rfl)) <|
 .v 4 (vI (a0.length : Int)) <| .nil) [0, 4, 161, 162, 999999] fun u2 a w' H => ?_
 refine qs ?_
 replace G := gd G; obtain ⟨b4, G⟩ := G
 refine qN qd H (.v 18 (vI (a0.length : Int)) <|
 .cons [19, 163] (Ju 48 2 qb (Zl [] (fun u3 => []) 22 1 (List.replicate (a0.length : Int).toNat (⟨none, 0, []⟩ : Sl qa)).length ((List.replicate (a0.length : Int).toNat (⟨none, 0, []⟩ : Sl qa)).flatMap ql) 19 163 (fun _ => .none) (fun u3 w hF => YG (t := 25) (k := .i64) (m := (a0.length : Int)) (en := ql) (z := (⟨none, 0, []⟩ : Sl qa)) qk J2 rfl b4 (by kernel_rfl)) (fun _ => .inl rfl)) Jt) <|
 .cons [5] (qp (fun u3 => .slice ((u3 1).o 0) ((List.replicate (a0.length : Int).toNat (⟨none, 0, []⟩ : Sl qa)).length) ((u3 1).n 0)) 5) <| .nil) [0, 4, 5, 161, 162, 163, 999999] fun u3 a w' H => ?_
 refine qs ?_
 obtain ⟨j6, hj6, G⟩ := qP G
 refine Qw (fun a w' => ∃ (p_j5 : Option Addr) (c_j5 np_j5 : Nat) (L_j5 : List (Sl qa)), np_j5 = L_j5.length ∧ j6 = L_j5.map Sl.l ∧ RL w 161 [(4, (sI (a0.length : Int))), (5, sS p_j5 np_j5 c_j5), (900015, qj p_j5 np_j5 c_j5 L_j5), (999999, gk)] a w') ?_ ?_
 ·clear H; rintro a w' ⟨p_j5, c_j5, _, L_j5, rfl, h_j5, H⟩
  refine qs ?_
  obtain ⟨j8, hj8, Gj8⟩ := qP G
  refine Qw (fun a w' => ∃ j8v, j8 = Sum.inr j8v ∧ ∃ (p_j7 : Option Addr) (c_j7 np_j7 : Nat) (L_j7 : List (Sl qa)), np_j7 = L_j7.length ∧ j8v = L_j7.map Sl.l ∧ RL w 161 [(4, (sI (a0.length : Int))), (5, sS p_j7 np_j7 c_j7), (900017, qj p_j7 np_j7 c_j7 L_j7), (999999, gk)] a w') ?_ ?_
  ·clear H; rintro a w' ⟨j8v, rfl, p_j7, c_j7, _, L_j7, rfl, h_j7, H⟩; have G := Gj8; clear Gj8; dsimp only at G
   refine qs ?_
   obtain ⟨j10, hj10, Gj10⟩ := qP G
   refine Qw (fun a w' => ∃ j10v, j10 = Sum.inr j10v ∧ ∃ (p_j9 : Option Addr) (c_j9 np_j9 : Nat) (L_j9 : List (Sl qa)), np_j9 = L_j9.length ∧ j10v = L_j9.map Sl.l ∧ RL w 161 [(5, sS p_j9 np_j9 c_j9), (900019, Yo 22 1 p_j9 np_j9 c_j9 (L_j9.flatMap ql)), (900020, QA fr qc.toPart L_j9), (999999, gk)] a w') ?_ ?_
   ·clear H; rintro a w' ⟨j10v, rfl, p_j9, c_j9, _, L_j9, rfl, h_j9, H⟩; have G := Gj10; clear Gj10; dsimp only at G
    refine qg qd H (.v 160 (.slice p_j9 L_j9.length c_j9) <|
 .v 2 (.slice p_j9 L_j9.length c_j9) <|
 .v 3 (.bool true) <| .nil) [2, 3, 900019, 900020, 999999] fun u11 a w' H => ?_
    refine q7 ?_
    obtain rfl := sj G
    obtain ⟨g, o0, n0, d0⟩ := ZQ QS p_j9 c_j9 h_j9
    refine Xo H _ g _ _ _ fr [900019, 900020] [] (.tuple #[.slice p_j9 L_j9.length c_j9, .bool true]) [fun _ => QU 22 1 p_j9 c_j9 L_j9 ql, fun fr => QA fr qc.toPart L_j9] (by simp only [slgd_S_TInterval, dlgd_S_TInterval, ns_en_TIntervalg, qf, qj, QU, o0, n0, d0]) (by simp only [slgd_S_TInterval, dlgd_S_TInterval, ns_en_TIntervalg, qf, qj, QU, o0, n0, d0]) hfr (.inl ⟨rfl, rfl⟩) (qx X2 (qx Jc qI)) (by simp)
   ·have G := hj10; clear hj10
    refine qg qd H (.v 141 (vI (a0.length : Int)) <|
 .v 142 (vI 0) <| .nil) [4, 5, 141, 142, 900017, 999999] fun u12 a w' H => ?_
    refine qA ?_
    replace H := H.denest (e := 22) (e2 := 48) (m := L_j7.length) (cap := c_j7) (p := p_j7) (L := L_j7) 900017 171 fr (by decide) qh (fun _ => rfl) hBf (by kernel_rfl) (by decide)
    replace H := H.move (K := QU 22 1 p_j7 c_j7 L_j7 ql) 900017 900021 (by kernel_rfl) (by intro _ _ h; cases h)
    replace H := H.dup (K := QA fr qc.toPart L_j7) 171 900022 (by kernel_rfl) (fun h => h) (by intro _ _ h; cases h)
    refine Qv (fun m a w' => ∃ x13 : List (List qa), ∃ x14 : Int, qw.l15 k0 a0 j6 j8v m x13 x14 = some j10 ∧ ∃ (p_x13 : Option Addr) (c_x13 np_x13 : Nat) (L_x13 : List (Sl qa)), np_x13 = L_x13.length ∧ x13 = L_x13.map Sl.l ∧ RL w 161 [(4, (sI (a0.length : Int))), (5, sS p_x13 np_x13 c_x13), (141, (sI (a0.length : Int))), (142, sI x14), (900021, Yo 22 1 p_x13 np_x13 c_x13 (L_x13.flatMap ql)), (900022, QA fr qc.toPart L_x13), (999999, gk)] a w') k0 ⟨_, _, G, p_j7, c_j7, L_j7.length, L_j7, rfl, h_j7, H.toM _⟩ ?_
    clear G H
    rintro (_ | k) a w' ⟨x13, x14, G, p_x13, c_x13, _, L_x13, rfl, h_x13, H⟩
    ·exact absurd G (by unfold qw.l15; exact fun h => by cases h)
    ·unfold qw.l15 at G
     refine qg qd H (.v 143 (.bool (decide (x14 < (a0.length : Int)))) <| .nil) [4, 5, 141, 142, 143, 900021, 900022, 999999] fun u16 a w' H => ?_
     refine qs ?_
     refine Qr H (decide (x14 < (a0.length : Int))) (fun c31 => ?_) fun c31 => ?_
     ·rw [if_pos c31] at G
      refine qT ?_
      refine qs ?_
      refine qA ?_
      refine qg qd H (.v 144 (vI x14) <|
 .v 15 (vI x14) <| .nil) [4, 5, 15, 141, 142, 900021, 900022, 999999] fun u17 a w' H => ?_
      refine qs ?_
      replace G := gd G; obtain ⟨b19, G⟩ := G
      obtain ⟨t20, ht20, G⟩ := qP G
      obtain ⟨p_t20, c_t20, y_t20⟩ := QE h_x13 ht20
      replace G := gd G; obtain ⟨b21, G⟩ := G
      replace G := gd G; obtain ⟨b22, G⟩ := G
      obtain ⟨t23, ht23, G⟩ := qP G
      obtain ⟨p_t23, c_t23, y_t23⟩ := QE h_x13 ht23
      refine qN qd H (.v 145 (.slice p_x13 L_x13.length c_x13) <|
 .v 146 (vI x14) <|
 .v 147 (.slice p_x13 L_x13.length c_x13) <|
 .v 148 (vI x14) <|
 .cons [149] (qy 900021 (QU 22 1 p_x13 c_x13 L_x13 ql) (.pointer (some ⟨XB p_x13, XC p_x13 + x14.toNat * 1, none⟩)) 149 fun _ w h => YQ 25 .i64 x14 p_x13 L_x13.length c_x13 x13 ql (qY (QN h)).2 qk (qD h_x13) b19) <|
 .cons [150] (qy 900021 (QU 22 1 p_x13 c_x13 L_x13 ql) (.slice p_t20 t20.length c_t20) 150 fun _ w h => Ya ql (qY (QN h)).2 qk y_t20 0 1 [.slice p_t20 t20.length c_t20]) <|
 .v 151 (vI (a0.length : Int)) <|
 .cons [152] (JV [900022] (fun u18 => [QA fr qc.toPart L_x13]) (fun u18 => .slice (YR p_t20 (a0.length : Int).toNat 2 c_t20) ((t20.drop (a0.length : Int).toNat).length) (c_t20 - (a0.length : Int).toNat)) (fun u18 => true) [true, true] 152 (fun u18 w _ hF => Zz (by kernel_rfl) (qcz (t := 22) (sz := 2) (l := t20) (k := .i64) rfl b21))) <|
 .cons [153] (qy 900021 (QU 22 1 p_x13 c_x13 L_x13 ql) (.pointer (some ⟨XB p_x13, XC p_x13 + x14.toNat * 1, none⟩)) 153 fun _ w h => YQ 25 .i64 x14 p_x13 L_x13.length c_x13 x13 ql (qY (QN h)).2 qk (qD h_x13) b22) <|
 .cons [900021, 900021, 164] (Vq [] [900022] (fun u18 => [QA fr qc.toPart L_x13]) 900021 164 (fun u18 => QU 22 1 p_x13 c_x13 L_x13 ql) none (fun u18 g => .nilFunc) (fun u18 g => Yo 22 1 p_x13 L_x13.length c_x13 ((L_x13.set x14.toNat (⟨(YR p_t20 (a0.length : Int).toNat 2 c_t20), (c_t20 - (a0.length : Int).toNat), (t20.drop (a0.length : Int).toNat)⟩ : Sl qa)).flatMap ql)) (fun u18 g => QA fr qc.toPart (L_x13.set x14.toNat (⟨(YR p_t20 (a0.length : Int).toNat 2 c_t20), (c_t20 - (a0.length : Int).toNat), (t20.drop (a0.length : Int).toNat)⟩ : Sl qa))) (fun u18 w hF hK => qba (XP (en := ql) (QN hK) qk (y := (⟨(YR p_t20 (a0.length : Int).toNat 2 c_t20), (c_t20 - (a0.length : Int).toNat), (t20.drop (a0.length : Int).toNat)⟩ : Sl qa)) (vs := [.slice (YR p_t20 (a0.length : Int).toNat 2 c_t20) ((t20.drop (a0.length : Int).toNat).length) (c_t20 - (a0.length : Int).toNat)]) y_t23 0 (by simp) (by simp) rfl (by kernel_rfl)) (qcp hF.1 (.head _) ⟨(Xv.low (en := qb) (show Xv _ 2 p_t20 t20.length c_t20 (t20.flatMap qb) from ((Qb hF.1) _ (List.mem_of_getElem? y_t20)).1) qh b21), fun _ _ => trivial⟩ (fun j h => (h.elim (fun h => qaa (.head _) (fun h => h) ⟨_, (List.mem_of_getElem? y_t20), (.inl (Vt (by simp) h))⟩ (qan hF.1 _ ⟨_, (List.mem_of_getElem? y_t20), (.inl (Vt (by simp) h))⟩)) (fun ⟨_, _, hz⟩ => hz.elim)))))) <| .nil) [4, 5, 15, 141, 142, 164, 900021, 999999] fun u18 a w' H => ?_
      refine qs ?_
      replace G := gd G; obtain ⟨b25, G⟩ := G
      obtain ⟨t26, ht26, G⟩ := qP G
      obtain ⟨p_t26, c_t26, y_t26⟩ := QE (map_set h_x13 x14.toNat (⟨(YR p_t20 (a0.length : Int).toNat 2 c_t20), (c_t20 - (a0.length : Int).toNat), (t20.drop (a0.length : Int).toNat)⟩ : Sl qa)) ht26
      obtain ⟨t27, ht27, G⟩ := qP G
      refine qN qd H (.v 154 (.slice p_x13 L_x13.length c_x13) <|
 .v 155 (vI x14) <|
 .cons [156] (qy 900021 (Yo 22 1 p_x13 L_x13.length c_x13 ((L_x13.set x14.toNat (⟨(YR p_t20 (a0.length : Int).toNat 2 c_t20), (c_t20 - (a0.length : Int).toNat), (t20.drop (a0.length : Int).toNat)⟩ : Sl qa)).flatMap ql)) (.pointer (some ⟨XB p_x13, XC p_x13 + x14.toNat * 1, none⟩)) 156 fun _ w h => Z6 (t := 25) (k := .i64) (i := x14) (p := p_x13) (n := L_x13.length) (cap := c_x13) (x := (x13.set x14.toNat (t20.drop (a0.length : Int).toNat))) (en := ql) (qY (QN h)).2 qk (qD (map_set h_x13 x14.toNat (⟨(YR p_t20 (a0.length : Int).toNat 2 c_t20), (c_t20 - (a0.length : Int).toNat), (t20.drop (a0.length : Int).toNat)⟩ : Sl qa))) b25 (by kernel_rfl)) <|
 .cons [157] (qy 900021 (Yo 22 1 p_x13 L_x13.length c_x13 ((L_x13.set x14.toNat (⟨(YR p_t20 (a0.length : Int).toNat 2 c_t20), (c_t20 - (a0.length : Int).toNat), (t20.drop (a0.length : Int).toNat)⟩ : Sl qa)).flatMap ql)) (.slice p_t26 t26.length c_t26) 157 fun _ w h => Ya ql (qY (QN h)).2 qk y_t26 0 1 [.slice p_t26 t26.length c_t26]) <|
 .cons [158] (Xi [164] (fun u24 => [QA fr qc.toPart (L_x13.set x14.toNat (⟨(YR p_t20 (a0.length : Int).toNat 2 c_t20), (c_t20 - (a0.length : Int).toNat), (t20.drop (a0.length : Int).toNat)⟩ : Sl qa))]) 30 _ _ 158 (fun u24 w hF => Ys.calls k0 t26 p_t26 c_t26 t27 w  ⟨(ZN (show Xv _ 2 p_t26 t26.length c_t26 (t26.flatMap qb) from ((Qb hF.1) _ (List.mem_of_getElem? y_t26)).1)), trivial⟩ ht27)) <| .nil) [4, 5, 141, 142, 158, 164, 900021, 999999] fun u24 a w' H => ?_
      refine Qr H t27 (fun c30 => ?_) fun c30 => ?_
      ·rw [if_pos c30] at G
       refine qg qd H (.v 2 (.slice none 0 0) <|
 .v 3 (.bool false) <| .nil) [2, 3, 999999] fun u28 a w' H => ?_
       refine q7 ?_
       obtain rfl := sj G
       replace G := Gj10
       obtain rfl := sj G
       replace H := H.nil_row 165 22 1
       replace H := H.add0 166 (QA fr qc.toPart ([] : List (Sl qa))) (by intro _ _ h; cases h) (Zf Zw (fun j h => by obtain ⟨_, hy, _⟩ := h; cases hy)) (fun j h => by obtain ⟨_, hy, _⟩ := h; cases hy)
       obtain ⟨g, o0, n0, d0⟩ := ZQ QS none 0 (show ([] : List (List qa)) = List.map Sl.l ([] : List (Sl qa)) from rfl)
       refine Xo H _ g _ _ _ fr [165, 166] [] (.tuple #[.slice none 0 0, .bool false]) [fun _ => Yo 22 1 none 0 0 (([] : List (Sl qa)).flatMap ql), fun fr => QA fr qc.toPart ([] : List (Sl qa))] (by simp only [slgd_S_TInterval, dlgd_S_TInterval, ns_en_TIntervalg, qf, qj, QU, o0, n0, d0, List.length_set, List.length_cons, List.length_nil, Nat.zero_add, Nat.reduceAdd]) (by simp only [slgd_S_TInterval, dlgd_S_TInterval, ns_en_TIntervalg, qf, qj, QU, o0, n0, d0, List.length_set, List.length_cons, List.length_nil, Nat.zero_add, Nat.reduceAdd]) hfr (.inl ⟨rfl, rfl⟩) (qx X2 (qx Jc qI)) (by simp)
      ·rw [if_neg (nt c30)] at G
       refine qT ?_
       refine qN qd H (.v 159 (vI (qe (x14 + 1))) <|
 .v 142 (vI (qe (x14 + 1))) <| .nil) [4, 5, 141, 142, 164, 900021, 999999] fun u29 a w' H => ?_
       replace H := H.dup (K := QA fr qc.toPart (L_x13.set x14.toNat (⟨(YR p_t20 (a0.length : Int).toNat 2 c_t20), (c_t20 - (a0.length : Int).toNat), (t20.drop (a0.length : Int).toNat)⟩ : Sl qa))) 164 900022 (by kernel_rfl) (fun h => h) (by intro _ _ h; cases h)
       exact ⟨k, Nat.lt_succ_self k, _, _, G, p_x13, c_x13, L_x13.length, (L_x13.set x14.toNat (⟨(YR p_t20 (a0.length : Int).toNat 2 c_t20), (c_t20 - (a0.length : Int).toNat), (t20.drop (a0.length : Int).toNat)⟩ : Sl qa)), by simp, (map_set h_x13 x14.toNat (⟨(YR p_t20 (a0.length : Int).toNat 2 c_t20), (c_t20 - (a0.length : Int).toNat), (t20.drop (a0.length : Int).toNat)⟩ : Sl qa)), H.toM _⟩
     ·rw [if_neg (nt c31)] at G
      refine QO rfl ?_
      obtain rfl := sj G
      replace H := H.move (K := QU 22 1 p_x13 c_x13 L_x13 ql) 900021 900019 (by kernel_rfl) (by intro _ _ h; cases h)
      replace H := H.dup (K := QA fr qc.toPart L_x13) 900022 900020 (by kernel_rfl) (fun h => h) (by intro _ _ h; cases h)
      exact ⟨_, rfl, p_x13, c_x13, L_x13.length, L_x13, rfl, h_x13, H.toM _⟩
  ·have G := hj8; clear hj8
   refine qg qd H (.v 39 (vI (a0.length : Int)) <|
 .v 40 (vI 0) <| .nil) [4, 5, 39, 40, 900015, 999999] fun u32 a w' H => ?_
   refine qA ?_
   replace H := H.move (K := qf p_j5 c_j5 L_j5) 900015 900023 (by kernel_rfl) (by intro _ _ h; cases h)
   refine Qv (fun m a w' => ∃ x33 : List (List qa), ∃ x34 : Int, qw.l35 k0 a0 j6 m x33 x34 = some j8 ∧ ∃ (p_x33 : Option Addr) (c_x33 np_x33 : Nat) (L_x33 : List (Sl qa)), np_x33 = L_x33.length ∧ x33 = L_x33.map Sl.l ∧ RL w 161 [(4, (sI (a0.length : Int))), (5, sS p_x33 np_x33 c_x33), (39, (sI (a0.length : Int))), (40, sI x34), (900023, qj p_x33 np_x33 c_x33 L_x33), (999999, gk)] a w') k0 ⟨_, _, G, p_j5, c_j5, L_j5.length, L_j5, rfl, h_j5, H.toM _⟩ ?_
   clear G H
   rintro (_ | k) a w' ⟨x33, x34, G, p_x33, c_x33, _, L_x33, rfl, h_x33, H⟩
   ·exact absurd G (by unfold qw.l35; exact fun h => by cases h)
   ·unfold qw.l35 at G
    refine qg qd H (.v 41 (.bool (decide (x34 < (a0.length : Int)))) <| .nil) [4, 5, 39, 40, 41, 900023, 999999] fun u36 a w' H => ?_
    refine qs ?_
    refine Qr H (decide (x34 < (a0.length : Int))) (fun c132 => ?_) fun c132 => ?_
    ·rw [if_pos c132] at G
     refine qT ?_
     refine qs ?_
     obtain ⟨j38, hj38, Gj38⟩ := qP G
     refine Qw (fun a w' => ∃ j38v, j38 = Sum.inr j38v ∧ ∃ (p_j37 : Option Addr) (c_j37 np_j37 : Nat) (L_j37 : List (Sl qa)), np_j37 = L_j37.length ∧ j38v = L_j37.map Sl.l ∧ RL w 161 [(4, (sI (a0.length : Int))), (5, sS p_j37 np_j37 c_j37), (39, (sI (a0.length : Int))), (40, sI x34), (900025, qj p_j37 np_j37 c_j37 L_j37), (999999, gk)] a w') ?_ ?_
     ·clear H; rintro a w' ⟨j38v, rfl, p_j37, c_j37, _, L_j37, rfl, h_j37, H⟩; have G := Gj38; clear Gj38; dsimp only at G
      refine qN qd H (.v 140 (vI (qe (x34 + 1))) <|
 .v 40 (vI (qe (x34 + 1))) <| .nil) [4, 5, 39, 40, 900025, 999999] fun u39 a w' H => ?_
      replace H := H.move (K := qf p_j37 c_j37 L_j37) 900025 900023 (by kernel_rfl) (by intro _ _ h; cases h)
      exact ⟨k, Nat.lt_succ_self k, _, _, G, p_j37, c_j37, L_j37.length, L_j37, rfl, h_j37, H.toM _⟩
     ·have G := hj38; clear hj38
      refine qA ?_
      refine qg qd H (.v 42 (vI x34) <|
 .v 8 (vI x34) <| .nil) [4, 5, 8, 39, 40, 900023, 999999] fun u40 a w' H => ?_
      obtain ⟨t42, ht42, G⟩ := qP G
      refine qg qd H (.v 43 (.slice p_x33 L_x33.length c_x33) <|
 .v 44 (vI x34) <|
 .cons [45] (Xi [900023] (fun u41 => [qf p_x33 c_x33 L_x33]) 38 _ _ 45 (fun u41 w hF => Xl.calls k0 x33 x34 p_x33 c_x33 L_x33 t42 w h_x33 ⟨(ZN (qQ hF.1).row), (JD (qQ hF.1).all), trivial⟩ ht42)) <|
 .v 9 (vI t42) <| .nil) [4, 5, 8, 9, 39, 40, 900023, 999999] fun u41 a w' H => ?_
      refine qs ?_
      refine qg qd H (.v 46 (vI t42) <|
 .v 47 (.bool (decide (t42 < 0))) <| .nil) [4, 5, 8, 9, 39, 40, 47, 900023, 999999] fun u43 a w' H => ?_
      refine Qr H (decide (t42 < 0)) (fun c131 => ?_) fun c131 => ?_
      ·rw [if_pos c131] at G
       refine qg qd H (.v 2 (.slice none 0 0) <|
 .v 3 (.bool false) <| .nil) [2, 3, 999999] fun u44 a w' H => ?_
       refine q7 ?_
       obtain rfl := sj G
       replace G := Gj38
       obtain rfl := sj G
       replace G := Gj8
       obtain rfl := sj G
       replace H := H.nil_row 176 22 1
       replace H := H.add0 177 (QA fr qc.toPart ([] : List (Sl qa))) (by intro _ _ h; cases h) (Zf Zw (fun j h => by obtain ⟨_, hy, _⟩ := h; cases hy)) (fun j h => by obtain ⟨_, hy, _⟩ := h; cases hy)
       obtain ⟨g, o0, n0, d0⟩ := ZQ QS none 0 (show ([] : List (List qa)) = List.map Sl.l ([] : List (Sl qa)) from rfl)
       refine Xo H _ g _ _ _ fr [176, 177] [] (.tuple #[.slice none 0 0, .bool false]) [fun _ => Yo 22 1 none 0 0 (([] : List (Sl qa)).flatMap ql), fun fr => QA fr qc.toPart ([] : List (Sl qa))] (by simp only [slgd_S_TInterval, dlgd_S_TInterval, ns_en_TIntervalg, qf, qj, QU, o0, n0, d0, List.length_set, List.length_cons, List.length_nil, Nat.zero_add, Nat.reduceAdd]) (by simp only [slgd_S_TInterval, dlgd_S_TInterval, ns_en_TIntervalg, qf, qj, QU, o0, n0, d0, List.length_set, List.length_cons, List.length_nil, Nat.zero_add, Nat.reduceAdd]) hfr (.inl ⟨rfl, rfl⟩) (qx X2 (qx Jc qI)) (by simp)
      ·rw [if_neg (nt c131)] at G
       refine qT ?_
       refine qs ?_
       replace G := gd G; obtain ⟨b46, G⟩ := G
       obtain ⟨t47, ht47, G⟩ := qP G
       obtain ⟨p_t47, c_t47, y_t47⟩ := QE h_x33 ht47
       have P48 := XT (en := ql) (l := L_x33) (qQ (H.at (K := qf p_x33 c_x33 L_x33) 900023 (by kernel_rfl))).row.2 qk
       replace G := gd G; obtain ⟨b49, G⟩ := G
       obtain ⟨t50, ht50, G⟩ := qP G
       obtain ⟨p_t50, c_t50, y_t50⟩ := QE h_x33 ht50
       replace G := gd G; obtain ⟨b51, G⟩ := G
       obtain ⟨t52, ht52, G⟩ := qP G
       obtain ⟨p_t52, c_t52, y_t52⟩ := QE h_x33 ht52
       replace G := gd G; obtain ⟨b53, G⟩ := G
       obtain ⟨t54, ht54, G⟩ := qP G
       obtain ⟨p_t54, c_t54, y_t54⟩ := QE (map_set h_x33 x34.toNat (⟨p_t47, c_t47, t47⟩ : Sl qa)) ht54
       refine qN qd H (.v 48 (.slice p_x33 L_x33.length c_x33) <|
 .v 49 (vI x34) <|
 .v 50 (.slice p_x33 L_x33.length c_x33) <|
 .v 51 (vI t42) <|
 .v 52 (.slice p_x33 L_x33.length c_x33) <|
 .v 53 (vI t42) <|
 .cons [54] (qp (fun u45 => .pointer (some ⟨XB p_x33, XC p_x33 + t42.toNat * 1, none⟩)) 54 (hv := fun _ _ => QH (t := 25) (k := .i64) (i := t42) (p := p_x33) (n := L_x33.length) (cap := c_x33) (x := x33) P48 (qD h_x33) b46 (by kernel_rfl))) <|
 .cons [55] (qy 900023 (qf p_x33 c_x33 L_x33) (.slice p_t47 t47.length c_t47) 55 fun _ w h => Ya ql (qQ h).row.2 qk y_t47 0 1 [.slice p_t47 t47.length c_t47]) <|
 .v 56 (.slice p_x33 L_x33.length c_x33) <|
 .v 57 (vI x34) <|
 .cons [58] (qp (fun u45 => .pointer (some ⟨XB p_x33, XC p_x33 + x34.toNat * 1, none⟩)) 58 (hv := fun _ _ => QH (t := 25) (k := .i64) (i := x34) (p := p_x33) (n := L_x33.length) (cap := c_x33) (x := x33) P48 (qD h_x33) b49 (by kernel_rfl))) <|
 .cons [59] (qy 900023 (qf p_x33 c_x33 L_x33) (.slice p_t50 t50.length c_t50) 59 fun _ w h => Ya ql (qQ h).row.2 qk y_t50 0 1 [.slice p_t50 t50.length c_t50]) <|
 .cons [60] (qp (fun u45 => .pointer (some ⟨XB p_x33, XC p_x33 + x34.toNat * 1, none⟩)) 60 (hv := fun _ _ => QH (t := 25) (k := .i64) (i := x34) (p := p_x33) (n := L_x33.length) (cap := c_x33) (x := x33) P48 (qD h_x33) b51 (by kernel_rfl))) <|
 .cons [900023, 900023] (Xs [] [] (fun u45 => []) 900023 (fun u45 => qf p_x33 c_x33 L_x33) none (fun u45 g => .nilFunc) (fun u45 g => ZC 22 48 2 qb p_x33 L_x33.length c_x33 (L_x33.set x34.toNat (⟨p_t47, c_t47, t47⟩ : Sl qa)) L_x33) (fun u45 w hF hK => WB hK (fun h => XP (en := ql) h qk (y := (⟨p_t47, c_t47, t47⟩ : Sl qa)) (vs := [.slice p_t47 t47.length c_t47]) y_t52 0 (by simp) (by simp) rfl (by kernel_rfl)))) <|
 .cons [61] (qy 900023 (ZC 22 48 2 qb p_x33 L_x33.length c_x33 (L_x33.set x34.toNat (⟨p_t47, c_t47, t47⟩ : Sl qa)) L_x33) (.pointer (some ⟨XB p_x33, XC p_x33 + t42.toNat * 1, none⟩)) 61 fun _ w h => YQ 25 .i64 t42 p_x33 L_x33.length c_x33 (x33.set x34.toNat t47) ql (qQ h).row.2 qk (qD (map_set h_x33 x34.toNat (⟨p_t47, c_t47, t47⟩ : Sl qa))) b53) <|
 .cons [900023, 900023] (Xs [] [] (fun u45 => []) 900023 (fun u45 => ZC 22 48 2 qb p_x33 L_x33.length c_x33 (L_x33.set x34.toNat (⟨p_t47, c_t47, t47⟩ : Sl qa)) L_x33) none (fun u45 g => .nilFunc) (fun u45 g => qj p_x33 L_x33.length c_x33 ((L_x33.set x34.toNat (⟨p_t47, c_t47, t47⟩ : Sl qa)).set t42.toNat (⟨p_t50, c_t50, t50⟩ : Sl qa))) (fun u45 w hF hK => qe3 (L := L_x33) (b := (⟨p_t47, c_t47, t47⟩ : Sl qa)) (a := (⟨p_t50, c_t50, t50⟩ : Sl qa)) hK y_t50 y_t47 (fun h => XP (en := ql) h qk (y := (⟨p_t50, c_t50, t50⟩ : Sl qa)) (vs := [.slice p_t50 t50.length c_t50]) y_t54 0 (by simp) (by simp) rfl (by kernel_rfl)))) <| .nil) [4, 5, 8, 39, 40, 900023, 999999] fun u45 a w' H => ?_
       refine qs ?_
       replace G := gd G; obtain ⟨b56, G⟩ := G
       obtain ⟨t57, ht57, G⟩ := qP G
       obtain ⟨p_t57, c_t57, y_t57⟩ := QE (map_set (map_set h_x33 x34.toNat (⟨p_t47, c_t47, t47⟩ : Sl qa)) t42.toNat (⟨p_t50, c_t50, t50⟩ : Sl qa)) ht57
       replace G := gd G; obtain ⟨b58, G⟩ := G
       obtain ⟨t59, ht59, G⟩ := qP G
       refine qN qd H (.v 62 (.slice p_x33 L_x33.length c_x33) <|
 .v 63 (vI x34) <|
 .cons [64] (qy 900023 (qj p_x33 L_x33.length c_x33 ((L_x33.set x34.toNat (⟨p_t47, c_t47, t47⟩ : Sl qa)).set t42.toNat (⟨p_t50, c_t50, t50⟩ : Sl qa))) (.pointer (some ⟨XB p_x33, XC p_x33 + x34.toNat * 1, none⟩)) 64 fun _ w h => YQ 25 .i64 x34 p_x33 L_x33.length c_x33 ((x33.set x34.toNat t47).set t42.toNat t50) ql (qQ h).row.2 qk (qD (map_set (map_set h_x33 x34.toNat (⟨p_t47, c_t47, t47⟩ : Sl qa)) t42.toNat (⟨p_t50, c_t50, t50⟩ : Sl qa))) b56) <|
 .cons [65] (qy 900023 (qj p_x33 L_x33.length c_x33 ((L_x33.set x34.toNat (⟨p_t47, c_t47, t47⟩ : Sl qa)).set t42.toNat (⟨p_t50, c_t50, t50⟩ : Sl qa))) (.slice p_t57 t57.length c_t57) 65 fun _ w h => Ya ql (qQ h).row.2 qk y_t57 0 1 [.slice p_t57 t57.length c_t57]) <|
 .v 66 (vI x34) <|
 .cons [67] (qy 900023 (qj p_x33 L_x33.length c_x33 ((L_x33.set x34.toNat (⟨p_t47, c_t47, t47⟩ : Sl qa)).set t42.toNat (⟨p_t50, c_t50, t50⟩ : Sl qa))) (.pointer (some ⟨XB p_t57, XC p_t57 + x34.toNat * 2, none⟩)) 67 fun _ w h => YQ 22 .i64 x34 p_t57 t57.length c_t57 t57 qb ((qQ h).one y_t57).2 qh rfl b58) <|
 .cons [68] (qy 900023 (qj p_x33 L_x33.length c_x33 ((L_x33.set x34.toNat (⟨p_t47, c_t47, t47⟩ : Sl qa)).set t42.toNat (⟨p_t50, c_t50, t50⟩ : Sl qa))) (.agg #[vI t59.Lo, vI t59.Hi]) 68 fun _ w h => Ya qb ((qQ h).one y_t57).2 qh ht59 0 2 [vI t59.Lo, vI t59.Hi]) <|
 .cons [10, 178] (qH (fun b => vP b 0) (fun u55 => [vI 0, vI 0]) 48 10 178) <|
 .cons [178] (XO (u' := fun u55 => [(178, .blk ((u55 7).n 0) [vI t59.Lo, vI t59.Hi] 48)]) (X1 178 0 (fun u55 => ((u55 7).n 0)) (fun u55 => [vI 0, vI 0]) (fun u55 => [vI t59.Lo, vI t59.Hi]) 48) (fun _ => by kernel_rfl)) <| .nil) [4, 5, 8, 10, 39, 40, 178, 900023, 999999] fun u55 a w' H => ?_
       refine qs ?_
       obtain ⟨j61, hj61, G⟩ := qP G
       refine Qw (fun a w' => ∃ (p_j60 : Option Addr) (c_j60 np_j60 : Nat) (L_j60 : List (Sl qa)), np_j60 = L_j60.length ∧ j61 = L_j60.map Sl.l ∧ RL w 161 [(4, (sI (a0.length : Int))), (5, sS p_j60 np_j60 c_j60), (8, sI x34), (39, (sI (a0.length : Int))), (40, sI x34), (900027, qj p_j60 np_j60 c_j60 L_j60), (999999, gk)] a w') ?_ ?_
       ·clear H; rintro a w' ⟨p_j60, c_j60, _, L_j60, rfl, h_j60, H⟩
        refine qg qd H (.v 93 (vI (a0.length : Int)) <|
 .v 94 (vI 0) <| .nil) [4, 5, 8, 39, 40, 93, 94, 900027, 999999] fun u62 a w' H => ?_
        refine qA ?_
        replace H := H.move (K := qf p_j60 c_j60 L_j60) 900027 900029 (by kernel_rfl) (by intro _ _ h; cases h)
        refine Qv (fun m a w' => ∃ x63 : List (List qa), ∃ x64 : Int, qw.l65 k0 a0 j6 x33 x34 t42 t47 t50 t52 t54 t57 t59 j61 m x63 x64 = some j38 ∧ ∃ (p_x63 : Option Addr) (c_x63 np_x63 : Nat) (L_x63 : List (Sl qa)), np_x63 = L_x63.length ∧ x63 = L_x63.map Sl.l ∧ RL w 161 [(4, (sI (a0.length : Int))), (5, sS p_x63 np_x63 c_x63), (8, sI x34), (39, (sI (a0.length : Int))), (40, sI x34), (93, (sI (a0.length : Int))), (94, sI x64), (900029, qj p_x63 np_x63 c_x63 L_x63), (999999, gk)] a w') k0 ⟨_, _, G, p_j60, c_j60, L_j60.length, L_j60, rfl, h_j60, H.toM _⟩ ?_
        clear G H
        rintro (_ | k) a w' ⟨x63, x64, G, p_x63, c_x63, _, L_x63, rfl, h_x63, H⟩
        ·exact absurd G (by unfold qw.l65; exact fun h => by cases h)
        ·unfold qw.l65 at G
         refine qg qd H (.v 95 (.bool (decide (x64 < (a0.length : Int)))) <| .nil) [4, 5, 8, 39, 40, 93, 94, 95, 900029, 999999] fun u66 a w' H => ?_
         refine qs ?_
         refine Qr H (decide (x64 < (a0.length : Int))) (fun c107 => ?_) fun c107 => ?_
         ·rw [if_pos c107] at G
          refine qT ?_
          refine qs ?_
          obtain ⟨j68, hj68, G⟩ := qP G
          refine Qw (fun a w' => ∃ (p_j67 : Option Addr) (c_j67 np_j67 : Nat) (L_j67 : List (Sl qa)), np_j67 = L_j67.length ∧ j68 = L_j67.map Sl.l ∧ RL w 161 [(4, (sI (a0.length : Int))), (5, sS p_j67 np_j67 c_j67), (8, sI x34), (39, (sI (a0.length : Int))), (40, sI x34), (93, (sI (a0.length : Int))), (94, sI x64), (900031, qj p_j67 np_j67 c_j67 L_j67), (999999, gk)] a w') ?_ ?_
          ·clear H; rintro a w' ⟨p_j67, c_j67, _, L_j67, rfl, h_j67, H⟩
           refine qN qd H (.v 139 (vI (qe (x64 + 1))) <|
 .v 94 (vI (qe (x64 + 1))) <| .nil) [4, 5, 8, 39, 40, 93, 94, 900031, 999999] fun u69 a w' H => ?_
           replace H := H.move (K := qf p_j67 c_j67 L_j67) 900031 900029 (by kernel_rfl) (by intro _ _ h; cases h)
           exact ⟨k, Nat.lt_succ_self k, _, _, G, p_j67, c_j67, L_j67.length, L_j67, rfl, h_j67, H.toM _⟩
          ·clear G; replace G := hj68; clear hj68
           refine qA ?_
           refine qg qd H (.v 96 (vI x64) <|
 .v 12 (vI x64) <| .nil) [4, 5, 8, 12, 39, 40, 93, 94, 900029, 999999] fun u70 a w' H => ?_
           refine qs ?_
           refine qg qd H (.v 97 (vI x64) <|
 .v 98 (vI x34) <|
 .v 99 (.bool (x64 == x34)) <| .nil) [4, 5, 8, 12, 39, 40, 93, 94, 99, 900029, 999999] fun u71 a w' H => ?_
           refine Qr H (x64 == x34) (fun c106 => ?_) fun c106 => ?_
           ·rw [if_pos c106] at G
            refine QO rfl ?_
            obtain rfl := sj G
            replace H := H.move (K := qf p_x63 c_x63 L_x63) 900029 900031 (by kernel_rfl) (by intro _ _ h; cases h)
            exact ⟨p_x63, c_x63, L_x63.length, L_x63, rfl, h_x63, H.toM _⟩
           ·rw [if_neg (nt c106)] at G
            refine qT ?_
            refine qs ?_
            replace G := gd G; obtain ⟨b73, G⟩ := G
            obtain ⟨t74, ht74, G⟩ := qP G
            obtain ⟨p_t74, c_t74, y_t74⟩ := QE h_x63 ht74
            replace G := gd G; obtain ⟨b75, G⟩ := G
            obtain ⟨t76, ht76, G⟩ := qP G
            refine qN qd H (.v 100 (.slice p_x63 L_x63.length c_x63) <|
 .v 101 (vI x64) <|
 .cons [102] (qy 900029 (qf p_x63 c_x63 L_x63) (.pointer (some ⟨XB p_x63, XC p_x63 + x64.toNat * 1, none⟩)) 102 fun _ w h => YQ 25 .i64 x64 p_x63 L_x63.length c_x63 x63 ql (qQ h).row.2 qk (qD h_x63) b73) <|
 .cons [103] (qy 900029 (qf p_x63 c_x63 L_x63) (.slice p_t74 t74.length c_t74) 103 fun _ w h => Ya ql (qQ h).row.2 qk y_t74 0 1 [.slice p_t74 t74.length c_t74]) <|
 .v 104 (vI x34) <|
 .cons [105] (qy 900029 (qf p_x63 c_x63 L_x63) (.pointer (some ⟨XB p_t74, XC p_t74 + x34.toNat * 2, none⟩)) 105 fun _ w h => YQ 22 .i64 x34 p_t74 t74.length c_t74 t74 qb ((qQ h).one y_t74).2 qh rfl b75) <|
 .cons [106] (qy 900029 (qf p_x63 c_x63 L_x63) (.agg #[vI t76.Lo, vI t76.Hi]) 106 fun _ w h => Ya qb ((qQ h).one y_t74).2 qh ht76 0 2 [vI t76.Lo, vI t76.Hi]) <|
 .cons [13, 183] (qH (fun b => vP b 0) (fun u72 => [vI 0, vI 0]) 48 13 183) <|
 .cons [183] (XO (u' := fun u72 => [(183, .blk ((u72 7).n 0) [vI t76.Lo, vI t76.Hi] 48)]) (X1 183 0 (fun u72 => ((u72 7).n 0)) (fun u72 => [vI 0, vI 0]) (fun u72 => [vI t76.Lo, vI t76.Hi]) 48) (fun _ => by kernel_rfl)) <| .nil) [4, 5, 8, 12, 13, 39, 40, 93, 94, 183, 900029, 999999] fun u72 a w' H => ?_
            refine qs ?_
            replace G := gd G; obtain ⟨b78, G⟩ := G
            obtain ⟨t79, ht79, G⟩ := qP G
            obtain ⟨p_t79, c_t79, y_t79⟩ := QE h_x63 ht79
            refine qN qd H (.v 107 (.slice p_x63 L_x63.length c_x63) <|
 .v 108 (vI x64) <|
 .cons [109] (qy 900029 (qf p_x63 c_x63 L_x63) (.pointer (some ⟨XB p_x63, XC p_x63 + x64.toNat * 1, none⟩)) 109 fun _ w h => YQ 25 .i64 x64 p_x63 L_x63.length c_x63 x63 ql (qQ h).row.2 qk (qD h_x63) b78) <|
 .cons [110] (qy 900029 (qf p_x63 c_x63 L_x63) (.slice p_t79 t79.length c_t79) 110 fun _ w h => Ya ql (qQ h).row.2 qk y_t79 0 1 [.slice p_t79 t79.length c_t79]) <|
 .v 111 (vI (t79.length : Int)) <|
 .v 112 (vI 0) <| .nil) [4, 5, 8, 12, 13, 39, 40, 93, 94, 111, 112, 183, 900029, 999999] fun u77 a w' H => ?_
            refine qA ?_
            replace H := H.move (K := qf p_x63 c_x63 L_x63) 900029 900033 (by kernel_rfl) (by intro _ _ h; cases h)
            refine Qv (fun m a w' => ∃ x80 : List (List qa), ∃ x81 : Int, qw.l82 k0 a0 j6 x33 x34 t42 t47 t50 t52 t54 t57 t59 j61 x63 x64 t74 t76 t79 m x80 x81 = some j68 ∧ ∃ (p_x80 : Option Addr) (c_x80 np_x80 : Nat) (L_x80 : List (Sl qa)), np_x80 = L_x80.length ∧ x80 = L_x80.map Sl.l ∧ RL w 161 [(4, (sI (a0.length : Int))), (5, sS p_x80 np_x80 c_x80), (8, sI x34), (12, sI x64), (13, (sP ((u72 7).n 0) 0)), (39, (sI (a0.length : Int))), (40, sI x34), (93, (sI (a0.length : Int))), (94, sI x64), (111, (sI (t79.length : Int))), (112, sI x81), (183, .blk ((u72 7).n 0) [vI t76.Lo, vI t76.Hi] 48), (900033, qj p_x80 np_x80 c_x80 L_x80), (999999, gk)] a w') k0 ⟨_, _, G, p_x63, c_x63, L_x63.length, L_x63, rfl, h_x63, H.toM _⟩ ?_
            clear G H
            rintro (_ | k) a w' ⟨x80, x81, G, p_x80, c_x80, _, L_x80, rfl, h_x80, H⟩
            ·exact absurd G (by unfold qw.l82; exact fun h => by cases h)
            ·unfold qw.l82 at G
             refine qg qd H (.v 113 (.bool (decide (x81 < (t79.length : Int)))) <| .nil) [4, 5, 8, 12, 13, 39, 40, 93, 94, 111, 112, 113, 183, 900033, 999999] fun u83 a w' H => ?_
             refine qs ?_
             refine Qr H (decide (x81 < (t79.length : Int))) (fun c105 => ?_) fun c105 => ?_
             ·rw [if_pos c105] at G
              refine qT ?_
              refine qs ?_
              refine qA ?_
              refine qg qd H (.v 114 (vI x81) <|
 .v 14 (vI x81) <| .nil) [4, 5, 8, 12, 13, 14, 39, 40, 93, 94, 111, 112, 183, 900033, 999999] fun u84 a w' H => ?_
              replace G := gd G; obtain ⟨b86, G⟩ := G
              obtain ⟨t87, ht87, G⟩ := qP G
              obtain ⟨p_t87, c_t87, y_t87⟩ := QE h_x80 ht87
              have P88 := XT (en := ql) (l := L_x80) (qQ (H.at (K := qf p_x80 c_x80 L_x80) 900033 (by kernel_rfl))).row.2 qk
              replace G := gd G; obtain ⟨b89, G⟩ := G
              obtain ⟨t90, ht90, G⟩ := qP G
              obtain ⟨p_t90, c_t90, y_t90⟩ := QE h_x80 ht90
              replace G := gd G; obtain ⟨b91, G⟩ := G
              obtain ⟨t92, ht92, G⟩ := qP G
              have P93 := XT (en := qb) (l := t90) ((qQ (H.at (K := qf p_x80 c_x80 L_x80) 900033 (by kernel_rfl))).one y_t90).2 qh
              replace G := gd G; obtain ⟨b94, G⟩ := G
              obtain ⟨t95, ht95, G⟩ := qP G
              obtain ⟨p_t95, c_t95, y_t95⟩ := QE h_x80 ht95
              replace G := gd G; obtain ⟨b96, G⟩ := G
              obtain ⟨t97, ht97, G⟩ := qP G
              have P98 := XT (en := qb) (l := t95) ((qQ (H.at (K := qf p_x80 c_x80 L_x80) 900033 (by kernel_rfl))).one y_t95).2 qh
              obtain ⟨t99, ht99, G⟩ := qP G
              obtain ⟨t100, ht100, G⟩ := qP G
              replace G := gd G; obtain ⟨b101, G⟩ := G
              obtain ⟨t102, ht102, G⟩ := qP G
              have P103 := XT (en := qb) (l := t87) ((qQ (H.at (K := qf p_x80 c_x80 L_x80) 900033 (by kernel_rfl))).one y_t87).2 qh
              refine qN qd H (.v 115 (.slice p_x80 L_x80.length c_x80) <|
 .v 116 (vI x64) <|
 .cons [117] (qp (fun u85 => .pointer (some ⟨XB p_x80, XC p_x80 + x64.toNat * 1, none⟩)) 117 (hv := fun _ _ => QH (t := 25) (k := .i64) (i := x64) (p := p_x80) (n := L_x80.length) (cap := c_x80) (x := x80) P88 (qD h_x80) b86 (by kernel_rfl))) <|
 .cons [118] (qy 900033 (qf p_x80 c_x80 L_x80) (.slice p_t87 t87.length c_t87) 118 fun _ w h => Ya ql (qQ h).row.2 qk y_t87 0 1 [.slice p_t87 t87.length c_t87]) <|
 .v 119 (vI x81) <|
 .v 120 (.slice p_x80 L_x80.length c_x80) <|
 .v 121 (vI x64) <|
 .cons [122] (qp (fun u85 => .pointer (some ⟨XB p_x80, XC p_x80 + x64.toNat * 1, none⟩)) 122 (hv := fun _ _ => QH (t := 25) (k := .i64) (i := x64) (p := p_x80) (n := L_x80.length) (cap := c_x80) (x := x80) P88 (qD h_x80) b89 (by kernel_rfl))) <|
 .cons [123] (qy 900033 (qf p_x80 c_x80 L_x80) (.slice p_t90 t90.length c_t90) 123 fun _ w h => Ya ql (qQ h).row.2 qk y_t90 0 1 [.slice p_t90 t90.length c_t90]) <|
 .v 124 (vI x81) <|
 .cons [125] (qp (fun u85 => .pointer (some ⟨XB p_t90, XC p_t90 + x81.toNat * 2, none⟩)) 125 (hv := fun _ _ => QH (t := 22) (k := .i64) (i := x81) (p := p_t90) (n := t90.length) (cap := c_t90) (x := t90) P93 rfl b91 (by kernel_rfl))) <|
 .cons [126] (qy 900033 (qf p_x80 c_x80 L_x80) (.agg #[vI t92.Lo, vI t92.Hi]) 126 fun _ w h => Ya qb ((qQ h).one y_t90).2 qh ht92 0 2 [vI t92.Lo, vI t92.Hi]) <|
 .cons [127] (qv (.agg #[vI t76.Lo, vI t76.Hi]) 127 183 0 2 ((u72 7).n 0) [vI t76.Lo, vI t76.Hi] 48) <|
 .v 128 (.slice p_x80 L_x80.length c_x80) <|
 .v 129 (vI x34) <|
 .cons [130] (qp (fun u85 => .pointer (some ⟨XB p_x80, XC p_x80 + x34.toNat * 1, none⟩)) 130 (hv := fun _ _ => QH (t := 25) (k := .i64) (i := x34) (p := p_x80) (n := L_x80.length) (cap := c_x80) (x := x80) P88 (qD h_x80) b94 (by kernel_rfl))) <|
 .cons [131] (qy 900033 (qf p_x80 c_x80 L_x80) (.slice p_t95 t95.length c_t95) 131 fun _ w h => Ya ql (qQ h).row.2 qk y_t95 0 1 [.slice p_t95 t95.length c_t95]) <|
 .v 132 (vI x81) <|
 .cons [133] (qp (fun u85 => .pointer (some ⟨XB p_t95, XC p_t95 + x81.toNat * 2, none⟩)) 133 (hv := fun _ _ => QH (t := 22) (k := .i64) (i := x81) (p := p_t95) (n := t95.length) (cap := c_t95) (x := t95) P98 rfl b96 (by kernel_rfl))) <|
 .cons [134] (qy 900033 (qf p_x80 c_x80 L_x80) (.agg #[vI t97.Lo, vI t97.Hi]) 134 fun _ w h => Ya qb ((qQ h).one y_t95).2 qh ht97 0 2 [vI t97.Lo, vI t97.Hi]) <|
 .cons [135] (Xi [999999] (fun u85 => [gk]) 41 _ _ 135 (fun u85 w hF => Xh.calls t76 t97  t99 w  (Yc hF.1) ht99)) <|
 .cons [136] (qo 40 _ _ 136 [] (fun u85 w _ => XV.calls t92 t99  t100 w  ht100)) <|
 .cons [137] (qp (fun u85 => .pointer (some ⟨XB p_t87, XC p_t87 + x81.toNat * 2, none⟩)) 137 (hv := fun _ _ => QH (t := 22) (k := .i64) (i := x81) (p := p_t87) (n := t87.length) (cap := c_t87) (x := t87) P103 rfl b101 (by kernel_rfl))) <|
 .cons [900033, 900033] (Xs [] [] (fun u85 => []) 900033 (fun u85 => qf p_x80 c_x80 L_x80) none (fun u85 g => .nilFunc) (fun u85 g => qj p_x80 L_x80.length c_x80 (L_x80.set x64.toNat ⟨p_t87, c_t87, (t87.set x81.toNat t100)⟩)) (fun u85 w hF hK => qd3 hK y_t87 (j := x81.toNat) (y := t100) (fun h => XP h qh (vs := [vI t100.Lo, vI t100.Hi]) ht102 0 (by simp) (by simp) rfl (by kernel_rfl)))) <| .nil) [4, 5, 8, 12, 13, 39, 40, 93, 94, 111, 112, 183, 900033, 999999] fun u85 a w' H => ?_
              refine qN qd H (.v 138 (vI (qe (x81 + 1))) <|
 .v 112 (vI (qe (x81 + 1))) <| .nil) [4, 5, 8, 12, 13, 39, 40, 93, 94, 111, 112, 183, 900033, 999999] fun u104 a w' H => ?_
              exact ⟨k, Nat.lt_succ_self k, _, _, G, p_x80, c_x80, L_x80.length, (L_x80.set x64.toNat ⟨p_t87, c_t87, (t87.set x81.toNat t100)⟩), by simp, (map_set h_x80 x64.toNat (⟨p_t87, c_t87, (t87.set x81.toNat t100)⟩ : Sl qa)), H.toM _⟩
             ·rw [if_neg (nt c105)] at G
              refine QO rfl ?_
              obtain rfl := sj G
              replace H := H.move (K := qf p_x80 c_x80 L_x80) 900033 900031 (by kernel_rfl) (by intro _ _ h; cases h)
              exact ⟨p_x80, c_x80, L_x80.length, L_x80, rfl, h_x80, H.toM _⟩
         ·rw [if_neg (nt c107)] at G
          refine QO rfl ?_
          obtain rfl := sj G
          replace H := H.move (K := qf p_x63 c_x63 L_x63) 900029 900025 (by kernel_rfl) (by intro _ _ h; cases h)
          exact ⟨_, rfl, p_x63, c_x63, L_x63.length, L_x63, rfl, h_x63, H.toM _⟩
       ·clear G; replace G := hj61; clear hj61
        refine qs ?_
        replace G := gd G; obtain ⟨b109, G⟩ := G
        obtain ⟨t110, ht110, G⟩ := qP G
        obtain ⟨p_t110, c_t110, y_t110⟩ := QE (map_set (map_set h_x33 x34.toNat (⟨p_t47, c_t47, t47⟩ : Sl qa)) t42.toNat (⟨p_t50, c_t50, t50⟩ : Sl qa)) ht110
        refine qN qd H (.v 69 (.slice p_x33 L_x33.length c_x33) <|
 .v 70 (vI x34) <|
 .cons [71] (qy 900023 (qj p_x33 L_x33.length c_x33 ((L_x33.set x34.toNat (⟨p_t47, c_t47, t47⟩ : Sl qa)).set t42.toNat (⟨p_t50, c_t50, t50⟩ : Sl qa))) (.pointer (some ⟨XB p_x33, XC p_x33 + x34.toNat * 1, none⟩)) 71 fun _ w h => YQ 25 .i64 x34 p_x33 L_x33.length c_x33 ((x33.set x34.toNat t47).set t42.toNat t50) ql (qQ h).row.2 qk (qD (map_set (map_set h_x33 x34.toNat (⟨p_t47, c_t47, t47⟩ : Sl qa)) t42.toNat (⟨p_t50, c_t50, t50⟩ : Sl qa))) b109) <|
 .cons [72] (qy 900023 (qj p_x33 L_x33.length c_x33 ((L_x33.set x34.toNat (⟨p_t47, c_t47, t47⟩ : Sl qa)).set t42.toNat (⟨p_t50, c_t50, t50⟩ : Sl qa))) (.slice p_t110 t110.length c_t110) 72 fun _ w h => Ya ql (qQ h).row.2 qk y_t110 0 1 [.slice p_t110 t110.length c_t110]) <|
 .v 73 (vI (t110.length : Int)) <|
 .v 74 (vI 0) <| .nil) [4, 5, 8, 10, 39, 40, 73, 74, 178, 900023, 999999] fun u108 a w' H => ?_
        refine qA ?_
        replace H := H.move (K := qj p_x33 L_x33.length c_x33 ((L_x33.set x34.toNat (⟨p_t47, c_t47, t47⟩ : Sl qa)).set t42.toNat (⟨p_t50, c_t50, t50⟩ : Sl qa))) 900023 900035 (by kernel_rfl) (by intro _ _ h; cases h)
        refine Qv (fun m a w' => ∃ x111 : List (List qa), ∃ x112 : Int, qw.l113 k0 a0 j6 x33 x34 t42 t47 t50 t52 t54 t57 t59 t110 m x111 x112 = some j61 ∧ ∃ (p_x111 : Option Addr) (c_x111 np_x111 : Nat) (L_x111 : List (Sl qa)), np_x111 = L_x111.length ∧ x111 = L_x111.map Sl.l ∧ RL w 161 [(4, (sI (a0.length : Int))), (5, sS p_x111 np_x111 c_x111), (8, sI x34), (10, (sP ((u55 7).n 0) 0)), (39, (sI (a0.length : Int))), (40, sI x34), (73, (sI (t110.length : Int))), (74, sI x112), (178, .blk ((u55 7).n 0) [vI t59.Lo, vI t59.Hi] 48), (900035, qj p_x111 np_x111 c_x111 L_x111), (999999, gk)] a w') k0 ⟨_, _, G, p_x33, c_x33, L_x33.length, ((L_x33.set x34.toNat (⟨p_t47, c_t47, t47⟩ : Sl qa)).set t42.toNat (⟨p_t50, c_t50, t50⟩ : Sl qa)), by simp, (map_set (map_set h_x33 x34.toNat (⟨p_t47, c_t47, t47⟩ : Sl qa)) t42.toNat (⟨p_t50, c_t50, t50⟩ : Sl qa)), H.toM _⟩ ?_
        clear G H
        rintro (_ | k) a w' ⟨x111, x112, G, p_x111, c_x111, _, L_x111, rfl, h_x111, H⟩
        ·exact absurd G (by unfold qw.l113; exact fun h => by cases h)
        ·unfold qw.l113 at G
         refine qg qd H (.v 75 (.bool (decide (x112 < (t110.length : Int)))) <| .nil) [4, 5, 8, 10, 39, 40, 73, 74, 75, 178, 900035, 999999] fun u114 a w' H => ?_
         refine qs ?_
         refine Qr H (decide (x112 < (t110.length : Int))) (fun c130 => ?_) fun c130 => ?_
         ·rw [if_pos c130] at G
          refine qT ?_
          refine qs ?_
          refine qA ?_
          refine qg qd H (.v 76 (vI x112) <|
 .v 11 (vI x112) <| .nil) [4, 5, 8, 10, 11, 39, 40, 73, 74, 178, 900035, 999999] fun u115 a w' H => ?_
          replace G := gd G; obtain ⟨b117, G⟩ := G
          obtain ⟨t118, ht118, G⟩ := qP G
          obtain ⟨p_t118, c_t118, y_t118⟩ := QE h_x111 ht118
          have P119 := XT (en := ql) (l := L_x111) (qQ (H.at (K := qf p_x111 c_x111 L_x111) 900035 (by kernel_rfl))).row.2 qk
          replace G := gd G; obtain ⟨b120, G⟩ := G
          obtain ⟨t121, ht121, G⟩ := qP G
          obtain ⟨p_t121, c_t121, y_t121⟩ := QE h_x111 ht121
          replace G := gd G; obtain ⟨b122, G⟩ := G
          obtain ⟨t123, ht123, G⟩ := qP G
          have P124 := XT (en := qb) (l := t121) ((qQ (H.at (K := qf p_x111 c_x111 L_x111) 900035 (by kernel_rfl))).one y_t121).2 qh
          obtain ⟨t125, ht125, G⟩ := qP G
          replace G := gd G; obtain ⟨b126, G⟩ := G
          obtain ⟨t127, ht127, G⟩ := qP G
          have P128 := XT (en := qb) (l := t118) ((qQ (H.at (K := qf p_x111 c_x111 L_x111) 900035 (by kernel_rfl))).one y_t118).2 qh
          refine qN qd H (.v 77 (.slice p_x111 L_x111.length c_x111) <|
 .v 78 (vI x34) <|
 .cons [79] (qp (fun u116 => .pointer (some ⟨XB p_x111, XC p_x111 + x34.toNat * 1, none⟩)) 79 (hv := fun _ _ => QH (t := 25) (k := .i64) (i := x34) (p := p_x111) (n := L_x111.length) (cap := c_x111) (x := x111) P119 (qD h_x111) b117 (by kernel_rfl))) <|
 .cons [80] (qy 900035 (qf p_x111 c_x111 L_x111) (.slice p_t118 t118.length c_t118) 80 fun _ w h => Ya ql (qQ h).row.2 qk y_t118 0 1 [.slice p_t118 t118.length c_t118]) <|
 .v 81 (vI x112) <|
 .v 82 (.slice p_x111 L_x111.length c_x111) <|
 .v 83 (vI x34) <|
 .cons [84] (qp (fun u116 => .pointer (some ⟨XB p_x111, XC p_x111 + x34.toNat * 1, none⟩)) 84 (hv := fun _ _ => QH (t := 25) (k := .i64) (i := x34) (p := p_x111) (n := L_x111.length) (cap := c_x111) (x := x111) P119 (qD h_x111) b120 (by kernel_rfl))) <|
 .cons [85] (qy 900035 (qf p_x111 c_x111 L_x111) (.slice p_t121 t121.length c_t121) 85 fun _ w h => Ya ql (qQ h).row.2 qk y_t121 0 1 [.slice p_t121 t121.length c_t121]) <|
 .v 86 (vI x112) <|
 .cons [87] (qp (fun u116 => .pointer (some ⟨XB p_t121, XC p_t121 + x112.toNat * 2, none⟩)) 87 (hv := fun _ _ => QH (t := 22) (k := .i64) (i := x112) (p := p_t121) (n := t121.length) (cap := c_t121) (x := t121) P124 rfl b122 (by kernel_rfl))) <|
 .cons [88] (qy 900035 (qf p_x111 c_x111 L_x111) (.agg #[vI t123.Lo, vI t123.Hi]) 88 fun _ w h => Ya qb ((qQ h).one y_t121).2 qh ht123 0 2 [vI t123.Lo, vI t123.Hi]) <|
 .cons [89] (qv (.agg #[vI t59.Lo, vI t59.Hi]) 89 178 0 2 ((u55 7).n 0) [vI t59.Lo, vI t59.Hi] 48) <|
 .cons [90] (Xi [999999] (fun u116 => [gk]) 39 _ _ 90 (fun u116 w hF => Xz.calls t123 t59  t125 w  (Yc hF.1) ht125)) <|
 .cons [91] (qp (fun u116 => .pointer (some ⟨XB p_t118, XC p_t118 + x112.toNat * 2, none⟩)) 91 (hv := fun _ _ => QH (t := 22) (k := .i64) (i := x112) (p := p_t118) (n := t118.length) (cap := c_t118) (x := t118) P128 rfl b126 (by kernel_rfl))) <|
 .cons [900035, 900035] (Xs [] [] (fun u116 => []) 900035 (fun u116 => qf p_x111 c_x111 L_x111) none (fun u116 g => .nilFunc) (fun u116 g => qj p_x111 L_x111.length c_x111 (L_x111.set x34.toNat ⟨p_t118, c_t118, (t118.set x112.toNat t125)⟩)) (fun u116 w hF hK => qd3 hK y_t118 (j := x112.toNat) (y := t125) (fun h => XP h qh (vs := [vI t125.Lo, vI t125.Hi]) ht127 0 (by simp) (by simp) rfl (by kernel_rfl)))) <| .nil) [4, 5, 8, 10, 39, 40, 73, 74, 178, 900035, 999999] fun u116 a w' H => ?_
          refine qN qd H (.v 92 (vI (qe (x112 + 1))) <|
 .v 74 (vI (qe (x112 + 1))) <| .nil) [4, 5, 8, 10, 39, 40, 73, 74, 178, 900035, 999999] fun u129 a w' H => ?_
          exact ⟨k, Nat.lt_succ_self k, _, _, G, p_x111, c_x111, L_x111.length, (L_x111.set x34.toNat ⟨p_t118, c_t118, (t118.set x112.toNat t125)⟩), by simp, (map_set h_x111 x34.toNat (⟨p_t118, c_t118, (t118.set x112.toNat t125)⟩ : Sl qa)), H.toM _⟩
         ·rw [if_neg (nt c130)] at G
          refine QO rfl ?_
          obtain rfl := sj G
          replace H := H.move (K := qf p_x111 c_x111 L_x111) 900035 900027 (by kernel_rfl) (by intro _ _ h; cases h)
          exact ⟨p_x111, c_x111, L_x111.length, L_x111, rfl, h_x111, H.toM _⟩
    ·rw [if_neg (nt c132)] at G
     refine QO rfl ?_
     obtain rfl := sj G
     replace H := H.move (K := qf p_x33 c_x33 L_x33) 900023 900017 (by kernel_rfl) (by intro _ _ h; cases h)
     exact ⟨_, rfl, p_x33, c_x33, L_x33.length, L_x33, rfl, h_x33, H.toM _⟩
 ·clear G; replace G := hj6; clear hj6
  obtain ⟨t134, ht134, G⟩ := qP G
  refine qg qd H (.v 20 (vI (a0.length : Int)) <|
 .cons [21, 204] (Qo false fr [] [] (fun u133 => []) [] (fun u133 => []) 26 _ (fun u133 => []) _ _ _ [204] 21 (fun u133 w hB hF hM => Xp.calls k0 (a0.length : Int)  t134 w  ht134) (fun u133 w hF => ⟨trivial, trivial⟩) (fun u133 g => (qx QZ qI)) (.inr (fun u133 g => (Qj trivial (fun K h => by cases h)))) (fun h => by cases h)) <|
 .cons [22] (JV [204] (fun u133 => [ns_en_TIntervalg (u133 1) 0 t134]) (fun u133 => vI (t134.length : Int)) (fun u133 => true) [true] 22 (fun u133 w hg hF => Q7 (((qQ hF.1).row.2.len qk (by decide)).trans (qD (Xc qC (u133 1) 0 t134)).symm) (by kernel_rfl))) <|
 .v 23 (vI 0) <| .nil) [0, 4, 5, 21, 22, 23, 161, 162, 163, 204, 999999] fun u133 a w' H => ?_
  refine qA ?_
  replace H := H.move (K := qf ((u3 1).o 0) ((u3 1).n 0) (List.replicate (a0.length : Int).toNat (⟨none, 0, []⟩ : Sl qa))) 163 900037 (by kernel_rfl) (by intro _ _ h; cases h)
  refine Qv (fun m a w' => ∃ x135 : List (List qa), ∃ x136 : Int, qw.l137 k0 a0 t134 m x135 x136 = some j6 ∧ ∃ (p_x135 : Option Addr) (c_x135 np_x135 : Nat) (L_x135 : List (Sl qa)), np_x135 = L_x135.length ∧ x135 = L_x135.map Sl.l ∧ RL w 161 [(0, sS p_a0 L_a0.length c_a0), (4, (sI (a0.length : Int))), (5, sS p_x135 np_x135 c_x135), (21, (sS ((u133 1).o 0) ((dlgd_S_TInterval (u133 1) 0 t134).length) ((u133 1).n 0))), (22, (sI (t134.length : Int))), (23, sI x136), (161, Qh qi 1 p_a0 c_a0 L_a0 ql), (162, QA qi qc.toPart L_a0), (204, ns_en_TIntervalg (u133 1) 0 t134), (900037, qj p_x135 np_x135 c_x135 L_x135), (999999, gk)] a w') k0 ⟨_, _, G, ((u3 1).o 0), ((u3 1).n 0), (List.replicate (a0.length : Int).toNat (⟨none, 0, []⟩ : Sl qa)).length, (List.replicate (a0.length : Int).toNat (⟨none, 0, []⟩ : Sl qa)), rfl, (Jr (a0.length : Int).toNat (⟨none, 0, []⟩ : Sl qa)), H.toM _⟩ ?_
  clear G H
  rintro (_ | k) a w' ⟨x135, x136, G, p_x135, c_x135, _, L_x135, rfl, h_x135, H⟩
  ·exact absurd G (by unfold qw.l137; exact fun h => by cases h)
  ·unfold qw.l137 at G
   refine qg qd H (.v 24 (.bool (decide (x136 < (t134.length : Int)))) <| .nil) [0, 4, 5, 21, 22, 23, 24, 161, 162, 204, 900037, 999999] fun u138 a w' H => ?_
   refine qs ?_
   refine Qr H (decide (x136 < (t134.length : Int))) (fun c149 => ?_) fun c149 => ?_
   ·rw [if_pos c149] at G
    refine qT ?_
    refine qs ?_
    refine qA ?_
    refine qs ?_
    replace G := gd G; obtain ⟨b140, G⟩ := G
    obtain ⟨t141, ht141, G⟩ := qP G
    obtain ⟨p_t141, c_t141, y_t141⟩ := QE (Xc qC (u133 1) 0 t134) ht141
    refine qN qd H (.v 25 (vI x136) <|
 .cons [26] (qy 204 (ns_en_TIntervalg (u133 1) 0 t134) (.pointer (some ⟨XB ((u133 1).o 0), XC ((u133 1).o 0) + x136.toNat * 1, none⟩)) 26 fun _ w h => Z6 (t := 25) (k := .i64) (i := x136) (p := ((u133 1).o 0)) (n := (dlgd_S_TInterval (u133 1) 0 t134).length) (cap := ((u133 1).n 0)) (x := t134) (en := ql) (qQ h).row.2 qk (qD (Xc qC (u133 1) 0 t134)) b140 (by kernel_rfl)) <|
 .cons [27] (qy 204 (ns_en_TIntervalg (u133 1) 0 t134) (.slice p_t141 t141.length c_t141) 27 fun _ w h => Ya ql (qQ h).row.2 qk y_t141 0 1 [.slice p_t141 t141.length c_t141]) <|
 .v 6 (vI x136) <|
 .v 7 (.slice p_t141 t141.length c_t141) <| .nil) [0, 4, 5, 6, 7, 21, 22, 23, 161, 162, 204, 900037, 999999] fun u139 a w' H => ?_
    replace G := gd G; obtain ⟨b143, G⟩ := G
    obtain ⟨t144, ht144, G⟩ := qP G
    obtain ⟨p_t144, c_t144, y_t144⟩ := QE h_a0 ht144
    obtain ⟨t145, ht145, G⟩ := qP G
    replace G := gd G; obtain ⟨b146, G⟩ := G
    obtain ⟨t147, ht147, G⟩ := qP G
    obtain ⟨p_t147, c_t147, y_t147⟩ := QE h_x135 ht147
    refine qN qd H (.v 28 (.slice p_x135 L_x135.length c_x135) <|
 .v 29 (vI x136) <|
 .v 30 (.slice p_a0 L_a0.length c_a0) <|
 .v 31 (vI x136) <|
 .cons [32] (qy 161 (Qh qi 1 p_a0 c_a0 L_a0 ql) (.pointer (some ⟨XB p_a0, XC p_a0 + x136.toNat * 1, none⟩)) 32 fun _ w h => YQ 25 .i64 x136 p_a0 L_a0.length c_a0 a0 ql (qq h).2 qk (qD h_a0) b143) <|
 .cons [33] (qy 161 (Qh qi 1 p_a0 c_a0 L_a0 ql) (.slice p_t144 t144.length c_t144) 33 fun _ w h => Ya ql (qq h).2 qk y_t144 0 1 [.slice p_t144 t144.length c_t144]) <|
 .v 34 (.slice p_t141 t141.length c_t141) <|
 .cons [35, 205] (YE 1 2 (qH (fun b => .slice (some ⟨b, 0, none⟩) 2 2) (fun u142 => [.slice p_t144 t144.length c_t144, .slice p_t141 t141.length c_t141]) 22 35 205) (fun _ => rfl) (by decide)) <|
 .cons [36, 206] (Qo false fr [7] [205, 162, 204] (fun u142 => [Yo 22 1 (some ⟨((u142 7).n 0), 0, none⟩) 2 2 (([⟨p_t144, c_t144, t144⟩, ⟨p_t141, c_t141, t141⟩] : List (Sl qa)).flatMap ql), QA qi qc.toPart L_a0, ns_en_TIntervalg (u133 1) 0 t134]) [] (fun u142 => []) 37 _ _ _ _ _ [206] 36 (fun u142 w hB hF hM => QK.calls k0 ([t144, t141] : List (List qa)) (some ⟨((u142 7).n 0), 0, none⟩) 2 ([⟨p_t144, c_t144, t144⟩, ⟨p_t141, c_t141, t141⟩] : List (Sl qa)) t145 w rfl hB ht145) (fun u142 w hF => ⟨⟨QP (qY (QN hF.1)) (fun j h => ⟨_, (.head _), (Zm h)⟩), Xk (E := qc.toPart) (L := ([⟨p_t144, c_t144, t144⟩, ⟨p_t141, c_t141, t141⟩] : List (Sl qa))) (ZL ⟨(show Xv _ 2 p_t144 t144.length c_t144 (t144.flatMap qb) from ((Qb hF.2.1) _ (List.mem_of_getElem? y_t144)).1), fun _ _ => trivial⟩ (ZL ⟨((qQ hF.2.2.1).one y_t141), fun _ _ => trivial⟩ Zw)) (fun j => (fun h => (JM h).elim (fun h => (h.elim (fun h => ⟨_, (.tail _ (.head _)), ⟨_, (List.mem_of_getElem? y_t144), (.inl h)⟩⟩) (fun ⟨_, _, hz⟩ => hz.elim))) (fun h => (JM h).elim (fun h => (h.elim (fun h => ⟨_, (.tail _ (.tail _ (.head _))), (qdq y_t141 h)⟩) (fun ⟨_, _, hz⟩ => hz.elim))) (fun h => by obtain ⟨_, hy, _⟩ := h; cases hy)))), trivial⟩, trivial⟩) (fun u142 g => (qx X2 qI)) (.inr (fun u142 g => (Qj trivial (fun K h => by cases h)))) (fun h => by cases h) (hloc := fun u u' h => ⟨by first | rfl | simp only [h 7 (by decide)], by first | rfl | simp only [h 7 (by decide)], by first | rfl | simp only [h 7 (by decide)], by first | rfl | simp only [h 7 (by decide)], by first | rfl | simp only [h 7 (by decide)], by first | rfl | simp only [h 7 (by decide)]⟩)) <|
 .cons [37] (qy 900037 (qf p_x135 c_x135 L_x135) (.pointer (some ⟨XB p_x135, XC p_x135 + x136.toNat * 1, none⟩)) 37 fun _ w h => YQ 25 .i64 x136 p_x135 L_x135.length c_x135 x135 ql (qQ h).row.2 qk (qD h_x135) b146) <|
 .cons [900037, 206, 900037] (Jg [8] [] (fun u142 => []) 900037 206 (fun u142 => qf p_x135 c_x135 L_x135) (fun u142 => QU 48 2 ((u142 8).o 0) ((u142 8).n 0) t145 qb) none (fun u142 g => .nilFunc) (fun u142 g => qj p_x135 L_x135.length c_x135 (L_x135.set x136.toNat (⟨((u142 8).o 0), ((u142 8).n 0), t145⟩ : Sl qa))) (fun u142 w hF hK hK2 hd => qey hK hK2 hd qh (by decide) (fun hn h => XP (en := ql) h qk (y := (⟨((u142 8).o 0), ((u142 8).n 0), t145⟩ : Sl qa)) (vs := [.slice ((u142 8).o 0) t145.length ((u142 8).n 0)]) y_t147 0 (by simp) (by simp) rfl (by kernel_rfl))) (hloc := fun u u' h => ⟨by first | rfl | simp only [h 8 (by decide)], by first | rfl | simp only [h 8 (by decide)], by first | rfl | simp only [h 8 (by decide)], by first | rfl | simp only [h 8 (by decide)], by first | rfl | simp only [h 8 (by decide)]⟩)) <| .nil) [0, 4, 5, 21, 22, 23, 161, 162, 204, 900037, 999999] fun u142 a w' H => ?_
    refine qN qd H (.v 38 (vI (qe (x136 + 1))) <|
 .v 23 (vI (qe (x136 + 1))) <| .nil) [0, 4, 5, 21, 22, 23, 161, 162, 204, 900037, 999999] fun u148 a w' H => ?_
    exact ⟨k, Nat.lt_succ_self k, _, _, G, p_x135, c_x135, L_x135.length, (L_x135.set x136.toNat (⟨((u142 8).o 0), ((u142 8).n 0), t145⟩ : Sl qa)), by simp, (map_set h_x135 x136.toNat (⟨((u142 8).o 0), ((u142 8).n 0), t145⟩ : Sl qa)), H.toM _⟩
   ·rw [if_neg (nt c149)] at G
    refine QO rfl ?_
    obtain rfl := sj G
    replace H := H.move (K := qf p_x135 c_x135 L_x135) 900037 900015 (by kernel_rfl) (by intro _ _ h; cases h)
    exact ⟨p_x135, c_x135, L_x135.length, L_x135, rfl, h_x135, H.toM _⟩
theorem qz.calls (k0 : Nat) (a0 : List (List qa)) (a1 : List (List qa)) (p_a0 : Option Addr) (c_a0 : Nat) (L_a0 : List (Sl qa)) (p_a1 : Option Addr) (c_a1 : Nat) (L_a1 : List (Sl qa)) (r : Bool) (w : World) (h_a0 : a0 = L_a0.map Sl.l) (h_a1 : a1 = L_a1.map Sl.l) (hB : Yj [Qh qi 1 p_a0 c_a0 L_a0 ql, QA qi qc.toPart L_a0, Qh qi 1 p_a1 c_a1 L_a1 ql, QA qi qc.toPart L_a1] w) (G : qz k0 a0 a1 = some r) :
  Calls Tryz.prog 12 #[.slice p_a0 L_a0.length c_a0, .slice p_a1 L_a1.length c_a1] w fun e w' => e = .returned (.bool r) ∧ Below w.heap.size w w' := by
 obtain ⟨fr, hfr⟩ : ∃ fr : Nat → Prop, ∀ j, fr j := ⟨fun _ => True, fun _ => trivial⟩
 have hBf : ∀ j, w.heap.size ≤ j → fr j := fun j _ => hfr j
 refine QQ (args := [.slice p_a0 L_a0.length c_a0, .slice p_a1 L_a1.length c_a1]) 53 [(53, Qh qi 1 p_a0 c_a0 L_a0 ql), (54, QA qi qc.toPart L_a0), (55, Qh qi 1 p_a1 c_a1 L_a1 ql), (56, QA qi qc.toPart L_a1)] (by
  intro x hx
  simp only [List.mem_cons, List.not_mem_nil, or_false] at hx
  rcases hx with rfl | rfl | rfl | rfl
  ·exact Ql (qq hB.1) (fun _ _ => trivial) (by decide) _
  ·exact Xt (Qb hB.2.1) (fun _ _ => trivial) _
  ·exact Ql (qq hB.2.2.1) (fun _ _ => trivial) (by decide) _
  ·exact Xt (Qb hB.2.2.2.1) (fun _ _ => trivial) _) Tryz.func12 rfl (by kernel_rfl) (by kernel_rfl) fun a H => ?_
 unfold qz at G
 refine qg qd H (.v 4 (.bool false) <| .nil) [0, 1, 53, 54, 55, 56] fun u1 a w' H => ?_
 refine qs ?_
 refine qg qd H (.v 7 (.slice p_a0 L_a0.length c_a0) <|
 .cons [8] (qy 53 (Qh qi 1 p_a0 c_a0 L_a0 ql) (vI (a0.length : Int)) 8 fun _ w h => Q7 (((qq h).2.len qk (by decide)).trans (qD h_a0).symm) (by kernel_rfl)) <|
 .v 9 (.slice p_a1 L_a1.length c_a1) <|
 .cons [10] (qy 55 (Qh qi 1 p_a1 c_a1 L_a1 ql) (vI (a1.length : Int)) 10 fun _ w h => Q7 (((qq h).2.len qk (by decide)).trans (qD h_a1).symm) (by kernel_rfl)) <|
 .v 11 (.bool ((a0.length : Int) != (a1.length : Int))) <| .nil) [0, 1, 11, 53, 54, 55, 56] fun u2 a w' H => ?_
 refine Qr H ((a0.length : Int) != (a1.length : Int)) (fun c43 => ?_) fun c43 => ?_
 ·rw [if_pos c43] at G
  refine qg qd H (.v 4 (.bool false) <| .nil) [4] fun u3 a w' H => ?_
  refine q7 ?_
  obtain rfl := sj G
  exact QG H _ (by kernel_rfl) (by kernel_rfl)
 ·rw [if_neg (nt c43)] at G
  refine qT ?_
  refine qs ?_
  obtain ⟨j4, hj4, Gj4⟩ := qP G
  refine Qw (fun a w' => ∃ j4v, j4 = Sum.inr j4v ∧ RL w 53 [] a w') ?_ ?_
  ·clear H; rintro a w' ⟨j4v, rfl, H⟩; have G := Gj4; clear Gj4; dsimp only at G
   refine qg qd H (.v 4 (.bool true) <| .nil) [4] fun u5 a w' H => ?_
   refine q7 ?_
   obtain rfl := sj G
   exact QG H _ (by kernel_rfl) (by kernel_rfl)
  ·have G := hj4; clear hj4
   refine qg qd H (.v 5 (vI 0) <| .nil) [0, 1, 5, 53, 54, 55, 56] fun u6 a w' H => ?_
   refine qA ?_
   refine Qv (fun m a w' => ∃ x7 : Int, qz.l8 k0 a0 a1 m x7 = some j4 ∧ RL w 53 [(0, sS p_a0 L_a0.length c_a0), (1, sS p_a1 L_a1.length c_a1), (5, sI x7), (53, Qh qi 1 p_a0 c_a0 L_a0 ql), (54, QA qi qc.toPart L_a0), (55, Qh qi 1 p_a1 c_a1 L_a1 ql), (56, QA qi qc.toPart L_a1)] a w') k0 ⟨_, G, H.toM _⟩ ?_
   clear G H
   rintro (_ | k) a w' ⟨x7, G, H⟩
   ·exact absurd G (by unfold qz.l8; exact fun h => by cases h)
   ·unfold qz.l8 at G
    refine qs ?_
    refine qg qd H (.v 12 (vI x7) <|
 .v 13 (.slice p_a0 L_a0.length c_a0) <|
 .cons [14] (qy 53 (Qh qi 1 p_a0 c_a0 L_a0 ql) (vI (a0.length : Int)) 14 fun _ w h => Q7 (((qq h).2.len qk (by decide)).trans (qD h_a0).symm) (by kernel_rfl)) <|
 .v 15 (.bool (decide (x7 < (a0.length : Int)))) <| .nil) [0, 1, 5, 15, 53, 54, 55, 56] fun u9 a w' H => ?_
    refine Qr H (decide (x7 < (a0.length : Int))) (fun c42 => ?_) fun c42 => ?_
    ·rw [if_pos c42] at G
     refine qT ?_
     refine qs ?_
     obtain ⟨j10, hj10, Gj10⟩ := qP G
     refine Qw (fun a w' => ∃ j10v, j10 = Sum.inr j10v ∧ RL w 53 [(0, sS p_a0 L_a0.length c_a0), (1, sS p_a1 L_a1.length c_a1), (5, sI x7), (53, Qh qi 1 p_a0 c_a0 L_a0 ql), (54, QA qi qc.toPart L_a0), (55, Qh qi 1 p_a1 c_a1 L_a1 ql), (56, QA qi qc.toPart L_a1)] a w') ?_ ?_
     ·clear H; rintro a w' ⟨j10v, rfl, H⟩; have G := Gj10; clear Gj10; dsimp only at G
      refine qN qd H (.v 16 (vI x7) <|
 .v 17 (vI (qe (x7 + 1))) <|
 .v 5 (vI (qe (x7 + 1))) <| .nil) [0, 1, 5, 53, 54, 55, 56] fun u11 a w' H => ?_
      exact ⟨k, Nat.lt_succ_self k, _, G, H.toM _⟩
     ·have G := hj10; clear hj10
      refine qA ?_
      refine qs ?_
      refine qs ?_
      replace G := gd G; obtain ⟨b13, G⟩ := G
      obtain ⟨t14, ht14, G⟩ := qP G
      obtain ⟨p_t14, c_t14, y_t14⟩ := QE h_a0 ht14
      have P15 := XT (en := ql) (l := L_a0) (qq (H.at (K := Qh qi 1 p_a0 c_a0 L_a0 ql) 53 (by kernel_rfl))).2 qk
      replace G := gd G; obtain ⟨b16, G⟩ := G
      obtain ⟨t17, ht17, G⟩ := qP G
      obtain ⟨p_t17, c_t17, y_t17⟩ := QE h_a1 ht17
      have P18 := XT (en := ql) (l := L_a1) (qq (H.at (K := Qh qi 1 p_a1 c_a1 L_a1 ql) 55 (by kernel_rfl))).2 qk
      refine qN qd H (.v 18 (.slice p_a0 L_a0.length c_a0) <|
 .v 19 (vI x7) <|
 .cons [20] (qp (fun u12 => .pointer (some ⟨XB p_a0, XC p_a0 + x7.toNat * 1, none⟩)) 20 (hv := fun _ _ => QH (t := 25) (k := .i64) (i := x7) (p := p_a0) (n := L_a0.length) (cap := c_a0) (x := a0) P15 (qD h_a0) b13 (by kernel_rfl))) <|
 .cons [21] (qy 53 (Qh qi 1 p_a0 c_a0 L_a0 ql) (.slice p_t14 t14.length c_t14) 21 fun _ w h => Ya ql (qq h).2 qk y_t14 0 1 [.slice p_t14 t14.length c_t14]) <|
 .v 22 (vI (t14.length : Int)) <|
 .v 23 (.slice p_a1 L_a1.length c_a1) <|
 .v 24 (vI x7) <|
 .cons [25] (qp (fun u12 => .pointer (some ⟨XB p_a1, XC p_a1 + x7.toNat * 1, none⟩)) 25 (hv := fun _ _ => QH (t := 25) (k := .i64) (i := x7) (p := p_a1) (n := L_a1.length) (cap := c_a1) (x := a1) P18 (qD h_a1) b16 (by kernel_rfl))) <|
 .cons [26] (qy 55 (Qh qi 1 p_a1 c_a1 L_a1 ql) (.slice p_t17 t17.length c_t17) 26 fun _ w h => Ya ql (qq h).2 qk y_t17 0 1 [.slice p_t17 t17.length c_t17]) <|
 .v 27 (vI (t17.length : Int)) <|
 .v 28 (.bool ((t14.length : Int) != (t17.length : Int))) <| .nil) [0, 1, 5, 28, 53, 54, 55, 56] fun u12 a w' H => ?_
      refine Qr H ((t14.length : Int) != (t17.length : Int)) (fun c41 => ?_) fun c41 => ?_
      ·rw [if_pos c41] at G
       refine qg qd H (.v 4 (.bool false) <| .nil) [4] fun u19 a w' H => ?_
       refine q7 ?_
       obtain rfl := sj G
       replace G := Gj10
       obtain rfl := sj G
       replace G := Gj4
       obtain rfl := sj G
       exact QG H _ (by kernel_rfl) (by kernel_rfl)
      ·rw [if_neg (nt c41)] at G
       refine qT ?_
       refine qg qd H (.v 6 (vI 0) <| .nil) [0, 1, 5, 6, 53, 54, 55, 56] fun u20 a w' H => ?_
       refine qA ?_
       refine Qv (fun m a w' => ∃ x21 : Int, qz.l22 k0 a0 a1 x7 t14 t17 m x21 = some j10 ∧ RL w 53 [(0, sS p_a0 L_a0.length c_a0), (1, sS p_a1 L_a1.length c_a1), (5, sI x7), (6, sI x21), (53, Qh qi 1 p_a0 c_a0 L_a0 ql), (54, QA qi qc.toPart L_a0), (55, Qh qi 1 p_a1 c_a1 L_a1 ql), (56, QA qi qc.toPart L_a1)] a w') k0 ⟨_, G, H.toM _⟩ ?_
       clear G H
       rintro (_ | k) a w' ⟨x21, G, H⟩
       ·exact absurd G (by unfold qz.l22; exact fun h => by cases h)
       ·unfold qz.l22 at G
        refine qs ?_
        refine qs ?_
        replace G := gd G; obtain ⟨b24, G⟩ := G
        obtain ⟨t25, ht25, G⟩ := qP G
        obtain ⟨p_t25, c_t25, y_t25⟩ := QE h_a0 ht25
        refine qN qd H (.v 29 (vI x21) <|
 .v 30 (.slice p_a0 L_a0.length c_a0) <|
 .v 31 (vI x7) <|
 .cons [32] (qy 53 (Qh qi 1 p_a0 c_a0 L_a0 ql) (.pointer (some ⟨XB p_a0, XC p_a0 + x7.toNat * 1, none⟩)) 32 fun _ w h => YQ 25 .i64 x7 p_a0 L_a0.length c_a0 a0 ql (qq h).2 qk (qD h_a0) b24) <|
 .cons [33] (qy 53 (Qh qi 1 p_a0 c_a0 L_a0 ql) (.slice p_t25 t25.length c_t25) 33 fun _ w h => Ya ql (qq h).2 qk y_t25 0 1 [.slice p_t25 t25.length c_t25]) <|
 .v 34 (vI (t25.length : Int)) <|
 .v 35 (.bool (decide (x21 < (t25.length : Int)))) <| .nil) [0, 1, 5, 6, 35, 53, 54, 55, 56] fun u23 a w' H => ?_
        refine Qr H (decide (x21 < (t25.length : Int))) (fun c40 => ?_) fun c40 => ?_
        ·rw [if_pos c40] at G
         refine qT ?_
         refine qs ?_
         refine qA ?_
         refine qs ?_
         replace G := gd G; obtain ⟨b27, G⟩ := G
         obtain ⟨t28, ht28, G⟩ := qP G
         obtain ⟨p_t28, c_t28, y_t28⟩ := QE h_a0 ht28
         have P29 := XT (en := ql) (l := L_a0) (qq (H.at (K := Qh qi 1 p_a0 c_a0 L_a0 ql) 53 (by kernel_rfl))).2 qk
         replace G := gd G; obtain ⟨b30, G⟩ := G
         obtain ⟨t31, ht31, G⟩ := qP G
         replace G := gd G; obtain ⟨b32, G⟩ := G
         obtain ⟨t33, ht33, G⟩ := qP G
         obtain ⟨p_t33, c_t33, y_t33⟩ := QE h_a1 ht33
         have P34 := XT (en := ql) (l := L_a1) (qq (H.at (K := Qh qi 1 p_a1 c_a1 L_a1 ql) 55 (by kernel_rfl))).2 qk
         replace G := gd G; obtain ⟨b35, G⟩ := G
         obtain ⟨t36, ht36, G⟩ := qP G
         refine qN qd H (.v 38 (.slice p_a0 L_a0.length c_a0) <|
 .v 39 (vI x7) <|
 .cons [40] (qp (fun u26 => .pointer (some ⟨XB p_a0, XC p_a0 + x7.toNat * 1, none⟩)) 40 (hv := fun _ _ => QH (t := 25) (k := .i64) (i := x7) (p := p_a0) (n := L_a0.length) (cap := c_a0) (x := a0) P29 (qD h_a0) b27 (by kernel_rfl))) <|
 .cons [41] (qy 53 (Qh qi 1 p_a0 c_a0 L_a0 ql) (.slice p_t28 t28.length c_t28) 41 fun _ w h => Ya ql (qq h).2 qk y_t28 0 1 [.slice p_t28 t28.length c_t28]) <|
 .v 42 (vI x21) <|
 .cons [43] (qy 54 (QA qi qc.toPart L_a0) (.pointer (some ⟨XB p_t28, XC p_t28 + x21.toNat * 2, none⟩)) 43 fun _ w h => YQ 22 .i64 x21 p_t28 t28.length c_t28 t28 qb (show Xv _ 2 p_t28 t28.length c_t28 (t28.flatMap qb) from ((Qb h) _ (List.mem_of_getElem? y_t28)).1).2 qh rfl b30) <|
 .cons [44] (qy 54 (QA qi qc.toPart L_a0) (.agg #[vI t31.Lo, vI t31.Hi]) 44 fun _ w h => Ya qb (show Xv _ 2 p_t28 t28.length c_t28 (t28.flatMap qb) from ((Qb h) _ (List.mem_of_getElem? y_t28)).1).2 qh ht31 0 2 [vI t31.Lo, vI t31.Hi]) <|
 .v 45 (.slice p_a1 L_a1.length c_a1) <|
 .v 46 (vI x7) <|
 .cons [47] (qp (fun u26 => .pointer (some ⟨XB p_a1, XC p_a1 + x7.toNat * 1, none⟩)) 47 (hv := fun _ _ => QH (t := 25) (k := .i64) (i := x7) (p := p_a1) (n := L_a1.length) (cap := c_a1) (x := a1) P34 (qD h_a1) b32 (by kernel_rfl))) <|
 .cons [48] (qy 55 (Qh qi 1 p_a1 c_a1 L_a1 ql) (.slice p_t33 t33.length c_t33) 48 fun _ w h => Ya ql (qq h).2 qk y_t33 0 1 [.slice p_t33 t33.length c_t33]) <|
 .v 49 (vI x21) <|
 .cons [50] (qy 56 (QA qi qc.toPart L_a1) (.pointer (some ⟨XB p_t33, XC p_t33 + x21.toNat * 2, none⟩)) 50 fun _ w h => YQ 22 .i64 x21 p_t33 t33.length c_t33 t33 qb (show Xv _ 2 p_t33 t33.length c_t33 (t33.flatMap qb) from ((Qb h) _ (List.mem_of_getElem? y_t33)).1).2 qh rfl b35) <|
 .cons [51] (qy 56 (QA qi qc.toPart L_a1) (.agg #[vI t36.Lo, vI t36.Hi]) 51 fun _ w h => Ya qb (show Xv _ 2 p_t33 t33.length c_t33 (t33.flatMap qb) from ((Qb h) _ (List.mem_of_getElem? y_t33)).1).2 qh ht36 0 2 [vI t36.Lo, vI t36.Hi]) <|
 .cons [52] (qp (fun u26 => .bool (!((t31.Lo == t36.Lo) && ((t31.Hi == t36.Hi) && true)))) 52 (hv := fun _ _ => Zz (by kernel_rfl) (Wv (t := 48) (x := (.tmp 44)) (y := (.tmp 51)) (xs := #[vI t31.Lo, vI t31.Hi]) (ys := #[vI t36.Lo, vI t36.Hi]) (b := ((t31.Lo == t36.Lo) && ((t31.Hi == t36.Hi) && true))) (by kernel_rfl) (by kernel_rfl)))) <| .nil) [0, 1, 5, 6, 52, 53, 54, 55, 56] fun u26 a w' H => ?_
         refine Qr H (!((t31.Lo == t36.Lo) && ((t31.Hi == t36.Hi) && true))) (fun c39 => ?_) fun c39 => ?_
         ·rw [if_pos c39] at G
          refine qg qd H (.v 4 (.bool false) <| .nil) [4] fun u37 a w' H => ?_
          refine q7 ?_
          obtain rfl := sj G
          replace G := Gj10
          obtain rfl := sj G
          replace G := Gj4
          obtain rfl := sj G
          exact QG H _ (by kernel_rfl) (by kernel_rfl)
         ·rw [if_neg (nt c39)] at G
          refine qT ?_
          refine qN qd H (.v 36 (vI x21) <|
 .v 37 (vI (qe (x21 + 1))) <|
 .v 6 (vI (qe (x21 + 1))) <| .nil) [0, 1, 5, 6, 53, 54, 55, 56] fun u38 a w' H => ?_
          exact ⟨k, Nat.lt_succ_self k, _, G, H.toM _⟩
        ·rw [if_neg (nt c40)] at G
         refine QO rfl ?_
         obtain rfl := sj G
         exact ⟨_, rfl, H.toM _⟩
    ·rw [if_neg (nt c42)] at G
     refine QO rfl ?_
     obtain rfl := sj G
     exact ⟨_, rfl, H.toM _⟩
theorem Yd.calls (a0 : Int) (q0 : List (List qa)) (q1 : Int) (b_q0 : Nat) (p_q0 : Option Addr) (c_q0 : Nat) (L_q0 : List (Sl qa)) (b_q1 : Nat) (r : qa) (w : World) (h_q0 : q0 = L_q0.map Sl.l) (hB : Yj [Qh qi 1 p_q0 c_q0 L_q0 ql, QA qi qc.toPart L_q0, X7 b_q0 [.slice p_q0 L_q0.length c_q0] 25, X7 b_q1 [vI q1] 3] w) (G : Yd a0 q0 q1 = some r) :
  Calls Tryz.prog 50 #[vI a0, vP b_q0 0, vP b_q1 0] w fun e w' => e = .returned (.agg #[vI r.Lo, vI r.Hi]) ∧ Below w.heap.size w w' := by
 obtain ⟨fr, hfr⟩ : ∃ fr : Nat → Prop, ∀ j, fr j := ⟨fun _ => True, fun _ => trivial⟩
 have hBf : ∀ j, w.heap.size ≤ j → fr j := fun j _ => hfr j
 refine QQ (args := [vI a0, vP b_q0 0, vP b_q1 0]) 12 [(13, Qh qi 1 p_q0 c_q0 L_q0 ql), (14, QA qi qc.toPart L_q0), (12, X7 b_q0 [.slice p_q0 L_q0.length c_q0] 25), (15, X7 b_q1 [vI q1] 3)] (by
  intro x hx
  simp only [List.mem_cons, List.not_mem_nil, or_false] at hx
  rcases hx with rfl | rfl | rfl | rfl
  ·exact Ql (qq hB.1) (fun _ _ => trivial) (by decide) _
  ·exact Xt (Qb hB.2.1) (fun _ _ => trivial) _
  ·exact Q3 (hB.2.2.1 w (agree.refl _ _)) _
  ·exact Q3 (hB.2.2.2.1 w (agree.refl _ _)) _) Tryz.func50 rfl (by kernel_rfl) (by kernel_rfl) fun a H => ?_
 unfold Yd at G
 refine qg qd H (.cons [4, 16] (qH (fun b => vP b 0) (fun u1 => [vI 0, vI 0]) 48 4 16) <| .nil) [0, 1, 2, 4, 13, 14, 16, 12, 15] fun u1 a w' H => ?_
 refine qs ?_
 replace G := gd G; obtain ⟨b3, G⟩ := G
 obtain ⟨t4, ht4, G⟩ := qP G
 obtain ⟨p_t4, c_t4, y_t4⟩ := QE h_q0 ht4
 replace G := gd G; obtain ⟨b5, G⟩ := G
 obtain ⟨t6, ht6, G⟩ := qP G
 refine qN qd H (.cons [5] (XX (fun u2 => .slice p_q0 L_q0.length c_q0) 5 12 (X7 b_q0 [.slice p_q0 L_q0.length c_q0] 25) b_q0 0 1 [.slice p_q0 L_q0.length c_q0] (fun w h => Za h)) <|
 .cons [6] (XX (fun u2 => vI q1) 6 15 (X7 b_q1 [vI q1] 3) b_q1 0 1 [vI q1] (fun w h => Za h)) <|
 .cons [7] (qy 13 (Qh qi 1 p_q0 c_q0 L_q0 ql) (.pointer (some ⟨XB p_q0, XC p_q0 + q1.toNat * 1, none⟩)) 7 fun _ w h => YQ 25 .i64 q1 p_q0 L_q0.length c_q0 q0 ql (qq h).2 qk (qD h_q0) b3) <|
 .cons [8] (qy 13 (Qh qi 1 p_q0 c_q0 L_q0 ql) (.slice p_t4 t4.length c_t4) 8 fun _ w h => Ya ql (qq h).2 qk y_t4 0 1 [.slice p_t4 t4.length c_t4]) <|
 .v 9 (vI a0) <|
 .cons [10] (qy 14 (QA qi qc.toPart L_q0) (.pointer (some ⟨XB p_t4, XC p_t4 + a0.toNat * 2, none⟩)) 10 fun _ w h => YQ 22 .i64 a0 p_t4 t4.length c_t4 t4 qb (show Xv _ 2 p_t4 t4.length c_t4 (t4.flatMap qb) from ((Qb h) _ (List.mem_of_getElem? y_t4)).1).2 qh rfl b5) <|
 .cons [11] (qy 14 (QA qi qc.toPart L_q0) (.agg #[vI t6.Lo, vI t6.Hi]) 11 fun _ w h => Ya qb (show Xv _ 2 p_t4 t4.length c_t4 (t4.flatMap qb) from ((Qb h) _ (List.mem_of_getElem? y_t4)).1).2 qh ht6 0 2 [vI t6.Lo, vI t6.Hi]) <|
 .cons [16] (QV 16 0 ((u1 0).n 0) [vI 0, vI 0] [vI t6.Lo, vI t6.Hi] 48 [vI t6.Lo, vI t6.Hi]) <| .nil) [4, 13, 14, 16, 12, 15] fun u2 a w' H => ?_
 refine q7 ?_
 obtain rfl := sj G
 exact Xe H _ 16 ((u1 0).n 0) [vI t6.Lo, vI t6.Hi] 48 0 2 (by kernel_rfl) (by kernel_rfl) (by kernel_rfl) (by kernel_rfl)
theorem Yg.calls (a0 : Int) (q0 : List (List qa)) (q1 : Int) (b_q0 : Nat) (p_q0 : Option Addr) (c_q0 : Nat) (L_q0 : List (Sl qa)) (b_q1 : Nat) (r : qa) (w : World) (h_q0 : q0 = L_q0.map Sl.l) (hB : Yj [Qh qi 1 p_q0 c_q0 L_q0 ql, QA qi qc.toPart L_q0, X7 b_q0 [.slice p_q0 L_q0.length c_q0] 25, X7 b_q1 [vI q1] 3] w) (G : Yg a0 q0 q1 = some r) :
  Calls Tryz.prog 51 #[vI a0, vP b_q0 0, vP b_q1 0] w fun e w' => e = .returned (.agg #[vI r.Lo, vI r.Hi]) ∧ Below w.heap.size w w' := by
 obtain ⟨fr, hfr⟩ : ∃ fr : Nat → Prop, ∀ j, fr j := ⟨fun _ => True, fun _ => trivial⟩
 have hBf : ∀ j, w.heap.size ≤ j → fr j := fun j _ => hfr j
 refine QQ (args := [vI a0, vP b_q0 0, vP b_q1 0]) 12 [(13, Qh qi 1 p_q0 c_q0 L_q0 ql), (14, QA qi qc.toPart L_q0), (12, X7 b_q0 [.slice p_q0 L_q0.length c_q0] 25), (15, X7 b_q1 [vI q1] 3)] (by
  intro x hx
  simp only [List.mem_cons, List.not_mem_nil, or_false] at hx
  rcases hx with rfl | rfl | rfl | rfl
  ·exact Ql (qq hB.1) (fun _ _ => trivial) (by decide) _
  ·exact Xt (Qb hB.2.1) (fun _ _ => trivial) _
  ·exact Q3 (hB.2.2.1 w (agree.refl _ _)) _
  ·exact Q3 (hB.2.2.2.1 w (agree.refl _ _)) _) Tryz.func51 rfl (by kernel_rfl) (by kernel_rfl) fun a H => ?_
 unfold Yg at G
 refine qg qd H (.cons [4, 16] (qH (fun b => vP b 0) (fun u1 => [vI 0, vI 0]) 48 4 16) <| .nil) [0, 1, 2, 4, 13, 14, 16, 12, 15] fun u1 a w' H => ?_
 refine qs ?_
 replace G := gd G; obtain ⟨b3, G⟩ := G
 obtain ⟨t4, ht4, G⟩ := qP G
 obtain ⟨p_t4, c_t4, y_t4⟩ := QE h_q0 ht4
 have P5 := XT (en := ql) (l := L_q0) (qq (H.at (K := Qh qi 1 p_q0 c_q0 L_q0 ql) 13 (by kernel_rfl))).2 qk
 replace G := gd G; obtain ⟨b6, G⟩ := G
 obtain ⟨t7, ht7, G⟩ := qP G
 refine qN qd H (.cons [5] (XX (fun u2 => .slice p_q0 L_q0.length c_q0) 5 12 (X7 b_q0 [.slice p_q0 L_q0.length c_q0] 25) b_q0 0 1 [.slice p_q0 L_q0.length c_q0] (fun w h => Za h)) <|
 .v 6 (vI a0) <|
 .cons [7] (qp (fun u2 => .pointer (some ⟨XB p_q0, XC p_q0 + a0.toNat * 1, none⟩)) 7 (hv := fun _ _ => QH (t := 25) (k := .i64) (i := a0) (p := p_q0) (n := L_q0.length) (cap := c_q0) (x := q0) P5 (qD h_q0) b3 (by kernel_rfl))) <|
 .cons [8] (qy 13 (Qh qi 1 p_q0 c_q0 L_q0 ql) (.slice p_t4 t4.length c_t4) 8 fun _ w h => Ya ql (qq h).2 qk y_t4 0 1 [.slice p_t4 t4.length c_t4]) <|
 .cons [9] (XX (fun u2 => vI q1) 9 15 (X7 b_q1 [vI q1] 3) b_q1 0 1 [vI q1] (fun w h => Za h)) <|
 .cons [10] (qy 14 (QA qi qc.toPart L_q0) (.pointer (some ⟨XB p_t4, XC p_t4 + q1.toNat * 2, none⟩)) 10 fun _ w h => YQ 22 .i64 q1 p_t4 t4.length c_t4 t4 qb (show Xv _ 2 p_t4 t4.length c_t4 (t4.flatMap qb) from ((Qb h) _ (List.mem_of_getElem? y_t4)).1).2 qh rfl b6) <|
 .cons [11] (qy 14 (QA qi qc.toPart L_q0) (.agg #[vI t7.Lo, vI t7.Hi]) 11 fun _ w h => Ya qb (show Xv _ 2 p_t4 t4.length c_t4 (t4.flatMap qb) from ((Qb h) _ (List.mem_of_getElem? y_t4)).1).2 qh ht7 0 2 [vI t7.Lo, vI t7.Hi]) <|
 .cons [16] (QV 16 0 ((u1 0).n 0) [vI 0, vI 0] [vI t7.Lo, vI t7.Hi] 48 [vI t7.Lo, vI t7.Hi]) <| .nil) [4, 13, 14, 16, 12, 15] fun u2 a w' H => ?_
 refine q7 ?_
 obtain rfl := sj G
 exact Xe H _ 16 ((u1 0).n 0) [vI t7.Lo, vI t7.Hi] 48 0 2 (by kernel_rfl) (by kernel_rfl) (by kernel_rfl) (by kernel_rfl)
theorem Q1.calls (k0 : Nat) (a0 : Int) (a1_0 : List (List qa)) (a1_1 : Int) (a2_0 : List (List qa)) (a2_1 : Int) (b_a1_0 : Nat) (p_a1_0 : Option Addr) (c_a1_0 : Nat) (L_a1_0 : List (Sl qa)) (b_a1_1 : Nat) (b_a2_0 : Nat) (p_a2_0 : Option Addr) (c_a2_0 : Nat) (L_a2_0 : List (Sl qa)) (b_a2_1 : Nat) (r : qa) (w : World) (h_a1_0 : a1_0 = L_a1_0.map Sl.l) (h_a2_0 : a2_0 = L_a2_0.map Sl.l) (hB : Yj [Qh qi 1 p_a1_0 c_a1_0 L_a1_0 ql, QA qi qc.toPart L_a1_0, X7 b_a1_0 [.slice p_a1_0 L_a1_0.length c_a1_0] 25, X7 b_a1_1 [vI a1_1] 3, Qh qi 1 p_a2_0 c_a2_0 L_a2_0 ql, QA qi qc.toPart L_a2_0, X7 b_a2_0 [.slice p_a2_0 L_a2_0.length c_a2_0] 25, X7 b_a2_1 [vI a2_1] 3, gk] w) (G : Q1 k0 a0 a1_0 a1_1 a2_0 a2_1 = some r) :
  Calls Tryz.prog 49 #[vI a0, .func (.func 50) #[] #[vP b_a1_0 0, vP b_a1_1 0], .func (.func 51) #[] #[vP b_a2_0 0, vP b_a2_1 0]] w fun e w' => e = .returned (.agg #[vI r.Lo, vI r.Hi]) ∧ Below w.heap.size w w' := by
 obtain ⟨fr, hfr⟩ : ∃ fr : Nat → Prop, ∀ j, fr j := ⟨fun _ => True, fun _ => trivial⟩
 have hBf : ∀ j, w.heap.size ≤ j → fr j := fun j _ => hfr j
 refine QQ (args := [vI a0, .func (.func 50) #[] #[vP b_a1_0 0, vP b_a1_1 0], .func (.func 51) #[] #[vP b_a2_0 0, vP b_a2_1 0]]) 29 [(30, Qh qi 1 p_a1_0 c_a1_0 L_a1_0 ql), (31, QA qi qc.toPart L_a1_0), (29, X7 b_a1_0 [.slice p_a1_0 L_a1_0.length c_a1_0] 25), (32, X7 b_a1_1 [vI a1_1] 3), (34, Qh qi 1 p_a2_0 c_a2_0 L_a2_0 ql), (35, QA qi qc.toPart L_a2_0), (33, X7 b_a2_0 [.slice p_a2_0 L_a2_0.length c_a2_0] 25), (36, X7 b_a2_1 [vI a2_1] 3), (999999, gk)] (by
  intro x hx
  simp only [List.mem_cons, List.not_mem_nil, or_false] at hx
  rcases hx with rfl | rfl | rfl | rfl | rfl | rfl | rfl | rfl | rfl
  ·exact Ql (qq hB.1) (fun _ _ => trivial) (by decide) _
  ·exact Xt (Qb hB.2.1) (fun _ _ => trivial) _
  ·exact Q3 (hB.2.2.1 w (agree.refl _ _)) _
  ·exact Q3 (hB.2.2.2.1 w (agree.refl _ _)) _
  ·exact Ql (qq hB.2.2.2.2.1) (fun _ _ => trivial) (by decide) _
  ·exact Xt (Qb hB.2.2.2.2.2.1) (fun _ _ => trivial) _
  ·exact Q3 (hB.2.2.2.2.2.2.1 w (agree.refl _ _)) _
  ·exact Q3 (hB.2.2.2.2.2.2.2.1 w (agree.refl _ _)) _
  ·exact ⟨⟨_, _, rfl⟩, hB.2.2.2.2.2.2.2.2.1, ZV (Yc hB.2.2.2.2.2.2.2.2.1)⟩) Tryz.func49 rfl (by kernel_rfl) (by kernel_rfl) fun a H => ?_
 unfold Q1 at G
 refine qg qd H (.cons [6, 37] (qH (fun b => vP b 0) (fun u1 => [vI 0, vI 0]) 48 6 37) <| .nil) [0, 1, 2, 6, 30, 31, 34, 35, 37, 29, 32, 33, 36, 999999] fun u1 a w' H => ?_
 obtain ⟨t3, ht3, G⟩ := qP G
 obtain ⟨t4, ht4, G⟩ := qP G
 obtain ⟨t5, ht5, G⟩ := qP G
 refine qg qd H (.v 9 (.func (.func 50) #[] #[vP b_a1_0 0, vP b_a1_1 0]) <|
 .cons [10] (Xi [30, 31, 29, 32] (fun u2 => [Qh qi 1 p_a1_0 c_a1_0 L_a1_0 ql, QA qi qc.toPart L_a1_0, X7 b_a1_0 [.slice p_a1_0 L_a1_0.length c_a1_0] 25, X7 b_a1_1 [vI a1_1] 3]) 50 _ _ 10 (fun u2 w hF => Yd.calls 0 a1_0 a1_1 b_a1_0 p_a1_0 c_a1_0 L_a1_0 b_a1_1 t3 w h_a1_0 ⟨(ZN (qq hF.1)), (JD (Qb hF.2.1)), (Q3 (hF.2.2.1 w (agree.refl _ _)) 0).2.1, (Q3 (hF.2.2.2.1 w (agree.refl _ _)) 0).2.1, trivial⟩ ht3)) <|
 .v 11 (.func (.func 51) #[] #[vP b_a2_0 0, vP b_a2_1 0]) <|
 .cons [12] (Xi [34, 35, 33, 36] (fun u2 => [Qh qi 1 p_a2_0 c_a2_0 L_a2_0 ql, QA qi qc.toPart L_a2_0, X7 b_a2_0 [.slice p_a2_0 L_a2_0.length c_a2_0] 25, X7 b_a2_1 [vI a2_1] 3]) 51 _ _ 12 (fun u2 w hF => Yg.calls 0 a2_0 a2_1 b_a2_0 p_a2_0 c_a2_0 L_a2_0 b_a2_1 t4 w h_a2_0 ⟨(ZN (qq hF.1)), (JD (Qb hF.2.1)), (Q3 (hF.2.2.1 w (agree.refl _ _)) 0).2.1, (Q3 (hF.2.2.2.1 w (agree.refl _ _)) 0).2.1, trivial⟩ ht4)) <|
 .cons [13] (Xi [999999] (fun u2 => [gk]) 41 _ _ 13 (fun u2 w hF => Xh.calls t3 t4  t5 w  (Yc hF.1) ht5)) <|
 .cons [7, 38] (qH (fun b => vP b 0) (fun u2 => [vI 0, vI 0]) 48 7 38) <|
 .cons [38] (XO (u' := fun u2 => [(38, .blk ((u2 5).n 0) [vI t5.Lo, vI t5.Hi] 48)]) (X1 38 0 (fun u2 => ((u2 5).n 0)) (fun u2 => [vI 0, vI 0]) (fun u2 => [vI t5.Lo, vI t5.Hi]) 48) (fun _ => by kernel_rfl)) <| .nil) [0, 1, 2, 6, 7, 30, 31, 34, 35, 37, 38, 29, 32, 33, 36, 999999] fun u2 a w' H => ?_
 refine qs ?_
 obtain ⟨j8, hj8, G⟩ := qP G
 refine Qw (fun a w' => RL w 29 [(6, (sP ((u1 0).n 0) 0)), (7, (sP ((u2 5).n 0) 0)), (30, Qh qi 1 p_a1_0 c_a1_0 L_a1_0 ql), (31, QA qi qc.toPart L_a1_0), (34, Qh qi 1 p_a2_0 c_a2_0 L_a2_0 ql), (35, QA qi qc.toPart L_a2_0), (37, .blk ((u1 0).n 0) [vI 0, vI 0] 48), (38, .blk ((u2 5).n 0) [vI j8.1, vI j8.2] 48), (29, X7 b_a1_0 [.slice p_a1_0 L_a1_0.length c_a1_0] 25), (32, X7 b_a1_1 [vI a1_1] 3), (33, X7 b_a2_0 [.slice p_a2_0 L_a2_0.length c_a2_0] 25), (36, X7 b_a2_1 [vI a2_1] 3), (999999, gk)] a w') ?_ ?_
 ·clear H; intro a w' H
  refine qg qd H (.cons [28] (qv (.agg #[vI j8.1, vI j8.2]) 28 38 0 2 ((u2 5).n 0) [vI j8.1, vI j8.2] 48) <|
 .cons [37] (QV 37 0 ((u1 0).n 0) [vI 0, vI 0] [vI j8.1, vI j8.2] 48 [vI j8.1, vI j8.2]) <| .nil) [6, 30, 31, 34, 35, 37, 29, 32, 33, 36, 999999] fun u9 a w' H => ?_
  refine q7 ?_
  obtain rfl := sj G
  exact Xe H _ 37 ((u1 0).n 0) [vI j8.1, vI j8.2] 48 0 2 (by kernel_rfl) (by kernel_rfl) (by kernel_rfl) (by kernel_rfl)
 ·clear G; replace G := hj8; clear hj8
  refine qg qd H (.v 8 (vI 1) <| .nil) [0, 1, 2, 6, 7, 8, 30, 31, 34, 35, 37, 38, 29, 32, 33, 36, 999999] fun u10 a w' H => ?_
  refine qA ?_
  refine Qv (fun m a w' => ∃ x11 : Int, ∃ x12 : Int, ∃ x13 : Int, Q1.l14 k0 a0 a1_0 a1_1 a2_0 a2_1 t3 t4 t5 m x11 x12 x13 = some j8 ∧ RL w 29 [(0, sI a0), (1, .slot true (.func (.func 50) #[] #[vP b_a1_0 0, vP b_a1_1 0])), (2, .slot true (.func (.func 51) #[] #[vP b_a2_0 0, vP b_a2_1 0])), (6, (sP ((u1 0).n 0) 0)), (7, (sP ((u2 5).n 0) 0)), (8, sI x13), (30, Qh qi 1 p_a1_0 c_a1_0 L_a1_0 ql), (31, QA qi qc.toPart L_a1_0), (34, Qh qi 1 p_a2_0 c_a2_0 L_a2_0 ql), (35, QA qi qc.toPart L_a2_0), (37, .blk ((u1 0).n 0) [vI 0, vI 0] 48), (38, .blk ((u2 5).n 0) [vI x11, vI x12] 48), (29, X7 b_a1_0 [.slice p_a1_0 L_a1_0.length c_a1_0] 25), (32, X7 b_a1_1 [vI a1_1] 3), (33, X7 b_a2_0 [.slice p_a2_0 L_a2_0.length c_a2_0] 25), (36, X7 b_a2_1 [vI a2_1] 3), (999999, gk)] a w') k0 ⟨_, _, _, G, H.toM _⟩ ?_
  clear G H
  rintro (_ | k) a w' ⟨x11, x12, x13, G, H⟩
  ·exact absurd G (by unfold Q1.l14; exact fun h => by cases h)
  ·unfold Q1.l14 at G
   refine qs ?_
   refine qg qd H (.v 14 (vI x13) <|
 .v 15 (vI a0) <|
 .v 16 (.bool (decide (x13 < a0))) <| .nil) [0, 1, 2, 6, 7, 8, 16, 30, 31, 34, 35, 37, 38, 29, 32, 33, 36, 999999] fun u15 a w' H => ?_
   refine Qr H (decide (x13 < a0)) (fun c22 => ?_) fun c22 => ?_
   ·rw [if_pos c22] at G
    refine qT ?_
    refine qs ?_
    refine qA ?_
    obtain ⟨t17, ht17, G⟩ := qP G
    obtain ⟨t18, ht18, G⟩ := qP G
    obtain ⟨t19, ht19, G⟩ := qP G
    obtain ⟨t20, ht20, G⟩ := qP G
    refine qN qd H (.cons [19] (qv (.agg #[vI x11, vI x12]) 19 38 0 2 ((u2 5).n 0) [vI x11, vI x12] 48) <|
 .v 20 (.func (.func 50) #[] #[vP b_a1_0 0, vP b_a1_1 0]) <|
 .v 21 (vI x13) <|
 .cons [22] (Xi [30, 31, 29, 32] (fun u16 => [Qh qi 1 p_a1_0 c_a1_0 L_a1_0 ql, QA qi qc.toPart L_a1_0, X7 b_a1_0 [.slice p_a1_0 L_a1_0.length c_a1_0] 25, X7 b_a1_1 [vI a1_1] 3]) 50 _ _ 22 (fun u16 w hF => Yd.calls x13 a1_0 a1_1 b_a1_0 p_a1_0 c_a1_0 L_a1_0 b_a1_1 t17 w h_a1_0 ⟨(ZN (qq hF.1)), (JD (Qb hF.2.1)), (Q3 (hF.2.2.1 w (agree.refl _ _)) 0).2.1, (Q3 (hF.2.2.2.1 w (agree.refl _ _)) 0).2.1, trivial⟩ ht17)) <|
 .v 23 (.func (.func 51) #[] #[vP b_a2_0 0, vP b_a2_1 0]) <|
 .v 24 (vI x13) <|
 .cons [25] (Xi [34, 35, 33, 36] (fun u16 => [Qh qi 1 p_a2_0 c_a2_0 L_a2_0 ql, QA qi qc.toPart L_a2_0, X7 b_a2_0 [.slice p_a2_0 L_a2_0.length c_a2_0] 25, X7 b_a2_1 [vI a2_1] 3]) 51 _ _ 25 (fun u16 w hF => Yg.calls x13 a2_0 a2_1 b_a2_0 p_a2_0 c_a2_0 L_a2_0 b_a2_1 t18 w h_a2_0 ⟨(ZN (qq hF.1)), (JD (Qb hF.2.1)), (Q3 (hF.2.2.1 w (agree.refl _ _)) 0).2.1, (Q3 (hF.2.2.2.1 w (agree.refl _ _)) 0).2.1, trivial⟩ ht18)) <|
 .cons [26] (Xi [999999] (fun u16 => [gk]) 41 _ _ 26 (fun u16 w hF => Xh.calls t17 t18  t19 w  (Yc hF.1) ht19)) <|
 .cons [27] (qo 82 _ _ 27 [] (fun u16 w _ => Xx.calls (⟨x11, x12⟩ : qa) t19  t20 w  ht20)) <|
 .cons [38] (QV 38 0 ((u2 5).n 0) [vI x11, vI x12] [vI t20.Lo, vI t20.Hi] 48 [vI t20.Lo, vI t20.Hi]) <| .nil) [0, 1, 2, 6, 7, 8, 30, 31, 34, 35, 37, 38, 29, 32, 33, 36, 999999] fun u16 a w' H => ?_
    refine qN qd H (.v 17 (vI x13) <|
 .v 18 (vI (qe (x13 + 1))) <|
 .v 8 (vI (qe (x13 + 1))) <| .nil) [0, 1, 2, 6, 7, 8, 30, 31, 34, 35, 37, 38, 29, 32, 33, 36, 999999] fun u21 a w' H => ?_
    exact ⟨k, Nat.lt_succ_self k, _, _, _, G, H.toM _⟩
   ·rw [if_neg (nt c22)] at G
    refine QO rfl ?_
    obtain rfl := sj G
    exact H.toM _
theorem Y0.calls (k0 : Nat) (a0 : Int) (a1 : Int) (q0 : List (List qa)) (q1 : List (List qa)) (b_q0 : Nat) (p_q0 : Option Addr) (c_q0 : Nat) (L_q0 : List (Sl qa)) (b_q1 : Nat) (p_q1 : Option Addr) (c_q1 : Nat) (L_q1 : List (Sl qa)) (r : qa) (w : World) (h_q0 : q0 = L_q0.map Sl.l) (h_q1 : q1 = L_q1.map Sl.l) (hB : Yj [Qh qi 1 p_q0 c_q0 L_q0 ql, QA qi qc.toPart L_q0, X7 b_q0 [.slice p_q0 L_q0.length c_q0] 25, Qh qi 1 p_q1 c_q1 L_q1 ql, QA qi qc.toPart L_q1, X7 b_q1 [.slice p_q1 L_q1.length c_q1] 25, gk] w) (G : Y0 k0 a0 a1 q0 q1 = some r) :
  Calls Tryz.prog 48 #[vI a0, vI a1, vP b_q0 0, vP b_q1 0] w fun e w' => e = .returned (.agg #[vI r.Lo, vI r.Hi]) ∧ Below w.heap.size w w' := by
 obtain ⟨fr, hfr⟩ : ∃ fr : Nat → Prop, ∀ j, fr j := ⟨fun _ => True, fun _ => trivial⟩
 have hBf : ∀ j, w.heap.size ≤ j → fr j := fun j _ => hfr j
 refine QQ (args := [vI a0, vI a1, vP b_q0 0, vP b_q1 0]) 12 [(13, Qh qi 1 p_q0 c_q0 L_q0 ql), (14, QA qi qc.toPart L_q0), (12, X7 b_q0 [.slice p_q0 L_q0.length c_q0] 25), (16, Qh qi 1 p_q1 c_q1 L_q1 ql), (17, QA qi qc.toPart L_q1), (15, X7 b_q1 [.slice p_q1 L_q1.length c_q1] 25), (999999, gk)] (by
  intro x hx
  simp only [List.mem_cons, List.not_mem_nil, or_false] at hx
  rcases hx with rfl | rfl | rfl | rfl | rfl | rfl | rfl
  ·exact Ql (qq hB.1) (fun _ _ => trivial) (by decide) _
  ·exact Xt (Qb hB.2.1) (fun _ _ => trivial) _
  ·exact Q3 (hB.2.2.1 w (agree.refl _ _)) _
  ·exact Ql (qq hB.2.2.2.1) (fun _ _ => trivial) (by decide) _
  ·exact Xt (Qb hB.2.2.2.2.1) (fun _ _ => trivial) _
  ·exact Q3 (hB.2.2.2.2.2.1 w (agree.refl _ _)) _
  ·exact ⟨⟨_, _, rfl⟩, hB.2.2.2.2.2.2.1, ZV (Yc hB.2.2.2.2.2.2.1)⟩) Tryz.func48 rfl (by kernel_rfl) (by kernel_rfl) fun a H => ?_
 unfold Y0 at G
 refine qg qd H (.cons [4, 18] (qH (fun b => vP b 0) (fun u1 => [vI a0]) 3 4 18) <|
 .cons [5, 19] (qH (fun b => vP b 0) (fun u1 => [vI a1]) 3 5 19) <|
 .cons [6, 20] (qH (fun b => vP b 0) (fun u1 => [vI 0, vI 0]) 48 6 20) <| .nil) [2, 3, 4, 5, 6, 13, 14, 16, 17, 18, 19, 20, 12, 15, 999999] fun u1 a w' H => ?_
 obtain ⟨t3, ht3, G⟩ := qP G
 refine qg qd H (.cons [7] (XX (fun u2 => .slice p_q0 L_q0.length c_q0) 7 12 (X7 b_q0 [.slice p_q0 L_q0.length c_q0] 25) b_q0 0 1 [.slice p_q0 L_q0.length c_q0] (fun w h => Za h)) <|
 .cons [8] (qy 13 (Qh qi 1 p_q0 c_q0 L_q0 ql) (vI (q0.length : Int)) 8 fun _ w h => Q7 (((qq h).2.len qk (by decide)).trans (qD h_q0).symm) (by kernel_rfl)) <|
 .v 9 (.func (.func 50) #[] #[vP b_q0 0, vP ((u1 0).n 0) 0]) <|
 .v 10 (.func (.func 51) #[] #[vP b_q1 0, vP ((u1 1).n 0) 0]) <|
 .cons [11] (Xi [13, 14, 12, 18, 16, 17, 15, 19, 999999] (fun u2 => [Qh qi 1 p_q0 c_q0 L_q0 ql, QA qi qc.toPart L_q0, X7 b_q0 [.slice p_q0 L_q0.length c_q0] 25, .blk ((u1 0).n 0) [vI a0] 3, Qh qi 1 p_q1 c_q1 L_q1 ql, QA qi qc.toPart L_q1, X7 b_q1 [.slice p_q1 L_q1.length c_q1] 25, .blk ((u1 1).n 0) [vI a1] 3, gk]) 49 _ _ 11 (fun u2 w hF => Q1.calls k0 (q0.length : Int) q0 a0 q1 a1 b_q0 p_q0 c_q0 L_q0 ((u1 0).n 0) b_q1 p_q1 c_q1 L_q1 ((u1 1).n 0) t3 w h_q0 h_q1 ⟨(ZN (qq hF.1)), (JD (Qb hF.2.1)), (Q3 (hF.2.2.1 w (agree.refl _ _)) 0).2.1, (Q3 hF.2.2.2.1 0).2.1, (ZN (qq hF.2.2.2.2.1)), (JD (Qb hF.2.2.2.2.2.1)), (Q3 (hF.2.2.2.2.2.2.1 w (agree.refl _ _)) 0).2.1, (Q3 hF.2.2.2.2.2.2.2.1 0).2.1, hF.2.2.2.2.2.2.2.2.1, trivial⟩ ht3)) <|
 .cons [20] (QV 20 0 ((u1 2).n 0) [vI 0, vI 0] [vI t3.Lo, vI t3.Hi] 48 [vI t3.Lo, vI t3.Hi]) <| .nil) [6, 13, 14, 16, 17, 20, 12, 15, 999999] fun u2 a w' H => ?_
 refine q7 ?_
 obtain rfl := sj G
 exact Xe H _ 20 ((u1 2).n 0) [vI t3.Lo, vI t3.Hi] 48 0 2 (by kernel_rfl) (by kernel_rfl) (by kernel_rfl) (by kernel_rfl)
theorem Qe.calls (k0 : Nat) (a0 : Int) (a1_0 : List (List qa)) (a1_1 : List (List qa)) (b_a1_0 : Nat) (p_a1_0 : Option Addr) (c_a1_0 : Nat) (L_a1_0 : List (Sl qa)) (b_a1_1 : Nat) (p_a1_1 : Option Addr) (c_a1_1 : Nat) (L_a1_1 : List (Sl qa)) (r : List (List qa)) (w : World) (h_a1_0 : a1_0 = L_a1_0.map Sl.l) (h_a1_1 : a1_1 = L_a1_1.map Sl.l) (hB : Yj [Qh qi 1 p_a1_0 c_a1_0 L_a1_0 ql, QA qi qc.toPart L_a1_0, X7 b_a1_0 [.slice p_a1_0 L_a1_0.length c_a1_0] 25, Qh qi 1 p_a1_1 c_a1_1 L_a1_1 ql, QA qi qc.toPart L_a1_1, X7 b_a1_1 [.slice p_a1_1 L_a1_1.length c_a1_1] 25, gk] w) (G : Qe k0 a0 a1_0 a1_1 = some r) :
  Calls Tryz.prog 47 #[vI a0, .func (.func 48) #[] #[vP b_a1_0 0, vP b_a1_1 0]] w fun e w' => ∃ g : Gh, e = .returned (slgd_S_TInterval g 0 r) ∧ Y7 (YT []) w w' ∧ YD w.heap.size (YT []) (JG w.heap.size []) [fun _ => ns_en_TIntervalg g 0 r] w' := by
 obtain ⟨fr, hfr, hBf⟩ := J4 w []
 refine QQ (args := [vI a0, .func (.func 48) #[] #[vP b_a1_0 0, vP b_a1_1 0]]) 34 [(35, Qh qi 1 p_a1_0 c_a1_0 L_a1_0 ql), (36, QA qi qc.toPart L_a1_0), (34, X7 b_a1_0 [.slice p_a1_0 L_a1_0.length c_a1_0] 25), (38, Qh qi 1 p_a1_1 c_a1_1 L_a1_1 ql), (39, QA qi qc.toPart L_a1_1), (37, X7 b_a1_1 [.slice p_a1_1 L_a1_1.length c_a1_1] 25), (999999, gk)] (by
  intro x hx
  simp only [List.mem_cons, List.not_mem_nil, or_false] at hx
  rcases hx with rfl | rfl | rfl | rfl | rfl | rfl | rfl
  ·exact Ql (qq hB.1) (fun _ _ => trivial) (by decide) _
  ·exact Xt (Qb hB.2.1) (fun _ _ => trivial) _
  ·exact Q3 (hB.2.2.1 w (agree.refl _ _)) _
  ·exact Ql (qq hB.2.2.2.1) (fun _ _ => trivial) (by decide) _
  ·exact Xt (Qb hB.2.2.2.2.1) (fun _ _ => trivial) _
  ·exact Q3 (hB.2.2.2.2.2.1 w (agree.refl _ _)) _
  ·exact ⟨⟨_, _, rfl⟩, hB.2.2.2.2.2.2.1, ZV (Yc hB.2.2.2.2.2.2.1)⟩) Tryz.func47 rfl (by kernel_rfl) (by kernel_rfl) fun a H => ?_
 unfold Qe at G
 refine qg qd H (.v 4 (.slice none 0 0) <| .nil) [0, 1, 35, 36, 38, 39, 34, 37, 999999] fun u1 a w' H => ?_
 refine qs ?_
 replace G := gd G; obtain ⟨b3, G⟩ := G
 refine qN qd H (.v 8 (vI a0) <|
 .cons [9, 40] (Ju 48 2 qb (Zl [] (fun u2 => []) 22 1 (List.replicate a0.toNat (⟨none, 0, []⟩ : Sl qa)).length ((List.replicate a0.toNat (⟨none, 0, []⟩ : Sl qa)).flatMap ql) 9 40 (fun _ => .none) (fun u2 w hF => YG (t := 25) (k := .i64) (m := a0) (en := ql) (z := (⟨none, 0, []⟩ : Sl qa)) qk J2 rfl b3 (by kernel_rfl)) (fun _ => .inl rfl)) Jt) <|
 .cons [5] (qp (fun u2 => .slice ((u2 1).o 0) ((List.replicate a0.toNat (⟨none, 0, []⟩ : Sl qa)).length) ((u2 1).n 0)) 5) <| .nil) [0, 1, 5, 35, 36, 38, 39, 40, 34, 37, 999999] fun u2 a w' H => ?_
 refine qs ?_
 obtain ⟨j5, hj5, G⟩ := qP G
 refine Qw (fun a w' => ∃ (p_j4 : Option Addr) (c_j4 np_j4 : Nat) (L_j4 : List (Sl qa)), np_j4 = L_j4.length ∧ j5 = L_j4.map Sl.l ∧ RL w 34 [(5, sS p_j4 np_j4 c_j4), (35, Qh qi 1 p_a1_0 c_a1_0 L_a1_0 ql), (36, QA qi qc.toPart L_a1_0), (38, Qh qi 1 p_a1_1 c_a1_1 L_a1_1 ql), (39, QA qi qc.toPart L_a1_1), (900039, qj p_j4 np_j4 c_j4 L_j4), (34, X7 b_a1_0 [.slice p_a1_0 L_a1_0.length c_a1_0] 25), (37, X7 b_a1_1 [.slice p_a1_1 L_a1_1.length c_a1_1] 25), (999999, gk)] a w') ?_ ?_
 ·clear H; rintro a w' ⟨p_j4, c_j4, _, L_j4, rfl, h_j4, H⟩
  refine qg qd H (.v 33 (.slice p_j4 L_j4.length c_j4) <|
 .v 4 (.slice p_j4 L_j4.length c_j4) <| .nil) [4, 35, 36, 38, 39, 900039, 34, 37, 999999] fun u6 a w' H => ?_
  refine q7 ?_
  obtain rfl := sj G
  obtain ⟨g, o0, n0, d0⟩ := ZQ QS p_j4 c_j4 h_j4
  refine Xo H _ g _ _ _ fr [900039] [] (.slice p_j4 L_j4.length c_j4) [fun _ => qf p_j4 c_j4 L_j4] (by simp only [slgd_S_TInterval, dlgd_S_TInterval, ns_en_TIntervalg, qf, qj, QU, o0, n0, d0]) (by simp only [slgd_S_TInterval, dlgd_S_TInterval, ns_en_TIntervalg, qf, qj, QU, o0, n0, d0]) hfr (.inl ⟨rfl, rfl⟩) (qx QZ qI) (by simp)
 ·clear G; replace G := hj5; clear hj5
  refine qg qd H (.v 10 (vI a0) <|
 .v 11 (vI 0) <| .nil) [0, 1, 5, 10, 11, 35, 36, 38, 39, 40, 34, 37, 999999] fun u7 a w' H => ?_
  refine qA ?_
  replace H := H.move (K := qf ((u2 1).o 0) ((u2 1).n 0) (List.replicate a0.toNat (⟨none, 0, []⟩ : Sl qa))) 40 900041 (by kernel_rfl) (by intro _ _ h; cases h)
  refine Qv (fun m a w' => ∃ x8 : List (List qa), ∃ x9 : Int, Qe.l10 k0 a0 a1_0 a1_1 m x8 x9 = some j5 ∧ ∃ (p_x8 : Option Addr) (c_x8 np_x8 : Nat) (L_x8 : List (Sl qa)), np_x8 = L_x8.length ∧ x8 = L_x8.map Sl.l ∧ RL w 34 [(0, sI a0), (1, .slot true (.func (.func 48) #[] #[vP b_a1_0 0, vP b_a1_1 0])), (5, sS p_x8 np_x8 c_x8), (10, sI a0), (11, sI x9), (35, Qh qi 1 p_a1_0 c_a1_0 L_a1_0 ql), (36, QA qi qc.toPart L_a1_0), (38, Qh qi 1 p_a1_1 c_a1_1 L_a1_1 ql), (39, QA qi qc.toPart L_a1_1), (900041, qj p_x8 np_x8 c_x8 L_x8), (34, X7 b_a1_0 [.slice p_a1_0 L_a1_0.length c_a1_0] 25), (37, X7 b_a1_1 [.slice p_a1_1 L_a1_1.length c_a1_1] 25), (999999, gk)] a w') k0 ⟨_, _, G, ((u2 1).o 0), ((u2 1).n 0), (List.replicate a0.toNat (⟨none, 0, []⟩ : Sl qa)).length, (List.replicate a0.toNat (⟨none, 0, []⟩ : Sl qa)), rfl, (Jr a0.toNat (⟨none, 0, []⟩ : Sl qa)), H.toM _⟩ ?_
  clear G H
  rintro (_ | k) a w' ⟨x8, x9, G, p_x8, c_x8, _, L_x8, rfl, h_x8, H⟩
  ·exact absurd G (by unfold Qe.l10; exact fun h => by cases h)
  ·unfold Qe.l10 at G
   refine qg qd H (.v 12 (.bool (decide (x9 < a0))) <| .nil) [0, 1, 5, 10, 11, 12, 35, 36, 38, 39, 900041, 34, 37, 999999] fun u11 a w' H => ?_
   refine qs ?_
   refine Qr H (decide (x9 < a0)) (fun c32 => ?_) fun c32 => ?_
   ·rw [if_pos c32] at G
    refine qT ?_
    refine qs ?_
    obtain ⟨j13, hj13, G⟩ := qP G
    refine Qw (fun a w' => ∃ (p_j12 : Option Addr) (c_j12 np_j12 : Nat) (L_j12 : List (Sl qa)), np_j12 = L_j12.length ∧ j13 = L_j12.map Sl.l ∧ RL w 34 [(0, sI a0), (1, .slot true (.func (.func 48) #[] #[vP b_a1_0 0, vP b_a1_1 0])), (5, sS p_j12 np_j12 c_j12), (10, sI a0), (11, sI x9), (35, Qh qi 1 p_a1_0 c_a1_0 L_a1_0 ql), (36, QA qi qc.toPart L_a1_0), (38, Qh qi 1 p_a1_1 c_a1_1 L_a1_1 ql), (39, QA qi qc.toPart L_a1_1), (900043, qj p_j12 np_j12 c_j12 L_j12), (34, X7 b_a1_0 [.slice p_a1_0 L_a1_0.length c_a1_0] 25), (37, X7 b_a1_1 [.slice p_a1_1 L_a1_1.length c_a1_1] 25), (999999, gk)] a w') ?_ ?_
    ·clear H; rintro a w' ⟨p_j12, c_j12, _, L_j12, rfl, h_j12, H⟩
     refine qN qd H (.v 32 (vI (qe (x9 + 1))) <|
 .v 11 (vI (qe (x9 + 1))) <| .nil) [0, 1, 5, 10, 11, 35, 36, 38, 39, 900043, 34, 37, 999999] fun u14 a w' H => ?_
     replace H := H.move (K := qf p_j12 c_j12 L_j12) 900043 900041 (by kernel_rfl) (by intro _ _ h; cases h)
     exact ⟨k, Nat.lt_succ_self k, _, _, G, p_j12, c_j12, L_j12.length, L_j12, rfl, h_j12, H.toM _⟩
    ·clear G; replace G := hj13; clear hj13
     refine qA ?_
     refine qg qd H (.v 13 (vI x9) <|
 .v 6 (vI x9) <| .nil) [0, 1, 5, 6, 10, 11, 35, 36, 38, 39, 900041, 34, 37, 999999] fun u15 a w' H => ?_
     refine qg qd H (.v 14 (vI a0) <|
 .v 15 (vI 0) <| .nil) [0, 1, 5, 6, 10, 11, 14, 15, 35, 36, 38, 39, 900041, 34, 37, 999999] fun u16 a w' H => ?_
     refine qA ?_
     replace H := H.move (K := qf p_x8 c_x8 L_x8) 900041 900045 (by kernel_rfl) (by intro _ _ h; cases h)
     refine Qv (fun m a w' => ∃ x17 : List (List qa), ∃ x18 : Int, Qe.l19 k0 a0 a1_0 a1_1 x8 x9 m x17 x18 = some j13 ∧ ∃ (p_x17 : Option Addr) (c_x17 np_x17 : Nat) (L_x17 : List (Sl qa)), np_x17 = L_x17.length ∧ x17 = L_x17.map Sl.l ∧ RL w 34 [(0, sI a0), (1, .slot true (.func (.func 48) #[] #[vP b_a1_0 0, vP b_a1_1 0])), (5, sS p_x17 np_x17 c_x17), (6, sI x9), (10, sI a0), (11, sI x9), (14, sI a0), (15, sI x18), (35, Qh qi 1 p_a1_0 c_a1_0 L_a1_0 ql), (36, QA qi qc.toPart L_a1_0), (38, Qh qi 1 p_a1_1 c_a1_1 L_a1_1 ql), (39, QA qi qc.toPart L_a1_1), (900045, qj p_x17 np_x17 c_x17 L_x17), (34, X7 b_a1_0 [.slice p_a1_0 L_a1_0.length c_a1_0] 25), (37, X7 b_a1_1 [.slice p_a1_1 L_a1_1.length c_a1_1] 25), (999999, gk)] a w') k0 ⟨_, _, G, p_x8, c_x8, L_x8.length, L_x8, rfl, h_x8, H.toM _⟩ ?_
     clear G H
     rintro (_ | k) a w' ⟨x17, x18, G, p_x17, c_x17, _, L_x17, rfl, h_x17, H⟩
     ·exact absurd G (by unfold Qe.l19; exact fun h => by cases h)
     ·unfold Qe.l19 at G
      refine qg qd H (.v 16 (.bool (decide (x18 < a0))) <| .nil) [0, 1, 5, 6, 10, 11, 14, 15, 16, 35, 36, 38, 39, 900045, 34, 37, 999999] fun u20 a w' H => ?_
      refine qs ?_
      refine Qr H (decide (x18 < a0)) (fun c31 => ?_) fun c31 => ?_
      ·rw [if_pos c31] at G
       refine qT ?_
       refine qs ?_
       refine qA ?_
       refine qg qd H (.v 17 (vI x18) <|
 .v 7 (vI x18) <| .nil) [0, 1, 5, 6, 7, 10, 11, 14, 15, 35, 36, 38, 39, 900045, 34, 37, 999999] fun u21 a w' H => ?_
       replace G := gd G; obtain ⟨b23, G⟩ := G
       obtain ⟨t24, ht24, G⟩ := qP G
       obtain ⟨p_t24, c_t24, y_t24⟩ := QE h_x17 ht24
       have P25 := XT (en := ql) (l := L_x17) (qQ (H.at (K := qf p_x17 c_x17 L_x17) 900045 (by kernel_rfl))).row.2 qk
       obtain ⟨t26, ht26, G⟩ := qP G
       replace G := gd G; obtain ⟨b27, G⟩ := G
       replace G := gd G; obtain ⟨b28, G⟩ := G
       obtain ⟨t29, ht29, G⟩ := qP G
       obtain ⟨p_t29, c_t29, y_t29⟩ := QE h_x17 ht29
       refine qN qd H (.v 18 (.slice p_x17 L_x17.length c_x17) <|
 .v 19 (vI x9) <|
 .v 20 (.slice p_x17 L_x17.length c_x17) <|
 .v 21 (vI x9) <|
 .cons [22] (qp (fun u22 => .pointer (some ⟨XB p_x17, XC p_x17 + x9.toNat * 1, none⟩)) 22 (hv := fun _ _ => QH (t := 25) (k := .i64) (i := x9) (p := p_x17) (n := L_x17.length) (cap := c_x17) (x := x17) P25 (qD h_x17) b23 (by kernel_rfl))) <|
 .cons [23] (qy 900045 (qf p_x17 c_x17 L_x17) (.slice p_t24 t24.length c_t24) 23 fun _ w h => Ya ql (qQ h).row.2 qk y_t24 0 1 [.slice p_t24 t24.length c_t24]) <|
 .v 24 (.func (.func 48) #[] #[vP b_a1_0 0, vP b_a1_1 0]) <|
 .v 25 (vI x9) <|
 .v 26 (vI x18) <|
 .cons [27] (Xi [35, 36, 34, 38, 39, 37, 999999] (fun u22 => [Qh qi 1 p_a1_0 c_a1_0 L_a1_0 ql, QA qi qc.toPart L_a1_0, X7 b_a1_0 [.slice p_a1_0 L_a1_0.length c_a1_0] 25, Qh qi 1 p_a1_1 c_a1_1 L_a1_1 ql, QA qi qc.toPart L_a1_1, X7 b_a1_1 [.slice p_a1_1 L_a1_1.length c_a1_1] 25, gk]) 48 _ _ 27 (fun u22 w hF => Y0.calls k0 x9 x18 a1_0 a1_1 b_a1_0 p_a1_0 c_a1_0 L_a1_0 b_a1_1 p_a1_1 c_a1_1 L_a1_1 t26 w h_a1_0 h_a1_1 ⟨(ZN (qq hF.1)), (JD (Qb hF.2.1)), (Q3 (hF.2.2.1 w (agree.refl _ _)) 0).2.1, (ZN (qq hF.2.2.2.1)), (JD (Qb hF.2.2.2.2.1)), (Q3 (hF.2.2.2.2.2.1 w (agree.refl _ _)) 0).2.1, hF.2.2.2.2.2.2.1, trivial⟩ ht26)) <|
 .cons [28, 43] (qH (fun b => .slice (some ⟨b, 0, none⟩) 1 1) (fun u22 => [vI t26.Lo, vI t26.Hi]) 48 28 43) <|
 .cons [29, 900045, 900045] (Xs [10] [43] (fun u22 => [.blk ((u22 10).n 0) [vI t26.Lo, vI t26.Hi] 48]) 900045 (fun u22 => qf p_x17 c_x17 L_x17) (some 29) (fun u22 g => .slice (g.o 0) (t24 ++ [t26]).length (g.n 0)) (fun u22 g => ZC 22 48 2 qb p_x17 L_x17.length c_x17 L_x17 (L_x17.set x9.toNat (⟨(g.o 0), (g.n 0), (t24 ++ [t26])⟩ : Sl qa))) (fun u22 w hF hK => Wm hK y_t24 (l' := (t24 ++ [t26])) (fun h => Q8 (t := 22) (ty := 22) (en := qb) qh Jd h hF.1 (news := [t26]) rfl (by simp) (by kernel_rfl) b27)) (hloc := fun u u' h => ⟨by first | rfl | simp only [h 10 (by decide)], by first | rfl | simp only [h 10 (by decide)], by first | rfl | simp only [h 10 (by decide)], by first | rfl | simp only [h 10 (by decide)]⟩)) <|
 .cons [30] (qp (fun u22 => .pointer (some ⟨XB p_x17, XC p_x17 + x9.toNat * 1, none⟩)) 30 (hv := fun _ _ => QH (t := 25) (k := .i64) (i := x9) (p := p_x17) (n := L_x17.length) (cap := c_x17) (x := x17) P25 (qD h_x17) b28 (by kernel_rfl))) <|
 .cons [900045, 900045] (Xs [11] [] (fun u22 => []) 900045 (fun u22 => ZC 22 48 2 qb p_x17 L_x17.length c_x17 L_x17 (L_x17.set x9.toNat (⟨((u22 11).o 0), ((u22 11).n 0), (t24 ++ [t26])⟩ : Sl qa))) none (fun u22 g => .nilFunc) (fun u22 g => qj p_x17 L_x17.length c_x17 (L_x17.set x9.toNat (⟨((u22 11).o 0), ((u22 11).n 0), (t24 ++ [t26])⟩ : Sl qa))) (fun u22 w hF hK => WB hK (fun h => XP (en := ql) h qk (y := (⟨((u22 11).o 0), ((u22 11).n 0), (t24 ++ [t26])⟩ : Sl qa)) (vs := [.slice ((u22 11).o 0) ((t24 ++ [t26]).length) ((u22 11).n 0)]) y_t29 0 (by simp) (by simp) rfl (by kernel_rfl))) (hloc := fun u u' h => ⟨by first | rfl | simp only [h 11 (by decide)], by first | rfl | simp only [h 11 (by decide)], by first | rfl | simp only [h 11 (by decide)], by first | rfl | simp only [h 11 (by decide)]⟩)) <| .nil) [0, 1, 5, 6, 10, 11, 14, 15, 35, 36, 38, 39, 900045, 34, 37, 999999] fun u22 a w' H => ?_
       refine qN qd H (.v 31 (vI (qe (x18 + 1))) <|
 .v 15 (vI (qe (x18 + 1))) <| .nil) [0, 1, 5, 6, 10, 11, 14, 15, 35, 36, 38, 39, 900045, 34, 37, 999999] fun u30 a w' H => ?_
       exact ⟨k, Nat.lt_succ_self k, _, _, G, p_x17, c_x17, L_x17.length, (L_x17.set x9.toNat (⟨((u22 11).o 0), ((u22 11).n 0), (t24 ++ [t26])⟩ : Sl qa)), by simp, (map_set h_x17 x9.toNat (⟨((u22 11).o 0), ((u22 11).n 0), (t24 ++ [t26])⟩ : Sl qa)), H.toM _⟩
      ·rw [if_neg (nt c31)] at G
       refine QO rfl ?_
       obtain rfl := sj G
       replace H := H.move (K := qf p_x17 c_x17 L_x17) 900045 900043 (by kernel_rfl) (by intro _ _ h; cases h)
       exact ⟨p_x17, c_x17, L_x17.length, L_x17, rfl, h_x17, H.toM _⟩
   ·rw [if_neg (nt c32)] at G
    refine QO rfl ?_
    obtain rfl := sj G
    replace H := H.move (K := qf p_x8 c_x8 L_x8) 900041 900039 (by kernel_rfl) (by intro _ _ h; cases h)
    exact ⟨p_x8, c_x8, L_x8.length, L_x8, rfl, h_x8, H.toM _⟩
theorem Zk.calls (k0 : Nat) (a0 : List (List qa)) (a1 : List (List qa)) (p_a0 : Option Addr) (c_a0 : Nat) (L_a0 : List (Sl qa)) (p_a1 : Option Addr) (c_a1 : Nat) (L_a1 : List (Sl qa)) (r : List (List qa)) (w : World) (h_a0 : a0 = L_a0.map Sl.l) (h_a1 : a1 = L_a1.map Sl.l) (hB : Yj [Qh qi 1 p_a0 c_a0 L_a0 ql, QA qi qc.toPart L_a0, Qh qi 1 p_a1 c_a1 L_a1 ql, QA qi qc.toPart L_a1, gk] w) (G : Zk k0 a0 a1 = some r) :
  Calls Tryz.prog 13 #[.slice p_a0 L_a0.length c_a0, .slice p_a1 L_a1.length c_a1] w fun e w' => ∃ g : Gh, e = .returned (slgd_S_TInterval g 0 r) ∧ Y7 (YT []) w w' ∧ YD w.heap.size (YT []) (JG w.heap.size []) [fun _ => ns_en_TIntervalg g 0 r] w' := by
 obtain ⟨fr, hfr, hBf⟩ := J4 w []
 refine QQ (args := [.slice p_a0 L_a0.length c_a0, .slice p_a1 L_a1.length c_a1]) 9 [(9, Qh qi 1 p_a0 c_a0 L_a0 ql), (10, QA qi qc.toPart L_a0), (11, Qh qi 1 p_a1 c_a1 L_a1 ql), (12, QA qi qc.toPart L_a1), (999999, gk)] (by
  intro x hx
  simp only [List.mem_cons, List.not_mem_nil, or_false] at hx
  rcases hx with rfl | rfl | rfl | rfl | rfl
  ·exact Ql (qq hB.1) (fun _ _ => trivial) (by decide) _
  ·exact Xt (Qb hB.2.1) (fun _ _ => trivial) _
  ·exact Ql (qq hB.2.2.1) (fun _ _ => trivial) (by decide) _
  ·exact Xt (Qb hB.2.2.2.1) (fun _ _ => trivial) _
  ·exact ⟨⟨_, _, rfl⟩, hB.2.2.2.2.1, ZV (Yc hB.2.2.2.2.1)⟩) Tryz.func13 rfl (by kernel_rfl) (by kernel_rfl) fun a H => ?_
 unfold Zk at G
 refine qg qd H (.cons [2, 13] (qH (fun b => vP b 0) (fun u1 => [.slice p_a0 L_a0.length c_a0]) 25 2 13) <|
 .cons [3, 14] (qH (fun b => vP b 0) (fun u1 => [.slice p_a1 L_a1.length c_a1]) 25 3 14) <|
 .v 4 (.slice none 0 0) <| .nil) [2, 3, 9, 10, 11, 12, 13, 14, 999999] fun u1 a w' H => ?_
 obtain ⟨t3, ht3, G⟩ := qP G
 refine qg qd H (.cons [5] (qv (.slice p_a0 L_a0.length c_a0) 5 13 0 1 ((u1 0).n 0) [.slice p_a0 L_a0.length c_a0] 25) <|
 .cons [6] (qy 9 (Qh qi 1 p_a0 c_a0 L_a0 ql) (vI (a0.length : Int)) 6 fun _ w h => Q7 (((qq h).2.len qk (by decide)).trans (qD h_a0).symm) (by kernel_rfl)) <|
 .v 7 (.func (.func 48) #[] #[vP ((u1 0).n 0) 0, vP ((u1 1).n 0) 0]) <|
 .cons [8, 15] (Qo false fr [] [9, 10, 13, 11, 12, 14, 999999] (fun u2 => [Qh qi 1 p_a0 c_a0 L_a0 ql, QA qi qc.toPart L_a0, .blk ((u1 0).n 0) [.slice p_a0 L_a0.length c_a0] 25, Qh qi 1 p_a1 c_a1 L_a1 ql, QA qi qc.toPart L_a1, .blk ((u1 1).n 0) [.slice p_a1 L_a1.length c_a1] 25, gk]) [] (fun u2 => []) 47 _ _ _ _ _ [15] 8 (fun u2 w hB hF hM => Qe.calls k0 (a0.length : Int) a0 a1 ((u1 0).n 0) p_a0 c_a0 L_a0 ((u1 1).n 0) p_a1 c_a1 L_a1 t3 w h_a0 h_a1 hB ht3) (fun u2 w hF => ⟨⟨QP (qq hF.1) (fun j h => ⟨_, (.head _), h⟩), Xk (Qb hF.2.1) (fun j h => ⟨_, (.tail _ (.head _)), h⟩), VH hF.2.2.1 (.tail _ (.tail _ (.head _))) rfl, QP (qq hF.2.2.2.1) (fun j h => ⟨_, (.tail _ (.tail _ (.tail _ (.head _)))), h⟩), Xk (Qb hF.2.2.2.2.1) (fun j h => ⟨_, (.tail _ (.tail _ (.tail _ (.tail _ (.head _))))), h⟩), VH hF.2.2.2.2.2.1 (.tail _ (.tail _ (.tail _ (.tail _ (.tail _ (.head _)))))) rfl, Wq hF.2.2.2.2.2.2.1 (.tail _ (.tail _ (.tail _ (.tail _ (.tail _ (.tail _ (.head _))))))), trivial⟩, trivial⟩) (fun u2 g => (qx QZ qI)) (.inr (fun u2 g => (Qj trivial (fun K h => by cases h)))) (fun h => by cases h)) <|
 .cons [4] (qp (fun u2 => slgd_S_TInterval (u2 3) 0 t3) 4) <| .nil) [4, 15, 999999] fun u2 a w' H => ?_
 refine q7 ?_
 obtain rfl := sj G
 obtain ⟨g, o0, n0, d0⟩ := ZQ QS ((u2 3).o 0) ((u2 3).n 0) (Xc qC (u2 3) 0 t3)
 refine Xo H _ g _ _ _ fr [15] [] (slgd_S_TInterval (u2 3) 0 t3) [fun _ => ns_en_TIntervalg (u2 3) 0 t3] (by simp only [slgd_S_TInterval, dlgd_S_TInterval, ns_en_TIntervalg, qf, qj, QU, o0, n0, d0]) (by simp only [slgd_S_TInterval, dlgd_S_TInterval, ns_en_TIntervalg, qf, qj, QU, o0, n0, d0]) hfr (.inl ⟨rfl, rfl⟩) (qx QZ qI) (by simp)
theorem QI.calls (k0 : Nat) (a0 : List qa) (a1 : List qa) (p_a0 : Option Addr) (c_a0 : Nat) (p_a1 : Option Addr) (c_a1 : Nat) (r : Bool) (w : World) (hB : Yj [Qh qi 2 p_a0 c_a0 a0 qb, Qh qi 2 p_a1 c_a1 a1 qb] w) (G : QI k0 a0 a1 = some r) :
  Calls Tryz.prog 15 #[.slice p_a0 a0.length c_a0, .slice p_a1 a1.length c_a1] w fun e w' => e = .returned (.bool r) ∧ Below w.heap.size w w' := by
 obtain ⟨fr, hfr⟩ : ∃ fr : Nat → Prop, ∀ j, fr j := ⟨fun _ => True, fun _ => trivial⟩
 have hBf : ∀ j, w.heap.size ≤ j → fr j := fun j _ => hfr j
 refine QQ (args := [.slice p_a0 a0.length c_a0, .slice p_a1 a1.length c_a1]) 26 [(26, Qh qi 2 p_a0 c_a0 a0 qb), (27, Qh qi 2 p_a1 c_a1 a1 qb)] (by
  intro x hx
  simp only [List.mem_cons, List.not_mem_nil, or_false] at hx
  rcases hx with rfl | rfl
  ·exact Ql (qq hB.1) (fun _ _ => trivial) (by decide) _
  ·exact Ql (qq hB.2.1) (fun _ _ => trivial) (by decide) _) Tryz.func15 rfl (by kernel_rfl) (by kernel_rfl) fun a H => ?_
 unfold QI at G
 refine qg qd H (.v 4 (.bool false) <| .nil) [0, 1, 26, 27] fun u1 a w' H => ?_
 refine qs ?_
 refine qg qd H (.v 6 (.slice p_a0 a0.length c_a0) <|
 .v 7 (vI (a0.length : Int)) <|
 .v 8 (.slice p_a1 a1.length c_a1) <|
 .v 9 (vI (a1.length : Int)) <|
 .v 10 (.bool ((a0.length : Int) != (a1.length : Int))) <| .nil) [0, 1, 10, 26, 27] fun u2 a w' H => ?_
 refine Qr H ((a0.length : Int) != (a1.length : Int)) (fun c21 => ?_) fun c21 => ?_
 ·rw [if_pos c21] at G
  refine qg qd H (.v 4 (.bool false) <| .nil) [4] fun u3 a w' H => ?_
  refine q7 ?_
  obtain rfl := sj G
  exact QG H _ (by kernel_rfl) (by kernel_rfl)
 ·rw [if_neg (nt c21)] at G
  refine qT ?_
  refine qs ?_
  obtain ⟨j4, hj4, Gj4⟩ := qP G
  refine Qw (fun a w' => ∃ j4v, j4 = Sum.inr j4v ∧ RL w 26 [] a w') ?_ ?_
  ·clear H; rintro a w' ⟨j4v, rfl, H⟩; have G := Gj4; clear Gj4; dsimp only at G
   refine qg qd H (.v 4 (.bool true) <| .nil) [4] fun u5 a w' H => ?_
   refine q7 ?_
   obtain rfl := sj G
   exact QG H _ (by kernel_rfl) (by kernel_rfl)
  ·have G := hj4; clear hj4
   refine qg qd H (.v 5 (vI 0) <| .nil) [0, 1, 5, 26, 27] fun u6 a w' H => ?_
   refine qA ?_
   refine Qv (fun m a w' => ∃ x7 : Int, QI.l8 k0 a0 a1 m x7 = some j4 ∧ RL w 26 [(0, sS p_a0 a0.length c_a0), (1, sS p_a1 a1.length c_a1), (5, sI x7), (26, Qh qi 2 p_a0 c_a0 a0 qb), (27, Qh qi 2 p_a1 c_a1 a1 qb)] a w') k0 ⟨_, G, H.toM _⟩ ?_
   clear G H
   rintro (_ | k) a w' ⟨x7, G, H⟩
   ·exact absurd G (by unfold QI.l8; exact fun h => by cases h)
   ·unfold QI.l8 at G
    refine qs ?_
    refine qg qd H (.v 11 (vI x7) <|
 .v 12 (.slice p_a0 a0.length c_a0) <|
 .v 13 (vI (a0.length : Int)) <|
 .v 14 (.bool (decide (x7 < (a0.length : Int)))) <| .nil) [0, 1, 5, 14, 26, 27] fun u9 a w' H => ?_
    refine Qr H (decide (x7 < (a0.length : Int))) (fun c20 => ?_) fun c20 => ?_
    ·rw [if_pos c20] at G
     refine qT ?_
     refine qs ?_
     refine qA ?_
     refine qs ?_
     replace G := gd G; obtain ⟨b11, G⟩ := G
     obtain ⟨t12, ht12, G⟩ := qP G
     have P13 := XT (en := qb) (l := a0) (qq (H.at (K := Qh qi 2 p_a0 c_a0 a0 qb) 26 (by kernel_rfl))).2 qh
     replace G := gd G; obtain ⟨b14, G⟩ := G
     obtain ⟨t15, ht15, G⟩ := qP G
     have P16 := XT (en := qb) (l := a1) (qq (H.at (K := Qh qi 2 p_a1 c_a1 a1 qb) 27 (by kernel_rfl))).2 qh
     refine qN qd H (.v 17 (.slice p_a0 a0.length c_a0) <|
 .v 18 (vI x7) <|
 .cons [19] (qp (fun u10 => .pointer (some ⟨XB p_a0, XC p_a0 + x7.toNat * 2, none⟩)) 19 (hv := fun _ _ => QH (t := 22) (k := .i64) (i := x7) (p := p_a0) (n := a0.length) (cap := c_a0) (x := a0) P13 rfl b11 (by kernel_rfl))) <|
 .cons [20] (qy 26 (Qh qi 2 p_a0 c_a0 a0 qb) (.agg #[vI t12.Lo, vI t12.Hi]) 20 fun _ w h => Ya qb (qq h).2 qh ht12 0 2 [vI t12.Lo, vI t12.Hi]) <|
 .v 21 (.slice p_a1 a1.length c_a1) <|
 .v 22 (vI x7) <|
 .cons [23] (qp (fun u10 => .pointer (some ⟨XB p_a1, XC p_a1 + x7.toNat * 2, none⟩)) 23 (hv := fun _ _ => QH (t := 22) (k := .i64) (i := x7) (p := p_a1) (n := a1.length) (cap := c_a1) (x := a1) P16 rfl b14 (by kernel_rfl))) <|
 .cons [24] (qy 27 (Qh qi 2 p_a1 c_a1 a1 qb) (.agg #[vI t15.Lo, vI t15.Hi]) 24 fun _ w h => Ya qb (qq h).2 qh ht15 0 2 [vI t15.Lo, vI t15.Hi]) <|
 .cons [25] (qp (fun u10 => .bool (!((t12.Lo == t15.Lo) && ((t12.Hi == t15.Hi) && true)))) 25 (hv := fun _ _ => Zz (by kernel_rfl) (Wv (t := 48) (x := (.tmp 20)) (y := (.tmp 24)) (xs := #[vI t12.Lo, vI t12.Hi]) (ys := #[vI t15.Lo, vI t15.Hi]) (b := ((t12.Lo == t15.Lo) && ((t12.Hi == t15.Hi) && true))) (by kernel_rfl) (by kernel_rfl)))) <| .nil) [0, 1, 5, 25, 26, 27] fun u10 a w' H => ?_
     refine Qr H (!((t12.Lo == t15.Lo) && ((t12.Hi == t15.Hi) && true))) (fun c19 => ?_) fun c19 => ?_
     ·rw [if_pos c19] at G
      refine qg qd H (.v 4 (.bool false) <| .nil) [4] fun u17 a w' H => ?_
      refine q7 ?_
      obtain rfl := sj G
      replace G := Gj4
      obtain rfl := sj G
      exact QG H _ (by kernel_rfl) (by kernel_rfl)
     ·rw [if_neg (nt c19)] at G
      refine qT ?_
      refine qN qd H (.v 15 (vI x7) <|
 .v 16 (vI (qe (x7 + 1))) <|
 .v 5 (vI (qe (x7 + 1))) <| .nil) [0, 1, 5, 26, 27] fun u18 a w' H => ?_
      exact ⟨k, Nat.lt_succ_self k, _, G, H.toM _⟩
    ·rw [if_neg (nt c20)] at G
     refine QO rfl ?_
     obtain rfl := sj G
     exact ⟨_, rfl, H.toM _⟩
theorem Yf.calls (a0 : Int) (q0 : List (List qa)) (q1 : Int) (b_q0 : Nat) (p_q0 : Option Addr) (c_q0 : Nat) (L_q0 : List (Sl qa)) (b_q1 : Nat) (r : qa) (w : World) (h_q0 : q0 = L_q0.map Sl.l) (hB : Yj [Qh qi 1 p_q0 c_q0 L_q0 ql, QA qi qc.toPart L_q0, X7 b_q0 [.slice p_q0 L_q0.length c_q0] 25, X7 b_q1 [vI q1] 3] w) (G : Yf a0 q0 q1 = some r) :
  Calls Tryz.prog 52 #[vI a0, vP b_q0 0, vP b_q1 0] w fun e w' => e = .returned (.agg #[vI r.Lo, vI r.Hi]) ∧ Below w.heap.size w w' := by
 obtain ⟨fr, hfr⟩ : ∃ fr : Nat → Prop, ∀ j, fr j := ⟨fun _ => True, fun _ => trivial⟩
 have hBf : ∀ j, w.heap.size ≤ j → fr j := fun j _ => hfr j
 refine QQ (args := [vI a0, vP b_q0 0, vP b_q1 0]) 12 [(13, Qh qi 1 p_q0 c_q0 L_q0 ql), (14, QA qi qc.toPart L_q0), (12, X7 b_q0 [.slice p_q0 L_q0.length c_q0] 25), (15, X7 b_q1 [vI q1] 3)] (by
  intro x hx
  simp only [List.mem_cons, List.not_mem_nil, or_false] at hx
  rcases hx with rfl | rfl | rfl | rfl
  ·exact Ql (qq hB.1) (fun _ _ => trivial) (by decide) _
  ·exact Xt (Qb hB.2.1) (fun _ _ => trivial) _
  ·exact Q3 (hB.2.2.1 w (agree.refl _ _)) _
  ·exact Q3 (hB.2.2.2.1 w (agree.refl _ _)) _) Tryz.func52 rfl (by kernel_rfl) (by kernel_rfl) fun a H => ?_
 unfold Yf at G
 refine qg qd H (.cons [4, 16] (qH (fun b => vP b 0) (fun u1 => [vI 0, vI 0]) 48 4 16) <| .nil) [0, 1, 2, 4, 13, 14, 16, 12, 15] fun u1 a w' H => ?_
 refine qs ?_
 replace G := gd G; obtain ⟨b3, G⟩ := G
 obtain ⟨t4, ht4, G⟩ := qP G
 obtain ⟨p_t4, c_t4, y_t4⟩ := QE h_q0 ht4
 replace G := gd G; obtain ⟨b5, G⟩ := G
 obtain ⟨t6, ht6, G⟩ := qP G
 refine qN qd H (.cons [5] (XX (fun u2 => .slice p_q0 L_q0.length c_q0) 5 12 (X7 b_q0 [.slice p_q0 L_q0.length c_q0] 25) b_q0 0 1 [.slice p_q0 L_q0.length c_q0] (fun w h => Za h)) <|
 .cons [6] (XX (fun u2 => vI q1) 6 15 (X7 b_q1 [vI q1] 3) b_q1 0 1 [vI q1] (fun w h => Za h)) <|
 .cons [7] (qy 13 (Qh qi 1 p_q0 c_q0 L_q0 ql) (.pointer (some ⟨XB p_q0, XC p_q0 + q1.toNat * 1, none⟩)) 7 fun _ w h => YQ 25 .i64 q1 p_q0 L_q0.length c_q0 q0 ql (qq h).2 qk (qD h_q0) b3) <|
 .cons [8] (qy 13 (Qh qi 1 p_q0 c_q0 L_q0 ql) (.slice p_t4 t4.length c_t4) 8 fun _ w h => Ya ql (qq h).2 qk y_t4 0 1 [.slice p_t4 t4.length c_t4]) <|
 .v 9 (vI a0) <|
 .cons [10] (qy 14 (QA qi qc.toPart L_q0) (.pointer (some ⟨XB p_t4, XC p_t4 + a0.toNat * 2, none⟩)) 10 fun _ w h => YQ 22 .i64 a0 p_t4 t4.length c_t4 t4 qb (show Xv _ 2 p_t4 t4.length c_t4 (t4.flatMap qb) from ((Qb h) _ (List.mem_of_getElem? y_t4)).1).2 qh rfl b5) <|
 .cons [11] (qy 14 (QA qi qc.toPart L_q0) (.agg #[vI t6.Lo, vI t6.Hi]) 11 fun _ w h => Ya qb (show Xv _ 2 p_t4 t4.length c_t4 (t4.flatMap qb) from ((Qb h) _ (List.mem_of_getElem? y_t4)).1).2 qh ht6 0 2 [vI t6.Lo, vI t6.Hi]) <|
 .cons [16] (QV 16 0 ((u1 0).n 0) [vI 0, vI 0] [vI t6.Lo, vI t6.Hi] 48 [vI t6.Lo, vI t6.Hi]) <| .nil) [4, 13, 14, 16, 12, 15] fun u2 a w' H => ?_
 refine q7 ?_
 obtain rfl := sj G
 exact Xe H _ 16 ((u1 0).n 0) [vI t6.Lo, vI t6.Hi] 48 0 2 (by kernel_rfl) (by kernel_rfl) (by kernel_rfl) (by kernel_rfl)
theorem Ye.calls (a0 : Int) (q0 : List qa) (b_q0 : Nat) (p_q0 : Option Addr) (c_q0 : Nat) (r : qa) (w : World) (hB : Yj [Qh qi 2 p_q0 c_q0 q0 qb, X7 b_q0 [.slice p_q0 q0.length c_q0] 22] w) (G : Ye a0 q0 = some r) :
  Calls Tryz.prog 53 #[vI a0, vP b_q0 0] w fun e w' => e = .returned (.agg #[vI r.Lo, vI r.Hi]) ∧ Below w.heap.size w w' := by
 obtain ⟨fr, hfr⟩ : ∃ fr : Nat → Prop, ∀ j, fr j := ⟨fun _ => True, fun _ => trivial⟩
 have hBf : ∀ j, w.heap.size ≤ j → fr j := fun j _ => hfr j
 refine QQ (args := [vI a0, vP b_q0 0]) 8 [(9, Qh qi 2 p_q0 c_q0 q0 qb), (8, X7 b_q0 [.slice p_q0 q0.length c_q0] 22)] (by
  intro x hx
  simp only [List.mem_cons, List.not_mem_nil, or_false] at hx
  rcases hx with rfl | rfl
  ·exact Ql (qq hB.1) (fun _ _ => trivial) (by decide) _
  ·exact Q3 (hB.2.1 w (agree.refl _ _)) _) Tryz.func53 rfl (by kernel_rfl) (by kernel_rfl) fun a H => ?_
 unfold Ye at G
 refine qg qd H (.cons [3, 10] (qH (fun b => vP b 0) (fun u1 => [vI 0, vI 0]) 48 3 10) <| .nil) [0, 1, 3, 9, 10, 8] fun u1 a w' H => ?_
 refine qs ?_
 replace G := gd G; obtain ⟨b3, G⟩ := G
 obtain ⟨t4, ht4, G⟩ := qP G
 refine qN qd H (.cons [4] (XX (fun u2 => .slice p_q0 q0.length c_q0) 4 8 (X7 b_q0 [.slice p_q0 q0.length c_q0] 22) b_q0 0 1 [.slice p_q0 q0.length c_q0] (fun w h => Za h)) <|
 .v 5 (vI a0) <|
 .cons [6] (qy 9 (Qh qi 2 p_q0 c_q0 q0 qb) (.pointer (some ⟨XB p_q0, XC p_q0 + a0.toNat * 2, none⟩)) 6 fun _ w h => YQ 22 .i64 a0 p_q0 q0.length c_q0 q0 qb (qq h).2 qh rfl b3) <|
 .cons [7] (qy 9 (Qh qi 2 p_q0 c_q0 q0 qb) (.agg #[vI t4.Lo, vI t4.Hi]) 7 fun _ w h => Ya qb (qq h).2 qh ht4 0 2 [vI t4.Lo, vI t4.Hi]) <|
 .cons [10] (QV 10 0 ((u1 0).n 0) [vI 0, vI 0] [vI t4.Lo, vI t4.Hi] 48 [vI t4.Lo, vI t4.Hi]) <| .nil) [3, 9, 10, 8] fun u2 a w' H => ?_
 refine q7 ?_
 obtain rfl := sj G
 exact Xe H _ 10 ((u1 0).n 0) [vI t4.Lo, vI t4.Hi] 48 0 2 (by kernel_rfl) (by kernel_rfl) (by kernel_rfl) (by kernel_rfl)
theorem Q0.calls (k0 : Nat) (a0 : Int) (a1_0 : List (List qa)) (a1_1 : Int) (a2_0 : List qa) (b_a1_0 : Nat) (p_a1_0 : Option Addr) (c_a1_0 : Nat) (L_a1_0 : List (Sl qa)) (b_a1_1 : Nat) (b_a2_0 : Nat) (p_a2_0 : Option Addr) (c_a2_0 : Nat) (r : qa) (w : World) (h_a1_0 : a1_0 = L_a1_0.map Sl.l) (hB : Yj [Qh qi 1 p_a1_0 c_a1_0 L_a1_0 ql, QA qi qc.toPart L_a1_0, X7 b_a1_0 [.slice p_a1_0 L_a1_0.length c_a1_0] 25, X7 b_a1_1 [vI a1_1] 3, Qh qi 2 p_a2_0 c_a2_0 a2_0 qb, X7 b_a2_0 [.slice p_a2_0 a2_0.length c_a2_0] 22, gk] w) (G : Q0 k0 a0 a1_0 a1_1 a2_0 = some r) :
  Calls Tryz.prog 49 #[vI a0, .func (.func 52) #[] #[vP b_a1_0 0, vP b_a1_1 0], .func (.func 53) #[] #[vP b_a2_0 0]] w fun e w' => e = .returned (.agg #[vI r.Lo, vI r.Hi]) ∧ Below w.heap.size w w' := by
 obtain ⟨fr, hfr⟩ : ∃ fr : Nat → Prop, ∀ j, fr j := ⟨fun _ => True, fun _ => trivial⟩
 have hBf : ∀ j, w.heap.size ≤ j → fr j := fun j _ => hfr j
 refine QQ (args := [vI a0, .func (.func 52) #[] #[vP b_a1_0 0, vP b_a1_1 0], .func (.func 53) #[] #[vP b_a2_0 0]]) 29 [(30, Qh qi 1 p_a1_0 c_a1_0 L_a1_0 ql), (31, QA qi qc.toPart L_a1_0), (29, X7 b_a1_0 [.slice p_a1_0 L_a1_0.length c_a1_0] 25), (32, X7 b_a1_1 [vI a1_1] 3), (34, Qh qi 2 p_a2_0 c_a2_0 a2_0 qb), (33, X7 b_a2_0 [.slice p_a2_0 a2_0.length c_a2_0] 22), (999999, gk)] (by
  intro x hx
  simp only [List.mem_cons, List.not_mem_nil, or_false] at hx
  rcases hx with rfl | rfl | rfl | rfl | rfl | rfl | rfl
  ·exact Ql (qq hB.1) (fun _ _ => trivial) (by decide) _
  ·exact Xt (Qb hB.2.1) (fun _ _ => trivial) _
  ·exact Q3 (hB.2.2.1 w (agree.refl _ _)) _
  ·exact Q3 (hB.2.2.2.1 w (agree.refl _ _)) _
  ·exact Ql (qq hB.2.2.2.2.1) (fun _ _ => trivial) (by decide) _
  ·exact Q3 (hB.2.2.2.2.2.1 w (agree.refl _ _)) _
  ·exact ⟨⟨_, _, rfl⟩, hB.2.2.2.2.2.2.1, ZV (Yc hB.2.2.2.2.2.2.1)⟩) Tryz.func49 rfl (by kernel_rfl) (by kernel_rfl) fun a H => ?_
 unfold Q0 at G
 refine qg qd H (.cons [6, 35] (qH (fun b => vP b 0) (fun u1 => [vI 0, vI 0]) 48 6 35) <| .nil) [0, 1, 2, 6, 30, 31, 34, 35, 29, 32, 33, 999999] fun u1 a w' H => ?_
 obtain ⟨t3, ht3, G⟩ := qP G
 obtain ⟨t4, ht4, G⟩ := qP G
 obtain ⟨t5, ht5, G⟩ := qP G
 refine qg qd H (.v 9 (.func (.func 52) #[] #[vP b_a1_0 0, vP b_a1_1 0]) <|
 .cons [10] (Xi [30, 31, 29, 32] (fun u2 => [Qh qi 1 p_a1_0 c_a1_0 L_a1_0 ql, QA qi qc.toPart L_a1_0, X7 b_a1_0 [.slice p_a1_0 L_a1_0.length c_a1_0] 25, X7 b_a1_1 [vI a1_1] 3]) 52 _ _ 10 (fun u2 w hF => Yf.calls 0 a1_0 a1_1 b_a1_0 p_a1_0 c_a1_0 L_a1_0 b_a1_1 t3 w h_a1_0 ⟨(ZN (qq hF.1)), (JD (Qb hF.2.1)), (Q3 (hF.2.2.1 w (agree.refl _ _)) 0).2.1, (Q3 (hF.2.2.2.1 w (agree.refl _ _)) 0).2.1, trivial⟩ ht3)) <|
 .v 11 (.func (.func 53) #[] #[vP b_a2_0 0]) <|
 .cons [12] (Xi [34, 33] (fun u2 => [Qh qi 2 p_a2_0 c_a2_0 a2_0 qb, X7 b_a2_0 [.slice p_a2_0 a2_0.length c_a2_0] 22]) 53 _ _ 12 (fun u2 w hF => Ye.calls 0 a2_0 b_a2_0 p_a2_0 c_a2_0 t4 w  ⟨(ZN (qq hF.1)), (Q3 (hF.2.1 w (agree.refl _ _)) 0).2.1, trivial⟩ ht4)) <|
 .cons [13] (Xi [999999] (fun u2 => [gk]) 41 _ _ 13 (fun u2 w hF => Xh.calls t3 t4  t5 w  (Yc hF.1) ht5)) <|
 .cons [7, 36] (qH (fun b => vP b 0) (fun u2 => [vI 0, vI 0]) 48 7 36) <|
 .cons [36] (XO (u' := fun u2 => [(36, .blk ((u2 5).n 0) [vI t5.Lo, vI t5.Hi] 48)]) (X1 36 0 (fun u2 => ((u2 5).n 0)) (fun u2 => [vI 0, vI 0]) (fun u2 => [vI t5.Lo, vI t5.Hi]) 48) (fun _ => by kernel_rfl)) <| .nil) [0, 1, 2, 6, 7, 30, 31, 34, 35, 36, 29, 32, 33, 999999] fun u2 a w' H => ?_
 refine qs ?_
 obtain ⟨j8, hj8, G⟩ := qP G
 refine Qw (fun a w' => RL w 29 [(6, (sP ((u1 0).n 0) 0)), (7, (sP ((u2 5).n 0) 0)), (30, Qh qi 1 p_a1_0 c_a1_0 L_a1_0 ql), (31, QA qi qc.toPart L_a1_0), (34, Qh qi 2 p_a2_0 c_a2_0 a2_0 qb), (35, .blk ((u1 0).n 0) [vI 0, vI 0] 48), (36, .blk ((u2 5).n 0) [vI j8.1, vI j8.2] 48), (29, X7 b_a1_0 [.slice p_a1_0 L_a1_0.length c_a1_0] 25), (32, X7 b_a1_1 [vI a1_1] 3), (33, X7 b_a2_0 [.slice p_a2_0 a2_0.length c_a2_0] 22), (999999, gk)] a w') ?_ ?_
 ·clear H; intro a w' H
  refine qg qd H (.cons [28] (qv (.agg #[vI j8.1, vI j8.2]) 28 36 0 2 ((u2 5).n 0) [vI j8.1, vI j8.2] 48) <|
 .cons [35] (QV 35 0 ((u1 0).n 0) [vI 0, vI 0] [vI j8.1, vI j8.2] 48 [vI j8.1, vI j8.2]) <| .nil) [6, 30, 31, 34, 35, 29, 32, 33, 999999] fun u9 a w' H => ?_
  refine q7 ?_
  obtain rfl := sj G
  exact Xe H _ 35 ((u1 0).n 0) [vI j8.1, vI j8.2] 48 0 2 (by kernel_rfl) (by kernel_rfl) (by kernel_rfl) (by kernel_rfl)
 ·clear G; replace G := hj8; clear hj8
  refine qg qd H (.v 8 (vI 1) <| .nil) [0, 1, 2, 6, 7, 8, 30, 31, 34, 35, 36, 29, 32, 33, 999999] fun u10 a w' H => ?_
  refine qA ?_
  refine Qv (fun m a w' => ∃ x11 : Int, ∃ x12 : Int, ∃ x13 : Int, Q0.l14 k0 a0 a1_0 a1_1 a2_0 t3 t4 t5 m x11 x12 x13 = some j8 ∧ RL w 29 [(0, sI a0), (1, .slot true (.func (.func 52) #[] #[vP b_a1_0 0, vP b_a1_1 0])), (2, .slot true (.func (.func 53) #[] #[vP b_a2_0 0])), (6, (sP ((u1 0).n 0) 0)), (7, (sP ((u2 5).n 0) 0)), (8, sI x13), (30, Qh qi 1 p_a1_0 c_a1_0 L_a1_0 ql), (31, QA qi qc.toPart L_a1_0), (34, Qh qi 2 p_a2_0 c_a2_0 a2_0 qb), (35, .blk ((u1 0).n 0) [vI 0, vI 0] 48), (36, .blk ((u2 5).n 0) [vI x11, vI x12] 48), (29, X7 b_a1_0 [.slice p_a1_0 L_a1_0.length c_a1_0] 25), (32, X7 b_a1_1 [vI a1_1] 3), (33, X7 b_a2_0 [.slice p_a2_0 a2_0.length c_a2_0] 22), (999999, gk)] a w') k0 ⟨_, _, _, G, H.toM _⟩ ?_
  clear G H
  rintro (_ | k) a w' ⟨x11, x12, x13, G, H⟩
  ·exact absurd G (by unfold Q0.l14; exact fun h => by cases h)
  ·unfold Q0.l14 at G
   refine qs ?_
   refine qg qd H (.v 14 (vI x13) <|
 .v 15 (vI a0) <|
 .v 16 (.bool (decide (x13 < a0))) <| .nil) [0, 1, 2, 6, 7, 8, 16, 30, 31, 34, 35, 36, 29, 32, 33, 999999] fun u15 a w' H => ?_
   refine Qr H (decide (x13 < a0)) (fun c22 => ?_) fun c22 => ?_
   ·rw [if_pos c22] at G
    refine qT ?_
    refine qs ?_
    refine qA ?_
    obtain ⟨t17, ht17, G⟩ := qP G
    obtain ⟨t18, ht18, G⟩ := qP G
    obtain ⟨t19, ht19, G⟩ := qP G
    obtain ⟨t20, ht20, G⟩ := qP G
    refine qN qd H (.cons [19] (qv (.agg #[vI x11, vI x12]) 19 36 0 2 ((u2 5).n 0) [vI x11, vI x12] 48) <|
 .v 20 (.func (.func 52) #[] #[vP b_a1_0 0, vP b_a1_1 0]) <|
 .v 21 (vI x13) <|
 .cons [22] (Xi [30, 31, 29, 32] (fun u16 => [Qh qi 1 p_a1_0 c_a1_0 L_a1_0 ql, QA qi qc.toPart L_a1_0, X7 b_a1_0 [.slice p_a1_0 L_a1_0.length c_a1_0] 25, X7 b_a1_1 [vI a1_1] 3]) 52 _ _ 22 (fun u16 w hF => Yf.calls x13 a1_0 a1_1 b_a1_0 p_a1_0 c_a1_0 L_a1_0 b_a1_1 t17 w h_a1_0 ⟨(ZN (qq hF.1)), (JD (Qb hF.2.1)), (Q3 (hF.2.2.1 w (agree.refl _ _)) 0).2.1, (Q3 (hF.2.2.2.1 w (agree.refl _ _)) 0).2.1, trivial⟩ ht17)) <|
 .v 23 (.func (.func 53) #[] #[vP b_a2_0 0]) <|
 .v 24 (vI x13) <|
 .cons [25] (Xi [34, 33] (fun u16 => [Qh qi 2 p_a2_0 c_a2_0 a2_0 qb, X7 b_a2_0 [.slice p_a2_0 a2_0.length c_a2_0] 22]) 53 _ _ 25 (fun u16 w hF => Ye.calls x13 a2_0 b_a2_0 p_a2_0 c_a2_0 t18 w  ⟨(ZN (qq hF.1)), (Q3 (hF.2.1 w (agree.refl _ _)) 0).2.1, trivial⟩ ht18)) <|
 .cons [26] (Xi [999999] (fun u16 => [gk]) 41 _ _ 26 (fun u16 w hF => Xh.calls t17 t18  t19 w  (Yc hF.1) ht19)) <|
 .cons [27] (qo 82 _ _ 27 [] (fun u16 w _ => Xx.calls (⟨x11, x12⟩ : qa) t19  t20 w  ht20)) <|
 .cons [36] (QV 36 0 ((u2 5).n 0) [vI x11, vI x12] [vI t20.Lo, vI t20.Hi] 48 [vI t20.Lo, vI t20.Hi]) <| .nil) [0, 1, 2, 6, 7, 8, 30, 31, 34, 35, 36, 29, 32, 33, 999999] fun u16 a w' H => ?_
    refine qN qd H (.v 17 (vI x13) <|
 .v 18 (vI (qe (x13 + 1))) <|
 .v 8 (vI (qe (x13 + 1))) <| .nil) [0, 1, 2, 6, 7, 8, 30, 31, 34, 35, 36, 29, 32, 33, 999999] fun u21 a w' H => ?_
    exact ⟨k, Nat.lt_succ_self k, _, _, _, G, H.toM _⟩
   ·rw [if_neg (nt c22)] at G
    refine QO rfl ?_
    obtain rfl := sj G
    exact H.toM _
theorem XA.calls (k0 : Nat) (a0 : List (List qa)) (a1 : List qa) (p_a0 : Option Addr) (c_a0 : Nat) (L_a0 : List (Sl qa)) (p_a1 : Option Addr) (c_a1 : Nat) (r : List qa) (w : World) (h_a0 : a0 = L_a0.map Sl.l) (hB : Yj [Qh qi 1 p_a0 c_a0 L_a0 ql, QA qi qc.toPart L_a0, Qh qi 2 p_a1 c_a1 a1 qb, gk] w) (G : XA k0 a0 a1 = some r) :
  Calls Tryz.prog 16 #[.slice p_a0 L_a0.length c_a0, .slice p_a1 a1.length c_a1] w fun e w' => ∃ g : Gh, e = .returned (.slice (g.o 0) r.length (g.n 0)) ∧ Y7 (YT []) w w' ∧ YD w.heap.size (YT []) (JG w.heap.size []) [fun _ => QU 48 2 (g.o 0) (g.n 0) r qb] w' := by
 obtain ⟨fr, hfr, hBf⟩ := J4 w []
 refine QQ (args := [.slice p_a0 L_a0.length c_a0, .slice p_a1 a1.length c_a1]) 22 [(22, Qh qi 1 p_a0 c_a0 L_a0 ql), (23, QA qi qc.toPart L_a0), (24, Qh qi 2 p_a1 c_a1 a1 qb), (999999, gk)] (by
  intro x hx
  simp only [List.mem_cons, List.not_mem_nil, or_false] at hx
  rcases hx with rfl | rfl | rfl | rfl
  ·exact Ql (qq hB.1) (fun _ _ => trivial) (by decide) _
  ·exact Xt (Qb hB.2.1) (fun _ _ => trivial) _
  ·exact Ql (qq hB.2.2.1) (fun _ _ => trivial) (by decide) _
  ·exact ⟨⟨_, _, rfl⟩, hB.2.2.2.1, ZV (Yc hB.2.2.2.1)⟩) Tryz.func16 rfl (by kernel_rfl) (by kernel_rfl) fun a H => ?_
 unfold XA at G
 refine qg qd H (.cons [2, 25] (qH (fun b => vP b 0) (fun u1 => [.slice p_a0 L_a0.length c_a0]) 25 2 25) <|
 .cons [3, 26] (qH (fun b => vP b 0) (fun u1 => [.slice p_a1 a1.length c_a1]) 22 3 26) <|
 .v 4 (.slice none 0 0) <| .nil) [2, 3, 22, 23, 24, 25, 26, 999999] fun u1 a w' H => ?_
 refine qg qd H (.v 5 (.slice none 0 0) <| .nil) [2, 3, 5, 22, 23, 24, 25, 26, 999999] fun u2 a w' H => ?_
 refine qs ?_
 obtain ⟨j4, hj4, G⟩ := qP G
 refine Qw (fun a w' => ∃ (p_j3 : Option Addr) (c_j3 np_j3 : Nat), np_j3 = j4.length ∧ RL w 22 [(5, sS p_j3 np_j3 c_j3), (900048, Yo 48 2 p_j3 np_j3 c_j3 (j4.flatMap qb)), (999999, gk)] a w') ?_ ?_
 ·clear H; rintro a w' ⟨p_j3, c_j3, _, rfl, H⟩
  refine qg qd H (.v 21 (.slice p_j3 j4.length c_j3) <|
 .v 4 (.slice p_j3 j4.length c_j3) <| .nil) [4, 900048, 999999] fun u5 a w' H => ?_
  refine q7 ?_
  obtain rfl := sj G
  obtain ⟨g, o0, n0⟩ := VI p_j3 c_j3
  refine Xo H _ g _ _ _ fr [900048] [] (.slice p_j3 j4.length c_j3) [fun _ => QU 48 2 p_j3 c_j3 j4 qb] (by simp only [QU, o0, n0]) (by simp only [QU, o0, n0]) hfr (.inl ⟨rfl, rfl⟩) (qx X2 qI) (by simp)
 ·clear G; replace G := hj4; clear hj4
  refine qg qd H (.cons [7] (qv (.slice p_a0 L_a0.length c_a0) 7 25 0 1 ((u1 0).n 0) [.slice p_a0 L_a0.length c_a0] 25) <|
 .cons [8] (qy 22 (Qh qi 1 p_a0 c_a0 L_a0 ql) (vI (a0.length : Int)) 8 fun _ w h => Q7 (((qq h).2.len qk (by decide)).trans (qD h_a0).symm) (by kernel_rfl)) <|
 .v 9 (vI 0) <| .nil) [2, 3, 5, 8, 9, 22, 23, 24, 25, 26, 999999] fun u6 a w' H => ?_
  refine qA ?_
  replace H := H.nil_row 31 48 2
  replace H := H.move (K := Yo 48 2 none 0 0 (([] : List qa).flatMap qb)) 31 900049 (by kernel_rfl) (by intro _ _ h; cases h)
  refine Qv (fun m a w' => ∃ x7 : List qa, ∃ x8 : Int, XA.l9 k0 a0 a1 m x7 x8 = some j4 ∧ ∃ (p_x7 : Option Addr) (c_x7 np_x7 : Nat), np_x7 = x7.length ∧ RL w 22 [(2, (sP ((u1 0).n 0) 0)), (3, (sP ((u1 1).n 0) 0)), (5, sS p_x7 np_x7 c_x7), (8, (sI (a0.length : Int))), (9, sI x8), (22, Qh qi 1 p_a0 c_a0 L_a0 ql), (23, QA qi qc.toPart L_a0), (24, Qh qi 2 p_a1 c_a1 a1 qb), (25, .blk ((u1 0).n 0) [.slice p_a0 L_a0.length c_a0] 25), (26, .blk ((u1 1).n 0) [.slice p_a1 a1.length c_a1] 22), (900049, Yo 48 2 p_x7 np_x7 c_x7 (x7.flatMap qb)), (999999, gk)] a w') k0 ⟨_, _, G, none, 0, 0, rfl, H.toM _⟩ ?_
  clear G H
  rintro (_ | k) a w' ⟨x7, x8, G, p_x7, c_x7, _, rfl, H⟩
  ·exact absurd G (by unfold XA.l9; exact fun h => by cases h)
  ·unfold XA.l9 at G
   refine qg qd H (.v 10 (.bool (decide (x8 < (a0.length : Int)))) <| .nil) [2, 3, 5, 8, 9, 10, 22, 23, 24, 25, 26, 900049, 999999] fun u10 a w' H => ?_
   refine qs ?_
   refine Qr H (decide (x8 < (a0.length : Int))) (fun c16 => ?_) fun c16 => ?_
   ·rw [if_pos c16] at G
    refine qT ?_
    refine qs ?_
    refine qA ?_
    refine qg qd H (.v 11 (vI x8) <|
 .cons [6, 27] (qH (fun b => vP b 0) (fun u11 => [vI 0]) 3 6 27) <|
 .cons [27] (XO (u' := fun u11 => [(27, .blk ((u11 1).n 0) [vI x8] 3)]) (X1 27 0 (fun u11 => ((u11 1).n 0)) (fun u11 => [vI 0]) (fun u11 => [vI x8]) 3) (fun _ => by kernel_rfl)) <| .nil) [2, 3, 5, 6, 8, 9, 22, 23, 24, 25, 26, 27, 900049, 999999] fun u11 a w' H => ?_
    obtain ⟨t13, ht13, G⟩ := qP G
    replace G := gd G; obtain ⟨b14, G⟩ := G
    refine qN qd H (.v 12 (.slice p_x7 x7.length c_x7) <|
 .cons [13] (qv (.slice p_a0 L_a0.length c_a0) 13 25 0 1 ((u1 0).n 0) [.slice p_a0 L_a0.length c_a0] 25) <|
 .cons [14] (qy 22 (Qh qi 1 p_a0 c_a0 L_a0 ql) (vI (a0.length : Int)) 14 fun _ w h => Q7 (((qq h).2.len qk (by decide)).trans (qD h_a0).symm) (by kernel_rfl)) <|
 .v 15 (.func (.func 52) #[] #[vP ((u1 0).n 0) 0, vP ((u11 1).n 0) 0]) <|
 .v 16 (.func (.func 53) #[] #[vP ((u1 1).n 0) 0]) <|
 .cons [17] (Xi [22, 23, 25, 27, 24, 26, 999999] (fun u12 => [Qh qi 1 p_a0 c_a0 L_a0 ql, QA qi qc.toPart L_a0, .blk ((u1 0).n 0) [.slice p_a0 L_a0.length c_a0] 25, .blk ((u11 1).n 0) [vI x8] 3, Qh qi 2 p_a1 c_a1 a1 qb, .blk ((u1 1).n 0) [.slice p_a1 a1.length c_a1] 22, gk]) 49 _ _ 17 (fun u12 w hF => Q0.calls k0 (a0.length : Int) a0 x8 a1 ((u1 0).n 0) p_a0 c_a0 L_a0 ((u11 1).n 0) ((u1 1).n 0) p_a1 c_a1 t13 w h_a0 ⟨(ZN (qq hF.1)), (JD (Qb hF.2.1)), (Q3 hF.2.2.1 0).2.1, (Q3 hF.2.2.2.1 0).2.1, (ZN (qq hF.2.2.2.2.1)), (Q3 hF.2.2.2.2.2.1 0).2.1, hF.2.2.2.2.2.2.1, trivial⟩ ht13)) <|
 .cons [18, 28] (qH (fun b => .slice (some ⟨b, 0, none⟩) 1 1) (fun u12 => [vI t13.Lo, vI t13.Hi]) 48 18 28) <|
 .cons [19, 900049, 900049] (Xs [6] [28] (fun u12 => [.blk ((u12 6).n 0) [vI t13.Lo, vI t13.Hi] 48]) 900049 (fun u12 => QU 48 2 p_x7 c_x7 x7 qb) (some 19) (fun u12 g => .slice (g.o 0) (x7 ++ [t13]).length (g.n 0)) (fun u12 g => QU 48 2 (g.o 0) (g.n 0) (x7 ++ [t13]) qb) (fun u12 w hF hK => ZB (Q8 (t := 22) (ty := 22) (en := qb) qh Jd (QN hK) hF.1 (news := [t13]) rfl (by simp) (by kernel_rfl) b14)) (hloc := fun u u' h => ⟨by first | rfl | simp only [h 6 (by decide)], by first | rfl | simp only [h 6 (by decide)], by first | rfl | simp only [h 6 (by decide)], by first | rfl | simp only [h 6 (by decide)]⟩)) <|
 .cons [5] (qp (fun u12 => .slice ((u12 7).o 0) ((x7 ++ [t13]).length) ((u12 7).n 0)) 5) <| .nil) [2, 3, 5, 8, 9, 22, 23, 24, 25, 26, 900049, 999999] fun u12 a w' H => ?_
    refine qN qd H (.v 20 (vI (qe (x8 + 1))) <|
 .v 9 (vI (qe (x8 + 1))) <| .nil) [2, 3, 5, 8, 9, 22, 23, 24, 25, 26, 900049, 999999] fun u15 a w' H => ?_
    exact ⟨k, Nat.lt_succ_self k, _, _, G, ((u12 7).o 0), ((u12 7).n 0), (x7 ++ [t13]).length, rfl, H.toM _⟩
   ·rw [if_neg (nt c16)] at G
    refine QO rfl ?_
    obtain rfl := sj G
    replace H := H.move (K := QU 48 2 p_x7 c_x7 x7 qb) 900049 900048 (by kernel_rfl) (by intro _ _ h; cases h)
    exact ⟨p_x7, c_x7, x7.length, rfl, H.toM _⟩
theorem Yn.calls (a0 : Int) (a1 : Int) (q0 : List (List qa)) (b_q0 : Nat) (p_q0 : Option Addr) (c_q0 : Nat) (L_q0 : List (Sl qa)) (r : qa) (w : World) (h_q0 : q0 = L_q0.map Sl.l) (hB : Yj [Qh qi 1 p_q0 c_q0 L_q0 ql, QA qi qc.toPart L_q0, X7 b_q0 [.slice p_q0 L_q0.length c_q0] 25] w) (G : Yn a0 a1 q0 = some r) :
  Calls Tryz.prog 56 #[vI a0, vI a1, vP b_q0 0] w fun e w' => e = .returned (.agg #[vI r.Lo, vI r.Hi]) ∧ Below w.heap.size w w' := by
 obtain ⟨fr, hfr⟩ : ∃ fr : Nat → Prop, ∀ j, fr j := ⟨fun _ => True, fun _ => trivial⟩
 have hBf : ∀ j, w.heap.size ≤ j → fr j := fun j _ => hfr j
 refine QQ (args := [vI a0, vI a1, vP b_q0 0]) 13 [(14, Qh qi 1 p_q0 c_q0 L_q0 ql), (15, QA qi qc.toPart L_q0), (13, X7 b_q0 [.slice p_q0 L_q0.length c_q0] 25)] (by
  intro x hx
  simp only [List.mem_cons, List.not_mem_nil, or_false] at hx
  rcases hx with rfl | rfl | rfl
  ·exact Ql (qq hB.1) (fun _ _ => trivial) (by decide) _
  ·exact Xt (Qb hB.2.1) (fun _ _ => trivial) _
  ·exact Q3 (hB.2.2.1 w (agree.refl _ _)) _) Tryz.func56 rfl (by kernel_rfl) (by kernel_rfl) fun a H => ?_
 unfold Yn at G
 refine qg qd H (.cons [5, 16] (qH (fun b => vP b 0) (fun u1 => [vI 0, vI 0]) 48 5 16) <| .nil) [0, 1, 2, 5, 14, 15, 16, 13] fun u1 a w' H => ?_
 refine qs ?_
 replace G := gd G; obtain ⟨b3, G⟩ := G
 obtain ⟨t4, ht4, G⟩ := qP G
 obtain ⟨p_t4, c_t4, y_t4⟩ := QE h_q0 ht4
 replace G := gd G; obtain ⟨b5, G⟩ := G
 obtain ⟨t6, ht6, G⟩ := qP G
 refine qN qd H (.cons [6] (XX (fun u2 => .slice p_q0 L_q0.length c_q0) 6 13 (X7 b_q0 [.slice p_q0 L_q0.length c_q0] 25) b_q0 0 1 [.slice p_q0 L_q0.length c_q0] (fun w h => Za h)) <|
 .v 7 (vI a1) <|
 .cons [8] (qy 14 (Qh qi 1 p_q0 c_q0 L_q0 ql) (.pointer (some ⟨XB p_q0, XC p_q0 + a1.toNat * 1, none⟩)) 8 fun _ w h => YQ 25 .i64 a1 p_q0 L_q0.length c_q0 q0 ql (qq h).2 qk (qD h_q0) b3) <|
 .cons [9] (qy 14 (Qh qi 1 p_q0 c_q0 L_q0 ql) (.slice p_t4 t4.length c_t4) 9 fun _ w h => Ya ql (qq h).2 qk y_t4 0 1 [.slice p_t4 t4.length c_t4]) <|
 .v 10 (vI a0) <|
 .cons [11] (qy 15 (QA qi qc.toPart L_q0) (.pointer (some ⟨XB p_t4, XC p_t4 + a0.toNat * 2, none⟩)) 11 fun _ w h => YQ 22 .i64 a0 p_t4 t4.length c_t4 t4 qb (show Xv _ 2 p_t4 t4.length c_t4 (t4.flatMap qb) from ((Qb h) _ (List.mem_of_getElem? y_t4)).1).2 qh rfl b5) <|
 .cons [12] (qy 15 (QA qi qc.toPart L_q0) (.agg #[vI t6.Lo, vI t6.Hi]) 12 fun _ w h => Ya qb (show Xv _ 2 p_t4 t4.length c_t4 (t4.flatMap qb) from ((Qb h) _ (List.mem_of_getElem? y_t4)).1).2 qh ht6 0 2 [vI t6.Lo, vI t6.Hi]) <|
 .cons [16] (QV 16 0 ((u1 0).n 0) [vI 0, vI 0] [vI t6.Lo, vI t6.Hi] 48 [vI t6.Lo, vI t6.Hi]) <| .nil) [5, 14, 15, 16, 13] fun u2 a w' H => ?_
 refine q7 ?_
 obtain rfl := sj G
 exact Xe H _ 16 ((u1 0).n 0) [vI t6.Lo, vI t6.Hi] 48 0 2 (by kernel_rfl) (by kernel_rfl) (by kernel_rfl) (by kernel_rfl)
theorem Qf.calls (k0 : Nat) (a0 : Int) (a1_0 : List (List qa)) (b_a1_0 : Nat) (p_a1_0 : Option Addr) (c_a1_0 : Nat) (L_a1_0 : List (Sl qa)) (r : List (List qa)) (w : World) (h_a1_0 : a1_0 = L_a1_0.map Sl.l) (hB : Yj [Qh qi 1 p_a1_0 c_a1_0 L_a1_0 ql, QA qi qc.toPart L_a1_0, X7 b_a1_0 [.slice p_a1_0 L_a1_0.length c_a1_0] 25] w) (G : Qf k0 a0 a1_0 = some r) :
  Calls Tryz.prog 47 #[vI a0, .func (.func 56) #[] #[vP b_a1_0 0]] w fun e w' => ∃ g : Gh, e = .returned (slgd_S_TInterval g 0 r) ∧ Y7 (YT []) w w' ∧ YD w.heap.size (YT []) (JG w.heap.size []) [fun _ => ns_en_TIntervalg g 0 r] w' := by
 obtain ⟨fr, hfr, hBf⟩ := J4 w []
 refine QQ (args := [vI a0, .func (.func 56) #[] #[vP b_a1_0 0]]) 34 [(35, Qh qi 1 p_a1_0 c_a1_0 L_a1_0 ql), (36, QA qi qc.toPart L_a1_0), (34, X7 b_a1_0 [.slice p_a1_0 L_a1_0.length c_a1_0] 25)] (by
  intro x hx
  simp only [List.mem_cons, List.not_mem_nil, or_false] at hx
  rcases hx with rfl | rfl | rfl
  ·exact Ql (qq hB.1) (fun _ _ => trivial) (by decide) _
  ·exact Xt (Qb hB.2.1) (fun _ _ => trivial) _
  ·exact Q3 (hB.2.2.1 w (agree.refl _ _)) _) Tryz.func47 rfl (by kernel_rfl) (by kernel_rfl) fun a H => ?_
 unfold Qf at G
 refine qg qd H (.v 4 (.slice none 0 0) <| .nil) [0, 1, 35, 36, 34] fun u1 a w' H => ?_
 refine qs ?_
 replace G := gd G; obtain ⟨b3, G⟩ := G
 refine qN qd H (.v 8 (vI a0) <|
 .cons [9, 37] (Ju 48 2 qb (Zl [] (fun u2 => []) 22 1 (List.replicate a0.toNat (⟨none, 0, []⟩ : Sl qa)).length ((List.replicate a0.toNat (⟨none, 0, []⟩ : Sl qa)).flatMap ql) 9 37 (fun _ => .none) (fun u2 w hF => YG (t := 25) (k := .i64) (m := a0) (en := ql) (z := (⟨none, 0, []⟩ : Sl qa)) qk J2 rfl b3 (by kernel_rfl)) (fun _ => .inl rfl)) Jt) <|
 .cons [5] (qp (fun u2 => .slice ((u2 1).o 0) ((List.replicate a0.toNat (⟨none, 0, []⟩ : Sl qa)).length) ((u2 1).n 0)) 5) <| .nil) [0, 1, 5, 35, 36, 37, 34] fun u2 a w' H => ?_
 refine qs ?_
 obtain ⟨j5, hj5, G⟩ := qP G
 refine Qw (fun a w' => ∃ (p_j4 : Option Addr) (c_j4 np_j4 : Nat) (L_j4 : List (Sl qa)), np_j4 = L_j4.length ∧ j5 = L_j4.map Sl.l ∧ RL w 34 [(5, sS p_j4 np_j4 c_j4), (35, Qh qi 1 p_a1_0 c_a1_0 L_a1_0 ql), (36, QA qi qc.toPart L_a1_0), (900050, qj p_j4 np_j4 c_j4 L_j4), (34, X7 b_a1_0 [.slice p_a1_0 L_a1_0.length c_a1_0] 25)] a w') ?_ ?_
 ·clear H; rintro a w' ⟨p_j4, c_j4, _, L_j4, rfl, h_j4, H⟩
  refine qg qd H (.v 33 (.slice p_j4 L_j4.length c_j4) <|
 .v 4 (.slice p_j4 L_j4.length c_j4) <| .nil) [4, 35, 36, 900050, 34] fun u6 a w' H => ?_
  refine q7 ?_
  obtain rfl := sj G
  obtain ⟨g, o0, n0, d0⟩ := ZQ QS p_j4 c_j4 h_j4
  refine Xo H _ g _ _ _ fr [900050] [] (.slice p_j4 L_j4.length c_j4) [fun _ => qf p_j4 c_j4 L_j4] (by simp only [slgd_S_TInterval, dlgd_S_TInterval, ns_en_TIntervalg, qf, qj, QU, o0, n0, d0]) (by simp only [slgd_S_TInterval, dlgd_S_TInterval, ns_en_TIntervalg, qf, qj, QU, o0, n0, d0]) hfr (.inl ⟨rfl, rfl⟩) (qx QZ qI) (by simp)
 ·clear G; replace G := hj5; clear hj5
  refine qg qd H (.v 10 (vI a0) <|
 .v 11 (vI 0) <| .nil) [0, 1, 5, 10, 11, 35, 36, 37, 34] fun u7 a w' H => ?_
  refine qA ?_
  replace H := H.move (K := qf ((u2 1).o 0) ((u2 1).n 0) (List.replicate a0.toNat (⟨none, 0, []⟩ : Sl qa))) 37 900052 (by kernel_rfl) (by intro _ _ h; cases h)
  refine Qv (fun m a w' => ∃ x8 : List (List qa), ∃ x9 : Int, Qf.l10 k0 a0 a1_0 m x8 x9 = some j5 ∧ ∃ (p_x8 : Option Addr) (c_x8 np_x8 : Nat) (L_x8 : List (Sl qa)), np_x8 = L_x8.length ∧ x8 = L_x8.map Sl.l ∧ RL w 34 [(0, sI a0), (1, .slot true (.func (.func 56) #[] #[vP b_a1_0 0])), (5, sS p_x8 np_x8 c_x8), (10, sI a0), (11, sI x9), (35, Qh qi 1 p_a1_0 c_a1_0 L_a1_0 ql), (36, QA qi qc.toPart L_a1_0), (900052, qj p_x8 np_x8 c_x8 L_x8), (34, X7 b_a1_0 [.slice p_a1_0 L_a1_0.length c_a1_0] 25)] a w') k0 ⟨_, _, G, ((u2 1).o 0), ((u2 1).n 0), (List.replicate a0.toNat (⟨none, 0, []⟩ : Sl qa)).length, (List.replicate a0.toNat (⟨none, 0, []⟩ : Sl qa)), rfl, (Jr a0.toNat (⟨none, 0, []⟩ : Sl qa)), H.toM _⟩ ?_
  clear G H
  rintro (_ | k) a w' ⟨x8, x9, G, p_x8, c_x8, _, L_x8, rfl, h_x8, H⟩
  ·exact absurd G (by unfold Qf.l10; exact fun h => by cases h)
  ·unfold Qf.l10 at G
   refine qg qd H (.v 12 (.bool (decide (x9 < a0))) <| .nil) [0, 1, 5, 10, 11, 12, 35, 36, 900052, 34] fun u11 a w' H => ?_
   refine qs ?_
   refine Qr H (decide (x9 < a0)) (fun c32 => ?_) fun c32 => ?_
   ·rw [if_pos c32] at G
    refine qT ?_
    refine qs ?_
    obtain ⟨j13, hj13, G⟩ := qP G
    refine Qw (fun a w' => ∃ (p_j12 : Option Addr) (c_j12 np_j12 : Nat) (L_j12 : List (Sl qa)), np_j12 = L_j12.length ∧ j13 = L_j12.map Sl.l ∧ RL w 34 [(0, sI a0), (1, .slot true (.func (.func 56) #[] #[vP b_a1_0 0])), (5, sS p_j12 np_j12 c_j12), (10, sI a0), (11, sI x9), (35, Qh qi 1 p_a1_0 c_a1_0 L_a1_0 ql), (36, QA qi qc.toPart L_a1_0), (900054, qj p_j12 np_j12 c_j12 L_j12), (34, X7 b_a1_0 [.slice p_a1_0 L_a1_0.length c_a1_0] 25)] a w') ?_ ?_
    ·clear H; rintro a w' ⟨p_j12, c_j12, _, L_j12, rfl, h_j12, H⟩
     refine qN qd H (.v 32 (vI (qe (x9 + 1))) <|
 .v 11 (vI (qe (x9 + 1))) <| .nil) [0, 1, 5, 10, 11, 35, 36, 900054, 34] fun u14 a w' H => ?_
     replace H := H.move (K := qf p_j12 c_j12 L_j12) 900054 900052 (by kernel_rfl) (by intro _ _ h; cases h)
     exact ⟨k, Nat.lt_succ_self k, _, _, G, p_j12, c_j12, L_j12.length, L_j12, rfl, h_j12, H.toM _⟩
    ·clear G; replace G := hj13; clear hj13
     refine qA ?_
     refine qg qd H (.v 13 (vI x9) <|
 .v 6 (vI x9) <| .nil) [0, 1, 5, 6, 10, 11, 35, 36, 900052, 34] fun u15 a w' H => ?_
     refine qg qd H (.v 14 (vI a0) <|
 .v 15 (vI 0) <| .nil) [0, 1, 5, 6, 10, 11, 14, 15, 35, 36, 900052, 34] fun u16 a w' H => ?_
     refine qA ?_
     replace H := H.move (K := qf p_x8 c_x8 L_x8) 900052 900056 (by kernel_rfl) (by intro _ _ h; cases h)
     refine Qv (fun m a w' => ∃ x17 : List (List qa), ∃ x18 : Int, Qf.l19 k0 a0 a1_0 x8 x9 m x17 x18 = some j13 ∧ ∃ (p_x17 : Option Addr) (c_x17 np_x17 : Nat) (L_x17 : List (Sl qa)), np_x17 = L_x17.length ∧ x17 = L_x17.map Sl.l ∧ RL w 34 [(0, sI a0), (1, .slot true (.func (.func 56) #[] #[vP b_a1_0 0])), (5, sS p_x17 np_x17 c_x17), (6, sI x9), (10, sI a0), (11, sI x9), (14, sI a0), (15, sI x18), (35, Qh qi 1 p_a1_0 c_a1_0 L_a1_0 ql), (36, QA qi qc.toPart L_a1_0), (900056, qj p_x17 np_x17 c_x17 L_x17), (34, X7 b_a1_0 [.slice p_a1_0 L_a1_0.length c_a1_0] 25)] a w') k0 ⟨_, _, G, p_x8, c_x8, L_x8.length, L_x8, rfl, h_x8, H.toM _⟩ ?_
     clear G H
     rintro (_ | k) a w' ⟨x17, x18, G, p_x17, c_x17, _, L_x17, rfl, h_x17, H⟩
     ·exact absurd G (by unfold Qf.l19; exact fun h => by cases h)
     ·unfold Qf.l19 at G
      refine qg qd H (.v 16 (.bool (decide (x18 < a0))) <| .nil) [0, 1, 5, 6, 10, 11, 14, 15, 16, 35, 36, 900056, 34] fun u20 a w' H => ?_
      refine qs ?_
      refine Qr H (decide (x18 < a0)) (fun c31 => ?_) fun c31 => ?_
      ·rw [if_pos c31] at G
       refine qT ?_
       refine qs ?_
       refine qA ?_
       refine qg qd H (.v 17 (vI x18) <|
 .v 7 (vI x18) <| .nil) [0, 1, 5, 6, 7, 10, 11, 14, 15, 35, 36, 900056, 34] fun u21 a w' H => ?_
       replace G := gd G; obtain ⟨b23, G⟩ := G
       obtain ⟨t24, ht24, G⟩ := qP G
       obtain ⟨p_t24, c_t24, y_t24⟩ := QE h_x17 ht24
       have P25 := XT (en := ql) (l := L_x17) (qQ (H.at (K := qf p_x17 c_x17 L_x17) 900056 (by kernel_rfl))).row.2 qk
       obtain ⟨t26, ht26, G⟩ := qP G
       replace G := gd G; obtain ⟨b27, G⟩ := G
       replace G := gd G; obtain ⟨b28, G⟩ := G
       obtain ⟨t29, ht29, G⟩ := qP G
       obtain ⟨p_t29, c_t29, y_t29⟩ := QE h_x17 ht29
       refine qN qd H (.v 18 (.slice p_x17 L_x17.length c_x17) <|
 .v 19 (vI x9) <|
 .v 20 (.slice p_x17 L_x17.length c_x17) <|
 .v 21 (vI x9) <|
 .cons [22] (qp (fun u22 => .pointer (some ⟨XB p_x17, XC p_x17 + x9.toNat * 1, none⟩)) 22 (hv := fun _ _ => QH (t := 25) (k := .i64) (i := x9) (p := p_x17) (n := L_x17.length) (cap := c_x17) (x := x17) P25 (qD h_x17) b23 (by kernel_rfl))) <|
 .cons [23] (qy 900056 (qf p_x17 c_x17 L_x17) (.slice p_t24 t24.length c_t24) 23 fun _ w h => Ya ql (qQ h).row.2 qk y_t24 0 1 [.slice p_t24 t24.length c_t24]) <|
 .v 24 (.func (.func 56) #[] #[vP b_a1_0 0]) <|
 .v 25 (vI x9) <|
 .v 26 (vI x18) <|
 .cons [27] (Xi [35, 36, 34] (fun u22 => [Qh qi 1 p_a1_0 c_a1_0 L_a1_0 ql, QA qi qc.toPart L_a1_0, X7 b_a1_0 [.slice p_a1_0 L_a1_0.length c_a1_0] 25]) 56 _ _ 27 (fun u22 w hF => Yn.calls x9 x18 a1_0 b_a1_0 p_a1_0 c_a1_0 L_a1_0 t26 w h_a1_0 ⟨(ZN (qq hF.1)), (JD (Qb hF.2.1)), (Q3 (hF.2.2.1 w (agree.refl _ _)) 0).2.1, trivial⟩ ht26)) <|
 .cons [28, 40] (qH (fun b => .slice (some ⟨b, 0, none⟩) 1 1) (fun u22 => [vI t26.Lo, vI t26.Hi]) 48 28 40) <|
 .cons [29, 900056, 900056] (Xs [10] [40] (fun u22 => [.blk ((u22 10).n 0) [vI t26.Lo, vI t26.Hi] 48]) 900056 (fun u22 => qf p_x17 c_x17 L_x17) (some 29) (fun u22 g => .slice (g.o 0) (t24 ++ [t26]).length (g.n 0)) (fun u22 g => ZC 22 48 2 qb p_x17 L_x17.length c_x17 L_x17 (L_x17.set x9.toNat (⟨(g.o 0), (g.n 0), (t24 ++ [t26])⟩ : Sl qa))) (fun u22 w hF hK => Wm hK y_t24 (l' := (t24 ++ [t26])) (fun h => Q8 (t := 22) (ty := 22) (en := qb) qh Jd h hF.1 (news := [t26]) rfl (by simp) (by kernel_rfl) b27)) (hloc := fun u u' h => ⟨by first | rfl | simp only [h 10 (by decide)], by first | rfl | simp only [h 10 (by decide)], by first | rfl | simp only [h 10 (by decide)], by first | rfl | simp only [h 10 (by decide)]⟩)) <|
 .cons [30] (qp (fun u22 => .pointer (some ⟨XB p_x17, XC p_x17 + x9.toNat * 1, none⟩)) 30 (hv := fun _ _ => QH (t := 25) (k := .i64) (i := x9) (p := p_x17) (n := L_x17.length) (cap := c_x17) (x := x17) P25 (qD h_x17) b28 (by kernel_rfl))) <|
 .cons [900056, 900056] (Xs [11] [] (fun u22 => []) 900056 (fun u22 => ZC 22 48 2 qb p_x17 L_x17.length c_x17 L_x17 (L_x17.set x9.toNat (⟨((u22 11).o 0), ((u22 11).n 0), (t24 ++ [t26])⟩ : Sl qa))) none (fun u22 g => .nilFunc) (fun u22 g => qj p_x17 L_x17.length c_x17 (L_x17.set x9.toNat (⟨((u22 11).o 0), ((u22 11).n 0), (t24 ++ [t26])⟩ : Sl qa))) (fun u22 w hF hK => WB hK (fun h => XP (en := ql) h qk (y := (⟨((u22 11).o 0), ((u22 11).n 0), (t24 ++ [t26])⟩ : Sl qa)) (vs := [.slice ((u22 11).o 0) ((t24 ++ [t26]).length) ((u22 11).n 0)]) y_t29 0 (by simp) (by simp) rfl (by kernel_rfl))) (hloc := fun u u' h => ⟨by first | rfl | simp only [h 11 (by decide)], by first | rfl | simp only [h 11 (by decide)], by first | rfl | simp only [h 11 (by decide)], by first | rfl | simp only [h 11 (by decide)]⟩)) <| .nil) [0, 1, 5, 6, 10, 11, 14, 15, 35, 36, 900056, 34] fun u22 a w' H => ?_
       refine qN qd H (.v 31 (vI (qe (x18 + 1))) <|
 .v 15 (vI (qe (x18 + 1))) <| .nil) [0, 1, 5, 6, 10, 11, 14, 15, 35, 36, 900056, 34] fun u30 a w' H => ?_
       exact ⟨k, Nat.lt_succ_self k, _, _, G, p_x17, c_x17, L_x17.length, (L_x17.set x9.toNat (⟨((u22 11).o 0), ((u22 11).n 0), (t24 ++ [t26])⟩ : Sl qa)), by simp, (map_set h_x17 x9.toNat (⟨((u22 11).o 0), ((u22 11).n 0), (t24 ++ [t26])⟩ : Sl qa)), H.toM _⟩
      ·rw [if_neg (nt c31)] at G
       refine QO rfl ?_
       obtain rfl := sj G
       replace H := H.move (K := qf p_x17 c_x17 L_x17) 900056 900054 (by kernel_rfl) (by intro _ _ h; cases h)
       exact ⟨p_x17, c_x17, L_x17.length, L_x17, rfl, h_x17, H.toM _⟩
   ·rw [if_neg (nt c32)] at G
    refine QO rfl ?_
    obtain rfl := sj G
    replace H := H.move (K := qf p_x8 c_x8 L_x8) 900052 900050 (by kernel_rfl) (by intro _ _ h; cases h)
    exact ⟨p_x8, c_x8, L_x8.length, L_x8, rfl, h_x8, H.toM _⟩
theorem Yq.calls (k0 : Nat) (a0 : List (List qa)) (p_a0 : Option Addr) (c_a0 : Nat) (L_a0 : List (Sl qa)) (r : List (List qa)) (w : World) (h_a0 : a0 = L_a0.map Sl.l) (hB : Yj [Qh qi 1 p_a0 c_a0 L_a0 ql, QA qi qc.toPart L_a0] w) (G : Yq k0 a0 = some r) :
  Calls Tryz.prog 18 #[.slice p_a0 L_a0.length c_a0] w fun e w' => ∃ g : Gh, e = .returned (slgd_S_TInterval g 0 r) ∧ Y7 (YT []) w w' ∧ YD w.heap.size (YT []) (JG w.heap.size []) [fun _ => ns_en_TIntervalg g 0 r] w' := by
 obtain ⟨fr, hfr, hBf⟩ := J4 w []
 refine QQ (args := [.slice p_a0 L_a0.length c_a0]) 7 [(7, Qh qi 1 p_a0 c_a0 L_a0 ql), (8, QA qi qc.toPart L_a0)] (by
  intro x hx
  simp only [List.mem_cons, List.not_mem_nil, or_false] at hx
  rcases hx with rfl | rfl
  ·exact Ql (qq hB.1) (fun _ _ => trivial) (by decide) _
  ·exact Xt (Qb hB.2.1) (fun _ _ => trivial) _) Tryz.func18 rfl (by kernel_rfl) (by kernel_rfl) fun a H => ?_
 unfold Yq at G
 refine qg qd H (.cons [1, 9] (qH (fun b => vP b 0) (fun u1 => [.slice p_a0 L_a0.length c_a0]) 25 1 9) <|
 .v 2 (.slice none 0 0) <| .nil) [1, 7, 8, 9] fun u1 a w' H => ?_
 obtain ⟨t3, ht3, G⟩ := qP G
 refine qg qd H (.cons [3] (qv (.slice p_a0 L_a0.length c_a0) 3 9 0 1 ((u1 0).n 0) [.slice p_a0 L_a0.length c_a0] 25) <|
 .cons [4] (qy 7 (Qh qi 1 p_a0 c_a0 L_a0 ql) (vI (a0.length : Int)) 4 fun _ w h => Q7 (((qq h).2.len qk (by decide)).trans (qD h_a0).symm) (by kernel_rfl)) <|
 .v 5 (.func (.func 56) #[] #[vP ((u1 0).n 0) 0]) <|
 .cons [6, 10] (Qo false fr [] [7, 8, 9] (fun u2 => [Qh qi 1 p_a0 c_a0 L_a0 ql, QA qi qc.toPart L_a0, .blk ((u1 0).n 0) [.slice p_a0 L_a0.length c_a0] 25]) [] (fun u2 => []) 47 _ _ _ _ _ [10] 6 (fun u2 w hB hF hM => Qf.calls k0 (a0.length : Int) a0 ((u1 0).n 0) p_a0 c_a0 L_a0 t3 w h_a0 hB ht3) (fun u2 w hF => ⟨⟨QP (qq hF.1) (fun j h => ⟨_, (.head _), h⟩), Xk (Qb hF.2.1) (fun j h => ⟨_, (.tail _ (.head _)), h⟩), VH hF.2.2.1 (.tail _ (.tail _ (.head _))) rfl, trivial⟩, trivial⟩) (fun u2 g => (qx QZ qI)) (.inr (fun u2 g => (Qj trivial (fun K h => by cases h)))) (fun h => by cases h)) <|
 .cons [2] (qp (fun u2 => slgd_S_TInterval (u2 3) 0 t3) 2) <| .nil) [2, 10] fun u2 a w' H => ?_
 refine q7 ?_
 obtain rfl := sj G
 obtain ⟨g, o0, n0, d0⟩ := ZQ QS ((u2 3).o 0) ((u2 3).n 0) (Xc qC (u2 3) 0 t3)
 refine Xo H _ g _ _ _ fr [10] [] (slgd_S_TInterval (u2 3) 0 t3) [fun _ => ns_en_TIntervalg (u2 3) 0 t3] (by simp only [slgd_S_TInterval, dlgd_S_TInterval, ns_en_TIntervalg, qf, qj, QU, o0, n0, d0]) (by simp only [slgd_S_TInterval, dlgd_S_TInterval, ns_en_TIntervalg, qf, qj, QU, o0, n0, d0]) hfr (.inl ⟨rfl, rfl⟩) (qx QZ qI) (by simp)
theorem X9.calls (a0 : Int) (a1 : Int) (q0 : List (List Int)) (b_q0 : Nat) (p_q0 : Option Addr) (c_q0 : Nat) (L_q0 : List (Sl Int)) (r : qa) (w : World) (h_q0 : q0 = L_q0.map Sl.l) (hB : Yj [Qh qi 1 p_q0 c_q0 L_q0 ql, QA qi Qp.toPart L_q0, X7 b_q0 [.slice p_q0 L_q0.length c_q0] 31] w) (G : X9 a0 a1 q0 = some r) :
  Calls Tryz.prog 57 #[vI a0, vI a1, vP b_q0 0] w fun e w' => e = .returned (.agg #[vI r.Lo, vI r.Hi]) ∧ Below w.heap.size w w' := by
 obtain ⟨fr, hfr⟩ : ∃ fr : Nat → Prop, ∀ j, fr j := ⟨fun _ => True, fun _ => trivial⟩
 have hBf : ∀ j, w.heap.size ≤ j → fr j := fun j _ => hfr j
 refine QQ (args := [vI a0, vI a1, vP b_q0 0]) 14 [(15, Qh qi 1 p_q0 c_q0 L_q0 ql), (16, QA qi Qp.toPart L_q0), (14, X7 b_q0 [.slice p_q0 L_q0.length c_q0] 31)] (by
  intro x hx
  simp only [List.mem_cons, List.not_mem_nil, or_false] at hx
  rcases hx with rfl | rfl | rfl
  ·exact Ql (qq hB.1) (fun _ _ => trivial) (by decide) _
  ·exact Xt (Qb hB.2.1) (fun _ _ => trivial) _
  ·exact Q3 (hB.2.2.1 w (agree.refl _ _)) _) Tryz.func57 rfl (by kernel_rfl) (by kernel_rfl) fun a H => ?_
 unfold X9 at G
 refine qg qd H (.cons [5, 17] (qH (fun b => vP b 0) (fun u1 => [vI 0, vI 0]) 48 5 17) <| .nil) [0, 1, 2, 5, 15, 16, 17, 14] fun u1 a w' H => ?_
 refine qs ?_
 replace G := gd G; obtain ⟨b3, G⟩ := G
 obtain ⟨t4, ht4, G⟩ := qP G
 obtain ⟨p_t4, c_t4, y_t4⟩ := QE h_q0 ht4
 replace G := gd G; obtain ⟨b5, G⟩ := G
 obtain ⟨t6, ht6, G⟩ := qP G
 obtain ⟨t7, ht7, G⟩ := qP G
 refine qN qd H (.cons [6] (XX (fun u2 => .slice p_q0 L_q0.length c_q0) 6 14 (X7 b_q0 [.slice p_q0 L_q0.length c_q0] 31) b_q0 0 1 [.slice p_q0 L_q0.length c_q0] (fun w h => Za h)) <|
 .v 7 (vI a0) <|
 .cons [8] (qy 15 (Qh qi 1 p_q0 c_q0 L_q0 ql) (.pointer (some ⟨XB p_q0, XC p_q0 + a0.toNat * 1, none⟩)) 8 fun _ w h => YQ 31 .i64 a0 p_q0 L_q0.length c_q0 q0 ql (qq h).2 qk (qD h_q0) b3) <|
 .cons [9] (qy 15 (Qh qi 1 p_q0 c_q0 L_q0 ql) (.slice p_t4 t4.length c_t4) 9 fun _ w h => Ya ql (qq h).2 qk y_t4 0 1 [.slice p_t4 t4.length c_t4]) <|
 .v 10 (vI a1) <|
 .cons [11] (qy 16 (QA qi Qp.toPart L_q0) (.pointer (some ⟨XB p_t4, XC p_t4 + a1.toNat * 1, none⟩)) 11 fun _ w h => YQ 26 .i64 a1 p_t4 t4.length c_t4 t4 qB (show Xv _ 1 p_t4 t4.length c_t4 (t4.flatMap qB) from ((Qb h) _ (List.mem_of_getElem? y_t4)).1).2 q8 rfl b5) <|
 .cons [12] (qy 16 (QA qi Qp.toPart L_q0) (vI t6) 12 fun _ w h => Ya qB (show Xv _ 1 p_t4 t4.length c_t4 (t4.flatMap qB) from ((Qb h) _ (List.mem_of_getElem? y_t4)).1).2 q8 ht6 0 1 [vI t6]) <|
 .cons [13] (qo 58 _ _ 13 [] (fun u2 w _ => Yl.calls t6  t7 w  ht7)) <|
 .cons [17] (QV 17 0 ((u1 0).n 0) [vI 0, vI 0] [vI t7.Lo, vI t7.Hi] 48 [vI t7.Lo, vI t7.Hi]) <| .nil) [5, 15, 16, 17, 14] fun u2 a w' H => ?_
 refine q7 ?_
 obtain rfl := sj G
 exact Xe H _ 17 ((u1 0).n 0) [vI t7.Lo, vI t7.Hi] 48 0 2 (by kernel_rfl) (by kernel_rfl) (by kernel_rfl) (by kernel_rfl)
theorem Qd.calls (k0 : Nat) (a0 : Int) (a1_0 : List (List Int)) (b_a1_0 : Nat) (p_a1_0 : Option Addr) (c_a1_0 : Nat) (L_a1_0 : List (Sl Int)) (r : List (List qa)) (w : World) (h_a1_0 : a1_0 = L_a1_0.map Sl.l) (hB : Yj [Qh qi 1 p_a1_0 c_a1_0 L_a1_0 ql, QA qi Qp.toPart L_a1_0, X7 b_a1_0 [.slice p_a1_0 L_a1_0.length c_a1_0] 31] w) (G : Qd k0 a0 a1_0 = some r) :
  Calls Tryz.prog 47 #[vI a0, .func (.func 57) #[] #[vP b_a1_0 0]] w fun e w' => ∃ g : Gh, e = .returned (slgd_S_TInterval g 0 r) ∧ Y7 (YT []) w w' ∧ YD w.heap.size (YT []) (JG w.heap.size []) [fun _ => ns_en_TIntervalg g 0 r] w' := by
 obtain ⟨fr, hfr, hBf⟩ := J4 w []
 refine QQ (args := [vI a0, .func (.func 57) #[] #[vP b_a1_0 0]]) 34 [(35, Qh qi 1 p_a1_0 c_a1_0 L_a1_0 ql), (36, QA qi Qp.toPart L_a1_0), (34, X7 b_a1_0 [.slice p_a1_0 L_a1_0.length c_a1_0] 31)] (by
  intro x hx
  simp only [List.mem_cons, List.not_mem_nil, or_false] at hx
  rcases hx with rfl | rfl | rfl
  ·exact Ql (qq hB.1) (fun _ _ => trivial) (by decide) _
  ·exact Xt (Qb hB.2.1) (fun _ _ => trivial) _
  ·exact Q3 (hB.2.2.1 w (agree.refl _ _)) _) Tryz.func47 rfl (by kernel_rfl) (by kernel_rfl) fun a H => ?_
 unfold Qd at G
 refine qg qd H (.v 4 (.slice none 0 0) <| .nil) [0, 1, 35, 36, 34] fun u1 a w' H => ?_
 refine qs ?_
 replace G := gd G; obtain ⟨b3, G⟩ := G
 refine qN qd H (.v 8 (vI a0) <|
 .cons [9, 37] (Ju 48 2 qb (Zl [] (fun u2 => []) 22 1 (List.replicate a0.toNat (⟨none, 0, []⟩ : Sl qa)).length ((List.replicate a0.toNat (⟨none, 0, []⟩ : Sl qa)).flatMap ql) 9 37 (fun _ => .none) (fun u2 w hF => YG (t := 25) (k := .i64) (m := a0) (en := ql) (z := (⟨none, 0, []⟩ : Sl qa)) qk J2 rfl b3 (by kernel_rfl)) (fun _ => .inl rfl)) Jt) <|
 .cons [5] (qp (fun u2 => .slice ((u2 1).o 0) ((List.replicate a0.toNat (⟨none, 0, []⟩ : Sl qa)).length) ((u2 1).n 0)) 5) <| .nil) [0, 1, 5, 35, 36, 37, 34] fun u2 a w' H => ?_
 refine qs ?_
 obtain ⟨j5, hj5, G⟩ := qP G
 refine Qw (fun a w' => ∃ (p_j4 : Option Addr) (c_j4 np_j4 : Nat) (L_j4 : List (Sl qa)), np_j4 = L_j4.length ∧ j5 = L_j4.map Sl.l ∧ RL w 34 [(5, sS p_j4 np_j4 c_j4), (35, Qh qi 1 p_a1_0 c_a1_0 L_a1_0 ql), (36, QA qi Qp.toPart L_a1_0), (900058, qj p_j4 np_j4 c_j4 L_j4), (34, X7 b_a1_0 [.slice p_a1_0 L_a1_0.length c_a1_0] 31)] a w') ?_ ?_
 ·clear H; rintro a w' ⟨p_j4, c_j4, _, L_j4, rfl, h_j4, H⟩
  refine qg qd H (.v 33 (.slice p_j4 L_j4.length c_j4) <|
 .v 4 (.slice p_j4 L_j4.length c_j4) <| .nil) [4, 35, 36, 900058, 34] fun u6 a w' H => ?_
  refine q7 ?_
  obtain rfl := sj G
  obtain ⟨g, o0, n0, d0⟩ := ZQ QS p_j4 c_j4 h_j4
  refine Xo H _ g _ _ _ fr [900058] [] (.slice p_j4 L_j4.length c_j4) [fun _ => qf p_j4 c_j4 L_j4] (by simp only [slgd_S_TInterval, dlgd_S_TInterval, ns_en_TIntervalg, qf, qj, QU, o0, n0, d0]) (by simp only [slgd_S_TInterval, dlgd_S_TInterval, ns_en_TIntervalg, qf, qj, QU, o0, n0, d0]) hfr (.inl ⟨rfl, rfl⟩) (qx QZ qI) (by simp)
 ·clear G; replace G := hj5; clear hj5
  refine qg qd H (.v 10 (vI a0) <|
 .v 11 (vI 0) <| .nil) [0, 1, 5, 10, 11, 35, 36, 37, 34] fun u7 a w' H => ?_
  refine qA ?_
  replace H := H.move (K := qf ((u2 1).o 0) ((u2 1).n 0) (List.replicate a0.toNat (⟨none, 0, []⟩ : Sl qa))) 37 900060 (by kernel_rfl) (by intro _ _ h; cases h)
  refine Qv (fun m a w' => ∃ x8 : List (List qa), ∃ x9 : Int, Qd.l10 k0 a0 a1_0 m x8 x9 = some j5 ∧ ∃ (p_x8 : Option Addr) (c_x8 np_x8 : Nat) (L_x8 : List (Sl qa)), np_x8 = L_x8.length ∧ x8 = L_x8.map Sl.l ∧ RL w 34 [(0, sI a0), (1, .slot true (.func (.func 57) #[] #[vP b_a1_0 0])), (5, sS p_x8 np_x8 c_x8), (10, sI a0), (11, sI x9), (35, Qh qi 1 p_a1_0 c_a1_0 L_a1_0 ql), (36, QA qi Qp.toPart L_a1_0), (900060, qj p_x8 np_x8 c_x8 L_x8), (34, X7 b_a1_0 [.slice p_a1_0 L_a1_0.length c_a1_0] 31)] a w') k0 ⟨_, _, G, ((u2 1).o 0), ((u2 1).n 0), (List.replicate a0.toNat (⟨none, 0, []⟩ : Sl qa)).length, (List.replicate a0.toNat (⟨none, 0, []⟩ : Sl qa)), rfl, (Jr a0.toNat (⟨none, 0, []⟩ : Sl qa)), H.toM _⟩ ?_
  clear G H
  rintro (_ | k) a w' ⟨x8, x9, G, p_x8, c_x8, _, L_x8, rfl, h_x8, H⟩
  ·exact absurd G (by unfold Qd.l10; exact fun h => by cases h)
  ·unfold Qd.l10 at G
   refine qg qd H (.v 12 (.bool (decide (x9 < a0))) <| .nil) [0, 1, 5, 10, 11, 12, 35, 36, 900060, 34] fun u11 a w' H => ?_
   refine qs ?_
   refine Qr H (decide (x9 < a0)) (fun c32 => ?_) fun c32 => ?_
   ·rw [if_pos c32] at G
    refine qT ?_
    refine qs ?_
    obtain ⟨j13, hj13, G⟩ := qP G
    refine Qw (fun a w' => ∃ (p_j12 : Option Addr) (c_j12 np_j12 : Nat) (L_j12 : List (Sl qa)), np_j12 = L_j12.length ∧ j13 = L_j12.map Sl.l ∧ RL w 34 [(0, sI a0), (1, .slot true (.func (.func 57) #[] #[vP b_a1_0 0])), (5, sS p_j12 np_j12 c_j12), (10, sI a0), (11, sI x9), (35, Qh qi 1 p_a1_0 c_a1_0 L_a1_0 ql), (36, QA qi Qp.toPart L_a1_0), (900062, qj p_j12 np_j12 c_j12 L_j12), (34, X7 b_a1_0 [.slice p_a1_0 L_a1_0.length c_a1_0] 31)] a w') ?_ ?_
    ·clear H; rintro a w' ⟨p_j12, c_j12, _, L_j12, rfl, h_j12, H⟩
     refine qN qd H (.v 32 (vI (qe (x9 + 1))) <|
 .v 11 (vI (qe (x9 + 1))) <| .nil) [0, 1, 5, 10, 11, 35, 36, 900062, 34] fun u14 a w' H => ?_
     replace H := H.move (K := qf p_j12 c_j12 L_j12) 900062 900060 (by kernel_rfl) (by intro _ _ h; cases h)
     exact ⟨k, Nat.lt_succ_self k, _, _, G, p_j12, c_j12, L_j12.length, L_j12, rfl, h_j12, H.toM _⟩
    ·clear G; replace G := hj13; clear hj13
     refine qA ?_
     refine qg qd H (.v 13 (vI x9) <|
 .v 6 (vI x9) <| .nil) [0, 1, 5, 6, 10, 11, 35, 36, 900060, 34] fun u15 a w' H => ?_
     refine qg qd H (.v 14 (vI a0) <|
 .v 15 (vI 0) <| .nil) [0, 1, 5, 6, 10, 11, 14, 15, 35, 36, 900060, 34] fun u16 a w' H => ?_
     refine qA ?_
     replace H := H.move (K := qf p_x8 c_x8 L_x8) 900060 900064 (by kernel_rfl) (by intro _ _ h; cases h)
     refine Qv (fun m a w' => ∃ x17 : List (List qa), ∃ x18 : Int, Qd.l19 k0 a0 a1_0 x8 x9 m x17 x18 = some j13 ∧ ∃ (p_x17 : Option Addr) (c_x17 np_x17 : Nat) (L_x17 : List (Sl qa)), np_x17 = L_x17.length ∧ x17 = L_x17.map Sl.l ∧ RL w 34 [(0, sI a0), (1, .slot true (.func (.func 57) #[] #[vP b_a1_0 0])), (5, sS p_x17 np_x17 c_x17), (6, sI x9), (10, sI a0), (11, sI x9), (14, sI a0), (15, sI x18), (35, Qh qi 1 p_a1_0 c_a1_0 L_a1_0 ql), (36, QA qi Qp.toPart L_a1_0), (900064, qj p_x17 np_x17 c_x17 L_x17), (34, X7 b_a1_0 [.slice p_a1_0 L_a1_0.length c_a1_0] 31)] a w') k0 ⟨_, _, G, p_x8, c_x8, L_x8.length, L_x8, rfl, h_x8, H.toM _⟩ ?_
     clear G H
     rintro (_ | k) a w' ⟨x17, x18, G, p_x17, c_x17, _, L_x17, rfl, h_x17, H⟩
     ·exact absurd G (by unfold Qd.l19; exact fun h => by cases h)
     ·unfold Qd.l19 at G
      refine qg qd H (.v 16 (.bool (decide (x18 < a0))) <| .nil) [0, 1, 5, 6, 10, 11, 14, 15, 16, 35, 36, 900064, 34] fun u20 a w' H => ?_
      refine qs ?_
      refine Qr H (decide (x18 < a0)) (fun c31 => ?_) fun c31 => ?_
      ·rw [if_pos c31] at G
       refine qT ?_
       refine qs ?_
       refine qA ?_
       refine qg qd H (.v 17 (vI x18) <|
 .v 7 (vI x18) <| .nil) [0, 1, 5, 6, 7, 10, 11, 14, 15, 35, 36, 900064, 34] fun u21 a w' H => ?_
       replace G := gd G; obtain ⟨b23, G⟩ := G
       obtain ⟨t24, ht24, G⟩ := qP G
       obtain ⟨p_t24, c_t24, y_t24⟩ := QE h_x17 ht24
       have P25 := XT (en := ql) (l := L_x17) (qQ (H.at (K := qf p_x17 c_x17 L_x17) 900064 (by kernel_rfl))).row.2 qk
       obtain ⟨t26, ht26, G⟩ := qP G
       replace G := gd G; obtain ⟨b27, G⟩ := G
       replace G := gd G; obtain ⟨b28, G⟩ := G
       obtain ⟨t29, ht29, G⟩ := qP G
       obtain ⟨p_t29, c_t29, y_t29⟩ := QE h_x17 ht29
       refine qN qd H (.v 18 (.slice p_x17 L_x17.length c_x17) <|
 .v 19 (vI x9) <|
 .v 20 (.slice p_x17 L_x17.length c_x17) <|
 .v 21 (vI x9) <|
 .cons [22] (qp (fun u22 => .pointer (some ⟨XB p_x17, XC p_x17 + x9.toNat * 1, none⟩)) 22 (hv := fun _ _ => QH (t := 25) (k := .i64) (i := x9) (p := p_x17) (n := L_x17.length) (cap := c_x17) (x := x17) P25 (qD h_x17) b23 (by kernel_rfl))) <|
 .cons [23] (qy 900064 (qf p_x17 c_x17 L_x17) (.slice p_t24 t24.length c_t24) 23 fun _ w h => Ya ql (qQ h).row.2 qk y_t24 0 1 [.slice p_t24 t24.length c_t24]) <|
 .v 24 (.func (.func 57) #[] #[vP b_a1_0 0]) <|
 .v 25 (vI x9) <|
 .v 26 (vI x18) <|
 .cons [27] (Xi [35, 36, 34] (fun u22 => [Qh qi 1 p_a1_0 c_a1_0 L_a1_0 ql, QA qi Qp.toPart L_a1_0, X7 b_a1_0 [.slice p_a1_0 L_a1_0.length c_a1_0] 31]) 57 _ _ 27 (fun u22 w hF => X9.calls x9 x18 a1_0 b_a1_0 p_a1_0 c_a1_0 L_a1_0 t26 w h_a1_0 ⟨(ZN (qq hF.1)), (JD (Qb hF.2.1)), (Q3 (hF.2.2.1 w (agree.refl _ _)) 0).2.1, trivial⟩ ht26)) <|
 .cons [28, 40] (qH (fun b => .slice (some ⟨b, 0, none⟩) 1 1) (fun u22 => [vI t26.Lo, vI t26.Hi]) 48 28 40) <|
 .cons [29, 900064, 900064] (Xs [10] [40] (fun u22 => [.blk ((u22 10).n 0) [vI t26.Lo, vI t26.Hi] 48]) 900064 (fun u22 => qf p_x17 c_x17 L_x17) (some 29) (fun u22 g => .slice (g.o 0) (t24 ++ [t26]).length (g.n 0)) (fun u22 g => ZC 22 48 2 qb p_x17 L_x17.length c_x17 L_x17 (L_x17.set x9.toNat (⟨(g.o 0), (g.n 0), (t24 ++ [t26])⟩ : Sl qa))) (fun u22 w hF hK => Wm hK y_t24 (l' := (t24 ++ [t26])) (fun h => Q8 (t := 22) (ty := 22) (en := qb) qh Jd h hF.1 (news := [t26]) rfl (by simp) (by kernel_rfl) b27)) (hloc := fun u u' h => ⟨by first | rfl | simp only [h 10 (by decide)], by first | rfl | simp only [h 10 (by decide)], by first | rfl | simp only [h 10 (by decide)], by first | rfl | simp only [h 10 (by decide)]⟩)) <|
 .cons [30] (qp (fun u22 => .pointer (some ⟨XB p_x17, XC p_x17 + x9.toNat * 1, none⟩)) 30 (hv := fun _ _ => QH (t := 25) (k := .i64) (i := x9) (p := p_x17) (n := L_x17.length) (cap := c_x17) (x := x17) P25 (qD h_x17) b28 (by kernel_rfl))) <|
 .cons [900064, 900064] (Xs [11] [] (fun u22 => []) 900064 (fun u22 => ZC 22 48 2 qb p_x17 L_x17.length c_x17 L_x17 (L_x17.set x9.toNat (⟨((u22 11).o 0), ((u22 11).n 0), (t24 ++ [t26])⟩ : Sl qa))) none (fun u22 g => .nilFunc) (fun u22 g => qj p_x17 L_x17.length c_x17 (L_x17.set x9.toNat (⟨((u22 11).o 0), ((u22 11).n 0), (t24 ++ [t26])⟩ : Sl qa))) (fun u22 w hF hK => WB hK (fun h => XP (en := ql) h qk (y := (⟨((u22 11).o 0), ((u22 11).n 0), (t24 ++ [t26])⟩ : Sl qa)) (vs := [.slice ((u22 11).o 0) ((t24 ++ [t26]).length) ((u22 11).n 0)]) y_t29 0 (by simp) (by simp) rfl (by kernel_rfl))) (hloc := fun u u' h => ⟨by first | rfl | simp only [h 11 (by decide)], by first | rfl | simp only [h 11 (by decide)], by first | rfl | simp only [h 11 (by decide)], by first | rfl | simp only [h 11 (by decide)]⟩)) <| .nil) [0, 1, 5, 6, 10, 11, 14, 15, 35, 36, 900064, 34] fun u22 a w' H => ?_
       refine qN qd H (.v 31 (vI (qe (x18 + 1))) <|
 .v 15 (vI (qe (x18 + 1))) <| .nil) [0, 1, 5, 6, 10, 11, 14, 15, 35, 36, 900064, 34] fun u30 a w' H => ?_
       exact ⟨k, Nat.lt_succ_self k, _, _, G, p_x17, c_x17, L_x17.length, (L_x17.set x9.toNat (⟨((u22 11).o 0), ((u22 11).n 0), (t24 ++ [t26])⟩ : Sl qa)), by simp, (map_set h_x17 x9.toNat (⟨((u22 11).o 0), ((u22 11).n 0), (t24 ++ [t26])⟩ : Sl qa)), H.toM _⟩
      ·rw [if_neg (nt c31)] at G
       refine QO rfl ?_
       obtain rfl := sj G
       replace H := H.move (K := qf p_x17 c_x17 L_x17) 900064 900062 (by kernel_rfl) (by intro _ _ h; cases h)
       exact ⟨p_x17, c_x17, L_x17.length, L_x17, rfl, h_x17, H.toM _⟩
   ·rw [if_neg (nt c32)] at G
    refine QO rfl ?_
    obtain rfl := sj G
    replace H := H.move (K := qf p_x8 c_x8 L_x8) 900060 900058 (by kernel_rfl) (by intro _ _ h; cases h)
    exact ⟨p_x8, c_x8, L_x8.length, L_x8, rfl, h_x8, H.toM _⟩
theorem QJ.calls (k0 : Nat) (a0 : List (List Int)) (p_a0 : Option Addr) (c_a0 : Nat) (L_a0 : List (Sl Int)) (r : List (List qa)) (w : World) (h_a0 : a0 = L_a0.map Sl.l) (hB : Yj [Qh qi 1 p_a0 c_a0 L_a0 ql, QA qi Qp.toPart L_a0] w) (G : QJ k0 a0 = some r) :
  Calls Tryz.prog 20 #[.slice p_a0 L_a0.length c_a0] w fun e w' => ∃ g : Gh, e = .returned (slgd_S_TInterval g 0 r) ∧ Y7 (YT []) w w' ∧ YD w.heap.size (YT []) (JG w.heap.size []) [fun _ => ns_en_TIntervalg g 0 r] w' := by
 obtain ⟨fr, hfr, hBf⟩ := J4 w []
 refine QQ (args := [.slice p_a0 L_a0.length c_a0]) 7 [(7, Qh qi 1 p_a0 c_a0 L_a0 ql), (8, QA qi Qp.toPart L_a0)] (by
  intro x hx
  simp only [List.mem_cons, List.not_mem_nil, or_false] at hx
  rcases hx with rfl | rfl
  ·exact Ql (qq hB.1) (fun _ _ => trivial) (by decide) _
  ·exact Xt (Qb hB.2.1) (fun _ _ => trivial) _) Tryz.func20 rfl (by kernel_rfl) (by kernel_rfl) fun a H => ?_
 unfold QJ at G
 refine qg qd H (.cons [1, 9] (qH (fun b => vP b 0) (fun u1 => [.slice p_a0 L_a0.length c_a0]) 31 1 9) <|
 .v 2 (.slice none 0 0) <| .nil) [1, 7, 8, 9] fun u1 a w' H => ?_
 obtain ⟨t3, ht3, G⟩ := qP G
 refine qg qd H (.cons [3] (qv (.slice p_a0 L_a0.length c_a0) 3 9 0 1 ((u1 0).n 0) [.slice p_a0 L_a0.length c_a0] 31) <|
 .cons [4] (qy 7 (Qh qi 1 p_a0 c_a0 L_a0 ql) (vI (a0.length : Int)) 4 fun _ w h => Q7 (((qq h).2.len qk (by decide)).trans (qD h_a0).symm) (by kernel_rfl)) <|
 .v 5 (.func (.func 57) #[] #[vP ((u1 0).n 0) 0]) <|
 .cons [6, 10] (Qo false fr [] [7, 8, 9] (fun u2 => [Qh qi 1 p_a0 c_a0 L_a0 ql, QA qi Qp.toPart L_a0, .blk ((u1 0).n 0) [.slice p_a0 L_a0.length c_a0] 31]) [] (fun u2 => []) 47 _ _ _ _ _ [10] 6 (fun u2 w hB hF hM => Qd.calls k0 (a0.length : Int) a0 ((u1 0).n 0) p_a0 c_a0 L_a0 t3 w h_a0 hB ht3) (fun u2 w hF => ⟨⟨QP (qq hF.1) (fun j h => ⟨_, (.head _), h⟩), Xk (Qb hF.2.1) (fun j h => ⟨_, (.tail _ (.head _)), h⟩), VH hF.2.2.1 (.tail _ (.tail _ (.head _))) rfl, trivial⟩, trivial⟩) (fun u2 g => (qx QZ qI)) (.inr (fun u2 g => (Qj trivial (fun K h => by cases h)))) (fun h => by cases h)) <|
 .cons [2] (qp (fun u2 => slgd_S_TInterval (u2 3) 0 t3) 2) <| .nil) [2, 10] fun u2 a w' H => ?_
 refine q7 ?_
 obtain rfl := sj G
 obtain ⟨g, o0, n0, d0⟩ := ZQ QS ((u2 3).o 0) ((u2 3).n 0) (Xc qC (u2 3) 0 t3)
 refine Xo H _ g _ _ _ fr [10] [] (slgd_S_TInterval (u2 3) 0 t3) [fun _ => ns_en_TIntervalg (u2 3) 0 t3] (by simp only [slgd_S_TInterval, dlgd_S_TInterval, ns_en_TIntervalg, qf, qj, QU, o0, n0, d0]) (by simp only [slgd_S_TInterval, dlgd_S_TInterval, ns_en_TIntervalg, qf, qj, QU, o0, n0, d0]) hfr (.inl ⟨rfl, rfl⟩) (qx QZ qI) (by simp)
theorem Zn.calls (a0 : qa) (r : Int) (w : World) (G : Zn a0 = some r) :
  Calls Tryz.prog 61 #[.agg #[vI a0.Lo, vI a0.Hi]] w fun e w' => e = .returned (vI r) ∧ Below w.heap.size w w' := by
 refine Q4 (args := [.agg #[vI a0.Lo, vI a0.Hi]]) 9 Tryz.func61 rfl (by kernel_rfl) (by kernel_rfl) fun a H => ?_
 unfold Zn at G
 refine qg qd H (.cons [1, 9] (qH (fun b => vP b 0) (fun u1 => [vI a0.Lo, vI a0.Hi]) 48 1 9) <|
 .v 2 (vI 0) <| .nil) [1, 9] fun u1 a w' H => ?_
 refine qg qd H (.v 3 (vP ((u1 0).n 0) 0) <|
 .cons [4] (qv (vI a0.Lo) 4 9 0 1 ((u1 0).n 0) [vI a0.Lo, vI a0.Hi] 48) <|
 .v 5 (vP ((u1 0).n 0) 1) <|
 .cons [6] (qv (vI a0.Hi) 6 9 1 1 ((u1 0).n 0) [vI a0.Lo, vI a0.Hi] 48) <|
 .v 7 (vI (qe (a0.Lo + a0.Hi))) <|
 .v 8 (vI (Int.fdiv (qe (a0.Lo + a0.Hi)) 2)) <|
 .v 2 (vI (Int.fdiv (qe (a0.Lo + a0.Hi)) 2)) <| .nil) [2] fun u2 a w' H => ?_
 refine q7 ?_
 obtain rfl := sj G
 exact QG H _ (by kernel_rfl) (by kernel_rfl)
theorem YV.calls (a0 : Int) (a1 : Int) (q0 : List (List qa)) (b_q0 : Nat) (p_q0 : Option Addr) (c_q0 : Nat) (L_q0 : List (Sl qa)) (r : Int) (w : World) (h_q0 : q0 = L_q0.map Sl.l) (hB : Yj [Qh qi 1 p_q0 c_q0 L_q0 ql, QA qi qc.toPart L_q0, X7 b_q0 [.slice p_q0 L_q0.length c_q0] 25] w) (G : YV a0 a1 q0 = some r) :
  Calls Tryz.prog 60 #[vI a0, vI a1, vP b_q0 0] w fun e w' => e = .returned (vI r) ∧ Below w.heap.size w w' := by
 obtain ⟨fr, hfr⟩ : ∃ fr : Nat → Prop, ∀ j, fr j := ⟨fun _ => True, fun _ => trivial⟩
 have hBf : ∀ j, w.heap.size ≤ j → fr j := fun j _ => hfr j
 refine QQ (args := [vI a0, vI a1, vP b_q0 0]) 14 [(15, Qh qi 1 p_q0 c_q0 L_q0 ql), (16, QA qi qc.toPart L_q0), (14, X7 b_q0 [.slice p_q0 L_q0.length c_q0] 25)] (by
  intro x hx
  simp only [List.mem_cons, List.not_mem_nil, or_false] at hx
  rcases hx with rfl | rfl | rfl
  ·exact Ql (qq hB.1) (fun _ _ => trivial) (by decide) _
  ·exact Xt (Qb hB.2.1) (fun _ _ => trivial) _
  ·exact Q3 (hB.2.2.1 w (agree.refl _ _)) _) Tryz.func60 rfl (by kernel_rfl) (by kernel_rfl) fun a H => ?_
 unfold YV at G
 refine qg qd H (.v 5 (vI 0) <| .nil) [0, 1, 2, 15, 16, 14] fun u1 a w' H => ?_
 refine qs ?_
 replace G := gd G; obtain ⟨b3, G⟩ := G
 obtain ⟨t4, ht4, G⟩ := qP G
 obtain ⟨p_t4, c_t4, y_t4⟩ := QE h_q0 ht4
 replace G := gd G; obtain ⟨b5, G⟩ := G
 obtain ⟨t6, ht6, G⟩ := qP G
 obtain ⟨t7, ht7, G⟩ := qP G
 refine qN qd H (.cons [6] (XX (fun u2 => .slice p_q0 L_q0.length c_q0) 6 14 (X7 b_q0 [.slice p_q0 L_q0.length c_q0] 25) b_q0 0 1 [.slice p_q0 L_q0.length c_q0] (fun w h => Za h)) <|
 .v 7 (vI a0) <|
 .cons [8] (qy 15 (Qh qi 1 p_q0 c_q0 L_q0 ql) (.pointer (some ⟨XB p_q0, XC p_q0 + a0.toNat * 1, none⟩)) 8 fun _ w h => YQ 25 .i64 a0 p_q0 L_q0.length c_q0 q0 ql (qq h).2 qk (qD h_q0) b3) <|
 .cons [9] (qy 15 (Qh qi 1 p_q0 c_q0 L_q0 ql) (.slice p_t4 t4.length c_t4) 9 fun _ w h => Ya ql (qq h).2 qk y_t4 0 1 [.slice p_t4 t4.length c_t4]) <|
 .v 10 (vI a1) <|
 .cons [11] (qy 16 (QA qi qc.toPart L_q0) (.pointer (some ⟨XB p_t4, XC p_t4 + a1.toNat * 2, none⟩)) 11 fun _ w h => YQ 22 .i64 a1 p_t4 t4.length c_t4 t4 qb (show Xv _ 2 p_t4 t4.length c_t4 (t4.flatMap qb) from ((Qb h) _ (List.mem_of_getElem? y_t4)).1).2 qh rfl b5) <|
 .cons [12] (qy 16 (QA qi qc.toPart L_q0) (.agg #[vI t6.Lo, vI t6.Hi]) 12 fun _ w h => Ya qb (show Xv _ 2 p_t4 t4.length c_t4 (t4.flatMap qb) from ((Qb h) _ (List.mem_of_getElem? y_t4)).1).2 qh ht6 0 2 [vI t6.Lo, vI t6.Hi]) <|
 .cons [13] (qo 61 _ _ 13 [] (fun u2 w _ => Zn.calls t6  t7 w  ht7)) <|
 .v 5 (vI t7) <| .nil) [5, 15, 16, 14] fun u2 a w' H => ?_
 refine q7 ?_
 obtain rfl := sj G
 exact QG H _ (by kernel_rfl) (by kernel_rfl)
theorem qR.calls (k0 : Nat) (a0 : Int) (a1_0 : List (List qa)) (b_a1_0 : Nat) (p_a1_0 : Option Addr) (c_a1_0 : Nat) (L_a1_0 : List (Sl qa)) (r : List (List Int)) (w : World) (h_a1_0 : a1_0 = L_a1_0.map Sl.l) (hB : Yj [Qh qi 1 p_a1_0 c_a1_0 L_a1_0 ql, QA qi qc.toPart L_a1_0, X7 b_a1_0 [.slice p_a1_0 L_a1_0.length c_a1_0] 25] w) (G : qR k0 a0 a1_0 = some r) :
  Calls Tryz.prog 59 #[vI a0, .func (.func 60) #[] #[vP b_a1_0 0]] w fun e w' => ∃ g : Gh, e = .returned (slgd_S_i64 g 0 r) ∧ Y7 (YT []) w w' ∧ YD w.heap.size (YT []) (JG w.heap.size []) [fun _ => ns_en_i64g g 0 r] w' := by
 obtain ⟨fr, hfr, hBf⟩ := J4 w []
 refine QQ (args := [vI a0, .func (.func 60) #[] #[vP b_a1_0 0]]) 34 [(35, Qh qi 1 p_a1_0 c_a1_0 L_a1_0 ql), (36, QA qi qc.toPart L_a1_0), (34, X7 b_a1_0 [.slice p_a1_0 L_a1_0.length c_a1_0] 25)] (by
  intro x hx
  simp only [List.mem_cons, List.not_mem_nil, or_false] at hx
  rcases hx with rfl | rfl | rfl
  ·exact Ql (qq hB.1) (fun _ _ => trivial) (by decide) _
  ·exact Xt (Qb hB.2.1) (fun _ _ => trivial) _
  ·exact Q3 (hB.2.2.1 w (agree.refl _ _)) _) Tryz.func59 rfl (by kernel_rfl) (by kernel_rfl) fun a H => ?_
 unfold qR at G
 refine qg qd H (.v 4 (.slice none 0 0) <| .nil) [0, 1, 35, 36, 34] fun u1 a w' H => ?_
 refine qs ?_
 replace G := gd G; obtain ⟨b3, G⟩ := G
 refine qN qd H (.v 8 (vI a0) <|
 .cons [9, 37] (Ju 2 1 qB (Zl [] (fun u2 => []) 26 1 (List.replicate a0.toNat (⟨none, 0, []⟩ : Sl Int)).length ((List.replicate a0.toNat (⟨none, 0, []⟩ : Sl Int)).flatMap ql) 9 37 (fun _ => .none) (fun u2 w hF => YG (t := 31) (k := .i64) (m := a0) (en := ql) (z := (⟨none, 0, []⟩ : Sl Int)) qk qaF rfl b3 (by kernel_rfl)) (fun _ => .inl rfl)) Jt) <|
 .cons [5] (qp (fun u2 => .slice ((u2 1).o 0) ((List.replicate a0.toNat (⟨none, 0, []⟩ : Sl Int)).length) ((u2 1).n 0)) 5) <| .nil) [0, 1, 5, 35, 36, 37, 34] fun u2 a w' H => ?_
 refine qs ?_
 obtain ⟨j5, hj5, G⟩ := qP G
 refine Qw (fun a w' => ∃ (p_j4 : Option Addr) (c_j4 np_j4 : Nat) (L_j4 : List (Sl Int)), np_j4 = L_j4.length ∧ j5 = L_j4.map Sl.l ∧ RL w 34 [(5, sS p_j4 np_j4 c_j4), (35, Qh qi 1 p_a1_0 c_a1_0 L_a1_0 ql), (36, QA qi qc.toPart L_a1_0), (900066, Q9 p_j4 np_j4 c_j4 L_j4), (34, X7 b_a1_0 [.slice p_a1_0 L_a1_0.length c_a1_0] 25)] a w') ?_ ?_
 ·clear H; rintro a w' ⟨p_j4, c_j4, _, L_j4, rfl, h_j4, H⟩
  refine qg qd H (.v 33 (.slice p_j4 L_j4.length c_j4) <|
 .v 4 (.slice p_j4 L_j4.length c_j4) <| .nil) [4, 35, 36, 900066, 34] fun u6 a w' H => ?_
  refine q7 ?_
  obtain rfl := sj G
  obtain ⟨g, o0, n0, d0⟩ := ZQ ZI p_j4 c_j4 h_j4
  refine Xo H _ g _ _ _ fr [900066] [] (.slice p_j4 L_j4.length c_j4) [fun _ => Qm p_j4 c_j4 L_j4] (by simp only [slgd_S_i64, dlgd_S_i64, ns_en_i64g, Qm, Q9, QU, o0, n0, d0]) (by simp only [slgd_S_i64, dlgd_S_i64, ns_en_i64g, Qm, Q9, QU, o0, n0, d0]) hfr (.inl ⟨rfl, rfl⟩) (qx QZ qI) (by simp)
 ·clear G; replace G := hj5; clear hj5
  refine qg qd H (.v 10 (vI a0) <|
 .v 11 (vI 0) <| .nil) [0, 1, 5, 10, 11, 35, 36, 37, 34] fun u7 a w' H => ?_
  refine qA ?_
  replace H := H.move (K := Qm ((u2 1).o 0) ((u2 1).n 0) (List.replicate a0.toNat (⟨none, 0, []⟩ : Sl Int))) 37 900068 (by kernel_rfl) (by intro _ _ h; cases h)
  refine Qv (fun m a w' => ∃ x8 : List (List Int), ∃ x9 : Int, qR.l10 k0 a0 a1_0 m x8 x9 = some j5 ∧ ∃ (p_x8 : Option Addr) (c_x8 np_x8 : Nat) (L_x8 : List (Sl Int)), np_x8 = L_x8.length ∧ x8 = L_x8.map Sl.l ∧ RL w 34 [(0, sI a0), (1, .slot true (.func (.func 60) #[] #[vP b_a1_0 0])), (5, sS p_x8 np_x8 c_x8), (10, sI a0), (11, sI x9), (35, Qh qi 1 p_a1_0 c_a1_0 L_a1_0 ql), (36, QA qi qc.toPart L_a1_0), (900068, Q9 p_x8 np_x8 c_x8 L_x8), (34, X7 b_a1_0 [.slice p_a1_0 L_a1_0.length c_a1_0] 25)] a w') k0 ⟨_, _, G, ((u2 1).o 0), ((u2 1).n 0), (List.replicate a0.toNat (⟨none, 0, []⟩ : Sl Int)).length, (List.replicate a0.toNat (⟨none, 0, []⟩ : Sl Int)), rfl, (Jr a0.toNat (⟨none, 0, []⟩ : Sl Int)), H.toM _⟩ ?_
  clear G H
  rintro (_ | k) a w' ⟨x8, x9, G, p_x8, c_x8, _, L_x8, rfl, h_x8, H⟩
  ·exact absurd G (by unfold qR.l10; exact fun h => by cases h)
  ·unfold qR.l10 at G
   refine qg qd H (.v 12 (.bool (decide (x9 < a0))) <| .nil) [0, 1, 5, 10, 11, 12, 35, 36, 900068, 34] fun u11 a w' H => ?_
   refine qs ?_
   refine Qr H (decide (x9 < a0)) (fun c32 => ?_) fun c32 => ?_
   ·rw [if_pos c32] at G
    refine qT ?_
    refine qs ?_
    obtain ⟨j13, hj13, G⟩ := qP G
    refine Qw (fun a w' => ∃ (p_j12 : Option Addr) (c_j12 np_j12 : Nat) (L_j12 : List (Sl Int)), np_j12 = L_j12.length ∧ j13 = L_j12.map Sl.l ∧ RL w 34 [(0, sI a0), (1, .slot true (.func (.func 60) #[] #[vP b_a1_0 0])), (5, sS p_j12 np_j12 c_j12), (10, sI a0), (11, sI x9), (35, Qh qi 1 p_a1_0 c_a1_0 L_a1_0 ql), (36, QA qi qc.toPart L_a1_0), (900070, Q9 p_j12 np_j12 c_j12 L_j12), (34, X7 b_a1_0 [.slice p_a1_0 L_a1_0.length c_a1_0] 25)] a w') ?_ ?_
    ·clear H; rintro a w' ⟨p_j12, c_j12, _, L_j12, rfl, h_j12, H⟩
     refine qN qd H (.v 32 (vI (qe (x9 + 1))) <|
 .v 11 (vI (qe (x9 + 1))) <| .nil) [0, 1, 5, 10, 11, 35, 36, 900070, 34] fun u14 a w' H => ?_
     replace H := H.move (K := Qm p_j12 c_j12 L_j12) 900070 900068 (by kernel_rfl) (by intro _ _ h; cases h)
     exact ⟨k, Nat.lt_succ_self k, _, _, G, p_j12, c_j12, L_j12.length, L_j12, rfl, h_j12, H.toM _⟩
    ·clear G; replace G := hj13; clear hj13
     refine qA ?_
     refine qg qd H (.v 13 (vI x9) <|
 .v 6 (vI x9) <| .nil) [0, 1, 5, 6, 10, 11, 35, 36, 900068, 34] fun u15 a w' H => ?_
     refine qg qd H (.v 14 (vI a0) <|
 .v 15 (vI 0) <| .nil) [0, 1, 5, 6, 10, 11, 14, 15, 35, 36, 900068, 34] fun u16 a w' H => ?_
     refine qA ?_
     replace H := H.move (K := Qm p_x8 c_x8 L_x8) 900068 900072 (by kernel_rfl) (by intro _ _ h; cases h)
     refine Qv (fun m a w' => ∃ x17 : List (List Int), ∃ x18 : Int, qR.l19 k0 a0 a1_0 x8 x9 m x17 x18 = some j13 ∧ ∃ (p_x17 : Option Addr) (c_x17 np_x17 : Nat) (L_x17 : List (Sl Int)), np_x17 = L_x17.length ∧ x17 = L_x17.map Sl.l ∧ RL w 34 [(0, sI a0), (1, .slot true (.func (.func 60) #[] #[vP b_a1_0 0])), (5, sS p_x17 np_x17 c_x17), (6, sI x9), (10, sI a0), (11, sI x9), (14, sI a0), (15, sI x18), (35, Qh qi 1 p_a1_0 c_a1_0 L_a1_0 ql), (36, QA qi qc.toPart L_a1_0), (900072, Q9 p_x17 np_x17 c_x17 L_x17), (34, X7 b_a1_0 [.slice p_a1_0 L_a1_0.length c_a1_0] 25)] a w') k0 ⟨_, _, G, p_x8, c_x8, L_x8.length, L_x8, rfl, h_x8, H.toM _⟩ ?_
     clear G H
     rintro (_ | k) a w' ⟨x17, x18, G, p_x17, c_x17, _, L_x17, rfl, h_x17, H⟩
     ·exact absurd G (by unfold qR.l19; exact fun h => by cases h)
     ·unfold qR.l19 at G
      refine qg qd H (.v 16 (.bool (decide (x18 < a0))) <| .nil) [0, 1, 5, 6, 10, 11, 14, 15, 16, 35, 36, 900072, 34] fun u20 a w' H => ?_
      refine qs ?_
      refine Qr H (decide (x18 < a0)) (fun c31 => ?_) fun c31 => ?_
      ·rw [if_pos c31] at G
       refine qT ?_
       refine qs ?_
       refine qA ?_
       refine qg qd H (.v 17 (vI x18) <|
 .v 7 (vI x18) <| .nil) [0, 1, 5, 6, 7, 10, 11, 14, 15, 35, 36, 900072, 34] fun u21 a w' H => ?_
       replace G := gd G; obtain ⟨b23, G⟩ := G
       obtain ⟨t24, ht24, G⟩ := qP G
       obtain ⟨p_t24, c_t24, y_t24⟩ := QE h_x17 ht24
       have P25 := XT (en := ql) (l := L_x17) (qQ (H.at (K := Qm p_x17 c_x17 L_x17) 900072 (by kernel_rfl))).row.2 qk
       obtain ⟨t26, ht26, G⟩ := qP G
       replace G := gd G; obtain ⟨b27, G⟩ := G
       replace G := gd G; obtain ⟨b28, G⟩ := G
       obtain ⟨t29, ht29, G⟩ := qP G
       obtain ⟨p_t29, c_t29, y_t29⟩ := QE h_x17 ht29
       refine qN qd H (.v 18 (.slice p_x17 L_x17.length c_x17) <|
 .v 19 (vI x9) <|
 .v 20 (.slice p_x17 L_x17.length c_x17) <|
 .v 21 (vI x9) <|
 .cons [22] (qp (fun u22 => .pointer (some ⟨XB p_x17, XC p_x17 + x9.toNat * 1, none⟩)) 22 (hv := fun _ _ => QH (t := 31) (k := .i64) (i := x9) (p := p_x17) (n := L_x17.length) (cap := c_x17) (x := x17) P25 (qD h_x17) b23 (by kernel_rfl))) <|
 .cons [23] (qy 900072 (Qm p_x17 c_x17 L_x17) (.slice p_t24 t24.length c_t24) 23 fun _ w h => Ya ql (qQ h).row.2 qk y_t24 0 1 [.slice p_t24 t24.length c_t24]) <|
 .v 24 (.func (.func 60) #[] #[vP b_a1_0 0]) <|
 .v 25 (vI x9) <|
 .v 26 (vI x18) <|
 .cons [27] (Xi [35, 36, 34] (fun u22 => [Qh qi 1 p_a1_0 c_a1_0 L_a1_0 ql, QA qi qc.toPart L_a1_0, X7 b_a1_0 [.slice p_a1_0 L_a1_0.length c_a1_0] 25]) 60 _ _ 27 (fun u22 w hF => YV.calls x9 x18 a1_0 b_a1_0 p_a1_0 c_a1_0 L_a1_0 t26 w h_a1_0 ⟨(ZN (qq hF.1)), (JD (Qb hF.2.1)), (Q3 (hF.2.2.1 w (agree.refl _ _)) 0).2.1, trivial⟩ ht26)) <|
 .cons [28, 40] (qH (fun b => .slice (some ⟨b, 0, none⟩) 1 1) (fun u22 => [vI t26]) 2 28 40) <|
 .cons [29, 900072, 900072] (Xs [10] [40] (fun u22 => [.blk ((u22 10).n 0) [vI t26] 2]) 900072 (fun u22 => Qm p_x17 c_x17 L_x17) (some 29) (fun u22 g => .slice (g.o 0) (t24 ++ [t26]).length (g.n 0)) (fun u22 g => ZC 26 2 1 qB p_x17 L_x17.length c_x17 L_x17 (L_x17.set x9.toNat (⟨(g.o 0), (g.n 0), (t24 ++ [t26])⟩ : Sl Int))) (fun u22 w hF hK => Wm hK y_t24 (l' := (t24 ++ [t26])) (fun h => Q8 (t := 26) (ty := 26) (en := qB) q8 qco h hF.1 (news := [t26]) rfl (by simp) (by kernel_rfl) b27)) (hloc := fun u u' h => ⟨by first | rfl | simp only [h 10 (by decide)], by first | rfl | simp only [h 10 (by decide)], by first | rfl | simp only [h 10 (by decide)], by first | rfl | simp only [h 10 (by decide)]⟩)) <|
 .cons [30] (qp (fun u22 => .pointer (some ⟨XB p_x17, XC p_x17 + x9.toNat * 1, none⟩)) 30 (hv := fun _ _ => QH (t := 31) (k := .i64) (i := x9) (p := p_x17) (n := L_x17.length) (cap := c_x17) (x := x17) P25 (qD h_x17) b28 (by kernel_rfl))) <|
 .cons [900072, 900072] (Xs [11] [] (fun u22 => []) 900072 (fun u22 => ZC 26 2 1 qB p_x17 L_x17.length c_x17 L_x17 (L_x17.set x9.toNat (⟨((u22 11).o 0), ((u22 11).n 0), (t24 ++ [t26])⟩ : Sl Int))) none (fun u22 g => .nilFunc) (fun u22 g => Q9 p_x17 L_x17.length c_x17 (L_x17.set x9.toNat (⟨((u22 11).o 0), ((u22 11).n 0), (t24 ++ [t26])⟩ : Sl Int))) (fun u22 w hF hK => WB hK (fun h => XP (en := ql) h qk (y := (⟨((u22 11).o 0), ((u22 11).n 0), (t24 ++ [t26])⟩ : Sl Int)) (vs := [.slice ((u22 11).o 0) ((t24 ++ [t26]).length) ((u22 11).n 0)]) y_t29 0 (by simp) (by simp) rfl (by kernel_rfl))) (hloc := fun u u' h => ⟨by first | rfl | simp only [h 11 (by decide)], by first | rfl | simp only [h 11 (by decide)], by first | rfl | simp only [h 11 (by decide)], by first | rfl | simp only [h 11 (by decide)]⟩)) <| .nil) [0, 1, 5, 6, 10, 11, 14, 15, 35, 36, 900072, 34] fun u22 a w' H => ?_
       refine qN qd H (.v 31 (vI (qe (x18 + 1))) <|
 .v 15 (vI (qe (x18 + 1))) <| .nil) [0, 1, 5, 6, 10, 11, 14, 15, 35, 36, 900072, 34] fun u30 a w' H => ?_
       exact ⟨k, Nat.lt_succ_self k, _, _, G, p_x17, c_x17, L_x17.length, (L_x17.set x9.toNat (⟨((u22 11).o 0), ((u22 11).n 0), (t24 ++ [t26])⟩ : Sl Int)), by simp, (map_set h_x17 x9.toNat (⟨((u22 11).o 0), ((u22 11).n 0), (t24 ++ [t26])⟩ : Sl Int)), H.toM _⟩
      ·rw [if_neg (nt c31)] at G
       refine QO rfl ?_
       obtain rfl := sj G
       replace H := H.move (K := Qm p_x17 c_x17 L_x17) 900072 900070 (by kernel_rfl) (by intro _ _ h; cases h)
       exact ⟨p_x17, c_x17, L_x17.length, L_x17, rfl, h_x17, H.toM _⟩
   ·rw [if_neg (nt c32)] at G
    refine QO rfl ?_
    obtain rfl := sj G
    replace H := H.move (K := Qm p_x8 c_x8 L_x8) 900068 900066 (by kernel_rfl) (by intro _ _ h; cases h)
    exact ⟨p_x8, c_x8, L_x8.length, L_x8, rfl, h_x8, H.toM _⟩
theorem Zj.calls (k0 : Nat) (a0 : List (List qa)) (p_a0 : Option Addr) (c_a0 : Nat) (L_a0 : List (Sl qa)) (r : List (List Int)) (w : World) (h_a0 : a0 = L_a0.map Sl.l) (hB : Yj [Qh qi 1 p_a0 c_a0 L_a0 ql, QA qi qc.toPart L_a0] w) (G : Zj k0 a0 = some r) :
  Calls Tryz.prog 21 #[.slice p_a0 L_a0.length c_a0] w fun e w' => ∃ g : Gh, e = .returned (slgd_S_i64 g 0 r) ∧ Y7 (YT []) w w' ∧ YD w.heap.size (YT []) (JG w.heap.size []) [fun _ => ns_en_i64g g 0 r] w' := by
 obtain ⟨fr, hfr, hBf⟩ := J4 w []
 refine QQ (args := [.slice p_a0 L_a0.length c_a0]) 7 [(7, Qh qi 1 p_a0 c_a0 L_a0 ql), (8, QA qi qc.toPart L_a0)] (by
  intro x hx
  simp only [List.mem_cons, List.not_mem_nil, or_false] at hx
  rcases hx with rfl | rfl
  ·exact Ql (qq hB.1) (fun _ _ => trivial) (by decide) _
  ·exact Xt (Qb hB.2.1) (fun _ _ => trivial) _) Tryz.func21 rfl (by kernel_rfl) (by kernel_rfl) fun a H => ?_
 unfold Zj at G
 refine qg qd H (.cons [1, 9] (qH (fun b => vP b 0) (fun u1 => [.slice p_a0 L_a0.length c_a0]) 25 1 9) <|
 .v 2 (.slice none 0 0) <| .nil) [1, 7, 8, 9] fun u1 a w' H => ?_
 obtain ⟨t3, ht3, G⟩ := qP G
 refine qg qd H (.cons [3] (qv (.slice p_a0 L_a0.length c_a0) 3 9 0 1 ((u1 0).n 0) [.slice p_a0 L_a0.length c_a0] 25) <|
 .cons [4] (qy 7 (Qh qi 1 p_a0 c_a0 L_a0 ql) (vI (a0.length : Int)) 4 fun _ w h => Q7 (((qq h).2.len qk (by decide)).trans (qD h_a0).symm) (by kernel_rfl)) <|
 .v 5 (.func (.func 60) #[] #[vP ((u1 0).n 0) 0]) <|
 .cons [6, 10] (Qo false fr [] [7, 8, 9] (fun u2 => [Qh qi 1 p_a0 c_a0 L_a0 ql, QA qi qc.toPart L_a0, .blk ((u1 0).n 0) [.slice p_a0 L_a0.length c_a0] 25]) [] (fun u2 => []) 59 _ _ _ _ _ [10] 6 (fun u2 w hB hF hM => qR.calls k0 (a0.length : Int) a0 ((u1 0).n 0) p_a0 c_a0 L_a0 t3 w h_a0 hB ht3) (fun u2 w hF => ⟨⟨QP (qq hF.1) (fun j h => ⟨_, (.head _), h⟩), Xk (Qb hF.2.1) (fun j h => ⟨_, (.tail _ (.head _)), h⟩), VH hF.2.2.1 (.tail _ (.tail _ (.head _))) rfl, trivial⟩, trivial⟩) (fun u2 g => (qx QZ qI)) (.inr (fun u2 g => (Qj trivial (fun K h => by cases h)))) (fun h => by cases h)) <|
 .cons [2] (qp (fun u2 => slgd_S_i64 (u2 3) 0 t3) 2) <| .nil) [2, 10] fun u2 a w' H => ?_
 refine q7 ?_
 obtain rfl := sj G
 obtain ⟨g, o0, n0, d0⟩ := ZQ ZI ((u2 3).o 0) ((u2 3).n 0) (Xc Xa (u2 3) 0 t3)
 refine Xo H _ g _ _ _ fr [10] [] (slgd_S_i64 (u2 3) 0 t3) [fun _ => ns_en_i64g (u2 3) 0 t3] (by simp only [slgd_S_i64, dlgd_S_i64, ns_en_i64g, Qm, Q9, QU, o0, n0, d0]) (by simp only [slgd_S_i64, dlgd_S_i64, ns_en_i64g, Qm, Q9, QU, o0, n0, d0]) hfr (.inl ⟨rfl, rfl⟩) (qx QZ qI) (by simp)
theorem Yt.calls (a1 : Int) (r : List qG) (w : World) (G : Yt a1 = some r) :
  Calls Tryz.prog 103 #[.slice none 0 0, vI a1] w fun e w' => ∃ g : Gh, e = .returned (.slice (g.o 0) r.length (g.n 0)) ∧ Y7 (YT []) w w' ∧ YD w.heap.size (YT []) (JG w.heap.size []) [fun _ => QU 69 6 (g.o 0) (g.n 0) r qn] w' := by
 obtain ⟨fr, hfr, hBf⟩ := J4 w []
 refine Q4 (args := [.slice none 0 0, vI a1]) 27 Tryz.func103 rfl (by kernel_rfl) (by kernel_rfl) fun a H => ?_
 unfold Yt at G
 refine qg qd H (.v 4 (.slice none 0 0) <| .nil) [0, 1] fun u1 a w' H => ?_
 refine qs ?_
 refine qg qd H (.v 5 (vI a1) <|
 .v 6 (.bool (decide (a1 < 0))) <| .nil) [0, 1, 6] fun u2 a w' H => ?_
 refine Qr H (decide (a1 < 0)) (fun c10 => ?_) fun c10 => ?_
 ·rw [if_pos c10] at G
  cases G
 ·rw [if_neg (nt c10)] at G
  refine qT ?_
  refine qs ?_
  refine qg qd H (.v 8 (vI a1) <|
 .v 9 (.slice none 0 0) <|
 .v 10 (vI 0) <|
 .v 11 (.slice none 0 0) <|
 .v 12 (vI 0) <|
 .v 13 (vI (qe (0 - 0))) <|
 .v 14 (vI (qe (a1 - (qe (0 - 0))))) <|
 .v 1 (vI (qe (a1 - (qe (0 - 0))))) <| .nil) [0, 1] fun u3 a w' H => ?_
  refine qg qd H (.v 15 (vI (qe (a1 - (qe (0 - 0))))) <|
 .v 16 (.bool (decide ((qe (a1 - (qe (0 - 0)))) > 0))) <| .nil) [0, 1, 16] fun u4 a w' H => ?_
  refine Qr H (decide ((qe (a1 - (qe (0 - 0)))) > 0)) (fun c9 => ?_) fun c9 => ?_
  ·rw [if_pos c9] at G
   replace G := gd G; obtain ⟨b6, G⟩ := G
   refine qN qd H (.v 17 (.slice none 0 0) <|
 .v 18 (.slice none 0 0) <|
 .v 19 (vI 0) <|
 .v 20 (.slice none 0 0) <|
 .v 21 (vI (qe (a1 - (qe (0 - 0))))) <|
 .cons [22, 27] (Zl [] (fun u5 => []) 69 6 (List.replicate (qe (a1 - (qe (0 - 0)))).toNat (⟨0, 0, 0, 0, 0, 0⟩ : qG)).length ((List.replicate (qe (a1 - (qe (0 - 0)))).toNat (⟨0, 0, 0, 0, 0, 0⟩ : qG)).flatMap qn) 22 27 (fun _ => .none) (fun u5 w hF => VD (t := 67) (tn := 3) (ty := 67) (kn := .i64) (k := .i64) (m := qe (a1 - (qe (0 - 0)))) (en := qn) (z := (⟨0, 0, 0, 0, 0, 0⟩ : qG)) Qq qb1 rfl b6 (by kernel_rfl)) (fun _ => .inl rfl)) <|
 .v 23 (.slice none 0 0) <|
 .v 24 (vI 0) <|
 .cons [25, 27] (Zl [27] (fun u5 => [QU 69 6 ((u5 5).o 0) ((u5 5).n 0) (List.replicate (qe (a1 - (qe (0 - 0)))).toNat (⟨0, 0, 0, 0, 0, 0⟩ : qG)) qn]) 69 6 ([] : List qG).length (([] : List qG).flatMap qn) 25 27 (fun u5 => QU 69 6 ((u5 5).o 0) ((u5 5).n 0) (List.replicate (qe (a1 - (qe (0 - 0)))).toNat (⟨0, 0, 0, 0, 0, 0⟩ : qG)) qn) (fun u5 w hF => qbK (t := 67) (l := (List.replicate (qe (a1 - (qe (0 - 0)))).toNat (⟨0, 0, 0, 0, 0, 0⟩ : qG))) (k := .i64) (QN hF.1) rfl (by kernel_rfl)) (fun _ => .inr trivial)) <|
 .cons [0] (qp (fun u5 => .slice ((u5 8).o 0) 0 ((u5 8).n 0)) 0) <| .nil) [0, 27] fun u5 a w' H => ?_
   refine qg qd H (.v 26 (.slice ((u5 8).o 0) 0 ((u5 8).n 0)) <|
 .v 4 (.slice ((u5 8).o 0) 0 ((u5 8).n 0)) <| .nil) [4, 27] fun u7 a w' H => ?_
   refine q7 ?_
   obtain rfl := sj G
   obtain ⟨g, o0, n0⟩ := VI ((u5 8).o 0) ((u5 8).n 0)
   refine Xo H _ g _ _ _ fr [27] [] (.slice ((u5 8).o 0) 0 ((u5 8).n 0)) [fun _ => QU 69 6 ((u5 8).o 0) ((u5 8).n 0) ([] : List qG) qn] (by simp only [QU, o0, n0, List.length_set, List.length_cons, List.length_nil, Nat.zero_add, Nat.reduceAdd]) (by simp only [QU, o0, n0, List.length_set, List.length_cons, List.length_nil, Nat.zero_add, Nat.reduceAdd]) hfr (.inl ⟨rfl, rfl⟩) (qx X2 qI) (by simp)
  ·rw [if_neg (nt c9)] at G
   refine qT ?_
   refine qg qd H (.v 26 (.slice none 0 0) <|
 .v 4 (.slice none 0 0) <| .nil) [4] fun u8 a w' H => ?_
   refine q7 ?_
   obtain rfl := sj G
   replace H := H.nil_row 28 69 6
   obtain ⟨g, o0, n0⟩ := VI none 0
   refine Xo H _ g _ _ _ fr [28] [] (.slice none 0 0) [fun _ => Yo 69 6 none 0 0 (([] : List qG).flatMap qn)] (by simp only [QU, o0, n0, List.length_set, List.length_cons, List.length_nil, Nat.zero_add, Nat.reduceAdd]) (by simp only [QU, o0, n0, List.length_set, List.length_cons, List.length_nil, Nat.zero_add, Nat.reduceAdd]) hfr (.inl ⟨rfl, rfl⟩) (qx X2 qI) (by simp)
end Go.Proofs.YtglcmhldonkfdaaGreatDoor
