/- Each function of the program answers as the plain Lean function of its name (part 4). Printed by a program of this session. -/
import Derived.Test.YtglcmhldonkfdaaGreatDoorFn3
set_option linter.unusedVariables false
set_option linter.unusedSimpArgs false
set_option maxRecDepth 100000
set_option maxHeartbeats 4000000
namespace Go.Proofs.YtglcmhldonkfdaaGreatDoor
open Go Go.RowKit Go.Sx Go.Proofs
theorem qm.calls (k0 : Nat) (a0 : List (List qa)) (p_a0 : Option Addr) (c_a0 : Nat) (L_a0 : List (Sl qa)) (r : List (List qa) × Bool) (w : World) (h_a0 : a0 = L_a0.map Sl.l) (hB : Yj [Qh qi 1 p_a0 c_a0 L_a0 ql, QA qi qc.toPart L_a0] w) (G : qm k0 a0 = some r) :
  Calls Tryz.prog 11 #[.slice p_a0 L_a0.length c_a0] w fun e w' => ∃ g : Gh, e = .returned (.tuple #[slgd_S_TInterval g 0 r.1, .bool r.2]) ∧ Y7 (YT []) w w' ∧ YD w.heap.size (YT []) (JG w.heap.size []) [fun _ => QU 22 1 (g.o 0) (g.n 0) (dlgd_S_TInterval g 0 r.1) ql, fun fr => QA fr qc.toPart (dlgd_S_TInterval g 0 r.1)] w' := by
 obtain ⟨fr, hfr, hBf⟩ := J4 w []
 refine QQ (args := [.slice p_a0 L_a0.length c_a0]) 138 [(138, Qh qi 1 p_a0 c_a0 L_a0 ql), (139, QA qi qc.toPart L_a0)] (by
  intro x hx
  simp only [List.mem_cons, List.not_mem_nil, or_false] at hx
  rcases hx with rfl | rfl
  ·exact Ql (qq hB.1) (fun _ _ => trivial) (by decide) _
  ·exact Xt (Qb hB.2.1) (fun _ _ => trivial) _) Tryz.func11 rfl (by kernel_rfl) (by kernel_rfl) fun a H => ?_
 unfold qm at G
 refine qg qd H (.v 2 (.slice none 0 0) <|
 .v 3 (.bool false) <| .nil) [0, 138, 139] fun u1 a w' H => ?_
 replace G := qP G; obtain ⟨t3, ht3, G⟩ := G
 refine qg qd H (.v 16 (.slice p_a0 L_a0.length c_a0) <|
 .cons [17] (qy 138 (Qh qi 1 p_a0 c_a0 L_a0 ql) (vI (a0.length : Int)) 17 fun _ w h => Q7 (((qq h).2.len qk (by decide)).trans (qD h_a0).symm) (by kernel_rfl)) <|
 .cons [18, 140] (qH (fun b => .slice (some ⟨b, 0, none⟩) 0 0) (fun u2 => []) 22 18 140) <|
 .v 19 (.slice p_a0 L_a0.length c_a0) <|
 .cons [20] (qy 138 (Qh qi 1 p_a0 c_a0 L_a0 ql) (vI (a0.length : Int)) 20 fun _ w h => Q7 (((qq h).2.len qk (by decide)).trans (qD h_a0).symm) (by kernel_rfl)) <|
 .cons [21, 141] (Qo false fr [] [] (fun u2 => []) [] (fun u2 => []) 27 _ (fun u2 => []) _ _ _ [141] 21 (fun u2 w hB hF hM => qZ.calls k0 (a0.length : Int)  t3 w  ht3) (fun u2 w hF => ⟨trivial, trivial⟩) (fun u2 g => (qx QZ qI)) (.inr (fun u2 g => (Qj trivial (fun K h => by cases h)))) (fun h => by cases h)) <|
 .v 4 (vI (a0.length : Int)) <|
 .cons [5] (qp (fun u2 => .slice (some ⟨((u2 2).n 0), 0, none⟩) 0 0) 5) <|
 .cons [6] (qp (fun u2 => slgd_S_TInterval (u2 5) 0 t3) 6) <| .nil) [0, 4, 5, 6, 138, 139, 140, 141] fun u2 a w' H => ?_
 refine qs ?_
 replace G := qP G; obtain ⟨j5, hj5, G⟩ := G
 refine Qw (fun a w' => ∃ (p_j4 : Option Addr) (c_j4 np_j4 : Nat) (L_j4 : List (Sl qa)), np_j4 = L_j4.length ∧ j5 = L_j4.map Sl.l ∧ RL w 138 [(4, (sI (a0.length : Int))), (5, sS p_j4 np_j4 c_j4), (900124, qj p_j4 np_j4 c_j4 L_j4)] a w') ?_ ?_
 ·clear H; rintro a w' ⟨p_j4, c_j4, _, L_j4, rfl, h_j4, H⟩
  refine qs ?_
  replace G := qP G; obtain ⟨j7, hj7, Gj7⟩ := G
  refine Qw (fun a w' => ∃ j7v, j7 = Sum.inr j7v ∧ ∃ (p_j6 : Option Addr) (c_j6 np_j6 : Nat) (L_j6 : List (Sl qa)), np_j6 = L_j6.length ∧ j7v = L_j6.map Sl.l ∧ RL w 138 [(4, (sI (a0.length : Int))), (5, sS p_j6 np_j6 c_j6), (900126, Yo 22 1 p_j6 np_j6 c_j6 (L_j6.flatMap ql)), (900127, QA fr qc.toPart L_j6)] a w') ?_ ?_
  ·clear H; rintro a w' ⟨j7v, rfl, p_j6, c_j6, _, L_j6, rfl, h_j6, H⟩; have G := Gj7; clear Gj7; dsimp only at G
   refine qg qd H (.cons [107, 142] (qH (fun b => .slice (some ⟨b, 0, none⟩) 0 0) (fun u8 => []) 22 107 142) <|
 .cons [13] (qp (fun u8 => .slice (some ⟨((u8 0).n 0), 0, none⟩) 0 0) 13) <| .nil) [4, 5, 13, 142, 900126, 900127] fun u8 a w' H => ?_
   refine qs ?_
   replace G := qP G; obtain ⟨j10, hj10, Gj10⟩ := G
   refine Qw (fun a w' => ∃ j10v, j10 = Sum.inr j10v ∧ ∃ (p_j9 : Option Addr) (c_j9 np_j9 : Nat) (L_j9 : List (Sl qa)), np_j9 = L_j9.length ∧ j10v = L_j9.map Sl.l ∧ RL w 138 [(13, sS p_j9 np_j9 c_j9), (900128, Yo 22 1 p_j9 np_j9 c_j9 (L_j9.flatMap ql)), (900129, QA fr qc.toPart L_j9)] a w') ?_ ?_
   ·clear H; rintro a w' ⟨j10v, rfl, p_j9, c_j9, _, L_j9, rfl, h_j9, H⟩; have G := Gj10; clear Gj10; dsimp only at G
    refine qg qd H (.v 137 (.slice p_j9 L_j9.length c_j9) <|
 .v 2 (.slice p_j9 L_j9.length c_j9) <|
 .v 3 (.bool true) <| .nil) [2, 3, 900128, 900129] fun u11 a w' H => ?_
    refine q7 ?_
    obtain rfl := sj G
    obtain ⟨g, o0, n0, d0⟩ := ZQ QS p_j9 c_j9 h_j9
    refine Xo H _ g _ _ _ fr [900128, 900129] [] (.tuple #[.slice p_j9 L_j9.length c_j9, .bool true]) [fun _ => QU 22 1 p_j9 c_j9 L_j9 ql, fun fr => QA fr qc.toPart L_j9] (by simp only [slgd_S_TInterval, dlgd_S_TInterval, ns_en_TIntervalg, qf, qj, QU, o0, n0, d0]) (by simp only [slgd_S_TInterval, dlgd_S_TInterval, ns_en_TIntervalg, qf, qj, QU, o0, n0, d0]) hfr (.inl ⟨rfl, rfl⟩) (qx X2 (qx Jc qI)) (by simp)
   ·have G := hj10; clear hj10
    refine qg qd H (.v 14 (vI 0) <| .nil) [4, 5, 13, 14, 142, 900126, 900127] fun u12 a w' H => ?_
    refine qA ?_
    replace H := H.blk_row 142 ((u8 0).n 0) [] 22 1 0 (by kernel_rfl) (by kernel_rfl) (by decide)
    replace H := H.add0 153 (QA fr qc.toPart ([] : List (Sl qa))) (by intro _ _ h; cases h) (Zf Zw (fun j h => by obtain ⟨_, hy, _⟩ := h; cases hy)) (fun j h => by obtain ⟨_, hy, _⟩ := h; cases hy)
    replace H := H.move (K := Yo 22 1 (some ⟨((u8 0).n 0), 0, none⟩) 0 0 (([] : List (Sl qa)).flatMap ql)) 142 900130 (by kernel_rfl) (by intro _ _ h; cases h)
    replace H := H.dup (K := QA fr qc.toPart ([] : List (Sl qa))) 153 900131 (by kernel_rfl) (fun h => h) (by intro _ _ h; cases h)
    refine Qv (fun m a w' => ∃ x13 : List (List qa), ∃ x14 : Int, qm.l15 k0 a0 t3 j5 j7v m x13 x14 = some j10 ∧ ∃ (p_x13 : Option Addr) (c_x13 np_x13 : Nat) (L_x13 : List (Sl qa)), np_x13 = L_x13.length ∧ x13 = L_x13.map Sl.l ∧ RL w 138 [(4, (sI (a0.length : Int))), (5, sS p_j6 L_j6.length c_j6), (13, sS p_x13 np_x13 c_x13), (14, sI x14), (900126, QU 22 1 p_j6 c_j6 L_j6 ql), (900127, QA fr qc.toPart L_j6), (900130, Yo 22 1 p_x13 np_x13 c_x13 (L_x13.flatMap ql)), (900131, QA fr qc.toPart L_x13)] a w') k0 ⟨_, _, G, (some ⟨((u8 0).n 0), 0, none⟩), 0, 0, ([] : List (Sl qa)), rfl, rfl, H.toM _⟩ ?_
    clear G H
    rintro (_ | k) a w' ⟨x13, x14, G, p_x13, c_x13, _, L_x13, rfl, h_x13, H⟩
    ·exact absurd G (by unfold qm.l15; exact fun h => by cases h)
    ·unfold qm.l15 at G
     refine qs ?_
     refine qg qd H (.v 108 (vI x14) <|
 .v 109 (vI (a0.length : Int)) <|
 .v 110 (.bool (decide (x14 < (a0.length : Int)))) <| .nil) [4, 5, 13, 14, 110, 900126, 900127, 900130, 900131] fun u16 a w' H => ?_
     refine Qr H (decide (x14 < (a0.length : Int))) (fun c40 => ?_) fun c40 => ?_
     ·rw [if_pos c40] at G
      refine qT ?_
      refine qs ?_
      replace G := qP G; obtain ⟨j18, hj18, Gj18⟩ := G
      refine Qw (fun a w' => ∃ j18v, j18 = Sum.inr j18v ∧ ∃ (p_j17 : Option Addr) (c_j17 np_j17 : Nat) (L_j17 : List (Sl qa)), np_j17 = L_j17.length ∧ j18v = L_j17.map Sl.l ∧ RL w 138 [(4, (sI (a0.length : Int))), (5, sS p_j6 L_j6.length c_j6), (13, sS p_j17 np_j17 c_j17), (14, sI x14), (900126, QU 22 1 p_j6 c_j6 L_j6 ql), (900127, QA fr qc.toPart L_j6), (900132, Yo 22 1 p_j17 np_j17 c_j17 (L_j17.flatMap ql)), (900133, QA fr qc.toPart L_j17)] a w') ?_ ?_
      ·clear H; rintro a w' ⟨j18v, rfl, p_j17, c_j17, _, L_j17, rfl, h_j17, H⟩; have G := Gj18; clear Gj18; dsimp only at G
       refine qN qd H (.v 111 (vI x14) <|
 .v 112 (vI (qe (x14 + 1))) <|
 .v 14 (vI (qe (x14 + 1))) <| .nil) [4, 5, 13, 14, 900126, 900127, 900132, 900133] fun u19 a w' H => ?_
       replace H := H.move (K := QU 22 1 p_j17 c_j17 L_j17 ql) 900132 900130 (by kernel_rfl) (by intro _ _ h; cases h)
       replace H := H.dup (K := QA fr qc.toPart L_j17) 900133 900131 (by kernel_rfl) (fun h => h) (by intro _ _ h; cases h)
       exact ⟨k, Nat.lt_succ_self k, _, _, G, p_j17, c_j17, L_j17.length, L_j17, rfl, h_j17, H.toM _⟩
      ·have G := hj18; clear hj18
       refine qA ?_
       refine qs ?_
       replace G := qP G; obtain ⟨j20, hj20, Gj20⟩ := G
       refine Qw (fun a w' => ∃ j20v, j20 = Sum.inr j20v ∧ RL w 138 [(4, (sI (a0.length : Int))), (5, sS p_j6 L_j6.length c_j6), (13, sS p_x13 L_x13.length c_x13), (14, sI x14), (900126, QU 22 1 p_j6 c_j6 L_j6 ql), (900127, QA fr qc.toPart L_j6), (900130, QU 22 1 p_x13 c_x13 L_x13 ql), (900131, QA fr qc.toPart L_x13)] a w') ?_ ?_
       ·clear H; rintro a w' ⟨j20v, rfl, H⟩; have G := Gj20; clear Gj20; dsimp only at G
        replace G := gd G; obtain ⟨b22, G⟩ := G
        replace G := qP G; obtain ⟨t23, ht23, G⟩ := G
        obtain ⟨p_t23, c_t23, y_t23⟩ := QE h_j6 ht23
        replace G := gd G; obtain ⟨b24, G⟩ := G
        replace G := gd G; obtain ⟨b25, G⟩ := G
        refine qN qd H (.v 128 (.slice p_x13 L_x13.length c_x13) <|
 .v 129 (.slice p_j6 L_j6.length c_j6) <|
 .v 130 (vI x14) <|
 .cons [131] (qy 900126 (QU 22 1 p_j6 c_j6 L_j6 ql) (.pointer (some ⟨XB p_j6, XC p_j6 + x14.toNat * 1, none⟩)) 131 fun _ w h => YQ 25 .i64 x14 p_j6 L_j6.length c_j6 j7v ql (qY (QN h)).2 qk (qD h_j6) b22) <|
 .cons [132] (qy 900126 (QU 22 1 p_j6 c_j6 L_j6 ql) (.slice p_t23 t23.length c_t23) 132 fun _ w h => Ya ql (qY (QN h)).2 qk y_t23 0 1 [.slice p_t23 t23.length c_t23]) <|
 .v 133 (vI (a0.length : Int)) <|
 .cons [134] (JV [900127] (fun u21 => [QA fr qc.toPart L_j6]) (fun u21 => .slice (YR p_t23 (a0.length : Int).toNat 2 c_t23) ((t23.drop (a0.length : Int).toNat).length) (c_t23 - (a0.length : Int).toNat)) (fun u21 => true) [true, true] 134 (fun u21 w _ hF => Zz (by kernel_rfl) (qcz (t := 22) (sz := 2) (l := t23) (k := .i64) rfl b24))) <|
 .cons [135, 145] (qH (fun b => .slice (some ⟨b, 0, none⟩) 1 1) (fun u21 => [.slice (YR p_t23 (a0.length : Int).toNat 2 c_t23) ((t23.drop (a0.length : Int).toNat).length) (c_t23 - (a0.length : Int).toNat)]) 22 135 145) <|
 .cons [136, 900130, 900130, 146] (Vq [7] [900131, 145, 900127] (fun u21 => [QA fr qc.toPart L_x13, .blk ((u21 7).n 0) [.slice (YR p_t23 (a0.length : Int).toNat 2 c_t23) ((t23.drop (a0.length : Int).toNat).length) (c_t23 - (a0.length : Int).toNat)] 22, QA fr qc.toPart L_j6]) 900130 146 (fun u21 => QU 22 1 p_x13 c_x13 L_x13 ql) (some 136) (fun u21 g => .slice (g.o 0) (L_x13 ++ [(⟨(YR p_t23 (a0.length : Int).toNat 2 c_t23), (c_t23 - (a0.length : Int).toNat), (t23.drop (a0.length : Int).toNat)⟩ : Sl qa)]).length (g.n 0)) (fun u21 g => QU 22 1 (g.o 0) (g.n 0) (L_x13 ++ [(⟨(YR p_t23 (a0.length : Int).toNat 2 c_t23), (c_t23 - (a0.length : Int).toNat), (t23.drop (a0.length : Int).toNat)⟩ : Sl qa)]) ql) (fun u21 g => QA fr qc.toPart (L_x13 ++ [(⟨(YR p_t23 (a0.length : Int).toNat 2 c_t23), (c_t23 - (a0.length : Int).toNat), (t23.drop (a0.length : Int).toNat)⟩ : Sl qa)])) (fun u21 w hF hK => qa5 (Q8 (t := 25) (ty := 25) (en := ql) qk J2 (QN hK) hF.2.1 (news := [(⟨(YR p_t23 (a0.length : Int).toNat 2 c_t23), (c_t23 - (a0.length : Int).toNat), (t23.drop (a0.length : Int).toNat)⟩ : Sl qa)]) rfl (by simp) (by kernel_rfl) (by rw [← qD h_x13]; exact b25)) (qcl hF.1 (.head _) ⟨(Xv.low (en := qb) (show Xv _ 2 p_t23 t23.length c_t23 (t23.flatMap qb) from ((Qb hF.2.2.1) _ (List.mem_of_getElem? y_t23)).1) qh b24), fun _ _ => trivial⟩ (fun j h => (h.elim (fun h => qaa (.tail _ (.tail _ (.head _))) (fun h => h) ⟨_, (List.mem_of_getElem? y_t23), (.inl (Vt (by simp) h))⟩ (qan hF.2.2.1 _ ⟨_, (List.mem_of_getElem? y_t23), (.inl (Vt (by simp) h))⟩)) (fun ⟨_, _, hz⟩ => hz.elim))))) (hloc := fun u u' h => ⟨by first | rfl | simp only [h 7 (by decide)], by first | rfl | simp only [h 7 (by decide)], by first | rfl | simp only [h 7 (by decide)], by first | rfl | simp only [h 7 (by decide)], by first | rfl | simp only [h 7 (by decide)]⟩)) <|
 .cons [13] (qp (fun u21 => .slice ((u21 8).o 0) ((L_x13 ++ [(⟨(YR p_t23 (a0.length : Int).toNat 2 c_t23), (c_t23 - (a0.length : Int).toNat), (t23.drop (a0.length : Int).toNat)⟩ : Sl qa)]).length) ((u21 8).n 0)) 13) <| .nil) [4, 5, 13, 14, 146, 900126, 900127, 900130] fun u21 a w' H => ?_
        obtain rfl := sj G
        replace H := H.move (K := QU 22 1 ((u21 8).o 0) ((u21 8).n 0) (L_x13 ++ [(⟨(YR p_t23 (a0.length : Int).toNat 2 c_t23), (c_t23 - (a0.length : Int).toNat), (t23.drop (a0.length : Int).toNat)⟩ : Sl qa)]) ql) 900130 900132 (by kernel_rfl) (by intro _ _ h; cases h)
        replace H := H.dup (K := QA fr qc.toPart (L_x13 ++ [(⟨(YR p_t23 (a0.length : Int).toNat 2 c_t23), (c_t23 - (a0.length : Int).toNat), (t23.drop (a0.length : Int).toNat)⟩ : Sl qa)])) 146 900133 (by kernel_rfl) (fun h => h) (by intro _ _ h; cases h)
        exact ⟨_, rfl, ((u21 8).o 0), ((u21 8).n 0), (L_x13 ++ [(⟨(YR p_t23 (a0.length : Int).toNat 2 c_t23), (c_t23 - (a0.length : Int).toNat), (t23.drop (a0.length : Int).toNat)⟩ : Sl qa)]).length, (L_x13 ++ [(⟨(YR p_t23 (a0.length : Int).toNat 2 c_t23), (c_t23 - (a0.length : Int).toNat), (t23.drop (a0.length : Int).toNat)⟩ : Sl qa)]), rfl, (ZX h_x13 (⟨(YR p_t23 (a0.length : Int).toNat 2 c_t23), (c_t23 - (a0.length : Int).toNat), (t23.drop (a0.length : Int).toNat)⟩ : Sl qa)), H.toM _⟩
       ·have G := hj20; clear hj20
        refine qg qd H (.v 113 (vI (a0.length : Int)) <|
 .v 15 (vI (a0.length : Int)) <| .nil) [4, 5, 13, 14, 15, 900126, 900127, 900130, 900131] fun u26 a w' H => ?_
        refine qA ?_
        refine Qv (fun m a w' => ∃ x27 : Int, qm.l28 k0 a0 t3 j5 j7v x13 x14 m x27 = some j20 ∧ RL w 138 [(4, (sI (a0.length : Int))), (5, sS p_j6 L_j6.length c_j6), (13, sS p_x13 L_x13.length c_x13), (14, sI x14), (15, sI x27), (900126, QU 22 1 p_j6 c_j6 L_j6 ql), (900127, QA fr qc.toPart L_j6), (900130, QU 22 1 p_x13 c_x13 L_x13 ql), (900131, QA fr qc.toPart L_x13)] a w') k0 ⟨_, G, H.toM _⟩ ?_
        clear G H
        rintro (_ | k) a w' ⟨x27, G, H⟩
        ·exact absurd G (by unfold qm.l28; exact fun h => by cases h)
        ·unfold qm.l28 at G
         refine qs ?_
         refine qg qd H (.v 114 (vI x27) <|
 .v 115 (vI (a0.length : Int)) <|
 .v 116 (vI (qe (2 * (a0.length : Int)))) <|
 .v 117 (.bool (decide (x27 < (qe (2 * (a0.length : Int)))))) <| .nil) [4, 5, 13, 14, 15, 117, 900126, 900127, 900130, 900131] fun u29 a w' H => ?_
         refine Qr H (decide (x27 < (qe (2 * (a0.length : Int))))) (fun c39 => ?_) fun c39 => ?_
         ·rw [if_pos c39] at G
          refine qT ?_
          refine qs ?_
          refine qA ?_
          refine qs ?_
          replace G := gd G; obtain ⟨b31, G⟩ := G
          replace G := qP G; obtain ⟨t32, ht32, G⟩ := G
          obtain ⟨p_t32, c_t32, y_t32⟩ := QE h_j6 ht32
          replace G := gd G; obtain ⟨b33, G⟩ := G
          replace G := qP G; obtain ⟨t34, ht34, G⟩ := G
          replace G := qP G; obtain ⟨t35, ht35, G⟩ := G
          refine qN qd H (.v 120 (.slice p_j6 L_j6.length c_j6) <|
 .v 121 (vI x14) <|
 .cons [122] (qy 900126 (QU 22 1 p_j6 c_j6 L_j6 ql) (.pointer (some ⟨XB p_j6, XC p_j6 + x14.toNat * 1, none⟩)) 122 fun _ w h => YQ 25 .i64 x14 p_j6 L_j6.length c_j6 j7v ql (qY (QN h)).2 qk (qD h_j6) b31) <|
 .cons [123] (qy 900126 (QU 22 1 p_j6 c_j6 L_j6 ql) (.slice p_t32 t32.length c_t32) 123 fun _ w h => Ya ql (qY (QN h)).2 qk y_t32 0 1 [.slice p_t32 t32.length c_t32]) <|
 .v 124 (vI x27) <|
 .cons [125] (qy 900127 (QA fr qc.toPart L_j6) (.pointer (some ⟨XB p_t32, XC p_t32 + x27.toNat * 2, none⟩)) 125 fun _ w h => YQ 22 .i64 x27 p_t32 t32.length c_t32 t32 qb (show Xv _ 2 p_t32 t32.length c_t32 (t32.flatMap qb) from ((Qb h) _ (List.mem_of_getElem? y_t32)).1).2 qh rfl b33) <|
 .cons [126] (qy 900127 (QA fr qc.toPart L_j6) (.agg #[vI t34.Lo, vI t34.Hi]) 126 fun _ w h => Ya qb (show Xv _ 2 p_t32 t32.length c_t32 (t32.flatMap qb) from ((Qb h) _ (List.mem_of_getElem? y_t32)).1).2 qh ht34 0 2 [vI t34.Lo, vI t34.Hi]) <|
 .cons [127] (qo 46 _ _ 127 [] (fun u30 w _ => q9.calls t34  t35 w  ht35)) <| .nil) [4, 5, 13, 14, 15, 127, 900126, 900127, 900130, 900131] fun u30 a w' H => ?_
          refine Qr H t35 (fun c38 => ?_) fun c38 => ?_
          ·rw [if_pos c38] at G
           refine qg qd H (.v 2 (.slice none 0 0) <|
 .v 3 (.bool false) <| .nil) [2, 3] fun u36 a w' H => ?_
           refine q7 ?_
           obtain rfl := sj G
           replace G := Gj20
           obtain rfl := sj G
           replace G := Gj18
           obtain rfl := sj G
           replace G := Gj10
           obtain rfl := sj G
           replace H := H.nil_row 149 22 1
           replace H := H.add0 150 (QA fr qc.toPart ([] : List (Sl qa))) (by intro _ _ h; cases h) (Zf Zw (fun j h => by obtain ⟨_, hy, _⟩ := h; cases hy)) (fun j h => by obtain ⟨_, hy, _⟩ := h; cases hy)
           obtain ⟨g, o0, n0, d0⟩ := ZQ QS none 0 (show ([] : List (List qa)) = List.map Sl.l ([] : List (Sl qa)) from rfl)
           refine Xo H _ g _ _ _ fr [149, 150] [] (.tuple #[.slice none 0 0, .bool false]) [fun _ => Yo 22 1 none 0 0 (([] : List (Sl qa)).flatMap ql), fun fr => QA fr qc.toPart ([] : List (Sl qa))] (by simp only [slgd_S_TInterval, dlgd_S_TInterval, ns_en_TIntervalg, qf, qj, QU, o0, n0, d0, List.length_set, List.length_cons, List.length_nil, Nat.zero_add, Nat.reduceAdd]) (by simp only [slgd_S_TInterval, dlgd_S_TInterval, ns_en_TIntervalg, qf, qj, QU, o0, n0, d0, List.length_set, List.length_cons, List.length_nil, Nat.zero_add, Nat.reduceAdd]) hfr (.inl ⟨rfl, rfl⟩) (qx X2 (qx Jc qI)) (by simp)
          ·rw [if_neg (nt c38)] at G
           refine qT ?_
           refine qN qd H (.v 118 (vI x27) <|
 .v 119 (vI (qe (x27 + 1))) <|
 .v 15 (vI (qe (x27 + 1))) <| .nil) [4, 5, 13, 14, 15, 900126, 900127, 900130, 900131] fun u37 a w' H => ?_
           exact ⟨k, Nat.lt_succ_self k, _, G, H.toM _⟩
         ·rw [if_neg (nt c39)] at G
          refine QO rfl ?_
          obtain rfl := sj G
          exact ⟨_, rfl, H.toM _⟩
     ·rw [if_neg (nt c40)] at G
      refine QO rfl ?_
      obtain rfl := sj G
      replace H := H.move (K := QU 22 1 p_x13 c_x13 L_x13 ql) 900130 900128 (by kernel_rfl) (by intro _ _ h; cases h)
      replace H := H.dup (K := QA fr qc.toPart L_x13) 900131 900129 (by kernel_rfl) (fun h => h) (by intro _ _ h; cases h)
      exact ⟨_, rfl, p_x13, c_x13, L_x13.length, L_x13, rfl, h_x13, H.toM _⟩
  ·have G := hj7; clear hj7
   refine qg qd H (.v 9 (vI 0) <| .nil) [4, 5, 9, 900124] fun u41 a w' H => ?_
   refine qA ?_
   replace H := H.denest (e := 22) (e2 := 48) (m := L_j4.length) (cap := c_j4) (p := p_j4) (L := L_j4) 900124 168 fr (by decide) qh (fun _ => rfl) hBf (by kernel_rfl) (by decide)
   replace H := H.move (K := QU 22 1 p_j4 c_j4 L_j4 ql) 900124 900134 (by kernel_rfl) (by intro _ _ h; cases h)
   replace H := H.dup (K := QA fr qc.toPart L_j4) 168 900135 (by kernel_rfl) (fun h => h) (by intro _ _ h; cases h)
   refine Qv (fun m a w' => ∃ x42 : List (List qa), ∃ x43 : Int, qm.l44 k0 a0 t3 j5 m x42 x43 = some j7 ∧ ∃ (p_x42 : Option Addr) (c_x42 np_x42 : Nat) (L_x42 : List (Sl qa)), np_x42 = L_x42.length ∧ x42 = L_x42.map Sl.l ∧ RL w 138 [(4, (sI (a0.length : Int))), (5, sS p_x42 np_x42 c_x42), (9, sI x43), (900134, Yo 22 1 p_x42 np_x42 c_x42 (L_x42.flatMap ql)), (900135, QA fr qc.toPart L_x42)] a w') k0 ⟨_, _, G, p_j4, c_j4, L_j4.length, L_j4, rfl, h_j4, H.toM _⟩ ?_
   clear G H
   rintro (_ | k) a w' ⟨x42, x43, G, p_x42, c_x42, _, L_x42, rfl, h_x42, H⟩
   ·exact absurd G (by unfold qm.l44; exact fun h => by cases h)
   ·unfold qm.l44 at G
    refine qs ?_
    refine qg qd H (.v 43 (vI x43) <|
 .v 44 (vI (a0.length : Int)) <|
 .v 45 (.bool (decide (x43 < (a0.length : Int)))) <| .nil) [4, 5, 9, 45, 900134, 900135] fun u45 a w' H => ?_
    refine Qr H (decide (x43 < (a0.length : Int))) (fun c87 => ?_) fun c87 => ?_
    ·rw [if_pos c87] at G
     refine qT ?_
     refine qs ?_
     replace G := qP G; obtain ⟨j47, hj47, Gj47⟩ := G
     refine Qw (fun a w' => ∃ j47v, j47 = Sum.inr j47v ∧ ∃ (p_j46 : Option Addr) (c_j46 np_j46 : Nat) (L_j46 : List (Sl qa)), np_j46 = L_j46.length ∧ j47v = L_j46.map Sl.l ∧ RL w 138 [(4, (sI (a0.length : Int))), (5, sS p_j46 np_j46 c_j46), (9, sI x43), (900136, Yo 22 1 p_j46 np_j46 c_j46 (L_j46.flatMap ql)), (900137, QA fr qc.toPart L_j46)] a w') ?_ ?_
     ·clear H; rintro a w' ⟨j47v, rfl, p_j46, c_j46, _, L_j46, rfl, h_j46, H⟩; have G := Gj47; clear Gj47; dsimp only at G
      refine qN qd H (.v 46 (vI x43) <|
 .v 47 (vI (qe (x43 + 1))) <|
 .v 9 (vI (qe (x43 + 1))) <| .nil) [4, 5, 9, 900136, 900137] fun u48 a w' H => ?_
      replace H := H.move (K := QU 22 1 p_j46 c_j46 L_j46 ql) 900136 900134 (by kernel_rfl) (by intro _ _ h; cases h)
      replace H := H.dup (K := QA fr qc.toPart L_j46) 900137 900135 (by kernel_rfl) (fun h => h) (by intro _ _ h; cases h)
      exact ⟨k, Nat.lt_succ_self k, _, _, G, p_j46, c_j46, L_j46.length, L_j46, rfl, h_j46, H.toM _⟩
     ·have G := hj47; clear hj47
      refine qA ?_
      refine qg qd H (.v 10 (vI (-1)) <| .nil) [4, 5, 9, 10, 900134, 900135] fun u49 a w' H => ?_
      refine qs ?_
      replace G := qP G; obtain ⟨j51, hj51, G⟩ := G
      refine Qw (fun a w' => RL w 138 [(4, (sI (a0.length : Int))), (5, sS p_x42 L_x42.length c_x42), (9, sI x43), (10, sI j51), (900134, QU 22 1 p_x42 c_x42 L_x42 ql), (900135, QA fr qc.toPart L_x42)] a w') ?_ ?_
      ·clear H; intro a w' H
       refine qs ?_
       refine qg qd H (.v 87 (vI j51) <|
 .v 88 (.bool (decide (j51 < 0))) <| .nil) [4, 5, 9, 10, 88, 900134, 900135] fun u52 a w' H => ?_
       refine Qr H (decide (j51 < 0)) (fun c67 => ?_) fun c67 => ?_
       ·rw [if_pos c67] at G
        refine qg qd H (.v 2 (.slice none 0 0) <|
 .v 3 (.bool false) <| .nil) [2, 3] fun u53 a w' H => ?_
        refine q7 ?_
        obtain rfl := sj G
        replace G := Gj47
        obtain rfl := sj G
        replace G := Gj7
        obtain rfl := sj G
        replace H := H.nil_row 158 22 1
        replace H := H.add0 159 (QA fr qc.toPart ([] : List (Sl qa))) (by intro _ _ h; cases h) (Zf Zw (fun j h => by obtain ⟨_, hy, _⟩ := h; cases hy)) (fun j h => by obtain ⟨_, hy, _⟩ := h; cases hy)
        obtain ⟨g, o0, n0, d0⟩ := ZQ QS none 0 (show ([] : List (List qa)) = List.map Sl.l ([] : List (Sl qa)) from rfl)
        refine Xo H _ g _ _ _ fr [158, 159] [] (.tuple #[.slice none 0 0, .bool false]) [fun _ => Yo 22 1 none 0 0 (([] : List (Sl qa)).flatMap ql), fun fr => QA fr qc.toPart ([] : List (Sl qa))] (by simp only [slgd_S_TInterval, dlgd_S_TInterval, ns_en_TIntervalg, qf, qj, QU, o0, n0, d0, List.length_set, List.length_cons, List.length_nil, Nat.zero_add, Nat.reduceAdd]) (by simp only [slgd_S_TInterval, dlgd_S_TInterval, ns_en_TIntervalg, qf, qj, QU, o0, n0, d0, List.length_set, List.length_cons, List.length_nil, Nat.zero_add, Nat.reduceAdd]) hfr (.inl ⟨rfl, rfl⟩) (qx X2 (qx Jc qI)) (by simp)
       ·rw [if_neg (nt c67)] at G
        refine qT ?_
        refine qs ?_
        replace G := gd G; obtain ⟨b55, G⟩ := G
        replace G := qP G; obtain ⟨t56, ht56, G⟩ := G
        obtain ⟨p_t56, c_t56, y_t56⟩ := QE h_x42 ht56
        refine qN qd H (.v 89 (.slice p_x42 L_x42.length c_x42) <|
 .v 90 (vI j51) <|
 .cons [91] (qy 900134 (QU 22 1 p_x42 c_x42 L_x42 ql) (.pointer (some ⟨XB p_x42, XC p_x42 + j51.toNat * 1, none⟩)) 91 fun _ w h => YQ 25 .i64 j51 p_x42 L_x42.length c_x42 x42 ql (qY (QN h)).2 qk (qD h_x42) b55) <|
 .cons [92] (qy 900134 (QU 22 1 p_x42 c_x42 L_x42 ql) (.slice p_t56 t56.length c_t56) 92 fun _ w h => Ya ql (qY (QN h)).2 qk y_t56 0 1 [.slice p_t56 t56.length c_t56]) <|
 .v 12 (.slice p_t56 t56.length c_t56) <| .nil) [4, 5, 9, 10, 12, 900134, 900135] fun u54 a w' H => ?_
        refine qs ?_
        replace G := gd G; obtain ⟨b58, G⟩ := G
        replace G := qP G; obtain ⟨t59, ht59, G⟩ := G
        obtain ⟨p_t59, c_t59, y_t59⟩ := QE h_x42 ht59
        replace G := gd G; obtain ⟨b60, G⟩ := G
        replace G := qP G; obtain ⟨t61, ht61, G⟩ := G
        obtain ⟨p_t61, c_t61, y_t61⟩ := QE h_x42 ht61
        refine qN qd H (.v 93 (.slice p_x42 L_x42.length c_x42) <|
 .v 94 (vI j51) <|
 .v 95 (.slice p_x42 L_x42.length c_x42) <|
 .v 96 (vI x43) <|
 .cons [97] (qy 900134 (QU 22 1 p_x42 c_x42 L_x42 ql) (.pointer (some ⟨XB p_x42, XC p_x42 + x43.toNat * 1, none⟩)) 97 fun _ w h => YQ 25 .i64 x43 p_x42 L_x42.length c_x42 x42 ql (qY (QN h)).2 qk (qD h_x42) b58) <|
 .cons [98] (qy 900134 (QU 22 1 p_x42 c_x42 L_x42 ql) (.slice p_t59 t59.length c_t59) 98 fun _ w h => Ya ql (qY (QN h)).2 qk y_t59 0 1 [.slice p_t59 t59.length c_t59]) <|
 .cons [99] (qy 900134 (QU 22 1 p_x42 c_x42 L_x42 ql) (.pointer (some ⟨XB p_x42, XC p_x42 + j51.toNat * 1, none⟩)) 99 fun _ w h => YQ 25 .i64 j51 p_x42 L_x42.length c_x42 x42 ql (qY (QN h)).2 qk (qD h_x42) b60) <|
 .cons [900134, 900134, 160] (Vq [] [900135] (fun u57 => [QA fr qc.toPart L_x42]) 900134 160 (fun u57 => QU 22 1 p_x42 c_x42 L_x42 ql) none (fun u57 g => .nilFunc) (fun u57 g => Yo 22 1 p_x42 L_x42.length c_x42 ((L_x42.set j51.toNat (⟨p_t59, c_t59, t59⟩ : Sl qa)).flatMap ql)) (fun u57 g => QA fr qc.toPart (L_x42.set j51.toNat (⟨p_t59, c_t59, t59⟩ : Sl qa))) (fun u57 w hF hK => qba (XP (en := ql) (QN hK) qk (y := (⟨p_t59, c_t59, t59⟩ : Sl qa)) (vs := [.slice p_t59 t59.length c_t59]) y_t61 0 (by simp) (by simp) rfl (by kernel_rfl)) (qcp hF.1 (.head _) ⟨(show Xv _ 2 p_t59 t59.length c_t59 (t59.flatMap qb) from ((Qb hF.1) _ (List.mem_of_getElem? y_t59)).1), fun _ _ => trivial⟩ (fun j h => (h.elim (fun h => qaa (.head _) (fun h => h) ⟨_, (List.mem_of_getElem? y_t59), (.inl h)⟩ (qan hF.1 _ ⟨_, (List.mem_of_getElem? y_t59), (.inl h)⟩)) (fun ⟨_, _, hz⟩ => hz.elim)))))) <| .nil) [4, 5, 9, 12, 160, 900134, 900135] fun u57 a w' H => ?_
        refine qs ?_
        replace G := gd G; obtain ⟨b63, G⟩ := G
        replace G := qP G; obtain ⟨t64, ht64, G⟩ := G
        obtain ⟨p_t64, c_t64, y_t64⟩ := QE (map_set h_x42 j51.toNat (⟨p_t59, c_t59, t59⟩ : Sl qa)) ht64
        refine qN qd H (.v 100 (.slice p_x42 L_x42.length c_x42) <|
 .v 101 (vI x43) <|
 .v 102 (.slice p_t56 t56.length c_t56) <|
 .cons [103] (qy 900134 (Yo 22 1 p_x42 L_x42.length c_x42 ((L_x42.set j51.toNat (⟨p_t59, c_t59, t59⟩ : Sl qa)).flatMap ql)) (.pointer (some ⟨XB p_x42, XC p_x42 + x43.toNat * 1, none⟩)) 103 fun _ w h => YQ 25 .i64 x43 p_x42 L_x42.length c_x42 (x42.set j51.toNat t59) ql (qY (QN h)).2 qk (qD (map_set h_x42 j51.toNat (⟨p_t59, c_t59, t59⟩ : Sl qa))) b63) <|
 .cons [900134, 900134, 161] (Vq [] [160, 900135] (fun u62 => [QA fr qc.toPart (L_x42.set j51.toNat (⟨p_t59, c_t59, t59⟩ : Sl qa)), QA fr qc.toPart L_x42]) 900134 161 (fun u62 => Yo 22 1 p_x42 L_x42.length c_x42 ((L_x42.set j51.toNat (⟨p_t59, c_t59, t59⟩ : Sl qa)).flatMap ql)) none (fun u62 g => .nilFunc) (fun u62 g => Yo 22 1 p_x42 L_x42.length c_x42 (((L_x42.set j51.toNat (⟨p_t59, c_t59, t59⟩ : Sl qa)).set x43.toNat (⟨p_t56, c_t56, t56⟩ : Sl qa)).flatMap ql)) (fun u62 g => QA fr qc.toPart ((L_x42.set j51.toNat (⟨p_t59, c_t59, t59⟩ : Sl qa)).set x43.toNat (⟨p_t56, c_t56, t56⟩ : Sl qa))) (fun u62 w hF hK => qba (XP (en := ql) (QN hK) qk (y := (⟨p_t56, c_t56, t56⟩ : Sl qa)) (vs := [.slice p_t56 t56.length c_t56]) y_t64 0 (by simp) (by simp) rfl (by kernel_rfl)) (qcp hF.1 (.head _) ⟨(show Xv _ 2 p_t56 t56.length c_t56 (t56.flatMap qb) from ((Qb hF.2.1) _ (List.mem_of_getElem? y_t56)).1), fun _ _ => trivial⟩ (fun j h => (h.elim (fun h => qaa (.tail _ (.head _)) (fun h => h) ⟨_, (List.mem_of_getElem? y_t56), (.inl h)⟩ (qan hF.2.1 _ ⟨_, (List.mem_of_getElem? y_t56), (.inl h)⟩)) (fun ⟨_, _, hz⟩ => hz.elim)))))) <| .nil) [4, 5, 9, 161, 900134] fun u62 a w' H => ?_
        rw [show L_x42.length = ((L_x42.set j51.toNat (⟨p_t59, c_t59, t59⟩ : Sl qa)).set x43.toNat (⟨p_t56, c_t56, t56⟩ : Sl qa)).length from by simp only [List.length_set]] at H
        replace G := qP G; obtain ⟨t66, ht66, G⟩ := G
        refine qN qd H (.v 104 (.slice p_x42 (((L_x42.set j51.toNat (⟨p_t59, c_t59, t59⟩ : Sl qa)).set x43.toNat (⟨p_t56, c_t56, t56⟩ : Sl qa)).length) c_x42) <|
 .v 105 (vI x43) <|
 .cons [106, 162, 163] (Qo true fr [] [900134, 161] (fun u65 => [QU 22 1 p_x42 c_x42 ((L_x42.set j51.toNat (⟨p_t59, c_t59, t59⟩ : Sl qa)).set x43.toNat (⟨p_t56, c_t56, t56⟩ : Sl qa)) ql, QA fr qc.toPart ((L_x42.set j51.toNat (⟨p_t59, c_t59, t59⟩ : Sl qa)).set x43.toNat (⟨p_t56, c_t56, t56⟩ : Sl qa))]) [] (fun u65 => []) 45 _ _ _ _ _ [162, 163] 106 (fun u65 w hB hF hM => qE.calls k0 ((x42.set j51.toNat t59).set x43.toNat t56) x43 p_x42 c_x42 ((L_x42.set j51.toNat (⟨p_t59, c_t59, t59⟩ : Sl qa)).set x43.toNat (⟨p_t56, c_t56, t56⟩ : Sl qa)) t66 w (map_set (map_set h_x42 j51.toNat (⟨p_t59, c_t59, t59⟩ : Sl qa)) x43.toNat (⟨p_t56, c_t56, t56⟩ : Sl qa)) hB ht66) (fun u65 w hF => ⟨⟨QP (qY (QN hF.1)) (fun j h => ⟨_, (.head _), (Zm h)⟩), Xk (Qb hF.2.1) (fun j h => ⟨_, (.tail _ (.head _)), h⟩), trivial⟩, trivial⟩) (fun u65 g => (qx X2 (qx Jc qI))) (.inl rfl) (fun _ => hBf)) <|
 .cons [5] (qp (fun u65 => slgd_S_TInterval (u65 2) 0 t66) 5) <| .nil) [4, 5, 9, 162, 163] fun u65 a w' H => ?_
        obtain rfl := sj G
        replace H := H.move (K := QU 22 1 ((u65 2).o 0) ((u65 2).n 0) (dlgd_S_TInterval (u65 2) 0 t66) ql) 162 900136 (by kernel_rfl) (by intro _ _ h; cases h)
        replace H := H.dup (K := QA fr qc.toPart (dlgd_S_TInterval (u65 2) 0 t66)) 163 900137 (by kernel_rfl) (fun h => h) (by intro _ _ h; cases h)
        exact ⟨_, rfl, ((u65 2).o 0), ((u65 2).n 0), (dlgd_S_TInterval (u65 2) 0 t66).length, (dlgd_S_TInterval (u65 2) 0 t66), rfl, (Xc qC (u65 2) 0 t66), H.toM _⟩
      ·clear G; replace G := hj51; clear hj51
       refine qg qd H (.v 48 (vI x43) <|
 .v 11 (vI x43) <| .nil) [4, 5, 9, 10, 11, 900134, 900135] fun u68 a w' H => ?_
       refine qA ?_
       refine Qv (fun m a w' => ∃ x69 : Int, ∃ x70 : Int, qm.l71 k0 a0 t3 j5 x42 x43 m x69 x70 = some j51 ∧ RL w 138 [(4, (sI (a0.length : Int))), (5, sS p_x42 L_x42.length c_x42), (9, sI x43), (10, sI x69), (11, sI x70), (900134, QU 22 1 p_x42 c_x42 L_x42 ql), (900135, QA fr qc.toPart L_x42)] a w') k0 ⟨_, _, G, H.toM _⟩ ?_
       clear G H
       rintro (_ | k) a w' ⟨x69, x70, G, H⟩
       ·exact absurd G (by unfold qm.l71; exact fun h => by cases h)
       ·unfold qm.l71 at G
        refine qs ?_
        refine qg qd H (.v 49 (vI x70) <|
 .v 50 (vI (a0.length : Int)) <|
 .v 51 (.bool (decide (x70 < (a0.length : Int)))) <| .nil) [4, 5, 9, 10, 11, 51, 900134, 900135] fun u72 a w' H => ?_
        refine Qr H (decide (x70 < (a0.length : Int))) (fun c86 => ?_) fun c86 => ?_
        ·rw [if_pos c86] at G
         refine qT ?_
         refine qs ?_
         replace G := qP G; obtain ⟨j74, hj74, G⟩ := G
         refine Qw (fun a w' => RL w 138 [(4, (sI (a0.length : Int))), (5, sS p_x42 L_x42.length c_x42), (9, sI x43), (10, sI j74), (11, sI x70), (900134, QU 22 1 p_x42 c_x42 L_x42 ql), (900135, QA fr qc.toPart L_x42)] a w') ?_ ?_
         ·clear H; intro a w' H
          refine qN qd H (.v 52 (vI x70) <|
 .v 53 (vI (qe (x70 + 1))) <|
 .v 11 (vI (qe (x70 + 1))) <| .nil) [4, 5, 9, 10, 11, 900134, 900135] fun u75 a w' H => ?_
          exact ⟨k, Nat.lt_succ_self k, _, _, G, H.toM _⟩
         ·clear G; replace G := hj74; clear hj74
          refine qA ?_
          refine qs ?_
          replace G := gd G; obtain ⟨b77, G⟩ := G
          replace G := qP G; obtain ⟨t78, ht78, G⟩ := G
          obtain ⟨p_t78, c_t78, y_t78⟩ := QE h_x42 ht78
          have P79 := XT (en := ql) (l := L_x42) (qY (QN (H.at (K := QU 22 1 p_x42 c_x42 L_x42 ql) 900134 (by kernel_rfl)))).2 qk
          replace G := gd G; obtain ⟨b80, G⟩ := G
          replace G := qP G; obtain ⟨t81, ht81, G⟩ := G
          replace G := qP G; obtain ⟨t82, ht82, G⟩ := G
          replace G := qP G; obtain ⟨z83, hz83, G⟩ := G
          replace hz83 := Option.some.inj hz83
          by_cases c84 : z83 = true
          ·rw [if_pos c84] at G; subst c84
           replace G := qP G; obtain ⟨z84, hz84, G⟩ := G
           replace hz84 := Option.some.inj hz84
           by_cases c97 : z84 = true
           ·rw [if_pos c97] at G; subst c97
            refine qN qd H (.v 54 (.slice p_x42 L_x42.length c_x42) <|
 .v 55 (vI x70) <|
 .cons [56] (qp (fun u76 => .pointer (some ⟨XB p_x42, XC p_x42 + x70.toNat * 1, none⟩)) 56 (hv := fun _ _ => QH (t := 25) (k := .i64) (i := x70) (p := p_x42) (n := L_x42.length) (cap := c_x42) (x := x42) P79 (qD h_x42) b77 (by kernel_rfl))) <|
 .cons [57] (qy 900134 (QU 22 1 p_x42 c_x42 L_x42 ql) (.slice p_t78 t78.length c_t78) 57 fun _ w h => Ya ql (qY (QN h)).2 qk y_t78 0 1 [.slice p_t78 t78.length c_t78]) <|
 .v 58 (vI x43) <|
 .cons [59] (qy 900135 (QA fr qc.toPart L_x42) (.pointer (some ⟨XB p_t78, XC p_t78 + x43.toNat * 2, none⟩)) 59 fun _ w h => YQ 22 .i64 x43 p_t78 t78.length c_t78 t78 qb (show Xv _ 2 p_t78 t78.length c_t78 (t78.flatMap qb) from ((Qb h) _ (List.mem_of_getElem? y_t78)).1).2 qh rfl b80) <|
 .cons [60] (qy 900135 (QA fr qc.toPart L_x42) (.agg #[vI t81.Lo, vI t81.Hi]) 60 fun _ w h => Ya qb (show Xv _ 2 p_t78 t78.length c_t78 (t78.flatMap qb) from ((Qb h) _ (List.mem_of_getElem? y_t78)).1).2 qh ht81 0 2 [vI t81.Lo, vI t81.Hi]) <|
 .cons [61] (qo 43 _ _ 61 [] (fun u76 w _ => X4.calls t81  t82 w  ht82)) <|
 .v 62 (.bool (t82 != 0)) <|
 .cons [63] (XO (u' := fun u76 => [(63, sB true)]) (qp (fun u76 => .bool (t82 != 0)) 63) (fun _ => by rw [hz83])) <|
 .cons [64] (q6 (qp (fun u76 => vI x69) 64) (by intro _; kernel_rfl)) <|
 .cons [65] (q6 (qp (fun u76 => .bool (decide (x69 < 0))) 65) (by intro _; kernel_rfl)) <|
 .cons [66] (XO (u' := fun u76 => [(66, sB true)]) (q6 (qp (fun u76 => .bool (decide (x69 < 0))) 66) (by intro _; kernel_rfl)) (fun _ => by rw [hz84])) <|
 .cons [67] (QB 67) <|
 .cons [68] (QB 68) <|
 .cons [69] (QB 69) <|
 .cons [70] (QB 70) <|
 .cons [71] (QB 71) <|
 .cons [72] (QB 72) <|
 .cons [73] (QB 73) <|
 .cons [74] (QB 74) <|
 .cons [75] (QB 75) <|
 .cons [76] (QB 76) <|
 .cons [77] (QB 77) <|
 .cons [78] (QB 78) <|
 .cons [79] (QB 79) <|
 .cons [80] (QB 80) <|
 .cons [81] (QB 81) <|
 .cons [82] (QB 82) <|
 .cons [83] (QB 83) <|
 .cons [84] (q6 (XF (fun u76 => .bool true) 84) (by intro _; kernel_rfl)) <|
 .cons [85] (XF (fun u76 => .bool true) 85) <| .nil) [4, 5, 9, 10, 11, 64, 65, 66, 67, 68, 69, 70, 71, 72, 73, 74, 75, 76, 77, 78, 79, 80, 81, 82, 83, 84, 85, 900134, 900135] fun u76 a w' H => ?_
            refine Wz H (by kernel_rfl) (by kernel_rfl) ?_
            refine qN qd H (.v 86 (vI x70) <|
 .v 10 (vI x70) <| .nil) [4, 5, 9, 10, 11, 64, 65, 66, 67, 68, 69, 70, 71, 72, 73, 74, 75, 76, 77, 78, 79, 80, 81, 82, 83, 84, 900134, 900135] fun u85 a w' H => ?_
            obtain rfl := sj G
            exact H.toM _
           rw [if_neg c97] at G
           by_cases c98 : z84 = false
           ·rw [if_pos c98] at G; subst c98
            replace G := gd G; obtain ⟨b85, G⟩ := G
            replace G := qP G; obtain ⟨t86, ht86, G⟩ := G
            obtain ⟨p_t86, c_t86, y_t86⟩ := QE h_x42 ht86
            replace G := gd G; obtain ⟨b87, G⟩ := G
            replace G := qP G; obtain ⟨t88, ht88, G⟩ := G
            replace G := qP G; obtain ⟨t89, ht89, G⟩ := G
            replace G := gd G; obtain ⟨b90, G⟩ := G
            replace G := qP G; obtain ⟨t91, ht91, G⟩ := G
            obtain ⟨p_t91, c_t91, y_t91⟩ := QE h_x42 ht91
            replace G := gd G; obtain ⟨b92, G⟩ := G
            replace G := qP G; obtain ⟨t93, ht93, G⟩ := G
            replace G := qP G; obtain ⟨t94, ht94, G⟩ := G
            refine qN qd H (.v 54 (.slice p_x42 L_x42.length c_x42) <|
 .v 55 (vI x70) <|
 .cons [56] (qp (fun u76 => .pointer (some ⟨XB p_x42, XC p_x42 + x70.toNat * 1, none⟩)) 56 (hv := fun _ _ => QH (t := 25) (k := .i64) (i := x70) (p := p_x42) (n := L_x42.length) (cap := c_x42) (x := x42) P79 (qD h_x42) b77 (by kernel_rfl))) <|
 .cons [57] (qy 900134 (QU 22 1 p_x42 c_x42 L_x42 ql) (.slice p_t78 t78.length c_t78) 57 fun _ w h => Ya ql (qY (QN h)).2 qk y_t78 0 1 [.slice p_t78 t78.length c_t78]) <|
 .v 58 (vI x43) <|
 .cons [59] (qy 900135 (QA fr qc.toPart L_x42) (.pointer (some ⟨XB p_t78, XC p_t78 + x43.toNat * 2, none⟩)) 59 fun _ w h => YQ 22 .i64 x43 p_t78 t78.length c_t78 t78 qb (show Xv _ 2 p_t78 t78.length c_t78 (t78.flatMap qb) from ((Qb h) _ (List.mem_of_getElem? y_t78)).1).2 qh rfl b80) <|
 .cons [60] (qy 900135 (QA fr qc.toPart L_x42) (.agg #[vI t81.Lo, vI t81.Hi]) 60 fun _ w h => Ya qb (show Xv _ 2 p_t78 t78.length c_t78 (t78.flatMap qb) from ((Qb h) _ (List.mem_of_getElem? y_t78)).1).2 qh ht81 0 2 [vI t81.Lo, vI t81.Hi]) <|
 .cons [61] (qo 43 _ _ 61 [] (fun u76 w _ => X4.calls t81  t82 w  ht82)) <|
 .v 62 (.bool (t82 != 0)) <|
 .cons [63] (XO (u' := fun u76 => [(63, sB true)]) (qp (fun u76 => .bool (t82 != 0)) 63) (fun _ => by rw [hz83])) <|
 .cons [64] (q6 (qp (fun u76 => vI x69) 64) (by intro _; kernel_rfl)) <|
 .cons [65] (q6 (qp (fun u76 => .bool (decide (x69 < 0))) 65) (by intro _; kernel_rfl)) <|
 .cons [66] (XO (u' := fun u76 => [(66, sB false)]) (q6 (qp (fun u76 => .bool (decide (x69 < 0))) 66) (by intro _; kernel_rfl)) (fun _ => by rw [hz84])) <|
 .cons [67] (q6 (qp (fun u76 => .slice p_x42 L_x42.length c_x42) 67) (by intro _; kernel_rfl)) <|
 .cons [68] (q6 (qp (fun u76 => vI x70) 68) (by intro _; kernel_rfl)) <|
 .cons [69] (q6 (qp (fun u76 => .pointer (some ⟨XB p_x42, XC p_x42 + x70.toNat * 1, none⟩)) 69 (hv := fun _ _ => QH (t := 25) (k := .i64) (i := x70) (p := p_x42) (n := L_x42.length) (cap := c_x42) (x := x42) P79 (qD h_x42) b85 (by kernel_rfl))) (by intro _; kernel_rfl)) <|
 .cons [70] (q6 (qy 900134 (QU 22 1 p_x42 c_x42 L_x42 ql) (.slice p_t86 t86.length c_t86) 70 fun _ w h => Ya ql (qY (QN h)).2 qk y_t86 0 1 [.slice p_t86 t86.length c_t86]) (by intro _; kernel_rfl)) <|
 .cons [71] (q6 (qp (fun u76 => vI x43) 71) (by intro _; kernel_rfl)) <|
 .cons [72] (q6 (qy 900135 (QA fr qc.toPart L_x42) (.pointer (some ⟨XB p_t86, XC p_t86 + x43.toNat * 2, none⟩)) 72 fun _ w h => YQ 22 .i64 x43 p_t86 t86.length c_t86 t86 qb (show Xv _ 2 p_t86 t86.length c_t86 (t86.flatMap qb) from ((Qb h) _ (List.mem_of_getElem? y_t86)).1).2 qh rfl b87) (by intro _; kernel_rfl)) <|
 .cons [73] (q6 (qy 900135 (QA fr qc.toPart L_x42) (.agg #[vI t88.Lo, vI t88.Hi]) 73 fun _ w h => Ya qb (show Xv _ 2 p_t86 t86.length c_t86 (t86.flatMap qb) from ((Qb h) _ (List.mem_of_getElem? y_t86)).1).2 qh ht88 0 2 [vI t88.Lo, vI t88.Hi]) (by intro _; kernel_rfl)) <|
 .cons [74] (q6 (qo 44 _ _ 74 [] (fun u76 w _ => Xw.calls t88  t89 w  ht89)) (by intro _; kernel_rfl)) <|
 .cons [75] (q6 (qp (fun u76 => .slice p_x42 L_x42.length c_x42) 75) (by intro _; kernel_rfl)) <|
 .cons [76] (q6 (qp (fun u76 => vI x69) 76) (by intro _; kernel_rfl)) <|
 .cons [77] (q6 (qp (fun u76 => .pointer (some ⟨XB p_x42, XC p_x42 + x69.toNat * 1, none⟩)) 77 (hv := fun _ _ => QH (t := 25) (k := .i64) (i := x69) (p := p_x42) (n := L_x42.length) (cap := c_x42) (x := x42) P79 (qD h_x42) b90 (by kernel_rfl))) (by intro _; kernel_rfl)) <|
 .cons [78] (q6 (qy 900134 (QU 22 1 p_x42 c_x42 L_x42 ql) (.slice p_t91 t91.length c_t91) 78 fun _ w h => Ya ql (qY (QN h)).2 qk y_t91 0 1 [.slice p_t91 t91.length c_t91]) (by intro _; kernel_rfl)) <|
 .cons [79] (q6 (qp (fun u76 => vI x43) 79) (by intro _; kernel_rfl)) <|
 .cons [80] (q6 (qy 900135 (QA fr qc.toPart L_x42) (.pointer (some ⟨XB p_t91, XC p_t91 + x43.toNat * 2, none⟩)) 80 fun _ w h => YQ 22 .i64 x43 p_t91 t91.length c_t91 t91 qb (show Xv _ 2 p_t91 t91.length c_t91 (t91.flatMap qb) from ((Qb h) _ (List.mem_of_getElem? y_t91)).1).2 qh rfl b92) (by intro _; kernel_rfl)) <|
 .cons [81] (q6 (qy 900135 (QA fr qc.toPart L_x42) (.agg #[vI t93.Lo, vI t93.Hi]) 81 fun _ w h => Ya qb (show Xv _ 2 p_t91 t91.length c_t91 (t91.flatMap qb) from ((Qb h) _ (List.mem_of_getElem? y_t91)).1).2 qh ht93 0 2 [vI t93.Lo, vI t93.Hi]) (by intro _; kernel_rfl)) <|
 .cons [82] (q6 (qo 44 _ _ 82 [] (fun u76 w _ => Xw.calls t93  t94 w  ht94)) (by intro _; kernel_rfl)) <|
 .cons [83] (q6 (qp (fun u76 => .bool (decide (t89 > t94))) 83) (by intro _; kernel_rfl)) <|
 .cons [84] (q6 (XF (fun u76 => .bool (decide (t89 > t94))) 84) (by intro _; kernel_rfl)) <|
 .cons [85] (XF (fun u76 => .bool (decide (t89 > t94))) 85) <| .nil) [4, 5, 9, 10, 11, 64, 65, 66, 67, 68, 69, 70, 71, 72, 73, 74, 75, 76, 77, 78, 79, 80, 81, 82, 83, 84, 85, 900134, 900135] fun u76 a w' H => ?_
            refine Qr H (decide (t89 > t94)) (fun c96 => ?_) fun c96 => ?_
            ·rw [if_pos c96] at G
             refine qN qd H (.v 86 (vI x70) <|
 .v 10 (vI x70) <| .nil) [4, 5, 9, 10, 11, 64, 65, 66, 67, 68, 69, 70, 71, 72, 73, 74, 75, 76, 77, 78, 79, 80, 81, 82, 83, 84, 900134, 900135] fun u95 a w' H => ?_
             obtain rfl := sj G
             exact H.toM _
            ·rw [if_neg (nt c96)] at G
             refine qT ?_
             obtain rfl := sj G
             exact H.toM _
           rw [if_neg c98] at G
           cases G
          rw [if_neg c84] at G
          by_cases c85 : z83 = false
          ·rw [if_pos c85] at G; subst c85
           refine qN qd H (.v 54 (.slice p_x42 L_x42.length c_x42) <|
 .v 55 (vI x70) <|
 .cons [56] (qp (fun u76 => .pointer (some ⟨XB p_x42, XC p_x42 + x70.toNat * 1, none⟩)) 56 (hv := fun _ _ => QH (t := 25) (k := .i64) (i := x70) (p := p_x42) (n := L_x42.length) (cap := c_x42) (x := x42) P79 (qD h_x42) b77 (by kernel_rfl))) <|
 .cons [57] (qy 900134 (QU 22 1 p_x42 c_x42 L_x42 ql) (.slice p_t78 t78.length c_t78) 57 fun _ w h => Ya ql (qY (QN h)).2 qk y_t78 0 1 [.slice p_t78 t78.length c_t78]) <|
 .v 58 (vI x43) <|
 .cons [59] (qy 900135 (QA fr qc.toPart L_x42) (.pointer (some ⟨XB p_t78, XC p_t78 + x43.toNat * 2, none⟩)) 59 fun _ w h => YQ 22 .i64 x43 p_t78 t78.length c_t78 t78 qb (show Xv _ 2 p_t78 t78.length c_t78 (t78.flatMap qb) from ((Qb h) _ (List.mem_of_getElem? y_t78)).1).2 qh rfl b80) <|
 .cons [60] (qy 900135 (QA fr qc.toPart L_x42) (.agg #[vI t81.Lo, vI t81.Hi]) 60 fun _ w h => Ya qb (show Xv _ 2 p_t78 t78.length c_t78 (t78.flatMap qb) from ((Qb h) _ (List.mem_of_getElem? y_t78)).1).2 qh ht81 0 2 [vI t81.Lo, vI t81.Hi]) <|
 .cons [61] (qo 43 _ _ 61 [] (fun u76 w _ => X4.calls t81  t82 w  ht82)) <|
 .v 62 (.bool (t82 != 0)) <|
 .cons [63] (XO (u' := fun u76 => [(63, sB false)]) (qp (fun u76 => .bool (t82 != 0)) 63) (fun _ => by rw [hz83])) <|
 .cons [64] (QB 64) <|
 .cons [65] (QB 65) <|
 .cons [66] (QB 66) <|
 .cons [67] (QB 67) <|
 .cons [68] (QB 68) <|
 .cons [69] (QB 69) <|
 .cons [70] (QB 70) <|
 .cons [71] (QB 71) <|
 .cons [72] (QB 72) <|
 .cons [73] (QB 73) <|
 .cons [74] (QB 74) <|
 .cons [75] (QB 75) <|
 .cons [76] (QB 76) <|
 .cons [77] (QB 77) <|
 .cons [78] (QB 78) <|
 .cons [79] (QB 79) <|
 .cons [80] (QB 80) <|
 .cons [81] (QB 81) <|
 .cons [82] (QB 82) <|
 .cons [83] (QB 83) <|
 .cons [84] (QB 84) <|
 .cons [85] (XF (fun u76 => .bool false) 85) <| .nil) [4, 5, 9, 10, 11, 64, 65, 66, 67, 68, 69, 70, 71, 72, 73, 74, 75, 76, 77, 78, 79, 80, 81, 82, 83, 84, 85, 900134, 900135] fun u76 a w' H => ?_
           refine VU H (by kernel_rfl) (by kernel_rfl) ?_
           refine qT ?_
           obtain rfl := sj G
           exact H.toM _
          rw [if_neg c85] at G
          cases G
        ·rw [if_neg (nt c86)] at G
         refine QO rfl ?_
         obtain rfl := sj G
         exact H.toM _
    ·rw [if_neg (nt c87)] at G
     refine QO rfl ?_
     obtain rfl := sj G
     replace H := H.move (K := QU 22 1 p_x42 c_x42 L_x42 ql) 900134 900126 (by kernel_rfl) (by intro _ _ h; cases h)
     replace H := H.dup (K := QA fr qc.toPart L_x42) 900135 900127 (by kernel_rfl) (fun h => h) (by intro _ _ h; cases h)
     exact ⟨_, rfl, p_x42, c_x42, L_x42.length, L_x42, rfl, h_x42, H.toM _⟩
 ·clear G; replace G := hj5; clear hj5
  refine qg qd H (.v 7 (vI 0) <| .nil) [0, 4, 5, 6, 7, 138, 139, 140, 141] fun u88 a w' H => ?_
  refine qA ?_
  replace H := H.blk_row 140 ((u2 2).n 0) [] 22 1 0 (by kernel_rfl) (by kernel_rfl) (by decide)
  replace H := H.nestOpen (e := 22) (m := 0) (cap := 0) (p := (some ⟨((u2 2).n 0), 0, none⟩)) (H := ([] : List (Sl qa))) 140 48 2 qb (by kernel_rfl)
  replace H := H.move (K := qj (some ⟨((u2 2).n 0), 0, none⟩) 0 0 ([] : List (Sl qa))) 140 900138 (by kernel_rfl) (by intro _ _ h; cases h)
  refine Qv (fun m a w' => ∃ x89 : List (List qa), ∃ x90 : Int, qm.l91 k0 a0 t3 m x89 x90 = some j5 ∧ ∃ (p_x89 : Option Addr) (c_x89 np_x89 : Nat) (L_x89 : List (Sl qa)), np_x89 = L_x89.length ∧ x89 = L_x89.map Sl.l ∧ RL w 138 [(0, sS p_a0 L_a0.length c_a0), (4, (sI (a0.length : Int))), (5, sS p_x89 np_x89 c_x89), (6, (sS ((u2 5).o 0) ((dlgd_S_TInterval (u2 5) 0 t3).length) ((u2 5).n 0))), (7, sI x90), (138, Qh qi 1 p_a0 c_a0 L_a0 ql), (139, QA qi qc.toPart L_a0), (141, ns_en_TIntervalg (u2 5) 0 t3), (900138, qj p_x89 np_x89 c_x89 L_x89)] a w') k0 ⟨_, _, G, (some ⟨((u2 2).n 0), 0, none⟩), 0, 0, ([] : List (Sl qa)), rfl, rfl, H.toM _⟩ ?_
  clear G H
  rintro (_ | k) a w' ⟨x89, x90, G, p_x89, c_x89, _, L_x89, rfl, h_x89, H⟩
  ·exact absurd G (by unfold qm.l91; exact fun h => by cases h)
  ·unfold qm.l91 at G
   refine qs ?_
   refine qg qd H (.v 22 (vI x90) <|
 .v 23 (vI (a0.length : Int)) <|
 .v 24 (.bool (decide (x90 < (a0.length : Int)))) <| .nil) [0, 4, 5, 6, 7, 24, 138, 139, 141, 900138] fun u92 a w' H => ?_
   refine Qr H (decide (x90 < (a0.length : Int))) (fun c104 => ?_) fun c104 => ?_
   ·rw [if_pos c104] at G
    refine qT ?_
    refine qs ?_
    refine qA ?_
    refine qs ?_
    replace G := gd G; obtain ⟨b94, G⟩ := G
    replace G := qP G; obtain ⟨t95, ht95, G⟩ := G
    obtain ⟨p_t95, c_t95, y_t95⟩ := QE h_a0 ht95
    replace G := gd G; obtain ⟨b96, G⟩ := G
    refine qN qd H (.cons [27, 171] (YE 2 0 (qH (fun b => .slice (some ⟨b, 0, none⟩) 0 0) (fun u93 => []) 48 27 171) (fun _ => rfl) (by decide)) <|
 .v 28 (.slice p_a0 L_a0.length c_a0) <|
 .v 29 (vI x90) <|
 .cons [30] (qy 138 (Qh qi 1 p_a0 c_a0 L_a0 ql) (.pointer (some ⟨XB p_a0, XC p_a0 + x90.toNat * 1, none⟩)) 30 fun _ w h => YQ 25 .i64 x90 p_a0 L_a0.length c_a0 a0 ql (qq h).2 qk (qD h_a0) b94) <|
 .cons [31] (qy 138 (Qh qi 1 p_a0 c_a0 L_a0 ql) (.slice p_t95 t95.length c_t95) 31 fun _ w h => Ya ql (qq h).2 qk y_t95 0 1 [.slice p_t95 t95.length c_t95]) <|
 .cons [32, 171, 171] (Xs [0] [139] (fun u93 => [QA qi qc.toPart L_a0]) 171 (fun u93 => Yo 48 2 (some ⟨((u93 0).n 0), 0, none⟩) 0 0 (([] : List qa).flatMap qb)) (some 32) (fun u93 g => .slice (g.o 0) (([] : List qa) ++ t95).length (g.n 0)) (fun u93 g => QU 48 2 (g.o 0) (g.n 0) (([] : List qa) ++ t95) qb) (fun u93 w hF hK => ZB (Zr (t := 22) (ty := 22) (en := qb) (m := t95) (p2 := p_t95) (n2 := t95.length) (cap2 := c_t95) qh (fun _ => rfl) Jd (QN hK) (show Xv _ 2 p_t95 t95.length c_t95 (t95.flatMap qb) from ((Qb hF.1) _ (List.mem_of_getElem? y_t95)).1).2 b96 (by kernel_rfl))) (hloc := fun u u' h => ⟨by first | rfl | simp only [h 0 (by decide)], by first | rfl | simp only [h 0 (by decide)], by first | rfl | simp only [h 0 (by decide)], by first | rfl | simp only [h 0 (by decide)]⟩)) <|
 .cons [8] (qp (fun u93 => .slice ((u93 5).o 0) ((([] : List qa) ++ t95).length) ((u93 5).n 0)) 8) <| .nil) [0, 4, 5, 6, 7, 8, 138, 139, 141, 171, 900138] fun u93 a w' H => ?_
    refine qs ?_
    replace G := gd G; obtain ⟨b98, G⟩ := G
    replace G := qP G; obtain ⟨t99, ht99, G⟩ := G
    obtain ⟨p_t99, c_t99, y_t99⟩ := QE (Xc qC (u2 5) 0 t3) ht99
    replace G := gd G; obtain ⟨b100, G⟩ := G
    refine qN qd H (.v 33 (.slice ((u93 5).o 0) ((([] : List qa) ++ t95).length) ((u93 5).n 0)) <|
 .v 34 (slgd_S_TInterval (u2 5) 0 t3) <|
 .v 35 (vI x90) <|
 .cons [36] (qy 141 (ns_en_TIntervalg (u2 5) 0 t3) (.pointer (some ⟨XB ((u2 5).o 0), XC ((u2 5).o 0) + x90.toNat * 1, none⟩)) 36 fun _ w h => Z6 (t := 25) (k := .i64) (i := x90) (p := ((u2 5).o 0)) (n := (dlgd_S_TInterval (u2 5) 0 t3).length) (cap := ((u2 5).n 0)) (x := t3) (en := ql) (qQ h).row.2 qk (qD (Xc qC (u2 5) 0 t3)) b98 (by kernel_rfl)) <|
 .cons [37] (qy 141 (ns_en_TIntervalg (u2 5) 0 t3) (.slice p_t99 t99.length c_t99) 37 fun _ w h => Ya ql (qQ h).row.2 qk y_t99 0 1 [.slice p_t99 t99.length c_t99]) <|
 .cons [38, 171, 171] (Xs [] [141] (fun u97 => [ns_en_TIntervalg (u2 5) 0 t3]) 171 (fun u97 => QU 48 2 ((u93 5).o 0) ((u93 5).n 0) (([] : List qa) ++ t95) qb) (some 38) (fun u97 g => .slice (g.o 0) ((([] : List qa) ++ t95) ++ t99).length (g.n 0)) (fun u97 g => QU 48 2 (g.o 0) (g.n 0) ((([] : List qa) ++ t95) ++ t99) qb) (fun u97 w hF hK => ZB (Zr (t := 22) (ty := 22) (en := qb) (m := t99) (p2 := p_t99) (n2 := t99.length) (cap2 := c_t99) qh (fun _ => rfl) Jd (QN hK) ((qQ hF.1).one y_t99).2 b100 (by kernel_rfl)))) <|
 .cons [8] (qp (fun u97 => .slice ((u97 5).o 0) (((([] : List qa) ++ t95) ++ t99).length) ((u97 5).n 0)) 8) <| .nil) [0, 4, 5, 6, 7, 8, 138, 139, 141, 171, 900138] fun u97 a w' H => ?_
    replace G := gd G; obtain ⟨b102, G⟩ := G
    refine qN qd H (.v 39 (.slice p_x89 L_x89.length c_x89) <|
 .v 40 (.slice ((u97 5).o 0) (((([] : List qa) ++ t95) ++ t99).length) ((u97 5).n 0)) <|
 .cons [41, 172] (qH (fun b => .slice (some ⟨b, 0, none⟩) 1 1) (fun u101 => [.slice ((u97 5).o 0) (((([] : List qa) ++ t95) ++ t99).length) ((u97 5).n 0)]) 22 41 172) <|
 .cons [42, 900138, 171, 900138] (Jg [2] [172] (fun u101 => [.blk ((u101 2).n 0) [.slice ((u97 5).o 0) (((([] : List qa) ++ t95) ++ t99).length) ((u97 5).n 0)] 22]) 900138 171 (fun u101 => qf p_x89 c_x89 L_x89) (fun u101 => QU 48 2 ((u97 5).o 0) ((u97 5).n 0) ((([] : List qa) ++ t95) ++ t99) qb) (some 42) (fun u101 g => .slice (g.o 0) (L_x89 ++ [(⟨((u97 5).o 0), ((u97 5).n 0), ((([] : List qa) ++ t95) ++ t99)⟩ : Sl qa)]).length (g.n 0)) (fun u101 g => qf (g.o 0) (g.n 0) (L_x89 ++ [(⟨((u97 5).o 0), ((u97 5).n 0), ((([] : List qa) ++ t95) ++ t99)⟩ : Sl qa)])) (fun u101 w hF hK hK2 hd => Jz hK hK2 hd qh (by decide) (fun hn h => Q8 (t := 25) (ty := 25) (en := ql) qk J2 h hF.1 (news := [(⟨((u97 5).o 0), ((u97 5).n 0), ((([] : List qa) ++ t95) ++ t99)⟩ : Sl qa)]) rfl (by simp) (by kernel_rfl) (by rw [← qD h_x89]; exact b102))) (hloc := fun u u' h => ⟨by first | rfl | simp only [h 2 (by decide)], by first | rfl | simp only [h 2 (by decide)], by first | rfl | simp only [h 2 (by decide)], by first | rfl | simp only [h 2 (by decide)], by first | rfl | simp only [h 2 (by decide)]⟩)) <|
 .cons [5] (qp (fun u101 => .slice ((u101 3).o 0) ((L_x89 ++ [(⟨((u97 5).o 0), ((u97 5).n 0), ((([] : List qa) ++ t95) ++ t99)⟩ : Sl qa)]).length) ((u101 3).n 0)) 5) <| .nil) [0, 4, 5, 6, 7, 138, 139, 141, 900138] fun u101 a w' H => ?_
    refine qN qd H (.v 25 (vI x90) <|
 .v 26 (vI (qe (x90 + 1))) <|
 .v 7 (vI (qe (x90 + 1))) <| .nil) [0, 4, 5, 6, 7, 138, 139, 141, 900138] fun u103 a w' H => ?_
    exact ⟨k, Nat.lt_succ_self k, _, _, G, ((u101 3).o 0), ((u101 3).n 0), (L_x89 ++ [(⟨((u97 5).o 0), ((u97 5).n 0), ((([] : List qa) ++ t95) ++ t99)⟩ : Sl qa)]).length, (L_x89 ++ [(⟨((u97 5).o 0), ((u97 5).n 0), ((([] : List qa) ++ t95) ++ t99)⟩ : Sl qa)]), rfl, (ZX h_x89 (⟨((u97 5).o 0), ((u97 5).n 0), ((([] : List qa) ++ t95) ++ t99)⟩ : Sl qa)), H.toM _⟩
   ·rw [if_neg (nt c104)] at G
    refine QO rfl ?_
    obtain rfl := sj G
    replace H := H.move (K := qf p_x89 c_x89 L_x89) 900138 900124 (by kernel_rfl) (by intro _ _ h; cases h)
    exact ⟨p_x89, c_x89, L_x89.length, L_x89, rfl, h_x89, H.toM _⟩
theorem qW.calls (k0 : Nat) (a0 : List (List qa)) (a1 : List qa) (p_a0 : Option Addr) (c_a0 : Nat) (L_a0 : List (Sl qa)) (p_a1 : Option Addr) (c_a1 : Nat) (r : List qa) (w : World) (h_a0 : a0 = L_a0.map Sl.l) (hB : Yj [Qh qi 1 p_a0 c_a0 L_a0 ql, QA qi qc.toPart L_a0, Qh qi 2 p_a1 c_a1 a1 qb] w) (G : qW k0 a0 a1 = some r) :
  Calls Tryz.prog 17 #[.slice p_a0 L_a0.length c_a0, .slice p_a1 a1.length c_a1] w fun e w' => ∃ g : Gh, e = .returned (.slice (g.o 0) r.length (g.n 0)) ∧ Y7 (YT []) w w' ∧ YD w.heap.size (YT []) (JG w.heap.size []) [fun _ => QU 48 2 (g.o 0) (g.n 0) r qb] w' := by
 obtain ⟨fr, hfr, hBf⟩ := J4 w []
 refine QQ (args := [.slice p_a0 L_a0.length c_a0, .slice p_a1 a1.length c_a1]) 51 [(51, Qh qi 1 p_a0 c_a0 L_a0 ql), (52, QA qi qc.toPart L_a0), (53, Qh qi 2 p_a1 c_a1 a1 qb)] (by
  intro x hx
  simp only [List.mem_cons, List.not_mem_nil, or_false] at hx
  rcases hx with rfl | rfl | rfl
  ·exact Ql (qq hB.1) (fun _ _ => trivial) (by decide) _
  ·exact Xt (Qb hB.2.1) (fun _ _ => trivial) _
  ·exact Ql (qq hB.2.2.1) (fun _ _ => trivial) (by decide) _) Tryz.func17 rfl (by kernel_rfl) (by kernel_rfl) fun a H => ?_
 unfold qW at G
 refine qg qd H (.v 4 (.slice none 0 0) <| .nil) [0, 1, 51, 52, 53] fun u1 a w' H => ?_
 refine qg qd H (.cons [9, 54] (qH (fun b => .slice (some ⟨b, 0, none⟩) 0 0) (fun u2 => []) 48 9 54) <|
 .cons [5] (qp (fun u2 => .slice (some ⟨((u2 0).n 0), 0, none⟩) 0 0) 5) <| .nil) [0, 1, 5, 51, 52, 53, 54] fun u2 a w' H => ?_
 refine qs ?_
 obtain ⟨j4, hj4, G⟩ := qP G
 refine Qw (fun a w' => ∃ (p_j3 : Option Addr) (c_j3 np_j3 : Nat), np_j3 = j4.length ∧ RL w 51 [(5, sS p_j3 np_j3 c_j3), (900140, Yo 48 2 p_j3 np_j3 c_j3 (j4.flatMap qb))] a w') ?_ ?_
 ·clear H; rintro a w' ⟨p_j3, c_j3, _, rfl, H⟩
  refine qg qd H (.v 50 (.slice p_j3 j4.length c_j3) <|
 .v 4 (.slice p_j3 j4.length c_j3) <| .nil) [4, 900140] fun u5 a w' H => ?_
  refine q7 ?_
  obtain rfl := sj G
  obtain ⟨g, o0, n0⟩ := VI p_j3 c_j3
  refine Xo H _ g _ _ _ fr [900140] [] (.slice p_j3 j4.length c_j3) [fun _ => QU 48 2 p_j3 c_j3 j4 qb] (by simp only [QU, o0, n0]) (by simp only [QU, o0, n0]) hfr (.inl ⟨rfl, rfl⟩) (qx X2 qI) (by simp)
 ·clear G; replace G := hj4; clear hj4
  refine qg qd H (.v 6 (vI 0) <| .nil) [0, 1, 5, 6, 51, 52, 53, 54] fun u6 a w' H => ?_
  refine qA ?_
  replace H := H.blk_row 54 ((u2 0).n 0) [] 48 2 0 (by kernel_rfl) (by kernel_rfl) (by decide)
  replace H := H.move (K := Yo 48 2 (some ⟨((u2 0).n 0), 0, none⟩) 0 0 (([] : List qa).flatMap qb)) 54 900141 (by kernel_rfl) (by intro _ _ h; cases h)
  refine Qv (fun m a w' => ∃ x7 : List qa, ∃ x8 : Int, qW.l9 k0 a0 a1 m x7 x8 = some j4 ∧ ∃ (p_x7 : Option Addr) (c_x7 np_x7 : Nat), np_x7 = x7.length ∧ RL w 51 [(0, sS p_a0 L_a0.length c_a0), (1, sS p_a1 a1.length c_a1), (5, sS p_x7 np_x7 c_x7), (6, sI x8), (51, Qh qi 1 p_a0 c_a0 L_a0 ql), (52, QA qi qc.toPart L_a0), (53, Qh qi 2 p_a1 c_a1 a1 qb), (900141, Yo 48 2 p_x7 np_x7 c_x7 (x7.flatMap qb))] a w') k0 ⟨_, _, G, (some ⟨((u2 0).n 0), 0, none⟩), 0, 0, rfl, H.toM _⟩ ?_
  clear G H
  rintro (_ | k) a w' ⟨x7, x8, G, p_x7, c_x7, _, rfl, H⟩
  ·exact absurd G (by unfold qW.l9; exact fun h => by cases h)
  ·unfold qW.l9 at G
   refine qs ?_
   refine qg qd H (.v 10 (vI x8) <|
 .v 11 (.slice p_a0 L_a0.length c_a0) <|
 .cons [12] (qy 51 (Qh qi 1 p_a0 c_a0 L_a0 ql) (vI (a0.length : Int)) 12 fun _ w h => Q7 (((qq h).2.len qk (by decide)).trans (qD h_a0).symm) (by kernel_rfl)) <|
 .v 13 (.bool (decide (x8 < (a0.length : Int)))) <| .nil) [0, 1, 5, 6, 13, 51, 52, 53, 900141] fun u10 a w' H => ?_
   refine Qr H (decide (x8 < (a0.length : Int))) (fun c48 => ?_) fun c48 => ?_
   ·rw [if_pos c48] at G
    refine qT ?_
    refine qs ?_
    obtain ⟨j12, hj12, G⟩ := qP G
    refine Qw (fun a w' => ∃ (p_j11 : Option Addr) (c_j11 np_j11 : Nat), np_j11 = j12.length ∧ RL w 51 [(0, sS p_a0 L_a0.length c_a0), (1, sS p_a1 a1.length c_a1), (5, sS p_j11 np_j11 c_j11), (6, sI x8), (51, Qh qi 1 p_a0 c_a0 L_a0 ql), (52, QA qi qc.toPart L_a0), (53, Qh qi 2 p_a1 c_a1 a1 qb), (900142, Yo 48 2 p_j11 np_j11 c_j11 (j12.flatMap qb))] a w') ?_ ?_
    ·clear H; rintro a w' ⟨p_j11, c_j11, _, rfl, H⟩
     refine qN qd H (.v 14 (vI x8) <|
 .v 15 (vI (qe (x8 + 1))) <|
 .v 6 (vI (qe (x8 + 1))) <| .nil) [0, 1, 5, 6, 51, 52, 53, 900142] fun u13 a w' H => ?_
     replace H := H.move (K := QU 48 2 p_j11 c_j11 j12 qb) 900142 900141 (by kernel_rfl) (by intro _ _ h; cases h)
     exact ⟨k, Nat.lt_succ_self k, _, _, G, p_j11, c_j11, j12.length, rfl, H.toM _⟩
    ·clear G; replace G := hj12; clear hj12
     refine qA ?_
     refine qs ?_
     replace G := gd G; obtain ⟨b15, G⟩ := G
     obtain ⟨t16, ht16, G⟩ := qP G
     obtain ⟨p_t16, c_t16, y_t16⟩ := QE h_a0 ht16
     have P17 := XT (en := ql) (l := L_a0) (qq (H.at (K := Qh qi 1 p_a0 c_a0 L_a0 ql) 51 (by kernel_rfl))).2 qk
     replace G := gd G; obtain ⟨b18, G⟩ := G
     obtain ⟨t19, ht19, G⟩ := qP G
     replace G := gd G; obtain ⟨b20, G⟩ := G
     obtain ⟨t21, ht21, G⟩ := qP G
     have P22 := XT (en := qb) (l := a1) (qq (H.at (K := Qh qi 2 p_a1 c_a1 a1 qb) 53 (by kernel_rfl))).2 qh
     obtain ⟨t23, ht23, G⟩ := qP G
     refine qN qd H (.v 16 (.slice p_a0 L_a0.length c_a0) <|
 .v 17 (vI x8) <|
 .cons [18] (qp (fun u14 => .pointer (some ⟨XB p_a0, XC p_a0 + x8.toNat * 1, none⟩)) 18 (hv := fun _ _ => QH (t := 25) (k := .i64) (i := x8) (p := p_a0) (n := L_a0.length) (cap := c_a0) (x := a0) P17 (qD h_a0) b15 (by kernel_rfl))) <|
 .cons [19] (qy 51 (Qh qi 1 p_a0 c_a0 L_a0 ql) (.slice p_t16 t16.length c_t16) 19 fun _ w h => Ya ql (qq h).2 qk y_t16 0 1 [.slice p_t16 t16.length c_t16]) <|
 .cons [20] (qy 52 (QA qi qc.toPart L_a0) (.pointer (some ⟨XB p_t16, XC p_t16 + ((0 : Int).toNat) * 2, none⟩)) 20 fun _ w h => YQ 22 .i64 (0 : Int) p_t16 t16.length c_t16 t16 qb (show Xv _ 2 p_t16 t16.length c_t16 (t16.flatMap qb) from ((Qb h) _ (List.mem_of_getElem? y_t16)).1).2 qh rfl b18) <|
 .cons [21] (qy 52 (QA qi qc.toPart L_a0) (.agg #[vI t19.Lo, vI t19.Hi]) 21 fun _ w h => Ya qb (show Xv _ 2 p_t16 t16.length c_t16 (t16.flatMap qb) from ((Qb h) _ (List.mem_of_getElem? y_t16)).1).2 qh ht19 0 2 [vI t19.Lo, vI t19.Hi]) <|
 .v 22 (.slice p_a1 a1.length c_a1) <|
 .cons [23] (qp (fun u14 => .pointer (some ⟨XB p_a1, XC p_a1 + ((0 : Int).toNat) * 2, none⟩)) 23 (hv := fun _ _ => QH (t := 22) (k := .i64) (i := (0 : Int)) (p := p_a1) (n := a1.length) (cap := c_a1) (x := a1) P22 rfl b20 (by kernel_rfl))) <|
 .cons [24] (qy 53 (Qh qi 2 p_a1 c_a1 a1 qb) (.agg #[vI t21.Lo, vI t21.Hi]) 24 fun _ w h => Ya qb (qq h).2 qh ht21 0 2 [vI t21.Lo, vI t21.Hi]) <|
 .cons [25] (qo 54 _ _ 25 [] (fun u14 w _ => QC.calls k0 t19 t21  t23 w  ht23)) <|
 .cons [7, 56] (qH (fun b => vP b 0) (fun u14 => [vI 0, vI 0]) 48 7 56) <|
 .cons [56] (XO (u' := fun u14 => [(56, .blk ((u14 10).n 0) [vI t23.Lo, vI t23.Hi] 48)]) (X1 56 0 (fun u14 => ((u14 10).n 0)) (fun u14 => [vI 0, vI 0]) (fun u14 => [vI t23.Lo, vI t23.Hi]) 48) (fun _ => by kernel_rfl)) <| .nil) [0, 1, 5, 6, 7, 51, 52, 53, 56, 900141] fun u14 a w' H => ?_
     refine qs ?_
     obtain ⟨j26, hj26, G⟩ := qP G
     refine Qw (fun a w' => RL w 51 [(0, sS p_a0 L_a0.length c_a0), (1, sS p_a1 a1.length c_a1), (5, sS p_x7 x7.length c_x7), (6, sI x8), (7, (sP ((u14 10).n 0) 0)), (51, Qh qi 1 p_a0 c_a0 L_a0 ql), (52, QA qi qc.toPart L_a0), (53, Qh qi 2 p_a1 c_a1 a1 qb), (56, .blk ((u14 10).n 0) [vI j26.1, vI j26.2] 48), (900141, QU 48 2 p_x7 c_x7 x7 qb)] a w') ?_ ?_
     ·clear H; intro a w' H
      replace G := gd G; obtain ⟨b28, G⟩ := G
      refine qN qd H (.v 46 (.slice p_x7 x7.length c_x7) <|
 .cons [47] (qv (.agg #[vI j26.1, vI j26.2]) 47 56 0 2 ((u14 10).n 0) [vI j26.1, vI j26.2] 48) <|
 .cons [48, 57] (qH (fun b => .slice (some ⟨b, 0, none⟩) 1 1) (fun u27 => [vI j26.1, vI j26.2]) 48 48 57) <|
 .cons [49, 900141, 900141] (Xs [2] [57] (fun u27 => [.blk ((u27 2).n 0) [vI j26.1, vI j26.2] 48]) 900141 (fun u27 => QU 48 2 p_x7 c_x7 x7 qb) (some 49) (fun u27 g => .slice (g.o 0) (x7 ++ [(⟨j26.1, j26.2⟩ : qa)]).length (g.n 0)) (fun u27 g => QU 48 2 (g.o 0) (g.n 0) (x7 ++ [(⟨j26.1, j26.2⟩ : qa)]) qb) (fun u27 w hF hK => ZB (Q8 (t := 22) (ty := 22) (en := qb) qh Jd (QN hK) hF.1 (news := [(⟨j26.1, j26.2⟩ : qa)]) rfl (by simp) (by kernel_rfl) b28)) (hloc := fun u u' h => ⟨by first | rfl | simp only [h 2 (by decide)], by first | rfl | simp only [h 2 (by decide)], by first | rfl | simp only [h 2 (by decide)], by first | rfl | simp only [h 2 (by decide)]⟩)) <|
 .cons [5] (qp (fun u27 => .slice ((u27 3).o 0) ((x7 ++ [(⟨j26.1, j26.2⟩ : qa)]).length) ((u27 3).n 0)) 5) <| .nil) [0, 1, 5, 6, 51, 52, 53, 900141] fun u27 a w' H => ?_
      obtain rfl := sj G
      replace H := H.move (K := QU 48 2 ((u27 3).o 0) ((u27 3).n 0) (x7 ++ [(⟨j26.1, j26.2⟩ : qa)]) qb) 900141 900142 (by kernel_rfl) (by intro _ _ h; cases h)
      exact ⟨((u27 3).o 0), ((u27 3).n 0), (x7 ++ [(⟨j26.1, j26.2⟩ : qa)]).length, rfl, H.toM _⟩
     ·clear G; replace G := hj26; clear hj26
      refine qg qd H (.v 8 (vI 1) <| .nil) [0, 1, 5, 6, 7, 8, 51, 52, 53, 56, 900141] fun u29 a w' H => ?_
      refine qA ?_
      refine Qv (fun m a w' => ∃ x30 : Int, ∃ x31 : Int, ∃ x32 : Int, qW.l33 k0 a0 a1 x7 x8 t16 t19 t21 t23 m x30 x31 x32 = some j26 ∧ RL w 51 [(0, sS p_a0 L_a0.length c_a0), (1, sS p_a1 a1.length c_a1), (5, sS p_x7 x7.length c_x7), (6, sI x8), (7, (sP ((u14 10).n 0) 0)), (8, sI x32), (51, Qh qi 1 p_a0 c_a0 L_a0 ql), (52, QA qi qc.toPart L_a0), (53, Qh qi 2 p_a1 c_a1 a1 qb), (56, .blk ((u14 10).n 0) [vI x30, vI x31] 48), (900141, QU 48 2 p_x7 c_x7 x7 qb)] a w') k0 ⟨_, _, _, G, H.toM _⟩ ?_
      clear G H
      rintro (_ | k) a w' ⟨x30, x31, x32, G, H⟩
      ·exact absurd G (by unfold qW.l33; exact fun h => by cases h)
      ·unfold qW.l33 at G
       refine qs ?_
       refine qg qd H (.v 26 (vI x32) <|
 .v 27 (.slice p_a0 L_a0.length c_a0) <|
 .cons [28] (qy 51 (Qh qi 1 p_a0 c_a0 L_a0 ql) (vI (a0.length : Int)) 28 fun _ w h => Q7 (((qq h).2.len qk (by decide)).trans (qD h_a0).symm) (by kernel_rfl)) <|
 .v 29 (.bool (decide (x32 < (a0.length : Int)))) <| .nil) [0, 1, 5, 6, 7, 8, 29, 51, 52, 53, 56, 900141] fun u34 a w' H => ?_
       refine Qr H (decide (x32 < (a0.length : Int))) (fun c47 => ?_) fun c47 => ?_
       ·rw [if_pos c47] at G
        refine qT ?_
        refine qs ?_
        refine qA ?_
        replace G := gd G; obtain ⟨b36, G⟩ := G
        obtain ⟨t37, ht37, G⟩ := qP G
        obtain ⟨p_t37, c_t37, y_t37⟩ := QE h_a0 ht37
        have P38 := XT (en := ql) (l := L_a0) (qq (H.at (K := Qh qi 1 p_a0 c_a0 L_a0 ql) 51 (by kernel_rfl))).2 qk
        replace G := gd G; obtain ⟨b39, G⟩ := G
        obtain ⟨t40, ht40, G⟩ := qP G
        replace G := gd G; obtain ⟨b41, G⟩ := G
        obtain ⟨t42, ht42, G⟩ := qP G
        have P43 := XT (en := qb) (l := a1) (qq (H.at (K := Qh qi 2 p_a1 c_a1 a1 qb) 53 (by kernel_rfl))).2 qh
        obtain ⟨t44, ht44, G⟩ := qP G
        obtain ⟨t45, ht45, G⟩ := qP G
        refine qN qd H (.cons [32] (qv (.agg #[vI x30, vI x31]) 32 56 0 2 ((u14 10).n 0) [vI x30, vI x31] 48) <|
 .v 33 (.slice p_a0 L_a0.length c_a0) <|
 .v 34 (vI x8) <|
 .cons [35] (qp (fun u35 => .pointer (some ⟨XB p_a0, XC p_a0 + x8.toNat * 1, none⟩)) 35 (hv := fun _ _ => QH (t := 25) (k := .i64) (i := x8) (p := p_a0) (n := L_a0.length) (cap := c_a0) (x := a0) P38 (qD h_a0) b36 (by kernel_rfl))) <|
 .cons [36] (qy 51 (Qh qi 1 p_a0 c_a0 L_a0 ql) (.slice p_t37 t37.length c_t37) 36 fun _ w h => Ya ql (qq h).2 qk y_t37 0 1 [.slice p_t37 t37.length c_t37]) <|
 .v 37 (vI x32) <|
 .cons [38] (qy 52 (QA qi qc.toPart L_a0) (.pointer (some ⟨XB p_t37, XC p_t37 + x32.toNat * 2, none⟩)) 38 fun _ w h => YQ 22 .i64 x32 p_t37 t37.length c_t37 t37 qb (show Xv _ 2 p_t37 t37.length c_t37 (t37.flatMap qb) from ((Qb h) _ (List.mem_of_getElem? y_t37)).1).2 qh rfl b39) <|
 .cons [39] (qy 52 (QA qi qc.toPart L_a0) (.agg #[vI t40.Lo, vI t40.Hi]) 39 fun _ w h => Ya qb (show Xv _ 2 p_t37 t37.length c_t37 (t37.flatMap qb) from ((Qb h) _ (List.mem_of_getElem? y_t37)).1).2 qh ht40 0 2 [vI t40.Lo, vI t40.Hi]) <|
 .v 40 (.slice p_a1 a1.length c_a1) <|
 .v 41 (vI x32) <|
 .cons [42] (qp (fun u35 => .pointer (some ⟨XB p_a1, XC p_a1 + x32.toNat * 2, none⟩)) 42 (hv := fun _ _ => QH (t := 22) (k := .i64) (i := x32) (p := p_a1) (n := a1.length) (cap := c_a1) (x := a1) P43 rfl b41 (by kernel_rfl))) <|
 .cons [43] (qy 53 (Qh qi 2 p_a1 c_a1 a1 qb) (.agg #[vI t42.Lo, vI t42.Hi]) 43 fun _ w h => Ya qb (qq h).2 qh ht42 0 2 [vI t42.Lo, vI t42.Hi]) <|
 .cons [44] (qo 54 _ _ 44 [] (fun u35 w _ => QC.calls k0 t40 t42  t44 w  ht44)) <|
 .cons [45] (qo 55 _ _ 45 [] (fun u35 w _ => XZ.calls (⟨x30, x31⟩ : qa) t44  t45 w  ht45)) <|
 .cons [56] (QV 56 0 ((u14 10).n 0) [vI x30, vI x31] [vI t45.Lo, vI t45.Hi] 48 [vI t45.Lo, vI t45.Hi]) <| .nil) [0, 1, 5, 6, 7, 8, 51, 52, 53, 56, 900141] fun u35 a w' H => ?_
        refine qN qd H (.v 30 (vI x32) <|
 .v 31 (vI (qe (x32 + 1))) <|
 .v 8 (vI (qe (x32 + 1))) <| .nil) [0, 1, 5, 6, 7, 8, 51, 52, 53, 56, 900141] fun u46 a w' H => ?_
        exact ⟨k, Nat.lt_succ_self k, _, _, _, G, H.toM _⟩
       ·rw [if_neg (nt c47)] at G
        refine QO rfl ?_
        obtain rfl := sj G
        exact H.toM _
   ·rw [if_neg (nt c48)] at G
    refine QO rfl ?_
    obtain rfl := sj G
    replace H := H.move (K := QU 48 2 p_x7 c_x7 x7 qb) 900141 900140 (by kernel_rfl) (by intro _ _ h; cases h)
    exact ⟨p_x7, c_x7, x7.length, rfl, H.toM _⟩
theorem qM.calls (k0 : Nat) (a0 : List (List qa)) (p_a0 : Option Addr) (c_a0 : Nat) (L_a0 : List (Sl qa)) (r : List (List qa)) (w : World) (h_a0 : a0 = L_a0.map Sl.l) (hB : Yj [Qh qi 1 p_a0 c_a0 L_a0 ql, QA qi qc.toPart L_a0] w) (G : qM k0 a0 = some r) :
  Calls Tryz.prog 19 #[.slice p_a0 L_a0.length c_a0] w fun e w' => ∃ g : Gh, e = .returned (slgd_S_TInterval g 0 r) ∧ Y7 (YT []) w w' ∧ YD w.heap.size (YT []) (JG w.heap.size []) [fun _ => ns_en_TIntervalg g 0 r] w' := by
 obtain ⟨fr, hfr, hBf⟩ := J4 w []
 refine QQ (args := [.slice p_a0 L_a0.length c_a0]) 36 [(36, Qh qi 1 p_a0 c_a0 L_a0 ql), (37, QA qi qc.toPart L_a0)] (by
  intro x hx
  simp only [List.mem_cons, List.not_mem_nil, or_false] at hx
  rcases hx with rfl | rfl
  ·exact Ql (qq hB.1) (fun _ _ => trivial) (by decide) _
  ·exact Xt (Qb hB.2.1) (fun _ _ => trivial) _) Tryz.func19 rfl (by kernel_rfl) (by kernel_rfl) fun a H => ?_
 unfold qM at G
 refine qg qd H (.v 2 (.slice none 0 0) <| .nil) [0, 36, 37] fun u1 a w' H => ?_
 refine qg qd H (.cons [7, 38] (qH (fun b => .slice (some ⟨b, 0, none⟩) 0 0) (fun u2 => []) 22 7 38) <|
 .cons [3] (qp (fun u2 => .slice (some ⟨((u2 0).n 0), 0, none⟩) 0 0) 3) <| .nil) [0, 3, 36, 37, 38] fun u2 a w' H => ?_
 refine qs ?_
 obtain ⟨j4, hj4, G⟩ := qP G
 refine Qw (fun a w' => ∃ (p_j3 : Option Addr) (c_j3 np_j3 : Nat) (L_j3 : List (Sl qa)), np_j3 = L_j3.length ∧ j4 = L_j3.map Sl.l ∧ RL w 36 [(3, sS p_j3 np_j3 c_j3), (900143, qj p_j3 np_j3 c_j3 L_j3)] a w') ?_ ?_
 ·clear H; rintro a w' ⟨p_j3, c_j3, _, L_j3, rfl, h_j3, H⟩
  refine qg qd H (.v 35 (.slice p_j3 L_j3.length c_j3) <|
 .v 2 (.slice p_j3 L_j3.length c_j3) <| .nil) [2, 900143] fun u5 a w' H => ?_
  refine q7 ?_
  obtain rfl := sj G
  obtain ⟨g, o0, n0, d0⟩ := ZQ QS p_j3 c_j3 h_j3
  refine Xo H _ g _ _ _ fr [900143] [] (.slice p_j3 L_j3.length c_j3) [fun _ => qf p_j3 c_j3 L_j3] (by simp only [slgd_S_TInterval, dlgd_S_TInterval, ns_en_TIntervalg, qf, qj, QU, o0, n0, d0]) (by simp only [slgd_S_TInterval, dlgd_S_TInterval, ns_en_TIntervalg, qf, qj, QU, o0, n0, d0]) hfr (.inl ⟨rfl, rfl⟩) (qx QZ qI) (by simp)
 ·clear G; replace G := hj4; clear hj4
  refine qg qd H (.v 4 (vI 0) <| .nil) [0, 3, 4, 36, 37, 38] fun u6 a w' H => ?_
  refine qA ?_
  replace H := H.blk_row 38 ((u2 0).n 0) [] 22 1 0 (by kernel_rfl) (by kernel_rfl) (by decide)
  replace H := H.nestOpen (e := 22) (m := 0) (cap := 0) (p := (some ⟨((u2 0).n 0), 0, none⟩)) (H := ([] : List (Sl qa))) 38 48 2 qb (by kernel_rfl)
  replace H := H.move (K := qj (some ⟨((u2 0).n 0), 0, none⟩) 0 0 ([] : List (Sl qa))) 38 900145 (by kernel_rfl) (by intro _ _ h; cases h)
  refine Qv (fun m a w' => ∃ x7 : List (List qa), ∃ x8 : Int, qM.l9 k0 a0 m x7 x8 = some j4 ∧ ∃ (p_x7 : Option Addr) (c_x7 np_x7 : Nat) (L_x7 : List (Sl qa)), np_x7 = L_x7.length ∧ x7 = L_x7.map Sl.l ∧ RL w 36 [(0, sS p_a0 L_a0.length c_a0), (3, sS p_x7 np_x7 c_x7), (4, sI x8), (36, Qh qi 1 p_a0 c_a0 L_a0 ql), (37, QA qi qc.toPart L_a0), (900145, qj p_x7 np_x7 c_x7 L_x7)] a w') k0 ⟨_, _, G, (some ⟨((u2 0).n 0), 0, none⟩), 0, 0, ([] : List (Sl qa)), rfl, rfl, H.toM _⟩ ?_
  clear G H
  rintro (_ | k) a w' ⟨x7, x8, G, p_x7, c_x7, _, L_x7, rfl, h_x7, H⟩
  ·exact absurd G (by unfold qM.l9; exact fun h => by cases h)
  ·unfold qM.l9 at G
   refine qs ?_
   refine qg qd H (.v 8 (vI x8) <|
 .v 9 (.slice p_a0 L_a0.length c_a0) <|
 .cons [10] (qy 36 (Qh qi 1 p_a0 c_a0 L_a0 ql) (vI (a0.length : Int)) 10 fun _ w h => Q7 (((qq h).2.len qk (by decide)).trans (qD h_a0).symm) (by kernel_rfl)) <|
 .v 11 (.bool (decide (x8 < (a0.length : Int)))) <| .nil) [0, 3, 4, 11, 36, 37, 900145] fun u10 a w' H => ?_
   refine Qr H (decide (x8 < (a0.length : Int))) (fun c32 => ?_) fun c32 => ?_
   ·rw [if_pos c32] at G
    refine qT ?_
    refine qs ?_
    obtain ⟨j12, hj12, G⟩ := qP G
    refine Qw (fun a w' => ∃ (p_j11 : Option Addr) (c_j11 np_j11 : Nat) (L_j11 : List (Sl qa)), np_j11 = L_j11.length ∧ j12 = L_j11.map Sl.l ∧ RL w 36 [(0, sS p_a0 L_a0.length c_a0), (3, sS p_j11 np_j11 c_j11), (4, sI x8), (36, Qh qi 1 p_a0 c_a0 L_a0 ql), (37, QA qi qc.toPart L_a0), (900147, qj p_j11 np_j11 c_j11 L_j11)] a w') ?_ ?_
    ·clear H; rintro a w' ⟨p_j11, c_j11, _, L_j11, rfl, h_j11, H⟩
     refine qN qd H (.v 12 (vI x8) <|
 .v 13 (vI (qe (x8 + 1))) <|
 .v 4 (vI (qe (x8 + 1))) <| .nil) [0, 3, 4, 36, 37, 900147] fun u13 a w' H => ?_
     replace H := H.move (K := qf p_j11 c_j11 L_j11) 900147 900145 (by kernel_rfl) (by intro _ _ h; cases h)
     exact ⟨k, Nat.lt_succ_self k, _, _, G, p_j11, c_j11, L_j11.length, L_j11, rfl, h_j11, H.toM _⟩
    ·clear G; replace G := hj12; clear hj12
     refine qA ?_
     refine qg qd H (.cons [14, 41] (qH (fun b => .slice (some ⟨b, 0, none⟩) 0 0) (fun u14 => []) 48 14 41) <|
 .cons [5] (qp (fun u14 => .slice (some ⟨((u14 0).n 0), 0, none⟩) 0 0) 5) <| .nil) [0, 3, 4, 5, 36, 37, 41, 900145] fun u14 a w' H => ?_
     refine qs ?_
     obtain ⟨j16, hj16, G⟩ := qP G
     refine Qw (fun a w' => ∃ (p_j15 : Option Addr) (c_j15 np_j15 : Nat), np_j15 = j16.length ∧ RL w 36 [(0, sS p_a0 L_a0.length c_a0), (3, sS p_x7 L_x7.length c_x7), (4, sI x8), (5, sS p_j15 np_j15 c_j15), (36, Qh qi 1 p_a0 c_a0 L_a0 ql), (37, QA qi qc.toPart L_a0), (900145, qf p_x7 c_x7 L_x7), (900149, Yo 48 2 p_j15 np_j15 c_j15 (j16.flatMap qb))] a w') ?_ ?_
     ·clear H; rintro a w' ⟨p_j15, c_j15, _, rfl, H⟩
      replace G := gd G; obtain ⟨b18, G⟩ := G
      refine qN qd H (.v 31 (.slice p_x7 L_x7.length c_x7) <|
 .v 32 (.slice p_j15 j16.length c_j15) <|
 .cons [33, 42] (qH (fun b => .slice (some ⟨b, 0, none⟩) 1 1) (fun u17 => [.slice p_j15 j16.length c_j15]) 22 33 42) <|
 .cons [34, 900145, 900149, 900145] (Jg [2] [42] (fun u17 => [.blk ((u17 2).n 0) [.slice p_j15 j16.length c_j15] 22]) 900145 900149 (fun u17 => qf p_x7 c_x7 L_x7) (fun u17 => QU 48 2 p_j15 c_j15 j16 qb) (some 34) (fun u17 g => .slice (g.o 0) (L_x7 ++ [(⟨p_j15, c_j15, j16⟩ : Sl qa)]).length (g.n 0)) (fun u17 g => qf (g.o 0) (g.n 0) (L_x7 ++ [(⟨p_j15, c_j15, j16⟩ : Sl qa)])) (fun u17 w hF hK hK2 hd => Jz hK hK2 hd qh (by decide) (fun hn h => Q8 (t := 25) (ty := 25) (en := ql) qk J2 h hF.1 (news := [(⟨p_j15, c_j15, j16⟩ : Sl qa)]) rfl (by simp) (by kernel_rfl) (by rw [← qD h_x7]; exact b18))) (hloc := fun u u' h => ⟨by first | rfl | simp only [h 2 (by decide)], by first | rfl | simp only [h 2 (by decide)], by first | rfl | simp only [h 2 (by decide)], by first | rfl | simp only [h 2 (by decide)], by first | rfl | simp only [h 2 (by decide)]⟩)) <|
 .cons [3] (qp (fun u17 => .slice ((u17 3).o 0) ((L_x7 ++ [(⟨p_j15, c_j15, j16⟩ : Sl qa)]).length) ((u17 3).n 0)) 3) <| .nil) [0, 3, 4, 36, 37, 900145] fun u17 a w' H => ?_
      obtain rfl := sj G
      replace H := H.move (K := qf ((u17 3).o 0) ((u17 3).n 0) (L_x7 ++ [(⟨p_j15, c_j15, j16⟩ : Sl qa)])) 900145 900147 (by kernel_rfl) (by intro _ _ h; cases h)
      exact ⟨((u17 3).o 0), ((u17 3).n 0), (L_x7 ++ [(⟨p_j15, c_j15, j16⟩ : Sl qa)]).length, (L_x7 ++ [(⟨p_j15, c_j15, j16⟩ : Sl qa)]), rfl, (ZX h_x7 (⟨p_j15, c_j15, j16⟩ : Sl qa)), H.toM _⟩
     ·clear G; replace G := hj16; clear hj16
      refine qg qd H (.v 6 (vI 0) <| .nil) [0, 3, 4, 5, 6, 36, 37, 41, 900145] fun u19 a w' H => ?_
      refine qA ?_
      replace H := H.blk_row 41 ((u14 0).n 0) [] 48 2 0 (by kernel_rfl) (by kernel_rfl) (by decide)
      replace H := H.move (K := Yo 48 2 (some ⟨((u14 0).n 0), 0, none⟩) 0 0 (([] : List qa).flatMap qb)) 41 900150 (by kernel_rfl) (by intro _ _ h; cases h)
      refine Qv (fun m a w' => ∃ x20 : List qa, ∃ x21 : Int, qM.l22 k0 a0 x7 x8 m x20 x21 = some j16 ∧ ∃ (p_x20 : Option Addr) (c_x20 np_x20 : Nat), np_x20 = x20.length ∧ RL w 36 [(0, sS p_a0 L_a0.length c_a0), (3, sS p_x7 L_x7.length c_x7), (4, sI x8), (5, sS p_x20 np_x20 c_x20), (6, sI x21), (36, Qh qi 1 p_a0 c_a0 L_a0 ql), (37, QA qi qc.toPart L_a0), (900145, qf p_x7 c_x7 L_x7), (900150, Yo 48 2 p_x20 np_x20 c_x20 (x20.flatMap qb))] a w') k0 ⟨_, _, G, (some ⟨((u14 0).n 0), 0, none⟩), 0, 0, rfl, H.toM _⟩ ?_
      clear G H
      rintro (_ | k) a w' ⟨x20, x21, G, p_x20, c_x20, _, rfl, H⟩
      ·exact absurd G (by unfold qM.l22; exact fun h => by cases h)
      ·unfold qM.l22 at G
       refine qs ?_
       refine qg qd H (.v 15 (vI x21) <|
 .v 16 (.slice p_a0 L_a0.length c_a0) <|
 .cons [17] (qy 36 (Qh qi 1 p_a0 c_a0 L_a0 ql) (vI (a0.length : Int)) 17 fun _ w h => Q7 (((qq h).2.len qk (by decide)).trans (qD h_a0).symm) (by kernel_rfl)) <|
 .v 18 (.bool (decide (x21 < (a0.length : Int)))) <| .nil) [0, 3, 4, 5, 6, 18, 36, 37, 900145, 900150] fun u23 a w' H => ?_
       refine Qr H (decide (x21 < (a0.length : Int))) (fun c31 => ?_) fun c31 => ?_
       ·rw [if_pos c31] at G
        refine qT ?_
        refine qs ?_
        refine qA ?_
        replace G := gd G; obtain ⟨b25, G⟩ := G
        obtain ⟨t26, ht26, G⟩ := qP G
        obtain ⟨p_t26, c_t26, y_t26⟩ := QE h_a0 ht26
        replace G := gd G; obtain ⟨b27, G⟩ := G
        obtain ⟨t28, ht28, G⟩ := qP G
        replace G := gd G; obtain ⟨b29, G⟩ := G
        refine qN qd H (.v 21 (.slice p_x20 x20.length c_x20) <|
 .v 22 (.slice p_a0 L_a0.length c_a0) <|
 .v 23 (vI x21) <|
 .cons [24] (qy 36 (Qh qi 1 p_a0 c_a0 L_a0 ql) (.pointer (some ⟨XB p_a0, XC p_a0 + x21.toNat * 1, none⟩)) 24 fun _ w h => YQ 25 .i64 x21 p_a0 L_a0.length c_a0 a0 ql (qq h).2 qk (qD h_a0) b25) <|
 .cons [25] (qy 36 (Qh qi 1 p_a0 c_a0 L_a0 ql) (.slice p_t26 t26.length c_t26) 25 fun _ w h => Ya ql (qq h).2 qk y_t26 0 1 [.slice p_t26 t26.length c_t26]) <|
 .v 26 (vI x8) <|
 .cons [27] (qy 37 (QA qi qc.toPart L_a0) (.pointer (some ⟨XB p_t26, XC p_t26 + x8.toNat * 2, none⟩)) 27 fun _ w h => YQ 22 .i64 x8 p_t26 t26.length c_t26 t26 qb (show Xv _ 2 p_t26 t26.length c_t26 (t26.flatMap qb) from ((Qb h) _ (List.mem_of_getElem? y_t26)).1).2 qh rfl b27) <|
 .cons [28] (qy 37 (QA qi qc.toPart L_a0) (.agg #[vI t28.Lo, vI t28.Hi]) 28 fun _ w h => Ya qb (show Xv _ 2 p_t26 t26.length c_t26 (t26.flatMap qb) from ((Qb h) _ (List.mem_of_getElem? y_t26)).1).2 qh ht28 0 2 [vI t28.Lo, vI t28.Hi]) <|
 .cons [29, 45] (qH (fun b => .slice (some ⟨b, 0, none⟩) 1 1) (fun u24 => [vI t28.Lo, vI t28.Hi]) 48 29 45) <|
 .cons [30, 900150, 900150] (Xs [8] [45] (fun u24 => [.blk ((u24 8).n 0) [vI t28.Lo, vI t28.Hi] 48]) 900150 (fun u24 => QU 48 2 p_x20 c_x20 x20 qb) (some 30) (fun u24 g => .slice (g.o 0) (x20 ++ [t28]).length (g.n 0)) (fun u24 g => QU 48 2 (g.o 0) (g.n 0) (x20 ++ [t28]) qb) (fun u24 w hF hK => ZB (Q8 (t := 22) (ty := 22) (en := qb) qh Jd (QN hK) hF.1 (news := [t28]) rfl (by simp) (by kernel_rfl) b29)) (hloc := fun u u' h => ⟨by first | rfl | simp only [h 8 (by decide)], by first | rfl | simp only [h 8 (by decide)], by first | rfl | simp only [h 8 (by decide)], by first | rfl | simp only [h 8 (by decide)]⟩)) <|
 .cons [5] (qp (fun u24 => .slice ((u24 9).o 0) ((x20 ++ [t28]).length) ((u24 9).n 0)) 5) <| .nil) [0, 3, 4, 5, 6, 36, 37, 900145, 900150] fun u24 a w' H => ?_
        refine qN qd H (.v 19 (vI x21) <|
 .v 20 (vI (qe (x21 + 1))) <|
 .v 6 (vI (qe (x21 + 1))) <| .nil) [0, 3, 4, 5, 6, 36, 37, 900145, 900150] fun u30 a w' H => ?_
        exact ⟨k, Nat.lt_succ_self k, _, _, G, ((u24 9).o 0), ((u24 9).n 0), (x20 ++ [t28]).length, rfl, H.toM _⟩
       ·rw [if_neg (nt c31)] at G
        refine QO rfl ?_
        obtain rfl := sj G
        replace H := H.move (K := QU 48 2 p_x20 c_x20 x20 qb) 900150 900149 (by kernel_rfl) (by intro _ _ h; cases h)
        exact ⟨p_x20, c_x20, x20.length, rfl, H.toM _⟩
   ·rw [if_neg (nt c32)] at G
    refine QO rfl ?_
    obtain rfl := sj G
    replace H := H.move (K := qf p_x7 c_x7 L_x7) 900145 900143 (by kernel_rfl) (by intro _ _ h; cases h)
    exact ⟨p_x7, c_x7, L_x7.length, L_x7, rfl, h_x7, H.toM _⟩
theorem Xb.calls (k0 : Nat) (a0 : List (List qa)) (a1 : List (List qa)) (p_a0 : Option Addr) (c_a0 : Nat) (L_a0 : List (Sl qa)) (p_a1 : Option Addr) (c_a1 : Nat) (L_a1 : List (Sl qa)) (r : List (List qa)) (w : World) (h_a0 : a0 = L_a0.map Sl.l) (h_a1 : a1 = L_a1.map Sl.l) (hB : Yj [Qh qi 1 p_a0 c_a0 L_a0 ql, QA qi qc.toPart L_a0, Qh qi 1 p_a1 c_a1 L_a1 ql, QA qi qc.toPart L_a1] w) (G : Xb k0 a0 a1 = some r) :
  Calls Tryz.prog 14 #[.slice p_a0 L_a0.length c_a0, .slice p_a1 L_a1.length c_a1] w fun e w' => ∃ g : Gh, e = .returned (slgd_S_TInterval g 0 r) ∧ Y7 (YT []) w w' ∧ YD w.heap.size (YT []) (JG w.heap.size []) [fun _ => ns_en_TIntervalg g 0 r] w' := by
 obtain ⟨fr, hfr, hBf⟩ := J4 w []
 refine QQ (args := [.slice p_a0 L_a0.length c_a0, .slice p_a1 L_a1.length c_a1]) 28 [(28, Qh qi 1 p_a0 c_a0 L_a0 ql), (29, QA qi qc.toPart L_a0), (30, Qh qi 1 p_a1 c_a1 L_a1 ql), (31, QA qi qc.toPart L_a1)] (by
  intro x hx
  simp only [List.mem_cons, List.not_mem_nil, or_false] at hx
  rcases hx with rfl | rfl | rfl | rfl
  ·exact Ql (qq hB.1) (fun _ _ => trivial) (by decide) _
  ·exact Xt (Qb hB.2.1) (fun _ _ => trivial) _
  ·exact Ql (qq hB.2.2.1) (fun _ _ => trivial) (by decide) _
  ·exact Xt (Qb hB.2.2.2.1) (fun _ _ => trivial) _) Tryz.func14 rfl (by kernel_rfl) (by kernel_rfl) fun a H => ?_
 unfold Xb at G
 refine qg qd H (.v 4 (.slice none 0 0) <| .nil) [0, 1, 28, 29, 30, 31] fun u1 a w' H => ?_
 obtain ⟨t3, ht3, G⟩ := qP G
 refine qg qd H (.cons [8, 32] (YE 1 0 (qH (fun b => .slice (some ⟨b, 0, none⟩) 0 0) (fun u2 => []) 22 8 32) (fun _ => rfl) (by decide)) <|
 .v 9 (.slice p_a1 L_a1.length c_a1) <|
 .cons [10, 33] (Qo false fr [] [30, 31] (fun u2 => [Qh qi 1 p_a1 c_a1 L_a1 ql, QA qi qc.toPart L_a1]) [] (fun u2 => []) 19 _ _ _ _ _ [33] 10 (fun u2 w hB hF hM => qM.calls k0 a1 p_a1 c_a1 L_a1 t3 w h_a1 hB ht3) (fun u2 w hF => ⟨⟨QP (qq hF.1) (fun j h => ⟨_, (.head _), h⟩), Xk (Qb hF.2.1) (fun j h => ⟨_, (.tail _ (.head _)), h⟩), trivial⟩, trivial⟩) (fun u2 g => (qx QZ qI)) (.inr (fun u2 g => (Qj trivial (fun K h => by cases h)))) (fun h => by cases h)) <|
 .cons [5] (qp (fun u2 => .slice (some ⟨((u2 0).n 0), 0, none⟩) 0 0) 5) <|
 .cons [6] (qp (fun u2 => slgd_S_TInterval (u2 2) 0 t3) 6) <| .nil) [0, 1, 5, 6, 28, 29, 30, 31, 32, 33] fun u2 a w' H => ?_
 refine qs ?_
 obtain ⟨j5, hj5, G⟩ := qP G
 refine Qw (fun a w' => ∃ (p_j4 : Option Addr) (c_j4 np_j4 : Nat) (L_j4 : List (Sl qa)), np_j4 = L_j4.length ∧ j5 = L_j4.map Sl.l ∧ RL w 28 [(5, sS p_j4 np_j4 c_j4), (900151, qj p_j4 np_j4 c_j4 L_j4)] a w') ?_ ?_
 ·clear H; rintro a w' ⟨p_j4, c_j4, _, L_j4, rfl, h_j4, H⟩
  obtain ⟨t7, ht7, G⟩ := qP G
  refine qg qd H (.v 26 (.slice p_j4 L_j4.length c_j4) <|
 .cons [27, 34] (Qo false fr [] [900151] (fun u6 => [qf p_j4 c_j4 L_j4]) [] (fun u6 => []) 19 _ _ _ _ _ [34] 27 (fun u6 w hB hF hM => qM.calls k0 j5 p_j4 c_j4 L_j4 t7 w h_j4 hB ht7) (fun u6 w hF => ⟨⟨QP (qQ hF.1).row (fun j h => ⟨_, (.head _), (Yz h)⟩), Xk (qQ hF.1).all (fun j h => ⟨_, (.head _), (Yw h)⟩), trivial⟩, trivial⟩) (fun u6 g => (qx QZ qI)) (.inr (fun u6 g => (Qj trivial (fun K h => by cases h)))) (fun h => by cases h)) <|
 .cons [4] (qp (fun u6 => slgd_S_TInterval (u6 1) 0 t7) 4) <| .nil) [4, 34] fun u6 a w' H => ?_
  refine q7 ?_
  obtain rfl := sj G
  obtain ⟨g, o0, n0, d0⟩ := ZQ QS ((u6 1).o 0) ((u6 1).n 0) (Xc qC (u6 1) 0 t7)
  refine Xo H _ g _ _ _ fr [34] [] (slgd_S_TInterval (u6 1) 0 t7) [fun _ => ns_en_TIntervalg (u6 1) 0 t7] (by simp only [slgd_S_TInterval, dlgd_S_TInterval, ns_en_TIntervalg, qf, qj, QU, o0, n0, d0]) (by simp only [slgd_S_TInterval, dlgd_S_TInterval, ns_en_TIntervalg, qf, qj, QU, o0, n0, d0]) hfr (.inl ⟨rfl, rfl⟩) (qx QZ qI) (by simp)
 ·clear G; replace G := hj5; clear hj5
  refine qg qd H (.v 7 (vI 0) <| .nil) [0, 1, 5, 6, 7, 28, 29, 30, 31, 32, 33] fun u8 a w' H => ?_
  refine qA ?_
  replace H := H.nestOpen (e := 22) (m := 0) (cap := 0) (p := (some ⟨((u2 0).n 0), 0, none⟩)) (H := ([] : List (Sl qa))) 32 48 2 qb (by kernel_rfl)
  replace H := H.move (K := qj (some ⟨((u2 0).n 0), 0, none⟩) 0 0 ([] : List (Sl qa))) 32 900153 (by kernel_rfl) (by intro _ _ h; cases h)
  refine Qv (fun m a w' => ∃ x9 : List (List qa), ∃ x10 : Int, Xb.l11 k0 a0 a1 t3 m x9 x10 = some j5 ∧ ∃ (p_x9 : Option Addr) (c_x9 np_x9 : Nat) (L_x9 : List (Sl qa)), np_x9 = L_x9.length ∧ x9 = L_x9.map Sl.l ∧ RL w 28 [(0, sS p_a0 L_a0.length c_a0), (1, sS p_a1 L_a1.length c_a1), (5, sS p_x9 np_x9 c_x9), (6, (sS ((u2 2).o 0) ((dlgd_S_TInterval (u2 2) 0 t3).length) ((u2 2).n 0))), (7, sI x10), (28, Qh qi 1 p_a0 c_a0 L_a0 ql), (29, QA qi qc.toPart L_a0), (30, Qh qi 1 p_a1 c_a1 L_a1 ql), (31, QA qi qc.toPart L_a1), (33, ns_en_TIntervalg (u2 2) 0 t3), (900153, qj p_x9 np_x9 c_x9 L_x9)] a w') k0 ⟨_, _, G, (some ⟨((u2 0).n 0), 0, none⟩), 0, 0, ([] : List (Sl qa)), rfl, rfl, H.toM _⟩ ?_
  clear G H
  rintro (_ | k) a w' ⟨x9, x10, G, p_x9, c_x9, _, L_x9, rfl, h_x9, H⟩
  ·exact absurd G (by unfold Xb.l11; exact fun h => by cases h)
  ·unfold Xb.l11 at G
   refine qs ?_
   refine qg qd H (.v 11 (vI x10) <|
 .v 12 (.slice p_a1 L_a1.length c_a1) <|
 .cons [13] (qy 30 (Qh qi 1 p_a1 c_a1 L_a1 ql) (vI (a1.length : Int)) 13 fun _ w h => Q7 (((qq h).2.len qk (by decide)).trans (qD h_a1).symm) (by kernel_rfl)) <|
 .v 14 (.bool (decide (x10 < (a1.length : Int)))) <| .nil) [0, 1, 5, 6, 7, 14, 28, 29, 30, 31, 33, 900153] fun u12 a w' H => ?_
   refine Qr H (decide (x10 < (a1.length : Int))) (fun c19 => ?_) fun c19 => ?_
   ·rw [if_pos c19] at G
    refine qT ?_
    refine qs ?_
    refine qA ?_
    replace G := gd G; obtain ⟨b14, G⟩ := G
    obtain ⟨t15, ht15, G⟩ := qP G
    obtain ⟨p_t15, c_t15, y_t15⟩ := QE (Xc qC (u2 2) 0 t3) ht15
    obtain ⟨t16, ht16, G⟩ := qP G
    replace G := gd G; obtain ⟨b17, G⟩ := G
    refine qN qd H (.v 17 (.slice p_x9 L_x9.length c_x9) <|
 .v 18 (.slice p_a0 L_a0.length c_a0) <|
 .v 19 (slgd_S_TInterval (u2 2) 0 t3) <|
 .v 20 (vI x10) <|
 .cons [21] (qy 33 (ns_en_TIntervalg (u2 2) 0 t3) (.pointer (some ⟨XB ((u2 2).o 0), XC ((u2 2).o 0) + x10.toNat * 1, none⟩)) 21 fun _ w h => Z6 (t := 25) (k := .i64) (i := x10) (p := ((u2 2).o 0)) (n := (dlgd_S_TInterval (u2 2) 0 t3).length) (cap := ((u2 2).n 0)) (x := t3) (en := ql) (qQ h).row.2 qk (qD (Xc qC (u2 2) 0 t3)) b14 (by kernel_rfl)) <|
 .cons [22] (qy 33 (ns_en_TIntervalg (u2 2) 0 t3) (.slice p_t15 t15.length c_t15) 22 fun _ w h => Ya ql (qQ h).row.2 qk y_t15 0 1 [.slice p_t15 t15.length c_t15]) <|
 .cons [23, 35] (Qo false fr [] [28, 29, 33] (fun u13 => [Qh qi 1 p_a0 c_a0 L_a0 ql, QA qi qc.toPart L_a0, ns_en_TIntervalg (u2 2) 0 t3]) [] (fun u13 => []) 17 _ _ _ _ _ [35] 23 (fun u13 w hB hF hM => qW.calls k0 a0 t15 p_a0 c_a0 L_a0 p_t15 c_t15 t16 w h_a0 hB ht16) (fun u13 w hF => ⟨⟨QP (qq hF.1) (fun j h => ⟨_, (.head _), h⟩), Xk (Qb hF.2.1) (fun j h => ⟨_, (.tail _ (.head _)), h⟩), QP ((qQ hF.2.2.1).one y_t15) (fun j h => ⟨_, (.tail _ (.tail _ (.head _))), (qdq y_t15 h)⟩), trivial⟩, trivial⟩) (fun u13 g => (qx X2 qI)) (.inr (fun u13 g => (Qj trivial (fun K h => by cases h)))) (fun h => by cases h)) <|
 .cons [24, 36] (qH (fun b => .slice (some ⟨b, 0, none⟩) 1 1) (fun u13 => [.slice ((u13 6).o 0) t16.length ((u13 6).n 0)]) 22 24 36) <|
 .cons [25, 900153, 35, 900153] (Jg [6, 7] [36] (fun u13 => [.blk ((u13 7).n 0) [.slice ((u13 6).o 0) t16.length ((u13 6).n 0)] 22]) 900153 35 (fun u13 => qf p_x9 c_x9 L_x9) (fun u13 => QU 48 2 ((u13 6).o 0) ((u13 6).n 0) t16 qb) (some 25) (fun u13 g => .slice (g.o 0) (L_x9 ++ [(⟨((u13 6).o 0), ((u13 6).n 0), t16⟩ : Sl qa)]).length (g.n 0)) (fun u13 g => qf (g.o 0) (g.n 0) (L_x9 ++ [(⟨((u13 6).o 0), ((u13 6).n 0), t16⟩ : Sl qa)])) (fun u13 w hF hK hK2 hd => Jz hK hK2 hd qh (by decide) (fun hn h => Q8 (t := 25) (ty := 25) (en := ql) qk J2 h hF.1 (news := [(⟨((u13 6).o 0), ((u13 6).n 0), t16⟩ : Sl qa)]) rfl (by simp) (by kernel_rfl) (by rw [← qD h_x9]; exact b17))) (hloc := fun u u' h => ⟨by first | rfl | simp only [h 6 (by decide), h 7 (by decide)], by first | rfl | simp only [h 6 (by decide), h 7 (by decide)], by first | rfl | simp only [h 6 (by decide), h 7 (by decide)], by first | rfl | simp only [h 6 (by decide), h 7 (by decide)], by first | rfl | simp only [h 6 (by decide), h 7 (by decide)]⟩)) <|
 .cons [5] (qp (fun u13 => .slice ((u13 8).o 0) ((L_x9 ++ [(⟨((u13 6).o 0), ((u13 6).n 0), t16⟩ : Sl qa)]).length) ((u13 8).n 0)) 5) <| .nil) [0, 1, 5, 6, 7, 28, 29, 30, 31, 33, 900153] fun u13 a w' H => ?_
    refine qN qd H (.v 15 (vI x10) <|
 .v 16 (vI (qe (x10 + 1))) <|
 .v 7 (vI (qe (x10 + 1))) <| .nil) [0, 1, 5, 6, 7, 28, 29, 30, 31, 33, 900153] fun u18 a w' H => ?_
    exact ⟨k, Nat.lt_succ_self k, _, _, G, ((u13 8).o 0), ((u13 8).n 0), (L_x9 ++ [(⟨((u13 6).o 0), ((u13 6).n 0), t16⟩ : Sl qa)]).length, (L_x9 ++ [(⟨((u13 6).o 0), ((u13 6).n 0), t16⟩ : Sl qa)]), rfl, (ZX h_x9 (⟨((u13 6).o 0), ((u13 6).n 0), t16⟩ : Sl qa)), H.toM _⟩
   ·rw [if_neg (nt c19)] at G
    refine QO rfl ?_
    obtain rfl := sj G
    replace H := H.move (K := qf p_x9 c_x9 L_x9) 900153 900151 (by kernel_rfl) (by intro _ _ h; cases h)
    exact ⟨p_x9, c_x9, L_x9.length, L_x9, rfl, h_x9, H.toM _⟩
theorem qL.calls (k0 : Nat) (a0 : List (List Int)) (p_a0 : Option Addr) (c_a0 : Nat) (L_a0 : List (Sl Int)) (r : List (List qa)) (w : World) (h_a0 : a0 = L_a0.map Sl.l) (hB : Yj [Qh qi 1 p_a0 c_a0 L_a0 ql, QA qi Qp.toPart L_a0] w) (G : qL k0 a0 = some r) :
  Calls Tryz.prog 22 #[.slice p_a0 L_a0.length c_a0] w fun e w' => ∃ g : Gh, e = .returned (slgd_S_TInterval g 0 r) ∧ Y7 (YT []) w w' ∧ YD w.heap.size (YT []) (JG w.heap.size []) [fun _ => ns_en_TIntervalg g 0 r] w' := by
 obtain ⟨fr, hfr, hBf⟩ := J4 w []
 refine QQ (args := [.slice p_a0 L_a0.length c_a0]) 37 [(37, Qh qi 1 p_a0 c_a0 L_a0 ql), (38, QA qi Qp.toPart L_a0)] (by
  intro x hx
  simp only [List.mem_cons, List.not_mem_nil, or_false] at hx
  rcases hx with rfl | rfl
  ·exact Ql (qq hB.1) (fun _ _ => trivial) (by decide) _
  ·exact Xt (Qb hB.2.1) (fun _ _ => trivial) _) Tryz.func22 rfl (by kernel_rfl) (by kernel_rfl) fun a H => ?_
 unfold qL at G
 refine qg qd H (.v 2 (.slice none 0 0) <| .nil) [0, 37, 38] fun u1 a w' H => ?_
 refine qg qd H (.cons [7, 39] (qH (fun b => .slice (some ⟨b, 0, none⟩) 0 0) (fun u2 => []) 22 7 39) <|
 .cons [3] (qp (fun u2 => .slice (some ⟨((u2 0).n 0), 0, none⟩) 0 0) 3) <| .nil) [0, 3, 37, 38, 39] fun u2 a w' H => ?_
 refine qs ?_
 obtain ⟨j4, hj4, G⟩ := qP G
 refine Qw (fun a w' => ∃ (p_j3 : Option Addr) (c_j3 np_j3 : Nat) (L_j3 : List (Sl qa)), np_j3 = L_j3.length ∧ j4 = L_j3.map Sl.l ∧ RL w 37 [(3, sS p_j3 np_j3 c_j3), (900155, qj p_j3 np_j3 c_j3 L_j3)] a w') ?_ ?_
 ·clear H; rintro a w' ⟨p_j3, c_j3, _, L_j3, rfl, h_j3, H⟩
  refine qg qd H (.v 36 (.slice p_j3 L_j3.length c_j3) <|
 .v 2 (.slice p_j3 L_j3.length c_j3) <| .nil) [2, 900155] fun u5 a w' H => ?_
  refine q7 ?_
  obtain rfl := sj G
  obtain ⟨g, o0, n0, d0⟩ := ZQ QS p_j3 c_j3 h_j3
  refine Xo H _ g _ _ _ fr [900155] [] (.slice p_j3 L_j3.length c_j3) [fun _ => qf p_j3 c_j3 L_j3] (by simp only [slgd_S_TInterval, dlgd_S_TInterval, ns_en_TIntervalg, qf, qj, QU, o0, n0, d0]) (by simp only [slgd_S_TInterval, dlgd_S_TInterval, ns_en_TIntervalg, qf, qj, QU, o0, n0, d0]) hfr (.inl ⟨rfl, rfl⟩) (qx QZ qI) (by simp)
 ·clear G; replace G := hj4; clear hj4
  refine qg qd H (.v 4 (vI 0) <| .nil) [0, 3, 4, 37, 38, 39] fun u6 a w' H => ?_
  refine qA ?_
  replace H := H.blk_row 39 ((u2 0).n 0) [] 22 1 0 (by kernel_rfl) (by kernel_rfl) (by decide)
  replace H := H.nestOpen (e := 22) (m := 0) (cap := 0) (p := (some ⟨((u2 0).n 0), 0, none⟩)) (H := ([] : List (Sl qa))) 39 48 2 qb (by kernel_rfl)
  replace H := H.move (K := qj (some ⟨((u2 0).n 0), 0, none⟩) 0 0 ([] : List (Sl qa))) 39 900157 (by kernel_rfl) (by intro _ _ h; cases h)
  refine Qv (fun m a w' => ∃ x7 : List (List qa), ∃ x8 : Int, qL.l9 k0 a0 m x7 x8 = some j4 ∧ ∃ (p_x7 : Option Addr) (c_x7 np_x7 : Nat) (L_x7 : List (Sl qa)), np_x7 = L_x7.length ∧ x7 = L_x7.map Sl.l ∧ RL w 37 [(0, sS p_a0 L_a0.length c_a0), (3, sS p_x7 np_x7 c_x7), (4, sI x8), (37, Qh qi 1 p_a0 c_a0 L_a0 ql), (38, QA qi Qp.toPart L_a0), (900157, qj p_x7 np_x7 c_x7 L_x7)] a w') k0 ⟨_, _, G, (some ⟨((u2 0).n 0), 0, none⟩), 0, 0, ([] : List (Sl qa)), rfl, rfl, H.toM _⟩ ?_
  clear G H
  rintro (_ | k) a w' ⟨x7, x8, G, p_x7, c_x7, _, L_x7, rfl, h_x7, H⟩
  ·exact absurd G (by unfold qL.l9; exact fun h => by cases h)
  ·unfold qL.l9 at G
   refine qs ?_
   refine qg qd H (.v 8 (vI x8) <|
 .v 9 (.slice p_a0 L_a0.length c_a0) <|
 .cons [10] (qy 37 (Qh qi 1 p_a0 c_a0 L_a0 ql) (vI (a0.length : Int)) 10 fun _ w h => Q7 (((qq h).2.len qk (by decide)).trans (qD h_a0).symm) (by kernel_rfl)) <|
 .v 11 (.bool (decide (x8 < (a0.length : Int)))) <| .nil) [0, 3, 4, 11, 37, 38, 900157] fun u10 a w' H => ?_
   refine Qr H (decide (x8 < (a0.length : Int))) (fun c33 => ?_) fun c33 => ?_
   ·rw [if_pos c33] at G
    refine qT ?_
    refine qs ?_
    obtain ⟨j12, hj12, G⟩ := qP G
    refine Qw (fun a w' => ∃ (p_j11 : Option Addr) (c_j11 np_j11 : Nat) (L_j11 : List (Sl qa)), np_j11 = L_j11.length ∧ j12 = L_j11.map Sl.l ∧ RL w 37 [(0, sS p_a0 L_a0.length c_a0), (3, sS p_j11 np_j11 c_j11), (4, sI x8), (37, Qh qi 1 p_a0 c_a0 L_a0 ql), (38, QA qi Qp.toPart L_a0), (900159, qj p_j11 np_j11 c_j11 L_j11)] a w') ?_ ?_
    ·clear H; rintro a w' ⟨p_j11, c_j11, _, L_j11, rfl, h_j11, H⟩
     refine qN qd H (.v 12 (vI x8) <|
 .v 13 (vI (qe (x8 + 1))) <|
 .v 4 (vI (qe (x8 + 1))) <| .nil) [0, 3, 4, 37, 38, 900159] fun u13 a w' H => ?_
     replace H := H.move (K := qf p_j11 c_j11 L_j11) 900159 900157 (by kernel_rfl) (by intro _ _ h; cases h)
     exact ⟨k, Nat.lt_succ_self k, _, _, G, p_j11, c_j11, L_j11.length, L_j11, rfl, h_j11, H.toM _⟩
    ·clear G; replace G := hj12; clear hj12
     refine qA ?_
     refine qg qd H (.cons [14, 42] (qH (fun b => .slice (some ⟨b, 0, none⟩) 0 0) (fun u14 => []) 48 14 42) <|
 .cons [5] (qp (fun u14 => .slice (some ⟨((u14 0).n 0), 0, none⟩) 0 0) 5) <| .nil) [0, 3, 4, 5, 37, 38, 42, 900157] fun u14 a w' H => ?_
     refine qs ?_
     obtain ⟨j16, hj16, G⟩ := qP G
     refine Qw (fun a w' => ∃ (p_j15 : Option Addr) (c_j15 np_j15 : Nat), np_j15 = j16.length ∧ RL w 37 [(0, sS p_a0 L_a0.length c_a0), (3, sS p_x7 L_x7.length c_x7), (4, sI x8), (5, sS p_j15 np_j15 c_j15), (37, Qh qi 1 p_a0 c_a0 L_a0 ql), (38, QA qi Qp.toPart L_a0), (900157, qf p_x7 c_x7 L_x7), (900161, Yo 48 2 p_j15 np_j15 c_j15 (j16.flatMap qb))] a w') ?_ ?_
     ·clear H; rintro a w' ⟨p_j15, c_j15, _, rfl, H⟩
      replace G := gd G; obtain ⟨b18, G⟩ := G
      refine qN qd H (.v 32 (.slice p_x7 L_x7.length c_x7) <|
 .v 33 (.slice p_j15 j16.length c_j15) <|
 .cons [34, 43] (qH (fun b => .slice (some ⟨b, 0, none⟩) 1 1) (fun u17 => [.slice p_j15 j16.length c_j15]) 22 34 43) <|
 .cons [35, 900157, 900161, 900157] (Jg [2] [43] (fun u17 => [.blk ((u17 2).n 0) [.slice p_j15 j16.length c_j15] 22]) 900157 900161 (fun u17 => qf p_x7 c_x7 L_x7) (fun u17 => QU 48 2 p_j15 c_j15 j16 qb) (some 35) (fun u17 g => .slice (g.o 0) (L_x7 ++ [(⟨p_j15, c_j15, j16⟩ : Sl qa)]).length (g.n 0)) (fun u17 g => qf (g.o 0) (g.n 0) (L_x7 ++ [(⟨p_j15, c_j15, j16⟩ : Sl qa)])) (fun u17 w hF hK hK2 hd => Jz hK hK2 hd qh (by decide) (fun hn h => Q8 (t := 25) (ty := 25) (en := ql) qk J2 h hF.1 (news := [(⟨p_j15, c_j15, j16⟩ : Sl qa)]) rfl (by simp) (by kernel_rfl) (by rw [← qD h_x7]; exact b18))) (hloc := fun u u' h => ⟨by first | rfl | simp only [h 2 (by decide)], by first | rfl | simp only [h 2 (by decide)], by first | rfl | simp only [h 2 (by decide)], by first | rfl | simp only [h 2 (by decide)], by first | rfl | simp only [h 2 (by decide)]⟩)) <|
 .cons [3] (qp (fun u17 => .slice ((u17 3).o 0) ((L_x7 ++ [(⟨p_j15, c_j15, j16⟩ : Sl qa)]).length) ((u17 3).n 0)) 3) <| .nil) [0, 3, 4, 37, 38, 900157] fun u17 a w' H => ?_
      obtain rfl := sj G
      replace H := H.move (K := qf ((u17 3).o 0) ((u17 3).n 0) (L_x7 ++ [(⟨p_j15, c_j15, j16⟩ : Sl qa)])) 900157 900159 (by kernel_rfl) (by intro _ _ h; cases h)
      exact ⟨((u17 3).o 0), ((u17 3).n 0), (L_x7 ++ [(⟨p_j15, c_j15, j16⟩ : Sl qa)]).length, (L_x7 ++ [(⟨p_j15, c_j15, j16⟩ : Sl qa)]), rfl, (ZX h_x7 (⟨p_j15, c_j15, j16⟩ : Sl qa)), H.toM _⟩
     ·clear G; replace G := hj16; clear hj16
      refine qg qd H (.v 6 (vI 0) <| .nil) [0, 3, 4, 5, 6, 37, 38, 42, 900157] fun u19 a w' H => ?_
      refine qA ?_
      replace H := H.blk_row 42 ((u14 0).n 0) [] 48 2 0 (by kernel_rfl) (by kernel_rfl) (by decide)
      replace H := H.move (K := Yo 48 2 (some ⟨((u14 0).n 0), 0, none⟩) 0 0 (([] : List qa).flatMap qb)) 42 900162 (by kernel_rfl) (by intro _ _ h; cases h)
      refine Qv (fun m a w' => ∃ x20 : List qa, ∃ x21 : Int, qL.l22 k0 a0 x7 x8 m x20 x21 = some j16 ∧ ∃ (p_x20 : Option Addr) (c_x20 np_x20 : Nat), np_x20 = x20.length ∧ RL w 37 [(0, sS p_a0 L_a0.length c_a0), (3, sS p_x7 L_x7.length c_x7), (4, sI x8), (5, sS p_x20 np_x20 c_x20), (6, sI x21), (37, Qh qi 1 p_a0 c_a0 L_a0 ql), (38, QA qi Qp.toPart L_a0), (900157, qf p_x7 c_x7 L_x7), (900162, Yo 48 2 p_x20 np_x20 c_x20 (x20.flatMap qb))] a w') k0 ⟨_, _, G, (some ⟨((u14 0).n 0), 0, none⟩), 0, 0, rfl, H.toM _⟩ ?_
      clear G H
      rintro (_ | k) a w' ⟨x20, x21, G, p_x20, c_x20, _, rfl, H⟩
      ·exact absurd G (by unfold qL.l22; exact fun h => by cases h)
      ·unfold qL.l22 at G
       refine qs ?_
       refine qg qd H (.v 15 (vI x21) <|
 .v 16 (.slice p_a0 L_a0.length c_a0) <|
 .cons [17] (qy 37 (Qh qi 1 p_a0 c_a0 L_a0 ql) (vI (a0.length : Int)) 17 fun _ w h => Q7 (((qq h).2.len qk (by decide)).trans (qD h_a0).symm) (by kernel_rfl)) <|
 .v 18 (.bool (decide (x21 < (a0.length : Int)))) <| .nil) [0, 3, 4, 5, 6, 18, 37, 38, 900157, 900162] fun u23 a w' H => ?_
       refine Qr H (decide (x21 < (a0.length : Int))) (fun c32 => ?_) fun c32 => ?_
       ·rw [if_pos c32] at G
        refine qT ?_
        refine qs ?_
        refine qA ?_
        replace G := gd G; obtain ⟨b25, G⟩ := G
        obtain ⟨t26, ht26, G⟩ := qP G
        obtain ⟨p_t26, c_t26, y_t26⟩ := QE h_a0 ht26
        replace G := gd G; obtain ⟨b27, G⟩ := G
        obtain ⟨t28, ht28, G⟩ := qP G
        obtain ⟨t29, ht29, G⟩ := qP G
        replace G := gd G; obtain ⟨b30, G⟩ := G
        refine qN qd H (.v 21 (.slice p_x20 x20.length c_x20) <|
 .v 22 (.slice p_a0 L_a0.length c_a0) <|
 .v 23 (vI x8) <|
 .cons [24] (qy 37 (Qh qi 1 p_a0 c_a0 L_a0 ql) (.pointer (some ⟨XB p_a0, XC p_a0 + x8.toNat * 1, none⟩)) 24 fun _ w h => YQ 31 .i64 x8 p_a0 L_a0.length c_a0 a0 ql (qq h).2 qk (qD h_a0) b25) <|
 .cons [25] (qy 37 (Qh qi 1 p_a0 c_a0 L_a0 ql) (.slice p_t26 t26.length c_t26) 25 fun _ w h => Ya ql (qq h).2 qk y_t26 0 1 [.slice p_t26 t26.length c_t26]) <|
 .v 26 (vI x21) <|
 .cons [27] (qy 38 (QA qi Qp.toPart L_a0) (.pointer (some ⟨XB p_t26, XC p_t26 + x21.toNat * 1, none⟩)) 27 fun _ w h => YQ 26 .i64 x21 p_t26 t26.length c_t26 t26 qB (show Xv _ 1 p_t26 t26.length c_t26 (t26.flatMap qB) from ((Qb h) _ (List.mem_of_getElem? y_t26)).1).2 q8 rfl b27) <|
 .cons [28] (qy 38 (QA qi Qp.toPart L_a0) (vI t28) 28 fun _ w h => Ya qB (show Xv _ 1 p_t26 t26.length c_t26 (t26.flatMap qB) from ((Qb h) _ (List.mem_of_getElem? y_t26)).1).2 q8 ht28 0 1 [vI t28]) <|
 .cons [29] (qo 29 _ _ 29 [] (fun u24 w _ => QR.calls t28  t29 w  ht29)) <|
 .cons [30, 46] (qH (fun b => .slice (some ⟨b, 0, none⟩) 1 1) (fun u24 => [vI t29.Lo, vI t29.Hi]) 48 30 46) <|
 .cons [31, 900162, 900162] (Xs [9] [46] (fun u24 => [.blk ((u24 9).n 0) [vI t29.Lo, vI t29.Hi] 48]) 900162 (fun u24 => QU 48 2 p_x20 c_x20 x20 qb) (some 31) (fun u24 g => .slice (g.o 0) (x20 ++ [t29]).length (g.n 0)) (fun u24 g => QU 48 2 (g.o 0) (g.n 0) (x20 ++ [t29]) qb) (fun u24 w hF hK => ZB (Q8 (t := 22) (ty := 22) (en := qb) qh Jd (QN hK) hF.1 (news := [t29]) rfl (by simp) (by kernel_rfl) b30)) (hloc := fun u u' h => ⟨by first | rfl | simp only [h 9 (by decide)], by first | rfl | simp only [h 9 (by decide)], by first | rfl | simp only [h 9 (by decide)], by first | rfl | simp only [h 9 (by decide)]⟩)) <|
 .cons [5] (qp (fun u24 => .slice ((u24 10).o 0) ((x20 ++ [t29]).length) ((u24 10).n 0)) 5) <| .nil) [0, 3, 4, 5, 6, 37, 38, 900157, 900162] fun u24 a w' H => ?_
        refine qN qd H (.v 19 (vI x21) <|
 .v 20 (vI (qe (x21 + 1))) <|
 .v 6 (vI (qe (x21 + 1))) <| .nil) [0, 3, 4, 5, 6, 37, 38, 900157, 900162] fun u31 a w' H => ?_
        exact ⟨k, Nat.lt_succ_self k, _, _, G, ((u24 10).o 0), ((u24 10).n 0), (x20 ++ [t29]).length, rfl, H.toM _⟩
       ·rw [if_neg (nt c32)] at G
        refine QO rfl ?_
        obtain rfl := sj G
        replace H := H.move (K := QU 48 2 p_x20 c_x20 x20 qb) 900162 900161 (by kernel_rfl) (by intro _ _ h; cases h)
        exact ⟨p_x20, c_x20, x20.length, rfl, H.toM _⟩
   ·rw [if_neg (nt c33)] at G
    refine QO rfl ?_
    obtain rfl := sj G
    replace H := H.move (K := qf p_x7 c_x7 L_x7) 900157 900155 (by kernel_rfl) (by intro _ _ h; cases h)
    exact ⟨p_x7, c_x7, L_x7.length, L_x7, rfl, h_x7, H.toM _⟩
theorem YB.calls (a0 : qa) (r : Int) (w : World) (G : YB a0 = some r) :
  Calls Tryz.prog 62 #[.agg #[vI a0.Lo, vI a0.Hi]] w fun e w' => e = .returned (vI r) ∧ Below w.heap.size w w' := by
 refine Q4 (args := [.agg #[vI a0.Lo, vI a0.Hi]]) 9 Tryz.func62 rfl (by kernel_rfl) (by kernel_rfl) fun a H => ?_
 unfold YB at G
 refine qg qd H (.cons [1, 9] (qH (fun b => vP b 0) (fun u1 => [vI a0.Lo, vI a0.Hi]) 48 1 9) <|
 .v 2 (vI 0) <| .nil) [1, 9] fun u1 a w' H => ?_
 obtain ⟨t3, ht3, G⟩ := qP G
 refine qg qd H (.v 3 (vP ((u1 0).n 0) 0) <|
 .cons [4] (qv (vI a0.Lo) 4 9 0 1 ((u1 0).n 0) [vI a0.Lo, vI a0.Hi] 48) <|
 .v 5 (vP ((u1 0).n 0) 1) <|
 .cons [6] (qv (vI a0.Hi) 6 9 1 1 ((u1 0).n 0) [vI a0.Lo, vI a0.Hi] 48) <|
 .v 7 (vI (qe (a0.Lo + a0.Hi))) <|
 .cons [8] (qo 88 _ _ 8 [] (fun u2 w _ => QD.calls (qe (a0.Lo + a0.Hi)) 2  t3 w  ht3)) <|
 .v 2 (vI t3) <| .nil) [2] fun u2 a w' H => ?_
 refine q7 ?_
 obtain rfl := sj G
 exact QG H _ (by kernel_rfl) (by kernel_rfl)
theorem Qs.calls (k0 : Nat) (a0 : List (List qa)) (p_a0 : Option Addr) (c_a0 : Nat) (L_a0 : List (Sl qa)) (r : List (List Int)) (w : World) (h_a0 : a0 = L_a0.map Sl.l) (hB : Yj [Qh qi 1 p_a0 c_a0 L_a0 ql, QA qi qc.toPart L_a0] w) (G : Qs k0 a0 = some r) :
  Calls Tryz.prog 23 #[.slice p_a0 L_a0.length c_a0] w fun e w' => ∃ g : Gh, e = .returned (slgd_S_i64 g 0 r) ∧ Y7 (YT []) w w' ∧ YD w.heap.size (YT []) (JG w.heap.size []) [fun _ => ns_en_i64g g 0 r] w' := by
 obtain ⟨fr, hfr, hBf⟩ := J4 w []
 refine QQ (args := [.slice p_a0 L_a0.length c_a0]) 37 [(37, Qh qi 1 p_a0 c_a0 L_a0 ql), (38, QA qi qc.toPart L_a0)] (by
  intro x hx
  simp only [List.mem_cons, List.not_mem_nil, or_false] at hx
  rcases hx with rfl | rfl
  ·exact Ql (qq hB.1) (fun _ _ => trivial) (by decide) _
  ·exact Xt (Qb hB.2.1) (fun _ _ => trivial) _) Tryz.func23 rfl (by kernel_rfl) (by kernel_rfl) fun a H => ?_
 unfold Qs at G
 refine qg qd H (.v 2 (.slice none 0 0) <| .nil) [0, 37, 38] fun u1 a w' H => ?_
 refine qg qd H (.cons [7, 39] (qH (fun b => .slice (some ⟨b, 0, none⟩) 0 0) (fun u2 => []) 26 7 39) <|
 .cons [3] (qp (fun u2 => .slice (some ⟨((u2 0).n 0), 0, none⟩) 0 0) 3) <| .nil) [0, 3, 37, 38, 39] fun u2 a w' H => ?_
 refine qs ?_
 obtain ⟨j4, hj4, G⟩ := qP G
 refine Qw (fun a w' => ∃ (p_j3 : Option Addr) (c_j3 np_j3 : Nat) (L_j3 : List (Sl Int)), np_j3 = L_j3.length ∧ j4 = L_j3.map Sl.l ∧ RL w 37 [(3, sS p_j3 np_j3 c_j3), (900163, Q9 p_j3 np_j3 c_j3 L_j3)] a w') ?_ ?_
 ·clear H; rintro a w' ⟨p_j3, c_j3, _, L_j3, rfl, h_j3, H⟩
  refine qg qd H (.v 36 (.slice p_j3 L_j3.length c_j3) <|
 .v 2 (.slice p_j3 L_j3.length c_j3) <| .nil) [2, 900163] fun u5 a w' H => ?_
  refine q7 ?_
  obtain rfl := sj G
  obtain ⟨g, o0, n0, d0⟩ := ZQ ZI p_j3 c_j3 h_j3
  refine Xo H _ g _ _ _ fr [900163] [] (.slice p_j3 L_j3.length c_j3) [fun _ => Qm p_j3 c_j3 L_j3] (by simp only [slgd_S_i64, dlgd_S_i64, ns_en_i64g, Qm, Q9, QU, o0, n0, d0]) (by simp only [slgd_S_i64, dlgd_S_i64, ns_en_i64g, Qm, Q9, QU, o0, n0, d0]) hfr (.inl ⟨rfl, rfl⟩) (qx QZ qI) (by simp)
 ·clear G; replace G := hj4; clear hj4
  refine qg qd H (.v 4 (vI 0) <| .nil) [0, 3, 4, 37, 38, 39] fun u6 a w' H => ?_
  refine qA ?_
  replace H := H.blk_row 39 ((u2 0).n 0) [] 26 1 0 (by kernel_rfl) (by kernel_rfl) (by decide)
  replace H := H.nestOpen (e := 26) (m := 0) (cap := 0) (p := (some ⟨((u2 0).n 0), 0, none⟩)) (H := ([] : List (Sl Int))) 39 2 1 qB (by kernel_rfl)
  replace H := H.move (K := Q9 (some ⟨((u2 0).n 0), 0, none⟩) 0 0 ([] : List (Sl Int))) 39 900165 (by kernel_rfl) (by intro _ _ h; cases h)
  refine Qv (fun m a w' => ∃ x7 : List (List Int), ∃ x8 : Int, Qs.l9 k0 a0 m x7 x8 = some j4 ∧ ∃ (p_x7 : Option Addr) (c_x7 np_x7 : Nat) (L_x7 : List (Sl Int)), np_x7 = L_x7.length ∧ x7 = L_x7.map Sl.l ∧ RL w 37 [(0, sS p_a0 L_a0.length c_a0), (3, sS p_x7 np_x7 c_x7), (4, sI x8), (37, Qh qi 1 p_a0 c_a0 L_a0 ql), (38, QA qi qc.toPart L_a0), (900165, Q9 p_x7 np_x7 c_x7 L_x7)] a w') k0 ⟨_, _, G, (some ⟨((u2 0).n 0), 0, none⟩), 0, 0, ([] : List (Sl Int)), rfl, rfl, H.toM _⟩ ?_
  clear G H
  rintro (_ | k) a w' ⟨x7, x8, G, p_x7, c_x7, _, L_x7, rfl, h_x7, H⟩
  ·exact absurd G (by unfold Qs.l9; exact fun h => by cases h)
  ·unfold Qs.l9 at G
   refine qs ?_
   refine qg qd H (.v 8 (vI x8) <|
 .v 9 (.slice p_a0 L_a0.length c_a0) <|
 .cons [10] (qy 37 (Qh qi 1 p_a0 c_a0 L_a0 ql) (vI (a0.length : Int)) 10 fun _ w h => Q7 (((qq h).2.len qk (by decide)).trans (qD h_a0).symm) (by kernel_rfl)) <|
 .v 11 (.bool (decide (x8 < (a0.length : Int)))) <| .nil) [0, 3, 4, 11, 37, 38, 900165] fun u10 a w' H => ?_
   refine Qr H (decide (x8 < (a0.length : Int))) (fun c33 => ?_) fun c33 => ?_
   ·rw [if_pos c33] at G
    refine qT ?_
    refine qs ?_
    obtain ⟨j12, hj12, G⟩ := qP G
    refine Qw (fun a w' => ∃ (p_j11 : Option Addr) (c_j11 np_j11 : Nat) (L_j11 : List (Sl Int)), np_j11 = L_j11.length ∧ j12 = L_j11.map Sl.l ∧ RL w 37 [(0, sS p_a0 L_a0.length c_a0), (3, sS p_j11 np_j11 c_j11), (4, sI x8), (37, Qh qi 1 p_a0 c_a0 L_a0 ql), (38, QA qi qc.toPart L_a0), (900167, Q9 p_j11 np_j11 c_j11 L_j11)] a w') ?_ ?_
    ·clear H; rintro a w' ⟨p_j11, c_j11, _, L_j11, rfl, h_j11, H⟩
     refine qN qd H (.v 12 (vI x8) <|
 .v 13 (vI (qe (x8 + 1))) <|
 .v 4 (vI (qe (x8 + 1))) <| .nil) [0, 3, 4, 37, 38, 900167] fun u13 a w' H => ?_
     replace H := H.move (K := Qm p_j11 c_j11 L_j11) 900167 900165 (by kernel_rfl) (by intro _ _ h; cases h)
     exact ⟨k, Nat.lt_succ_self k, _, _, G, p_j11, c_j11, L_j11.length, L_j11, rfl, h_j11, H.toM _⟩
    ·clear G; replace G := hj12; clear hj12
     refine qA ?_
     refine qg qd H (.cons [14, 42] (qH (fun b => .slice (some ⟨b, 0, none⟩) 0 0) (fun u14 => []) 2 14 42) <|
 .cons [5] (qp (fun u14 => .slice (some ⟨((u14 0).n 0), 0, none⟩) 0 0) 5) <| .nil) [0, 3, 4, 5, 37, 38, 42, 900165] fun u14 a w' H => ?_
     refine qs ?_
     obtain ⟨j16, hj16, G⟩ := qP G
     refine Qw (fun a w' => ∃ (p_j15 : Option Addr) (c_j15 np_j15 : Nat), np_j15 = j16.length ∧ RL w 37 [(0, sS p_a0 L_a0.length c_a0), (3, sS p_x7 L_x7.length c_x7), (4, sI x8), (5, sS p_j15 np_j15 c_j15), (37, Qh qi 1 p_a0 c_a0 L_a0 ql), (38, QA qi qc.toPart L_a0), (900165, Qm p_x7 c_x7 L_x7), (900169, Yo 2 1 p_j15 np_j15 c_j15 (j16.flatMap qB))] a w') ?_ ?_
     ·clear H; rintro a w' ⟨p_j15, c_j15, _, rfl, H⟩
      replace G := gd G; obtain ⟨b18, G⟩ := G
      refine qN qd H (.v 32 (.slice p_x7 L_x7.length c_x7) <|
 .v 33 (.slice p_j15 j16.length c_j15) <|
 .cons [34, 43] (qH (fun b => .slice (some ⟨b, 0, none⟩) 1 1) (fun u17 => [.slice p_j15 j16.length c_j15]) 26 34 43) <|
 .cons [35, 900165, 900169, 900165] (Jg [2] [43] (fun u17 => [.blk ((u17 2).n 0) [.slice p_j15 j16.length c_j15] 26]) 900165 900169 (fun u17 => Qm p_x7 c_x7 L_x7) (fun u17 => QU 2 1 p_j15 c_j15 j16 qB) (some 35) (fun u17 g => .slice (g.o 0) (L_x7 ++ [(⟨p_j15, c_j15, j16⟩ : Sl Int)]).length (g.n 0)) (fun u17 g => Qm (g.o 0) (g.n 0) (L_x7 ++ [(⟨p_j15, c_j15, j16⟩ : Sl Int)])) (fun u17 w hF hK hK2 hd => Jz hK hK2 hd q8 (by decide) (fun hn h => Q8 (t := 31) (ty := 31) (en := ql) qk qaF h hF.1 (news := [(⟨p_j15, c_j15, j16⟩ : Sl Int)]) rfl (by simp) (by kernel_rfl) (by rw [← qD h_x7]; exact b18))) (hloc := fun u u' h => ⟨by first | rfl | simp only [h 2 (by decide)], by first | rfl | simp only [h 2 (by decide)], by first | rfl | simp only [h 2 (by decide)], by first | rfl | simp only [h 2 (by decide)], by first | rfl | simp only [h 2 (by decide)]⟩)) <|
 .cons [3] (qp (fun u17 => .slice ((u17 3).o 0) ((L_x7 ++ [(⟨p_j15, c_j15, j16⟩ : Sl Int)]).length) ((u17 3).n 0)) 3) <| .nil) [0, 3, 4, 37, 38, 900165] fun u17 a w' H => ?_
      obtain rfl := sj G
      replace H := H.move (K := Qm ((u17 3).o 0) ((u17 3).n 0) (L_x7 ++ [(⟨p_j15, c_j15, j16⟩ : Sl Int)])) 900165 900167 (by kernel_rfl) (by intro _ _ h; cases h)
      exact ⟨((u17 3).o 0), ((u17 3).n 0), (L_x7 ++ [(⟨p_j15, c_j15, j16⟩ : Sl Int)]).length, (L_x7 ++ [(⟨p_j15, c_j15, j16⟩ : Sl Int)]), rfl, (ZX h_x7 (⟨p_j15, c_j15, j16⟩ : Sl Int)), H.toM _⟩
     ·clear G; replace G := hj16; clear hj16
      refine qg qd H (.v 6 (vI 0) <| .nil) [0, 3, 4, 5, 6, 37, 38, 42, 900165] fun u19 a w' H => ?_
      refine qA ?_
      replace H := H.blk_row 42 ((u14 0).n 0) [] 2 1 0 (by kernel_rfl) (by kernel_rfl) (by decide)
      replace H := H.move (K := Yo 2 1 (some ⟨((u14 0).n 0), 0, none⟩) 0 0 (([] : List Int).flatMap qB)) 42 900170 (by kernel_rfl) (by intro _ _ h; cases h)
      refine Qv (fun m a w' => ∃ x20 : List Int, ∃ x21 : Int, Qs.l22 k0 a0 x7 x8 m x20 x21 = some j16 ∧ ∃ (p_x20 : Option Addr) (c_x20 np_x20 : Nat), np_x20 = x20.length ∧ RL w 37 [(0, sS p_a0 L_a0.length c_a0), (3, sS p_x7 L_x7.length c_x7), (4, sI x8), (5, sS p_x20 np_x20 c_x20), (6, sI x21), (37, Qh qi 1 p_a0 c_a0 L_a0 ql), (38, QA qi qc.toPart L_a0), (900165, Qm p_x7 c_x7 L_x7), (900170, Yo 2 1 p_x20 np_x20 c_x20 (x20.flatMap qB))] a w') k0 ⟨_, _, G, (some ⟨((u14 0).n 0), 0, none⟩), 0, 0, rfl, H.toM _⟩ ?_
      clear G H
      rintro (_ | k) a w' ⟨x20, x21, G, p_x20, c_x20, _, rfl, H⟩
      ·exact absurd G (by unfold Qs.l22; exact fun h => by cases h)
      ·unfold Qs.l22 at G
       refine qs ?_
       refine qg qd H (.v 15 (vI x21) <|
 .v 16 (.slice p_a0 L_a0.length c_a0) <|
 .cons [17] (qy 37 (Qh qi 1 p_a0 c_a0 L_a0 ql) (vI (a0.length : Int)) 17 fun _ w h => Q7 (((qq h).2.len qk (by decide)).trans (qD h_a0).symm) (by kernel_rfl)) <|
 .v 18 (.bool (decide (x21 < (a0.length : Int)))) <| .nil) [0, 3, 4, 5, 6, 18, 37, 38, 900165, 900170] fun u23 a w' H => ?_
       refine Qr H (decide (x21 < (a0.length : Int))) (fun c32 => ?_) fun c32 => ?_
       ·rw [if_pos c32] at G
        refine qT ?_
        refine qs ?_
        refine qA ?_
        replace G := gd G; obtain ⟨b25, G⟩ := G
        obtain ⟨t26, ht26, G⟩ := qP G
        obtain ⟨p_t26, c_t26, y_t26⟩ := QE h_a0 ht26
        replace G := gd G; obtain ⟨b27, G⟩ := G
        obtain ⟨t28, ht28, G⟩ := qP G
        obtain ⟨t29, ht29, G⟩ := qP G
        replace G := gd G; obtain ⟨b30, G⟩ := G
        refine qN qd H (.v 21 (.slice p_x20 x20.length c_x20) <|
 .v 22 (.slice p_a0 L_a0.length c_a0) <|
 .v 23 (vI x8) <|
 .cons [24] (qy 37 (Qh qi 1 p_a0 c_a0 L_a0 ql) (.pointer (some ⟨XB p_a0, XC p_a0 + x8.toNat * 1, none⟩)) 24 fun _ w h => YQ 25 .i64 x8 p_a0 L_a0.length c_a0 a0 ql (qq h).2 qk (qD h_a0) b25) <|
 .cons [25] (qy 37 (Qh qi 1 p_a0 c_a0 L_a0 ql) (.slice p_t26 t26.length c_t26) 25 fun _ w h => Ya ql (qq h).2 qk y_t26 0 1 [.slice p_t26 t26.length c_t26]) <|
 .v 26 (vI x21) <|
 .cons [27] (qy 38 (QA qi qc.toPart L_a0) (.pointer (some ⟨XB p_t26, XC p_t26 + x21.toNat * 2, none⟩)) 27 fun _ w h => YQ 22 .i64 x21 p_t26 t26.length c_t26 t26 qb (show Xv _ 2 p_t26 t26.length c_t26 (t26.flatMap qb) from ((Qb h) _ (List.mem_of_getElem? y_t26)).1).2 qh rfl b27) <|
 .cons [28] (qy 38 (QA qi qc.toPart L_a0) (.agg #[vI t28.Lo, vI t28.Hi]) 28 fun _ w h => Ya qb (show Xv _ 2 p_t26 t26.length c_t26 (t26.flatMap qb) from ((Qb h) _ (List.mem_of_getElem? y_t26)).1).2 qh ht28 0 2 [vI t28.Lo, vI t28.Hi]) <|
 .cons [29] (qo 62 _ _ 29 [] (fun u24 w _ => YB.calls t28  t29 w  ht29)) <|
 .cons [30, 46] (qH (fun b => .slice (some ⟨b, 0, none⟩) 1 1) (fun u24 => [vI t29]) 2 30 46) <|
 .cons [31, 900170, 900170] (Xs [9] [46] (fun u24 => [.blk ((u24 9).n 0) [vI t29] 2]) 900170 (fun u24 => QU 2 1 p_x20 c_x20 x20 qB) (some 31) (fun u24 g => .slice (g.o 0) (x20 ++ [t29]).length (g.n 0)) (fun u24 g => QU 2 1 (g.o 0) (g.n 0) (x20 ++ [t29]) qB) (fun u24 w hF hK => ZB (Q8 (t := 26) (ty := 26) (en := qB) q8 qco (QN hK) hF.1 (news := [t29]) rfl (by simp) (by kernel_rfl) b30)) (hloc := fun u u' h => ⟨by first | rfl | simp only [h 9 (by decide)], by first | rfl | simp only [h 9 (by decide)], by first | rfl | simp only [h 9 (by decide)], by first | rfl | simp only [h 9 (by decide)]⟩)) <|
 .cons [5] (qp (fun u24 => .slice ((u24 10).o 0) ((x20 ++ [t29]).length) ((u24 10).n 0)) 5) <| .nil) [0, 3, 4, 5, 6, 37, 38, 900165, 900170] fun u24 a w' H => ?_
        refine qN qd H (.v 19 (vI x21) <|
 .v 20 (vI (qe (x21 + 1))) <|
 .v 6 (vI (qe (x21 + 1))) <| .nil) [0, 3, 4, 5, 6, 37, 38, 900165, 900170] fun u31 a w' H => ?_
        exact ⟨k, Nat.lt_succ_self k, _, _, G, ((u24 10).o 0), ((u24 10).n 0), (x20 ++ [t29]).length, rfl, H.toM _⟩
       ·rw [if_neg (nt c32)] at G
        refine QO rfl ?_
        obtain rfl := sj G
        replace H := H.move (K := QU 2 1 p_x20 c_x20 x20 qB) 900170 900169 (by kernel_rfl) (by intro _ _ h; cases h)
        exact ⟨p_x20, c_x20, x20.length, rfl, H.toM _⟩
   ·rw [if_neg (nt c33)] at G
    refine QO rfl ?_
    obtain rfl := sj G
    replace H := H.move (K := Qm p_x7 c_x7 L_x7) 900165 900163 (by kernel_rfl) (by intro _ _ h; cases h)
    exact ⟨p_x7, c_x7, L_x7.length, L_x7, rfl, h_x7, H.toM _⟩
theorem XS.calls (a0 : Int) (a1 : Int) (r : Int) (w : World) (G : XS a0 a1 = some r) :
  Calls Tryz.prog 95 #[vI a0, vI a1] w fun e w' => e = .returned (vI r) ∧ Below w.heap.size w w' := by
 refine Q4 (args := [vI a0, vI a1]) 23 Tryz.func95 rfl (by kernel_rfl) (by kernel_rfl) fun a H => ?_
 unfold XS at G
 refine qg qd H (.v 4 (vI 0) <| .nil) [0, 1] fun u1 a w' H => ?_
 refine qs ?_
 replace G := gd G; obtain ⟨n3, G⟩ := G
 refine qN qd H (.v 6 (vI a0) <|
 .v 7 (vI a1) <|
 .cons [8] (qp (fun u2 => vI (qe (Int.tdiv a0 a1))) 8 (hv := fun _ _ => Zz (by kernel_rfl) (qa8 (k := .i64) (x := a0) (y := a1) n3))) <|
 .v 5 (vI (qe (Int.tdiv a0 a1))) <| .nil) [0, 1, 5] fun u2 a w' H => ?_
 refine qs ?_
 obtain ⟨j5, hj5, G⟩ := qP G
 refine Qw (fun a w' => RL w 23 [(5, sI j5)] a w') ?_ ?_
 ·clear H; intro a w' H
  refine qg qd H (.v 22 (vI j5) <|
 .v 4 (vI j5) <| .nil) [4] fun u6 a w' H => ?_
  refine q7 ?_
  obtain rfl := sj G
  exact QG H _ (by kernel_rfl) (by kernel_rfl)
 ·clear G; replace G := hj5; clear hj5
  refine qs ?_
  replace G := gd G; obtain ⟨n8, G⟩ := G
  refine qN qd H (.v 9 (vI a0) <|
 .v 10 (vI a1) <|
 .cons [11] (qp (fun u7 => vI (Int.tmod a0 a1)) 11 (hv := fun _ _ => Zz (by kernel_rfl) (qbh (k := .i64) (x := a0) (y := a1) n8))) <|
 .v 12 (.bool ((Int.tmod a0 a1) != 0)) <|
 .v 13 (.bool ((Int.tmod a0 a1) != 0)) <|
 .cons [14] (Qc (fun u7 => vI a0) (fun u7 => (((Int.tmod a0 a1) != 0) == true)) [true] 14) <|
 .cons [15] (Qc (fun u7 => .bool (decide (a0 < 0))) (fun u7 => (((Int.tmod a0 a1) != 0) == true)) [false, true] 15) <|
 .cons [16] (Qc (fun u7 => vI a1) (fun u7 => (((Int.tmod a0 a1) != 0) == true)) [true] 16) <|
 .cons [17] (Qc (fun u7 => .bool (decide (a1 < 0))) (fun u7 => (((Int.tmod a0 a1) != 0) == true)) [false, true] 17) <|
 .cons [18] (Qc (fun u7 => .bool (!((decide (a0 < 0)) == (decide (a1 < 0))))) (fun u7 => (((Int.tmod a0 a1) != 0) == true)) [false, false] 18) <|
 .cons [19] (Y9 13 18 (fun u7 => true) (fun u7 => true) (fun u7 => ((Int.tmod a0 a1) != 0)) (fun u7 => (!((decide (a0 < 0)) == (decide (a1 < 0))))) 19) <| .nil) [5, 19] fun u7 a w' H => ?_
  refine Qr H (((Int.tmod a0 a1) != 0) && (!((decide (a0 < 0)) == (decide (a1 < 0))))) (fun c10 => ?_) fun c10 => ?_
  ·rw [if_pos c10] at G
   refine qN qd H (.v 20 (vI (qe (Int.tdiv a0 a1))) <|
 .v 21 (vI (qe ((qe (Int.tdiv a0 a1)) - 1))) <|
 .v 5 (vI (qe ((qe (Int.tdiv a0 a1)) - 1))) <| .nil) [5] fun u9 a w' H => ?_
   obtain rfl := sj G
   exact H.toM _
  ·rw [if_neg (nt c10)] at G
   refine qT ?_
   obtain rfl := sj G
   exact H.toM _
theorem qr.calls (k0 : Nat) (a0 : List Int) (a1 : List (List Int)) (p_a0 : Option Addr) (c_a0 : Nat) (p_a1 : Option Addr) (c_a1 : Nat) (L_a1 : List (Sl Int)) (r : List Int) (w : World) (h_a1 : a1 = L_a1.map Sl.l) (hB : Yj [Qh qi 1 p_a0 c_a0 a0 qB, Qh qi 1 p_a1 c_a1 L_a1 ql, QA qi Qp.toPart L_a1] w) (G : qr k0 a0 a1 = some r) :
  Calls Tryz.prog 93 #[.slice p_a0 a0.length c_a0, .slice p_a1 L_a1.length c_a1] w fun e w' => ∃ g : Gh, e = .returned (.slice (g.o 0) r.length (g.n 0)) ∧ Y7 (YT []) w w' ∧ YD w.heap.size (YT []) (JG w.heap.size []) [fun _ => QU 2 1 (g.o 0) (g.n 0) r qB] w' := by
 obtain ⟨fr, hfr, hBf⟩ := J4 w []
 refine QQ (args := [.slice p_a0 a0.length c_a0, .slice p_a1 L_a1.length c_a1]) 65 [(65, Qh qi 1 p_a0 c_a0 a0 qB), (66, Qh qi 1 p_a1 c_a1 L_a1 ql), (67, QA qi Qp.toPart L_a1)] (by
  intro x hx
  simp only [List.mem_cons, List.not_mem_nil, or_false] at hx
  rcases hx with rfl | rfl | rfl
  ·exact Ql (qq hB.1) (fun _ _ => trivial) (by decide) _
  ·exact Ql (qq hB.2.1) (fun _ _ => trivial) (by decide) _
  ·exact Xt (Qb hB.2.2.1) (fun _ _ => trivial) _) Tryz.func93 rfl (by kernel_rfl) (by kernel_rfl) fun a H => ?_
 unfold qr at G
 refine qg qd H (.v 4 (.slice none 0 0) <| .nil) [0, 1, 65, 66, 67] fun u1 a w' H => ?_
 refine qs ?_
 replace G := gd G; obtain ⟨b3, G⟩ := G
 refine qN qd H (.cons [10, 68] (YE 1 0 (qH (fun b => .slice (some ⟨b, 0, none⟩) 0 0) (fun u2 => []) 2 10 68) (fun _ => rfl) (by decide)) <|
 .v 11 (.slice p_a0 a0.length c_a0) <|
 .cons [12, 68, 68] (Xs [0] [65] (fun u2 => [Qh qi 1 p_a0 c_a0 a0 qB]) 68 (fun u2 => Yo 2 1 (some ⟨((u2 0).n 0), 0, none⟩) 0 0 (([] : List Int).flatMap qB)) (some 12) (fun u2 g => .slice (g.o 0) (([] : List Int) ++ a0).length (g.n 0)) (fun u2 g => QU 2 1 (g.o 0) (g.n 0) (([] : List Int) ++ a0) qB) (fun u2 w hF hK => ZB (Zr (t := 26) (ty := 26) (en := qB) (m := a0) (p2 := p_a0) (n2 := a0.length) (cap2 := c_a0) q8 (fun _ => rfl) qco (QN hK) (qq hF.1).2 b3 (by kernel_rfl))) (hloc := fun u u' h => ⟨by first | rfl | simp only [h 0 (by decide)], by first | rfl | simp only [h 0 (by decide)], by first | rfl | simp only [h 0 (by decide)], by first | rfl | simp only [h 0 (by decide)]⟩)) <|
 .cons [5] (qp (fun u2 => .slice ((u2 2).o 0) ((([] : List Int) ++ a0).length) ((u2 2).n 0)) 5) <| .nil) [1, 5, 66, 67, 68] fun u2 a w' H => ?_
 refine qs ?_
 obtain ⟨j5, hj5, G⟩ := qP G
 refine Qw (fun a w' => ∃ (p_j4 : Option Addr) (c_j4 np_j4 : Nat), np_j4 = j5.length ∧ RL w 65 [(5, sS p_j4 np_j4 c_j4), (900171, Yo 2 1 p_j4 np_j4 c_j4 (j5.flatMap qB))] a w') ?_ ?_
 ·clear H; rintro a w' ⟨p_j4, c_j4, _, rfl, H⟩
  refine qg qd H (.v 64 (.slice p_j4 j5.length c_j4) <|
 .v 4 (.slice p_j4 j5.length c_j4) <| .nil) [4, 900171] fun u6 a w' H => ?_
  refine q7 ?_
  obtain rfl := sj G
  obtain ⟨g, o0, n0⟩ := VI p_j4 c_j4
  refine Xo H _ g _ _ _ fr [900171] [] (.slice p_j4 j5.length c_j4) [fun _ => QU 2 1 p_j4 c_j4 j5 qB] (by simp only [QU, o0, n0]) (by simp only [QU, o0, n0]) hfr (.inl ⟨rfl, rfl⟩) (qx X2 qI) (by simp)
 ·clear G; replace G := hj5; clear hj5
  refine qg qd H (.v 6 (vI 0) <| .nil) [1, 5, 6, 66, 67, 68] fun u7 a w' H => ?_
  refine qA ?_
  replace H := H.move (K := QU 2 1 ((u2 2).o 0) ((u2 2).n 0) (([] : List Int) ++ a0) qB) 68 900172 (by kernel_rfl) (by intro _ _ h; cases h)
  refine Qv (fun m a w' => ∃ x8 : List Int, ∃ x9 : Int, qr.l10 k0 a0 a1 m x8 x9 = some j5 ∧ ∃ (p_x8 : Option Addr) (c_x8 np_x8 : Nat), np_x8 = x8.length ∧ RL w 65 [(1, sS p_a1 L_a1.length c_a1), (5, sS p_x8 np_x8 c_x8), (6, sI x9), (66, Qh qi 1 p_a1 c_a1 L_a1 ql), (67, QA qi Qp.toPart L_a1), (900172, Yo 2 1 p_x8 np_x8 c_x8 (x8.flatMap qB))] a w') k0 ⟨_, _, G, ((u2 2).o 0), ((u2 2).n 0), (([] : List Int) ++ a0).length, rfl, H.toM _⟩ ?_
  clear G H
  rintro (_ | k) a w' ⟨x8, x9, G, p_x8, c_x8, _, rfl, H⟩
  ·exact absurd G (by unfold qr.l10; exact fun h => by cases h)
  ·unfold qr.l10 at G
   refine qs ?_
   refine qg qd H (.v 13 (vI x9) <|
 .v 14 (.slice p_a1 L_a1.length c_a1) <|
 .cons [15] (qy 66 (Qh qi 1 p_a1 c_a1 L_a1 ql) (vI (a1.length : Int)) 15 fun _ w h => Q7 (((qq h).2.len qk (by decide)).trans (qD h_a1).symm) (by kernel_rfl)) <|
 .v 16 (.bool (decide (x9 < (a1.length : Int)))) <| .nil) [1, 5, 6, 16, 66, 67, 900172] fun u11 a w' H => ?_
   refine Qr H (decide (x9 < (a1.length : Int))) (fun c54 => ?_) fun c54 => ?_
   ·rw [if_pos c54] at G
    refine qT ?_
    refine qs ?_
    obtain ⟨j13, hj13, G⟩ := qP G
    refine Qw (fun a w' => ∃ (p_j12 : Option Addr) (c_j12 np_j12 : Nat), np_j12 = j13.length ∧ RL w 65 [(1, sS p_a1 L_a1.length c_a1), (5, sS p_j12 np_j12 c_j12), (6, sI x9), (66, Qh qi 1 p_a1 c_a1 L_a1 ql), (67, QA qi Qp.toPart L_a1), (900173, Yo 2 1 p_j12 np_j12 c_j12 (j13.flatMap qB))] a w') ?_ ?_
    ·clear H; rintro a w' ⟨p_j12, c_j12, _, rfl, H⟩
     refine qN qd H (.v 17 (vI x9) <|
 .v 18 (vI (qe (x9 + 1))) <|
 .v 6 (vI (qe (x9 + 1))) <| .nil) [1, 5, 6, 66, 67, 900173] fun u14 a w' H => ?_
     replace H := H.move (K := QU 2 1 p_j12 c_j12 j13 qB) 900173 900172 (by kernel_rfl) (by intro _ _ h; cases h)
     exact ⟨k, Nat.lt_succ_self k, _, _, G, p_j12, c_j12, j13.length, rfl, H.toM _⟩
    ·clear G; replace G := hj13; clear hj13
     refine qA ?_
     refine qg qd H (.v 7 (vI 0) <| .nil) [1, 5, 6, 7, 66, 67, 900172] fun u15 a w' H => ?_
     refine qs ?_
     obtain ⟨j17, hj17, G⟩ := qP G
     refine Qw (fun a w' => RL w 65 [(1, sS p_a1 L_a1.length c_a1), (5, sS p_x8 x8.length c_x8), (6, sI x9), (7, sI j17), (66, Qh qi 1 p_a1 c_a1 L_a1 ql), (67, QA qi Qp.toPart L_a1), (900172, QU 2 1 p_x8 c_x8 x8 qB)] a w') ?_ ?_
     ·clear H; intro a w' H
      refine qg qd H (.v 9 (vI 0) <| .nil) [1, 5, 6, 7, 9, 66, 67, 900172] fun u18 a w' H => ?_
      refine qA ?_
      replace H := H.move (K := QU 2 1 p_x8 c_x8 x8 qB) 900172 900174 (by kernel_rfl) (by intro _ _ h; cases h)
      refine Qv (fun m a w' => ∃ x19 : List Int, ∃ x20 : Int, qr.l21 k0 a0 a1 x8 x9 j17 m x19 x20 = some j13 ∧ ∃ (p_x19 : Option Addr) (c_x19 np_x19 : Nat), np_x19 = x19.length ∧ RL w 65 [(1, sS p_a1 L_a1.length c_a1), (5, sS p_x19 np_x19 c_x19), (6, sI x9), (7, sI j17), (9, sI x20), (66, Qh qi 1 p_a1 c_a1 L_a1 ql), (67, QA qi Qp.toPart L_a1), (900174, Yo 2 1 p_x19 np_x19 c_x19 (x19.flatMap qB))] a w') k0 ⟨_, _, G, p_x8, c_x8, x8.length, rfl, H.toM _⟩ ?_
      clear G H
      rintro (_ | k) a w' ⟨x19, x20, G, p_x19, c_x19, _, rfl, H⟩
      ·exact absurd G (by unfold qr.l21; exact fun h => by cases h)
      ·unfold qr.l21 at G
       refine qs ?_
       refine qg qd H (.v 40 (vI x20) <|
 .v 41 (.slice p_x19 x19.length c_x19) <|
 .v 42 (vI (x19.length : Int)) <|
 .v 43 (.bool (decide (x20 < (x19.length : Int)))) <| .nil) [1, 5, 6, 7, 9, 43, 66, 67, 900174] fun u22 a w' H => ?_
       refine Qr H (decide (x20 < (x19.length : Int))) (fun c36 => ?_) fun c36 => ?_
       ·rw [if_pos c36] at G
        refine qT ?_
        refine qs ?_
        refine qA ?_
        replace G := gd G; obtain ⟨b24, G⟩ := G
        obtain ⟨t25, ht25, G⟩ := qP G
        have P26 := XT (en := qB) (l := x19) (qY (QN (H.at (K := QU 2 1 p_x19 c_x19 x19 qB) 900174 (by kernel_rfl)))).2 q8
        replace G := gd G; obtain ⟨b27, G⟩ := G
        obtain ⟨t28, ht28, G⟩ := qP G
        obtain ⟨p_t28, c_t28, y_t28⟩ := QE h_a1 ht28
        have P29 := XT (en := ql) (l := L_a1) (qq (H.at (K := Qh qi 1 p_a1 c_a1 L_a1 ql) 66 (by kernel_rfl))).2 qk
        replace G := gd G; obtain ⟨b30, G⟩ := G
        obtain ⟨t31, ht31, G⟩ := qP G
        obtain ⟨t32, ht32, G⟩ := qP G
        replace G := gd G; obtain ⟨b33, G⟩ := G
        obtain ⟨t34, ht34, G⟩ := qP G
        refine qN qd H (.v 46 (.slice p_x19 x19.length c_x19) <|
 .v 47 (vI x20) <|
 .v 48 (.slice p_x19 x19.length c_x19) <|
 .v 49 (vI x20) <|
 .cons [50] (qp (fun u23 => .pointer (some ⟨XB p_x19, XC p_x19 + x20.toNat * 1, none⟩)) 50 (hv := fun _ _ => QH (t := 26) (k := .i64) (i := x20) (p := p_x19) (n := x19.length) (cap := c_x19) (x := x19) P26 rfl b24 (by kernel_rfl))) <|
 .cons [51] (qy 900174 (QU 2 1 p_x19 c_x19 x19 qB) (vI t25) 51 fun _ w h => Ya qB (qY (QN h)).2 q8 ht25 0 1 [vI t25]) <|
 .v 52 (vI j17) <|
 .v 53 (.slice p_a1 L_a1.length c_a1) <|
 .v 54 (vI x9) <|
 .cons [55] (qp (fun u23 => .pointer (some ⟨XB p_a1, XC p_a1 + x9.toNat * 1, none⟩)) 55 (hv := fun _ _ => QH (t := 31) (k := .i64) (i := x9) (p := p_a1) (n := L_a1.length) (cap := c_a1) (x := a1) P29 (qD h_a1) b27 (by kernel_rfl))) <|
 .cons [56] (qy 66 (Qh qi 1 p_a1 c_a1 L_a1 ql) (.slice p_t28 t28.length c_t28) 56 fun _ w h => Ya ql (qq h).2 qk y_t28 0 1 [.slice p_t28 t28.length c_t28]) <|
 .v 57 (vI x20) <|
 .cons [58] (qy 67 (QA qi Qp.toPart L_a1) (.pointer (some ⟨XB p_t28, XC p_t28 + x20.toNat * 1, none⟩)) 58 fun _ w h => YQ 26 .i64 x20 p_t28 t28.length c_t28 t28 qB (show Xv _ 1 p_t28 t28.length c_t28 (t28.flatMap qB) from ((Qb h) _ (List.mem_of_getElem? y_t28)).1).2 q8 rfl b30) <|
 .cons [59] (qy 67 (QA qi Qp.toPart L_a1) (vI t31) 59 fun _ w h => Ya qB (show Xv _ 1 p_t28 t28.length c_t28 (t28.flatMap qB) from ((Qb h) _ (List.mem_of_getElem? y_t28)).1).2 q8 ht31 0 1 [vI t31]) <|
 .v 60 (vI (qe (j17 * t31))) <|
 .cons [61] (qo 95 _ _ 61 [] (fun u23 w _ => XS.calls (qe (j17 * t31)) 65536  t32 w  ht32)) <|
 .v 62 (vI (qe (t25 - t32))) <|
 .cons [63] (qp (fun u23 => .pointer (some ⟨XB p_x19, XC p_x19 + x20.toNat * 1, none⟩)) 63 (hv := fun _ _ => QH (t := 26) (k := .i64) (i := x20) (p := p_x19) (n := x19.length) (cap := c_x19) (x := x19) P26 rfl b33 (by kernel_rfl))) <|
 .cons [900174, 900174] (Xs [] [] (fun u23 => []) 900174 (fun u23 => QU 2 1 p_x19 c_x19 x19 qB) none (fun u23 g => .nilFunc) (fun u23 g => Yo 2 1 p_x19 x19.length c_x19 ((x19.set x20.toNat (qe (t25 - t32))).flatMap qB)) (fun u23 w hF hK => Z8 (XP (QN hK) q8 (y := qe (t25 - t32)) (vs := [vI (qe (t25 - t32))]) ht34 0 (by simp) (by simp) rfl (by kernel_rfl)))) <| .nil) [1, 5, 6, 7, 9, 66, 67, 900174] fun u23 a w' H => ?_
        refine qN qd H (.v 44 (vI x20) <|
 .v 45 (vI (qe (x20 + 1))) <|
 .v 9 (vI (qe (x20 + 1))) <| .nil) [1, 5, 6, 7, 9, 66, 67, 900174] fun u35 a w' H => ?_
        exact ⟨k, Nat.lt_succ_self k, _, _, G, p_x19, c_x19, x19.length, by simp, H.toM _⟩
       ·rw [if_neg (nt c36)] at G
        refine QO rfl ?_
        obtain rfl := sj G
        replace H := H.move (K := QU 2 1 p_x19 c_x19 x19 qB) 900174 900173 (by kernel_rfl) (by intro _ _ h; cases h)
        exact ⟨p_x19, c_x19, x19.length, rfl, H.toM _⟩
     ·clear G; replace G := hj17; clear hj17
      refine qg qd H (.v 8 (vI 0) <| .nil) [1, 5, 6, 7, 8, 66, 67, 900172] fun u37 a w' H => ?_
      refine qA ?_
      refine Qv (fun m a w' => ∃ x38 : Int, ∃ x39 : Int, qr.l40 k0 a0 a1 x8 x9 m x38 x39 = some j17 ∧ RL w 65 [(1, sS p_a1 L_a1.length c_a1), (5, sS p_x8 x8.length c_x8), (6, sI x9), (7, sI x38), (8, sI x39), (66, Qh qi 1 p_a1 c_a1 L_a1 ql), (67, QA qi Qp.toPart L_a1), (900172, QU 2 1 p_x8 c_x8 x8 qB)] a w') k0 ⟨_, _, G, H.toM _⟩ ?_
      clear G H
      rintro (_ | k) a w' ⟨x38, x39, G, H⟩
      ·exact absurd G (by unfold qr.l40; exact fun h => by cases h)
      ·unfold qr.l40 at G
       refine qs ?_
       refine qg qd H (.v 19 (vI x39) <|
 .v 20 (.slice p_x8 x8.length c_x8) <|
 .v 21 (vI (x8.length : Int)) <|
 .v 22 (.bool (decide (x39 < (x8.length : Int)))) <| .nil) [1, 5, 6, 7, 8, 22, 66, 67, 900172] fun u41 a w' H => ?_
       refine Qr H (decide (x39 < (x8.length : Int))) (fun c53 => ?_) fun c53 => ?_
       ·rw [if_pos c53] at G
        refine qT ?_
        refine qs ?_
        refine qA ?_
        replace G := gd G; obtain ⟨b43, G⟩ := G
        obtain ⟨t44, ht44, G⟩ := qP G
        have P45 := XT (en := qB) (l := x8) (qY (QN (H.at (K := QU 2 1 p_x8 c_x8 x8 qB) 900172 (by kernel_rfl)))).2 q8
        replace G := gd G; obtain ⟨b46, G⟩ := G
        obtain ⟨t47, ht47, G⟩ := qP G
        obtain ⟨p_t47, c_t47, y_t47⟩ := QE h_a1 ht47
        have P48 := XT (en := ql) (l := L_a1) (qq (H.at (K := Qh qi 1 p_a1 c_a1 L_a1 ql) 66 (by kernel_rfl))).2 qk
        replace G := gd G; obtain ⟨b49, G⟩ := G
        obtain ⟨t50, ht50, G⟩ := qP G
        obtain ⟨t51, ht51, G⟩ := qP G
        refine qN qd H (.v 25 (vI x38) <|
 .v 26 (.slice p_x8 x8.length c_x8) <|
 .v 27 (vI x39) <|
 .cons [28] (qp (fun u42 => .pointer (some ⟨XB p_x8, XC p_x8 + x39.toNat * 1, none⟩)) 28 (hv := fun _ _ => QH (t := 26) (k := .i64) (i := x39) (p := p_x8) (n := x8.length) (cap := c_x8) (x := x8) P45 rfl b43 (by kernel_rfl))) <|
 .cons [29] (qy 900172 (QU 2 1 p_x8 c_x8 x8 qB) (vI t44) 29 fun _ w h => Ya qB (qY (QN h)).2 q8 ht44 0 1 [vI t44]) <|
 .v 30 (.slice p_a1 L_a1.length c_a1) <|
 .v 31 (vI x9) <|
 .cons [32] (qp (fun u42 => .pointer (some ⟨XB p_a1, XC p_a1 + x9.toNat * 1, none⟩)) 32 (hv := fun _ _ => QH (t := 31) (k := .i64) (i := x9) (p := p_a1) (n := L_a1.length) (cap := c_a1) (x := a1) P48 (qD h_a1) b46 (by kernel_rfl))) <|
 .cons [33] (qy 66 (Qh qi 1 p_a1 c_a1 L_a1 ql) (.slice p_t47 t47.length c_t47) 33 fun _ w h => Ya ql (qq h).2 qk y_t47 0 1 [.slice p_t47 t47.length c_t47]) <|
 .v 34 (vI x39) <|
 .cons [35] (qy 67 (QA qi Qp.toPart L_a1) (.pointer (some ⟨XB p_t47, XC p_t47 + x39.toNat * 1, none⟩)) 35 fun _ w h => YQ 26 .i64 x39 p_t47 t47.length c_t47 t47 qB (show Xv _ 1 p_t47 t47.length c_t47 (t47.flatMap qB) from ((Qb h) _ (List.mem_of_getElem? y_t47)).1).2 q8 rfl b49) <|
 .cons [36] (qy 67 (QA qi Qp.toPart L_a1) (vI t50) 36 fun _ w h => Ya qB (show Xv _ 1 p_t47 t47.length c_t47 (t47.flatMap qB) from ((Qb h) _ (List.mem_of_getElem? y_t47)).1).2 q8 ht50 0 1 [vI t50]) <|
 .v 37 (vI (qe (t44 * t50))) <|
 .cons [38] (qo 95 _ _ 38 [] (fun u42 w _ => XS.calls (qe (t44 * t50)) 65536  t51 w  ht51)) <|
 .v 39 (vI (qe (x38 + t51))) <|
 .v 7 (vI (qe (x38 + t51))) <| .nil) [1, 5, 6, 7, 8, 66, 67, 900172] fun u42 a w' H => ?_
        refine qN qd H (.v 23 (vI x39) <|
 .v 24 (vI (qe (x39 + 1))) <|
 .v 8 (vI (qe (x39 + 1))) <| .nil) [1, 5, 6, 7, 8, 66, 67, 900172] fun u52 a w' H => ?_
        exact ⟨k, Nat.lt_succ_self k, _, _, G, H.toM _⟩
       ·rw [if_neg (nt c53)] at G
        refine QO rfl ?_
        obtain rfl := sj G
        exact H.toM _
   ·rw [if_neg (nt c54)] at G
    refine QO rfl ?_
    obtain rfl := sj G
    replace H := H.move (K := QU 2 1 p_x8 c_x8 x8 qB) 900172 900171 (by kernel_rfl) (by intro _ _ h; cases h)
    exact ⟨p_x8, c_x8, x8.length, rfl, H.toM _⟩
theorem qU.calls (k0 : Nat) (a0 : List Int) (p_a0 : Option Addr) (c_a0 : Nat) (r : Int) (w : World) (hB : Yj [Qh qi 1 p_a0 c_a0 a0 qB] w) (G : qU k0 a0 = some r) :
  Calls Tryz.prog 94 #[.slice p_a0 a0.length c_a0] w fun e w' => e = .returned (vI r) ∧ Below w.heap.size w w' := by
 obtain ⟨fr, hfr⟩ : ∃ fr : Nat → Prop, ∀ j, fr j := ⟨fun _ => True, fun _ => trivial⟩
 have hBf : ∀ j, w.heap.size ≤ j → fr j := fun j _ => hfr j
 refine QQ (args := [.slice p_a0 a0.length c_a0]) 42 [(42, Qh qi 1 p_a0 c_a0 a0 qB)] (by
  intro x hx
  simp only [List.mem_cons, List.not_mem_nil, or_false] at hx
  rcases hx with rfl
  exact Ql (qq hB.1) (fun _ _ => trivial) (by decide) _) Tryz.func94 rfl (by kernel_rfl) (by kernel_rfl) fun a H => ?_
 unfold qU at G
 refine qg qd H (.v 2 (vI 0) <| .nil) [0, 42] fun u1 a w' H => ?_
 refine qg qd H (.v 3 (vI 0) <| .nil) [0, 3, 42] fun u2 a w' H => ?_
 refine qs ?_
 obtain ⟨j4, hj4, G⟩ := qP G
 refine Qw (fun a w' => RL w 42 [(3, sI j4)] a w') ?_ ?_
 ·clear H; intro a w' H
  refine qg qd H (.v 5 (vI 0) <|
 .v 6 (vI 2147483648) <| .nil) [3, 5, 6] fun u5 a w' H => ?_
  refine qs ?_
  obtain ⟨j7, hj7, G⟩ := qP G
  refine Qw (fun a w' => RL w 42 [(5, sI j7)] a w') ?_ ?_
  ·clear H; intro a w' H
   refine qg qd H (.v 41 (vI j7) <|
 .v 2 (vI j7) <| .nil) [2] fun u8 a w' H => ?_
   refine q7 ?_
   obtain rfl := sj G
   exact QG H _ (by kernel_rfl) (by kernel_rfl)
  ·clear G; replace G := hj7; clear hj7
   refine qA ?_
   refine Qv (fun m a w' => ∃ x9 : Int, ∃ x10 : Int, qU.l11 k0 a0 j4 m x9 x10 = some j7 ∧ RL w 42 [(3, sI j4), (5, sI x9), (6, sI x10)] a w') k0 ⟨_, _, G, H.toM _⟩ ?_
   clear G H
   rintro (_ | k) a w' ⟨x9, x10, G, H⟩
   ·exact absurd G (by unfold qU.l11; exact fun h => by cases h)
   ·unfold qU.l11 at G
    refine qs ?_
    refine qg qd H (.v 25 (vI x9) <|
 .v 26 (vI x10) <|
 .v 27 (.bool (decide (x9 < x10))) <| .nil) [3, 5, 6, 27] fun u12 a w' H => ?_
    refine Qr H (decide (x9 < x10)) (fun c19 => ?_) fun c19 => ?_
    ·rw [if_pos c19] at G
     refine qT ?_
     refine qA ?_
     refine qg qd H (.v 28 (vI x9) <|
 .v 29 (vI x10) <|
 .v 30 (vI (qe (x9 + x10))) <|
 .v 31 (vI (qe ((qe (x9 + x10)) + 1))) <|
 .v 32 (vI (qe (Int.tdiv (qe ((qe (x9 + x10)) + 1)) 2))) <|
 .v 7 (vI (qe (Int.tdiv (qe ((qe (x9 + x10)) + 1)) 2))) <| .nil) [3, 5, 6, 7] fun u13 a w' H => ?_
     obtain ⟨z15, hz15, G⟩ := qP G
     replace hz15 := Option.some.inj hz15
     refine qg qd H (.v 33 (vI (qe (Int.tdiv (qe ((qe (x9 + x10)) + 1)) 2))) <|
 .v 34 (vI (qe (Int.tdiv (qe ((qe (x9 + x10)) + 1)) 2))) <|
 .cons [35] (XO (u' := fun u14 => [(35, sI z15)]) (qp (fun u14 => vI (qe ((qe (Int.tdiv (qe ((qe (x9 + x10)) + 1)) 2)) * (qe (Int.tdiv (qe ((qe (x9 + x10)) + 1)) 2))))) 35) (fun _ => by rw [← hz15])) <|
 .v 36 (vI j4) <|
 .v 37 (.bool (decide (z15 ≤ j4))) <| .nil) [3, 5, 6, 7, 37] fun u14 a w' H => ?_
     refine Qr H (decide (z15 ≤ j4)) (fun c18 => ?_) fun c18 => ?_
     ·rw [if_pos c18] at G
      refine qN qd H (.v 38 (vI (qe (Int.tdiv (qe ((qe (x9 + x10)) + 1)) 2))) <|
 .v 5 (vI (qe (Int.tdiv (qe ((qe (x9 + x10)) + 1)) 2))) <| .nil) [3, 5, 6] fun u16 a w' H => ?_
      exact ⟨k, Nat.lt_succ_self k, _, _, G, H.toM _⟩
     ·rw [if_neg (nt c18)] at G
      refine qN qd H (.v 39 (vI (qe (Int.tdiv (qe ((qe (x9 + x10)) + 1)) 2))) <|
 .v 40 (vI (qe ((qe (Int.tdiv (qe ((qe (x9 + x10)) + 1)) 2)) - 1))) <|
 .v 6 (vI (qe ((qe (Int.tdiv (qe ((qe (x9 + x10)) + 1)) 2)) - 1))) <| .nil) [3, 5, 6] fun u17 a w' H => ?_
      exact ⟨k, Nat.lt_succ_self k, _, _, G, H.toM _⟩
    ·rw [if_neg (nt c19)] at G
     refine QO rfl ?_
     obtain rfl := sj G
     exact H.toM _
 ·clear G; replace G := hj4; clear hj4
  refine qg qd H (.v 4 (vI 0) <| .nil) [0, 3, 4, 42] fun u20 a w' H => ?_
  refine qA ?_
  refine Qv (fun m a w' => ∃ x21 : Int, ∃ x22 : Int, qU.l23 k0 a0 m x21 x22 = some j4 ∧ RL w 42 [(0, sS p_a0 a0.length c_a0), (3, sI x21), (4, sI x22), (42, Qh qi 1 p_a0 c_a0 a0 qB)] a w') k0 ⟨_, _, G, H.toM _⟩ ?_
  clear G H
  rintro (_ | k) a w' ⟨x21, x22, G, H⟩
  ·exact absurd G (by unfold qU.l23; exact fun h => by cases h)
  ·unfold qU.l23 at G
   refine qs ?_
   refine qg qd H (.v 8 (vI x22) <|
 .v 9 (.slice p_a0 a0.length c_a0) <|
 .v 10 (vI (a0.length : Int)) <|
 .v 11 (.bool (decide (x22 < (a0.length : Int)))) <| .nil) [0, 3, 4, 11, 42] fun u24 a w' H => ?_
   refine Qr H (decide (x22 < (a0.length : Int))) (fun c32 => ?_) fun c32 => ?_
   ·rw [if_pos c32] at G
    refine qT ?_
    refine qs ?_
    refine qA ?_
    replace G := gd G; obtain ⟨b26, G⟩ := G
    obtain ⟨t27, ht27, G⟩ := qP G
    have P28 := XT (en := qB) (l := a0) (qq (H.at (K := Qh qi 1 p_a0 c_a0 a0 qB) 42 (by kernel_rfl))).2 q8
    replace G := gd G; obtain ⟨b29, G⟩ := G
    obtain ⟨t30, ht30, G⟩ := qP G
    refine qN qd H (.v 14 (vI x21) <|
 .v 15 (.slice p_a0 a0.length c_a0) <|
 .v 16 (vI x22) <|
 .cons [17] (qp (fun u25 => .pointer (some ⟨XB p_a0, XC p_a0 + x22.toNat * 1, none⟩)) 17 (hv := fun _ _ => QH (t := 26) (k := .i64) (i := x22) (p := p_a0) (n := a0.length) (cap := c_a0) (x := a0) P28 rfl b26 (by kernel_rfl))) <|
 .cons [18] (qy 42 (Qh qi 1 p_a0 c_a0 a0 qB) (vI t27) 18 fun _ w h => Ya qB (qq h).2 q8 ht27 0 1 [vI t27]) <|
 .v 19 (.slice p_a0 a0.length c_a0) <|
 .v 20 (vI x22) <|
 .cons [21] (qp (fun u25 => .pointer (some ⟨XB p_a0, XC p_a0 + x22.toNat * 1, none⟩)) 21 (hv := fun _ _ => QH (t := 26) (k := .i64) (i := x22) (p := p_a0) (n := a0.length) (cap := c_a0) (x := a0) P28 rfl b29 (by kernel_rfl))) <|
 .cons [22] (qy 42 (Qh qi 1 p_a0 c_a0 a0 qB) (vI t30) 22 fun _ w h => Ya qB (qq h).2 q8 ht30 0 1 [vI t30]) <|
 .v 23 (vI (qe (t27 * t30))) <|
 .v 24 (vI (qe (x21 + (qe (t27 * t30))))) <|
 .v 3 (vI (qe (x21 + (qe (t27 * t30))))) <| .nil) [0, 3, 4, 42] fun u25 a w' H => ?_
    refine qN qd H (.v 12 (vI x22) <|
 .v 13 (vI (qe (x22 + 1))) <|
 .v 4 (vI (qe (x22 + 1))) <| .nil) [0, 3, 4, 42] fun u31 a w' H => ?_
    exact ⟨k, Nat.lt_succ_self k, _, _, G, H.toM _⟩
   ·rw [if_neg (nt c32)] at G
    refine QO rfl ?_
    obtain rfl := sj G
    exact H.toM _
theorem qF.calls (k0 : Nat) (a0 : List Int) (a1 : List (List Int)) (p_a0 : Option Addr) (c_a0 : Nat) (p_a1 : Option Addr) (c_a1 : Nat) (L_a1 : List (Sl Int)) (r : List Int) (w : World) (h_a1 : a1 = L_a1.map Sl.l) (hB : Yj [Qh qi 1 p_a1 c_a1 L_a1 ql, QA qi Qp.toPart L_a1] w) (hF : Yj [Qh qi 1 p_a0 c_a0 a0 qB] w) (G : qF k0 a0 a1 = some r) :
  Calls Tryz.prog 65 #[.slice p_a0 a0.length c_a0, .slice p_a1 L_a1.length c_a1] w fun e w' => ∃ g : Gh, e = .returned (.slice (g.o 0) r.length (g.n 0)) ∧ Y7 (YT []) w w' ∧ YD w.heap.size (YT []) (JG w.heap.size [Qh qi 1 p_a0 c_a0 a0 qB]) [fun fr => rdF fr 1 (g.o 0) r.length (g.n 0) (r.flatMap qB)] w' := by
 obtain ⟨fr, hfr, hBf⟩ := J4 w [Qh qi 1 p_a0 c_a0 a0 qB]
 refine QQ (args := [.slice p_a0 a0.length c_a0, .slice p_a1 L_a1.length c_a1]) 54 [(55, Qh qi 1 p_a1 c_a1 L_a1 ql), (56, QA qi Qp.toPart L_a1), (54, Qh fr 1 p_a0 c_a0 a0 qB)] (by
  intro x hx
  simp only [List.mem_cons, List.not_mem_nil, or_false] at hx
  rcases hx with rfl | rfl | rfl
  ·exact Ql (qq hB.1) (fun _ _ => trivial) (by decide) _
  ·exact Xt (Qb hB.2.1) (fun _ _ => trivial) _
  ·exact Ql (qq hF.1) (fun j h => by rw [hfr]; exact .inr ⟨_, (.head _), h⟩) (by decide) _) Tryz.func65 rfl (by kernel_rfl) (by kernel_rfl) fun a H => ?_
 unfold qF at G
 refine qg qd H (.v 4 (.slice none 0 0) <| .nil) [0, 1, 54, 55, 56] fun u1 a w' H => ?_
 refine qs ?_
 obtain ⟨j3, hj3, Gj3⟩ := qP G
 refine Qw (fun a w' => ∃ j3v, j3 = Sum.inr j3v ∧ ∃ (p_j2 : Option Addr) (c_j2 np_j2 : Nat), np_j2 = j3v.length ∧ RL w 54 [(0, sS p_j2 np_j2 c_j2), (900179, rdF fr 1 p_j2 np_j2 c_j2 (j3v.flatMap qB))] a w') ?_ ?_
 ·clear H; rintro a w' ⟨j3v, rfl, p_j2, c_j2, _, rfl, H⟩; have G := Gj3; clear Gj3; dsimp only at G
  refine qg qd H (.v 53 (.slice p_j2 j3v.length c_j2) <|
 .v 4 (.slice p_j2 j3v.length c_j2) <| .nil) [4, 900179] fun u4 a w' H => ?_
  refine q7 ?_
  obtain rfl := sj G
  obtain ⟨g, o0, n0⟩ := VI p_j2 c_j2
  refine Xo H _ g _ _ _ fr [900179] [] (.slice p_j2 j3v.length c_j2) [fun fr => Qh fr 1 p_j2 c_j2 j3v qB] (by simp only [QU, o0, n0]) (by simp only [QU, o0, n0]) hfr (.inl ⟨rfl, rfl⟩) (qx (qcd (by decide)) qI) (by simp)
 ·have G := hj3; clear hj3
  refine qg qd H (.v 5 (vI (-1)) <| .nil) [0, 1, 5, 54, 55, 56] fun u5 a w' H => ?_
  refine qA ?_
  replace H := H.dup (K := Qh fr 1 p_a0 c_a0 a0 qB) 54 900180 (by kernel_rfl) (fun h => h) (by intro _ _ h; cases h)
  refine Qv (fun m a w' => ∃ x6 : List Int, ∃ x7 : Int, qF.l8 k0 a0 a1 m x6 x7 = some j3 ∧ ∃ (p_x6 : Option Addr) (c_x6 np_x6 : Nat), np_x6 = x6.length ∧ RL w 54 [(0, sS p_x6 np_x6 c_x6), (1, sS p_a1 L_a1.length c_a1), (5, sI x7), (55, Qh qi 1 p_a1 c_a1 L_a1 ql), (56, QA qi Qp.toPart L_a1), (900180, rdF fr 1 p_x6 np_x6 c_x6 (x6.flatMap qB))] a w') k0 ⟨_, _, G, p_a0, c_a0, a0.length, rfl, H.toM _⟩ ?_
  clear G H
  rintro (_ | k) a w' ⟨x6, x7, G, p_x6, c_x6, _, rfl, H⟩
  ·exact absurd G (by unfold qF.l8; exact fun h => by cases h)
  ·unfold qF.l8 at G
   refine qs ?_
   refine qg qd H (.v 10 (vI x7) <|
 .v 11 (.slice p_x6 x6.length c_x6) <|
 .v 12 (vI (x6.length : Int)) <|
 .v 13 (.bool (decide (x7 < (x6.length : Int)))) <| .nil) [0, 1, 5, 13, 55, 56, 900180] fun u9 a w' H => ?_
   refine Qr H (decide (x7 < (x6.length : Int))) (fun c49 => ?_) fun c49 => ?_
   ·rw [if_pos c49] at G
    refine qT ?_
    refine qs ?_
    obtain ⟨j11, hj11, Gj11⟩ := qP G
    refine Qw (fun a w' => ∃ j11v, j11 = Sum.inr j11v ∧ ∃ (p_j10 : Option Addr) (c_j10 np_j10 : Nat), np_j10 = j11v.length ∧ RL w 54 [(0, sS p_j10 np_j10 c_j10), (1, sS p_a1 L_a1.length c_a1), (5, sI x7), (55, Qh qi 1 p_a1 c_a1 L_a1 ql), (56, QA qi Qp.toPart L_a1), (900181, rdF fr 1 p_j10 np_j10 c_j10 (j11v.flatMap qB))] a w') ?_ ?_
    ·clear H; rintro a w' ⟨j11v, rfl, p_j10, c_j10, _, rfl, H⟩; have G := Gj11; clear Gj11; dsimp only at G
     refine qN qd H (.v 14 (vI x7) <|
 .v 15 (vI (qe (x7 + 1))) <|
 .v 5 (vI (qe (x7 + 1))) <| .nil) [0, 1, 5, 55, 56, 900181] fun u12 a w' H => ?_
     replace H := H.dup (K := Qh fr 1 p_j10 c_j10 j11v qB) 900181 900180 (by kernel_rfl) (fun h => h) (by intro _ _ h; cases h)
     exact ⟨k, Nat.lt_succ_self k, _, _, G, p_j10, c_j10, j11v.length, rfl, H.toM _⟩
    ·have G := hj11; clear hj11
     refine qA ?_
     refine qg qd H (.v 6 (vI 4096) <| .nil) [0, 1, 5, 6, 55, 56, 900180] fun u13 a w' H => ?_
     refine qs ?_
     obtain ⟨j16, hj16, G⟩ := qP G
     refine Qw (fun a w' => ∃ (p_j14 : Option Addr) (c_j14 np_j14 : Nat), np_j14 = j16.1.length ∧ RL w 54 [(0, sS p_j14 np_j14 c_j14), (1, sS p_a1 L_a1.length c_a1), (5, sI x7), (6, sI j16.2), (55, Qh qi 1 p_a1 c_a1 L_a1 ql), (56, QA qi Qp.toPart L_a1), (900182, rdF fr 1 p_j14 np_j14 c_j14 (j16.1.flatMap qB))] a w') ?_ ?_
     ·clear H; rintro a w' ⟨p_j14, c_j14, _, rfl, H⟩
      obtain ⟨t18, ht18, G⟩ := qP G
      obtain ⟨t19, ht19, G⟩ := qP G
      obtain ⟨t20, ht20, G⟩ := qP G
      refine qg qd H (.v 24 (.slice p_j14 j16.1.length c_j14) <|
 .v 25 (.slice p_a1 L_a1.length c_a1) <|
 .cons [26, 58] (Qo false fr [] [900182, 55, 56] (fun u17 => [Qh fr 1 p_j14 c_j14 j16.1 qB, Qh qi 1 p_a1 c_a1 L_a1 ql, QA qi Qp.toPart L_a1]) [] (fun u17 => []) 93 _ _ _ _ _ [58] 26 (fun u17 w hB hF hM => qr.calls k0 j16.1 a1 p_j14 c_j14 p_a1 c_a1 L_a1 t18 w h_a1 hB ht18) (fun u17 w hF => ⟨⟨QP (qq hF.1) (fun j h => ⟨_, (.head _), h⟩), QP (qq hF.2.1) (fun j h => ⟨_, (.tail _ (.head _)), h⟩), Xk (Qb hF.2.2.1) (fun j h => ⟨_, (.tail _ (.tail _ (.head _))), h⟩), trivial⟩, trivial⟩) (fun u17 g => (qx X2 qI)) (.inr (fun u17 g => (Qj trivial (fun K h => by cases h)))) (fun h => by cases h)) <|
 .v 27 (.slice p_a1 L_a1.length c_a1) <|
 .cons [28, 59] (Qo false fr [2] [58, 55, 56] (fun u17 => [QU 2 1 ((u17 2).o 0) ((u17 2).n 0) t18 qB, Qh qi 1 p_a1 c_a1 L_a1 ql, QA qi Qp.toPart L_a1]) [] (fun u17 => []) 93 _ _ _ _ _ [59] 28 (fun u17 w hB hF hM => qr.calls k0 t18 a1 ((u17 2).o 0) ((u17 2).n 0) p_a1 c_a1 L_a1 t19 w h_a1 hB ht19) (fun u17 w hF => ⟨⟨QP (qY (QN hF.1)) (fun j h => ⟨_, (.head _), (Zm h)⟩), QP (qq hF.2.1) (fun j h => ⟨_, (.tail _ (.head _)), h⟩), Xk (Qb hF.2.2.1) (fun j h => ⟨_, (.tail _ (.tail _ (.head _))), h⟩), trivial⟩, trivial⟩) (fun u17 g => (qx X2 qI)) (.inr (fun u17 g => (Qj trivial (fun K h => by cases h)))) (fun h => by cases h) (hloc := fun u u' h => ⟨by first | rfl | simp only [h 2 (by decide)], by first | rfl | simp only [h 2 (by decide)], by first | rfl | simp only [h 2 (by decide)], by first | rfl | simp only [h 2 (by decide)], by first | rfl | simp only [h 2 (by decide)], by first | rfl | simp only [h 2 (by decide)]⟩)) <|
 .v 29 (.slice p_a1 L_a1.length c_a1) <|
 .cons [30, 60] (Qo false fr [4] [59, 55, 56] (fun u17 => [QU 2 1 ((u17 4).o 0) ((u17 4).n 0) t19 qB, Qh qi 1 p_a1 c_a1 L_a1 ql, QA qi Qp.toPart L_a1]) [] (fun u17 => []) 93 _ _ _ _ _ [60] 30 (fun u17 w hB hF hM => qr.calls k0 t19 a1 ((u17 4).o 0) ((u17 4).n 0) p_a1 c_a1 L_a1 t20 w h_a1 hB ht20) (fun u17 w hF => ⟨⟨QP (qY (QN hF.1)) (fun j h => ⟨_, (.head _), (Zm h)⟩), QP (qq hF.2.1) (fun j h => ⟨_, (.tail _ (.head _)), h⟩), Xk (Qb hF.2.2.1) (fun j h => ⟨_, (.tail _ (.tail _ (.head _))), h⟩), trivial⟩, trivial⟩) (fun u17 g => (qx X2 qI)) (.inr (fun u17 g => (Qj trivial (fun K h => by cases h)))) (fun h => by cases h) (hloc := fun u u' h => ⟨by first | rfl | simp only [h 4 (by decide)], by first | rfl | simp only [h 4 (by decide)], by first | rfl | simp only [h 4 (by decide)], by first | rfl | simp only [h 4 (by decide)], by first | rfl | simp only [h 4 (by decide)], by first | rfl | simp only [h 4 (by decide)]⟩)) <|
 .cons [7] (qp (fun u17 => .slice ((u17 6).o 0) t20.length ((u17 6).n 0)) 7) <| .nil) [0, 1, 5, 6, 7, 55, 56, 60, 900182] fun u17 a w' H => ?_
      obtain ⟨t22, ht22, G⟩ := qP G
      refine qg qd H (.v 31 (.slice ((u17 6).o 0) t20.length ((u17 6).n 0)) <|
 .cons [32] (Xi [60] (fun u21 => [QU 2 1 ((u17 6).o 0) ((u17 6).n 0) t20 qB]) 94 _ _ 32 (fun u21 w hF => qU.calls k0 t20 ((u17 6).o 0) ((u17 6).n 0) t22 w  ⟨(ZN (qY (QN hF.1))), trivial⟩ ht22)) <|
 .v 8 (vI t22) <| .nil) [0, 1, 5, 6, 7, 8, 55, 56, 60, 900182] fun u21 a w' H => ?_
      refine qs ?_
      refine qg qd H (.v 33 (vI t22) <|
 .v 34 (vI j16.2) <|
 .v 35 (.bool (decide (t22 < j16.2))) <| .nil) [0, 1, 5, 7, 8, 35, 55, 56, 60, 900182] fun u23 a w' H => ?_
      refine Qr H (decide (t22 < j16.2)) (fun c40 => ?_) fun c40 => ?_
      ·rw [if_pos c40] at G
       refine QO rfl ?_
       obtain rfl := sj G
       replace H := H.dup (K := Qh fr 1 p_j14 c_j14 j16.1 qB) 900182 900181 (by kernel_rfl) (fun h => h) (by intro _ _ h; cases h)
       exact ⟨_, rfl, p_j14, c_j14, j16.1.length, rfl, H.toM _⟩
      ·rw [if_neg (nt c40)] at G
       refine qT ?_
       refine qs ?_
       obtain ⟨j25, hj25, G⟩ := qP G
       refine Qw (fun a w' => ∃ (p_j24 : Option Addr) (c_j24 np_j24 : Nat), np_j24 = j25.length ∧ RL w 54 [(7, sS p_j24 np_j24 c_j24), (900183, Yo 2 1 p_j24 np_j24 c_j24 (j25.flatMap qB))] a w') ?_ ?_
       ·clear H; rintro a w' ⟨p_j24, c_j24, _, rfl, H⟩
        refine qg qd H (.v 52 (.slice p_j24 j25.length c_j24) <|
 .v 4 (.slice p_j24 j25.length c_j24) <| .nil) [4, 900183] fun u26 a w' H => ?_
        refine q7 ?_
        obtain rfl := sj G
        replace G := Gj11
        obtain rfl := sj G
        replace G := Gj3
        obtain rfl := sj G
        replace H := H.demote fr 900183 2 1 p_j24 j25.length c_j24 (j25.flatMap qB) (by kernel_rfl) (by decide) hBf
        obtain ⟨g, o0, n0⟩ := VI p_j24 c_j24
        refine Xo H _ g _ _ _ fr [900183] [] (.slice p_j24 j25.length c_j24) [fun fr => Qh fr 1 p_j24 c_j24 j25 qB] (by simp only [QU, o0, n0]) (by simp only [QU, o0, n0]) hfr (.inl ⟨rfl, rfl⟩) (qx (qcd (by decide)) qI) (by simp)
       ·clear G; replace G := hj25; clear hj25
        refine qg qd H (.v 9 (vI 0) <| .nil) [7, 8, 9, 60] fun u27 a w' H => ?_
        refine qA ?_
        replace H := H.move (K := QU 2 1 ((u17 6).o 0) ((u17 6).n 0) t20 qB) 60 900184 (by kernel_rfl) (by intro _ _ h; cases h)
        refine Qv (fun m a w' => ∃ x28 : List Int, ∃ x29 : Int, qF.l30 k0 a0 a1 x6 x7 j16 t18 t19 t20 t22 m x28 x29 = some j25 ∧ ∃ (p_x28 : Option Addr) (c_x28 np_x28 : Nat), np_x28 = x28.length ∧ RL w 54 [(7, sS p_x28 np_x28 c_x28), (8, sI t22), (9, sI x29), (900184, Yo 2 1 p_x28 np_x28 c_x28 (x28.flatMap qB))] a w') k0 ⟨_, _, G, ((u17 6).o 0), ((u17 6).n 0), t20.length, rfl, H.toM _⟩ ?_
        clear G H
        rintro (_ | k) a w' ⟨x28, x29, G, p_x28, c_x28, _, rfl, H⟩
        ·exact absurd G (by unfold qF.l30; exact fun h => by cases h)
        ·unfold qF.l30 at G
         refine qs ?_
         refine qg qd H (.v 36 (vI x29) <|
 .v 37 (.slice p_x28 x28.length c_x28) <|
 .v 38 (vI (x28.length : Int)) <|
 .v 39 (.bool (decide (x29 < (x28.length : Int)))) <| .nil) [7, 8, 9, 39, 900184] fun u31 a w' H => ?_
         refine Qr H (decide (x29 < (x28.length : Int))) (fun c39 => ?_) fun c39 => ?_
         ·rw [if_pos c39] at G
          refine qT ?_
          refine qs ?_
          refine qA ?_
          replace G := gd G; obtain ⟨b33, G⟩ := G
          obtain ⟨t34, ht34, G⟩ := qP G
          obtain ⟨t35, ht35, G⟩ := qP G
          replace G := gd G; obtain ⟨b36, G⟩ := G
          obtain ⟨t37, ht37, G⟩ := qP G
          refine qN qd H (.v 42 (.slice p_x28 x28.length c_x28) <|
 .v 43 (vI x29) <|
 .v 44 (.slice p_x28 x28.length c_x28) <|
 .v 45 (vI x29) <|
 .cons [46] (qy 900184 (QU 2 1 p_x28 c_x28 x28 qB) (.pointer (some ⟨XB p_x28, XC p_x28 + x29.toNat * 1, none⟩)) 46 fun _ w h => YQ 26 .i64 x29 p_x28 x28.length c_x28 x28 qB (qY (QN h)).2 q8 rfl b33) <|
 .cons [47] (qy 900184 (QU 2 1 p_x28 c_x28 x28 qB) (vI t34) 47 fun _ w h => Ya qB (qY (QN h)).2 q8 ht34 0 1 [vI t34]) <|
 .v 48 (vI (qe (t34 * 65536))) <|
 .v 49 (vI t22) <|
 .cons [50] (qo 95 _ _ 50 [] (fun u32 w _ => XS.calls (qe (t34 * 65536)) t22  t35 w  ht35)) <|
 .cons [51] (qy 900184 (QU 2 1 p_x28 c_x28 x28 qB) (.pointer (some ⟨XB p_x28, XC p_x28 + x29.toNat * 1, none⟩)) 51 fun _ w h => YQ 26 .i64 x29 p_x28 x28.length c_x28 x28 qB (qY (QN h)).2 q8 rfl b36) <|
 .cons [900184, 900184] (Xs [] [] (fun u32 => []) 900184 (fun u32 => QU 2 1 p_x28 c_x28 x28 qB) none (fun u32 g => .nilFunc) (fun u32 g => Yo 2 1 p_x28 x28.length c_x28 ((x28.set x29.toNat t35).flatMap qB)) (fun u32 w hF hK => Z8 (XP (QN hK) q8 (y := t35) (vs := [vI t35]) ht37 0 (by simp) (by simp) rfl (by kernel_rfl)))) <| .nil) [7, 8, 9, 900184] fun u32 a w' H => ?_
          refine qN qd H (.v 40 (vI x29) <|
 .v 41 (vI (qe (x29 + 1))) <|
 .v 9 (vI (qe (x29 + 1))) <| .nil) [7, 8, 9, 900184] fun u38 a w' H => ?_
          exact ⟨k, Nat.lt_succ_self k, _, _, G, p_x28, c_x28, x28.length, by simp, H.toM _⟩
         ·rw [if_neg (nt c39)] at G
          refine QO rfl ?_
          obtain rfl := sj G
          replace H := H.move (K := QU 2 1 p_x28 c_x28 x28 qB) 900184 900183 (by kernel_rfl) (by intro _ _ h; cases h)
          exact ⟨p_x28, c_x28, x28.length, rfl, H.toM _⟩
     ·clear G; replace G := hj16; clear hj16
      refine qg qd H (.v 16 (vI x7) <|
 .v 17 (.bool (decide (x7 ≥ 0))) <| .nil) [0, 1, 5, 6, 17, 55, 56, 900180] fun u41 a w' H => ?_
      refine Qr H (decide (x7 ≥ 0)) (fun c48 => ?_) fun c48 => ?_
      ·rw [if_pos c48] at G
       refine qs ?_
       replace G := gd G; obtain ⟨b43, G⟩ := G
       refine qN qd H (.v 18 (.slice p_x6 x6.length c_x6) <|
 .v 19 (vI (x6.length : Int)) <|
 .cons [20, 65] (Zl [] (fun u42 => []) 2 1 (List.replicate (x6.length : Int).toNat (0 : Int)).length ((List.replicate (x6.length : Int).toNat (0 : Int)).flatMap qB) 20 65 (fun _ => .none) (fun u42 w hF => YG (t := 26) (k := .i64) (m := (x6.length : Int)) (en := qB) (z := (0 : Int)) q8 qco rfl b43 (by kernel_rfl)) (fun _ => .inl rfl)) <|
 .cons [0] (qp (fun u42 => .slice ((u42 2).o 0) ((List.replicate (x6.length : Int).toNat (0 : Int)).length) ((u42 2).n 0)) 0) <| .nil) [0, 1, 5, 55, 56, 65] fun u42 a w' H => ?_
       refine qs ?_
       replace G := gd G; obtain ⟨b45, G⟩ := G
       obtain ⟨t46, ht46, G⟩ := qP G
       refine qN qd H (.v 21 (.slice ((u42 2).o 0) ((List.replicate (x6.length : Int).toNat (0 : Int)).length) ((u42 2).n 0)) <|
 .v 22 (vI x7) <|
 .cons [23] (qy 65 (QU 2 1 ((u42 2).o 0) ((u42 2).n 0) (List.replicate (x6.length : Int).toNat (0 : Int)) qB) (.pointer (some ⟨XB ((u42 2).o 0), XC ((u42 2).o 0) + x7.toNat * 1, none⟩)) 23 fun _ w h => Z6 (t := 26) (k := .i64) (i := x7) (p := ((u42 2).o 0)) (n := (List.replicate (x6.length : Int).toNat (0 : Int)).length) (cap := ((u42 2).n 0)) (x := (List.replicate (x6.length : Int).toNat (0 : Int))) (en := qB) (qY (QN h)).2 q8 rfl b45 (by kernel_rfl)) <|
 .cons [65, 65] (Xs [] [] (fun u44 => []) 65 (fun u44 => QU 2 1 ((u42 2).o 0) ((u42 2).n 0) (List.replicate (x6.length : Int).toNat (0 : Int)) qB) none (fun u44 g => .nilFunc) (fun u44 g => Yo 2 1 ((u42 2).o 0) ((List.replicate (x6.length : Int).toNat (0 : Int)).length) ((u42 2).n 0) (((List.replicate (x6.length : Int).toNat (0 : Int)).set x7.toNat 65536).flatMap qB)) (fun u44 w hF hK => Z8 (XP (QN hK) q8 (y := 65536) (vs := [vI 65536]) ht46 0 (by simp) (by simp) rfl (by kernel_rfl)))) <| .nil) [0, 1, 5, 55, 56, 65] fun u44 a w' H => ?_
       refine qN qd H (.v 6 (vI 16384) <| .nil) [0, 1, 5, 6, 55, 56, 65] fun u47 a w' H => ?_
       obtain rfl := sj G
       replace H := H.demote fr 65 2 1 ((u42 2).o 0) ((List.replicate (x6.length : Int).toNat (0 : Int)).length) ((u42 2).n 0) (((List.replicate (x6.length : Int).toNat (0 : Int)).set x7.toNat 65536).flatMap qB) (by kernel_rfl) (by decide) hBf
       replace H := H.dup (K := rdF fr 1 ((u42 2).o 0) ((List.replicate (x6.length : Int).toNat (0 : Int)).length) ((u42 2).n 0) (((List.replicate (x6.length : Int).toNat (0 : Int)).set x7.toNat 65536).flatMap qB)) 65 900182 (by kernel_rfl) (fun h => h) (by intro _ _ h; cases h)
       exact ⟨((u42 2).o 0), ((u42 2).n 0), (List.replicate (x6.length : Int).toNat (0 : Int)).length, by simp, H.toM _⟩
      ·rw [if_neg (nt c48)] at G
       refine qT ?_
       obtain rfl := sj G
       replace H := H.dup (K := Qh fr 1 p_x6 c_x6 x6 qB) 900180 900182 (by kernel_rfl) (fun h => h) (by intro _ _ h; cases h)
       exact ⟨p_x6, c_x6, x6.length, rfl, H.toM _⟩
   ·rw [if_neg (nt c49)] at G
    refine QO rfl ?_
    obtain rfl := sj G
    replace H := H.dup (K := Qh fr 1 p_x6 c_x6 x6 qB) 900180 900179 (by kernel_rfl) (fun h => h) (by intro _ _ h; cases h)
    exact ⟨_, rfl, p_x6, c_x6, x6.length, rfl, H.toM _⟩
theorem Qy.calls (k0 : Nat) (a0 : List (List Int)) (a1 : Int) (p_a0 : Option Addr) (c_a0 : Nat) (L_a0 : List (Sl Int)) (r : List Int) (w : World) (h_a0 : a0 = L_a0.map Sl.l) (hB : Yj [Qh qi 1 p_a0 c_a0 L_a0 ql, QA qi Qp.toPart L_a0] w) (G : Qy k0 a0 a1 = some r) :
  Calls Tryz.prog 66 #[.slice p_a0 L_a0.length c_a0, vI a1] w fun e w' => ∃ g : Gh, e = .returned (.slice (g.o 0) r.length (g.n 0)) ∧ Y7 (YT []) w w' ∧ YD w.heap.size (YT []) (JG w.heap.size []) [fun _ => QU 2 1 (g.o 0) (g.n 0) r qB] w' := by
 obtain ⟨fr, hfr, hBf⟩ := J4 w []
 refine QQ (args := [.slice p_a0 L_a0.length c_a0, vI a1]) 25 [(25, Qh qi 1 p_a0 c_a0 L_a0 ql), (26, QA qi Qp.toPart L_a0)] (by
  intro x hx
  simp only [List.mem_cons, List.not_mem_nil, or_false] at hx
  rcases hx with rfl | rfl
  ·exact Ql (qq hB.1) (fun _ _ => trivial) (by decide) _
  ·exact Xt (Qb hB.2.1) (fun _ _ => trivial) _) Tryz.func66 rfl (by kernel_rfl) (by kernel_rfl) fun a H => ?_
 unfold Qy at G
 refine qg qd H (.v 4 (.slice none 0 0) <| .nil) [0, 1, 25, 26] fun u1 a w' H => ?_
 refine qg qd H (.cons [7, 27] (qH (fun b => .slice (some ⟨b, 0, none⟩) 0 0) (fun u2 => []) 2 7 27) <|
 .cons [5] (qp (fun u2 => .slice (some ⟨((u2 0).n 0), 0, none⟩) 0 0) 5) <| .nil) [0, 1, 5, 25, 26, 27] fun u2 a w' H => ?_
 refine qs ?_
 obtain ⟨j4, hj4, G⟩ := qP G
 refine Qw (fun a w' => ∃ (p_j3 : Option Addr) (c_j3 np_j3 : Nat), np_j3 = j4.length ∧ RL w 25 [(5, sS p_j3 np_j3 c_j3), (900185, Yo 2 1 p_j3 np_j3 c_j3 (j4.flatMap qB))] a w') ?_ ?_
 ·clear H; rintro a w' ⟨p_j3, c_j3, _, rfl, H⟩
  refine qg qd H (.v 24 (.slice p_j3 j4.length c_j3) <|
 .v 4 (.slice p_j3 j4.length c_j3) <| .nil) [4, 900185] fun u5 a w' H => ?_
  refine q7 ?_
  obtain rfl := sj G
  obtain ⟨g, o0, n0⟩ := VI p_j3 c_j3
  refine Xo H _ g _ _ _ fr [900185] [] (.slice p_j3 j4.length c_j3) [fun _ => QU 2 1 p_j3 c_j3 j4 qB] (by simp only [QU, o0, n0]) (by simp only [QU, o0, n0]) hfr (.inl ⟨rfl, rfl⟩) (qx X2 qI) (by simp)
 ·clear G; replace G := hj4; clear hj4
  refine qg qd H (.v 6 (vI 0) <| .nil) [0, 1, 5, 6, 25, 26, 27] fun u6 a w' H => ?_
  refine qA ?_
  replace H := H.blk_row 27 ((u2 0).n 0) [] 2 1 0 (by kernel_rfl) (by kernel_rfl) (by decide)
  replace H := H.move (K := Yo 2 1 (some ⟨((u2 0).n 0), 0, none⟩) 0 0 (([] : List Int).flatMap qB)) 27 900186 (by kernel_rfl) (by intro _ _ h; cases h)
  refine Qv (fun m a w' => ∃ x7 : List Int, ∃ x8 : Int, Qy.l9 k0 a0 a1 m x7 x8 = some j4 ∧ ∃ (p_x7 : Option Addr) (c_x7 np_x7 : Nat), np_x7 = x7.length ∧ RL w 25 [(0, sS p_a0 L_a0.length c_a0), (1, sI a1), (5, sS p_x7 np_x7 c_x7), (6, sI x8), (25, Qh qi 1 p_a0 c_a0 L_a0 ql), (26, QA qi Qp.toPart L_a0), (900186, Yo 2 1 p_x7 np_x7 c_x7 (x7.flatMap qB))] a w') k0 ⟨_, _, G, (some ⟨((u2 0).n 0), 0, none⟩), 0, 0, rfl, H.toM _⟩ ?_
  clear G H
  rintro (_ | k) a w' ⟨x7, x8, G, p_x7, c_x7, _, rfl, H⟩
  ·exact absurd G (by unfold Qy.l9; exact fun h => by cases h)
  ·unfold Qy.l9 at G
   refine qs ?_
   refine qg qd H (.v 8 (vI x8) <|
 .v 9 (.slice p_a0 L_a0.length c_a0) <|
 .cons [10] (qy 25 (Qh qi 1 p_a0 c_a0 L_a0 ql) (vI (a0.length : Int)) 10 fun _ w h => Q7 (((qq h).2.len qk (by decide)).trans (qD h_a0).symm) (by kernel_rfl)) <|
 .v 11 (.bool (decide (x8 < (a0.length : Int)))) <| .nil) [0, 1, 5, 6, 11, 25, 26, 900186] fun u10 a w' H => ?_
   refine Qr H (decide (x8 < (a0.length : Int))) (fun c18 => ?_) fun c18 => ?_
   ·rw [if_pos c18] at G
    refine qT ?_
    refine qs ?_
    refine qA ?_
    replace G := gd G; obtain ⟨b12, G⟩ := G
    obtain ⟨t13, ht13, G⟩ := qP G
    obtain ⟨p_t13, c_t13, y_t13⟩ := QE h_a0 ht13
    replace G := gd G; obtain ⟨b14, G⟩ := G
    obtain ⟨t15, ht15, G⟩ := qP G
    replace G := gd G; obtain ⟨b16, G⟩ := G
    refine qN qd H (.v 14 (.slice p_x7 x7.length c_x7) <|
 .v 15 (.slice p_a0 L_a0.length c_a0) <|
 .v 16 (vI x8) <|
 .cons [17] (qy 25 (Qh qi 1 p_a0 c_a0 L_a0 ql) (.pointer (some ⟨XB p_a0, XC p_a0 + x8.toNat * 1, none⟩)) 17 fun _ w h => YQ 31 .i64 x8 p_a0 L_a0.length c_a0 a0 ql (qq h).2 qk (qD h_a0) b12) <|
 .cons [18] (qy 25 (Qh qi 1 p_a0 c_a0 L_a0 ql) (.slice p_t13 t13.length c_t13) 18 fun _ w h => Ya ql (qq h).2 qk y_t13 0 1 [.slice p_t13 t13.length c_t13]) <|
 .v 19 (vI a1) <|
 .cons [20] (qy 26 (QA qi Qp.toPart L_a0) (.pointer (some ⟨XB p_t13, XC p_t13 + a1.toNat * 1, none⟩)) 20 fun _ w h => YQ 26 .i64 a1 p_t13 t13.length c_t13 t13 qB (show Xv _ 1 p_t13 t13.length c_t13 (t13.flatMap qB) from ((Qb h) _ (List.mem_of_getElem? y_t13)).1).2 q8 rfl b14) <|
 .cons [21] (qy 26 (QA qi Qp.toPart L_a0) (vI t15) 21 fun _ w h => Ya qB (show Xv _ 1 p_t13 t13.length c_t13 (t13.flatMap qB) from ((Qb h) _ (List.mem_of_getElem? y_t13)).1).2 q8 ht15 0 1 [vI t15]) <|
 .cons [22, 28] (qH (fun b => .slice (some ⟨b, 0, none⟩) 1 1) (fun u11 => [vI t15]) 2 22 28) <|
 .cons [23, 900186, 900186] (Xs [8] [28] (fun u11 => [.blk ((u11 8).n 0) [vI t15] 2]) 900186 (fun u11 => QU 2 1 p_x7 c_x7 x7 qB) (some 23) (fun u11 g => .slice (g.o 0) (x7 ++ [t15]).length (g.n 0)) (fun u11 g => QU 2 1 (g.o 0) (g.n 0) (x7 ++ [t15]) qB) (fun u11 w hF hK => ZB (Q8 (t := 26) (ty := 26) (en := qB) q8 qco (QN hK) hF.1 (news := [t15]) rfl (by simp) (by kernel_rfl) b16)) (hloc := fun u u' h => ⟨by first | rfl | simp only [h 8 (by decide)], by first | rfl | simp only [h 8 (by decide)], by first | rfl | simp only [h 8 (by decide)], by first | rfl | simp only [h 8 (by decide)]⟩)) <|
 .cons [5] (qp (fun u11 => .slice ((u11 9).o 0) ((x7 ++ [t15]).length) ((u11 9).n 0)) 5) <| .nil) [0, 1, 5, 6, 25, 26, 900186] fun u11 a w' H => ?_
    refine qN qd H (.v 12 (vI x8) <|
 .v 13 (vI (qe (x8 + 1))) <|
 .v 6 (vI (qe (x8 + 1))) <| .nil) [0, 1, 5, 6, 25, 26, 900186] fun u17 a w' H => ?_
    exact ⟨k, Nat.lt_succ_self k, _, _, G, ((u11 9).o 0), ((u11 9).n 0), (x7 ++ [t15]).length, rfl, H.toM _⟩
   ·rw [if_neg (nt c18)] at G
    refine QO rfl ?_
    obtain rfl := sj G
    replace H := H.move (K := QU 2 1 p_x7 c_x7 x7 qB) 900186 900185 (by kernel_rfl) (by intro _ _ h; cases h)
    exact ⟨p_x7, c_x7, x7.length, rfl, H.toM _⟩
theorem qK.calls (k0 : Nat) (a0 : List (List Int)) (p_a0 : Option Addr) (c_a0 : Nat) (L_a0 : List (Sl Int)) (r : List (List Int)) (w : World) (h_a0 : a0 = L_a0.map Sl.l) (hB : Yj [Qh qi 1 p_a0 c_a0 L_a0 ql, QA qi Qp.toPart L_a0] w) (G : qK k0 a0 = some r) :
  Calls Tryz.prog 25 #[.slice p_a0 L_a0.length c_a0] w fun e w' => ∃ g : Gh, e = .returned (slgd_S_i64 g 0 r) ∧ Y7 (YT []) w w' ∧ YD w.heap.size (YT []) (JG w.heap.size []) [fun _ => ns_en_i64g g 0 r] w' := by
 obtain ⟨fr, hfr, hBf⟩ := J4 w []
 refine QQ (args := [.slice p_a0 L_a0.length c_a0]) 36 [(36, Qh qi 1 p_a0 c_a0 L_a0 ql), (37, QA qi Qp.toPart L_a0)] (by
  intro x hx
  simp only [List.mem_cons, List.not_mem_nil, or_false] at hx
  rcases hx with rfl | rfl
  ·exact Ql (qq hB.1) (fun _ _ => trivial) (by decide) _
  ·exact Xt (Qb hB.2.1) (fun _ _ => trivial) _) Tryz.func25 rfl (by kernel_rfl) (by kernel_rfl) fun a H => ?_
 unfold qK at G
 refine qg qd H (.v 2 (.slice none 0 0) <| .nil) [0, 36, 37] fun u1 a w' H => ?_
 refine qg qd H (.cons [7, 38] (qH (fun b => .slice (some ⟨b, 0, none⟩) 0 0) (fun u2 => []) 26 7 38) <|
 .cons [8, 39] (qH (fun b => .slice (some ⟨b, 0, none⟩) 0 0) (fun u2 => []) 26 8 39) <|
 .cons [3] (qp (fun u2 => .slice (some ⟨((u2 0).n 0), 0, none⟩) 0 0) 3) <|
 .cons [4] (qp (fun u2 => .slice (some ⟨((u2 1).n 0), 0, none⟩) 0 0) 4) <| .nil) [0, 3, 4, 36, 37, 38, 39] fun u2 a w' H => ?_
 refine qs ?_
 obtain ⟨j4, hj4, G⟩ := qP G
 refine Qw (fun a w' => ∃ (p_j3 : Option Addr) (c_j3 np_j3 : Nat) (L_j3 : List (Sl Int)), np_j3 = L_j3.length ∧ j4 = L_j3.map Sl.l ∧ RL w 36 [(0, sS p_a0 L_a0.length c_a0), (3, sS p_j3 np_j3 c_j3), (4, (sS (some ⟨((u2 1).n 0), 0, none⟩) 0 0)), (36, Qh qi 1 p_a0 c_a0 L_a0 ql), (37, QA qi Qp.toPart L_a0), (39, .blk ((u2 1).n 0) [] 26), (900187, Yo 26 1 p_j3 np_j3 c_j3 (L_j3.flatMap ql)), (900188, QA fr Qp.toPart L_j3)] a w') ?_ ?_
 ·clear H; rintro a w' ⟨p_j3, c_j3, _, L_j3, rfl, h_j3, H⟩
  refine qs ?_
  obtain ⟨j6, hj6, G⟩ := qP G
  refine Qw (fun a w' => ∃ (p_j5 : Option Addr) (c_j5 np_j5 : Nat) (L_j5 : List (Sl Int)), np_j5 = L_j5.length ∧ j6 = L_j5.map Sl.l ∧ RL w 36 [(4, sS p_j5 np_j5 c_j5), (900189, Q9 p_j5 np_j5 c_j5 L_j5)] a w') ?_ ?_
  ·clear H; rintro a w' ⟨p_j5, c_j5, _, L_j5, rfl, h_j5, H⟩
   refine qg qd H (.v 35 (.slice p_j5 L_j5.length c_j5) <|
 .v 2 (.slice p_j5 L_j5.length c_j5) <| .nil) [2, 900189] fun u7 a w' H => ?_
   refine q7 ?_
   obtain rfl := sj G
   obtain ⟨g, o0, n0, d0⟩ := ZQ ZI p_j5 c_j5 h_j5
   refine Xo H _ g _ _ _ fr [900189] [] (.slice p_j5 L_j5.length c_j5) [fun _ => Qm p_j5 c_j5 L_j5] (by simp only [slgd_S_i64, dlgd_S_i64, ns_en_i64g, Qm, Q9, QU, o0, n0, d0]) (by simp only [slgd_S_i64, dlgd_S_i64, ns_en_i64g, Qm, Q9, QU, o0, n0, d0]) hfr (.inl ⟨rfl, rfl⟩) (qx QZ qI) (by simp)
  ·clear G; replace G := hj6; clear hj6
   refine qg qd H (.v 6 (vI 0) <| .nil) [0, 3, 4, 6, 36, 37, 39, 900187, 900188] fun u8 a w' H => ?_
   refine qA ?_
   replace H := H.blk_row 39 ((u2 1).n 0) [] 26 1 0 (by kernel_rfl) (by kernel_rfl) (by decide)
   replace H := H.nestOpen (e := 26) (m := 0) (cap := 0) (p := (some ⟨((u2 1).n 0), 0, none⟩)) (H := ([] : List (Sl Int))) 39 2 1 qB (by kernel_rfl)
   replace H := H.move (K := Q9 (some ⟨((u2 1).n 0), 0, none⟩) 0 0 ([] : List (Sl Int))) 39 900191 (by kernel_rfl) (by intro _ _ h; cases h)
   refine Qv (fun m a w' => ∃ x9 : List (List Int), ∃ x10 : Int, qK.l11 k0 a0 j4 m x9 x10 = some j6 ∧ ∃ (p_x9 : Option Addr) (c_x9 np_x9 : Nat) (L_x9 : List (Sl Int)), np_x9 = L_x9.length ∧ x9 = L_x9.map Sl.l ∧ RL w 36 [(0, sS p_a0 L_a0.length c_a0), (3, sS p_j3 L_j3.length c_j3), (4, sS p_x9 np_x9 c_x9), (6, sI x10), (36, Qh qi 1 p_a0 c_a0 L_a0 ql), (37, QA qi Qp.toPart L_a0), (900187, QU 26 1 p_j3 c_j3 L_j3 ql), (900188, QA fr Qp.toPart L_j3), (900191, Q9 p_x9 np_x9 c_x9 L_x9)] a w') k0 ⟨_, _, G, (some ⟨((u2 1).n 0), 0, none⟩), 0, 0, ([] : List (Sl Int)), rfl, rfl, H.toM _⟩ ?_
   clear G H
   rintro (_ | k) a w' ⟨x9, x10, G, p_x9, c_x9, _, L_x9, rfl, h_x9, H⟩
   ·exact absurd G (by unfold qK.l11; exact fun h => by cases h)
   ·unfold qK.l11 at G
    refine qs ?_
    refine qg qd H (.v 23 (vI x10) <|
 .v 24 (.slice p_a0 L_a0.length c_a0) <|
 .cons [25] (qy 36 (Qh qi 1 p_a0 c_a0 L_a0 ql) (vI (a0.length : Int)) 25 fun _ w h => Q7 (((qq h).2.len qk (by decide)).trans (qD h_a0).symm) (by kernel_rfl)) <|
 .v 26 (.bool (decide (x10 < (a0.length : Int)))) <| .nil) [0, 3, 4, 6, 26, 36, 37, 900187, 900188, 900191] fun u12 a w' H => ?_
    refine Qr H (decide (x10 < (a0.length : Int))) (fun c17 => ?_) fun c17 => ?_
    ·rw [if_pos c17] at G
     refine qT ?_
     refine qs ?_
     refine qA ?_
     obtain ⟨t14, ht14, G⟩ := qP G
     replace G := gd G; obtain ⟨b15, G⟩ := G
     refine qN qd H (.v 29 (.slice p_x9 L_x9.length c_x9) <|
 .v 30 (.slice p_j3 L_j3.length c_j3) <|
 .v 31 (vI x10) <|
 .cons [32, 40] (Qo false fr [] [900187, 900188] (fun u13 => [QU 26 1 p_j3 c_j3 L_j3 ql, QA fr Qp.toPart L_j3]) [] (fun u13 => []) 66 _ _ _ _ _ [40] 32 (fun u13 w hB hF hM => Qy.calls k0 j4 x10 p_j3 c_j3 L_j3 t14 w h_j3 hB ht14) (fun u13 w hF => ⟨⟨QP (qY (QN hF.1)) (fun j h => ⟨_, (.head _), (Zm h)⟩), Xk (Qb hF.2.1) (fun j h => ⟨_, (.tail _ (.head _)), h⟩), trivial⟩, trivial⟩) (fun u13 g => (qx X2 qI)) (.inr (fun u13 g => (Qj trivial (fun K h => by cases h)))) (fun h => by cases h)) <|
 .cons [33, 41] (qH (fun b => .slice (some ⟨b, 0, none⟩) 1 1) (fun u13 => [.slice ((u13 3).o 0) t14.length ((u13 3).n 0)]) 26 33 41) <|
 .cons [34, 900191, 40, 900191] (Jg [3, 4] [41] (fun u13 => [.blk ((u13 4).n 0) [.slice ((u13 3).o 0) t14.length ((u13 3).n 0)] 26]) 900191 40 (fun u13 => Qm p_x9 c_x9 L_x9) (fun u13 => QU 2 1 ((u13 3).o 0) ((u13 3).n 0) t14 qB) (some 34) (fun u13 g => .slice (g.o 0) (L_x9 ++ [(⟨((u13 3).o 0), ((u13 3).n 0), t14⟩ : Sl Int)]).length (g.n 0)) (fun u13 g => Qm (g.o 0) (g.n 0) (L_x9 ++ [(⟨((u13 3).o 0), ((u13 3).n 0), t14⟩ : Sl Int)])) (fun u13 w hF hK hK2 hd => Jz hK hK2 hd q8 (by decide) (fun hn h => Q8 (t := 31) (ty := 31) (en := ql) qk qaF h hF.1 (news := [(⟨((u13 3).o 0), ((u13 3).n 0), t14⟩ : Sl Int)]) rfl (by simp) (by kernel_rfl) (by rw [← qD h_x9]; exact b15))) (hloc := fun u u' h => ⟨by first | rfl | simp only [h 3 (by decide), h 4 (by decide)], by first | rfl | simp only [h 3 (by decide), h 4 (by decide)], by first | rfl | simp only [h 3 (by decide), h 4 (by decide)], by first | rfl | simp only [h 3 (by decide), h 4 (by decide)], by first | rfl | simp only [h 3 (by decide), h 4 (by decide)]⟩)) <|
 .cons [4] (qp (fun u13 => .slice ((u13 5).o 0) ((L_x9 ++ [(⟨((u13 3).o 0), ((u13 3).n 0), t14⟩ : Sl Int)]).length) ((u13 5).n 0)) 4) <| .nil) [0, 3, 4, 6, 36, 37, 900187, 900188, 900191] fun u13 a w' H => ?_
     refine qN qd H (.v 27 (vI x10) <|
 .v 28 (vI (qe (x10 + 1))) <|
 .v 6 (vI (qe (x10 + 1))) <| .nil) [0, 3, 4, 6, 36, 37, 900187, 900188, 900191] fun u16 a w' H => ?_
     exact ⟨k, Nat.lt_succ_self k, _, _, G, ((u13 5).o 0), ((u13 5).n 0), (L_x9 ++ [(⟨((u13 3).o 0), ((u13 3).n 0), t14⟩ : Sl Int)]).length, (L_x9 ++ [(⟨((u13 3).o 0), ((u13 3).n 0), t14⟩ : Sl Int)]), rfl, (ZX h_x9 (⟨((u13 3).o 0), ((u13 3).n 0), t14⟩ : Sl Int)), H.toM _⟩
    ·rw [if_neg (nt c17)] at G
     refine QO rfl ?_
     obtain rfl := sj G
     replace H := H.move (K := Qm p_x9 c_x9 L_x9) 900191 900189 (by kernel_rfl) (by intro _ _ h; cases h)
     exact ⟨p_x9, c_x9, L_x9.length, L_x9, rfl, h_x9, H.toM _⟩
 ·clear G; replace G := hj4; clear hj4
  refine qg qd H (.v 5 (vI 0) <| .nil) [0, 3, 4, 5, 36, 37, 38, 39] fun u18 a w' H => ?_
  refine qA ?_
  replace H := H.blk_row 38 ((u2 0).n 0) [] 26 1 0 (by kernel_rfl) (by kernel_rfl) (by decide)
  replace H := H.add0 56 (QA fr Qp.toPart ([] : List (Sl Int))) (by intro _ _ h; cases h) (Zf Zw (fun j h => by obtain ⟨_, hy, _⟩ := h; cases hy)) (fun j h => by obtain ⟨_, hy, _⟩ := h; cases hy)
  replace H := H.move (K := Yo 26 1 (some ⟨((u2 0).n 0), 0, none⟩) 0 0 (([] : List (Sl Int)).flatMap ql)) 38 900193 (by kernel_rfl) (by intro _ _ h; cases h)
  replace H := H.dup (K := QA fr Qp.toPart ([] : List (Sl Int))) 56 900194 (by kernel_rfl) (fun h => h) (by intro _ _ h; cases h)
  refine Qv (fun m a w' => ∃ x19 : List (List Int), ∃ x20 : Int, qK.l21 k0 a0 m x19 x20 = some j4 ∧ ∃ (p_x19 : Option Addr) (c_x19 np_x19 : Nat) (L_x19 : List (Sl Int)), np_x19 = L_x19.length ∧ x19 = L_x19.map Sl.l ∧ RL w 36 [(0, sS p_a0 L_a0.length c_a0), (3, sS p_x19 np_x19 c_x19), (4, (sS (some ⟨((u2 1).n 0), 0, none⟩) 0 0)), (5, sI x20), (36, Qh qi 1 p_a0 c_a0 L_a0 ql), (37, QA qi Qp.toPart L_a0), (39, .blk ((u2 1).n 0) [] 26), (900193, Yo 26 1 p_x19 np_x19 c_x19 (L_x19.flatMap ql)), (900194, QA fr Qp.toPart L_x19)] a w') k0 ⟨_, _, G, (some ⟨((u2 0).n 0), 0, none⟩), 0, 0, ([] : List (Sl Int)), rfl, rfl, H.toM _⟩ ?_
  clear G H
  rintro (_ | k) a w' ⟨x19, x20, G, p_x19, c_x19, _, L_x19, rfl, h_x19, H⟩
  ·exact absurd G (by unfold qK.l21; exact fun h => by cases h)
  ·unfold qK.l21 at G
   refine qs ?_
   refine qg qd H (.v 9 (vI x20) <|
 .v 10 (.slice p_a0 L_a0.length c_a0) <|
 .cons [11] (qy 36 (Qh qi 1 p_a0 c_a0 L_a0 ql) (vI (a0.length : Int)) 11 fun _ w h => Q7 (((qq h).2.len qk (by decide)).trans (qD h_a0).symm) (by kernel_rfl)) <|
 .v 12 (.bool (decide (x20 < (a0.length : Int)))) <| .nil) [0, 3, 4, 5, 12, 36, 37, 39, 900193, 900194] fun u22 a w' H => ?_
   refine Qr H (decide (x20 < (a0.length : Int))) (fun c28 => ?_) fun c28 => ?_
   ·rw [if_pos c28] at G
    refine qT ?_
    refine qs ?_
    refine qA ?_
    obtain ⟨t24, ht24, G⟩ := qP G
    obtain ⟨t25, ht25, G⟩ := qP G
    replace G := gd G; obtain ⟨b26, G⟩ := G
    refine qN qd H (.v 15 (.slice p_x19 L_x19.length c_x19) <|
 .v 16 (.slice p_a0 L_a0.length c_a0) <|
 .v 17 (vI x20) <|
 .cons [18, 48, 48] (qeF (fun u23 => [(48, rdF fr 1 ((u23 3).o 0) t24.length ((u23 3).n 0) (t24.flatMap qB))]) (Qo false fr [] [36, 37] (fun u23 => [Qh qi 1 p_a0 c_a0 L_a0 ql, QA qi Qp.toPart L_a0]) [] (fun u23 => []) 66 _ _ _ _ _ [48] 18 (fun u23 w hB hF hM => Qy.calls k0 a0 x20 p_a0 c_a0 L_a0 t24 w h_a0 hB ht24) (fun u23 w hF => ⟨⟨QP (qq hF.1) (fun j h => ⟨_, (.head _), h⟩), Xk (Qb hF.2.1) (fun j h => ⟨_, (.tail _ (.head _)), h⟩), trivial⟩, trivial⟩) (fun u23 g => (qx X2 qI)) (.inr (fun u23 g => (Qj trivial (fun K h => by cases h)))) (fun h => by cases h)) (fun u23 S a w H => H.demote fr 48 2 1 ((u23 3).o 0) t24.length ((u23 3).n 0) (t24.flatMap qB) (by kernel_rfl) (by decide) hBf)) <|
 .v 19 (.slice p_x19 L_x19.length c_x19) <|
 .cons [20, 49] (Qo true fr [3] [48, 900193, 900194] (fun u23 => [rdF fr 1 ((u23 3).o 0) t24.length ((u23 3).n 0) (t24.flatMap qB), QU 26 1 p_x19 c_x19 L_x19 ql, QA fr Qp.toPart L_x19]) [] (fun u23 => []) 65 _ _ _ _ _ [49] 20 (fun u23 w hB hF hM => qF.calls k0 t24 x19 ((u23 3).o 0) ((u23 3).n 0) p_x19 c_x19 L_x19 t25 w h_x19 hB hF ht25) (fun u23 w hF => ⟨⟨QP (qY (QN hF.2.1)) (fun j h => ⟨_, (.tail _ (.head _)), (Zm h)⟩), Xk (Qb hF.2.2.1) (fun j h => ⟨_, (.tail _ (.tail _ (.head _))), h⟩), trivial⟩, ⟨qeV (qq hF.1) (fun j h => qaa (.head _) (fun h => h) h (qaX hF.1 _ h)), trivial⟩⟩) (fun u23 g => (qx (qcd (by decide)) qI)) (.inl rfl) (fun _ => hBf) (hloc := fun u u' h => ⟨by first | rfl | simp only [h 3 (by decide)], by first | rfl | simp only [h 3 (by decide)], by first | rfl | simp only [h 3 (by decide)], by first | rfl | simp only [h 3 (by decide)], by first | rfl | simp only [h 3 (by decide)], by first | rfl | simp only [h 3 (by decide)]⟩)) <|
 .cons [21, 50] (qH (fun b => .slice (some ⟨b, 0, none⟩) 1 1) (fun u23 => [.slice ((u23 5).o 0) t25.length ((u23 5).n 0)]) 26 21 50) <|
 .cons [22, 900193, 900193, 51] (Vq [5, 6] [900194, 50, 49] (fun u23 => [QA fr Qp.toPart L_x19, .blk ((u23 6).n 0) [.slice ((u23 5).o 0) t25.length ((u23 5).n 0)] 26, rdF fr 1 ((u23 5).o 0) t25.length ((u23 5).n 0) (t25.flatMap qB)]) 900193 51 (fun u23 => QU 26 1 p_x19 c_x19 L_x19 ql) (some 22) (fun u23 g => .slice (g.o 0) (L_x19 ++ [(⟨((u23 5).o 0), ((u23 5).n 0), t25⟩ : Sl Int)]).length (g.n 0)) (fun u23 g => QU 26 1 (g.o 0) (g.n 0) (L_x19 ++ [(⟨((u23 5).o 0), ((u23 5).n 0), t25⟩ : Sl Int)]) ql) (fun u23 g => QA fr Qp.toPart (L_x19 ++ [(⟨((u23 5).o 0), ((u23 5).n 0), t25⟩ : Sl Int)])) (fun u23 w hF hK => qa5 (Q8 (t := 31) (ty := 31) (en := ql) qk qaF (QN hK) hF.2.1 (news := [(⟨((u23 5).o 0), ((u23 5).n 0), t25⟩ : Sl Int)]) rfl (by simp) (by kernel_rfl) (by rw [← qD h_x19]; exact b26)) (qcl hF.1 (.head _) ⟨(qq hF.2.2.1), fun _ _ => trivial⟩ (fun j h => (h.elim (fun h => qaa (.tail _ (.tail _ (.head _))) (fun h => h) h (qaX hF.2.2.1 _ h)) (fun ⟨_, _, hz⟩ => hz.elim))))) (hloc := fun u u' h => ⟨by first | rfl | simp only [h 5 (by decide), h 6 (by decide)], by first | rfl | simp only [h 5 (by decide), h 6 (by decide)], by first | rfl | simp only [h 5 (by decide), h 6 (by decide)], by first | rfl | simp only [h 5 (by decide), h 6 (by decide)], by first | rfl | simp only [h 5 (by decide), h 6 (by decide)]⟩)) <|
 .cons [3] (qp (fun u23 => .slice ((u23 7).o 0) ((L_x19 ++ [(⟨((u23 5).o 0), ((u23 5).n 0), t25⟩ : Sl Int)]).length) ((u23 7).n 0)) 3) <| .nil) [0, 3, 4, 5, 36, 37, 39, 51, 900193] fun u23 a w' H => ?_
    refine qN qd H (.v 13 (vI x20) <|
 .v 14 (vI (qe (x20 + 1))) <|
 .v 5 (vI (qe (x20 + 1))) <| .nil) [0, 3, 4, 5, 36, 37, 39, 51, 900193] fun u27 a w' H => ?_
    replace H := H.dup (K := QA fr Qp.toPart (L_x19 ++ [(⟨((u23 5).o 0), ((u23 5).n 0), t25⟩ : Sl Int)])) 51 900194 (by kernel_rfl) (fun h => h) (by intro _ _ h; cases h)
    exact ⟨k, Nat.lt_succ_self k, _, _, G, ((u23 7).o 0), ((u23 7).n 0), (L_x19 ++ [(⟨((u23 5).o 0), ((u23 5).n 0), t25⟩ : Sl Int)]).length, (L_x19 ++ [(⟨((u23 5).o 0), ((u23 5).n 0), t25⟩ : Sl Int)]), rfl, (ZX h_x19 (⟨((u23 5).o 0), ((u23 5).n 0), t25⟩ : Sl Int)), H.toM _⟩
   ·rw [if_neg (nt c28)] at G
    refine QO rfl ?_
    obtain rfl := sj G
    replace H := H.move (K := QU 26 1 p_x19 c_x19 L_x19 ql) 900193 900187 (by kernel_rfl) (by intro _ _ h; cases h)
    replace H := H.dup (K := QA fr Qp.toPart L_x19) 900194 900188 (by kernel_rfl) (fun h => h) (by intro _ _ h; cases h)
    exact ⟨p_x19, c_x19, L_x19.length, L_x19, rfl, h_x19, H.toM _⟩
end Go.Proofs.YtglcmhldonkfdaaGreatDoor
