/- Each function of the program answers as the plain Lean function of its name (part 3). Printed by a program of this session. -/
import Derived.Test.YtglcmhldonkfdaaGreatDoorFn2
set_option linter.unusedVariables false
set_option linter.unusedSimpArgs false
set_option maxRecDepth 100000
set_option maxHeartbeats 4000000
namespace Go.Proofs.YtglcmhldonkfdaaGreatDoor
open Go Go.RowKit Go.Sx Go.Proofs
theorem Yy.calls (k0 : Nat)  (r : Bool) (w : World) (hg : Wn w) (G : Yy k0 = some r) :
  Calls Tryz.prog 4 #[] w fun e w' => e = .returned (.bool r) ∧ Below w.heap.size w w' := by
 obtain ⟨fr, hfr⟩ : ∃ fr : Nat → Prop, ∀ j, fr j := ⟨fun _ => True, fun _ => trivial⟩
 have hBf : ∀ j, w.heap.size ≤ j → fr j := fun j _ => hfr j
 refine WZ (args := []) 186 999999 Wb Wn (JR hg) (ZV hg) Tryz.func4 rfl (by kernel_rfl) (by kernel_rfl) fun a H => ?_
 unfold Yy at G
 refine qg qd H (.v 0 (.bool false) <| .nil) [999999] fun u1 a w' H => ?_
 obtain ⟨t3, ht3, G⟩ := qP G
 obtain ⟨t4, ht4, G⟩ := qP G
 obtain ⟨t5, ht5, G⟩ := qP G
 refine qg qd H (.cons [12, 186] (Qo false fr [] [] (fun u2 => []) [] (fun u2 => []) 28 _ (fun u2 => []) _ _ _ [186] 12 (fun u2 w hB hF hM => QM.calls 1 2 0 1  t3 w  ht3) (fun u2 w hF => ⟨trivial, trivial⟩) (fun u2 g => (qx QZ qI)) (.inr (fun u2 g => (Qj trivial (fun K h => by cases h)))) (fun h => by cases h)) <|
 .cons [13, 187] (Qo false fr [0] [186] (fun u2 => [ns_en_i64g (u2 0) 0 t3]) [] (fun u2 => []) 20 _ _ _ _ _ [187] 13 (fun u2 w hB hF hM => QJ.calls k0 t3 ((u2 0).o 0) ((u2 0).n 0) (dlgd_S_i64 (u2 0) 0 t3) t4 w (Xc Xa (u2 0) 0 t3) hB ht4) (fun u2 w hF => ⟨⟨QP (qQ hF.1).row (fun j h => ⟨_, (.head _), (Yz h)⟩), Xk (qQ hF.1).all (fun j h => ⟨_, (.head _), (Yw h)⟩), trivial⟩, trivial⟩) (fun u2 g => (qx QZ qI)) (.inr (fun u2 g => (Qj trivial (fun K h => by cases h)))) (fun h => by cases h) (hloc := fun u u' h => ⟨by first | rfl | simp only [h 0 (by decide)], by first | rfl | simp only [h 0 (by decide)], by first | rfl | simp only [h 0 (by decide)], by first | rfl | simp only [h 0 (by decide)], by first | rfl | simp only [h 0 (by decide)], by first | rfl | simp only [h 0 (by decide)]⟩)) <|
 .cons [14] (qo 29 _ _ 14 [] (fun u2 w _ => QR.calls 65536  t5 w  ht5)) <|
 .cons [2, 188] (qH (fun b => vP b 0) (fun u2 => [vI 0, vI 0]) 48 2 188) <|
 .cons [1] (qp (fun u2 => slgd_S_TInterval (u2 1) 0 t4) 1) <|
 .cons [188] (XO (u' := fun u2 => [(188, .blk ((u2 3).n 0) [vI t5.Lo, vI t5.Hi] 48)]) (X1 188 0 (fun u2 => ((u2 3).n 0)) (fun u2 => [vI 0, vI 0]) (fun u2 => [vI t5.Lo, vI t5.Hi]) 48) (fun _ => by kernel_rfl)) <| .nil) [1, 2, 187, 188, 999999] fun u2 a w' H => ?_
 obtain ⟨t7, ht7, G⟩ := qP G
 refine qg qd H (.v 15 (slgd_S_TInterval (u2 1) 0 t4) <|
 .cons [16] (qv (.agg #[vI t5.Lo, vI t5.Hi]) 16 188 0 2 ((u2 3).n 0) [vI t5.Lo, vI t5.Hi] 48) <|
 .cons [17] (qv (.agg #[vI t5.Lo, vI t5.Hi]) 17 188 0 2 ((u2 3).n 0) [vI t5.Lo, vI t5.Hi] 48) <|
 .cons [18, 189] (YE 2 2 (qH (fun b => .slice (some ⟨b, 0, none⟩) 2 2) (fun u6 => [vI t5.Lo, vI t5.Hi, vI t5.Lo, vI t5.Hi]) 48 18 189) (fun _ => rfl) (by decide)) <|
 .cons [19, 190] (Qo false fr [3] [187, 189, 999999] (fun u6 => [ns_en_TIntervalg (u2 1) 0 t4, Yo 48 2 (some ⟨((u6 3).n 0), 0, none⟩) 2 2 (([t5, t5] : List qa).flatMap qb), gk]) [] (fun u6 => []) 16 _ _ _ _ _ [190] 19 (fun u6 w hB hF hM => XA.calls k0 t4 ([t5, t5] : List qa) ((u2 1).o 0) ((u2 1).n 0) (dlgd_S_TInterval (u2 1) 0 t4) (some ⟨((u6 3).n 0), 0, none⟩) 2 t7 w (Xc qC (u2 1) 0 t4) hB ht7) (fun u6 w hF => ⟨⟨QP (qQ hF.1).row (fun j h => ⟨_, (.head _), (Yz h)⟩), Xk (qQ hF.1).all (fun j h => ⟨_, (.head _), (Yw h)⟩), QP (qY (QN hF.2.1)) (fun j h => ⟨_, (.tail _ (.head _)), (Zm h)⟩), Wq hF.2.2.1 (.tail _ (.tail _ (.head _))), trivial⟩, trivial⟩) (fun u6 g => (qx X2 qI)) (.inr (fun u6 g => (Qj trivial (fun K h => by cases h)))) (fun h => by cases h) (hloc := fun u u' h => ⟨by first | rfl | simp only [h 3 (by decide)], by first | rfl | simp only [h 3 (by decide)], by first | rfl | simp only [h 3 (by decide)], by first | rfl | simp only [h 3 (by decide)], by first | rfl | simp only [h 3 (by decide)], by first | rfl | simp only [h 3 (by decide)]⟩)) <|
 .cons [3] (qp (fun u6 => .slice ((u6 4).o 0) t7.length ((u6 4).n 0)) 3) <| .nil) [1, 2, 3, 187, 188, 190, 999999] fun u6 a w' H => ?_
 obtain ⟨t9, ht9, G⟩ := qP G
 obtain ⟨t10, ht10, G⟩ := qP G
 refine qg qd H (.cons [20, 191] (Qo false fr [] [] (fun u8 => []) [] (fun u8 => []) 28 _ (fun u8 => []) _ _ _ [191] 20 (fun u8 w hB hF hM => QM.calls 1 1 0 1  t9 w  ht9) (fun u8 w hF => ⟨trivial, trivial⟩) (fun u8 g => (qx QZ qI)) (.inr (fun u8 g => (Qj trivial (fun K h => by cases h)))) (fun h => by cases h)) <|
 .cons [21, 192] (Qo false fr [0] [191] (fun u8 => [ns_en_i64g (u8 0) 0 t9]) [] (fun u8 => []) 24 _ _ _ _ _ [192] 21 (fun u8 w hB hF hM => qt.calls k0 t9 ((u8 0).o 0) ((u8 0).n 0) (dlgd_S_i64 (u8 0) 0 t9) t10 w (Xc Xa (u8 0) 0 t9) hB ht10) (fun u8 w hF => ⟨⟨QP (qQ hF.1).row (fun j h => ⟨_, (.head _), (Yz h)⟩), Xk (qQ hF.1).all (fun j h => ⟨_, (.head _), (Yw h)⟩), trivial⟩, trivial⟩) (fun u8 g => (qx QZ qI)) (.inr (fun u8 g => (Qj trivial (fun K h => by cases h)))) (fun h => by cases h) (hloc := fun u u' h => ⟨by first | rfl | simp only [h 0 (by decide)], by first | rfl | simp only [h 0 (by decide)], by first | rfl | simp only [h 0 (by decide)], by first | rfl | simp only [h 0 (by decide)], by first | rfl | simp only [h 0 (by decide)], by first | rfl | simp only [h 0 (by decide)]⟩)) <|
 .cons [4] (qp (fun u8 => slgd_S_i64 (u8 1) 0 t10) 4) <| .nil) [1, 2, 3, 4, 187, 188, 190, 192, 999999] fun u8 a w' H => ?_
 obtain ⟨t12, ht12, G⟩ := qP G
 obtain ⟨t13, ht13, G⟩ := qP G
 obtain ⟨t14, ht14, G⟩ := qP G
 refine qg qd H (.cons [23, 193] (Qo false fr [] [] (fun u11 => []) [] (fun u11 => []) 28 _ (fun u11 => []) _ _ _ [193] 23 (fun u11 w hB hF hM => QM.calls 2 0 0 4  t12 w  ht12) (fun u11 w hF => ⟨trivial, trivial⟩) (fun u11 g => (qx QZ qI)) (.inr (fun u11 g => (Qj trivial (fun K h => by cases h)))) (fun h => by cases h)) <|
 .cons [24, 194] (Qo false fr [0] [193] (fun u11 => [ns_en_i64g (u11 0) 0 t12]) [] (fun u11 => []) 20 _ _ _ _ _ [194] 24 (fun u11 w hB hF hM => QJ.calls k0 t12 ((u11 0).o 0) ((u11 0).n 0) (dlgd_S_i64 (u11 0) 0 t12) t13 w (Xc Xa (u11 0) 0 t12) hB ht13) (fun u11 w hF => ⟨⟨QP (qQ hF.1).row (fun j h => ⟨_, (.head _), (Yz h)⟩), Xk (qQ hF.1).all (fun j h => ⟨_, (.head _), (Yw h)⟩), trivial⟩, trivial⟩) (fun u11 g => (qx QZ qI)) (.inr (fun u11 g => (Qj trivial (fun K h => by cases h)))) (fun h => by cases h) (hloc := fun u u' h => ⟨by first | rfl | simp only [h 0 (by decide)], by first | rfl | simp only [h 0 (by decide)], by first | rfl | simp only [h 0 (by decide)], by first | rfl | simp only [h 0 (by decide)], by first | rfl | simp only [h 0 (by decide)], by first | rfl | simp only [h 0 (by decide)]⟩)) <|
 .cons [25, 195, 196] (Qo true fr [1] [194, 999999] (fun u11 => [ns_en_TIntervalg (u11 1) 0 t13, gk]) [] (fun u11 => []) 10 _ _ _ _ _ [195, 196] 25 (fun u11 w hB hF hM => qw.calls k0 t13 ((u11 1).o 0) ((u11 1).n 0) (dlgd_S_TInterval (u11 1) 0 t13) t14 w (Xc qC (u11 1) 0 t13) hB ht14) (fun u11 w hF => ⟨⟨QP (qQ hF.1).row (fun j h => ⟨_, (.head _), (Yz h)⟩), Xk (qQ hF.1).all (fun j h => ⟨_, (.head _), (Yw h)⟩), Wq hF.2.1 (.tail _ (.head _)), trivial⟩, trivial⟩) (fun u11 g => (qx X2 (qx Jc qI))) (.inl rfl) (fun _ => hBf) (hloc := fun u u' h => ⟨by first | rfl | simp only [h 1 (by decide)], by first | rfl | simp only [h 1 (by decide)], by first | rfl | simp only [h 1 (by decide)], by first | rfl | simp only [h 1 (by decide)], by first | rfl | simp only [h 1 (by decide)], by first | rfl | simp only [h 1 (by decide)]⟩)) <|
 .cons [22] (qp (fun u11 => .tuple #[slgd_S_TInterval (u11 2) 0 t14.1, .bool t14.2]) 22) <|
 .cons [26] (qp (fun u11 => slgd_S_TInterval (u11 2) 0 t14.1) 26) <|
 .v 27 (.bool t14.2) <|
 .cons [5] (qp (fun u11 => slgd_S_TInterval (u11 2) 0 t14.1) 5) <|
 .v 6 (.bool t14.2) <| .nil) [1, 2, 3, 4, 5, 6, 187, 188, 190, 192, 195, 196, 999999] fun u11 a w' H => ?_
 obtain ⟨t16, ht16, G⟩ := qP G
 obtain ⟨t17, ht17, G⟩ := qP G
 obtain ⟨t18, ht18, G⟩ := qP G
 refine qg qd H (.cons [29, 197] (Qo false fr [] [] (fun u15 => []) [] (fun u15 => []) 28 _ (fun u15 => []) _ _ _ [197] 29 (fun u15 w hB hF hM => QM.calls 1 1 1 1  t16 w  ht16) (fun u15 w hF => ⟨trivial, trivial⟩) (fun u15 g => (qx QZ qI)) (.inr (fun u15 g => (Qj trivial (fun K h => by cases h)))) (fun h => by cases h)) <|
 .cons [30, 198] (Qo false fr [0] [197] (fun u15 => [ns_en_i64g (u15 0) 0 t16]) [] (fun u15 => []) 20 _ _ _ _ _ [198] 30 (fun u15 w hB hF hM => QJ.calls k0 t16 ((u15 0).o 0) ((u15 0).n 0) (dlgd_S_i64 (u15 0) 0 t16) t17 w (Xc Xa (u15 0) 0 t16) hB ht17) (fun u15 w hF => ⟨⟨QP (qQ hF.1).row (fun j h => ⟨_, (.head _), (Yz h)⟩), Xk (qQ hF.1).all (fun j h => ⟨_, (.head _), (Yw h)⟩), trivial⟩, trivial⟩) (fun u15 g => (qx QZ qI)) (.inr (fun u15 g => (Qj trivial (fun K h => by cases h)))) (fun h => by cases h) (hloc := fun u u' h => ⟨by first | rfl | simp only [h 0 (by decide)], by first | rfl | simp only [h 0 (by decide)], by first | rfl | simp only [h 0 (by decide)], by first | rfl | simp only [h 0 (by decide)], by first | rfl | simp only [h 0 (by decide)], by first | rfl | simp only [h 0 (by decide)]⟩)) <|
 .cons [31, 199, 200] (Qo true fr [1] [198, 999999] (fun u15 => [ns_en_TIntervalg (u15 1) 0 t17, gk]) [] (fun u15 => []) 10 _ _ _ _ _ [199, 200] 31 (fun u15 w hB hF hM => qw.calls k0 t17 ((u15 1).o 0) ((u15 1).n 0) (dlgd_S_TInterval (u15 1) 0 t17) t18 w (Xc qC (u15 1) 0 t17) hB ht18) (fun u15 w hF => ⟨⟨QP (qQ hF.1).row (fun j h => ⟨_, (.head _), (Yz h)⟩), Xk (qQ hF.1).all (fun j h => ⟨_, (.head _), (Yw h)⟩), Wq hF.2.1 (.tail _ (.head _)), trivial⟩, trivial⟩) (fun u15 g => (qx X2 (qx Jc qI))) (.inl rfl) (fun _ => hBf) (hloc := fun u u' h => ⟨by first | rfl | simp only [h 1 (by decide)], by first | rfl | simp only [h 1 (by decide)], by first | rfl | simp only [h 1 (by decide)], by first | rfl | simp only [h 1 (by decide)], by first | rfl | simp only [h 1 (by decide)], by first | rfl | simp only [h 1 (by decide)]⟩)) <|
 .cons [28] (qp (fun u15 => .tuple #[slgd_S_TInterval (u15 2) 0 t18.1, .bool t18.2]) 28) <|
 .cons [32] (qp (fun u15 => slgd_S_TInterval (u15 2) 0 t18.1) 32) <|
 .v 33 (.bool t18.2) <|
 .cons [7] (qp (fun u15 => slgd_S_TInterval (u15 2) 0 t18.1) 7) <|
 .v 8 (.bool t18.2) <| .nil) [1, 2, 3, 4, 5, 6, 8, 187, 188, 190, 192, 195, 196, 999999] fun u15 a w' H => ?_
 obtain ⟨t20, ht20, G⟩ := qP G
 refine qg qd H (.v 34 (slgd_S_TInterval (u2 1) 0 t4) <|
 .v 35 (slgd_S_TInterval (u2 1) 0 t4) <|
 .cons [36, 201] (Qo false fr [] [187, 999999] (fun u19 => [ns_en_TIntervalg (u2 1) 0 t4, gk]) [] (fun u19 => []) 13 _ _ _ _ _ [201] 36 (fun u19 w hB hF hM => Zk.calls k0 t4 t4 ((u2 1).o 0) ((u2 1).n 0) (dlgd_S_TInterval (u2 1) 0 t4) ((u2 1).o 0) ((u2 1).n 0) (dlgd_S_TInterval (u2 1) 0 t4) t20 w (Xc qC (u2 1) 0 t4) (Xc qC (u2 1) 0 t4) hB ht20) (fun u19 w hF => ⟨⟨QP (qQ hF.1).row (fun j h => ⟨_, (.head _), (Yz h)⟩), Xk (qQ hF.1).all (fun j h => ⟨_, (.head _), (Yw h)⟩), QP (qQ hF.1).row (fun j h => ⟨_, (.head _), (Yz h)⟩), Xk (qQ hF.1).all (fun j h => ⟨_, (.head _), (Yw h)⟩), Wq hF.2.1 (.tail _ (.head _)), trivial⟩, trivial⟩) (fun u19 g => (qx QZ qI)) (.inr (fun u19 g => (Qj trivial (fun K h => by cases h)))) (fun h => by cases h)) <|
 .cons [9] (qp (fun u19 => slgd_S_TInterval (u19 2) 0 t20) 9) <| .nil) [1, 2, 3, 4, 5, 6, 8, 9, 187, 188, 190, 192, 195, 196, 201, 999999] fun u19 a w' H => ?_
 obtain ⟨t22, ht22, G⟩ := qP G
 refine qg qd H (.v 37 (slgd_S_TInterval (u2 1) 0 t4) <|
 .cons [38, 202] (Qo false fr [] [187] (fun u21 => [ns_en_TIntervalg (u2 1) 0 t4]) [] (fun u21 => []) 18 _ _ _ _ _ [202] 38 (fun u21 w hB hF hM => Yq.calls k0 t4 ((u2 1).o 0) ((u2 1).n 0) (dlgd_S_TInterval (u2 1) 0 t4) t22 w (Xc qC (u2 1) 0 t4) hB ht22) (fun u21 w hF => ⟨⟨QP (qQ hF.1).row (fun j h => ⟨_, (.head _), (Yz h)⟩), Xk (qQ hF.1).all (fun j h => ⟨_, (.head _), (Yw h)⟩), trivial⟩, trivial⟩) (fun u21 g => (qx QZ qI)) (.inr (fun u21 g => (Qj trivial (fun K h => by cases h)))) (fun h => by cases h)) <|
 .cons [10] (qp (fun u21 => slgd_S_TInterval (u21 1) 0 t22) 10) <| .nil) [1, 2, 3, 4, 5, 6, 8, 9, 10, 187, 188, 190, 192, 195, 196, 201, 202, 999999] fun u21 a w' H => ?_
 obtain ⟨t24, ht24, G⟩ := qP G
 refine qg qd H (.v 39 (.agg #[vI (-3), vI 0]) <|
 .cons [40, 203] (YE 2 1 (qH (fun b => .slice (some ⟨b, 0, none⟩) 1 1) (fun u23 => [vI (-3), vI 0]) 48 40 203) (fun _ => rfl) (by decide)) <|
 .cons [41, 204] (YE 1 1 (qH (fun b => .slice (some ⟨b, 0, none⟩) 1 1) (fun u23 => [.slice (some ⟨((u23 1).n 0), 0, none⟩) 1 1]) 22 41 204) (fun _ => rfl) (by decide)) <|
 .cons [42, 205] (Qo false fr [1, 2] [204, 203] (fun u23 => [Yo 22 1 (some ⟨((u23 2).n 0), 0, none⟩) 1 1 (([⟨(some ⟨((u23 1).n 0), 0, none⟩), 1, ([(⟨(-3), 0⟩ : qa)] : List qa)⟩] : List (Sl qa)).flatMap ql), Yo 48 2 (some ⟨((u23 1).n 0), 0, none⟩) 1 1 (([(⟨(-3), 0⟩ : qa)] : List qa).flatMap qb)]) [] (fun u23 => []) 21 _ _ _ _ _ [205] 42 (fun u23 w hB hF hM => Zj.calls k0 ([([(⟨(-3), 0⟩ : qa)] : List qa)] : List (List qa)) (some ⟨((u23 2).n 0), 0, none⟩) 1 ([⟨(some ⟨((u23 1).n 0), 0, none⟩), 1, ([(⟨(-3), 0⟩ : qa)] : List qa)⟩] : List (Sl qa)) t24 w rfl hB ht24) (fun u23 w hF => ⟨⟨QP (qY (QN hF.1)) (fun j h => ⟨_, (.head _), (Zm h)⟩), Xk (E := qc.toPart) (L := ([⟨(some ⟨((u23 1).n 0), 0, none⟩), 1, ([(⟨(-3), 0⟩ : qa)] : List qa)⟩] : List (Sl qa))) (ZL ⟨(qY (QN hF.2.1)), fun _ _ => trivial⟩ Zw) (fun j => (fun h => (JM h).elim (fun h => (h.elim (fun h => ⟨_, (.tail _ (.head _)), (Zm h)⟩) (fun ⟨_, _, hz⟩ => hz.elim))) (fun h => by obtain ⟨_, hy, _⟩ := h; cases hy))), trivial⟩, trivial⟩) (fun u23 g => (qx QZ qI)) (.inr (fun u23 g => (Qj trivial (fun K h => by cases h)))) (fun h => by cases h) (hloc := fun u u' h => ⟨by first | rfl | simp only [h 1 (by decide), h 2 (by decide)], by first | rfl | simp only [h 1 (by decide), h 2 (by decide)], by first | rfl | simp only [h 1 (by decide), h 2 (by decide)], by first | rfl | simp only [h 1 (by decide), h 2 (by decide)], by first | rfl | simp only [h 1 (by decide), h 2 (by decide)], by first | rfl | simp only [h 1 (by decide), h 2 (by decide)]⟩)) <|
 .cons [11] (qp (fun u23 => slgd_S_i64 (u23 3) 0 t24) 11) <| .nil) [1, 2, 3, 4, 5, 6, 8, 9, 10, 11, 187, 188, 190, 192, 195, 196, 201, 202, 205, 999999] fun u23 a w' H => ?_
 refine qs ?_
 refine qs ?_
 replace G := gd G; obtain ⟨b26, G⟩ := G
 replace G := gd G; obtain ⟨b27, G⟩ := G
 obtain ⟨t28, ht28, G⟩ := qP G
 obtain ⟨p_t28, c_t28, y_t28⟩ := QE (Xc Xa (u8 1) 0 t10) ht28
 replace G := gd G; obtain ⟨b29, G⟩ := G
 replace G := gd G; obtain ⟨b30, G⟩ := G
 obtain ⟨t31, ht31, G⟩ := qP G
 obtain ⟨p_t31, c_t31, y_t31⟩ := QE (Xc Xa (u8 1) 0 t10) ht31
 replace G := gd G; obtain ⟨b32, G⟩ := G
 replace G := gd G; obtain ⟨b33, G⟩ := G
 obtain ⟨t34, ht34, G⟩ := qP G
 obtain ⟨p_t34, c_t34, y_t34⟩ := QE (Xc Xa (u23 3) 0 t24) ht34
 refine qN qd H (.v 43 (slgd_S_i64 (u8 1) 0 t10) <|
 .cons [44] (qy 192 (ns_en_i64g (u8 1) 0 t10) (vI (t10.length : Int)) 44 fun _ w h => Q7 (((qQ h).row.2.len qk (by decide)).trans (qD (Xc Xa (u8 1) 0 t10)).symm) (by kernel_rfl)) <|
 .v 45 (.bool ((t10.length : Int) != 2)) <|
 .cons [46] (XO (u' := fun u25 => [(46, sB false)]) (qp (fun u25 => .bool ((t10.length : Int) != 2)) 46) (fun _ => by rw [b26])) <|
 .cons [47] (q6 (qp (fun u25 => slgd_S_i64 (u8 1) 0 t10) 47) (by intro _; kernel_rfl)) <|
 .cons [48] (q6 (qy 192 (ns_en_i64g (u8 1) 0 t10) (.pointer (some ⟨XB ((u8 1).o 0), XC ((u8 1).o 0) + ((0 : Int).toNat) * 1, none⟩)) 48 fun _ w h => Z6 (t := 31) (k := .i64) (i := (0 : Int)) (p := ((u8 1).o 0)) (n := (dlgd_S_i64 (u8 1) 0 t10).length) (cap := ((u8 1).n 0)) (x := t10) (en := ql) (qQ h).row.2 qk (qD (Xc Xa (u8 1) 0 t10)) b27 (by kernel_rfl)) (by intro _; kernel_rfl)) <|
 .cons [49] (q6 (qy 192 (ns_en_i64g (u8 1) 0 t10) (.slice p_t28 t28.length c_t28) 49 fun _ w h => Ya ql (qQ h).row.2 qk y_t28 0 1 [.slice p_t28 t28.length c_t28]) (by intro _; kernel_rfl)) <|
 .cons [50] (q6 (qp (fun u25 => vI (t28.length : Int)) 50) (by intro _; kernel_rfl)) <|
 .cons [51] (q6 (qp (fun u25 => .bool ((t28.length : Int) != 2)) 51) (by intro _; kernel_rfl)) <|
 .cons [52] (XF (fun u25 => .bool ((t28.length : Int) != 2)) 52) <|
 .cons [53] (XO (u' := fun u25 => [(53, sB false)]) (qp (fun u25 => .bool ((t28.length : Int) != 2)) 53) (fun _ => by rw [b29])) <|
 .cons [54] (q6 (qp (fun u25 => slgd_S_i64 (u8 1) 0 t10) 54) (by intro _; kernel_rfl)) <|
 .cons [55] (q6 (qy 192 (ns_en_i64g (u8 1) 0 t10) (.pointer (some ⟨XB ((u8 1).o 0), XC ((u8 1).o 0) + ((1 : Int).toNat) * 1, none⟩)) 55 fun _ w h => Z6 (t := 31) (k := .i64) (i := (1 : Int)) (p := ((u8 1).o 0)) (n := (dlgd_S_i64 (u8 1) 0 t10).length) (cap := ((u8 1).n 0)) (x := t10) (en := ql) (qQ h).row.2 qk (qD (Xc Xa (u8 1) 0 t10)) b30 (by kernel_rfl)) (by intro _; kernel_rfl)) <|
 .cons [56] (q6 (qy 192 (ns_en_i64g (u8 1) 0 t10) (.slice p_t31 t31.length c_t31) 56 fun _ w h => Ya ql (qQ h).row.2 qk y_t31 0 1 [.slice p_t31 t31.length c_t31]) (by intro _; kernel_rfl)) <|
 .cons [57] (q6 (qp (fun u25 => vI (t31.length : Int)) 57) (by intro _; kernel_rfl)) <|
 .cons [58] (q6 (qp (fun u25 => .bool ((t31.length : Int) != 2)) 58) (by intro _; kernel_rfl)) <|
 .cons [59] (XF (fun u25 => .bool ((t31.length : Int) != 2)) 59) <|
 .v 60 (.bool ((t31.length : Int) != 2)) <|
 .cons [61] (Qc (fun u25 => slgd_S_i64 (u23 3) 0 t24) (fun u25 => (((t31.length : Int) != 2) == false)) [true] 61) <|
 .cons [62] (JV [205] (fun u25 => [ns_en_i64g (u23 3) 0 t24]) (fun u25 => vI (t24.length : Int)) (fun u25 => (((t31.length : Int) != 2) == false)) [false] 62 (fun u25 w hg hF => Q7 (((qQ hF.1).row.2.len qk (by decide)).trans (qD (Xc Xa (u23 3) 0 t24)).symm) (by kernel_rfl))) <|
 .cons [63] (Qc (fun u25 => .bool ((t24.length : Int) != 1)) (fun u25 => (((t31.length : Int) != 2) == false)) [false, true] 63) <|
 .cons [64] (Zt 60 63 (fun u25 => true) (fun u25 => true) (fun u25 => ((t31.length : Int) != 2)) (fun u25 => ((t24.length : Int) != 1)) 64) <|
 .cons [65] (XO (u' := fun u25 => [(65, sB false)]) (qp (fun u25 => .bool (((t31.length : Int) != 2) || ((t24.length : Int) != 1))) 65) (fun _ => by rw [b32])) <|
 .cons [66] (q6 (qp (fun u25 => slgd_S_i64 (u23 3) 0 t24) 66) (by intro _; kernel_rfl)) <|
 .cons [67] (q6 (qy 205 (ns_en_i64g (u23 3) 0 t24) (.pointer (some ⟨XB ((u23 3).o 0), XC ((u23 3).o 0) + ((0 : Int).toNat) * 1, none⟩)) 67 fun _ w h => Z6 (t := 31) (k := .i64) (i := (0 : Int)) (p := ((u23 3).o 0)) (n := (dlgd_S_i64 (u23 3) 0 t24).length) (cap := ((u23 3).n 0)) (x := t24) (en := ql) (qQ h).row.2 qk (qD (Xc Xa (u23 3) 0 t24)) b33 (by kernel_rfl)) (by intro _; kernel_rfl)) <|
 .cons [68] (q6 (qy 205 (ns_en_i64g (u23 3) 0 t24) (.slice p_t34 t34.length c_t34) 68 fun _ w h => Ya ql (qQ h).row.2 qk y_t34 0 1 [.slice p_t34 t34.length c_t34]) (by intro _; kernel_rfl)) <|
 .cons [69] (q6 (qp (fun u25 => vI (t34.length : Int)) 69) (by intro _; kernel_rfl)) <|
 .cons [70] (q6 (qp (fun u25 => .bool ((t34.length : Int) != 1)) 70) (by intro _; kernel_rfl)) <|
 .cons [71] (XF (fun u25 => .bool ((t34.length : Int) != 1)) 71) <| .nil) [1, 2, 3, 4, 5, 6, 8, 9, 10, 11, 71, 187, 188, 190, 192, 195, 196, 201, 202, 205, 999999] fun u25 a w' H => ?_
 refine Qr H ((t34.length : Int) != 1) (fun c99 => ?_) fun c99 => ?_
 ·rw [if_pos c99] at G
  refine qg qd H (.v 0 (.bool false) <| .nil) [0, 999999] fun u35 a w' H => ?_
  refine q7 ?_
  obtain rfl := sj G
  exact QG H _ (by kernel_rfl) (by kernel_rfl)
 ·rw [if_neg (nt c99)] at G
  refine qT ?_
  refine qs ?_
  obtain ⟨t37, ht37, G⟩ := qP G
  obtain ⟨t38, ht38, G⟩ := qP G
  replace G := gd G; obtain ⟨b39, G⟩ := G
  obtain ⟨t40, ht40, G⟩ := qP G
  replace G := gd G; obtain ⟨b41, G⟩ := G
  obtain ⟨t42, ht42, G⟩ := qP G
  replace G := gd G; obtain ⟨b43, G⟩ := G
  obtain ⟨t44, ht44, G⟩ := qP G
  obtain ⟨t45, ht45, G⟩ := qP G
  replace G := gd G; obtain ⟨b46, G⟩ := G
  replace G := gd G; obtain ⟨b47, G⟩ := G
  obtain ⟨t48, ht48, G⟩ := qP G
  obtain ⟨p_t48, c_t48, y_t48⟩ := QE (Xc Xa (u8 1) 0 t10) ht48
  have P49 := XT (en := ql) (l := (dlgd_S_i64 (u8 1) 0 t10)) (qQ (H.at (K := ns_en_i64g (u8 1) 0 t10) 192 (by kernel_rfl))).row.2 qk
  replace G := gd G; obtain ⟨b50, G⟩ := G
  obtain ⟨t51, ht51, G⟩ := qP G
  have P52 := XT (en := qB) (l := t48) ((qQ (H.at (K := ns_en_i64g (u8 1) 0 t10) 192 (by kernel_rfl))).one y_t48).2 q8
  replace G := gd G; obtain ⟨b53, G⟩ := G
  replace G := gd G; obtain ⟨b54, G⟩ := G
  obtain ⟨t55, ht55, G⟩ := qP G
  obtain ⟨p_t55, c_t55, y_t55⟩ := QE (Xc Xa (u8 1) 0 t10) ht55
  replace G := gd G; obtain ⟨b56, G⟩ := G
  obtain ⟨t57, ht57, G⟩ := qP G
  have P58 := XT (en := qB) (l := t55) ((qQ (H.at (K := ns_en_i64g (u8 1) 0 t10) 192 (by kernel_rfl))).one y_t55).2 q8
  replace G := gd G; obtain ⟨b59, G⟩ := G
  replace G := gd G; obtain ⟨b60, G⟩ := G
  obtain ⟨t61, ht61, G⟩ := qP G
  obtain ⟨p_t61, c_t61, y_t61⟩ := QE (Xc Xa (u8 1) 0 t10) ht61
  replace G := gd G; obtain ⟨b62, G⟩ := G
  obtain ⟨t63, ht63, G⟩ := qP G
  have P64 := XT (en := qB) (l := t61) ((qQ (H.at (K := ns_en_i64g (u8 1) 0 t10) 192 (by kernel_rfl))).one y_t61).2 q8
  replace G := gd G; obtain ⟨b65, G⟩ := G
  replace G := gd G; obtain ⟨b66, G⟩ := G
  obtain ⟨t67, ht67, G⟩ := qP G
  obtain ⟨p_t67, c_t67, y_t67⟩ := QE (Xc Xa (u8 1) 0 t10) ht67
  replace G := gd G; obtain ⟨b68, G⟩ := G
  obtain ⟨t69, ht69, G⟩ := qP G
  have P70 := XT (en := qB) (l := t67) ((qQ (H.at (K := ns_en_i64g (u8 1) 0 t10) 192 (by kernel_rfl))).one y_t67).2 q8
  replace G := gd G; obtain ⟨b71, G⟩ := G
  obtain ⟨t72, ht72, G⟩ := qP G
  obtain ⟨t73, ht73, G⟩ := qP G
  obtain ⟨t74, ht74, G⟩ := qP G
  replace G := gd G; obtain ⟨b75, G⟩ := G
  obtain ⟨t76, ht76, G⟩ := qP G
  obtain ⟨t77, ht77, G⟩ := qP G
  obtain ⟨t78, ht78, G⟩ := qP G
  replace G := gd G; obtain ⟨b79, G⟩ := G
  obtain ⟨t80, ht80, G⟩ := qP G
  obtain ⟨t81, ht81, G⟩ := qP G
  obtain ⟨t82, ht82, G⟩ := qP G
  replace G := gd G; obtain ⟨b83, G⟩ := G
  replace G := gd G; obtain ⟨b84, G⟩ := G
  obtain ⟨t85, ht85, G⟩ := qP G
  obtain ⟨p_t85, c_t85, y_t85⟩ := QE (Xc Xa (u23 3) 0 t24) ht85
  have P86 := XT (en := ql) (l := (dlgd_S_i64 (u23 3) 0 t24)) (qQ (H.at (K := ns_en_i64g (u23 3) 0 t24) 205 (by kernel_rfl))).row.2 qk
  replace G := gd G; obtain ⟨b87, G⟩ := G
  obtain ⟨t88, ht88, G⟩ := qP G
  have P89 := XT (en := qB) (l := t85) ((qQ (H.at (K := ns_en_i64g (u23 3) 0 t24) 205 (by kernel_rfl))).one y_t85).2 q8
  replace G := gd G; obtain ⟨b90, G⟩ := G
  obtain ⟨t91, ht91, G⟩ := qP G
  obtain ⟨t92, ht92, G⟩ := qP G
  obtain ⟨t93, ht93, G⟩ := qP G
  obtain ⟨t94, ht94, G⟩ := qP G
  replace G := gd G; obtain ⟨b95, G⟩ := G
  obtain ⟨t96, ht96, G⟩ := qP G
  replace G := gd G; obtain ⟨b97, G⟩ := G
  obtain ⟨t98, ht98, G⟩ := qP G
  refine WU qd H (.v 72 (slgd_S_TInterval (u2 1) 0 t4) <|
 .cons [73] (Xi [187] (fun u36 => [ns_en_TIntervalg (u2 1) 0 t4]) 5 _ _ 73 (fun u36 w hF => Xd.calls k0 t4 ((u2 1).o 0) ((u2 1).n 0) (dlgd_S_TInterval (u2 1) 0 t4) t37 w (Xc qC (u2 1) 0 t4) ⟨(ZN (qQ hF.1).row), (JD (qQ hF.1).all), trivial⟩ ht37)) <|
 .v 74 (.bool t37) <|
 .cons [75] (Zi 5 (fun u36 => #[.slice none 0 0]) (.bool t38) (fun u36 => (t37 == true)) [true, true] 75 [] (fun u36 w hg _ => Xd.calls k0 ([] : List (List qa)) none 0 ([] : List (Sl qa)) t38 w rfl ⟨(ZN (qdz (T := (Sl qa)) (en := ql))), (JD Zw), trivial⟩ (ifp ht38 hg))) <|
 .cons [76] (Qc (fun u36 => .bool (!t38)) (fun u36 => (t37 == true)) [false] 76) <|
 .cons [77] (Y9 74 76 (fun u36 => true) (fun u36 => true) (fun u36 => t37) (fun u36 => (!t38)) 77) <|
 .cons [78] (XO (u' := fun u36 => [(78, sB true)]) (qp (fun u36 => .bool (t37 && (!t38))) 78) (fun _ => by rw [b39])) <|
 .cons [79] (q6 (qv (.agg #[vI t5.Lo, vI t5.Hi]) 79 188 0 2 ((u2 3).n 0) [vI t5.Lo, vI t5.Hi] 48) (by intro _; kernel_rfl)) <|
 .cons [80] (q6 (qv (.agg #[vI t5.Lo, vI t5.Hi]) 80 188 0 2 ((u2 3).n 0) [vI t5.Lo, vI t5.Hi] 48) (by intro _; kernel_rfl)) <|
 .cons [81, 206] (q6 (YE 2 2 (qH (fun b => .slice (some ⟨b, 0, none⟩) 2 2) (fun u36 => [vI t5.Lo, vI t5.Hi, vI t5.Lo, vI t5.Hi]) 48 81 206) (fun _ => rfl) (by decide)) (by intro _; kernel_rfl)) <|
 .cons [82, 207] (q6 (YE 1 1 (qH (fun b => .slice (some ⟨b, 0, none⟩) 1 1) (fun u36 => [.slice (some ⟨((u36 9).n 0), 0, none⟩) 2 2]) 22 82 207) (fun _ => rfl) (by decide)) (by intro _; kernel_rfl)) <|
 .cons [83] (q6 (Xi [207, 206] (fun u36 => [Yo 22 1 (some ⟨((u36 10).n 0), 0, none⟩) 1 1 (([⟨(some ⟨((u36 9).n 0), 0, none⟩), 2, ([t5, t5] : List qa)⟩] : List (Sl qa)).flatMap ql), Yo 48 2 (some ⟨((u36 9).n 0), 0, none⟩) 2 2 (([t5, t5] : List qa).flatMap qb)]) 5 _ _ 83 (fun u36 w hF => Xd.calls k0 ([([t5, t5] : List qa)] : List (List qa)) (some ⟨((u36 10).n 0), 0, none⟩) 1 ([⟨(some ⟨((u36 9).n 0), 0, none⟩), 2, ([t5, t5] : List qa)⟩] : List (Sl qa)) t40 w rfl ⟨(ZN (qY (QN hF.1))), (JD (E := qc.toPart) (L := ([⟨(some ⟨((u36 9).n 0), 0, none⟩), 2, ([t5, t5] : List qa)⟩] : List (Sl qa))) (ZL ⟨(qY (QN hF.2.1)), fun _ _ => trivial⟩ Zw)), trivial⟩ ht40)) (by intro _; kernel_rfl)) <|
 .cons [84] (q6 (qp (fun u36 => .bool (!t40)) 84) (by intro _; kernel_rfl)) <|
 .cons [85] (XF (fun u36 => .bool (!t40)) 85) <|
 .cons [86] (XO (u' := fun u36 => [(86, sB true)]) (qp (fun u36 => .bool (!t40)) 86) (fun _ => by rw [b41])) <|
 .cons [87] (q6 (qp (fun u36 => .agg #[vI 2, vI 1]) 87) (by intro _; kernel_rfl)) <|
 .cons [88, 208] (q6 (YE 2 1 (qH (fun b => .slice (some ⟨b, 0, none⟩) 1 1) (fun u36 => [vI 2, vI 1]) 48 88 208) (fun _ => rfl) (by decide)) (by intro _; kernel_rfl)) <|
 .cons [89, 209] (q6 (YE 1 1 (qH (fun b => .slice (some ⟨b, 0, none⟩) 1 1) (fun u36 => [.slice (some ⟨((u36 16).n 0), 0, none⟩) 1 1]) 22 89 209) (fun _ => rfl) (by decide)) (by intro _; kernel_rfl)) <|
 .cons [90] (q6 (Xi [209, 208] (fun u36 => [Yo 22 1 (some ⟨((u36 17).n 0), 0, none⟩) 1 1 (([⟨(some ⟨((u36 16).n 0), 0, none⟩), 1, ([(⟨2, 1⟩ : qa)] : List qa)⟩] : List (Sl qa)).flatMap ql), Yo 48 2 (some ⟨((u36 16).n 0), 0, none⟩) 1 1 (([(⟨2, 1⟩ : qa)] : List qa).flatMap qb)]) 5 _ _ 90 (fun u36 w hF => Xd.calls k0 ([([(⟨2, 1⟩ : qa)] : List qa)] : List (List qa)) (some ⟨((u36 17).n 0), 0, none⟩) 1 ([⟨(some ⟨((u36 16).n 0), 0, none⟩), 1, ([(⟨2, 1⟩ : qa)] : List qa)⟩] : List (Sl qa)) t42 w rfl ⟨(ZN (qY (QN hF.1))), (JD (E := qc.toPart) (L := ([⟨(some ⟨((u36 16).n 0), 0, none⟩), 1, ([(⟨2, 1⟩ : qa)] : List qa)⟩] : List (Sl qa))) (ZL ⟨(qY (QN hF.2.1)), fun _ _ => trivial⟩ Zw)), trivial⟩ ht42)) (by intro _; kernel_rfl)) <|
 .cons [91] (q6 (qp (fun u36 => .bool (!t42)) 91) (by intro _; kernel_rfl)) <|
 .cons [92] (XF (fun u36 => .bool (!t42)) 92) <|
 .cons [93] (XO (u' := fun u36 => [(93, sB true)]) (qp (fun u36 => .bool (!t42)) 93) (fun _ => by rw [b43])) <|
 .cons [94] (q6 (qp (fun u36 => .slice ((u6 4).o 0) t7.length ((u6 4).n 0)) 94) (by intro _; kernel_rfl)) <|
 .cons [95] (q6 (qo 29 _ _ 95 [] (fun u36 w _ => QR.calls 196608  t44 w  ht44)) (by intro _; kernel_rfl)) <|
 .cons [96] (q6 (qv (.agg #[vI t5.Lo, vI t5.Hi]) 96 188 0 2 ((u2 3).n 0) [vI t5.Lo, vI t5.Hi] 48) (by intro _; kernel_rfl)) <|
 .cons [97, 210] (q6 (YE 2 2 (qH (fun b => .slice (some ⟨b, 0, none⟩) 2 2) (fun u36 => [vI t44.Lo, vI t44.Hi, vI t5.Lo, vI t5.Hi]) 48 97 210) (fun _ => rfl) (by decide)) (by intro _; kernel_rfl)) <|
 .cons [98] (q6 (Xi [190, 210] (fun u36 => [QU 48 2 ((u6 4).o 0) ((u6 4).n 0) t7 qb, Yo 48 2 (some ⟨((u36 25).n 0), 0, none⟩) 2 2 (([t44, t5] : List qa).flatMap qb)]) 15 _ _ 98 (fun u36 w hF => QI.calls k0 t7 ([t44, t5] : List qa) ((u6 4).o 0) ((u6 4).n 0) (some ⟨((u36 25).n 0), 0, none⟩) 2 t45 w  ⟨(ZN (qY (QN hF.1))), (ZN (qY (QN hF.2.1))), trivial⟩ ht45)) (by intro _; kernel_rfl)) <|
 .cons [99] (XF (fun u36 => .bool t45) 99) <|
 .cons [100] (XO (u' := fun u36 => [(100, sB true)]) (qp (fun u36 => .bool t45) 100) (fun _ => by rw [b46])) <|
 .cons [101] (q6 (qp (fun u36 => slgd_S_i64 (u8 1) 0 t10) 101) (by intro _; kernel_rfl)) <|
 .cons [102] (q6 (qp (fun u36 => .pointer (some ⟨XB ((u8 1).o 0), XC ((u8 1).o 0) + ((0 : Int).toNat) * 1, none⟩)) 102 (hv := fun _ _ => QH (t := 31) (k := .i64) (i := (0 : Int)) (p := ((u8 1).o 0)) (n := (dlgd_S_i64 (u8 1) 0 t10).length) (cap := ((u8 1).n 0)) (x := t10) P49 (qD (Xc Xa (u8 1) 0 t10)) b47 (by kernel_rfl))) (by intro _; kernel_rfl)) <|
 .cons [103] (q6 (qy 192 (ns_en_i64g (u8 1) 0 t10) (.slice p_t48 t48.length c_t48) 103 fun _ w h => Ya ql (qQ h).row.2 qk y_t48 0 1 [.slice p_t48 t48.length c_t48]) (by intro _; kernel_rfl)) <|
 .cons [104] (q6 (qp (fun u36 => .pointer (some ⟨XB p_t48, XC p_t48 + ((0 : Int).toNat) * 1, none⟩)) 104 (hv := fun _ _ => QH (t := 26) (k := .i64) (i := (0 : Int)) (p := p_t48) (n := t48.length) (cap := c_t48) (x := t48) P52 rfl b50 (by kernel_rfl))) (by intro _; kernel_rfl)) <|
 .cons [105] (q6 (qy 192 (ns_en_i64g (u8 1) 0 t10) (vI t51) 105 fun _ w h => Ya qB ((qQ h).one y_t48).2 q8 ht51 0 1 [vI t51]) (by intro _; kernel_rfl)) <|
 .cons [106] (q6 (qp (fun u36 => .bool (t51 == 65536)) 106) (by intro _; kernel_rfl)) <|
 .cons [107] (XF (fun u36 => .bool (t51 == 65536)) 107) <|
 .cons [108] (XO (u' := fun u36 => [(108, sB true)]) (qp (fun u36 => .bool (t51 == 65536)) 108) (fun _ => by rw [b53])) <|
 .cons [109] (q6 (qp (fun u36 => slgd_S_i64 (u8 1) 0 t10) 109) (by intro _; kernel_rfl)) <|
 .cons [110] (q6 (qp (fun u36 => .pointer (some ⟨XB ((u8 1).o 0), XC ((u8 1).o 0) + ((0 : Int).toNat) * 1, none⟩)) 110 (hv := fun _ _ => QH (t := 31) (k := .i64) (i := (0 : Int)) (p := ((u8 1).o 0)) (n := (dlgd_S_i64 (u8 1) 0 t10).length) (cap := ((u8 1).n 0)) (x := t10) P49 (qD (Xc Xa (u8 1) 0 t10)) b54 (by kernel_rfl))) (by intro _; kernel_rfl)) <|
 .cons [111] (q6 (qy 192 (ns_en_i64g (u8 1) 0 t10) (.slice p_t55 t55.length c_t55) 111 fun _ w h => Ya ql (qQ h).row.2 qk y_t55 0 1 [.slice p_t55 t55.length c_t55]) (by intro _; kernel_rfl)) <|
 .cons [112] (q6 (qp (fun u36 => .pointer (some ⟨XB p_t55, XC p_t55 + ((1 : Int).toNat) * 1, none⟩)) 112 (hv := fun _ _ => QH (t := 26) (k := .i64) (i := (1 : Int)) (p := p_t55) (n := t55.length) (cap := c_t55) (x := t55) P58 rfl b56 (by kernel_rfl))) (by intro _; kernel_rfl)) <|
 .cons [113] (q6 (qy 192 (ns_en_i64g (u8 1) 0 t10) (vI t57) 113 fun _ w h => Ya qB ((qQ h).one y_t55).2 q8 ht57 0 1 [vI t57]) (by intro _; kernel_rfl)) <|
 .cons [114] (q6 (qp (fun u36 => .bool (t57 == 0)) 114) (by intro _; kernel_rfl)) <|
 .cons [115] (XF (fun u36 => .bool (t57 == 0)) 115) <|
 .cons [116] (XO (u' := fun u36 => [(116, sB true)]) (qp (fun u36 => .bool (t57 == 0)) 116) (fun _ => by rw [b59])) <|
 .cons [117] (q6 (qp (fun u36 => slgd_S_i64 (u8 1) 0 t10) 117) (by intro _; kernel_rfl)) <|
 .cons [118] (q6 (qp (fun u36 => .pointer (some ⟨XB ((u8 1).o 0), XC ((u8 1).o 0) + ((1 : Int).toNat) * 1, none⟩)) 118 (hv := fun _ _ => QH (t := 31) (k := .i64) (i := (1 : Int)) (p := ((u8 1).o 0)) (n := (dlgd_S_i64 (u8 1) 0 t10).length) (cap := ((u8 1).n 0)) (x := t10) P49 (qD (Xc Xa (u8 1) 0 t10)) b60 (by kernel_rfl))) (by intro _; kernel_rfl)) <|
 .cons [119] (q6 (qy 192 (ns_en_i64g (u8 1) 0 t10) (.slice p_t61 t61.length c_t61) 119 fun _ w h => Ya ql (qQ h).row.2 qk y_t61 0 1 [.slice p_t61 t61.length c_t61]) (by intro _; kernel_rfl)) <|
 .cons [120] (q6 (qp (fun u36 => .pointer (some ⟨XB p_t61, XC p_t61 + ((0 : Int).toNat) * 1, none⟩)) 120 (hv := fun _ _ => QH (t := 26) (k := .i64) (i := (0 : Int)) (p := p_t61) (n := t61.length) (cap := c_t61) (x := t61) P64 rfl b62 (by kernel_rfl))) (by intro _; kernel_rfl)) <|
 .cons [121] (q6 (qy 192 (ns_en_i64g (u8 1) 0 t10) (vI t63) 121 fun _ w h => Ya qB ((qQ h).one y_t61).2 q8 ht63 0 1 [vI t63]) (by intro _; kernel_rfl)) <|
 .cons [122] (q6 (qp (fun u36 => .bool (t63 == 0)) 122) (by intro _; kernel_rfl)) <|
 .cons [123] (XF (fun u36 => .bool (t63 == 0)) 123) <|
 .cons [124] (XO (u' := fun u36 => [(124, sB true)]) (qp (fun u36 => .bool (t63 == 0)) 124) (fun _ => by rw [b65])) <|
 .cons [125] (q6 (qp (fun u36 => slgd_S_i64 (u8 1) 0 t10) 125) (by intro _; kernel_rfl)) <|
 .cons [126] (q6 (qp (fun u36 => .pointer (some ⟨XB ((u8 1).o 0), XC ((u8 1).o 0) + ((1 : Int).toNat) * 1, none⟩)) 126 (hv := fun _ _ => QH (t := 31) (k := .i64) (i := (1 : Int)) (p := ((u8 1).o 0)) (n := (dlgd_S_i64 (u8 1) 0 t10).length) (cap := ((u8 1).n 0)) (x := t10) P49 (qD (Xc Xa (u8 1) 0 t10)) b66 (by kernel_rfl))) (by intro _; kernel_rfl)) <|
 .cons [127] (q6 (qy 192 (ns_en_i64g (u8 1) 0 t10) (.slice p_t67 t67.length c_t67) 127 fun _ w h => Ya ql (qQ h).row.2 qk y_t67 0 1 [.slice p_t67 t67.length c_t67]) (by intro _; kernel_rfl)) <|
 .cons [128] (q6 (qp (fun u36 => .pointer (some ⟨XB p_t67, XC p_t67 + ((1 : Int).toNat) * 1, none⟩)) 128 (hv := fun _ _ => QH (t := 26) (k := .i64) (i := (1 : Int)) (p := p_t67) (n := t67.length) (cap := c_t67) (x := t67) P70 rfl b68 (by kernel_rfl))) (by intro _; kernel_rfl)) <|
 .cons [129] (q6 (qy 192 (ns_en_i64g (u8 1) 0 t10) (vI t69) 129 fun _ w h => Ya qB ((qQ h).one y_t67).2 q8 ht69 0 1 [vI t69]) (by intro _; kernel_rfl)) <|
 .cons [130] (q6 (qp (fun u36 => .bool (t69 == 65536)) 130) (by intro _; kernel_rfl)) <|
 .cons [131] (XF (fun u36 => .bool (t69 == 65536)) 131) <|
 .cons [132] (XO (u' := fun u36 => [(132, sB true)]) (qp (fun u36 => .bool (t69 == 65536)) 132) (fun _ => by rw [b71])) <|
 .cons [133] (q6 (qp (fun u36 => slgd_S_TInterval (u11 2) 0 t14.1) 133) (by intro _; kernel_rfl)) <|
 .cons [134] (q6 (qo 29 _ _ 134 [] (fun u36 w _ => QR.calls 32768  t72 w  ht72)) (by intro _; kernel_rfl)) <|
 .cons [135] (q6 (qp (fun u36 => .agg #[vI 0, vI 0]) 135) (by intro _; kernel_rfl)) <|
 .cons [136, 211] (q6 (YE 2 2 (qH (fun b => .slice (some ⟨b, 0, none⟩) 2 2) (fun u36 => [vI t72.Lo, vI t72.Hi, vI 0, vI 0]) 48 136 211) (fun _ => rfl) (by decide)) (by intro _; kernel_rfl)) <|
 .cons [137] (q6 (qp (fun u36 => .agg #[vI 0, vI 0]) 137) (by intro _; kernel_rfl)) <|
 .cons [138] (q6 (qo 29 _ _ 138 [] (fun u36 w _ => QR.calls 16384  t73 w  ht73)) (by intro _; kernel_rfl)) <|
 .cons [139, 212] (q6 (YE 2 2 (qH (fun b => .slice (some ⟨b, 0, none⟩) 2 2) (fun u36 => [vI 0, vI 0, vI t73.Lo, vI t73.Hi]) 48 139 212) (fun _ => rfl) (by decide)) (by intro _; kernel_rfl)) <|
 .cons [140, 213] (q6 (YE 1 2 (qH (fun b => .slice (some ⟨b, 0, none⟩) 2 2) (fun u36 => [.slice (some ⟨((u36 64).n 0), 0, none⟩) 2 2, .slice (some ⟨((u36 67).n 0), 0, none⟩) 2 2]) 22 140 213) (fun _ => rfl) (by decide)) (by intro _; kernel_rfl)) <|
 .cons [141] (q6 (Xi [195, 196, 213, 211, 212] (fun u36 => [QU 22 1 ((u11 2).o 0) ((u11 2).n 0) (dlgd_S_TInterval (u11 2) 0 t14.1) ql, QA fr qc.toPart (dlgd_S_TInterval (u11 2) 0 t14.1), Yo 22 1 (some ⟨((u36 68).n 0), 0, none⟩) 2 2 (([⟨(some ⟨((u36 64).n 0), 0, none⟩), 2, ([t72, (⟨0, 0⟩ : qa)] : List qa)⟩, ⟨(some ⟨((u36 67).n 0), 0, none⟩), 2, ([(⟨0, 0⟩ : qa), t73] : List qa)⟩] : List (Sl qa)).flatMap ql), Yo 48 2 (some ⟨((u36 64).n 0), 0, none⟩) 2 2 (([t72, (⟨0, 0⟩ : qa)] : List qa).flatMap qb), Yo 48 2 (some ⟨((u36 67).n 0), 0, none⟩) 2 2 (([(⟨0, 0⟩ : qa), t73] : List qa).flatMap qb)]) 12 _ _ 141 (fun u36 w hF => qz.calls k0 t14.1 ([([t72, (⟨0, 0⟩ : qa)] : List qa), ([(⟨0, 0⟩ : qa), t73] : List qa)] : List (List qa)) ((u11 2).o 0) ((u11 2).n 0) (dlgd_S_TInterval (u11 2) 0 t14.1) (some ⟨((u36 68).n 0), 0, none⟩) 2 ([⟨(some ⟨((u36 64).n 0), 0, none⟩), 2, ([t72, (⟨0, 0⟩ : qa)] : List qa)⟩, ⟨(some ⟨((u36 67).n 0), 0, none⟩), 2, ([(⟨0, 0⟩ : qa), t73] : List qa)⟩] : List (Sl qa)) t74 w (Xc qC (u11 2) 0 t14.1) rfl ⟨(ZN (qY (QN hF.1))), (JD (Qb hF.2.1)), (ZN (qY (QN hF.2.2.1))), (JD (E := qc.toPart) (L := ([⟨(some ⟨((u36 64).n 0), 0, none⟩), 2, ([t72, (⟨0, 0⟩ : qa)] : List qa)⟩, ⟨(some ⟨((u36 67).n 0), 0, none⟩), 2, ([(⟨0, 0⟩ : qa), t73] : List qa)⟩] : List (Sl qa))) (ZL ⟨(qY (QN hF.2.2.2.1)), fun _ _ => trivial⟩ (ZL ⟨(qY (QN hF.2.2.2.2.1)), fun _ _ => trivial⟩ Zw))), trivial⟩ ht74)) (by intro _; kernel_rfl)) <|
 .cons [142] (XF (fun u36 => .bool t74) 142) <|
 .v 143 (.bool t74) <|
 .cons [144] (Qc (fun u36 => .bool t14.2) (fun u36 => (t74 == true)) [true] 144) <|
 .cons [145] (Y9 143 144 (fun u36 => true) (fun u36 => true) (fun u36 => t74) (fun u36 => t14.2) 145) <|
 .v 146 (.bool (t74 && t14.2)) <|
 .cons [147] (Qc (fun u36 => .bool t18.2) (fun u36 => ((t74 && t14.2) == true)) [true] 147) <|
 .cons [148] (Qc (fun u36 => .bool (!t18.2)) (fun u36 => ((t74 && t14.2) == true)) [false] 148) <|
 .cons [149] (Y9 146 148 (fun u36 => true) (fun u36 => true) (fun u36 => (t74 && t14.2)) (fun u36 => (!t18.2)) 149) <|
 .cons [150] (XO (u' := fun u36 => [(150, sB true)]) (qp (fun u36 => .bool ((t74 && t14.2) && (!t18.2))) 150) (fun _ => by rw [b75])) <|
 .cons [151] (q6 (qp (fun u36 => slgd_S_TInterval (u19 2) 0 t20) 151) (by intro _; kernel_rfl)) <|
 .cons [152, 214] (q6 (Qo false fr [] [] (fun u36 => []) [] (fun u36 => []) 28 _ (fun u36 => []) _ _ _ [214] 152 (fun u36 w hB hF hM => QM.calls 1 4 0 1  t76 w  ht76) (fun u36 w hF => ⟨trivial, trivial⟩) (fun u36 g => (qx QZ qI)) (.inr (fun u36 g => (Qj trivial (fun K h => by cases h)))) (fun h => by cases h)) (by intro _; kernel_rfl)) <|
 .cons [153, 215] (q6 (Qo false fr [80] [214] (fun u36 => [ns_en_i64g (u36 80) 0 t76]) [] (fun u36 => []) 20 _ _ _ _ _ [215] 153 (fun u36 w hB hF hM => QJ.calls k0 t76 ((u36 80).o 0) ((u36 80).n 0) (dlgd_S_i64 (u36 80) 0 t76) t77 w (Xc Xa (u36 80) 0 t76) hB ht77) (fun u36 w hF => ⟨⟨QP (qQ hF.1).row (fun j h => ⟨_, (.head _), (Yz h)⟩), Xk (qQ hF.1).all (fun j h => ⟨_, (.head _), (Yw h)⟩), trivial⟩, trivial⟩) (fun u36 g => (qx QZ qI)) (.inr (fun u36 g => (Qj trivial (fun K h => by cases h)))) (fun h => by cases h) (hloc := fun u u' h => ⟨by first | rfl | simp only [h 80 (by decide)], by first | rfl | simp only [h 80 (by decide)], by first | rfl | simp only [h 80 (by decide)], by first | rfl | simp only [h 80 (by decide)], by first | rfl | simp only [h 80 (by decide)], by first | rfl | simp only [h 80 (by decide)]⟩)) (by intro _; kernel_rfl)) <|
 .cons [154] (q6 (Xi [201, 215] (fun u36 => [ns_en_TIntervalg (u19 2) 0 t20, ns_en_TIntervalg (u36 81) 0 t77]) 12 _ _ 154 (fun u36 w hF => qz.calls k0 t20 t77 ((u19 2).o 0) ((u19 2).n 0) (dlgd_S_TInterval (u19 2) 0 t20) ((u36 81).o 0) ((u36 81).n 0) (dlgd_S_TInterval (u36 81) 0 t77) t78 w (Xc qC (u19 2) 0 t20) (Xc qC (u36 81) 0 t77) ⟨(ZN (qQ hF.1).row), (JD (qQ hF.1).all), (ZN (qQ hF.2.1).row), (JD (qQ hF.2.1).all), trivial⟩ ht78)) (by intro _; kernel_rfl)) <|
 .cons [155] (XF (fun u36 => .bool t78) 155) <|
 .cons [156] (XO (u' := fun u36 => [(156, sB true)]) (qp (fun u36 => .bool t78) 156) (fun _ => by rw [b79])) <|
 .cons [157] (q6 (qp (fun u36 => slgd_S_TInterval (u21 1) 0 t22) 157) (by intro _; kernel_rfl)) <|
 .cons [158, 216] (q6 (Qo false fr [] [] (fun u36 => []) [] (fun u36 => []) 28 _ (fun u36 => []) _ _ _ [216] 158 (fun u36 w hB hF hM => QM.calls 1 0 2 1  t80 w  ht80) (fun u36 w hF => ⟨trivial, trivial⟩) (fun u36 g => (qx QZ qI)) (.inr (fun u36 g => (Qj trivial (fun K h => by cases h)))) (fun h => by cases h)) (by intro _; kernel_rfl)) <|
 .cons [159, 217] (q6 (Qo false fr [86] [216] (fun u36 => [ns_en_i64g (u36 86) 0 t80]) [] (fun u36 => []) 20 _ _ _ _ _ [217] 159 (fun u36 w hB hF hM => QJ.calls k0 t80 ((u36 86).o 0) ((u36 86).n 0) (dlgd_S_i64 (u36 86) 0 t80) t81 w (Xc Xa (u36 86) 0 t80) hB ht81) (fun u36 w hF => ⟨⟨QP (qQ hF.1).row (fun j h => ⟨_, (.head _), (Yz h)⟩), Xk (qQ hF.1).all (fun j h => ⟨_, (.head _), (Yw h)⟩), trivial⟩, trivial⟩) (fun u36 g => (qx QZ qI)) (.inr (fun u36 g => (Qj trivial (fun K h => by cases h)))) (fun h => by cases h) (hloc := fun u u' h => ⟨by first | rfl | simp only [h 86 (by decide)], by first | rfl | simp only [h 86 (by decide)], by first | rfl | simp only [h 86 (by decide)], by first | rfl | simp only [h 86 (by decide)], by first | rfl | simp only [h 86 (by decide)], by first | rfl | simp only [h 86 (by decide)]⟩)) (by intro _; kernel_rfl)) <|
 .cons [160] (q6 (Xi [202, 217] (fun u36 => [ns_en_TIntervalg (u21 1) 0 t22, ns_en_TIntervalg (u36 87) 0 t81]) 12 _ _ 160 (fun u36 w hF => qz.calls k0 t22 t81 ((u21 1).o 0) ((u21 1).n 0) (dlgd_S_TInterval (u21 1) 0 t22) ((u36 87).o 0) ((u36 87).n 0) (dlgd_S_TInterval (u36 87) 0 t81) t82 w (Xc qC (u21 1) 0 t22) (Xc qC (u36 87) 0 t81) ⟨(ZN (qQ hF.1).row), (JD (qQ hF.1).all), (ZN (qQ hF.2.1).row), (JD (qQ hF.2.1).all), trivial⟩ ht82)) (by intro _; kernel_rfl)) <|
 .cons [161] (XF (fun u36 => .bool t82) 161) <|
 .cons [162] (XO (u' := fun u36 => [(162, sB true)]) (qp (fun u36 => .bool t82) 162) (fun _ => by rw [b83])) <|
 .cons [163] (q6 (qp (fun u36 => slgd_S_i64 (u23 3) 0 t24) 163) (by intro _; kernel_rfl)) <|
 .cons [164] (q6 (qp (fun u36 => .pointer (some ⟨XB ((u23 3).o 0), XC ((u23 3).o 0) + ((0 : Int).toNat) * 1, none⟩)) 164 (hv := fun _ _ => QH (t := 31) (k := .i64) (i := (0 : Int)) (p := ((u23 3).o 0)) (n := (dlgd_S_i64 (u23 3) 0 t24).length) (cap := ((u23 3).n 0)) (x := t24) P86 (qD (Xc Xa (u23 3) 0 t24)) b84 (by kernel_rfl))) (by intro _; kernel_rfl)) <|
 .cons [165] (q6 (qy 205 (ns_en_i64g (u23 3) 0 t24) (.slice p_t85 t85.length c_t85) 165 fun _ w h => Ya ql (qQ h).row.2 qk y_t85 0 1 [.slice p_t85 t85.length c_t85]) (by intro _; kernel_rfl)) <|
 .cons [166] (q6 (qp (fun u36 => .pointer (some ⟨XB p_t85, XC p_t85 + ((0 : Int).toNat) * 1, none⟩)) 166 (hv := fun _ _ => QH (t := 26) (k := .i64) (i := (0 : Int)) (p := p_t85) (n := t85.length) (cap := c_t85) (x := t85) P89 rfl b87 (by kernel_rfl))) (by intro _; kernel_rfl)) <|
 .cons [167] (q6 (qy 205 (ns_en_i64g (u23 3) 0 t24) (vI t88) 167 fun _ w h => Ya qB ((qQ h).one y_t85).2 q8 ht88 0 1 [vI t88]) (by intro _; kernel_rfl)) <|
 .cons [168] (q6 (qp (fun u36 => .bool (t88 == (-2))) 168) (by intro _; kernel_rfl)) <|
 .cons [169] (XF (fun u36 => .bool (t88 == (-2))) 169) <|
 .cons [170] (XO (u' := fun u36 => [(170, sB true)]) (qp (fun u36 => .bool (t88 == (-2))) 170) (fun _ => by rw [b90])) <|
 .cons [171, 218] (q6 (Qo false fr [] [] (fun u36 => []) [] (fun u36 => []) 26 _ (fun u36 => []) _ _ _ [218] 171 (fun u36 w hB hF hM => Xp.calls k0 2  t91 w  ht91) (fun u36 w hF => ⟨trivial, trivial⟩) (fun u36 g => (qx QZ qI)) (.inr (fun u36 g => (Qj trivial (fun K h => by cases h)))) (fun h => by cases h)) (by intro _; kernel_rfl)) <|
 .cons [172, 219] (q6 (Qo false fr [] [] (fun u36 => []) [] (fun u36 => []) 28 _ (fun u36 => []) _ _ _ [219] 172 (fun u36 w hB hF hM => QM.calls 1 0 0 1  t92 w  ht92) (fun u36 w hF => ⟨trivial, trivial⟩) (fun u36 g => (qx QZ qI)) (.inr (fun u36 g => (Qj trivial (fun K h => by cases h)))) (fun h => by cases h)) (by intro _; kernel_rfl)) <|
 .cons [173, 220] (q6 (Qo false fr [100] [219] (fun u36 => [ns_en_i64g (u36 100) 0 t92]) [] (fun u36 => []) 20 _ _ _ _ _ [220] 173 (fun u36 w hB hF hM => QJ.calls k0 t92 ((u36 100).o 0) ((u36 100).n 0) (dlgd_S_i64 (u36 100) 0 t92) t93 w (Xc Xa (u36 100) 0 t92) hB ht93) (fun u36 w hF => ⟨⟨QP (qQ hF.1).row (fun j h => ⟨_, (.head _), (Yz h)⟩), Xk (qQ hF.1).all (fun j h => ⟨_, (.head _), (Yw h)⟩), trivial⟩, trivial⟩) (fun u36 g => (qx QZ qI)) (.inr (fun u36 g => (Qj trivial (fun K h => by cases h)))) (fun h => by cases h) (hloc := fun u u' h => ⟨by first | rfl | simp only [h 100 (by decide)], by first | rfl | simp only [h 100 (by decide)], by first | rfl | simp only [h 100 (by decide)], by first | rfl | simp only [h 100 (by decide)], by first | rfl | simp only [h 100 (by decide)], by first | rfl | simp only [h 100 (by decide)]⟩)) (by intro _; kernel_rfl)) <|
 .cons [174] (q6 (Xi [218, 220] (fun u36 => [ns_en_TIntervalg (u36 99) 0 t91, ns_en_TIntervalg (u36 101) 0 t93]) 12 _ _ 174 (fun u36 w hF => qz.calls k0 t91 t93 ((u36 99).o 0) ((u36 99).n 0) (dlgd_S_TInterval (u36 99) 0 t91) ((u36 101).o 0) ((u36 101).n 0) (dlgd_S_TInterval (u36 101) 0 t93) t94 w (Xc qC (u36 99) 0 t91) (Xc qC (u36 101) 0 t93) ⟨(ZN (qQ hF.1).row), (JD (qQ hF.1).all), (ZN (qQ hF.2.1).row), (JD (qQ hF.2.1).all), trivial⟩ ht94)) (by intro _; kernel_rfl)) <|
 .cons [175] (XF (fun u36 => .bool t94) 175) <|
 .cons [176] (XO (u' := fun u36 => [(176, sB true)]) (qp (fun u36 => .bool t94) 176) (fun _ => by rw [b95])) <|
 .cons [177, 221] (q6 (Qo false fr [] [] (fun u36 => []) [] (fun u36 => []) 26 _ (fun u36 => []) _ _ _ [221] 177 (fun u36 w hB hF hM => Xp.calls k0 0  t96 w  ht96) (fun u36 w hF => ⟨trivial, trivial⟩) (fun u36 g => (qx QZ qI)) (.inr (fun u36 g => (Qj trivial (fun K h => by cases h)))) (fun h => by cases h)) (by intro _; kernel_rfl)) <|
 .cons [178] (q6 (JV [221] (fun u36 => [ns_en_TIntervalg (u36 105) 0 t96]) (fun u36 => vI (t96.length : Int)) (fun u36 => true) [true] 178 (fun u36 w hg hF => Q7 (((qQ hF.1).row.2.len qk (by decide)).trans (qD (Xc qC (u36 105) 0 t96)).symm) (by kernel_rfl))) (by intro _; kernel_rfl)) <|
 .cons [179] (q6 (qp (fun u36 => .bool ((t96.length : Int) == 0)) 179) (by intro _; kernel_rfl)) <|
 .cons [180] (XF (fun u36 => .bool ((t96.length : Int) == 0)) 180) <|
 .cons [181] (XO (u' := fun u36 => [(181, sB true)]) (qp (fun u36 => .bool ((t96.length : Int) == 0)) 181) (fun _ => by rw [b97])) <|
 .cons [182, 222] (q6 (Qo false fr [] [] (fun u36 => []) [] (fun u36 => []) 26 _ (fun u36 => []) _ _ _ [222] 182 (fun u36 w hB hF hM => Xp.calls k0 7  t98 w  ht98) (fun u36 w hF => ⟨trivial, trivial⟩) (fun u36 g => (qx QZ qI)) (.inr (fun u36 g => (Qj trivial (fun K h => by cases h)))) (fun h => by cases h)) (by intro _; kernel_rfl)) <|
 .cons [183] (q6 (JV [222] (fun u36 => [ns_en_TIntervalg (u36 110) 0 t98]) (fun u36 => vI (t98.length : Int)) (fun u36 => true) [true] 183 (fun u36 w hg hF => Q7 (((qQ hF.1).row.2.len qk (by decide)).trans (qD (Xc qC (u36 110) 0 t98)).symm) (by kernel_rfl))) (by intro _; kernel_rfl)) <|
 .cons [184] (q6 (qp (fun u36 => .bool ((t98.length : Int) == 0)) 184) (by intro _; kernel_rfl)) <|
 .cons [185] (XF (fun u36 => .bool ((t98.length : Int) == 0)) 185) <|
 .v 0 (.bool ((t98.length : Int) == 0)) <| .nil) (by kernel_rfl) fun u36 a w' H => ?_
  replace H := H.kp [0, 999999]
  refine q7 ?_
  obtain rfl := sj G
  exact QG H _ (by kernel_rfl) (by kernel_rfl)
theorem q9.calls (a0 : qa) (r : Bool) (w : World) (G : q9 a0 = some r) :
  Calls Tryz.prog 46 #[.agg #[vI a0.Lo, vI a0.Hi]] w fun e w' => e = .returned (.bool r) ∧ Below w.heap.size w w' := by
 refine Q4 (args := [.agg #[vI a0.Lo, vI a0.Hi]]) 11 Tryz.func46 rfl (by kernel_rfl) (by kernel_rfl) fun a H => ?_
 unfold q9 at G
 refine qg qd H (.cons [1, 11] (qH (fun b => vP b 0) (fun u1 => [vI a0.Lo, vI a0.Hi]) 48 1 11) <|
 .v 2 (.bool false) <| .nil) [1, 11] fun u1 a w' H => ?_
 refine qg qd H (.v 3 (vP ((u1 0).n 0) 0) <|
 .cons [4] (qv (vI a0.Lo) 4 11 0 1 ((u1 0).n 0) [vI a0.Lo, vI a0.Hi] 48) <|
 .v 5 (.bool (a0.Lo == (-2147483648))) <|
 .v 6 (.bool (a0.Lo == (-2147483648))) <|
 .cons [7] (Qc (fun u2 => vP ((u1 0).n 0) 1) (fun u2 => ((a0.Lo == (-2147483648)) == true)) [true] 7) <|
 .cons [8] (Zc (fun u2 => vI a0.Hi) (fun u2 => ((a0.Lo == (-2147483648)) == true)) [false] 8 11 1 1 (fun u2 => ((u1 0).n 0)) (fun u2 => [vI a0.Lo, vI a0.Hi]) 48) <|
 .cons [9] (Qc (fun u2 => .bool (a0.Hi == 2147483648)) (fun u2 => ((a0.Lo == (-2147483648)) == true)) [false, true] 9) <|
 .cons [10] (Y9 6 9 (fun u2 => true) (fun u2 => true) (fun u2 => (a0.Lo == (-2147483648))) (fun u2 => (a0.Hi == 2147483648)) 10) <|
 .v 2 (.bool ((a0.Lo == (-2147483648)) && (a0.Hi == 2147483648))) <| .nil) [2] fun u2 a w' H => ?_
 refine q7 ?_
 obtain rfl := sj G
 exact QG H _ (by kernel_rfl) (by kernel_rfl)
theorem XU.calls (a0 : qa) (r : Bool) (w : World) (G : XU a0 = some r) :
  Calls Tryz.prog 33 #[.agg #[vI a0.Lo, vI a0.Hi]] w fun e w' => e = .returned (.bool r) ∧ Below w.heap.size w w' := by
 refine Q4 (args := [.agg #[vI a0.Lo, vI a0.Hi]]) 22 Tryz.func33 rfl (by kernel_rfl) (by kernel_rfl) fun a H => ?_
 unfold XU at G
 refine qg qd H (.cons [1, 22] (qH (fun b => vP b 0) (fun u1 => [vI a0.Lo, vI a0.Hi]) 48 1 22) <|
 .v 2 (.bool false) <| .nil) [1, 22] fun u1 a w' H => ?_
 obtain ⟨t3, ht3, G⟩ := qP G
 obtain ⟨t4, ht4, G⟩ := qP G
 obtain ⟨t5, ht5, G⟩ := qP G
 refine qg qd H (.cons [3] (qv (.agg #[vI a0.Lo, vI a0.Hi]) 3 22 0 2 ((u1 0).n 0) [vI a0.Lo, vI a0.Hi] 48) <|
 .cons [4] (qo 46 _ _ 4 [] (fun u2 w _ => q9.calls a0  t3 w  ht3)) <|
 .v 5 (.bool t3) <|
 .cons [6] (Qc (fun u2 => vP ((u1 0).n 0) 0) (fun u2 => (t3 == false)) [true] 6) <|
 .cons [7] (Zc (fun u2 => vI a0.Lo) (fun u2 => (t3 == false)) [false] 7 22 0 1 (fun u2 => ((u1 0).n 0)) (fun u2 => [vI a0.Lo, vI a0.Hi]) 48) <|
 .cons [8] (Zi 71 (fun u2 => #[vI a0.Lo]) (.bool t4) (fun u2 => (t3 == false)) [true, false] 8 [] (fun u2 w hg _ => Q6.calls a0.Lo  t4 w  (ifp ht4 hg))) <|
 .cons [9] (Qc (fun u2 => .bool t4) (fun u2 => (t3 == false)) [false] 9) <|
 .cons [10] (Qc (fun u2 => vP ((u1 0).n 0) 1) (fun u2 => ((t3 == false) && (t4 == true))) [true] 10) <|
 .cons [11] (Zc (fun u2 => vI a0.Hi) (fun u2 => ((t3 == false) && (t4 == true))) [false] 11 22 1 1 (fun u2 => ((u1 0).n 0)) (fun u2 => [vI a0.Lo, vI a0.Hi]) 48) <|
 .cons [12] (Zi 71 (fun u2 => #[vI a0.Hi]) (.bool t5) (fun u2 => ((t3 == false) && (t4 == true))) [true, false] 12 [] (fun u2 w hg _ => Q6.calls a0.Hi  t5 w  (ifp ht5 hg))) <|
 .cons [13] (Y9 9 12 (fun u2 => (t3 == false)) (fun u2 => (t3 == false)) (fun u2 => t4) (fun u2 => t5) 13) <|
 .cons [14] (Qc (fun u2 => .bool (t4 && t5)) (fun u2 => (t3 == false)) [false] 14) <|
 .cons [15] (Qc (fun u2 => vP ((u1 0).n 0) 0) (fun u2 => ((t3 == false) && ((t4 && t5) == true))) [true] 15) <|
 .cons [16] (Zc (fun u2 => vI a0.Lo) (fun u2 => ((t3 == false) && ((t4 && t5) == true))) [false] 16 22 0 1 (fun u2 => ((u1 0).n 0)) (fun u2 => [vI a0.Lo, vI a0.Hi]) 48) <|
 .cons [17] (Qc (fun u2 => vP ((u1 0).n 0) 1) (fun u2 => ((t3 == false) && ((t4 && t5) == true))) [true] 17) <|
 .cons [18] (Zc (fun u2 => vI a0.Hi) (fun u2 => ((t3 == false) && ((t4 && t5) == true))) [false] 18 22 1 1 (fun u2 => ((u1 0).n 0)) (fun u2 => [vI a0.Lo, vI a0.Hi]) 48) <|
 .cons [19] (Qc (fun u2 => .bool (decide (a0.Lo ≤ a0.Hi))) (fun u2 => ((t3 == false) && ((t4 && t5) == true))) [false, false] 19) <|
 .cons [20] (Y9 14 19 (fun u2 => (t3 == false)) (fun u2 => (t3 == false)) (fun u2 => (t4 && t5)) (fun u2 => decide (a0.Lo ≤ a0.Hi)) 20) <|
 .cons [21] (Zt 5 20 (fun u2 => true) (fun u2 => true) (fun u2 => t3) (fun u2 => ((t4 && t5) && (decide (a0.Lo ≤ a0.Hi)))) 21) <|
 .v 2 (.bool (t3 || ((t4 && t5) && (decide (a0.Lo ≤ a0.Hi))))) <| .nil) [2] fun u2 a w' H => ?_
 refine q7 ?_
 obtain rfl := sj G
 exact QG H _ (by kernel_rfl) (by kernel_rfl)
theorem qX.calls (k0 : Nat) (a0 : List (List qa)) (p_a0 : Option Addr) (c_a0 : Nat) (L_a0 : List (Sl qa)) (r : Bool) (w : World) (h_a0 : a0 = L_a0.map Sl.l) (hB : Yj [Qh qi 1 p_a0 c_a0 L_a0 ql, QA qi qc.toPart L_a0] w) (G : qX k0 a0 = some r) :
  Calls Tryz.prog 6 #[.slice p_a0 L_a0.length c_a0] w fun e w' => e = .returned (.bool r) ∧ Below w.heap.size w w' := by
 obtain ⟨fr, hfr⟩ : ∃ fr : Nat → Prop, ∀ j, fr j := ⟨fun _ => True, fun _ => trivial⟩
 have hBf : ∀ j, w.heap.size ≤ j → fr j := fun j _ => hfr j
 refine QQ (args := [.slice p_a0 L_a0.length c_a0]) 42 [(42, Qh qi 1 p_a0 c_a0 L_a0 ql), (43, QA qi qc.toPart L_a0)] (by
  intro x hx
  simp only [List.mem_cons, List.not_mem_nil, or_false] at hx
  rcases hx with rfl | rfl
  ·exact Ql (qq hB.1) (fun _ _ => trivial) (by decide) _
  ·exact Xt (Qb hB.2.1) (fun _ _ => trivial) _) Tryz.func6 rfl (by kernel_rfl) (by kernel_rfl) fun a H => ?_
 unfold qX at G
 refine qg qd H (.v 2 (.bool false) <| .nil) [0, 42, 43] fun u1 a w' H => ?_
 refine qs ?_
 refine qg qd H (.v 5 (.slice p_a0 L_a0.length c_a0) <|
 .cons [6] (qy 42 (Qh qi 1 p_a0 c_a0 L_a0 ql) (vI (a0.length : Int)) 6 fun _ w h => Q7 (((qq h).2.len qk (by decide)).trans (qD h_a0).symm) (by kernel_rfl)) <|
 .v 7 (.bool (decide ((a0.length : Int) < 1))) <|
 .v 8 (.bool (decide ((a0.length : Int) < 1))) <|
 .cons [9] (Qc (fun u2 => .slice p_a0 L_a0.length c_a0) (fun u2 => ((decide ((a0.length : Int) < 1)) == false)) [true] 9) <|
 .cons [10] (JV [42] (fun u2 => [Qh qi 1 p_a0 c_a0 L_a0 ql]) (fun u2 => vI (a0.length : Int)) (fun u2 => ((decide ((a0.length : Int) < 1)) == false)) [false] 10 (fun u2 w hg hF => Q7 (((qq hF.1).2.len qk (by decide)).trans (qD h_a0).symm) (by kernel_rfl))) <|
 .cons [11] (Qc (fun u2 => .bool (decide ((a0.length : Int) > 6))) (fun u2 => ((decide ((a0.length : Int) < 1)) == false)) [false, true] 11) <|
 .cons [12] (Zt 8 11 (fun u2 => true) (fun u2 => true) (fun u2 => decide ((a0.length : Int) < 1)) (fun u2 => decide ((a0.length : Int) > 6)) 12) <| .nil) [0, 12, 42, 43] fun u2 a w' H => ?_
 refine Qr H ((decide ((a0.length : Int) < 1)) || (decide ((a0.length : Int) > 6))) (fun c32 => ?_) fun c32 => ?_
 ·rw [if_pos c32] at G
  refine qg qd H (.v 2 (.bool false) <| .nil) [2] fun u3 a w' H => ?_
  refine q7 ?_
  obtain rfl := sj G
  exact QG H _ (by kernel_rfl) (by kernel_rfl)
 ·rw [if_neg (nt c32)] at G
  refine qT ?_
  refine qs ?_
  obtain ⟨j4, hj4, Gj4⟩ := qP G
  refine Qw (fun a w' => ∃ j4v, j4 = Sum.inr j4v ∧ RL w 42 [] a w') ?_ ?_
  ·clear H; rintro a w' ⟨j4v, rfl, H⟩; have G := Gj4; clear Gj4; dsimp only at G
   refine qg qd H (.v 2 (.bool true) <| .nil) [2] fun u5 a w' H => ?_
   refine q7 ?_
   obtain rfl := sj G
   exact QG H _ (by kernel_rfl) (by kernel_rfl)
  ·have G := hj4; clear hj4
   refine qg qd H (.v 3 (vI 0) <| .nil) [0, 3, 42, 43] fun u6 a w' H => ?_
   refine qA ?_
   refine Qv (fun m a w' => ∃ x7 : Int, qX.l8 k0 a0 m x7 = some j4 ∧ RL w 42 [(0, sS p_a0 L_a0.length c_a0), (3, sI x7), (42, Qh qi 1 p_a0 c_a0 L_a0 ql), (43, QA qi qc.toPart L_a0)] a w') k0 ⟨_, G, H.toM _⟩ ?_
   clear G H
   rintro (_ | k) a w' ⟨x7, G, H⟩
   ·exact absurd G (by unfold qX.l8; exact fun h => by cases h)
   ·unfold qX.l8 at G
    refine qs ?_
    refine qg qd H (.v 13 (vI x7) <|
 .v 14 (.slice p_a0 L_a0.length c_a0) <|
 .cons [15] (qy 42 (Qh qi 1 p_a0 c_a0 L_a0 ql) (vI (a0.length : Int)) 15 fun _ w h => Q7 (((qq h).2.len qk (by decide)).trans (qD h_a0).symm) (by kernel_rfl)) <|
 .v 16 (.bool (decide (x7 < (a0.length : Int)))) <| .nil) [0, 3, 16, 42, 43] fun u9 a w' H => ?_
    refine Qr H (decide (x7 < (a0.length : Int))) (fun c31 => ?_) fun c31 => ?_
    ·rw [if_pos c31] at G
     refine qT ?_
     refine qs ?_
     obtain ⟨j10, hj10, Gj10⟩ := qP G
     refine Qw (fun a w' => ∃ j10v, j10 = Sum.inr j10v ∧ RL w 42 [(0, sS p_a0 L_a0.length c_a0), (3, sI x7), (42, Qh qi 1 p_a0 c_a0 L_a0 ql), (43, QA qi qc.toPart L_a0)] a w') ?_ ?_
     ·clear H; rintro a w' ⟨j10v, rfl, H⟩; have G := Gj10; clear Gj10; dsimp only at G
      refine qN qd H (.v 17 (vI x7) <|
 .v 18 (vI (qe (x7 + 1))) <|
 .v 3 (vI (qe (x7 + 1))) <| .nil) [0, 3, 42, 43] fun u11 a w' H => ?_
      exact ⟨k, Nat.lt_succ_self k, _, G, H.toM _⟩
     ·have G := hj10; clear hj10
      refine qA ?_
      refine qs ?_
      refine qs ?_
      replace G := gd G; obtain ⟨b13, G⟩ := G
      obtain ⟨t14, ht14, G⟩ := qP G
      obtain ⟨p_t14, c_t14, y_t14⟩ := QE h_a0 ht14
      refine qN qd H (.v 19 (.slice p_a0 L_a0.length c_a0) <|
 .v 20 (vI x7) <|
 .cons [21] (qy 42 (Qh qi 1 p_a0 c_a0 L_a0 ql) (.pointer (some ⟨XB p_a0, XC p_a0 + x7.toNat * 1, none⟩)) 21 fun _ w h => YQ 25 .i64 x7 p_a0 L_a0.length c_a0 a0 ql (qq h).2 qk (qD h_a0) b13) <|
 .cons [22] (qy 42 (Qh qi 1 p_a0 c_a0 L_a0 ql) (.slice p_t14 t14.length c_t14) 22 fun _ w h => Ya ql (qq h).2 qk y_t14 0 1 [.slice p_t14 t14.length c_t14]) <|
 .v 23 (vI (t14.length : Int)) <|
 .v 24 (.slice p_a0 L_a0.length c_a0) <|
 .cons [25] (qy 42 (Qh qi 1 p_a0 c_a0 L_a0 ql) (vI (a0.length : Int)) 25 fun _ w h => Q7 (((qq h).2.len qk (by decide)).trans (qD h_a0).symm) (by kernel_rfl)) <|
 .v 26 (.bool ((t14.length : Int) != (a0.length : Int))) <| .nil) [0, 3, 26, 42, 43] fun u12 a w' H => ?_
      refine Qr H ((t14.length : Int) != (a0.length : Int)) (fun c30 => ?_) fun c30 => ?_
      ·rw [if_pos c30] at G
       refine qg qd H (.v 2 (.bool false) <| .nil) [2] fun u15 a w' H => ?_
       refine q7 ?_
       obtain rfl := sj G
       replace G := Gj10
       obtain rfl := sj G
       replace G := Gj4
       obtain rfl := sj G
       exact QG H _ (by kernel_rfl) (by kernel_rfl)
      ·rw [if_neg (nt c30)] at G
       refine qT ?_
       refine qg qd H (.v 4 (vI 0) <| .nil) [0, 3, 4, 42, 43] fun u16 a w' H => ?_
       refine qA ?_
       refine Qv (fun m a w' => ∃ x17 : Int, qX.l18 k0 a0 x7 t14 m x17 = some j10 ∧ RL w 42 [(0, sS p_a0 L_a0.length c_a0), (3, sI x7), (4, sI x17), (42, Qh qi 1 p_a0 c_a0 L_a0 ql), (43, QA qi qc.toPart L_a0)] a w') k0 ⟨_, G, H.toM _⟩ ?_
       clear G H
       rintro (_ | k) a w' ⟨x17, G, H⟩
       ·exact absurd G (by unfold qX.l18; exact fun h => by cases h)
       ·unfold qX.l18 at G
        refine qs ?_
        refine qg qd H (.v 27 (vI x17) <|
 .v 28 (.slice p_a0 L_a0.length c_a0) <|
 .cons [29] (qy 42 (Qh qi 1 p_a0 c_a0 L_a0 ql) (vI (a0.length : Int)) 29 fun _ w h => Q7 (((qq h).2.len qk (by decide)).trans (qD h_a0).symm) (by kernel_rfl)) <|
 .v 30 (.bool (decide (x17 < (a0.length : Int)))) <| .nil) [0, 3, 4, 30, 42, 43] fun u19 a w' H => ?_
        refine Qr H (decide (x17 < (a0.length : Int))) (fun c29 => ?_) fun c29 => ?_
        ·rw [if_pos c29] at G
         refine qT ?_
         refine qs ?_
         refine qA ?_
         refine qs ?_
         replace G := gd G; obtain ⟨b21, G⟩ := G
         obtain ⟨t22, ht22, G⟩ := qP G
         obtain ⟨p_t22, c_t22, y_t22⟩ := QE h_a0 ht22
         replace G := gd G; obtain ⟨b23, G⟩ := G
         obtain ⟨t24, ht24, G⟩ := qP G
         obtain ⟨t25, ht25, G⟩ := qP G
         refine qN qd H (.v 33 (.slice p_a0 L_a0.length c_a0) <|
 .v 34 (vI x7) <|
 .cons [35] (qy 42 (Qh qi 1 p_a0 c_a0 L_a0 ql) (.pointer (some ⟨XB p_a0, XC p_a0 + x7.toNat * 1, none⟩)) 35 fun _ w h => YQ 25 .i64 x7 p_a0 L_a0.length c_a0 a0 ql (qq h).2 qk (qD h_a0) b21) <|
 .cons [36] (qy 42 (Qh qi 1 p_a0 c_a0 L_a0 ql) (.slice p_t22 t22.length c_t22) 36 fun _ w h => Ya ql (qq h).2 qk y_t22 0 1 [.slice p_t22 t22.length c_t22]) <|
 .v 37 (vI x17) <|
 .cons [38] (qy 43 (QA qi qc.toPart L_a0) (.pointer (some ⟨XB p_t22, XC p_t22 + x17.toNat * 2, none⟩)) 38 fun _ w h => YQ 22 .i64 x17 p_t22 t22.length c_t22 t22 qb (show Xv _ 2 p_t22 t22.length c_t22 (t22.flatMap qb) from ((Qb h) _ (List.mem_of_getElem? y_t22)).1).2 qh rfl b23) <|
 .cons [39] (qy 43 (QA qi qc.toPart L_a0) (.agg #[vI t24.Lo, vI t24.Hi]) 39 fun _ w h => Ya qb (show Xv _ 2 p_t22 t22.length c_t22 (t22.flatMap qb) from ((Qb h) _ (List.mem_of_getElem? y_t22)).1).2 qh ht24 0 2 [vI t24.Lo, vI t24.Hi]) <|
 .cons [40] (qo 33 _ _ 40 [] (fun u20 w _ => XU.calls t24  t25 w  ht25)) <|
 .v 41 (.bool (!t25)) <| .nil) [0, 3, 4, 41, 42, 43] fun u20 a w' H => ?_
         refine Qr H (!t25) (fun c28 => ?_) fun c28 => ?_
         ·rw [if_pos c28] at G
          refine qg qd H (.v 2 (.bool false) <| .nil) [2] fun u26 a w' H => ?_
          refine q7 ?_
          obtain rfl := sj G
          replace G := Gj10
          obtain rfl := sj G
          replace G := Gj4
          obtain rfl := sj G
          exact QG H _ (by kernel_rfl) (by kernel_rfl)
         ·rw [if_neg (nt c28)] at G
          refine qT ?_
          refine qN qd H (.v 31 (vI x17) <|
 .v 32 (vI (qe (x17 + 1))) <|
 .v 4 (vI (qe (x17 + 1))) <| .nil) [0, 3, 4, 42, 43] fun u27 a w' H => ?_
          exact ⟨k, Nat.lt_succ_self k, _, G, H.toM _⟩
        ·rw [if_neg (nt c29)] at G
         refine QO rfl ?_
         obtain rfl := sj G
         exact ⟨_, rfl, H.toM _⟩
    ·rw [if_neg (nt c31)] at G
     refine QO rfl ?_
     obtain rfl := sj G
     exact ⟨_, rfl, H.toM _⟩
theorem XY.calls (a0 : Int) (r : Int) (w : World) (G : XY a0 = some r) :
  Calls Tryz.prog 9 #[.int .u8 a0] w fun e w' => e = .returned (vI r) ∧ Below w.heap.size w w' := by
 refine Q4 (args := [.int .u8 a0]) 7 Tryz.func9 rfl (by kernel_rfl) (by kernel_rfl) fun a H => ?_
 unfold XY at G
 refine qg qd H (.v 2 (vI 0) <| .nil) [0] fun u1 a w' H => ?_
 refine qg qd H (.v 3 (.int .u8 a0) <|
 .v 4 (vI (qe a0)) <|
 .v 5 (vI (Int.tmod (qe a0) 4)) <|
 .v 6 (vI (qe (1 + (Int.tmod (qe a0) 4)))) <|
 .v 2 (vI (qe (1 + (Int.tmod (qe a0) 4)))) <| .nil) [2] fun u2 a w' H => ?_
 refine q7 ?_
 obtain rfl := sj G
 exact QG H _ (by kernel_rfl) (by kernel_rfl)
theorem qZ.calls (k0 : Nat) (a0 : Int) (r : List (List qa)) (w : World) (G : qZ k0 a0 = some r) :
  Calls Tryz.prog 27 #[vI a0] w fun e w' => ∃ g : Gh, e = .returned (slgd_S_TInterval g 0 r) ∧ Y7 (YT []) w w' ∧ YD w.heap.size (YT []) (JG w.heap.size []) [fun _ => ns_en_TIntervalg g 0 r] w' := by
 obtain ⟨fr, hfr, hBf⟩ := J4 w []
 refine Q4 (args := [vI a0]) 30 Tryz.func27 rfl (by kernel_rfl) (by kernel_rfl) fun a H => ?_
 unfold qZ at G
 refine qg qd H (.v 2 (.slice none 0 0) <| .nil) [0] fun u1 a w' H => ?_
 refine qg qd H (.cons [6, 30] (qH (fun b => .slice (some ⟨b, 0, none⟩) 0 0) (fun u2 => []) 22 6 30) <|
 .cons [3] (qp (fun u2 => .slice (some ⟨((u2 0).n 0), 0, none⟩) 0 0) 3) <| .nil) [0, 3, 30] fun u2 a w' H => ?_
 refine qs ?_
 refine qg qd H (.v 7 (vI a0) <|
 .v 8 (.bool (decide (a0 < 1))) <|
 .v 9 (.bool (decide (a0 < 1))) <|
 .cons [10] (Qc (fun u3 => vI a0) (fun u3 => ((decide (a0 < 1)) == false)) [true] 10) <|
 .cons [11] (Qc (fun u3 => .bool (decide (a0 > 6))) (fun u3 => ((decide (a0 < 1)) == false)) [false, true] 11) <|
 .cons [12] (Zt 9 11 (fun u3 => true) (fun u3 => true) (fun u3 => decide (a0 < 1)) (fun u3 => decide (a0 > 6)) 12) <| .nil) [0, 3, 12, 30] fun u3 a w' H => ?_
 refine Qr H ((decide (a0 < 1)) || (decide (a0 > 6))) (fun c23 => ?_) fun c23 => ?_
 ·rw [if_pos c23] at G
  refine qg qd H (.v 13 (.slice (some ⟨((u2 0).n 0), 0, none⟩) 0 0) <|
 .v 2 (.slice (some ⟨((u2 0).n 0), 0, none⟩) 0 0) <| .nil) [2, 30] fun u4 a w' H => ?_
  refine q7 ?_
  obtain rfl := sj G
  replace H := H.blk_row 30 ((u2 0).n 0) [] 22 1 0 (by kernel_rfl) (by kernel_rfl) (by decide)
  replace H := H.nestOpen (e := 22) (m := 0) (cap := 0) (p := (some ⟨((u2 0).n 0), 0, none⟩)) (H := ([] : List (Sl qa))) 30 48 2 qb (by kernel_rfl)
  obtain ⟨g, o0, n0, d0⟩ := ZQ QS (some ⟨((u2 0).n 0), 0, none⟩) 0 (show ([] : List (List qa)) = List.map Sl.l ([] : List (Sl qa)) from rfl)
  refine Xo H _ g _ _ _ fr [30] [] (.slice (some ⟨((u2 0).n 0), 0, none⟩) 0 0) [fun _ => qj (some ⟨((u2 0).n 0), 0, none⟩) 0 0 ([] : List (Sl qa))] (by simp only [slgd_S_TInterval, dlgd_S_TInterval, ns_en_TIntervalg, qf, qj, QU, o0, n0, d0, List.length_set, List.length_cons, List.length_nil, Nat.zero_add, Nat.reduceAdd]) (by simp only [slgd_S_TInterval, dlgd_S_TInterval, ns_en_TIntervalg, qf, qj, QU, o0, n0, d0, List.length_set, List.length_cons, List.length_nil, Nat.zero_add, Nat.reduceAdd]) hfr (.inl ⟨rfl, rfl⟩) (qx QZ qI) (by simp)
 ·rw [if_neg (nt c23)] at G
  refine qT ?_
  refine qs ?_
  obtain ⟨j6, hj6, G⟩ := qP G
  refine Qw (fun a w' => ∃ (p_j5 : Option Addr) (c_j5 np_j5 : Nat) (L_j5 : List (Sl qa)), np_j5 = L_j5.length ∧ j6 = L_j5.map Sl.l ∧ RL w 30 [(3, sS p_j5 np_j5 c_j5), (900092, qj p_j5 np_j5 c_j5 L_j5)] a w') ?_ ?_
  ·clear H; rintro a w' ⟨p_j5, c_j5, _, L_j5, rfl, h_j5, H⟩
   refine qg qd H (.v 29 (.slice p_j5 L_j5.length c_j5) <|
 .v 2 (.slice p_j5 L_j5.length c_j5) <| .nil) [2, 900092] fun u7 a w' H => ?_
   refine q7 ?_
   obtain rfl := sj G
   obtain ⟨g, o0, n0, d0⟩ := ZQ QS p_j5 c_j5 h_j5
   refine Xo H _ g _ _ _ fr [900092] [] (.slice p_j5 L_j5.length c_j5) [fun _ => qf p_j5 c_j5 L_j5] (by simp only [slgd_S_TInterval, dlgd_S_TInterval, ns_en_TIntervalg, qf, qj, QU, o0, n0, d0]) (by simp only [slgd_S_TInterval, dlgd_S_TInterval, ns_en_TIntervalg, qf, qj, QU, o0, n0, d0]) hfr (.inl ⟨rfl, rfl⟩) (qx QZ qI) (by simp)
  ·clear G; replace G := hj6; clear hj6
   refine qg qd H (.v 4 (vI 0) <| .nil) [0, 3, 4, 30] fun u8 a w' H => ?_
   refine qA ?_
   replace H := H.blk_row 30 ((u2 0).n 0) [] 22 1 0 (by kernel_rfl) (by kernel_rfl) (by decide)
   replace H := H.nestOpen (e := 22) (m := 0) (cap := 0) (p := (some ⟨((u2 0).n 0), 0, none⟩)) (H := ([] : List (Sl qa))) 30 48 2 qb (by kernel_rfl)
   replace H := H.move (K := qj (some ⟨((u2 0).n 0), 0, none⟩) 0 0 ([] : List (Sl qa))) 30 900094 (by kernel_rfl) (by intro _ _ h; cases h)
   refine Qv (fun m a w' => ∃ x9 : List (List qa), ∃ x10 : Int, qZ.l11 k0 a0 m x9 x10 = some j6 ∧ ∃ (p_x9 : Option Addr) (c_x9 np_x9 : Nat) (L_x9 : List (Sl qa)), np_x9 = L_x9.length ∧ x9 = L_x9.map Sl.l ∧ RL w 30 [(0, sI a0), (3, sS p_x9 np_x9 c_x9), (4, sI x10), (900094, qj p_x9 np_x9 c_x9 L_x9)] a w') k0 ⟨_, _, G, (some ⟨((u2 0).n 0), 0, none⟩), 0, 0, ([] : List (Sl qa)), rfl, rfl, H.toM _⟩ ?_
   clear G H
   rintro (_ | k) a w' ⟨x9, x10, G, p_x9, c_x9, _, L_x9, rfl, h_x9, H⟩
   ·exact absurd G (by unfold qZ.l11; exact fun h => by cases h)
   ·unfold qZ.l11 at G
    refine qs ?_
    refine qg qd H (.v 14 (vI x10) <|
 .v 15 (vI a0) <|
 .v 16 (.bool (decide (x10 < a0))) <| .nil) [0, 3, 4, 16, 900094] fun u12 a w' H => ?_
    refine Qr H (decide (x10 < a0)) (fun c22 => ?_) fun c22 => ?_
    ·rw [if_pos c22] at G
     refine qT ?_
     refine qs ?_
     refine qA ?_
     refine qs ?_
     replace G := gd G; obtain ⟨b14, G⟩ := G
     refine qN qd H (.v 19 (vI a0) <|
 .cons [20, 31] (Zl [] (fun u13 => []) 48 2 (List.replicate a0.toNat (⟨0, 0⟩ : qa)).length ((List.replicate a0.toNat (⟨0, 0⟩ : qa)).flatMap qb) 20 31 (fun _ => .none) (fun u13 w hF => YG (t := 22) (k := .i64) (m := a0) (en := qb) (z := (⟨0, 0⟩ : qa)) qh Jd rfl b14 (by kernel_rfl)) (fun _ => .inl rfl)) <|
 .cons [5] (qp (fun u13 => .slice ((u13 1).o 0) ((List.replicate a0.toNat (⟨0, 0⟩ : qa)).length) ((u13 1).n 0)) 5) <| .nil) [0, 3, 4, 5, 31, 900094] fun u13 a w' H => ?_
     refine qs ?_
     obtain ⟨t16, ht16, G⟩ := qP G
     replace G := gd G; obtain ⟨b17, G⟩ := G
     obtain ⟨t18, ht18, G⟩ := qP G
     refine qN qd H (.v 21 (.slice ((u13 1).o 0) ((List.replicate a0.toNat (⟨0, 0⟩ : qa)).length) ((u13 1).n 0)) <|
 .v 22 (vI x10) <|
 .cons [23] (qo 29 _ _ 23 [] (fun u15 w _ => QR.calls 65536  t16 w  ht16)) <|
 .cons [24] (qy 31 (QU 48 2 ((u13 1).o 0) ((u13 1).n 0) (List.replicate a0.toNat (⟨0, 0⟩ : qa)) qb) (.pointer (some ⟨XB ((u13 1).o 0), XC ((u13 1).o 0) + x10.toNat * 2, none⟩)) 24 fun _ w h => Z6 (t := 22) (k := .i64) (i := x10) (p := ((u13 1).o 0)) (n := (List.replicate a0.toNat (⟨0, 0⟩ : qa)).length) (cap := ((u13 1).n 0)) (x := (List.replicate a0.toNat (⟨0, 0⟩ : qa))) (en := qb) (qY (QN h)).2 qh rfl b17 (by kernel_rfl)) <|
 .cons [31, 31] (Xs [] [] (fun u15 => []) 31 (fun u15 => QU 48 2 ((u13 1).o 0) ((u13 1).n 0) (List.replicate a0.toNat (⟨0, 0⟩ : qa)) qb) none (fun u15 g => .nilFunc) (fun u15 g => Yo 48 2 ((u13 1).o 0) ((List.replicate a0.toNat (⟨0, 0⟩ : qa)).length) ((u13 1).n 0) (((List.replicate a0.toNat (⟨0, 0⟩ : qa)).set x10.toNat t16).flatMap qb)) (fun u15 w hF hK => Z8 (XP (QN hK) qh (y := t16) (vs := [vI t16.Lo, vI t16.Hi]) ht18 0 (by simp) (by simp) rfl (by kernel_rfl)))) <| .nil) [0, 3, 4, 5, 31, 900094] fun u15 a w' H => ?_
     rw [show (List.replicate a0.toNat (⟨0, 0⟩ : qa)).length = ((List.replicate a0.toNat (⟨0, 0⟩ : qa)).set x10.toNat t16).length from by simp only [List.length_set]] at H
     replace G := gd G; obtain ⟨b20, G⟩ := G
     refine qN qd H (.v 25 (.slice p_x9 L_x9.length c_x9) <|
 .v 26 (.slice ((u13 1).o 0) (((List.replicate a0.toNat (⟨0, 0⟩ : qa)).set x10.toNat t16).length) ((u13 1).n 0)) <|
 .cons [27, 32] (qH (fun b => .slice (some ⟨b, 0, none⟩) 1 1) (fun u19 => [.slice ((u13 1).o 0) (((List.replicate a0.toNat (⟨0, 0⟩ : qa)).set x10.toNat t16).length) ((u13 1).n 0)]) 22 27 32) <|
 .cons [28, 900094, 31, 900094] (Jg [2] [32] (fun u19 => [.blk ((u19 2).n 0) [.slice ((u13 1).o 0) (((List.replicate a0.toNat (⟨0, 0⟩ : qa)).set x10.toNat t16).length) ((u13 1).n 0)] 22]) 900094 31 (fun u19 => qf p_x9 c_x9 L_x9) (fun u19 => QU 48 2 ((u13 1).o 0) ((u13 1).n 0) ((List.replicate a0.toNat (⟨0, 0⟩ : qa)).set x10.toNat t16) qb) (some 28) (fun u19 g => .slice (g.o 0) (L_x9 ++ [(⟨((u13 1).o 0), ((u13 1).n 0), ((List.replicate a0.toNat (⟨0, 0⟩ : qa)).set x10.toNat t16)⟩ : Sl qa)]).length (g.n 0)) (fun u19 g => qf (g.o 0) (g.n 0) (L_x9 ++ [(⟨((u13 1).o 0), ((u13 1).n 0), ((List.replicate a0.toNat (⟨0, 0⟩ : qa)).set x10.toNat t16)⟩ : Sl qa)])) (fun u19 w hF hK hK2 hd => Jz hK hK2 hd qh (by decide) (fun hn h => Q8 (t := 25) (ty := 25) (en := ql) qk J2 h hF.1 (news := [(⟨((u13 1).o 0), ((u13 1).n 0), ((List.replicate a0.toNat (⟨0, 0⟩ : qa)).set x10.toNat t16)⟩ : Sl qa)]) rfl (by simp) (by kernel_rfl) (by rw [← qD h_x9]; exact b20))) (hloc := fun u u' h => ⟨by first | rfl | simp only [h 2 (by decide)], by first | rfl | simp only [h 2 (by decide)], by first | rfl | simp only [h 2 (by decide)], by first | rfl | simp only [h 2 (by decide)], by first | rfl | simp only [h 2 (by decide)]⟩)) <|
 .cons [3] (qp (fun u19 => .slice ((u19 3).o 0) ((L_x9 ++ [(⟨((u13 1).o 0), ((u13 1).n 0), ((List.replicate a0.toNat (⟨0, 0⟩ : qa)).set x10.toNat t16)⟩ : Sl qa)]).length) ((u19 3).n 0)) 3) <| .nil) [0, 3, 4, 900094] fun u19 a w' H => ?_
     refine qN qd H (.v 17 (vI x10) <|
 .v 18 (vI (qe (x10 + 1))) <|
 .v 4 (vI (qe (x10 + 1))) <| .nil) [0, 3, 4, 900094] fun u21 a w' H => ?_
     exact ⟨k, Nat.lt_succ_self k, _, _, G, ((u19 3).o 0), ((u19 3).n 0), (L_x9 ++ [(⟨((u13 1).o 0), ((u13 1).n 0), ((List.replicate a0.toNat (⟨0, 0⟩ : qa)).set x10.toNat t16)⟩ : Sl qa)]).length, (L_x9 ++ [(⟨((u13 1).o 0), ((u13 1).n 0), ((List.replicate a0.toNat (⟨0, 0⟩ : qa)).set x10.toNat t16)⟩ : Sl qa)]), rfl, (ZX h_x9 (⟨((u13 1).o 0), ((u13 1).n 0), ((List.replicate a0.toNat (⟨0, 0⟩ : qa)).set x10.toNat t16)⟩ : Sl qa)), H.toM _⟩
    ·rw [if_neg (nt c22)] at G
     refine QO rfl ?_
     obtain rfl := sj G
     replace H := H.move (K := qf p_x9 c_x9 L_x9) 900094 900092 (by kernel_rfl) (by intro _ _ h; cases h)
     exact ⟨p_x9, c_x9, L_x9.length, L_x9, rfl, h_x9, H.toM _⟩
theorem YN.calls (a0 : qa) (r : qa) (w : World) (G : YN a0 = some r) :
  Calls Tryz.prog 96 #[.agg #[vI a0.Lo, vI a0.Hi]] w fun e w' => e = .returned (.agg #[vI r.Lo, vI r.Hi]) ∧ Below w.heap.size w w' := by
 refine Q4 (args := [.agg #[vI a0.Lo, vI a0.Hi]]) 18 Tryz.func96 rfl (by kernel_rfl) (by kernel_rfl) fun a H => ?_
 unfold YN at G
 refine qg qd H (.cons [1, 18] (qH (fun b => vP b 0) (fun u1 => [vI a0.Lo, vI a0.Hi]) 48 1 18) <|
 .cons [2, 19] (qH (fun b => vP b 0) (fun u1 => [vI 0, vI 0]) 48 2 19) <| .nil) [1, 2, 18, 19] fun u1 a w' H => ?_
 refine qg qd H (.v 5 (vP ((u1 0).n 0) 0) <|
 .cons [6] (qv (vI a0.Lo) 6 18 0 1 ((u1 0).n 0) [vI a0.Lo, vI a0.Hi] 48) <|
 .v 7 (vI (Int.tmod a0.Lo 16777216)) <|
 .v 8 (vP ((u1 0).n 0) 1) <|
 .cons [9] (qv (vI a0.Hi) 9 18 1 1 ((u1 0).n 0) [vI a0.Lo, vI a0.Hi] 48) <|
 .v 10 (vI (Int.tmod a0.Hi 16777216)) <|
 .v 3 (vI (Int.tmod a0.Lo 16777216)) <|
 .v 4 (vI (Int.tmod a0.Hi 16777216)) <| .nil) [2, 3, 4, 19] fun u2 a w' H => ?_
 refine qg qd H (.v 11 (vI (Int.tmod a0.Lo 16777216)) <|
 .v 12 (vI (Int.tmod a0.Hi 16777216)) <|
 .v 13 (vI (mn (Int.tmod a0.Lo 16777216) (Int.tmod a0.Hi 16777216))) <|
 .v 14 (vI (Int.tmod a0.Lo 16777216)) <|
 .v 15 (vI (Int.tmod a0.Hi 16777216)) <|
 .v 16 (vI (mx (Int.tmod a0.Lo 16777216) (Int.tmod a0.Hi 16777216))) <|
 .v 17 (.agg #[vI (mn (Int.tmod a0.Lo 16777216) (Int.tmod a0.Hi 16777216)), vI (mx (Int.tmod a0.Lo 16777216) (Int.tmod a0.Hi 16777216))]) <|
 .cons [19] (QV 19 0 ((u1 1).n 0) [vI 0, vI 0] [vI (mn (Int.tmod a0.Lo 16777216) (Int.tmod a0.Hi 16777216)), vI (mx (Int.tmod a0.Lo 16777216) (Int.tmod a0.Hi 16777216))] 48 [vI (mn (Int.tmod a0.Lo 16777216) (Int.tmod a0.Hi 16777216)), vI (mx (Int.tmod a0.Lo 16777216) (Int.tmod a0.Hi 16777216))]) <| .nil) [2, 19] fun u3 a w' H => ?_
 refine q7 ?_
 obtain rfl := sj G
 exact Xe H _ 19 ((u1 1).n 0) [vI (mn (Int.tmod a0.Lo 16777216) (Int.tmod a0.Hi 16777216)), vI (mx (Int.tmod a0.Lo 16777216) (Int.tmod a0.Hi 16777216))] 48 0 2 (by kernel_rfl) (by kernel_rfl) (by kernel_rfl) (by kernel_rfl)
theorem X3.calls (a0 : qa) (r : qa) (w : World) (G : X3 a0 = some r) :
  Calls Tryz.prog 72 #[.agg #[vI a0.Lo, vI a0.Hi]] w fun e w' => e = .returned (.agg #[vI r.Lo, vI r.Hi]) ∧ Below w.heap.size w w' := by
 refine Q4 (args := [.agg #[vI a0.Lo, vI a0.Hi]]) 13 Tryz.func72 rfl (by kernel_rfl) (by kernel_rfl) fun a H => ?_
 unfold X3 at G
 refine qg qd H (.cons [1, 13] (qH (fun b => vP b 0) (fun u1 => [vI a0.Lo, vI a0.Hi]) 48 1 13) <|
 .cons [2, 14] (qH (fun b => vP b 0) (fun u1 => [vI 0, vI 0]) 48 2 14) <| .nil) [1, 2, 13, 14] fun u1 a w' H => ?_
 refine qs ?_
 obtain ⟨t3, ht3, G⟩ := qP G
 refine qg qd H (.cons [3] (qv (.agg #[vI a0.Lo, vI a0.Hi]) 3 13 0 2 ((u1 0).n 0) [vI a0.Lo, vI a0.Hi] 48) <|
 .cons [4] (qo 33 _ _ 4 [] (fun u2 w _ => XU.calls a0  t3 w  ht3)) <| .nil) [1, 2, 4, 13, 14] fun u2 a w' H => ?_
 refine Qr H t3 (fun c11 => ?_) fun c11 => ?_
 ·rw [if_pos c11] at G
  refine qg qd H (.cons [5] (qv (.agg #[vI a0.Lo, vI a0.Hi]) 5 13 0 2 ((u1 0).n 0) [vI a0.Lo, vI a0.Hi] 48) <|
 .cons [14] (QV 14 0 ((u1 1).n 0) [vI 0, vI 0] [vI a0.Lo, vI a0.Hi] 48 [vI a0.Lo, vI a0.Hi]) <| .nil) [2, 14] fun u4 a w' H => ?_
  refine q7 ?_
  obtain rfl := sj G
  exact Xe H _ 14 ((u1 1).n 0) [vI a0.Lo, vI a0.Hi] 48 0 2 (by kernel_rfl) (by kernel_rfl) (by kernel_rfl) (by kernel_rfl)
 ·rw [if_neg (nt c11)] at G
  refine qT ?_
  refine qs ?_
  refine qg qd H (.v 6 (vP ((u1 0).n 0) 0) <|
 .cons [7] (qv (vI a0.Lo) 7 13 0 1 ((u1 0).n 0) [vI a0.Lo, vI a0.Hi] 48) <|
 .v 8 (vI (qbP .i64 a0.Lo 31)) <|
 .v 9 (.bool ((qbP .i64 a0.Lo 31) == 7)) <| .nil) [1, 2, 9, 13, 14] fun u5 a w' H => ?_
  refine Qr H ((qbP .i64 a0.Lo 31) == 7) (fun c10 => ?_) fun c10 => ?_
  ·rw [if_pos c10] at G
   obtain ⟨t7, ht7, G⟩ := qP G
   refine qg qd H (.cons [10] (qo 87 _ _ 10 [] (fun u6 w _ => Xf.calls   t7 w  ht7)) <|
 .cons [14] (QV 14 0 ((u1 1).n 0) [vI 0, vI 0] [vI t7.Lo, vI t7.Hi] 48 [vI t7.Lo, vI t7.Hi]) <| .nil) [2, 14] fun u6 a w' H => ?_
   refine q7 ?_
   obtain rfl := sj G
   exact Xe H _ 14 ((u1 1).n 0) [vI t7.Lo, vI t7.Hi] 48 0 2 (by kernel_rfl) (by kernel_rfl) (by kernel_rfl) (by kernel_rfl)
  ·rw [if_neg (nt c10)] at G
   refine qT ?_
   obtain ⟨t9, ht9, G⟩ := qP G
   refine qg qd H (.cons [11] (qv (.agg #[vI a0.Lo, vI a0.Hi]) 11 13 0 2 ((u1 0).n 0) [vI a0.Lo, vI a0.Hi] 48) <|
 .cons [12] (qo 96 _ _ 12 [] (fun u8 w _ => YN.calls a0  t9 w  ht9)) <|
 .cons [14] (QV 14 0 ((u1 1).n 0) [vI 0, vI 0] [vI t9.Lo, vI t9.Hi] 48 [vI t9.Lo, vI t9.Hi]) <| .nil) [2, 14] fun u8 a w' H => ?_
   refine q7 ?_
   obtain rfl := sj G
   exact Xe H _ 14 ((u1 1).n 0) [vI t9.Lo, vI t9.Hi] 48 0 2 (by kernel_rfl) (by kernel_rfl) (by kernel_rfl) (by kernel_rfl)
theorem qV.calls (k0 : Nat) (a0 : List qa) (a1 : Int) (p_a0 : Option Addr) (c_a0 : Nat) (r : List (List qa)) (w : World) (hB : Yj [Qh qi 2 p_a0 c_a0 a0 qb] w) (G : qV k0 a0 a1 = some r) :
  Calls Tryz.prog 34 #[.slice p_a0 a0.length c_a0, vI a1] w fun e w' => ∃ g : Gh, e = .returned (slgd_S_TInterval g 0 r) ∧ Y7 (YT []) w w' ∧ YD w.heap.size (YT []) (JG w.heap.size []) [fun _ => ns_en_TIntervalg g 0 r] w' := by
 obtain ⟨fr, hfr, hBf⟩ := J4 w []
 refine QQ (args := [.slice p_a0 a0.length c_a0, vI a1]) 46 [(46, Qh qi 2 p_a0 c_a0 a0 qb)] (by
  intro x hx
  simp only [List.mem_cons, List.not_mem_nil, or_false] at hx
  rcases hx with rfl
  exact Ql (qq hB.1) (fun _ _ => trivial) (by decide) _) Tryz.func34 rfl (by kernel_rfl) (by kernel_rfl) fun a H => ?_
 unfold qV at G
 refine qg qd H (.v 4 (.slice none 0 0) <| .nil) [0, 1, 46] fun u1 a w' H => ?_
 obtain ⟨t3, ht3, G⟩ := qP G
 refine qg qd H (.v 8 (vI a1) <|
 .cons [9, 47] (Qo false fr [] [] (fun u2 => []) [] (fun u2 => []) 27 _ (fun u2 => []) _ _ _ [47] 9 (fun u2 w hB hF hM => qZ.calls k0 a1  t3 w  ht3) (fun u2 w hF => ⟨trivial, trivial⟩) (fun u2 g => (qx QZ qI)) (.inr (fun u2 g => (Qj trivial (fun K h => by cases h)))) (fun h => by cases h)) <|
 .cons [5] (qp (fun u2 => slgd_S_TInterval (u2 1) 0 t3) 5) <| .nil) [0, 1, 5, 46, 47] fun u2 a w' H => ?_
 refine qs ?_
 obtain ⟨j5, hj5, G⟩ := qP G
 refine Qw (fun a w' => ∃ (p_j4 : Option Addr) (c_j4 np_j4 : Nat) (L_j4 : List (Sl qa)), np_j4 = L_j4.length ∧ j5 = L_j4.map Sl.l ∧ RL w 46 [(5, sS p_j4 np_j4 c_j4), (900096, qj p_j4 np_j4 c_j4 L_j4)] a w') ?_ ?_
 ·clear H; rintro a w' ⟨p_j4, c_j4, _, L_j4, rfl, h_j4, H⟩
  refine qg qd H (.v 45 (.slice p_j4 L_j4.length c_j4) <|
 .v 4 (.slice p_j4 L_j4.length c_j4) <| .nil) [4, 900096] fun u6 a w' H => ?_
  refine q7 ?_
  obtain rfl := sj G
  obtain ⟨g, o0, n0, d0⟩ := ZQ QS p_j4 c_j4 h_j4
  refine Xo H _ g _ _ _ fr [900096] [] (.slice p_j4 L_j4.length c_j4) [fun _ => qf p_j4 c_j4 L_j4] (by simp only [slgd_S_TInterval, dlgd_S_TInterval, ns_en_TIntervalg, qf, qj, QU, o0, n0, d0]) (by simp only [slgd_S_TInterval, dlgd_S_TInterval, ns_en_TIntervalg, qf, qj, QU, o0, n0, d0]) hfr (.inl ⟨rfl, rfl⟩) (qx QZ qI) (by simp)
 ·clear G; replace G := hj5; clear hj5
  refine qg qd H (.v 6 (vI 0) <| .nil) [0, 1, 5, 6, 46, 47] fun u7 a w' H => ?_
  refine qA ?_
  replace H := H.move (K := ns_en_TIntervalg (u2 1) 0 t3) 47 900098 (by kernel_rfl) (by intro _ _ h; cases h)
  refine Qv (fun m a w' => ∃ x8 : List (List qa), ∃ x9 : Int, qV.l10 k0 a0 a1 t3 m x8 x9 = some j5 ∧ ∃ (p_x8 : Option Addr) (c_x8 np_x8 : Nat) (L_x8 : List (Sl qa)), np_x8 = L_x8.length ∧ x8 = L_x8.map Sl.l ∧ RL w 46 [(0, sS p_a0 a0.length c_a0), (1, sI a1), (5, sS p_x8 np_x8 c_x8), (6, sI x9), (46, Qh qi 2 p_a0 c_a0 a0 qb), (900098, qj p_x8 np_x8 c_x8 L_x8)] a w') k0 ⟨_, _, G, ((u2 1).o 0), ((u2 1).n 0), (dlgd_S_TInterval (u2 1) 0 t3).length, (dlgd_S_TInterval (u2 1) 0 t3), rfl, (Xc qC (u2 1) 0 t3), H.toM _⟩ ?_
  clear G H
  rintro (_ | k) a w' ⟨x8, x9, G, p_x8, c_x8, _, L_x8, rfl, h_x8, H⟩
  ·exact absurd G (by unfold qV.l10; exact fun h => by cases h)
  ·unfold qV.l10 at G
   refine qs ?_
   refine qg qd H (.v 10 (vI x9) <|
 .v 11 (vI a1) <|
 .v 12 (.bool (decide (x9 < a1))) <| .nil) [0, 1, 5, 6, 12, 46, 900098] fun u11 a w' H => ?_
   refine Qr H (decide (x9 < a1)) (fun c33 => ?_) fun c33 => ?_
   ·rw [if_pos c33] at G
    refine qT ?_
    refine qs ?_
    obtain ⟨j13, hj13, G⟩ := qP G
    refine Qw (fun a w' => ∃ (p_j12 : Option Addr) (c_j12 np_j12 : Nat) (L_j12 : List (Sl qa)), np_j12 = L_j12.length ∧ j13 = L_j12.map Sl.l ∧ RL w 46 [(0, sS p_a0 a0.length c_a0), (1, sI a1), (5, sS p_j12 np_j12 c_j12), (6, sI x9), (46, Qh qi 2 p_a0 c_a0 a0 qb), (900100, qj p_j12 np_j12 c_j12 L_j12)] a w') ?_ ?_
    ·clear H; rintro a w' ⟨p_j12, c_j12, _, L_j12, rfl, h_j12, H⟩
     refine qN qd H (.v 13 (vI x9) <|
 .v 14 (vI (qe (x9 + 1))) <|
 .v 6 (vI (qe (x9 + 1))) <| .nil) [0, 1, 5, 6, 46, 900100] fun u14 a w' H => ?_
     replace H := H.move (K := qf p_j12 c_j12 L_j12) 900100 900098 (by kernel_rfl) (by intro _ _ h; cases h)
     exact ⟨k, Nat.lt_succ_self k, _, _, G, p_j12, c_j12, L_j12.length, L_j12, rfl, h_j12, H.toM _⟩
    ·clear G; replace G := hj13; clear hj13
     refine qA ?_
     refine qg qd H (.v 7 (vI 0) <| .nil) [0, 1, 5, 6, 7, 46, 900098] fun u15 a w' H => ?_
     refine qA ?_
     replace H := H.move (K := qf p_x8 c_x8 L_x8) 900098 900102 (by kernel_rfl) (by intro _ _ h; cases h)
     refine Qv (fun m a w' => ∃ x16 : List (List qa), ∃ x17 : Int, qV.l18 k0 a0 a1 t3 x8 x9 m x16 x17 = some j13 ∧ ∃ (p_x16 : Option Addr) (c_x16 np_x16 : Nat) (L_x16 : List (Sl qa)), np_x16 = L_x16.length ∧ x16 = L_x16.map Sl.l ∧ RL w 46 [(0, sS p_a0 a0.length c_a0), (1, sI a1), (5, sS p_x16 np_x16 c_x16), (6, sI x9), (7, sI x17), (46, Qh qi 2 p_a0 c_a0 a0 qb), (900102, qj p_x16 np_x16 c_x16 L_x16)] a w') k0 ⟨_, _, G, p_x8, c_x8, L_x8.length, L_x8, rfl, h_x8, H.toM _⟩ ?_
     clear G H
     rintro (_ | k) a w' ⟨x16, x17, G, p_x16, c_x16, _, L_x16, rfl, h_x16, H⟩
     ·exact absurd G (by unfold qV.l18; exact fun h => by cases h)
     ·unfold qV.l18 at G
      refine qs ?_
      refine qg qd H (.v 15 (vI x17) <|
 .v 16 (vI a1) <|
 .v 17 (.bool (decide (x17 < a1))) <|
 .v 18 (.bool (decide (x17 < a1))) <|
 .cons [19] (Qc (fun u19 => vI x9) (fun u19 => ((decide (x17 < a1)) == true)) [true] 19) <|
 .cons [20] (Qc (fun u19 => vI a1) (fun u19 => ((decide (x17 < a1)) == true)) [true] 20) <|
 .cons [21] (Qc (fun u19 => vI (qe (x9 * a1))) (fun u19 => ((decide (x17 < a1)) == true)) [false, false] 21) <|
 .cons [22] (Qc (fun u19 => vI x17) (fun u19 => ((decide (x17 < a1)) == true)) [true] 22) <|
 .cons [23] (Qc (fun u19 => vI (qe ((qe (x9 * a1)) + x17))) (fun u19 => ((decide (x17 < a1)) == true)) [false, false] 23) <|
 .cons [24] (Qc (fun u19 => .slice p_a0 a0.length c_a0) (fun u19 => ((decide (x17 < a1)) == true)) [true] 24) <|
 .cons [25] (Qc (fun u19 => vI (a0.length : Int)) (fun u19 => ((decide (x17 < a1)) == true)) [false] 25) <|
 .cons [26] (Qc (fun u19 => .bool (decide ((qe ((qe (x9 * a1)) + x17)) < (a0.length : Int)))) (fun u19 => ((decide (x17 < a1)) == true)) [false, false] 26) <|
 .cons [27] (Y9 18 26 (fun u19 => true) (fun u19 => true) (fun u19 => decide (x17 < a1)) (fun u19 => decide ((qe ((qe (x9 * a1)) + x17)) < (a0.length : Int))) 27) <| .nil) [0, 1, 5, 6, 7, 19, 20, 21, 22, 23, 24, 25, 26, 27, 46, 900102] fun u19 a w' H => ?_
      refine Qr H ((decide (x17 < a1)) && (decide ((qe ((qe (x9 * a1)) + x17)) < (a0.length : Int)))) (fun c32 => ?_) fun c32 => ?_
      ·rw [if_pos c32] at G
       refine qT ?_
       refine qs ?_
       refine qA ?_
       replace G := gd G; obtain ⟨b21, G⟩ := G
       obtain ⟨t22, ht22, G⟩ := qP G
       obtain ⟨p_t22, c_t22, y_t22⟩ := QE h_x16 ht22
       have P23 := XT (en := ql) (l := L_x16) (qQ (H.at (K := qf p_x16 c_x16 L_x16) 900102 (by kernel_rfl))).row.2 qk
       replace G := gd G; obtain ⟨b24, G⟩ := G
       obtain ⟨t25, ht25, G⟩ := qP G
       have P26 := XT (en := qb) (l := a0) (qq (H.at (K := Qh qi 2 p_a0 c_a0 a0 qb) 46 (by kernel_rfl))).2 qh
       obtain ⟨t27, ht27, G⟩ := qP G
       replace G := gd G; obtain ⟨b28, G⟩ := G
       obtain ⟨t29, ht29, G⟩ := qP G
       have P30 := XT (en := qb) (l := t22) ((qQ (H.at (K := qf p_x16 c_x16 L_x16) 900102 (by kernel_rfl))).one y_t22).2 qh
       refine qN qd H (.v 30 (.slice p_x16 L_x16.length c_x16) <|
 .v 31 (vI x9) <|
 .cons [32] (qp (fun u20 => .pointer (some ⟨XB p_x16, XC p_x16 + x9.toNat * 1, none⟩)) 32 (hv := fun _ _ => QH (t := 25) (k := .i64) (i := x9) (p := p_x16) (n := L_x16.length) (cap := c_x16) (x := x16) P23 (qD h_x16) b21 (by kernel_rfl))) <|
 .cons [33] (qy 900102 (qf p_x16 c_x16 L_x16) (.slice p_t22 t22.length c_t22) 33 fun _ w h => Ya ql (qQ h).row.2 qk y_t22 0 1 [.slice p_t22 t22.length c_t22]) <|
 .v 34 (vI x17) <|
 .v 35 (.slice p_a0 a0.length c_a0) <|
 .v 36 (vI x9) <|
 .v 37 (vI a1) <|
 .v 38 (vI (qe (x9 * a1))) <|
 .v 39 (vI x17) <|
 .v 40 (vI (qe ((qe (x9 * a1)) + x17))) <|
 .cons [41] (qp (fun u20 => .pointer (some ⟨XB p_a0, XC p_a0 + ((qe ((qe (x9 * a1)) + x17)).toNat) * 2, none⟩)) 41 (hv := fun _ _ => QH (t := 22) (k := .i64) (i := qe ((qe (x9 * a1)) + x17)) (p := p_a0) (n := a0.length) (cap := c_a0) (x := a0) P26 rfl b24 (by kernel_rfl))) <|
 .cons [42] (qy 46 (Qh qi 2 p_a0 c_a0 a0 qb) (.agg #[vI t25.Lo, vI t25.Hi]) 42 fun _ w h => Ya qb (qq h).2 qh ht25 0 2 [vI t25.Lo, vI t25.Hi]) <|
 .cons [43] (qo 72 _ _ 43 [] (fun u20 w _ => X3.calls t25  t27 w  ht27)) <|
 .cons [44] (qp (fun u20 => .pointer (some ⟨XB p_t22, XC p_t22 + x17.toNat * 2, none⟩)) 44 (hv := fun _ _ => QH (t := 22) (k := .i64) (i := x17) (p := p_t22) (n := t22.length) (cap := c_t22) (x := t22) P30 rfl b28 (by kernel_rfl))) <|
 .cons [900102, 900102] (Xs [] [] (fun u20 => []) 900102 (fun u20 => qf p_x16 c_x16 L_x16) none (fun u20 g => .nilFunc) (fun u20 g => qj p_x16 L_x16.length c_x16 (L_x16.set x9.toNat ⟨p_t22, c_t22, (t22.set x17.toNat t27)⟩)) (fun u20 w hF hK => qd3 hK y_t22 (j := x17.toNat) (y := t27) (fun h => XP h qh (vs := [vI t27.Lo, vI t27.Hi]) ht29 0 (by simp) (by simp) rfl (by kernel_rfl)))) <| .nil) [0, 1, 5, 6, 7, 19, 20, 21, 22, 23, 24, 25, 26, 46, 900102] fun u20 a w' H => ?_
       refine qN qd H (.v 28 (vI x17) <|
 .v 29 (vI (qe (x17 + 1))) <|
 .v 7 (vI (qe (x17 + 1))) <| .nil) [0, 1, 5, 6, 7, 19, 20, 21, 22, 23, 24, 25, 26, 46, 900102] fun u31 a w' H => ?_
       exact ⟨k, Nat.lt_succ_self k, _, _, G, p_x16, c_x16, L_x16.length, (L_x16.set x9.toNat ⟨p_t22, c_t22, (t22.set x17.toNat t27)⟩), by simp, (map_set h_x16 x9.toNat (⟨p_t22, c_t22, (t22.set x17.toNat t27)⟩ : Sl qa)), H.toM _⟩
      ·rw [if_neg (nt c32)] at G
       refine QO rfl ?_
       obtain rfl := sj G
       replace H := H.move (K := qf p_x16 c_x16 L_x16) 900102 900100 (by kernel_rfl) (by intro _ _ h; cases h)
       exact ⟨p_x16, c_x16, L_x16.length, L_x16, rfl, h_x16, H.toM _⟩
   ·rw [if_neg (nt c33)] at G
    refine QO rfl ?_
    obtain rfl := sj G
    replace H := H.move (K := qf p_x8 c_x8 L_x8) 900098 900096 (by kernel_rfl) (by intro _ _ h; cases h)
    exact ⟨p_x8, c_x8, L_x8.length, L_x8, rfl, h_x8, H.toM _⟩
theorem QT.calls (k0 : Nat) (a0 : List qa) (a1 : Int) (p_a0 : Option Addr) (c_a0 : Nat) (r : List qa) (w : World) (hB : Yj [Qh qi 2 p_a0 c_a0 a0 qb] w) (G : QT k0 a0 a1 = some r) :
  Calls Tryz.prog 35 #[.slice p_a0 a0.length c_a0, vI a1] w fun e w' => ∃ g : Gh, e = .returned (.slice (g.o 0) r.length (g.n 0)) ∧ Y7 (YT []) w w' ∧ YD w.heap.size (YT []) (JG w.heap.size []) [fun _ => QU 48 2 (g.o 0) (g.n 0) r qb] w' := by
 obtain ⟨fr, hfr, hBf⟩ := J4 w []
 refine QQ (args := [.slice p_a0 a0.length c_a0, vI a1]) 29 [(29, Qh qi 2 p_a0 c_a0 a0 qb)] (by
  intro x hx
  simp only [List.mem_cons, List.not_mem_nil, or_false] at hx
  rcases hx with rfl
  exact Ql (qq hB.1) (fun _ _ => trivial) (by decide) _) Tryz.func35 rfl (by kernel_rfl) (by kernel_rfl) fun a H => ?_
 unfold QT at G
 refine qg qd H (.v 4 (.slice none 0 0) <| .nil) [0, 1, 29] fun u1 a w' H => ?_
 refine qg qd H (.cons [8, 30] (qH (fun b => .slice (some ⟨b, 0, none⟩) 0 0) (fun u2 => []) 48 8 30) <|
 .cons [5] (qp (fun u2 => .slice (some ⟨((u2 0).n 0), 0, none⟩) 0 0) 5) <| .nil) [0, 1, 5, 29, 30] fun u2 a w' H => ?_
 refine qs ?_
 obtain ⟨j4, hj4, G⟩ := qP G
 refine Qw (fun a w' => ∃ (p_j3 : Option Addr) (c_j3 np_j3 : Nat), np_j3 = j4.length ∧ RL w 29 [(5, sS p_j3 np_j3 c_j3), (900104, Yo 48 2 p_j3 np_j3 c_j3 (j4.flatMap qb))] a w') ?_ ?_
 ·clear H; rintro a w' ⟨p_j3, c_j3, _, rfl, H⟩
  refine qg qd H (.v 28 (.slice p_j3 j4.length c_j3) <|
 .v 4 (.slice p_j3 j4.length c_j3) <| .nil) [4, 900104] fun u5 a w' H => ?_
  refine q7 ?_
  obtain rfl := sj G
  obtain ⟨g, o0, n0⟩ := VI p_j3 c_j3
  refine Xo H _ g _ _ _ fr [900104] [] (.slice p_j3 j4.length c_j3) [fun _ => QU 48 2 p_j3 c_j3 j4 qb] (by simp only [QU, o0, n0]) (by simp only [QU, o0, n0]) hfr (.inl ⟨rfl, rfl⟩) (qx X2 qI) (by simp)
 ·clear G; replace G := hj4; clear hj4
  refine qg qd H (.v 6 (vI 0) <| .nil) [0, 1, 5, 6, 29, 30] fun u6 a w' H => ?_
  refine qA ?_
  replace H := H.blk_row 30 ((u2 0).n 0) [] 48 2 0 (by kernel_rfl) (by kernel_rfl) (by decide)
  replace H := H.move (K := Yo 48 2 (some ⟨((u2 0).n 0), 0, none⟩) 0 0 (([] : List qa).flatMap qb)) 30 900105 (by kernel_rfl) (by intro _ _ h; cases h)
  refine Qv (fun m a w' => ∃ x7 : List qa, ∃ x8 : Int, QT.l9 k0 a0 a1 m x7 x8 = some j4 ∧ ∃ (p_x7 : Option Addr) (c_x7 np_x7 : Nat), np_x7 = x7.length ∧ RL w 29 [(0, sS p_a0 a0.length c_a0), (1, sI a1), (5, sS p_x7 np_x7 c_x7), (6, sI x8), (29, Qh qi 2 p_a0 c_a0 a0 qb), (900105, Yo 48 2 p_x7 np_x7 c_x7 (x7.flatMap qb))] a w') k0 ⟨_, _, G, (some ⟨((u2 0).n 0), 0, none⟩), 0, 0, rfl, H.toM _⟩ ?_
  clear G H
  rintro (_ | k) a w' ⟨x7, x8, G, p_x7, c_x7, _, rfl, H⟩
  ·exact absurd G (by unfold QT.l9; exact fun h => by cases h)
  ·unfold QT.l9 at G
   refine qs ?_
   refine qg qd H (.v 9 (vI x8) <|
 .v 10 (vI a1) <|
 .v 11 (.bool (decide (x8 < a1))) <| .nil) [0, 1, 5, 6, 11, 29, 900105] fun u10 a w' H => ?_
   refine Qr H (decide (x8 < a1)) (fun c24 => ?_) fun c24 => ?_
   ·rw [if_pos c24] at G
    refine qT ?_
    refine qs ?_
    refine qA ?_
    refine qg qd H (.v 14 (.agg #[vI 0, vI 0]) <|
 .cons [7, 31] (qH (fun b => vP b 0) (fun u11 => [vI 0, vI 0]) 48 7 31) <|
 .cons [31] (XO (u' := fun u11 => [(31, .blk ((u11 1).n 0) [vI 0, vI 0] 48)]) (X1 31 0 (fun u11 => ((u11 1).n 0)) (fun u11 => [vI 0, vI 0]) (fun u11 => [vI 0, vI 0]) 48) (fun _ => by kernel_rfl)) <| .nil) [0, 1, 5, 6, 7, 29, 31, 900105] fun u11 a w' H => ?_
    refine qs ?_
    obtain ⟨j14, hj14, G⟩ := qP G
    refine Qw (fun a w' => RL w 29 [(0, sS p_a0 a0.length c_a0), (1, sI a1), (5, sS p_x7 x7.length c_x7), (6, sI x8), (7, (sP ((u11 1).n 0) 0)), (29, Qh qi 2 p_a0 c_a0 a0 qb), (31, .blk ((u11 1).n 0) [vI j14.1, vI j14.2] 48), (900105, QU 48 2 p_x7 c_x7 x7 qb)] a w') ?_ ?_
    ·clear H; intro a w' H
     replace G := gd G; obtain ⟨b16, G⟩ := G
     refine qN qd H (.v 24 (.slice p_x7 x7.length c_x7) <|
 .cons [25] (qv (.agg #[vI j14.1, vI j14.2]) 25 31 0 2 ((u11 1).n 0) [vI j14.1, vI j14.2] 48) <|
 .cons [26, 32] (qH (fun b => .slice (some ⟨b, 0, none⟩) 1 1) (fun u15 => [vI j14.1, vI j14.2]) 48 26 32) <|
 .cons [27, 900105, 900105] (Xs [2] [32] (fun u15 => [.blk ((u15 2).n 0) [vI j14.1, vI j14.2] 48]) 900105 (fun u15 => QU 48 2 p_x7 c_x7 x7 qb) (some 27) (fun u15 g => .slice (g.o 0) (x7 ++ [(⟨j14.1, j14.2⟩ : qa)]).length (g.n 0)) (fun u15 g => QU 48 2 (g.o 0) (g.n 0) (x7 ++ [(⟨j14.1, j14.2⟩ : qa)]) qb) (fun u15 w hF hK => ZB (Q8 (t := 22) (ty := 22) (en := qb) qh Jd (QN hK) hF.1 (news := [(⟨j14.1, j14.2⟩ : qa)]) rfl (by simp) (by kernel_rfl) b16)) (hloc := fun u u' h => ⟨by first | rfl | simp only [h 2 (by decide)], by first | rfl | simp only [h 2 (by decide)], by first | rfl | simp only [h 2 (by decide)], by first | rfl | simp only [h 2 (by decide)]⟩)) <|
 .cons [5] (qp (fun u15 => .slice ((u15 3).o 0) ((x7 ++ [(⟨j14.1, j14.2⟩ : qa)]).length) ((u15 3).n 0)) 5) <| .nil) [0, 1, 5, 6, 29, 900105] fun u15 a w' H => ?_
     refine qN qd H (.v 12 (vI x8) <|
 .v 13 (vI (qe (x8 + 1))) <|
 .v 6 (vI (qe (x8 + 1))) <| .nil) [0, 1, 5, 6, 29, 900105] fun u17 a w' H => ?_
     exact ⟨k, Nat.lt_succ_self k, _, _, G, ((u15 3).o 0), ((u15 3).n 0), (x7 ++ [(⟨j14.1, j14.2⟩ : qa)]).length, rfl, H.toM _⟩
    ·clear G; replace G := hj14; clear hj14
     refine qg qd H (.v 15 (vI x8) <|
 .v 16 (.slice p_a0 a0.length c_a0) <|
 .v 17 (vI (a0.length : Int)) <|
 .v 18 (.bool (decide (x8 < (a0.length : Int)))) <| .nil) [0, 1, 5, 6, 7, 18, 29, 31, 900105] fun u18 a w' H => ?_
     refine Qr H (decide (x8 < (a0.length : Int))) (fun c23 => ?_) fun c23 => ?_
     ·rw [if_pos c23] at G
      replace G := gd G; obtain ⟨b20, G⟩ := G
      obtain ⟨t21, ht21, G⟩ := qP G
      obtain ⟨t22, ht22, G⟩ := qP G
      refine qN qd H (.v 19 (.slice p_a0 a0.length c_a0) <|
 .v 20 (vI x8) <|
 .cons [21] (qy 29 (Qh qi 2 p_a0 c_a0 a0 qb) (.pointer (some ⟨XB p_a0, XC p_a0 + x8.toNat * 2, none⟩)) 21 fun _ w h => YQ 22 .i64 x8 p_a0 a0.length c_a0 a0 qb (qq h).2 qh rfl b20) <|
 .cons [22] (qy 29 (Qh qi 2 p_a0 c_a0 a0 qb) (.agg #[vI t21.Lo, vI t21.Hi]) 22 fun _ w h => Ya qb (qq h).2 qh ht21 0 2 [vI t21.Lo, vI t21.Hi]) <|
 .cons [23] (qo 72 _ _ 23 [] (fun u19 w _ => X3.calls t21  t22 w  ht22)) <|
 .cons [31] (QV 31 0 ((u11 1).n 0) [vI 0, vI 0] [vI t22.Lo, vI t22.Hi] 48 [vI t22.Lo, vI t22.Hi]) <| .nil) [0, 1, 5, 6, 7, 29, 31, 900105] fun u19 a w' H => ?_
      obtain rfl := sj G
      exact H.toM _
     ·rw [if_neg (nt c23)] at G
      refine qT ?_
      obtain rfl := sj G
      exact H.toM _
   ·rw [if_neg (nt c24)] at G
    refine QO rfl ?_
    obtain rfl := sj G
    replace H := H.move (K := QU 48 2 p_x7 c_x7 x7 qb) 900105 900104 (by kernel_rfl) (by intro _ _ h; cases h)
    exact ⟨p_x7, c_x7, x7.length, rfl, H.toM _⟩
theorem Yu.calls (k0 : Nat) (a0 : Zp) (p_a0_A : Option Addr) (c_a0_A : Nat) (p_a0_B : Option Addr) (c_a0_B : Nat) (p_a0_X : Option Addr) (c_a0_X : Nat) (r : List (List qa) × List (List qa) × List qa) (w : World) (hB : Yj [Qh qi 2 p_a0_A c_a0_A a0.A qb, Qh qi 2 p_a0_B c_a0_B a0.B qb, Qh qi 2 p_a0_X c_a0_X a0.X qb] w) (G : Yu k0 a0 = some r) :
  Calls Tryz.prog 7 #[.agg #[.slice p_a0_A a0.A.length c_a0_A, .slice p_a0_B a0.B.length c_a0_B, .slice p_a0_X a0.X.length c_a0_X, .int .u8 a0.N]] w fun e w' => ∃ g : Gh, e = .returned (.tuple #[slgd_S_TInterval g 0 r.1, slgd_S_TInterval g 1 r.2.1, .slice (g.o 2) r.2.2.length (g.n 2)]) ∧ Y7 (YT []) w w' ∧ YD w.heap.size (YT []) (JG w.heap.size []) [fun _ => ns_en_TIntervalg g 0 r.1, fun _ => ns_en_TIntervalg g 1 r.2.1, fun _ => QU 48 2 (g.o 2) (g.n 2) r.2.2 qb] w' := by
 obtain ⟨fr, hfr, hBf⟩ := J4 w []
 refine QQ (args := [.agg #[.slice p_a0_A a0.A.length c_a0_A, .slice p_a0_B a0.B.length c_a0_B, .slice p_a0_X a0.X.length c_a0_X, .int .u8 a0.N]]) 21 [(21, Qh qi 2 p_a0_A c_a0_A a0.A qb), (22, Qh qi 2 p_a0_B c_a0_B a0.B qb), (23, Qh qi 2 p_a0_X c_a0_X a0.X qb)] (by
  intro x hx
  simp only [List.mem_cons, List.not_mem_nil, or_false] at hx
  rcases hx with rfl | rfl | rfl
  ·exact Ql (qq hB.1) (fun _ _ => trivial) (by decide) _
  ·exact Ql (qq hB.2.1) (fun _ _ => trivial) (by decide) _
  ·exact Ql (qq hB.2.2.1) (fun _ _ => trivial) (by decide) _) Tryz.func7 rfl (by kernel_rfl) (by kernel_rfl) fun a H => ?_
 unfold Yu at G
 refine qg qd H (.cons [1, 24] (qH (fun b => vP b 0) (fun u1 => [.slice p_a0_A a0.A.length c_a0_A, .slice p_a0_B a0.B.length c_a0_B, .slice p_a0_X a0.X.length c_a0_X, .int .u8 a0.N]) 24 1 24) <|
 .v 2 (.slice none 0 0) <|
 .v 3 (.slice none 0 0) <|
 .v 4 (.slice none 0 0) <| .nil) [1, 21, 22, 23, 24] fun u1 a w' H => ?_
 obtain ⟨t3, ht3, G⟩ := qP G
 refine qg qd H (.v 6 (vP ((u1 0).n 0) 3) <|
 .cons [7] (qv (.int .u8 a0.N) 7 24 3 1 ((u1 0).n 0) [.slice p_a0_A a0.A.length c_a0_A, .slice p_a0_B a0.B.length c_a0_B, .slice p_a0_X a0.X.length c_a0_X, .int .u8 a0.N] 24) <|
 .cons [8] (qo 9 _ _ 8 [] (fun u2 w _ => XY.calls a0.N  t3 w  ht3)) <|
 .v 5 (vI t3) <| .nil) [1, 5, 21, 22, 23, 24] fun u2 a w' H => ?_
 refine qs ?_
 obtain ⟨t5, ht5, G⟩ := qP G
 obtain ⟨t6, ht6, G⟩ := qP G
 obtain ⟨t7, ht7, G⟩ := qP G
 refine WU qd H (.v 9 (vP ((u1 0).n 0) 0) <|
 .cons [10] (qv (.slice p_a0_A a0.A.length c_a0_A) 10 24 0 1 ((u1 0).n 0) [.slice p_a0_A a0.A.length c_a0_A, .slice p_a0_B a0.B.length c_a0_B, .slice p_a0_X a0.X.length c_a0_X, .int .u8 a0.N] 24) <|
 .v 11 (vI t3) <|
 .cons [12, 25] (Qo false fr [] [21] (fun u4 => [Qh qi 2 p_a0_A c_a0_A a0.A qb]) [] (fun u4 => []) 34 _ _ _ _ _ [25] 12 (fun u4 w hB hF hM => qV.calls k0 a0.A t3 p_a0_A c_a0_A t5 w  hB ht5) (fun u4 w hF => ⟨⟨QP (qq hF.1) (fun j h => ⟨_, (.head _), h⟩), trivial⟩, trivial⟩) (fun u4 g => (qx QZ qI)) (.inr (fun u4 g => (Qj trivial (fun K h => by cases h)))) (fun h => by cases h)) <|
 .v 13 (vP ((u1 0).n 0) 1) <|
 .cons [14] (qv (.slice p_a0_B a0.B.length c_a0_B) 14 24 1 1 ((u1 0).n 0) [.slice p_a0_A a0.A.length c_a0_A, .slice p_a0_B a0.B.length c_a0_B, .slice p_a0_X a0.X.length c_a0_X, .int .u8 a0.N] 24) <|
 .v 15 (vI t3) <|
 .cons [16, 26] (Qo false fr [] [22] (fun u4 => [Qh qi 2 p_a0_B c_a0_B a0.B qb]) [] (fun u4 => []) 34 _ _ _ _ _ [26] 16 (fun u4 w hB hF hM => qV.calls k0 a0.B t3 p_a0_B c_a0_B t6 w  hB ht6) (fun u4 w hF => ⟨⟨QP (qq hF.1) (fun j h => ⟨_, (.head _), h⟩), trivial⟩, trivial⟩) (fun u4 g => (qx QZ qI)) (.inr (fun u4 g => (Qj trivial (fun K h => by cases h)))) (fun h => by cases h)) <|
 .v 17 (vP ((u1 0).n 0) 2) <|
 .cons [18] (qv (.slice p_a0_X a0.X.length c_a0_X) 18 24 2 1 ((u1 0).n 0) [.slice p_a0_A a0.A.length c_a0_A, .slice p_a0_B a0.B.length c_a0_B, .slice p_a0_X a0.X.length c_a0_X, .int .u8 a0.N] 24) <|
 .v 19 (vI t3) <|
 .cons [20, 27] (Qo false fr [] [23] (fun u4 => [Qh qi 2 p_a0_X c_a0_X a0.X qb]) [] (fun u4 => []) 35 _ _ _ _ _ [27] 20 (fun u4 w hB hF hM => QT.calls k0 a0.X t3 p_a0_X c_a0_X t7 w  hB ht7) (fun u4 w hF => ⟨⟨QP (qq hF.1) (fun j h => ⟨_, (.head _), h⟩), trivial⟩, trivial⟩) (fun u4 g => (qx X2 qI)) (.inr (fun u4 g => (Qj trivial (fun K h => by cases h)))) (fun h => by cases h)) <|
 .cons [2] (qp (fun u4 => slgd_S_TInterval (u4 3) 0 t5) 2) <|
 .cons [3] (qp (fun u4 => slgd_S_TInterval (u4 7) 0 t6) 3) <|
 .cons [4] (qp (fun u4 => .slice ((u4 11).o 0) t7.length ((u4 11).n 0)) 4) <| .nil) (by kernel_rfl) fun u4 a w' H => ?_
 replace H := H.kp [2, 3, 4, 25, 26, 27]
 refine q7 ?_
 obtain rfl := sj G
 obtain ⟨g, o0, n0, d0, o1, n1, d1, o2, n2⟩ : ∃ g : Gh, g.o 0 = ((u4 3).o 0) ∧ g.n 0 = ((u4 3).n 0) ∧ g.dl Sl.l QS 0 t5 = (dlgd_S_TInterval (u4 3) 0 t5) ∧ g.o 1 = ((u4 7).o 0) ∧ g.n 1 = ((u4 7).n 0) ∧ g.dl Sl.l QS 1 t6 = (dlgd_S_TInterval (u4 7) 0 t6) ∧ g.o 2 = ((u4 11).o 0) ∧ g.n 2 = ((u4 11).n 0) := ⟨⟨fun i => [((u4 3).n 0), ((u4 7).n 0), ((u4 11).n 0)].getD i 0, fun i => [((u4 3).o 0), ((u4 7).o 0), ((u4 11).o 0)].getD i none, fun i => ([⟨List (Sl qa), (dlgd_S_TInterval (u4 3) 0 t5)⟩, ⟨List (Sl qa), (dlgd_S_TInterval (u4 7) 0 t6)⟩, ⟨Unit, ()⟩] : List ((T : Type) × T)).getD i ⟨Unit, ()⟩⟩, rfl, rfl, qen rfl (Xc qC (u4 3) 0 t5), rfl, rfl, qen rfl (Xc qC (u4 7) 0 t6), rfl, rfl⟩
 refine Xo H _ g _ _ _ fr [25, 26, 27] [] (.tuple #[slgd_S_TInterval (u4 3) 0 t5, slgd_S_TInterval (u4 7) 0 t6, .slice ((u4 11).o 0) t7.length ((u4 11).n 0)]) [fun _ => ns_en_TIntervalg (u4 3) 0 t5, fun _ => ns_en_TIntervalg (u4 7) 0 t6, fun _ => QU 48 2 ((u4 11).o 0) ((u4 11).n 0) t7 qb] (by simp only [slgd_S_TInterval, dlgd_S_TInterval, ns_en_TIntervalg, qf, qj, QU, o0, n0, d0, o1, n1, d1, o2, n2]) (by simp only [slgd_S_TInterval, dlgd_S_TInterval, ns_en_TIntervalg, qf, qj, QU, o0, n0, d0, o1, n1, d1, o2, n2]) hfr (.inl ⟨rfl, rfl⟩) (qx QZ (qx QZ (qx X2 qI))) (by simp)
theorem YP.calls (a0 : Int) (r : Int) (w : World) (G : YP a0 = some r) :
  Calls Tryz.prog 36 #[vI a0] w fun e w' => e = .returned (vI r) ∧ Below w.heap.size w w' := by
 refine Q4 (args := [vI a0]) 5 Tryz.func36 rfl (by kernel_rfl) (by kernel_rfl) fun a H => ?_
 unfold YP at G
 refine qg qd H (.v 2 (vI 0) <| .nil) [0] fun u1 a w' H => ?_
 refine qg qd H (.v 3 (vI a0) <|
 .v 4 (vI (Int.tmod a0 16777216)) <|
 .v 2 (vI (Int.tmod a0 16777216)) <| .nil) [2] fun u2 a w' H => ?_
 refine q7 ?_
 obtain rfl := sj G
 exact QG H _ (by kernel_rfl) (by kernel_rfl)
theorem qO.calls (k0 : Nat) (a0 : List Int) (a1 : Int) (p_a0 : Option Addr) (c_a0 : Nat) (r : List (List Int)) (w : World) (hB : Yj [Qh qi 1 p_a0 c_a0 a0 qB] w) (G : qO k0 a0 a1 = some r) :
  Calls Tryz.prog 8 #[.slice p_a0 a0.length c_a0, vI a1] w fun e w' => ∃ g : Gh, e = .returned (slgd_S_i64 g 0 r) ∧ Y7 (YT []) w w' ∧ YD w.heap.size (YT []) (JG w.heap.size []) [fun _ => ns_en_i64g g 0 r] w' := by
 obtain ⟨fr, hfr, hBf⟩ := J4 w []
 refine QQ (args := [.slice p_a0 a0.length c_a0, vI a1]) 49 [(49, Qh qi 1 p_a0 c_a0 a0 qB)] (by
  intro x hx
  simp only [List.mem_cons, List.not_mem_nil, or_false] at hx
  rcases hx with rfl
  exact Ql (qq hB.1) (fun _ _ => trivial) (by decide) _) Tryz.func8 rfl (by kernel_rfl) (by kernel_rfl) fun a H => ?_
 unfold qO at G
 refine qg qd H (.v 4 (.slice none 0 0) <| .nil) [0, 1, 49] fun u1 a w' H => ?_
 refine qg qd H (.cons [9, 50] (qH (fun b => .slice (some ⟨b, 0, none⟩) 0 0) (fun u2 => []) 26 9 50) <|
 .cons [5] (qp (fun u2 => .slice (some ⟨((u2 0).n 0), 0, none⟩) 0 0) 5) <| .nil) [0, 1, 5, 49, 50] fun u2 a w' H => ?_
 refine qs ?_
 obtain ⟨j4, hj4, G⟩ := qP G
 refine Qw (fun a w' => ∃ (p_j3 : Option Addr) (c_j3 np_j3 : Nat) (L_j3 : List (Sl Int)), np_j3 = L_j3.length ∧ j4 = L_j3.map Sl.l ∧ RL w 49 [(5, sS p_j3 np_j3 c_j3), (900106, Q9 p_j3 np_j3 c_j3 L_j3)] a w') ?_ ?_
 ·clear H; rintro a w' ⟨p_j3, c_j3, _, L_j3, rfl, h_j3, H⟩
  refine qg qd H (.v 48 (.slice p_j3 L_j3.length c_j3) <|
 .v 4 (.slice p_j3 L_j3.length c_j3) <| .nil) [4, 900106] fun u5 a w' H => ?_
  refine q7 ?_
  obtain rfl := sj G
  obtain ⟨g, o0, n0, d0⟩ := ZQ ZI p_j3 c_j3 h_j3
  refine Xo H _ g _ _ _ fr [900106] [] (.slice p_j3 L_j3.length c_j3) [fun _ => Qm p_j3 c_j3 L_j3] (by simp only [slgd_S_i64, dlgd_S_i64, ns_en_i64g, Qm, Q9, QU, o0, n0, d0]) (by simp only [slgd_S_i64, dlgd_S_i64, ns_en_i64g, Qm, Q9, QU, o0, n0, d0]) hfr (.inl ⟨rfl, rfl⟩) (qx QZ qI) (by simp)
 ·clear G; replace G := hj4; clear hj4
  refine qg qd H (.v 6 (vI 0) <| .nil) [0, 1, 5, 6, 49, 50] fun u6 a w' H => ?_
  refine qA ?_
  replace H := H.blk_row 50 ((u2 0).n 0) [] 26 1 0 (by kernel_rfl) (by kernel_rfl) (by decide)
  replace H := H.nestOpen (e := 26) (m := 0) (cap := 0) (p := (some ⟨((u2 0).n 0), 0, none⟩)) (H := ([] : List (Sl Int))) 50 2 1 qB (by kernel_rfl)
  replace H := H.move (K := Q9 (some ⟨((u2 0).n 0), 0, none⟩) 0 0 ([] : List (Sl Int))) 50 900108 (by kernel_rfl) (by intro _ _ h; cases h)
  refine Qv (fun m a w' => ∃ x7 : List (List Int), ∃ x8 : Int, qO.l9 k0 a0 a1 m x7 x8 = some j4 ∧ ∃ (p_x7 : Option Addr) (c_x7 np_x7 : Nat) (L_x7 : List (Sl Int)), np_x7 = L_x7.length ∧ x7 = L_x7.map Sl.l ∧ RL w 49 [(0, sS p_a0 a0.length c_a0), (1, sI a1), (5, sS p_x7 np_x7 c_x7), (6, sI x8), (49, Qh qi 1 p_a0 c_a0 a0 qB), (900108, Q9 p_x7 np_x7 c_x7 L_x7)] a w') k0 ⟨_, _, G, (some ⟨((u2 0).n 0), 0, none⟩), 0, 0, ([] : List (Sl Int)), rfl, rfl, H.toM _⟩ ?_
  clear G H
  rintro (_ | k) a w' ⟨x7, x8, G, p_x7, c_x7, _, L_x7, rfl, h_x7, H⟩
  ·exact absurd G (by unfold qO.l9; exact fun h => by cases h)
  ·unfold qO.l9 at G
   refine qs ?_
   refine qg qd H (.v 10 (vI x8) <|
 .v 11 (vI a1) <|
 .v 12 (.bool (decide (x8 < a1))) <| .nil) [0, 1, 5, 6, 12, 49, 900108] fun u10 a w' H => ?_
   refine Qr H (decide (x8 < a1)) (fun c33 => ?_) fun c33 => ?_
   ·rw [if_pos c33] at G
    refine qT ?_
    refine qs ?_
    obtain ⟨j12, hj12, G⟩ := qP G
    refine Qw (fun a w' => ∃ (p_j11 : Option Addr) (c_j11 np_j11 : Nat) (L_j11 : List (Sl Int)), np_j11 = L_j11.length ∧ j12 = L_j11.map Sl.l ∧ RL w 49 [(0, sS p_a0 a0.length c_a0), (1, sI a1), (5, sS p_j11 np_j11 c_j11), (6, sI x8), (49, Qh qi 1 p_a0 c_a0 a0 qB), (900110, Q9 p_j11 np_j11 c_j11 L_j11)] a w') ?_ ?_
    ·clear H; rintro a w' ⟨p_j11, c_j11, _, L_j11, rfl, h_j11, H⟩
     refine qN qd H (.v 13 (vI x8) <|
 .v 14 (vI (qe (x8 + 1))) <|
 .v 6 (vI (qe (x8 + 1))) <| .nil) [0, 1, 5, 6, 49, 900110] fun u13 a w' H => ?_
     replace H := H.move (K := Qm p_j11 c_j11 L_j11) 900110 900108 (by kernel_rfl) (by intro _ _ h; cases h)
     exact ⟨k, Nat.lt_succ_self k, _, _, G, p_j11, c_j11, L_j11.length, L_j11, rfl, h_j11, H.toM _⟩
    ·clear G; replace G := hj12; clear hj12
     refine qA ?_
     refine qs ?_
     replace G := gd G; obtain ⟨b15, G⟩ := G
     refine qN qd H (.v 15 (vI a1) <|
 .cons [16, 53] (Zl [] (fun u14 => []) 2 1 (List.replicate a1.toNat (0 : Int)).length ((List.replicate a1.toNat (0 : Int)).flatMap qB) 16 53 (fun _ => .none) (fun u14 w hF => YG (t := 26) (k := .i64) (m := a1) (en := qB) (z := (0 : Int)) q8 qco rfl b15 (by kernel_rfl)) (fun _ => .inl rfl)) <|
 .cons [7] (qp (fun u14 => .slice ((u14 1).o 0) ((List.replicate a1.toNat (0 : Int)).length) ((u14 1).n 0)) 7) <| .nil) [0, 1, 5, 6, 7, 49, 53, 900108] fun u14 a w' H => ?_
     refine qs ?_
     obtain ⟨j17, hj17, G⟩ := qP G
     refine Qw (fun a w' => ∃ (p_j16 : Option Addr) (c_j16 np_j16 : Nat), np_j16 = j17.length ∧ RL w 49 [(0, sS p_a0 a0.length c_a0), (1, sI a1), (5, sS p_x7 L_x7.length c_x7), (6, sI x8), (7, sS p_j16 np_j16 c_j16), (49, Qh qi 1 p_a0 c_a0 a0 qB), (900108, Qm p_x7 c_x7 L_x7), (900112, Yo 2 1 p_j16 np_j16 c_j16 (j17.flatMap qB))] a w') ?_ ?_
     ·clear H; rintro a w' ⟨p_j16, c_j16, _, rfl, H⟩
      replace G := gd G; obtain ⟨b19, G⟩ := G
      refine qN qd H (.v 44 (.slice p_x7 L_x7.length c_x7) <|
 .v 45 (.slice p_j16 j17.length c_j16) <|
 .cons [46, 54] (qH (fun b => .slice (some ⟨b, 0, none⟩) 1 1) (fun u18 => [.slice p_j16 j17.length c_j16]) 26 46 54) <|
 .cons [47, 900108, 900112, 900108] (Jg [2] [54] (fun u18 => [.blk ((u18 2).n 0) [.slice p_j16 j17.length c_j16] 26]) 900108 900112 (fun u18 => Qm p_x7 c_x7 L_x7) (fun u18 => QU 2 1 p_j16 c_j16 j17 qB) (some 47) (fun u18 g => .slice (g.o 0) (L_x7 ++ [(⟨p_j16, c_j16, j17⟩ : Sl Int)]).length (g.n 0)) (fun u18 g => Qm (g.o 0) (g.n 0) (L_x7 ++ [(⟨p_j16, c_j16, j17⟩ : Sl Int)])) (fun u18 w hF hK hK2 hd => Jz hK hK2 hd q8 (by decide) (fun hn h => Q8 (t := 31) (ty := 31) (en := ql) qk qaF h hF.1 (news := [(⟨p_j16, c_j16, j17⟩ : Sl Int)]) rfl (by simp) (by kernel_rfl) (by rw [← qD h_x7]; exact b19))) (hloc := fun u u' h => ⟨by first | rfl | simp only [h 2 (by decide)], by first | rfl | simp only [h 2 (by decide)], by first | rfl | simp only [h 2 (by decide)], by first | rfl | simp only [h 2 (by decide)], by first | rfl | simp only [h 2 (by decide)]⟩)) <|
 .cons [5] (qp (fun u18 => .slice ((u18 3).o 0) ((L_x7 ++ [(⟨p_j16, c_j16, j17⟩ : Sl Int)]).length) ((u18 3).n 0)) 5) <| .nil) [0, 1, 5, 6, 49, 900108] fun u18 a w' H => ?_
      obtain rfl := sj G
      replace H := H.move (K := Qm ((u18 3).o 0) ((u18 3).n 0) (L_x7 ++ [(⟨p_j16, c_j16, j17⟩ : Sl Int)])) 900108 900110 (by kernel_rfl) (by intro _ _ h; cases h)
      exact ⟨((u18 3).o 0), ((u18 3).n 0), (L_x7 ++ [(⟨p_j16, c_j16, j17⟩ : Sl Int)]).length, (L_x7 ++ [(⟨p_j16, c_j16, j17⟩ : Sl Int)]), rfl, (ZX h_x7 (⟨p_j16, c_j16, j17⟩ : Sl Int)), H.toM _⟩
     ·clear G; replace G := hj17; clear hj17
      refine qg qd H (.v 8 (vI 0) <| .nil) [0, 1, 5, 6, 7, 8, 49, 53, 900108] fun u20 a w' H => ?_
      refine qA ?_
      replace H := H.move (K := QU 2 1 ((u14 1).o 0) ((u14 1).n 0) (List.replicate a1.toNat (0 : Int)) qB) 53 900113 (by kernel_rfl) (by intro _ _ h; cases h)
      refine Qv (fun m a w' => ∃ x21 : List Int, ∃ x22 : Int, qO.l23 k0 a0 a1 x7 x8 m x21 x22 = some j17 ∧ ∃ (p_x21 : Option Addr) (c_x21 np_x21 : Nat), np_x21 = x21.length ∧ RL w 49 [(0, sS p_a0 a0.length c_a0), (1, sI a1), (5, sS p_x7 L_x7.length c_x7), (6, sI x8), (7, sS p_x21 np_x21 c_x21), (8, sI x22), (49, Qh qi 1 p_a0 c_a0 a0 qB), (900108, Qm p_x7 c_x7 L_x7), (900113, Yo 2 1 p_x21 np_x21 c_x21 (x21.flatMap qB))] a w') k0 ⟨_, _, G, ((u14 1).o 0), ((u14 1).n 0), (List.replicate a1.toNat (0 : Int)).length, rfl, H.toM _⟩ ?_
      clear G H
      rintro (_ | k) a w' ⟨x21, x22, G, p_x21, c_x21, _, rfl, H⟩
      ·exact absurd G (by unfold qO.l23; exact fun h => by cases h)
      ·unfold qO.l23 at G
       refine qs ?_
       refine qg qd H (.v 17 (vI x22) <|
 .v 18 (vI a1) <|
 .v 19 (.bool (decide (x22 < a1))) <|
 .v 20 (.bool (decide (x22 < a1))) <|
 .cons [21] (Qc (fun u24 => vI x8) (fun u24 => ((decide (x22 < a1)) == true)) [true] 21) <|
 .cons [22] (Qc (fun u24 => vI a1) (fun u24 => ((decide (x22 < a1)) == true)) [true] 22) <|
 .cons [23] (Qc (fun u24 => vI (qe (x8 * a1))) (fun u24 => ((decide (x22 < a1)) == true)) [false, false] 23) <|
 .cons [24] (Qc (fun u24 => vI x22) (fun u24 => ((decide (x22 < a1)) == true)) [true] 24) <|
 .cons [25] (Qc (fun u24 => vI (qe ((qe (x8 * a1)) + x22))) (fun u24 => ((decide (x22 < a1)) == true)) [false, false] 25) <|
 .cons [26] (Qc (fun u24 => .slice p_a0 a0.length c_a0) (fun u24 => ((decide (x22 < a1)) == true)) [true] 26) <|
 .cons [27] (Qc (fun u24 => vI (a0.length : Int)) (fun u24 => ((decide (x22 < a1)) == true)) [false] 27) <|
 .cons [28] (Qc (fun u24 => .bool (decide ((qe ((qe (x8 * a1)) + x22)) < (a0.length : Int)))) (fun u24 => ((decide (x22 < a1)) == true)) [false, false] 28) <|
 .cons [29] (Y9 20 28 (fun u24 => true) (fun u24 => true) (fun u24 => decide (x22 < a1)) (fun u24 => decide ((qe ((qe (x8 * a1)) + x22)) < (a0.length : Int))) 29) <| .nil) [0, 1, 5, 6, 7, 8, 21, 22, 23, 24, 25, 26, 27, 28, 29, 49, 900108, 900113] fun u24 a w' H => ?_
       refine Qr H ((decide (x22 < a1)) && (decide ((qe ((qe (x8 * a1)) + x22)) < (a0.length : Int)))) (fun c32 => ?_) fun c32 => ?_
       ·rw [if_pos c32] at G
        refine qT ?_
        refine qs ?_
        refine qA ?_
        replace G := gd G; obtain ⟨b26, G⟩ := G
        obtain ⟨t27, ht27, G⟩ := qP G
        obtain ⟨t28, ht28, G⟩ := qP G
        replace G := gd G; obtain ⟨b29, G⟩ := G
        obtain ⟨t30, ht30, G⟩ := qP G
        refine qN qd H (.v 32 (.slice p_x21 x21.length c_x21) <|
 .v 33 (vI x22) <|
 .v 34 (.slice p_a0 a0.length c_a0) <|
 .v 35 (vI x8) <|
 .v 36 (vI a1) <|
 .v 37 (vI (qe (x8 * a1))) <|
 .v 38 (vI x22) <|
 .v 39 (vI (qe ((qe (x8 * a1)) + x22))) <|
 .cons [40] (qy 49 (Qh qi 1 p_a0 c_a0 a0 qB) (.pointer (some ⟨XB p_a0, XC p_a0 + ((qe ((qe (x8 * a1)) + x22)).toNat) * 1, none⟩)) 40 fun _ w h => Z6 (t := 26) (k := .i64) (i := qe ((qe (x8 * a1)) + x22)) (p := p_a0) (n := a0.length) (cap := c_a0) (x := a0) (en := qB) (qq h).2 q8 rfl b26 (by kernel_rfl)) <|
 .cons [41] (qy 49 (Qh qi 1 p_a0 c_a0 a0 qB) (vI t27) 41 fun _ w h => Ya qB (qq h).2 q8 ht27 0 1 [vI t27]) <|
 .cons [42] (qo 36 _ _ 42 [] (fun u25 w _ => YP.calls t27  t28 w  ht28)) <|
 .cons [43] (qy 900113 (QU 2 1 p_x21 c_x21 x21 qB) (.pointer (some ⟨XB p_x21, XC p_x21 + x22.toNat * 1, none⟩)) 43 fun _ w h => YQ 26 .i64 x22 p_x21 x21.length c_x21 x21 qB (qY (QN h)).2 q8 rfl b29) <|
 .cons [900113, 900113] (Xs [] [] (fun u25 => []) 900113 (fun u25 => QU 2 1 p_x21 c_x21 x21 qB) none (fun u25 g => .nilFunc) (fun u25 g => Yo 2 1 p_x21 x21.length c_x21 ((x21.set x22.toNat t28).flatMap qB)) (fun u25 w hF hK => Z8 (XP (QN hK) q8 (y := t28) (vs := [vI t28]) ht30 0 (by simp) (by simp) rfl (by kernel_rfl)))) <| .nil) [0, 1, 5, 6, 7, 8, 21, 22, 23, 24, 25, 26, 27, 28, 49, 900108, 900113] fun u25 a w' H => ?_
        refine qN qd H (.v 30 (vI x22) <|
 .v 31 (vI (qe (x22 + 1))) <|
 .v 8 (vI (qe (x22 + 1))) <| .nil) [0, 1, 5, 6, 7, 8, 21, 22, 23, 24, 25, 26, 27, 28, 49, 900108, 900113] fun u31 a w' H => ?_
        exact ⟨k, Nat.lt_succ_self k, _, _, G, p_x21, c_x21, x21.length, by simp, H.toM _⟩
       ·rw [if_neg (nt c32)] at G
        refine QO rfl ?_
        obtain rfl := sj G
        replace H := H.move (K := QU 2 1 p_x21 c_x21 x21 qB) 900113 900112 (by kernel_rfl) (by intro _ _ h; cases h)
        exact ⟨p_x21, c_x21, x21.length, rfl, H.toM _⟩
   ·rw [if_neg (nt c33)] at G
    refine QO rfl ?_
    obtain rfl := sj G
    replace H := H.move (K := Qm p_x7 c_x7 L_x7) 900108 900106 (by kernel_rfl) (by intro _ _ h; cases h)
    exact ⟨p_x7, c_x7, L_x7.length, L_x7, rfl, h_x7, H.toM _⟩
theorem X4.calls (a0 : qa) (r : Int) (w : World) (G : X4 a0 = some r) :
  Calls Tryz.prog 43 #[.agg #[vI a0.Lo, vI a0.Hi]] w fun e w' => e = .returned (vI r) ∧ Below w.heap.size w w' := by
 refine Q4 (args := [.agg #[vI a0.Lo, vI a0.Hi]]) 9 Tryz.func43 rfl (by kernel_rfl) (by kernel_rfl) fun a H => ?_
 unfold X4 at G
 refine qg qd H (.cons [1, 9] (qH (fun b => vP b 0) (fun u1 => [vI a0.Lo, vI a0.Hi]) 48 1 9) <|
 .v 2 (vI 0) <| .nil) [1, 9] fun u1 a w' H => ?_
 refine qs ?_
 refine qg qd H (.v 3 (vP ((u1 0).n 0) 0) <|
 .cons [4] (qv (vI a0.Lo) 4 9 0 1 ((u1 0).n 0) [vI a0.Lo, vI a0.Hi] 48) <|
 .v 5 (.bool (decide (a0.Lo > 0))) <| .nil) [1, 5, 9] fun u2 a w' H => ?_
 refine Qr H (decide (a0.Lo > 0)) (fun c8 => ?_) fun c8 => ?_
 ·rw [if_pos c8] at G
  refine qg qd H (.v 2 (vI 1) <| .nil) [2] fun u3 a w' H => ?_
  refine q7 ?_
  obtain rfl := sj G
  exact QG H _ (by kernel_rfl) (by kernel_rfl)
 ·rw [if_neg (nt c8)] at G
  refine qT ?_
  refine qs ?_
  refine qg qd H (.v 6 (vP ((u1 0).n 0) 1) <|
 .cons [7] (qv (vI a0.Hi) 7 9 1 1 ((u1 0).n 0) [vI a0.Lo, vI a0.Hi] 48) <|
 .v 8 (.bool (decide (a0.Hi < 0))) <| .nil) [8] fun u4 a w' H => ?_
  refine Qr H (decide (a0.Hi < 0)) (fun c7 => ?_) fun c7 => ?_
  ·rw [if_pos c7] at G
   refine qg qd H (.v 2 (vI (-1)) <| .nil) [2] fun u5 a w' H => ?_
   refine q7 ?_
   obtain rfl := sj G
   exact QG H _ (by kernel_rfl) (by kernel_rfl)
  ·rw [if_neg (nt c7)] at G
   refine qT ?_
   refine qg qd H (.v 2 (vI 0) <| .nil) [2] fun u6 a w' H => ?_
   refine q7 ?_
   obtain rfl := sj G
   exact QG H _ (by kernel_rfl) (by kernel_rfl)
theorem Xw.calls (a0 : qa) (r : Int) (w : World) (G : Xw a0 = some r) :
  Calls Tryz.prog 44 #[.agg #[vI a0.Lo, vI a0.Hi]] w fun e w' => e = .returned (vI r) ∧ Below w.heap.size w w' := by
 refine Q4 (args := [.agg #[vI a0.Lo, vI a0.Hi]]) 16 Tryz.func44 rfl (by kernel_rfl) (by kernel_rfl) fun a H => ?_
 unfold Xw at G
 refine qg qd H (.cons [1, 16] (qH (fun b => vP b 0) (fun u1 => [vI a0.Lo, vI a0.Hi]) 48 1 16) <|
 .v 2 (vI 0) <| .nil) [1, 16] fun u1 a w' H => ?_
 refine qg qd H (.v 3 (vP ((u1 0).n 0) 0) <|
 .cons [4] (qv (vI a0.Lo) 4 16 0 1 ((u1 0).n 0) [vI a0.Lo, vI a0.Hi] 48) <|
 .v 5 (vP ((u1 0).n 0) 0) <|
 .cons [6] (qv (vI a0.Lo) 6 16 0 1 ((u1 0).n 0) [vI a0.Lo, vI a0.Hi] 48) <|
 .v 7 (vI (qe (0 - a0.Lo))) <|
 .v 8 (vI (mx a0.Lo (qe (0 - a0.Lo)))) <|
 .v 9 (vP ((u1 0).n 0) 1) <|
 .cons [10] (qv (vI a0.Hi) 10 16 1 1 ((u1 0).n 0) [vI a0.Lo, vI a0.Hi] 48) <|
 .v 11 (vP ((u1 0).n 0) 1) <|
 .cons [12] (qv (vI a0.Hi) 12 16 1 1 ((u1 0).n 0) [vI a0.Lo, vI a0.Hi] 48) <|
 .v 13 (vI (qe (0 - a0.Hi))) <|
 .v 14 (vI (mx a0.Hi (qe (0 - a0.Hi)))) <|
 .v 15 (vI (mn (mx a0.Lo (qe (0 - a0.Lo))) (mx a0.Hi (qe (0 - a0.Hi))))) <|
 .v 2 (vI (mn (mx a0.Lo (qe (0 - a0.Lo))) (mx a0.Hi (qe (0 - a0.Hi))))) <| .nil) [2] fun u2 a w' H => ?_
 refine q7 ?_
 obtain rfl := sj G
 exact QG H _ (by kernel_rfl) (by kernel_rfl)
theorem QD.calls (a0 : Int) (a1 : Int) (r : Int) (w : World) (G : QD a0 a1 = some r) :
  Calls Tryz.prog 88 #[vI a0, vI a1] w fun e w' => e = .returned (vI r) ∧ Below w.heap.size w w' := by
 refine Q4 (args := [vI a0, vI a1]) 23 Tryz.func88 rfl (by kernel_rfl) (by kernel_rfl) fun a H => ?_
 unfold QD at G
 refine qg qd H (.v 4 (vI 0) <| .nil) [0, 1] fun u1 a w' H => ?_
 refine qs ?_
 replace G := gd G; obtain ⟨n3, G⟩ := G
 refine qN qd H (.v 6 (vI a0) <|
 .v 7 (vI a1) <|
 .cons [8] (qp (fun u2 => vI (qe (Int.tdiv a0 a1))) 8 (hv := fun _ _ => Zz (by kernel_rfl) (qa8 (k := .i64) (x := a0) (y := a1) n3))) <|
 .v 5 (vI (qe (Int.tdiv a0 a1))) <| .nil) [0, 1, 5] fun u2 a w' H => ?_
 refine qs ?_
 obtain ⟨j5, hj5, G⟩ := qP G
 refine Qw (fun a w' => RL w 23 [(5, sI j5)] a w') ?_ ?_
 ·clear H; intro a w' H
  refine qg qd H (.v 22 (vI j5) <|
 .v 4 (vI j5) <| .nil) [4] fun u6 a w' H => ?_
  refine q7 ?_
  obtain rfl := sj G
  exact QG H _ (by kernel_rfl) (by kernel_rfl)
 ·clear G; replace G := hj5; clear hj5
  refine qs ?_
  replace G := gd G; obtain ⟨n8, G⟩ := G
  refine qN qd H (.v 9 (vI a0) <|
 .v 10 (vI a1) <|
 .cons [11] (qp (fun u7 => vI (Int.tmod a0 a1)) 11 (hv := fun _ _ => Zz (by kernel_rfl) (qbh (k := .i64) (x := a0) (y := a1) n8))) <|
 .v 12 (.bool ((Int.tmod a0 a1) != 0)) <|
 .v 13 (.bool ((Int.tmod a0 a1) != 0)) <|
 .cons [14] (Qc (fun u7 => vI a0) (fun u7 => (((Int.tmod a0 a1) != 0) == true)) [true] 14) <|
 .cons [15] (Qc (fun u7 => .bool (decide (a0 < 0))) (fun u7 => (((Int.tmod a0 a1) != 0) == true)) [false, true] 15) <|
 .cons [16] (Qc (fun u7 => vI a1) (fun u7 => (((Int.tmod a0 a1) != 0) == true)) [true] 16) <|
 .cons [17] (Qc (fun u7 => .bool (decide (a1 < 0))) (fun u7 => (((Int.tmod a0 a1) != 0) == true)) [false, true] 17) <|
 .cons [18] (Qc (fun u7 => .bool (!((decide (a0 < 0)) == (decide (a1 < 0))))) (fun u7 => (((Int.tmod a0 a1) != 0) == true)) [false, false] 18) <|
 .cons [19] (Y9 13 18 (fun u7 => true) (fun u7 => true) (fun u7 => ((Int.tmod a0 a1) != 0)) (fun u7 => (!((decide (a0 < 0)) == (decide (a1 < 0))))) 19) <| .nil) [5, 19] fun u7 a w' H => ?_
  refine Qr H (((Int.tmod a0 a1) != 0) && (!((decide (a0 < 0)) == (decide (a1 < 0))))) (fun c10 => ?_) fun c10 => ?_
  ·rw [if_pos c10] at G
   refine qN qd H (.v 20 (vI (qe (Int.tdiv a0 a1))) <|
 .v 21 (vI (qe ((qe (Int.tdiv a0 a1)) - 1))) <|
 .v 5 (vI (qe ((qe (Int.tdiv a0 a1)) - 1))) <| .nil) [5] fun u9 a w' H => ?_
   obtain rfl := sj G
   exact H.toM _
  ·rw [if_neg (nt c10)] at G
   refine qT ?_
   obtain rfl := sj G
   exact H.toM _
theorem Xj.calls (a0 : Int) (a1 : Int) (r : Int) (w : World) (G : Xj a0 a1 = some r) :
  Calls Tryz.prog 89 #[vI a0, vI a1] w fun e w' => e = .returned (vI r) ∧ Below w.heap.size w w' := by
 refine Q4 (args := [vI a0, vI a1]) 10 Tryz.func89 rfl (by kernel_rfl) (by kernel_rfl) fun a H => ?_
 unfold Xj at G
 refine qg qd H (.v 4 (vI 0) <| .nil) [0, 1] fun u1 a w' H => ?_
 obtain ⟨t3, ht3, G⟩ := qP G
 refine qg qd H (.v 5 (vI a0) <|
 .v 6 (vI (qe (0 - a0))) <|
 .v 7 (vI a1) <|
 .cons [8] (qo 88 _ _ 8 [] (fun u2 w _ => QD.calls (qe (0 - a0)) a1  t3 w  ht3)) <|
 .v 9 (vI (qe (0 - t3))) <|
 .v 4 (vI (qe (0 - t3))) <| .nil) [4] fun u2 a w' H => ?_
 refine q7 ?_
 obtain rfl := sj G
 exact QG H _ (by kernel_rfl) (by kernel_rfl)
theorem QC.calls (k0 : Nat) (a0 : qa) (a1 : qa) (r : qa) (w : World) (G : QC k0 a0 a1 = some r) :
  Calls Tryz.prog 54 #[.agg #[vI a0.Lo, vI a0.Hi], .agg #[vI a1.Lo, vI a1.Hi]] w fun e w' => e = .returned (.agg #[vI r.Lo, vI r.Hi]) ∧ Below w.heap.size w w' := by
 refine Q4 (args := [.agg #[vI a0.Lo, vI a0.Hi], .agg #[vI a1.Lo, vI a1.Hi]]) 64 Tryz.func54 rfl (by kernel_rfl) (by kernel_rfl) fun a H => ?_
 unfold QC at G
 refine qg qd H (.cons [2, 64] (qH (fun b => vP b 0) (fun u1 => [vI a0.Lo, vI a0.Hi]) 48 2 64) <|
 .cons [3, 65] (qH (fun b => vP b 0) (fun u1 => [vI a1.Lo, vI a1.Hi]) 48 3 65) <|
 .cons [4, 66] (qH (fun b => vP b 0) (fun u1 => [vI 0, vI 0]) 48 4 66) <| .nil) [2, 3, 4, 64, 65, 66] fun u1 a w' H => ?_
 refine qs ?_
 obtain ⟨t3, ht3, G⟩ := qP G
 obtain ⟨t4, ht4, G⟩ := qP G
 refine qg qd H (.cons [9] (qv (.agg #[vI a0.Lo, vI a0.Hi]) 9 64 0 2 ((u1 0).n 0) [vI a0.Lo, vI a0.Hi] 48) <|
 .cons [10] (qo 46 _ _ 10 [] (fun u2 w _ => q9.calls a0  t3 w  ht3)) <|
 .v 11 (.bool t3) <|
 .cons [12] (Zc (fun u2 => .agg #[vI a1.Lo, vI a1.Hi]) (fun u2 => (t3 == false)) [true] 12 65 0 2 (fun u2 => ((u1 1).n 0)) (fun u2 => [vI a1.Lo, vI a1.Hi]) 48) <|
 .cons [13] (Zi 46 (fun u2 => #[.agg #[vI a1.Lo, vI a1.Hi]]) (.bool t4) (fun u2 => (t3 == false)) [true, false] 13 [] (fun u2 w hg _ => q9.calls a1  t4 w  (ifp ht4 hg))) <|
 .cons [14] (Zt 11 13 (fun u2 => true) (fun u2 => true) (fun u2 => t3) (fun u2 => t4) 14) <| .nil) [2, 3, 4, 14, 64, 65, 66] fun u2 a w' H => ?_
 refine Qr H (t3 || t4) (fun c30 => ?_) fun c30 => ?_
 ·rw [if_pos c30] at G
  obtain ⟨t6, ht6, G⟩ := qP G
  refine qg qd H (.cons [15] (qo 87 _ _ 15 [] (fun u5 w _ => Xf.calls   t6 w  ht6)) <|
 .cons [66] (QV 66 0 ((u1 2).n 0) [vI 0, vI 0] [vI t6.Lo, vI t6.Hi] 48 [vI t6.Lo, vI t6.Hi]) <| .nil) [4, 66] fun u5 a w' H => ?_
  refine q7 ?_
  obtain rfl := sj G
  exact Xe H _ 66 ((u1 2).n 0) [vI t6.Lo, vI t6.Hi] 48 0 2 (by kernel_rfl) (by kernel_rfl) (by kernel_rfl) (by kernel_rfl)
 ·rw [if_neg (nt c30)] at G
  refine qT ?_
  refine qg qd H (.v 16 (vP ((u1 0).n 0) 0) <|
 .cons [17] (qv (vI a0.Lo) 17 64 0 1 ((u1 0).n 0) [vI a0.Lo, vI a0.Hi] 48) <|
 .v 18 (vP ((u1 1).n 0) 0) <|
 .cons [19] (qv (vI a1.Lo) 19 65 0 1 ((u1 1).n 0) [vI a1.Lo, vI a1.Hi] 48) <|
 .v 20 (vI (qe (a0.Lo * a1.Lo))) <|
 .v 21 (vP ((u1 0).n 0) 0) <|
 .cons [22] (qv (vI a0.Lo) 22 64 0 1 ((u1 0).n 0) [vI a0.Lo, vI a0.Hi] 48) <|
 .v 23 (vP ((u1 1).n 0) 1) <|
 .cons [24] (qv (vI a1.Hi) 24 65 1 1 ((u1 1).n 0) [vI a1.Lo, vI a1.Hi] 48) <|
 .v 25 (vI (qe (a0.Lo * a1.Hi))) <|
 .v 26 (vP ((u1 0).n 0) 1) <|
 .cons [27] (qv (vI a0.Hi) 27 64 1 1 ((u1 0).n 0) [vI a0.Lo, vI a0.Hi] 48) <|
 .v 28 (vP ((u1 1).n 0) 0) <|
 .cons [29] (qv (vI a1.Lo) 29 65 0 1 ((u1 1).n 0) [vI a1.Lo, vI a1.Hi] 48) <|
 .v 30 (vI (qe (a0.Hi * a1.Lo))) <|
 .v 31 (vP ((u1 0).n 0) 1) <|
 .cons [32] (qv (vI a0.Hi) 32 64 1 1 ((u1 0).n 0) [vI a0.Lo, vI a0.Hi] 48) <|
 .v 33 (vP ((u1 1).n 0) 1) <|
 .cons [34] (qv (vI a1.Hi) 34 65 1 1 ((u1 1).n 0) [vI a1.Lo, vI a1.Hi] 48) <|
 .v 35 (vI (qe (a0.Hi * a1.Hi))) <|
 .cons [36, 67] (qH (fun b => .slice (some ⟨b, 0, none⟩) 4 4) (fun u7 => [vI (qe (a0.Lo * a1.Lo)), vI (qe (a0.Lo * a1.Hi)), vI (qe (a0.Hi * a1.Lo)), vI (qe (a0.Hi * a1.Hi))]) 2 36 67) <|
 .cons [5] (qp (fun u7 => .slice (some ⟨((u7 20).n 0), 0, none⟩) 4 4) 5) <| .nil) [4, 5, 66, 67] fun u7 a w' H => ?_
  refine qg qd H (.v 37 (.slice (some ⟨((u7 20).n 0), 0, none⟩) 4 4) <|
 .v 38 (vP ((u7 20).n 0) 0) <|
 .cons [39] (qv (vI (qe (a0.Lo * a1.Lo))) 39 67 0 1 ((u7 20).n 0) [vI (qe (a0.Lo * a1.Lo)), vI (qe (a0.Lo * a1.Hi)), vI (qe (a0.Hi * a1.Lo)), vI (qe (a0.Hi * a1.Hi))] 2) <|
 .v 40 (.slice (some ⟨((u7 20).n 0), 0, none⟩) 4 4) <|
 .v 41 (vP ((u7 20).n 0) 0) <|
 .cons [42] (qv (vI (qe (a0.Lo * a1.Lo))) 42 67 0 1 ((u7 20).n 0) [vI (qe (a0.Lo * a1.Lo)), vI (qe (a0.Lo * a1.Hi)), vI (qe (a0.Hi * a1.Lo)), vI (qe (a0.Hi * a1.Hi))] 2) <|
 .v 6 (vI (qe (a0.Lo * a1.Lo))) <|
 .v 7 (vI (qe (a0.Lo * a1.Lo))) <| .nil) [4, 5, 6, 7, 66, 67] fun u8 a w' H => ?_
  refine qs ?_
  obtain ⟨j11, hj11, G⟩ := qP G
  refine Qw (fun a w' => RL w 64 [(4, (sP ((u1 2).n 0) 0)), (6, sI j11.1), (7, sI j11.2), (66, .blk ((u1 2).n 0) [vI 0, vI 0] 48)] a w') ?_ ?_
  ·clear H; intro a w' H
   obtain ⟨t13, ht13, G⟩ := qP G
   obtain ⟨t14, ht14, G⟩ := qP G
   obtain ⟨t15, ht15, G⟩ := qP G
   refine qg qd H (.v 59 (vI j11.1) <|
 .cons [60] (qo 88 _ _ 60 [] (fun u12 w _ => QD.calls j11.1 65536  t13 w  ht13)) <|
 .v 61 (vI j11.2) <|
 .cons [62] (qo 89 _ _ 62 [] (fun u12 w _ => Xj.calls j11.2 65536  t14 w  ht14)) <|
 .cons [63] (qo 68 _ _ 63 [] (fun u12 w _ => Xn.calls t13 t14  t15 w  ht15)) <|
 .cons [66] (QV 66 0 ((u1 2).n 0) [vI 0, vI 0] [vI t15.Lo, vI t15.Hi] 48 [vI t15.Lo, vI t15.Hi]) <| .nil) [4, 66] fun u12 a w' H => ?_
   refine q7 ?_
   obtain rfl := sj G
   exact Xe H _ 66 ((u1 2).n 0) [vI t15.Lo, vI t15.Hi] 48 0 2 (by kernel_rfl) (by kernel_rfl) (by kernel_rfl) (by kernel_rfl)
  ·clear G; replace G := hj11; clear hj11
   refine qg qd H (.v 8 (vI 1) <| .nil) [4, 5, 6, 7, 8, 66, 67] fun u16 a w' H => ?_
   refine qA ?_
   refine Qv (fun m a w' => ∃ x17 : Int, ∃ x18 : Int, ∃ x19 : Int, QC.l20 k0 a0 a1 t3 t4 m x17 x18 x19 = some j11 ∧ RL w 64 [(4, (sP ((u1 2).n 0) 0)), (5, (sS (some ⟨((u7 20).n 0), 0, none⟩) 4 4)), (6, sI x17), (7, sI x18), (8, sI x19), (66, .blk ((u1 2).n 0) [vI 0, vI 0] 48), (67, .blk ((u7 20).n 0) [vI (qe (a0.Lo * a1.Lo)), vI (qe (a0.Lo * a1.Hi)), vI (qe (a0.Hi * a1.Lo)), vI (qe (a0.Hi * a1.Hi))] 2)] a w') k0 ⟨_, _, _, G, H.toM _⟩ ?_
   clear G H
   rintro (_ | k) a w' ⟨x17, x18, x19, G, H⟩
   ·exact absurd G (by unfold QC.l20; exact fun h => by cases h)
   ·unfold QC.l20 at G
    refine qs ?_
    refine qg qd H (.v 43 (vI x19) <|
 .v 44 (.bool (decide (x19 < 4))) <| .nil) [4, 5, 6, 7, 8, 44, 66, 67] fun u21 a w' H => ?_
    refine Qr H (decide (x19 < 4)) (fun c29 => ?_) fun c29 => ?_
    ·rw [if_pos c29] at G
     refine qT ?_
     refine qs ?_
     refine qA ?_
     refine qs ?_
     replace G := gd G; obtain ⟨b23, G⟩ := G
     obtain ⟨t24, ht24, G⟩ := qP G
     refine qN qd H (.v 47 (vI x17) <|
 .v 48 (.slice (some ⟨((u7 20).n 0), 0, none⟩) 4 4) <|
 .v 49 (vI x19) <|
 .cons [50] (qp (fun u22 => .pointer (some ⟨((u7 20).n 0), (0 + x19.toNat * 1), none⟩)) 50 (hv := fun _ _ => Zz (by kernel_rfl) (YS (t := 26) (b := ((u7 20).n 0)) (o := 0) (len := 4) (cap := 4) (k := .i64) (i := x19) (sz := 1) (by kernel_rfl) (by kernel_rfl) b23))) <|
 .cons [51] (We (fun u22 => vI t24) 51 67 (fun u22 => (0 + x19.toNat * 1)) (fun u22 => ((u7 20).n 0)) (fun u22 => [vI (qe (a0.Lo * a1.Lo)), vI (qe (a0.Lo * a1.Hi)), vI (qe (a0.Hi * a1.Lo)), vI (qe (a0.Hi * a1.Hi))]) 2 (fun u22 => Vo ht24)) <|
 .v 52 (vI (mn x17 t24)) <|
 .v 6 (vI (mn x17 t24)) <| .nil) [4, 5, 6, 7, 8, 66, 67] fun u22 a w' H => ?_
     replace G := gd G; obtain ⟨b26, G⟩ := G
     obtain ⟨t27, ht27, G⟩ := qP G
     refine qN qd H (.v 53 (vI x18) <|
 .v 54 (.slice (some ⟨((u7 20).n 0), 0, none⟩) 4 4) <|
 .v 55 (vI x19) <|
 .cons [56] (qp (fun u25 => .pointer (some ⟨((u7 20).n 0), (0 + x19.toNat * 1), none⟩)) 56 (hv := fun _ _ => Zz (by kernel_rfl) (YS (t := 26) (b := ((u7 20).n 0)) (o := 0) (len := 4) (cap := 4) (k := .i64) (i := x19) (sz := 1) (by kernel_rfl) (by kernel_rfl) b26))) <|
 .cons [57] (We (fun u25 => vI t27) 57 67 (fun u25 => (0 + x19.toNat * 1)) (fun u25 => ((u7 20).n 0)) (fun u25 => [vI (qe (a0.Lo * a1.Lo)), vI (qe (a0.Lo * a1.Hi)), vI (qe (a0.Hi * a1.Lo)), vI (qe (a0.Hi * a1.Hi))]) 2 (fun u25 => Vo ht27)) <|
 .v 58 (vI (mx x18 t27)) <|
 .v 7 (vI (mx x18 t27)) <| .nil) [4, 5, 6, 7, 8, 66, 67] fun u25 a w' H => ?_
     refine qN qd H (.v 45 (vI x19) <|
 .v 46 (vI (qe (x19 + 1))) <|
 .v 8 (vI (qe (x19 + 1))) <| .nil) [4, 5, 6, 7, 8, 66, 67] fun u28 a w' H => ?_
     exact ⟨k, Nat.lt_succ_self k, _, _, _, G, H.toM _⟩
    ·rw [if_neg (nt c29)] at G
     refine QO rfl ?_
     obtain rfl := sj G
     exact H.toM _
theorem Qi.calls (k0 : Nat) (a0 : qa) (a1 : qa) (r : qa) (w : World) (G : Qi k0 a0 a1 = some r) :
  Calls Tryz.prog 85 #[.agg #[vI a0.Lo, vI a0.Hi], .agg #[vI a1.Lo, vI a1.Hi]] w fun e w' => e = .returned (.agg #[vI r.Lo, vI r.Hi]) ∧ Below w.heap.size w w' := by
 refine Q4 (args := [.agg #[vI a0.Lo, vI a0.Hi], .agg #[vI a1.Lo, vI a1.Hi]]) 85 Tryz.func85 rfl (by kernel_rfl) (by kernel_rfl) fun a H => ?_
 unfold Qi at G
 refine qg qd H (.cons [2, 85] (qH (fun b => vP b 0) (fun u1 => [vI a0.Lo, vI a0.Hi]) 48 2 85) <|
 .cons [3, 86] (qH (fun b => vP b 0) (fun u1 => [vI a1.Lo, vI a1.Hi]) 48 3 86) <|
 .cons [4, 87] (qH (fun b => vP b 0) (fun u1 => [vI 0, vI 0]) 48 4 87) <| .nil) [2, 3, 4, 85, 86, 87] fun u1 a w' H => ?_
 refine qs ?_
 obtain ⟨t3, ht3, G⟩ := qP G
 obtain ⟨t4, ht4, G⟩ := qP G
 refine qg qd H (.cons [11] (qv (.agg #[vI a0.Lo, vI a0.Hi]) 11 85 0 2 ((u1 0).n 0) [vI a0.Lo, vI a0.Hi] 48) <|
 .cons [12] (qo 46 _ _ 12 [] (fun u2 w _ => q9.calls a0  t3 w  ht3)) <|
 .v 13 (.bool t3) <|
 .cons [14] (Zc (fun u2 => .agg #[vI a1.Lo, vI a1.Hi]) (fun u2 => (t3 == false)) [true] 14 86 0 2 (fun u2 => ((u1 1).n 0)) (fun u2 => [vI a1.Lo, vI a1.Hi]) 48) <|
 .cons [15] (Zi 46 (fun u2 => #[.agg #[vI a1.Lo, vI a1.Hi]]) (.bool t4) (fun u2 => (t3 == false)) [true, false] 15 [] (fun u2 w hg _ => q9.calls a1  t4 w  (ifp ht4 hg))) <|
 .cons [16] (Zt 13 15 (fun u2 => true) (fun u2 => true) (fun u2 => t3) (fun u2 => t4) 16) <|
 .v 17 (.bool (t3 || t4)) <|
 .cons [18] (Qc (fun u2 => vP ((u1 1).n 0) 0) (fun u2 => ((t3 || t4) == false)) [true] 18) <|
 .cons [19] (Zc (fun u2 => vI a1.Lo) (fun u2 => ((t3 || t4) == false)) [false] 19 86 0 1 (fun u2 => ((u1 1).n 0)) (fun u2 => [vI a1.Lo, vI a1.Hi]) 48) <|
 .cons [20] (Qc (fun u2 => .bool (decide (a1.Lo ≤ 0))) (fun u2 => ((t3 || t4) == false)) [false, true] 20) <|
 .cons [21] (Qc (fun u2 => .bool (decide (a1.Lo ≤ 0))) (fun u2 => ((t3 || t4) == false)) [false] 21) <|
 .cons [22] (Qc (fun u2 => vP ((u1 1).n 0) 1) (fun u2 => (((t3 || t4) == false) && ((decide (a1.Lo ≤ 0)) == true))) [true] 22) <|
 .cons [23] (Zc (fun u2 => vI a1.Hi) (fun u2 => (((t3 || t4) == false) && ((decide (a1.Lo ≤ 0)) == true))) [false] 23 86 1 1 (fun u2 => ((u1 1).n 0)) (fun u2 => [vI a1.Lo, vI a1.Hi]) 48) <|
 .cons [24] (Qc (fun u2 => .bool (decide (a1.Hi ≥ 0))) (fun u2 => (((t3 || t4) == false) && ((decide (a1.Lo ≤ 0)) == true))) [false, true] 24) <|
 .cons [25] (Y9 21 24 (fun u2 => ((t3 || t4) == false)) (fun u2 => ((t3 || t4) == false)) (fun u2 => decide (a1.Lo ≤ 0)) (fun u2 => decide (a1.Hi ≥ 0)) 25) <|
 .cons [26] (Zt 17 25 (fun u2 => true) (fun u2 => true) (fun u2 => (t3 || t4)) (fun u2 => ((decide (a1.Lo ≤ 0)) && (decide (a1.Hi ≥ 0)))) 26) <| .nil) [2, 3, 4, 26, 85, 86, 87] fun u2 a w' H => ?_
 refine Qr H ((t3 || t4) || ((decide (a1.Lo ≤ 0)) && (decide (a1.Hi ≥ 0)))) (fun c47 => ?_) fun c47 => ?_
 ·rw [if_pos c47] at G
  obtain ⟨t6, ht6, G⟩ := qP G
  refine qg qd H (.cons [27] (qo 87 _ _ 27 [] (fun u5 w _ => Xf.calls   t6 w  ht6)) <|
 .cons [87] (QV 87 0 ((u1 2).n 0) [vI 0, vI 0] [vI t6.Lo, vI t6.Hi] 48 [vI t6.Lo, vI t6.Hi]) <| .nil) [4, 87] fun u5 a w' H => ?_
  refine q7 ?_
  obtain rfl := sj G
  exact Xe H _ 87 ((u1 2).n 0) [vI t6.Lo, vI t6.Hi] 48 0 2 (by kernel_rfl) (by kernel_rfl) (by kernel_rfl) (by kernel_rfl)
 ·rw [if_neg (nt c47)] at G
  refine qT ?_
  refine qg qd H (.v 28 (vP ((u1 0).n 0) 0) <|
 .cons [29] (qv (vI a0.Lo) 29 85 0 1 ((u1 0).n 0) [vI a0.Lo, vI a0.Hi] 48) <|
 .v 30 (vP ((u1 0).n 0) 1) <|
 .cons [31] (qv (vI a0.Hi) 31 85 1 1 ((u1 0).n 0) [vI a0.Lo, vI a0.Hi] 48) <|
 .cons [32, 88] (qH (fun b => .slice (some ⟨b, 0, none⟩) 2 2) (fun u7 => [vI a0.Lo, vI a0.Hi]) 2 32 88) <|
 .v 33 (vP ((u1 1).n 0) 0) <|
 .cons [34] (qv (vI a1.Lo) 34 86 0 1 ((u1 1).n 0) [vI a1.Lo, vI a1.Hi] 48) <|
 .v 35 (vP ((u1 1).n 0) 1) <|
 .cons [36] (qv (vI a1.Hi) 36 86 1 1 ((u1 1).n 0) [vI a1.Lo, vI a1.Hi] 48) <|
 .cons [37, 89] (qH (fun b => .slice (some ⟨b, 0, none⟩) 2 2) (fun u7 => [vI a1.Lo, vI a1.Hi]) 2 37 89) <|
 .cons [5] (qp (fun u7 => .slice (some ⟨((u7 4).n 0), 0, none⟩) 2 2) 5) <|
 .cons [6] (qp (fun u7 => .slice (some ⟨((u7 9).n 0), 0, none⟩) 2 2) 6) <| .nil) [2, 3, 4, 5, 6, 85, 86, 87, 88, 89] fun u7 a w' H => ?_
  obtain ⟨t9, ht9, G⟩ := qP G
  obtain ⟨t10, ht10, G⟩ := qP G
  refine qg qd H (.v 38 (vP ((u1 0).n 0) 0) <|
 .cons [39] (qv (vI a0.Lo) 39 85 0 1 ((u1 0).n 0) [vI a0.Lo, vI a0.Hi] 48) <|
 .v 40 (vI (qe (a0.Lo * 65536))) <|
 .v 41 (vP ((u1 1).n 0) 0) <|
 .cons [42] (qv (vI a1.Lo) 42 86 0 1 ((u1 1).n 0) [vI a1.Lo, vI a1.Hi] 48) <|
 .cons [43] (qo 88 _ _ 43 [] (fun u8 w _ => QD.calls (qe (a0.Lo * 65536)) a1.Lo  t9 w  ht9)) <|
 .v 44 (vP ((u1 0).n 0) 0) <|
 .cons [45] (qv (vI a0.Lo) 45 85 0 1 ((u1 0).n 0) [vI a0.Lo, vI a0.Hi] 48) <|
 .v 46 (vI (qe (a0.Lo * 65536))) <|
 .v 47 (vP ((u1 1).n 0) 0) <|
 .cons [48] (qv (vI a1.Lo) 48 86 0 1 ((u1 1).n 0) [vI a1.Lo, vI a1.Hi] 48) <|
 .cons [49] (qo 89 _ _ 49 [] (fun u8 w _ => Xj.calls (qe (a0.Lo * 65536)) a1.Lo  t10 w  ht10)) <|
 .v 7 (vI t9) <|
 .v 8 (vI t10) <| .nil) [4, 5, 6, 7, 8, 87, 88, 89] fun u8 a w' H => ?_
  refine qs ?_
  obtain ⟨j13, hj13, G⟩ := qP G
  refine Qw (fun a w' => RL w 85 [(4, (sP ((u1 2).n 0) 0)), (7, sI j13.1), (8, sI j13.2), (87, .blk ((u1 2).n 0) [vI 0, vI 0] 48)] a w') ?_ ?_
  ·clear H; intro a w' H
   obtain ⟨t15, ht15, G⟩ := qP G
   refine qg qd H (.v 82 (vI j13.1) <|
 .v 83 (vI j13.2) <|
 .cons [84] (qo 68 _ _ 84 [] (fun u14 w _ => Xn.calls j13.1 j13.2  t15 w  ht15)) <|
 .cons [87] (QV 87 0 ((u1 2).n 0) [vI 0, vI 0] [vI t15.Lo, vI t15.Hi] 48 [vI t15.Lo, vI t15.Hi]) <| .nil) [4, 87] fun u14 a w' H => ?_
   refine q7 ?_
   obtain rfl := sj G
   exact Xe H _ 87 ((u1 2).n 0) [vI t15.Lo, vI t15.Hi] 48 0 2 (by kernel_rfl) (by kernel_rfl) (by kernel_rfl) (by kernel_rfl)
  ·clear G; replace G := hj13; clear hj13
   refine qg qd H (.v 9 (vI 0) <| .nil) [4, 5, 6, 7, 8, 9, 87, 88, 89] fun u16 a w' H => ?_
   refine qA ?_
   refine Qv (fun m a w' => ∃ x17 : Int, ∃ x18 : Int, ∃ x19 : Int, Qi.l20 k0 a0 a1 t3 t4 t9 t10 m x17 x18 x19 = some j13 ∧ RL w 85 [(4, (sP ((u1 2).n 0) 0)), (5, (sS (some ⟨((u7 4).n 0), 0, none⟩) 2 2)), (6, (sS (some ⟨((u7 9).n 0), 0, none⟩) 2 2)), (7, sI x17), (8, sI x18), (9, sI x19), (87, .blk ((u1 2).n 0) [vI 0, vI 0] 48), (88, .blk ((u7 4).n 0) [vI a0.Lo, vI a0.Hi] 2), (89, .blk ((u7 9).n 0) [vI a1.Lo, vI a1.Hi] 2)] a w') k0 ⟨_, _, _, G, H.toM _⟩ ?_
   clear G H
   rintro (_ | k) a w' ⟨x17, x18, x19, G, H⟩
   ·exact absurd G (by unfold Qi.l20; exact fun h => by cases h)
   ·unfold Qi.l20 at G
    refine qs ?_
    refine qg qd H (.v 50 (vI x19) <|
 .v 51 (.bool (decide (x19 < 2))) <| .nil) [4, 5, 6, 7, 8, 9, 51, 87, 88, 89] fun u21 a w' H => ?_
    refine Qr H (decide (x19 < 2)) (fun c46 => ?_) fun c46 => ?_
    ·rw [if_pos c46] at G
     refine qT ?_
     refine qs ?_
     obtain ⟨j24, hj24, G⟩ := qP G
     refine Qw (fun a w' => RL w 85 [(4, (sP ((u1 2).n 0) 0)), (5, (sS (some ⟨((u7 4).n 0), 0, none⟩) 2 2)), (6, (sS (some ⟨((u7 9).n 0), 0, none⟩) 2 2)), (7, sI j24.1), (8, sI j24.2), (9, sI x19), (87, .blk ((u1 2).n 0) [vI 0, vI 0] 48), (88, .blk ((u7 4).n 0) [vI a0.Lo, vI a0.Hi] 2), (89, .blk ((u7 9).n 0) [vI a1.Lo, vI a1.Hi] 2)] a w') ?_ ?_
     ·clear H; intro a w' H
      refine qN qd H (.v 52 (vI x19) <|
 .v 53 (vI (qe (x19 + 1))) <|
 .v 9 (vI (qe (x19 + 1))) <| .nil) [4, 5, 6, 7, 8, 9, 87, 88, 89] fun u25 a w' H => ?_
      exact ⟨k, Nat.lt_succ_self k, _, _, _, G, H.toM _⟩
     ·clear G; replace G := hj24; clear hj24
      refine qA ?_
      refine qg qd H (.v 10 (vI 0) <| .nil) [4, 5, 6, 7, 8, 9, 10, 87, 88, 89] fun u26 a w' H => ?_
      refine qA ?_
      refine Qv (fun m a w' => ∃ x27 : Int, ∃ x28 : Int, ∃ x29 : Int, Qi.l30 k0 a0 a1 t3 t4 t9 t10 x17 x18 x19 m x27 x28 x29 = some j24 ∧ RL w 85 [(4, (sP ((u1 2).n 0) 0)), (5, (sS (some ⟨((u7 4).n 0), 0, none⟩) 2 2)), (6, (sS (some ⟨((u7 9).n 0), 0, none⟩) 2 2)), (7, sI x27), (8, sI x28), (9, sI x19), (10, sI x29), (87, .blk ((u1 2).n 0) [vI 0, vI 0] 48), (88, .blk ((u7 4).n 0) [vI a0.Lo, vI a0.Hi] 2), (89, .blk ((u7 9).n 0) [vI a1.Lo, vI a1.Hi] 2)] a w') k0 ⟨_, _, _, G, H.toM _⟩ ?_
      clear G H
      rintro (_ | k) a w' ⟨x27, x28, x29, G, H⟩
      ·exact absurd G (by unfold Qi.l30; exact fun h => by cases h)
      ·unfold Qi.l30 at G
       refine qs ?_
       refine qg qd H (.v 54 (vI x29) <|
 .v 55 (.bool (decide (x29 < 2))) <| .nil) [4, 5, 6, 7, 8, 9, 10, 55, 87, 88, 89] fun u31 a w' H => ?_
       refine Qr H (decide (x29 < 2)) (fun c45 => ?_) fun c45 => ?_
       ·rw [if_pos c45] at G
        refine qT ?_
        refine qs ?_
        refine qA ?_
        refine qs ?_
        replace G := gd G; obtain ⟨b33, G⟩ := G
        obtain ⟨t34, ht34, G⟩ := qP G
        replace G := gd G; obtain ⟨b35, G⟩ := G
        obtain ⟨t36, ht36, G⟩ := qP G
        obtain ⟨t37, ht37, G⟩ := qP G
        refine qN qd H (.v 58 (vI x27) <|
 .v 59 (.slice (some ⟨((u7 4).n 0), 0, none⟩) 2 2) <|
 .v 60 (vI x19) <|
 .cons [61] (qp (fun u32 => .pointer (some ⟨((u7 4).n 0), (0 + x19.toNat * 1), none⟩)) 61 (hv := fun _ _ => Zz (by kernel_rfl) (YS (t := 26) (b := ((u7 4).n 0)) (o := 0) (len := 2) (cap := 2) (k := .i64) (i := x19) (sz := 1) (by kernel_rfl) (by kernel_rfl) b33))) <|
 .cons [62] (We (fun u32 => vI t34) 62 88 (fun u32 => (0 + x19.toNat * 1)) (fun u32 => ((u7 4).n 0)) (fun u32 => [vI a0.Lo, vI a0.Hi]) 2 (fun u32 => Vo ht34)) <|
 .v 63 (vI (qe (t34 * 65536))) <|
 .v 64 (.slice (some ⟨((u7 9).n 0), 0, none⟩) 2 2) <|
 .v 65 (vI x29) <|
 .cons [66] (qp (fun u32 => .pointer (some ⟨((u7 9).n 0), (0 + x29.toNat * 1), none⟩)) 66 (hv := fun _ _ => Zz (by kernel_rfl) (YS (t := 26) (b := ((u7 9).n 0)) (o := 0) (len := 2) (cap := 2) (k := .i64) (i := x29) (sz := 1) (by kernel_rfl) (by kernel_rfl) b35))) <|
 .cons [67] (We (fun u32 => vI t36) 67 89 (fun u32 => (0 + x29.toNat * 1)) (fun u32 => ((u7 9).n 0)) (fun u32 => [vI a1.Lo, vI a1.Hi]) 2 (fun u32 => Vo ht36)) <|
 .cons [68] (qo 88 _ _ 68 [] (fun u32 w _ => QD.calls (qe (t34 * 65536)) t36  t37 w  ht37)) <|
 .v 69 (vI (mn x27 t37)) <|
 .v 7 (vI (mn x27 t37)) <| .nil) [4, 5, 6, 7, 8, 9, 10, 87, 88, 89] fun u32 a w' H => ?_
        replace G := gd G; obtain ⟨b39, G⟩ := G
        obtain ⟨t40, ht40, G⟩ := qP G
        replace G := gd G; obtain ⟨b41, G⟩ := G
        obtain ⟨t42, ht42, G⟩ := qP G
        obtain ⟨t43, ht43, G⟩ := qP G
        refine qN qd H (.v 70 (vI x28) <|
 .v 71 (.slice (some ⟨((u7 4).n 0), 0, none⟩) 2 2) <|
 .v 72 (vI x19) <|
 .cons [73] (qp (fun u38 => .pointer (some ⟨((u7 4).n 0), (0 + x19.toNat * 1), none⟩)) 73 (hv := fun _ _ => Zz (by kernel_rfl) (YS (t := 26) (b := ((u7 4).n 0)) (o := 0) (len := 2) (cap := 2) (k := .i64) (i := x19) (sz := 1) (by kernel_rfl) (by kernel_rfl) b39))) <|
 .cons [74] (We (fun u38 => vI t40) 74 88 (fun u38 => (0 + x19.toNat * 1)) (fun u38 => ((u7 4).n 0)) (fun u38 => [vI a0.Lo, vI a0.Hi]) 2 (fun u38 => Vo ht40)) <|
 .v 75 (vI (qe (t40 * 65536))) <|
 .v 76 (.slice (some ⟨((u7 9).n 0), 0, none⟩) 2 2) <|
 .v 77 (vI x29) <|
 .cons [78] (qp (fun u38 => .pointer (some ⟨((u7 9).n 0), (0 + x29.toNat * 1), none⟩)) 78 (hv := fun _ _ => Zz (by kernel_rfl) (YS (t := 26) (b := ((u7 9).n 0)) (o := 0) (len := 2) (cap := 2) (k := .i64) (i := x29) (sz := 1) (by kernel_rfl) (by kernel_rfl) b41))) <|
 .cons [79] (We (fun u38 => vI t42) 79 89 (fun u38 => (0 + x29.toNat * 1)) (fun u38 => ((u7 9).n 0)) (fun u38 => [vI a1.Lo, vI a1.Hi]) 2 (fun u38 => Vo ht42)) <|
 .cons [80] (qo 89 _ _ 80 [] (fun u38 w _ => Xj.calls (qe (t40 * 65536)) t42  t43 w  ht43)) <|
 .v 81 (vI (mx x28 t43)) <|
 .v 8 (vI (mx x28 t43)) <| .nil) [4, 5, 6, 7, 8, 9, 10, 87, 88, 89] fun u38 a w' H => ?_
        refine qN qd H (.v 56 (vI x29) <|
 .v 57 (vI (qe (x29 + 1))) <|
 .v 10 (vI (qe (x29 + 1))) <| .nil) [4, 5, 6, 7, 8, 9, 10, 87, 88, 89] fun u44 a w' H => ?_
        exact ⟨k, Nat.lt_succ_self k, _, _, _, G, H.toM _⟩
       ·rw [if_neg (nt c45)] at G
        refine QO rfl ?_
        obtain rfl := sj G
        exact H.toM _
    ·rw [if_neg (nt c46)] at G
     refine QO rfl ?_
     obtain rfl := sj G
     exact H.toM _
theorem XZ.calls (a0 : qa) (a1 : qa) (r : qa) (w : World) (G : XZ a0 a1 = some r) :
  Calls Tryz.prog 55 #[.agg #[vI a0.Lo, vI a0.Hi], .agg #[vI a1.Lo, vI a1.Hi]] w fun e w' => e = .returned (.agg #[vI r.Lo, vI r.Hi]) ∧ Below w.heap.size w w' := by
 refine Q4 (args := [.agg #[vI a0.Lo, vI a0.Hi], .agg #[vI a1.Lo, vI a1.Hi]]) 23 Tryz.func55 rfl (by kernel_rfl) (by kernel_rfl) fun a H => ?_
 unfold XZ at G
 refine qg qd H (.cons [2, 23] (qH (fun b => vP b 0) (fun u1 => [vI a0.Lo, vI a0.Hi]) 48 2 23) <|
 .cons [3, 24] (qH (fun b => vP b 0) (fun u1 => [vI a1.Lo, vI a1.Hi]) 48 3 24) <|
 .cons [4, 25] (qH (fun b => vP b 0) (fun u1 => [vI 0, vI 0]) 48 4 25) <| .nil) [2, 3, 4, 23, 24, 25] fun u1 a w' H => ?_
 refine qs ?_
 obtain ⟨t3, ht3, G⟩ := qP G
 obtain ⟨t4, ht4, G⟩ := qP G
 refine qg qd H (.cons [5] (qv (.agg #[vI a0.Lo, vI a0.Hi]) 5 23 0 2 ((u1 0).n 0) [vI a0.Lo, vI a0.Hi] 48) <|
 .cons [6] (qo 46 _ _ 6 [] (fun u2 w _ => q9.calls a0  t3 w  ht3)) <|
 .v 7 (.bool t3) <|
 .cons [8] (Zc (fun u2 => .agg #[vI a1.Lo, vI a1.Hi]) (fun u2 => (t3 == false)) [true] 8 24 0 2 (fun u2 => ((u1 1).n 0)) (fun u2 => [vI a1.Lo, vI a1.Hi]) 48) <|
 .cons [9] (Zi 46 (fun u2 => #[.agg #[vI a1.Lo, vI a1.Hi]]) (.bool t4) (fun u2 => (t3 == false)) [true, false] 9 [] (fun u2 w hg _ => q9.calls a1  t4 w  (ifp ht4 hg))) <|
 .cons [10] (Zt 7 9 (fun u2 => true) (fun u2 => true) (fun u2 => t3) (fun u2 => t4) 10) <| .nil) [2, 3, 4, 10, 23, 24, 25] fun u2 a w' H => ?_
 refine Qr H (t3 || t4) (fun c9 => ?_) fun c9 => ?_
 ·rw [if_pos c9] at G
  obtain ⟨t6, ht6, G⟩ := qP G
  refine qg qd H (.cons [11] (qo 87 _ _ 11 [] (fun u5 w _ => Xf.calls   t6 w  ht6)) <|
 .cons [25] (QV 25 0 ((u1 2).n 0) [vI 0, vI 0] [vI t6.Lo, vI t6.Hi] 48 [vI t6.Lo, vI t6.Hi]) <| .nil) [4, 25] fun u5 a w' H => ?_
  refine q7 ?_
  obtain rfl := sj G
  exact Xe H _ 25 ((u1 2).n 0) [vI t6.Lo, vI t6.Hi] 48 0 2 (by kernel_rfl) (by kernel_rfl) (by kernel_rfl) (by kernel_rfl)
 ·rw [if_neg (nt c9)] at G
  refine qT ?_
  obtain ⟨t8, ht8, G⟩ := qP G
  refine qg qd H (.v 12 (vP ((u1 0).n 0) 0) <|
 .cons [13] (qv (vI a0.Lo) 13 23 0 1 ((u1 0).n 0) [vI a0.Lo, vI a0.Hi] 48) <|
 .v 14 (vP ((u1 1).n 0) 0) <|
 .cons [15] (qv (vI a1.Lo) 15 24 0 1 ((u1 1).n 0) [vI a1.Lo, vI a1.Hi] 48) <|
 .v 16 (vI (qe (a0.Lo + a1.Lo))) <|
 .v 17 (vP ((u1 0).n 0) 1) <|
 .cons [18] (qv (vI a0.Hi) 18 23 1 1 ((u1 0).n 0) [vI a0.Lo, vI a0.Hi] 48) <|
 .v 19 (vP ((u1 1).n 0) 1) <|
 .cons [20] (qv (vI a1.Hi) 20 24 1 1 ((u1 1).n 0) [vI a1.Lo, vI a1.Hi] 48) <|
 .v 21 (vI (qe (a0.Hi + a1.Hi))) <|
 .cons [22] (qo 68 _ _ 22 [] (fun u7 w _ => Xn.calls (qe (a0.Lo + a1.Lo)) (qe (a0.Hi + a1.Hi))  t8 w  ht8)) <|
 .cons [25] (QV 25 0 ((u1 2).n 0) [vI 0, vI 0] [vI t8.Lo, vI t8.Hi] 48 [vI t8.Lo, vI t8.Hi]) <| .nil) [4, 25] fun u7 a w' H => ?_
  refine q7 ?_
  obtain rfl := sj G
  exact Xe H _ 25 ((u1 2).n 0) [vI t8.Lo, vI t8.Hi] 48 0 2 (by kernel_rfl) (by kernel_rfl) (by kernel_rfl) (by kernel_rfl)
theorem YI.calls (a0 : qa) (r : qa) (w : World) (G : YI a0 = some r) :
  Calls Tryz.prog 98 #[.agg #[vI a0.Lo, vI a0.Hi]] w fun e w' => e = .returned (.agg #[vI r.Lo, vI r.Hi]) ∧ Below w.heap.size w w' := by
 refine Q4 (args := [.agg #[vI a0.Lo, vI a0.Hi]]) 10 Tryz.func98 rfl (by kernel_rfl) (by kernel_rfl) fun a H => ?_
 unfold YI at G
 refine qg qd H (.cons [1, 10] (qH (fun b => vP b 0) (fun u1 => [vI a0.Lo, vI a0.Hi]) 48 1 10) <|
 .cons [2, 11] (qH (fun b => vP b 0) (fun u1 => [vI 0, vI 0]) 48 2 11) <| .nil) [1, 2, 10, 11] fun u1 a w' H => ?_
 refine qg qd H (.v 3 (vP ((u1 0).n 0) 1) <|
 .cons [4] (qv (vI a0.Hi) 4 10 1 1 ((u1 0).n 0) [vI a0.Lo, vI a0.Hi] 48) <|
 .v 5 (vI (qe (0 - a0.Hi))) <|
 .v 6 (vP ((u1 0).n 0) 0) <|
 .cons [7] (qv (vI a0.Lo) 7 10 0 1 ((u1 0).n 0) [vI a0.Lo, vI a0.Hi] 48) <|
 .v 8 (vI (qe (0 - a0.Lo))) <|
 .v 9 (.agg #[vI (qe (0 - a0.Hi)), vI (qe (0 - a0.Lo))]) <|
 .cons [11] (QV 11 0 ((u1 1).n 0) [vI 0, vI 0] [vI (qe (0 - a0.Hi)), vI (qe (0 - a0.Lo))] 48 [vI (qe (0 - a0.Hi)), vI (qe (0 - a0.Lo))]) <| .nil) [2, 11] fun u2 a w' H => ?_
 refine q7 ?_
 obtain rfl := sj G
 exact Xe H _ 11 ((u1 1).n 0) [vI (qe (0 - a0.Hi)), vI (qe (0 - a0.Lo))] 48 0 2 (by kernel_rfl) (by kernel_rfl) (by kernel_rfl) (by kernel_rfl)
theorem Ym.calls (a0 : qa) (a1 : qa) (r : qa) (w : World) (G : Ym a0 a1 = some r) :
  Calls Tryz.prog 86 #[.agg #[vI a0.Lo, vI a0.Hi], .agg #[vI a1.Lo, vI a1.Hi]] w fun e w' => e = .returned (.agg #[vI r.Lo, vI r.Hi]) ∧ Below w.heap.size w w' := by
 refine Q4 (args := [.agg #[vI a0.Lo, vI a0.Hi], .agg #[vI a1.Lo, vI a1.Hi]]) 9 Tryz.func86 rfl (by kernel_rfl) (by kernel_rfl) fun a H => ?_
 unfold Ym at G
 refine qg qd H (.cons [2, 9] (qH (fun b => vP b 0) (fun u1 => [vI a0.Lo, vI a0.Hi]) 48 2 9) <|
 .cons [3, 10] (qH (fun b => vP b 0) (fun u1 => [vI a1.Lo, vI a1.Hi]) 48 3 10) <|
 .cons [4, 11] (qH (fun b => vP b 0) (fun u1 => [vI 0, vI 0]) 48 4 11) <| .nil) [2, 3, 4, 9, 10, 11] fun u1 a w' H => ?_
 obtain ⟨t3, ht3, G⟩ := qP G
 obtain ⟨t4, ht4, G⟩ := qP G
 refine qg qd H (.cons [5] (qv (.agg #[vI a0.Lo, vI a0.Hi]) 5 9 0 2 ((u1 0).n 0) [vI a0.Lo, vI a0.Hi] 48) <|
 .cons [6] (qv (.agg #[vI a1.Lo, vI a1.Hi]) 6 10 0 2 ((u1 1).n 0) [vI a1.Lo, vI a1.Hi] 48) <|
 .cons [7] (qo 98 _ _ 7 [] (fun u2 w _ => YI.calls a1  t3 w  ht3)) <|
 .cons [8] (qo 55 _ _ 8 [] (fun u2 w _ => XZ.calls a0 t3  t4 w  ht4)) <|
 .cons [11] (QV 11 0 ((u1 2).n 0) [vI 0, vI 0] [vI t4.Lo, vI t4.Hi] 48 [vI t4.Lo, vI t4.Hi]) <| .nil) [4, 11] fun u2 a w' H => ?_
 refine q7 ?_
 obtain rfl := sj G
 exact Xe H _ 11 ((u1 2).n 0) [vI t4.Lo, vI t4.Hi] 48 0 2 (by kernel_rfl) (by kernel_rfl) (by kernel_rfl) (by kernel_rfl)
theorem qE.calls (k0 : Nat) (a0 : List (List qa)) (a1 : Int) (p_a0 : Option Addr) (c_a0 : Nat) (L_a0 : List (Sl qa)) (r : List (List qa)) (w : World) (h_a0 : a0 = L_a0.map Sl.l) (hB : Yj [Qh qi 1 p_a0 c_a0 L_a0 ql, QA qi qc.toPart L_a0] w) (G : qE k0 a0 a1 = some r) :
  Calls Tryz.prog 45 #[.slice p_a0 L_a0.length c_a0, vI a1] w fun e w' => ∃ g : Gh, e = .returned (slgd_S_TInterval g 0 r) ∧ Y7 (YT []) w w' ∧ YD w.heap.size (YT []) (JG w.heap.size []) [fun _ => QU 22 1 (g.o 0) (g.n 0) (dlgd_S_TInterval g 0 r) ql, fun fr => QA fr qc.toPart (dlgd_S_TInterval g 0 r)] w' := by
 obtain ⟨fr, hfr, hBf⟩ := J4 w []
 refine QQ (args := [.slice p_a0 L_a0.length c_a0, vI a1]) 88 [(88, Qh qi 1 p_a0 c_a0 L_a0 ql), (89, QA qi qc.toPart L_a0)] (by
  intro x hx
  simp only [List.mem_cons, List.not_mem_nil, or_false] at hx
  rcases hx with rfl | rfl
  ·exact Ql (qq hB.1) (fun _ _ => trivial) (by decide) _
  ·exact Xt (Qb hB.2.1) (fun _ _ => trivial) _) Tryz.func45 rfl (by kernel_rfl) (by kernel_rfl) fun a H => ?_
 unfold qE at G
 refine qg qd H (.v 4 (.slice none 0 0) <| .nil) [0, 1, 88, 89] fun u1 a w' H => ?_
 refine qg qd H (.cons [11, 90] (qH (fun b => .slice (some ⟨b, 0, none⟩) 0 0) (fun u2 => []) 48 11 90) <|
 .cons [12, 91] (qH (fun b => .slice (some ⟨b, 0, none⟩) 0 0) (fun u2 => []) 22 12 91) <|
 .cons [5] (qp (fun u2 => .slice (some ⟨((u2 0).n 0), 0, none⟩) 0 0) 5) <|
 .cons [6] (qp (fun u2 => .slice (some ⟨((u2 1).n 0), 0, none⟩) 0 0) 6) <| .nil) [0, 1, 5, 6, 88, 89, 90, 91] fun u2 a w' H => ?_
 refine qs ?_
 obtain ⟨j4, hj4, G⟩ := qP G
 refine Qw (fun a w' => ∃ (p_j3 : Option Addr) (c_j3 np_j3 : Nat), np_j3 = j4.length ∧ RL w 88 [(0, sS p_a0 L_a0.length c_a0), (1, sI a1), (5, sS p_j3 np_j3 c_j3), (6, (sS (some ⟨((u2 1).n 0), 0, none⟩) 0 0)), (88, Qh qi 1 p_a0 c_a0 L_a0 ql), (89, QA qi qc.toPart L_a0), (91, .blk ((u2 1).n 0) [] 22), (900114, rdF fr 2 p_j3 np_j3 c_j3 (j4.flatMap qb))] a w') ?_ ?_
 ·clear H; rintro a w' ⟨p_j3, c_j3, _, rfl, H⟩
  refine qs ?_
  obtain ⟨j6, hj6, G⟩ := qP G
  refine Qw (fun a w' => ∃ (p_j5 : Option Addr) (c_j5 np_j5 : Nat) (L_j5 : List (Sl qa)), np_j5 = L_j5.length ∧ j6 = L_j5.map Sl.l ∧ RL w 88 [(6, sS p_j5 np_j5 c_j5), (900115, Yo 22 1 p_j5 np_j5 c_j5 (L_j5.flatMap ql)), (900116, QA fr qc.toPart L_j5)] a w') ?_ ?_
  ·clear H; rintro a w' ⟨p_j5, c_j5, _, L_j5, rfl, h_j5, H⟩
   refine qg qd H (.v 87 (.slice p_j5 L_j5.length c_j5) <|
 .v 4 (.slice p_j5 L_j5.length c_j5) <| .nil) [4, 900115, 900116] fun u7 a w' H => ?_
   refine q7 ?_
   obtain rfl := sj G
   obtain ⟨g, o0, n0, d0⟩ := ZQ QS p_j5 c_j5 h_j5
   refine Xo H _ g _ _ _ fr [900115, 900116] [] (.slice p_j5 L_j5.length c_j5) [fun _ => QU 22 1 p_j5 c_j5 L_j5 ql, fun fr => QA fr qc.toPart L_j5] (by simp only [slgd_S_TInterval, dlgd_S_TInterval, ns_en_TIntervalg, qf, qj, QU, o0, n0, d0]) (by simp only [slgd_S_TInterval, dlgd_S_TInterval, ns_en_TIntervalg, qf, qj, QU, o0, n0, d0]) hfr (.inl ⟨rfl, rfl⟩) (qx X2 (qx Jc qI)) (by simp)
  ·clear G; replace G := hj6; clear hj6
   refine qg qd H (.v 8 (vI 0) <| .nil) [0, 1, 5, 6, 8, 88, 89, 91, 900114] fun u8 a w' H => ?_
   refine qA ?_
   replace H := H.blk_row 91 ((u2 1).n 0) [] 22 1 0 (by kernel_rfl) (by kernel_rfl) (by decide)
   replace H := H.add0 106 (QA fr qc.toPart ([] : List (Sl qa))) (by intro _ _ h; cases h) (Zf Zw (fun j h => by obtain ⟨_, hy, _⟩ := h; cases hy)) (fun j h => by obtain ⟨_, hy, _⟩ := h; cases hy)
   replace H := H.move (K := Yo 22 1 (some ⟨((u2 1).n 0), 0, none⟩) 0 0 (([] : List (Sl qa)).flatMap ql)) 91 900117 (by kernel_rfl) (by intro _ _ h; cases h)
   replace H := H.dup (K := QA fr qc.toPart ([] : List (Sl qa))) 106 900118 (by kernel_rfl) (fun h => h) (by intro _ _ h; cases h)
   refine Qv (fun m a w' => ∃ x9 : List (List qa), ∃ x10 : Int, qE.l11 k0 a0 a1 j4 m x9 x10 = some j6 ∧ ∃ (p_x9 : Option Addr) (c_x9 np_x9 : Nat) (L_x9 : List (Sl qa)), np_x9 = L_x9.length ∧ x9 = L_x9.map Sl.l ∧ RL w 88 [(0, sS p_a0 L_a0.length c_a0), (1, sI a1), (5, sS p_j3 j4.length c_j3), (6, sS p_x9 np_x9 c_x9), (8, sI x10), (88, Qh qi 1 p_a0 c_a0 L_a0 ql), (89, QA qi qc.toPart L_a0), (900114, Qh fr 2 p_j3 c_j3 j4 qb), (900117, Yo 22 1 p_x9 np_x9 c_x9 (L_x9.flatMap ql)), (900118, QA fr qc.toPart L_x9)] a w') k0 ⟨_, _, G, (some ⟨((u2 1).n 0), 0, none⟩), 0, 0, ([] : List (Sl qa)), rfl, rfl, H.toM _⟩ ?_
   clear G H
   rintro (_ | k) a w' ⟨x9, x10, G, p_x9, c_x9, _, L_x9, rfl, h_x9, H⟩
   ·exact absurd G (by unfold qE.l11; exact fun h => by cases h)
   ·unfold qE.l11 at G
    refine qs ?_
    refine qg qd H (.v 40 (vI x10) <|
 .v 41 (.slice p_a0 L_a0.length c_a0) <|
 .cons [42] (qy 88 (Qh qi 1 p_a0 c_a0 L_a0 ql) (vI (a0.length : Int)) 42 fun _ w h => Q7 (((qq h).2.len qk (by decide)).trans (qD h_a0).symm) (by kernel_rfl)) <|
 .v 43 (.bool (decide (x10 < (a0.length : Int)))) <| .nil) [0, 1, 5, 6, 8, 43, 88, 89, 900114, 900117, 900118] fun u12 a w' H => ?_
    refine Qr H (decide (x10 < (a0.length : Int))) (fun c49 => ?_) fun c49 => ?_
    ·rw [if_pos c49] at G
     refine qT ?_
     refine qs ?_
     obtain ⟨j14, hj14, G⟩ := qP G
     refine Qw (fun a w' => ∃ (p_j13 : Option Addr) (c_j13 np_j13 : Nat) (L_j13 : List (Sl qa)), np_j13 = L_j13.length ∧ j14 = L_j13.map Sl.l ∧ RL w 88 [(0, sS p_a0 L_a0.length c_a0), (1, sI a1), (5, sS p_j3 j4.length c_j3), (6, sS p_j13 np_j13 c_j13), (8, sI x10), (88, Qh qi 1 p_a0 c_a0 L_a0 ql), (89, QA qi qc.toPart L_a0), (900114, Qh fr 2 p_j3 c_j3 j4 qb), (900119, Yo 22 1 p_j13 np_j13 c_j13 (L_j13.flatMap ql)), (900120, QA fr qc.toPart L_j13)] a w') ?_ ?_
     ·clear H; rintro a w' ⟨p_j13, c_j13, _, L_j13, rfl, h_j13, H⟩
      refine qN qd H (.v 44 (vI x10) <|
 .v 45 (vI (qe (x10 + 1))) <|
 .v 8 (vI (qe (x10 + 1))) <| .nil) [0, 1, 5, 6, 8, 88, 89, 900114, 900119, 900120] fun u15 a w' H => ?_
      replace H := H.move (K := QU 22 1 p_j13 c_j13 L_j13 ql) 900119 900117 (by kernel_rfl) (by intro _ _ h; cases h)
      replace H := H.dup (K := QA fr qc.toPart L_j13) 900120 900118 (by kernel_rfl) (fun h => h) (by intro _ _ h; cases h)
      exact ⟨k, Nat.lt_succ_self k, _, _, G, p_j13, c_j13, L_j13.length, L_j13, rfl, h_j13, H.toM _⟩
     ·clear G; replace G := hj14; clear hj14
      refine qA ?_
      refine qg qd H (.v 46 (.slice p_j3 j4.length c_j3) <|
 .v 9 (.slice p_j3 j4.length c_j3) <| .nil) [0, 1, 5, 6, 8, 9, 88, 89, 900114, 900117, 900118] fun u16 a w' H => ?_
      refine qs ?_
      obtain ⟨j18, hj18, G⟩ := qP G
      refine Qw (fun a w' => ∃ (p_j17 : Option Addr) (c_j17 np_j17 : Nat), np_j17 = j18.length ∧ RL w 88 [(0, sS p_a0 L_a0.length c_a0), (1, sI a1), (5, sS p_j3 j4.length c_j3), (6, sS p_x9 L_x9.length c_x9), (8, sI x10), (9, sS p_j17 np_j17 c_j17), (88, Qh qi 1 p_a0 c_a0 L_a0 ql), (89, QA qi qc.toPart L_a0), (900114, Qh fr 2 p_j3 c_j3 j4 qb), (900117, QU 22 1 p_x9 c_x9 L_x9 ql), (900118, QA fr qc.toPart L_x9), (900121, rdF fr 2 p_j17 np_j17 c_j17 (j18.flatMap qb))] a w') ?_ ?_
      ·clear H; rintro a w' ⟨p_j17, c_j17, _, rfl, H⟩
       replace G := gd G; obtain ⟨b20, G⟩ := G
       refine qN qd H (.v 83 (.slice p_x9 L_x9.length c_x9) <|
 .v 84 (.slice p_j17 j18.length c_j17) <|
 .cons [85, 94] (qH (fun b => .slice (some ⟨b, 0, none⟩) 1 1) (fun u19 => [.slice p_j17 j18.length c_j17]) 22 85 94) <|
 .cons [86, 900117, 900117, 95] (Vq [2] [900118, 94, 900121] (fun u19 => [QA fr qc.toPart L_x9, .blk ((u19 2).n 0) [.slice p_j17 j18.length c_j17] 22, Qh fr 2 p_j17 c_j17 j18 qb]) 900117 95 (fun u19 => QU 22 1 p_x9 c_x9 L_x9 ql) (some 86) (fun u19 g => .slice (g.o 0) (L_x9 ++ [(⟨p_j17, c_j17, j18⟩ : Sl qa)]).length (g.n 0)) (fun u19 g => QU 22 1 (g.o 0) (g.n 0) (L_x9 ++ [(⟨p_j17, c_j17, j18⟩ : Sl qa)]) ql) (fun u19 g => QA fr qc.toPart (L_x9 ++ [(⟨p_j17, c_j17, j18⟩ : Sl qa)])) (fun u19 w hF hK => qa5 (Q8 (t := 25) (ty := 25) (en := ql) qk J2 (QN hK) hF.2.1 (news := [(⟨p_j17, c_j17, j18⟩ : Sl qa)]) rfl (by simp) (by kernel_rfl) (by rw [← qD h_x9]; exact b20)) (qcl hF.1 (.head _) ⟨(qq hF.2.2.1), fun _ _ => trivial⟩ (fun j h => (h.elim (fun h => qaa (.tail _ (.tail _ (.head _))) (fun h => h) h (qaX hF.2.2.1 _ h)) (fun ⟨_, _, hz⟩ => hz.elim))))) (hloc := fun u u' h => ⟨by first | rfl | simp only [h 2 (by decide)], by first | rfl | simp only [h 2 (by decide)], by first | rfl | simp only [h 2 (by decide)], by first | rfl | simp only [h 2 (by decide)], by first | rfl | simp only [h 2 (by decide)]⟩)) <|
 .cons [6] (qp (fun u19 => .slice ((u19 3).o 0) ((L_x9 ++ [(⟨p_j17, c_j17, j18⟩ : Sl qa)]).length) ((u19 3).n 0)) 6) <| .nil) [0, 1, 5, 6, 8, 88, 89, 95, 900114, 900117] fun u19 a w' H => ?_
       obtain rfl := sj G
       replace H := H.move (K := QU 22 1 ((u19 3).o 0) ((u19 3).n 0) (L_x9 ++ [(⟨p_j17, c_j17, j18⟩ : Sl qa)]) ql) 900117 900119 (by kernel_rfl) (by intro _ _ h; cases h)
       replace H := H.dup (K := QA fr qc.toPart (L_x9 ++ [(⟨p_j17, c_j17, j18⟩ : Sl qa)])) 95 900120 (by kernel_rfl) (fun h => h) (by intro _ _ h; cases h)
       exact ⟨((u19 3).o 0), ((u19 3).n 0), (L_x9 ++ [(⟨p_j17, c_j17, j18⟩ : Sl qa)]).length, (L_x9 ++ [(⟨p_j17, c_j17, j18⟩ : Sl qa)]), rfl, (ZX h_x9 (⟨p_j17, c_j17, j18⟩ : Sl qa)), H.toM _⟩
      ·clear G; replace G := hj18; clear hj18
       refine qg qd H (.v 47 (vI x10) <|
 .v 48 (vI a1) <|
 .v 49 (.bool (x10 != a1)) <| .nil) [0, 1, 5, 6, 8, 9, 49, 88, 89, 900114, 900117, 900118] fun u21 a w' H => ?_
       refine Qr H (x10 != a1) (fun c48 => ?_) fun c48 => ?_
       ·rw [if_pos c48] at G
        refine qg qd H (.cons [50, 98] (qH (fun b => .slice (some ⟨b, 0, none⟩) 0 0) (fun u22 => []) 48 50 98) <|
 .cons [9] (qp (fun u22 => .slice (some ⟨((u22 0).n 0), 0, none⟩) 0 0) 9) <| .nil) [0, 1, 5, 6, 8, 9, 88, 89, 98, 900114, 900117, 900118] fun u22 a w' H => ?_
        refine qg qd H (.v 10 (vI 0) <| .nil) [0, 1, 5, 6, 8, 9, 10, 88, 89, 98, 900114, 900117, 900118] fun u23 a w' H => ?_
        refine qA ?_
        replace H := H.blk_row 98 ((u22 0).n 0) [] 48 2 0 (by kernel_rfl) (by kernel_rfl) (by decide)
        replace H := H.move (K := Yo 48 2 (some ⟨((u22 0).n 0), 0, none⟩) 0 0 (([] : List qa).flatMap qb)) 98 900122 (by kernel_rfl) (by intro _ _ h; cases h)
        refine Qv (fun m a w' => ∃ x24 : List qa, ∃ x25 : Int, qE.l26 k0 a0 a1 j4 x9 x10 m x24 x25 = some j18 ∧ ∃ (p_x24 : Option Addr) (c_x24 np_x24 : Nat), np_x24 = x24.length ∧ RL w 88 [(0, sS p_a0 L_a0.length c_a0), (1, sI a1), (5, sS p_j3 j4.length c_j3), (6, sS p_x9 L_x9.length c_x9), (8, sI x10), (9, sS p_x24 np_x24 c_x24), (10, sI x25), (88, Qh qi 1 p_a0 c_a0 L_a0 ql), (89, QA qi qc.toPart L_a0), (900114, Qh fr 2 p_j3 c_j3 j4 qb), (900117, QU 22 1 p_x9 c_x9 L_x9 ql), (900118, QA fr qc.toPart L_x9), (900122, Yo 48 2 p_x24 np_x24 c_x24 (x24.flatMap qb))] a w') k0 ⟨_, _, G, (some ⟨((u22 0).n 0), 0, none⟩), 0, 0, rfl, H.toM _⟩ ?_
        clear G H
        rintro (_ | k) a w' ⟨x24, x25, G, p_x24, c_x24, _, rfl, H⟩
        ·exact absurd G (by unfold qE.l26; exact fun h => by cases h)
        ·unfold qE.l26 at G
         refine qs ?_
         refine qs ?_
         replace G := gd G; obtain ⟨b28, G⟩ := G
         obtain ⟨t29, ht29, G⟩ := qP G
         obtain ⟨p_t29, c_t29, y_t29⟩ := QE h_a0 ht29
         refine qN qd H (.v 51 (vI x25) <|
 .v 52 (.slice p_a0 L_a0.length c_a0) <|
 .v 53 (vI x10) <|
 .cons [54] (qy 88 (Qh qi 1 p_a0 c_a0 L_a0 ql) (.pointer (some ⟨XB p_a0, XC p_a0 + x10.toNat * 1, none⟩)) 54 fun _ w h => YQ 25 .i64 x10 p_a0 L_a0.length c_a0 a0 ql (qq h).2 qk (qD h_a0) b28) <|
 .cons [55] (qy 88 (Qh qi 1 p_a0 c_a0 L_a0 ql) (.slice p_t29 t29.length c_t29) 55 fun _ w h => Ya ql (qq h).2 qk y_t29 0 1 [.slice p_t29 t29.length c_t29]) <|
 .v 56 (vI (t29.length : Int)) <|
 .v 57 (.bool (decide (x25 < (t29.length : Int)))) <| .nil) [0, 1, 5, 6, 8, 9, 10, 57, 88, 89, 900114, 900117, 900118, 900122] fun u27 a w' H => ?_
         refine Qr H (decide (x25 < (t29.length : Int))) (fun c47 => ?_) fun c47 => ?_
         ·rw [if_pos c47] at G
          refine qT ?_
          refine qs ?_
          refine qA ?_
          replace G := gd G; obtain ⟨b31, G⟩ := G
          obtain ⟨t32, ht32, G⟩ := qP G
          obtain ⟨p_t32, c_t32, y_t32⟩ := QE h_a0 ht32
          have P33 := XT (en := ql) (l := L_a0) (qq (H.at (K := Qh qi 1 p_a0 c_a0 L_a0 ql) 88 (by kernel_rfl))).2 qk
          replace G := gd G; obtain ⟨b34, G⟩ := G
          obtain ⟨t35, ht35, G⟩ := qP G
          replace G := gd G; obtain ⟨b36, G⟩ := G
          obtain ⟨t37, ht37, G⟩ := qP G
          obtain ⟨p_t37, c_t37, y_t37⟩ := QE h_a0 ht37
          replace G := gd G; obtain ⟨b38, G⟩ := G
          obtain ⟨t39, ht39, G⟩ := qP G
          replace G := gd G; obtain ⟨b40, G⟩ := G
          obtain ⟨t41, ht41, G⟩ := qP G
          have P42 := XT (en := qb) (l := j4) (qq (H.at (K := Qh fr 2 p_j3 c_j3 j4 qb) 900114 (by kernel_rfl))).2 qh
          obtain ⟨t43, ht43, G⟩ := qP G
          obtain ⟨t44, ht44, G⟩ := qP G
          replace G := gd G; obtain ⟨b45, G⟩ := G
          refine qN qd H (.v 60 (.slice p_x24 x24.length c_x24) <|
 .v 61 (.slice p_a0 L_a0.length c_a0) <|
 .v 62 (vI x10) <|
 .cons [63] (qp (fun u30 => .pointer (some ⟨XB p_a0, XC p_a0 + x10.toNat * 1, none⟩)) 63 (hv := fun _ _ => QH (t := 25) (k := .i64) (i := x10) (p := p_a0) (n := L_a0.length) (cap := c_a0) (x := a0) P33 (qD h_a0) b31 (by kernel_rfl))) <|
 .cons [64] (qy 88 (Qh qi 1 p_a0 c_a0 L_a0 ql) (.slice p_t32 t32.length c_t32) 64 fun _ w h => Ya ql (qq h).2 qk y_t32 0 1 [.slice p_t32 t32.length c_t32]) <|
 .v 65 (vI x25) <|
 .cons [66] (qy 89 (QA qi qc.toPart L_a0) (.pointer (some ⟨XB p_t32, XC p_t32 + x25.toNat * 2, none⟩)) 66 fun _ w h => YQ 22 .i64 x25 p_t32 t32.length c_t32 t32 qb (show Xv _ 2 p_t32 t32.length c_t32 (t32.flatMap qb) from ((Qb h) _ (List.mem_of_getElem? y_t32)).1).2 qh rfl b34) <|
 .cons [67] (qy 89 (QA qi qc.toPart L_a0) (.agg #[vI t35.Lo, vI t35.Hi]) 67 fun _ w h => Ya qb (show Xv _ 2 p_t32 t32.length c_t32 (t32.flatMap qb) from ((Qb h) _ (List.mem_of_getElem? y_t32)).1).2 qh ht35 0 2 [vI t35.Lo, vI t35.Hi]) <|
 .v 68 (.slice p_a0 L_a0.length c_a0) <|
 .v 69 (vI x10) <|
 .cons [70] (qp (fun u30 => .pointer (some ⟨XB p_a0, XC p_a0 + x10.toNat * 1, none⟩)) 70 (hv := fun _ _ => QH (t := 25) (k := .i64) (i := x10) (p := p_a0) (n := L_a0.length) (cap := c_a0) (x := a0) P33 (qD h_a0) b36 (by kernel_rfl))) <|
 .cons [71] (qy 88 (Qh qi 1 p_a0 c_a0 L_a0 ql) (.slice p_t37 t37.length c_t37) 71 fun _ w h => Ya ql (qq h).2 qk y_t37 0 1 [.slice p_t37 t37.length c_t37]) <|
 .v 72 (vI a1) <|
 .cons [73] (qy 89 (QA qi qc.toPart L_a0) (.pointer (some ⟨XB p_t37, XC p_t37 + a1.toNat * 2, none⟩)) 73 fun _ w h => YQ 22 .i64 a1 p_t37 t37.length c_t37 t37 qb (show Xv _ 2 p_t37 t37.length c_t37 (t37.flatMap qb) from ((Qb h) _ (List.mem_of_getElem? y_t37)).1).2 qh rfl b38) <|
 .cons [74] (qy 89 (QA qi qc.toPart L_a0) (.agg #[vI t39.Lo, vI t39.Hi]) 74 fun _ w h => Ya qb (show Xv _ 2 p_t37 t37.length c_t37 (t37.flatMap qb) from ((Qb h) _ (List.mem_of_getElem? y_t37)).1).2 qh ht39 0 2 [vI t39.Lo, vI t39.Hi]) <|
 .v 75 (.slice p_j3 j4.length c_j3) <|
 .v 76 (vI x25) <|
 .cons [77] (qp (fun u30 => .pointer (some ⟨XB p_j3, XC p_j3 + x25.toNat * 2, none⟩)) 77 (hv := fun _ _ => QH (t := 22) (k := .i64) (i := x25) (p := p_j3) (n := j4.length) (cap := c_j3) (x := j4) P42 rfl b40 (by kernel_rfl))) <|
 .cons [78] (qy 900114 (Qh fr 2 p_j3 c_j3 j4 qb) (.agg #[vI t41.Lo, vI t41.Hi]) 78 fun _ w h => Ya qb (qq h).2 qh ht41 0 2 [vI t41.Lo, vI t41.Hi]) <|
 .cons [79] (qo 54 _ _ 79 [] (fun u30 w _ => QC.calls k0 t39 t41  t43 w  ht43)) <|
 .cons [80] (qo 86 _ _ 80 [] (fun u30 w _ => Ym.calls t35 t43  t44 w  ht44)) <|
 .cons [81, 99] (qH (fun b => .slice (some ⟨b, 0, none⟩) 1 1) (fun u30 => [vI t44.Lo, vI t44.Hi]) 48 81 99) <|
 .cons [82, 900122, 900122] (Xs [21] [99] (fun u30 => [.blk ((u30 21).n 0) [vI t44.Lo, vI t44.Hi] 48]) 900122 (fun u30 => QU 48 2 p_x24 c_x24 x24 qb) (some 82) (fun u30 g => .slice (g.o 0) (x24 ++ [t44]).length (g.n 0)) (fun u30 g => QU 48 2 (g.o 0) (g.n 0) (x24 ++ [t44]) qb) (fun u30 w hF hK => ZB (Q8 (t := 22) (ty := 22) (en := qb) qh Jd (QN hK) hF.1 (news := [t44]) rfl (by simp) (by kernel_rfl) b45)) (hloc := fun u u' h => ⟨by first | rfl | simp only [h 21 (by decide)], by first | rfl | simp only [h 21 (by decide)], by first | rfl | simp only [h 21 (by decide)], by first | rfl | simp only [h 21 (by decide)]⟩)) <|
 .cons [9] (qp (fun u30 => .slice ((u30 22).o 0) ((x24 ++ [t44]).length) ((u30 22).n 0)) 9) <| .nil) [0, 1, 5, 6, 8, 9, 10, 88, 89, 900114, 900117, 900118, 900122] fun u30 a w' H => ?_
          refine qN qd H (.v 58 (vI x25) <|
 .v 59 (vI (qe (x25 + 1))) <|
 .v 10 (vI (qe (x25 + 1))) <| .nil) [0, 1, 5, 6, 8, 9, 10, 88, 89, 900114, 900117, 900118, 900122] fun u46 a w' H => ?_
          exact ⟨k, Nat.lt_succ_self k, _, _, G, ((u30 22).o 0), ((u30 22).n 0), (x24 ++ [t44]).length, rfl, H.toM _⟩
         ·rw [if_neg (nt c47)] at G
          refine QO rfl ?_
          obtain rfl := sj G
          replace H := H.demote fr 900122 48 2 p_x24 x24.length c_x24 (x24.flatMap qb) (by kernel_rfl) (by decide) hBf
          replace H := H.dup (K := Qh fr 2 p_x24 c_x24 x24 qb) 900122 900121 (by kernel_rfl) (fun h => h) (by intro _ _ h; cases h)
          exact ⟨p_x24, c_x24, x24.length, rfl, H.toM _⟩
       ·rw [if_neg (nt c48)] at G
        refine qT ?_
        obtain rfl := sj G
        replace H := H.dup (K := Qh fr 2 p_j3 c_j3 j4 qb) 900114 900121 (by kernel_rfl) (fun h => h) (by intro _ _ h; cases h)
        exact ⟨p_j3, c_j3, j4.length, rfl, H.toM _⟩
    ·rw [if_neg (nt c49)] at G
     refine QO rfl ?_
     obtain rfl := sj G
     replace H := H.move (K := QU 22 1 p_x9 c_x9 L_x9 ql) 900117 900115 (by kernel_rfl) (by intro _ _ h; cases h)
     replace H := H.dup (K := QA fr qc.toPart L_x9) 900118 900116 (by kernel_rfl) (fun h => h) (by intro _ _ h; cases h)
     exact ⟨p_x9, c_x9, L_x9.length, L_x9, rfl, h_x9, H.toM _⟩
 ·clear G; replace G := hj4; clear hj4
  refine qg qd H (.v 7 (vI 0) <| .nil) [0, 1, 5, 6, 7, 88, 89, 90, 91] fun u50 a w' H => ?_
  refine qA ?_
  replace H := H.blk_row 90 ((u2 0).n 0) [] 48 2 0 (by kernel_rfl) (by kernel_rfl) (by decide)
  replace H := H.move (K := Yo 48 2 (some ⟨((u2 0).n 0), 0, none⟩) 0 0 (([] : List qa).flatMap qb)) 90 900123 (by kernel_rfl) (by intro _ _ h; cases h)
  refine Qv (fun m a w' => ∃ x51 : List qa, ∃ x52 : Int, qE.l53 k0 a0 a1 m x51 x52 = some j4 ∧ ∃ (p_x51 : Option Addr) (c_x51 np_x51 : Nat), np_x51 = x51.length ∧ RL w 88 [(0, sS p_a0 L_a0.length c_a0), (1, sI a1), (5, sS p_x51 np_x51 c_x51), (6, (sS (some ⟨((u2 1).n 0), 0, none⟩) 0 0)), (7, sI x52), (88, Qh qi 1 p_a0 c_a0 L_a0 ql), (89, QA qi qc.toPart L_a0), (91, .blk ((u2 1).n 0) [] 22), (900123, Yo 48 2 p_x51 np_x51 c_x51 (x51.flatMap qb))] a w') k0 ⟨_, _, G, (some ⟨((u2 0).n 0), 0, none⟩), 0, 0, rfl, H.toM _⟩ ?_
  clear G H
  rintro (_ | k) a w' ⟨x51, x52, G, p_x51, c_x51, _, rfl, H⟩
  ·exact absurd G (by unfold qE.l53; exact fun h => by cases h)
  ·unfold qE.l53 at G
   refine qs ?_
   refine qs ?_
   replace G := gd G; obtain ⟨b55, G⟩ := G
   obtain ⟨t56, ht56, G⟩ := qP G
   obtain ⟨p_t56, c_t56, y_t56⟩ := QE h_a0 ht56
   refine qN qd H (.v 13 (vI x52) <|
 .v 14 (.slice p_a0 L_a0.length c_a0) <|
 .v 15 (vI a1) <|
 .cons [16] (qy 88 (Qh qi 1 p_a0 c_a0 L_a0 ql) (.pointer (some ⟨XB p_a0, XC p_a0 + a1.toNat * 1, none⟩)) 16 fun _ w h => YQ 25 .i64 a1 p_a0 L_a0.length c_a0 a0 ql (qq h).2 qk (qD h_a0) b55) <|
 .cons [17] (qy 88 (Qh qi 1 p_a0 c_a0 L_a0 ql) (.slice p_t56 t56.length c_t56) 17 fun _ w h => Ya ql (qq h).2 qk y_t56 0 1 [.slice p_t56 t56.length c_t56]) <|
 .v 18 (vI (t56.length : Int)) <|
 .v 19 (.bool (decide (x52 < (t56.length : Int)))) <| .nil) [0, 1, 5, 6, 7, 19, 88, 89, 91, 900123] fun u54 a w' H => ?_
   refine Qr H (decide (x52 < (t56.length : Int))) (fun c70 => ?_) fun c70 => ?_
   ·rw [if_pos c70] at G
    refine qT ?_
    refine qs ?_
    refine qA ?_
    replace G := gd G; obtain ⟨b58, G⟩ := G
    obtain ⟨t59, ht59, G⟩ := qP G
    obtain ⟨p_t59, c_t59, y_t59⟩ := QE h_a0 ht59
    have P60 := XT (en := ql) (l := L_a0) (qq (H.at (K := Qh qi 1 p_a0 c_a0 L_a0 ql) 88 (by kernel_rfl))).2 qk
    replace G := gd G; obtain ⟨b61, G⟩ := G
    obtain ⟨t62, ht62, G⟩ := qP G
    replace G := gd G; obtain ⟨b63, G⟩ := G
    obtain ⟨t64, ht64, G⟩ := qP G
    obtain ⟨p_t64, c_t64, y_t64⟩ := QE h_a0 ht64
    replace G := gd G; obtain ⟨b65, G⟩ := G
    obtain ⟨t66, ht66, G⟩ := qP G
    obtain ⟨t67, ht67, G⟩ := qP G
    replace G := gd G; obtain ⟨b68, G⟩ := G
    refine qN qd H (.v 22 (.slice p_x51 x51.length c_x51) <|
 .v 23 (.slice p_a0 L_a0.length c_a0) <|
 .v 24 (vI a1) <|
 .cons [25] (qp (fun u57 => .pointer (some ⟨XB p_a0, XC p_a0 + a1.toNat * 1, none⟩)) 25 (hv := fun _ _ => QH (t := 25) (k := .i64) (i := a1) (p := p_a0) (n := L_a0.length) (cap := c_a0) (x := a0) P60 (qD h_a0) b58 (by kernel_rfl))) <|
 .cons [26] (qy 88 (Qh qi 1 p_a0 c_a0 L_a0 ql) (.slice p_t59 t59.length c_t59) 26 fun _ w h => Ya ql (qq h).2 qk y_t59 0 1 [.slice p_t59 t59.length c_t59]) <|
 .v 27 (vI x52) <|
 .cons [28] (qy 89 (QA qi qc.toPart L_a0) (.pointer (some ⟨XB p_t59, XC p_t59 + x52.toNat * 2, none⟩)) 28 fun _ w h => YQ 22 .i64 x52 p_t59 t59.length c_t59 t59 qb (show Xv _ 2 p_t59 t59.length c_t59 (t59.flatMap qb) from ((Qb h) _ (List.mem_of_getElem? y_t59)).1).2 qh rfl b61) <|
 .cons [29] (qy 89 (QA qi qc.toPart L_a0) (.agg #[vI t62.Lo, vI t62.Hi]) 29 fun _ w h => Ya qb (show Xv _ 2 p_t59 t59.length c_t59 (t59.flatMap qb) from ((Qb h) _ (List.mem_of_getElem? y_t59)).1).2 qh ht62 0 2 [vI t62.Lo, vI t62.Hi]) <|
 .v 30 (.slice p_a0 L_a0.length c_a0) <|
 .v 31 (vI a1) <|
 .cons [32] (qp (fun u57 => .pointer (some ⟨XB p_a0, XC p_a0 + a1.toNat * 1, none⟩)) 32 (hv := fun _ _ => QH (t := 25) (k := .i64) (i := a1) (p := p_a0) (n := L_a0.length) (cap := c_a0) (x := a0) P60 (qD h_a0) b63 (by kernel_rfl))) <|
 .cons [33] (qy 88 (Qh qi 1 p_a0 c_a0 L_a0 ql) (.slice p_t64 t64.length c_t64) 33 fun _ w h => Ya ql (qq h).2 qk y_t64 0 1 [.slice p_t64 t64.length c_t64]) <|
 .v 34 (vI a1) <|
 .cons [35] (qy 89 (QA qi qc.toPart L_a0) (.pointer (some ⟨XB p_t64, XC p_t64 + a1.toNat * 2, none⟩)) 35 fun _ w h => YQ 22 .i64 a1 p_t64 t64.length c_t64 t64 qb (show Xv _ 2 p_t64 t64.length c_t64 (t64.flatMap qb) from ((Qb h) _ (List.mem_of_getElem? y_t64)).1).2 qh rfl b65) <|
 .cons [36] (qy 89 (QA qi qc.toPart L_a0) (.agg #[vI t66.Lo, vI t66.Hi]) 36 fun _ w h => Ya qb (show Xv _ 2 p_t64 t64.length c_t64 (t64.flatMap qb) from ((Qb h) _ (List.mem_of_getElem? y_t64)).1).2 qh ht66 0 2 [vI t66.Lo, vI t66.Hi]) <|
 .cons [37] (qo 85 _ _ 37 [] (fun u57 w _ => Qi.calls k0 t62 t66  t67 w  ht67)) <|
 .cons [38, 109] (qH (fun b => .slice (some ⟨b, 0, none⟩) 1 1) (fun u57 => [vI t67.Lo, vI t67.Hi]) 48 38 109) <|
 .cons [39, 900123, 900123] (Xs [16] [109] (fun u57 => [.blk ((u57 16).n 0) [vI t67.Lo, vI t67.Hi] 48]) 900123 (fun u57 => QU 48 2 p_x51 c_x51 x51 qb) (some 39) (fun u57 g => .slice (g.o 0) (x51 ++ [t67]).length (g.n 0)) (fun u57 g => QU 48 2 (g.o 0) (g.n 0) (x51 ++ [t67]) qb) (fun u57 w hF hK => ZB (Q8 (t := 22) (ty := 22) (en := qb) qh Jd (QN hK) hF.1 (news := [t67]) rfl (by simp) (by kernel_rfl) b68)) (hloc := fun u u' h => ⟨by first | rfl | simp only [h 16 (by decide)], by first | rfl | simp only [h 16 (by decide)], by first | rfl | simp only [h 16 (by decide)], by first | rfl | simp only [h 16 (by decide)]⟩)) <|
 .cons [5] (qp (fun u57 => .slice ((u57 17).o 0) ((x51 ++ [t67]).length) ((u57 17).n 0)) 5) <| .nil) [0, 1, 5, 6, 7, 88, 89, 91, 900123] fun u57 a w' H => ?_
    refine qN qd H (.v 20 (vI x52) <|
 .v 21 (vI (qe (x52 + 1))) <|
 .v 7 (vI (qe (x52 + 1))) <| .nil) [0, 1, 5, 6, 7, 88, 89, 91, 900123] fun u69 a w' H => ?_
    exact ⟨k, Nat.lt_succ_self k, _, _, G, ((u57 17).o 0), ((u57 17).n 0), (x51 ++ [t67]).length, rfl, H.toM _⟩
   ·rw [if_neg (nt c70)] at G
    refine QO rfl ?_
    obtain rfl := sj G
    replace H := H.demote fr 900123 48 2 p_x51 x51.length c_x51 (x51.flatMap qb) (by kernel_rfl) (by decide) hBf
    replace H := H.dup (K := Qh fr 2 p_x51 c_x51 x51 qb) 900123 900114 (by kernel_rfl) (fun h => h) (by intro _ _ h; cases h)
    exact ⟨p_x51, c_x51, x51.length, rfl, H.toM _⟩
end Go.Proofs.YtglcmhldonkfdaaGreatDoor
