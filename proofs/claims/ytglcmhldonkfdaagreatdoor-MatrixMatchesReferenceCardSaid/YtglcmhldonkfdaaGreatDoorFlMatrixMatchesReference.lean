/- The law MatrixMatchesReference answers as the plain Lean function of its name. Printed by a program of this session. -/
import Derived.Test.YtglcmhldonkfdaaGreatDoorFn4
set_option linter.unusedVariables false
set_option linter.unusedSimpArgs false
set_option maxRecDepth 100000
set_option maxHeartbeats 4000000
namespace Go.Proofs.YtglcmhldonkfdaaGreatDoor
open Go Go.RowKit Go.Sx Go.Proofs
theorem QL.calls (k0 : Nat) (a0 : Zp) (a1 : List (List qa)) (a2 : List Int) (p_a0_A : Option Addr) (c_a0_A : Nat) (p_a0_B : Option Addr) (c_a0_B : Nat) (p_a0_X : Option Addr) (c_a0_X : Nat) (p_a1 : Option Addr) (c_a1 : Nat) (L_a1 : List (Sl qa)) (p_a2 : Option Addr) (c_a2 : Nat) (r : Bool) (w : World) (h_a1 : a1 = L_a1.map Sl.l) (hB : Yj [Qh qi 2 p_a0_A c_a0_A a0.A qb, Qh qi 2 p_a0_B c_a0_B a0.B qb, Qh qi 2 p_a0_X c_a0_X a0.X qb, Qh qi 1 p_a1 c_a1 L_a1 ql, QA qi qc.toPart L_a1, Qh qi 1 p_a2 c_a2 a2 qB, gk] w) (G : QL k0 a0 a1 a2 = some r) :
  Calls Tryz.prog 3 #[.agg #[.slice p_a0_A a0.A.length c_a0_A, .slice p_a0_B a0.B.length c_a0_B, .slice p_a0_X a0.X.length c_a0_X, .int .u8 a0.N], .slice p_a1 L_a1.length c_a1, .slice p_a2 a2.length c_a2] w fun e w' => e = .returned (.bool r) ∧ Below w.heap.size w w' := by
 obtain ⟨fr, hfr⟩ : ∃ fr : Nat → Prop, ∀ j, fr j := ⟨fun _ => True, fun _ => trivial⟩
 have hBf : ∀ j, w.heap.size ≤ j → fr j := fun j _ => hfr j
 refine QQ (args := [.agg #[.slice p_a0_A a0.A.length c_a0_A, .slice p_a0_B a0.B.length c_a0_B, .slice p_a0_X a0.X.length c_a0_X, .int .u8 a0.N], .slice p_a1 L_a1.length c_a1, .slice p_a2 a2.length c_a2]) 113 [(113, Qh qi 2 p_a0_A c_a0_A a0.A qb), (114, Qh qi 2 p_a0_B c_a0_B a0.B qb), (115, Qh qi 2 p_a0_X c_a0_X a0.X qb), (116, Qh qi 1 p_a1 c_a1 L_a1 ql), (117, QA qi qc.toPart L_a1), (118, Qh qi 1 p_a2 c_a2 a2 qB), (999999, gk)] (by
  intro x hx
  simp only [List.mem_cons, List.not_mem_nil, or_false] at hx
  rcases hx with rfl | rfl | rfl | rfl | rfl | rfl | rfl
  ·exact Ql (qq hB.1) (fun _ _ => trivial) (by decide) _
  ·exact Ql (qq hB.2.1) (fun _ _ => trivial) (by decide) _
  ·exact Ql (qq hB.2.2.1) (fun _ _ => trivial) (by decide) _
  ·exact Ql (qq hB.2.2.2.1) (fun _ _ => trivial) (by decide) _
  ·exact Xt (Qb hB.2.2.2.2.1) (fun _ _ => trivial) _
  ·exact Ql (qq hB.2.2.2.2.2.1) (fun _ _ => trivial) (by decide) _
  ·exact ⟨⟨_, _, rfl⟩, hB.2.2.2.2.2.2.1, ZV (Yc hB.2.2.2.2.2.2.1)⟩) Tryz.func3 rfl (by kernel_rfl) (by kernel_rfl) fun a H => ?_
 unfold QL at G
 refine qg qd H (.cons [3, 119] (qH (fun b => vP b 0) (fun u1 => [.slice p_a0_A a0.A.length c_a0_A, .slice p_a0_B a0.B.length c_a0_B, .slice p_a0_X a0.X.length c_a0_X, .int .u8 a0.N]) 24 3 119) <|
 .v 6 (.bool false) <| .nil) [1, 2, 3, 113, 114, 115, 116, 117, 118, 119, 999999] fun u1 a w' H => ?_
 obtain ⟨t3, ht3, G⟩ := qP G
 refine qg qd H (.cons [16] (Xi [999999] (fun u2 => [gk]) 4 _ _ 16 (fun u2 w hF => Yy.calls k0  t3 w  (Yc hF.1) ht3)) <|
 .v 7 (.bool t3) <| .nil) [1, 2, 3, 7, 113, 114, 115, 116, 117, 118, 119, 999999] fun u2 a w' H => ?_
 refine qs ?_
 obtain ⟨t5, ht5, G⟩ := qP G
 obtain ⟨t6, ht6, G⟩ := qP G
 refine qg qd H (.v 17 (.slice p_a1 L_a1.length c_a1) <|
 .cons [18] (qy 116 (Qh qi 1 p_a1 c_a1 L_a1 ql) (vI (a1.length : Int)) 18 fun _ w h => Q7 (((qq h).2.len qk (by decide)).trans (qD h_a1).symm) (by kernel_rfl)) <|
 .v 19 (.bool (decide ((a1.length : Int) ≤ 8))) <|
 .v 20 (.bool (decide ((a1.length : Int) ≤ 8))) <|
 .cons [21] (Qc (fun u4 => .slice p_a1 L_a1.length c_a1) (fun u4 => ((decide ((a1.length : Int) ≤ 8)) == true)) [true] 21) <|
 .cons [22] (Vy [116, 117] (fun u4 => [Qh qi 1 p_a1 c_a1 L_a1 ql, QA qi qc.toPart L_a1]) 5 (fun u4 => #[.slice p_a1 L_a1.length c_a1]) (.bool t5) (fun u4 => ((decide ((a1.length : Int) ≤ 8)) == true)) [true, false] 22 (fun u4 w hg hF => Xd.calls k0 a1 p_a1 c_a1 L_a1 t5 w h_a1 ⟨(ZN (qq hF.1)), (JD (Qb hF.2.1)), trivial⟩ (ifp ht5 hg))) <|
 .cons [23] (Qc (fun u4 => .slice p_a1 L_a1.length c_a1) (fun u4 => ((decide ((a1.length : Int) ≤ 8)) == true)) [true] 23) <|
 .cons [24] (Vy [116, 117] (fun u4 => [Qh qi 1 p_a1 c_a1 L_a1 ql, QA qi qc.toPart L_a1]) 6 (fun u4 => #[.slice p_a1 L_a1.length c_a1]) (.bool t6) (fun u4 => ((decide ((a1.length : Int) ≤ 8)) == true)) [true, false] 24 (fun u4 w hg hF => qX.calls k0 a1 p_a1 c_a1 L_a1 t6 w h_a1 ⟨(ZN (qq hF.1)), (JD (Qb hF.2.1)), trivial⟩ (ifp ht6 hg))) <|
 .cons [25] (Qc (fun u4 => .bool (!(t5 == t6))) (fun u4 => ((decide ((a1.length : Int) ≤ 8)) == true)) [false, false] 25) <|
 .cons [26] (Y9 20 25 (fun u4 => true) (fun u4 => true) (fun u4 => decide ((a1.length : Int) ≤ 8)) (fun u4 => (!(t5 == t6))) 26) <| .nil) [2, 3, 7, 26, 113, 114, 115, 118, 119, 999999] fun u4 a w' H => ?_
 refine Qr H ((decide ((a1.length : Int) ≤ 8)) && (!(t5 == t6))) (fun c46 => ?_) fun c46 => ?_
 ·rw [if_pos c46] at G
  refine qg qd H (.v 6 (.bool false) <| .nil) [6, 999999] fun u7 a w' H => ?_
  refine q7 ?_
  obtain rfl := sj G
  exact QG H _ (by kernel_rfl) (by kernel_rfl)
 ·rw [if_neg (nt c46)] at G
  refine qT ?_
  obtain ⟨t9, ht9, G⟩ := qP G
  refine qg qd H (.cons [28] (qfe (fun u8 => .agg #[.slice p_a0_A a0.A.length c_a0_A, .slice p_a0_B a0.B.length c_a0_B, .slice p_a0_X a0.X.length c_a0_X, .int .u8 a0.N]) 28 119 0 4 (fun u8 => ((u1 0).n 0)) (fun u8 => [.slice p_a0_A a0.A.length c_a0_A, .slice p_a0_B a0.B.length c_a0_B, .slice p_a0_X a0.X.length c_a0_X, .int .u8 a0.N]) 24) <|
 .cons [29, 120, 121, 122] (Qo false fr [] [113, 114, 115] (fun u8 => [Qh qi 2 p_a0_A c_a0_A a0.A qb, Qh qi 2 p_a0_B c_a0_B a0.B qb, Qh qi 2 p_a0_X c_a0_X a0.X qb]) [] (fun u8 => []) 7 _ _ _ _ _ [120, 121, 122] 29 (fun u8 w hB hF hM => Yu.calls k0 (⟨a0.A, a0.B, a0.X, a0.N⟩ : Zp) p_a0_A c_a0_A p_a0_B c_a0_B p_a0_X c_a0_X t9 w  hB ht9) (fun u8 w hF => ⟨⟨QP (qq hF.1) (fun j h => ⟨_, (.head _), h⟩), QP (qq hF.2.1) (fun j h => ⟨_, (.tail _ (.head _)), h⟩), QP (qq hF.2.2.1) (fun j h => ⟨_, (.tail _ (.tail _ (.head _))), h⟩), trivial⟩, trivial⟩) (fun u8 g => (qx QZ (qx QZ (qx X2 qI)))) (.inr (fun u8 g => (Qj trivial (Qj trivial (Qj trivial (fun K h => by cases h)))))) (fun h => by cases h)) <|
 .cons [27] (qp (fun u8 => .tuple #[slgd_S_TInterval (u8 1) 0 t9.1, slgd_S_TInterval (u8 1) 1 t9.2.1, .slice ((u8 1).o 2) t9.2.2.length ((u8 1).n 2)]) 27) <|
 .cons [30] (qp (fun u8 => slgd_S_TInterval (u8 1) 0 t9.1) 30) <|
 .cons [31] (qp (fun u8 => slgd_S_TInterval (u8 1) 1 t9.2.1) 31) <|
 .cons [32] (qp (fun u8 => .slice ((u8 1).o 2) t9.2.2.length ((u8 1).n 2)) 32) <|
 .cons [8] (qp (fun u8 => slgd_S_TInterval (u8 1) 0 t9.1) 8) <|
 .cons [9] (qp (fun u8 => slgd_S_TInterval (u8 1) 1 t9.2.1) 9) <|
 .cons [10] (qp (fun u8 => .slice ((u8 1).o 2) t9.2.2.length ((u8 1).n 2)) 10) <| .nil) [2, 3, 7, 8, 9, 10, 113, 114, 115, 118, 119, 120, 121, 122, 999999] fun u8 a w' H => ?_
  obtain ⟨t11, ht11, G⟩ := qP G
  obtain ⟨t12, ht12, G⟩ := qP G
  refine qg qd H (.v 33 (.slice p_a2 a2.length c_a2) <|
 .v 34 (vP ((u1 0).n 0) 3) <|
 .cons [35] (qv (.int .u8 a0.N) 35 119 3 1 ((u1 0).n 0) [.slice p_a0_A a0.A.length c_a0_A, .slice p_a0_B a0.B.length c_a0_B, .slice p_a0_X a0.X.length c_a0_X, .int .u8 a0.N] 24) <|
 .cons [36] (qo 9 _ _ 36 [] (fun u10 w _ => XY.calls a0.N  t11 w  ht11)) <|
 .cons [37, 123] (Qo false fr [] [118] (fun u10 => [Qh qi 1 p_a2 c_a2 a2 qB]) [] (fun u10 => []) 8 _ _ _ _ _ [123] 37 (fun u10 w hB hF hM => qO.calls k0 a2 t11 p_a2 c_a2 t12 w  hB ht12) (fun u10 w hF => ⟨⟨QP (qq hF.1) (fun j h => ⟨_, (.head _), h⟩), trivial⟩, trivial⟩) (fun u10 g => (qx QZ qI)) (.inr (fun u10 g => (Qj trivial (fun K h => by cases h)))) (fun h => by cases h)) <|
 .cons [11] (qp (fun u10 => slgd_S_i64 (u10 4) 0 t12) 11) <| .nil) [3, 7, 8, 9, 10, 11, 113, 114, 115, 119, 120, 121, 122, 123, 999999] fun u10 a w' H => ?_
  obtain ⟨t14, ht14, G⟩ := qP G
  refine qg qd H (.v 39 (slgd_S_TInterval (u8 1) 0 t9.1) <|
 .cons [40, 124, 125] (Qo true fr [] [120, 999999] (fun u13 => [ns_en_TIntervalg (u8 1) 0 t9.1, gk]) [] (fun u13 => []) 10 _ _ _ _ _ [124, 125] 40 (fun u13 w hB hF hM => qw.calls k0 t9.1 ((u8 1).o 0) ((u8 1).n 0) (dlgd_S_TInterval (u8 1) 0 t9.1) t14 w (Xc qC (u8 1) 0 t9.1) hB ht14) (fun u13 w hF => ⟨⟨QP (qQ hF.1).row (fun j h => ⟨_, (.head _), (Yz h)⟩), Xk (qQ hF.1).all (fun j h => ⟨_, (.head _), (Yw h)⟩), Wq hF.2.1 (.tail _ (.head _)), trivial⟩, trivial⟩) (fun u13 g => (qx X2 (qx Jc qI))) (.inl rfl) (fun _ => hBf)) <|
 .cons [38] (qp (fun u13 => .tuple #[slgd_S_TInterval (u13 1) 0 t14.1, .bool t14.2]) 38) <|
 .cons [41] (qp (fun u13 => slgd_S_TInterval (u13 1) 0 t14.1) 41) <|
 .v 42 (.bool t14.2) <|
 .cons [12] (qp (fun u13 => slgd_S_TInterval (u13 1) 0 t14.1) 12) <|
 .v 13 (.bool t14.2) <| .nil) [3, 7, 8, 9, 10, 11, 12, 13, 113, 114, 115, 119, 120, 121, 122, 123, 124, 125, 999999] fun u13 a w' H => ?_
  obtain ⟨t16, ht16, G⟩ := qP G
  refine qg qd H (.v 44 (slgd_S_TInterval (u8 1) 0 t9.1) <|
 .cons [45, 126, 127] (Qo true fr [] [120] (fun u15 => [ns_en_TIntervalg (u8 1) 0 t9.1]) [] (fun u15 => []) 11 _ _ _ _ _ [126, 127] 45 (fun u15 w hB hF hM => qm.calls k0 t9.1 ((u8 1).o 0) ((u8 1).n 0) (dlgd_S_TInterval (u8 1) 0 t9.1) t16 w (Xc qC (u8 1) 0 t9.1) hB ht16) (fun u15 w hF => ⟨⟨QP (qQ hF.1).row (fun j h => ⟨_, (.head _), (Yz h)⟩), Xk (qQ hF.1).all (fun j h => ⟨_, (.head _), (Yw h)⟩), trivial⟩, trivial⟩) (fun u15 g => (qx X2 (qx Jc qI))) (.inl rfl) (fun _ => hBf)) <|
 .cons [43] (qp (fun u15 => .tuple #[slgd_S_TInterval (u15 1) 0 t16.1, .bool t16.2]) 43) <|
 .cons [46] (qp (fun u15 => slgd_S_TInterval (u15 1) 0 t16.1) 46) <|
 .v 47 (.bool t16.2) <|
 .cons [14] (qp (fun u15 => slgd_S_TInterval (u15 1) 0 t16.1) 14) <|
 .v 15 (.bool t16.2) <| .nil) [3, 7, 8, 9, 10, 11, 12, 13, 14, 15, 113, 114, 115, 119, 120, 121, 122, 123, 124, 125, 126, 127, 999999] fun u15 a w' H => ?_
  refine qs ?_
  obtain ⟨t18, ht18, G⟩ := qP G
  obtain ⟨t19, ht19, G⟩ := qP G
  obtain ⟨t20, ht20, G⟩ := qP G
  replace G := gd G; obtain ⟨b21, G⟩ := G
  obtain ⟨t22, ht22, G⟩ := qP G
  obtain ⟨t23, ht23, G⟩ := qP G
  obtain ⟨t24, ht24, G⟩ := qP G
  replace G := gd G; obtain ⟨b25, G⟩ := G
  obtain ⟨t26, ht26, G⟩ := qP G
  obtain ⟨t27, ht27, G⟩ := qP G
  obtain ⟨t28, ht28, G⟩ := qP G
  replace G := gd G; obtain ⟨b29, G⟩ := G
  obtain ⟨t30, ht30, G⟩ := qP G
  obtain ⟨t31, ht31, G⟩ := qP G
  obtain ⟨t32, ht32, G⟩ := qP G
  obtain ⟨t33, ht33, G⟩ := qP G
  obtain ⟨t34, ht34, G⟩ := qP G
  replace G := gd G; obtain ⟨b35, G⟩ := G
  obtain ⟨t36, ht36, G⟩ := qP G
  obtain ⟨t37, ht37, G⟩ := qP G
  obtain ⟨t38, ht38, G⟩ := qP G
  obtain ⟨t39, ht39, G⟩ := qP G
  obtain ⟨t40, ht40, G⟩ := qP G
  obtain ⟨t41, ht41, G⟩ := qP G
  replace G := gd G; obtain ⟨b42, G⟩ := G
  obtain ⟨t43, ht43, G⟩ := qP G
  obtain ⟨t44, ht44, G⟩ := qP G
  obtain ⟨t45, ht45, G⟩ := qP G
  refine WU qd H (.v 48 (slgd_S_TInterval (u8 1) 0 t9.1) <|
 .v 49 (slgd_S_TInterval (u8 1) 1 t9.2.1) <|
 .cons [50, 128] (Qo false fr [] [120, 121, 999999] (fun u17 => [ns_en_TIntervalg (u8 1) 0 t9.1, ns_en_TIntervalg (u8 1) 1 t9.2.1, gk]) [] (fun u17 => []) 13 _ _ _ _ _ [128] 50 (fun u17 w hB hF hM => Zk.calls k0 t9.1 t9.2.1 ((u8 1).o 0) ((u8 1).n 0) (dlgd_S_TInterval (u8 1) 0 t9.1) ((u8 1).o 1) ((u8 1).n 1) (dlgd_S_TInterval (u8 1) 1 t9.2.1) t18 w (Xc qC (u8 1) 0 t9.1) (Xc qC (u8 1) 1 t9.2.1) hB ht18) (fun u17 w hF => ⟨⟨QP (qQ hF.1).row (fun j h => ⟨_, (.head _), (Yz h)⟩), Xk (qQ hF.1).all (fun j h => ⟨_, (.head _), (Yw h)⟩), QP (qQ hF.2.1).row (fun j h => ⟨_, (.tail _ (.head _)), (Yz h)⟩), Xk (qQ hF.2.1).all (fun j h => ⟨_, (.tail _ (.head _)), (Yw h)⟩), Wq hF.2.2.1 (.tail _ (.tail _ (.head _))), trivial⟩, trivial⟩) (fun u17 g => (qx QZ qI)) (.inr (fun u17 g => (Qj trivial (fun K h => by cases h)))) (fun h => by cases h)) <|
 .v 51 (slgd_S_TInterval (u8 1) 0 t9.1) <|
 .v 52 (slgd_S_TInterval (u8 1) 1 t9.2.1) <|
 .cons [53, 129] (Qo false fr [] [120, 121] (fun u17 => [ns_en_TIntervalg (u8 1) 0 t9.1, ns_en_TIntervalg (u8 1) 1 t9.2.1]) [] (fun u17 => []) 14 _ _ _ _ _ [129] 53 (fun u17 w hB hF hM => Xb.calls k0 t9.1 t9.2.1 ((u8 1).o 0) ((u8 1).n 0) (dlgd_S_TInterval (u8 1) 0 t9.1) ((u8 1).o 1) ((u8 1).n 1) (dlgd_S_TInterval (u8 1) 1 t9.2.1) t19 w (Xc qC (u8 1) 0 t9.1) (Xc qC (u8 1) 1 t9.2.1) hB ht19) (fun u17 w hF => ⟨⟨QP (qQ hF.1).row (fun j h => ⟨_, (.head _), (Yz h)⟩), Xk (qQ hF.1).all (fun j h => ⟨_, (.head _), (Yw h)⟩), QP (qQ hF.2.1).row (fun j h => ⟨_, (.tail _ (.head _)), (Yz h)⟩), Xk (qQ hF.2.1).all (fun j h => ⟨_, (.tail _ (.head _)), (Yw h)⟩), trivial⟩, trivial⟩) (fun u17 g => (qx QZ qI)) (.inr (fun u17 g => (Qj trivial (fun K h => by cases h)))) (fun h => by cases h)) <|
 .cons [54] (Xi [128, 129] (fun u17 => [ns_en_TIntervalg (u17 2) 0 t18, ns_en_TIntervalg (u17 5) 0 t19]) 12 _ _ 54 (fun u17 w hF => qz.calls k0 t18 t19 ((u17 2).o 0) ((u17 2).n 0) (dlgd_S_TInterval (u17 2) 0 t18) ((u17 5).o 0) ((u17 5).n 0) (dlgd_S_TInterval (u17 5) 0 t19) t20 w (Xc qC (u17 2) 0 t18) (Xc qC (u17 5) 0 t19) ⟨(ZN (qQ hF.1).row), (JD (qQ hF.1).all), (ZN (qQ hF.2.1).row), (JD (qQ hF.2.1).all), trivial⟩ ht20)) <|
 .cons [55] (XO (u' := fun u17 => [(55, sB true)]) (qp (fun u17 => .bool t20) 55) (fun _ => by rw [b21])) <|
 .cons [56] (q6 (qp (fun u17 => slgd_S_TInterval (u8 1) 0 t9.1) 56) (by intro _; kernel_rfl)) <|
 .cons [57] (q6 (qp (fun u17 => .slice ((u8 1).o 2) t9.2.2.length ((u8 1).n 2)) 57) (by intro _; kernel_rfl)) <|
 .cons [58, 130] (q6 (Qo false fr [] [120, 122, 999999] (fun u17 => [ns_en_TIntervalg (u8 1) 0 t9.1, QU 48 2 ((u8 1).o 2) ((u8 1).n 2) t9.2.2 qb, gk]) [] (fun u17 => []) 16 _ _ _ _ _ [130] 58 (fun u17 w hB hF hM => XA.calls k0 t9.1 t9.2.2 ((u8 1).o 0) ((u8 1).n 0) (dlgd_S_TInterval (u8 1) 0 t9.1) ((u8 1).o 2) ((u8 1).n 2) t22 w (Xc qC (u8 1) 0 t9.1) hB ht22) (fun u17 w hF => ⟨⟨QP (qQ hF.1).row (fun j h => ⟨_, (.head _), (Yz h)⟩), Xk (qQ hF.1).all (fun j h => ⟨_, (.head _), (Yw h)⟩), QP (qY (QN hF.2.1)) (fun j h => ⟨_, (.tail _ (.head _)), (Zm h)⟩), Wq hF.2.2.1 (.tail _ (.tail _ (.head _))), trivial⟩, trivial⟩) (fun u17 g => (qx X2 qI)) (.inr (fun u17 g => (Qj trivial (fun K h => by cases h)))) (fun h => by cases h)) (by intro _; kernel_rfl)) <|
 .cons [59] (q6 (qp (fun u17 => slgd_S_TInterval (u8 1) 0 t9.1) 59) (by intro _; kernel_rfl)) <|
 .cons [60] (q6 (qp (fun u17 => .slice ((u8 1).o 2) t9.2.2.length ((u8 1).n 2)) 60) (by intro _; kernel_rfl)) <|
 .cons [61, 131] (q6 (Qo false fr [] [120, 122] (fun u17 => [ns_en_TIntervalg (u8 1) 0 t9.1, QU 48 2 ((u8 1).o 2) ((u8 1).n 2) t9.2.2 qb]) [] (fun u17 => []) 17 _ _ _ _ _ [131] 61 (fun u17 w hB hF hM => qW.calls k0 t9.1 t9.2.2 ((u8 1).o 0) ((u8 1).n 0) (dlgd_S_TInterval (u8 1) 0 t9.1) ((u8 1).o 2) ((u8 1).n 2) t23 w (Xc qC (u8 1) 0 t9.1) hB ht23) (fun u17 w hF => ⟨⟨QP (qQ hF.1).row (fun j h => ⟨_, (.head _), (Yz h)⟩), Xk (qQ hF.1).all (fun j h => ⟨_, (.head _), (Yw h)⟩), QP (qY (QN hF.2.1)) (fun j h => ⟨_, (.tail _ (.head _)), (Zm h)⟩), trivial⟩, trivial⟩) (fun u17 g => (qx X2 qI)) (.inr (fun u17 g => (Qj trivial (fun K h => by cases h)))) (fun h => by cases h)) (by intro _; kernel_rfl)) <|
 .cons [62] (q6 (Xi [130, 131] (fun u17 => [QU 48 2 ((u17 10).o 0) ((u17 10).n 0) t22 qb, QU 48 2 ((u17 13).o 0) ((u17 13).n 0) t23 qb]) 15 _ _ 62 (fun u17 w hF => QI.calls k0 t22 t23 ((u17 10).o 0) ((u17 10).n 0) ((u17 13).o 0) ((u17 13).n 0) t24 w  ⟨(ZN (qY (QN hF.1))), (ZN (qY (QN hF.2.1))), trivial⟩ ht24)) (by intro _; kernel_rfl)) <|
 .cons [63] (XF (fun u17 => .bool t24) 63) <|
 .cons [64] (XO (u' := fun u17 => [(64, sB true)]) (qp (fun u17 => .bool t24) 64) (fun _ => by rw [b25])) <|
 .cons [65] (q6 (qp (fun u17 => slgd_S_TInterval (u8 1) 0 t9.1) 65) (by intro _; kernel_rfl)) <|
 .cons [66, 132] (q6 (Qo false fr [] [120] (fun u17 => [ns_en_TIntervalg (u8 1) 0 t9.1]) [] (fun u17 => []) 18 _ _ _ _ _ [132] 66 (fun u17 w hB hF hM => Yq.calls k0 t9.1 ((u8 1).o 0) ((u8 1).n 0) (dlgd_S_TInterval (u8 1) 0 t9.1) t26 w (Xc qC (u8 1) 0 t9.1) hB ht26) (fun u17 w hF => ⟨⟨QP (qQ hF.1).row (fun j h => ⟨_, (.head _), (Yz h)⟩), Xk (qQ hF.1).all (fun j h => ⟨_, (.head _), (Yw h)⟩), trivial⟩, trivial⟩) (fun u17 g => (qx QZ qI)) (.inr (fun u17 g => (Qj trivial (fun K h => by cases h)))) (fun h => by cases h)) (by intro _; kernel_rfl)) <|
 .cons [67] (q6 (qp (fun u17 => slgd_S_TInterval (u8 1) 0 t9.1) 67) (by intro _; kernel_rfl)) <|
 .cons [68, 133] (q6 (Qo false fr [] [120] (fun u17 => [ns_en_TIntervalg (u8 1) 0 t9.1]) [] (fun u17 => []) 19 _ _ _ _ _ [133] 68 (fun u17 w hB hF hM => qM.calls k0 t9.1 ((u8 1).o 0) ((u8 1).n 0) (dlgd_S_TInterval (u8 1) 0 t9.1) t27 w (Xc qC (u8 1) 0 t9.1) hB ht27) (fun u17 w hF => ⟨⟨QP (qQ hF.1).row (fun j h => ⟨_, (.head _), (Yz h)⟩), Xk (qQ hF.1).all (fun j h => ⟨_, (.head _), (Yw h)⟩), trivial⟩, trivial⟩) (fun u17 g => (qx QZ qI)) (.inr (fun u17 g => (Qj trivial (fun K h => by cases h)))) (fun h => by cases h)) (by intro _; kernel_rfl)) <|
 .cons [69] (q6 (Xi [132, 133] (fun u17 => [ns_en_TIntervalg (u17 18) 0 t26, ns_en_TIntervalg (u17 20) 0 t27]) 12 _ _ 69 (fun u17 w hF => qz.calls k0 t26 t27 ((u17 18).o 0) ((u17 18).n 0) (dlgd_S_TInterval (u17 18) 0 t26) ((u17 20).o 0) ((u17 20).n 0) (dlgd_S_TInterval (u17 20) 0 t27) t28 w (Xc qC (u17 18) 0 t26) (Xc qC (u17 20) 0 t27) ⟨(ZN (qQ hF.1).row), (JD (qQ hF.1).all), (ZN (qQ hF.2.1).row), (JD (qQ hF.2.1).all), trivial⟩ ht28)) (by intro _; kernel_rfl)) <|
 .cons [70] (XF (fun u17 => .bool t28) 70) <|
 .cons [71] (XO (u' := fun u17 => [(71, sB true)]) (qp (fun u17 => .bool t28) 71) (fun _ => by rw [b29])) <|
 .cons [72] (q6 (qp (fun u17 => slgd_S_TInterval (u8 1) 0 t9.1) 72) (by intro _; kernel_rfl)) <|
 .cons [73, 134] (q6 (Qo false fr [] [120] (fun u17 => [ns_en_TIntervalg (u8 1) 0 t9.1]) [] (fun u17 => []) 21 _ _ _ _ _ [134] 73 (fun u17 w hB hF hM => Zj.calls k0 t9.1 ((u8 1).o 0) ((u8 1).n 0) (dlgd_S_TInterval (u8 1) 0 t9.1) t30 w (Xc qC (u8 1) 0 t9.1) hB ht30) (fun u17 w hF => ⟨⟨QP (qQ hF.1).row (fun j h => ⟨_, (.head _), (Yz h)⟩), Xk (qQ hF.1).all (fun j h => ⟨_, (.head _), (Yw h)⟩), trivial⟩, trivial⟩) (fun u17 g => (qx QZ qI)) (.inr (fun u17 g => (Qj trivial (fun K h => by cases h)))) (fun h => by cases h)) (by intro _; kernel_rfl)) <|
 .cons [74, 135] (q6 (Qo false fr [25] [134] (fun u17 => [ns_en_i64g (u17 25) 0 t30]) [] (fun u17 => []) 20 _ _ _ _ _ [135] 74 (fun u17 w hB hF hM => QJ.calls k0 t30 ((u17 25).o 0) ((u17 25).n 0) (dlgd_S_i64 (u17 25) 0 t30) t31 w (Xc Xa (u17 25) 0 t30) hB ht31) (fun u17 w hF => ⟨⟨QP (qQ hF.1).row (fun j h => ⟨_, (.head _), (Yz h)⟩), Xk (qQ hF.1).all (fun j h => ⟨_, (.head _), (Yw h)⟩), trivial⟩, trivial⟩) (fun u17 g => (qx QZ qI)) (.inr (fun u17 g => (Qj trivial (fun K h => by cases h)))) (fun h => by cases h) (hloc := fun u u' h => ⟨by first | rfl | simp only [h 25 (by decide)], by first | rfl | simp only [h 25 (by decide)], by first | rfl | simp only [h 25 (by decide)], by first | rfl | simp only [h 25 (by decide)], by first | rfl | simp only [h 25 (by decide)], by first | rfl | simp only [h 25 (by decide)]⟩)) (by intro _; kernel_rfl)) <|
 .cons [75] (q6 (qp (fun u17 => slgd_S_TInterval (u8 1) 0 t9.1) 75) (by intro _; kernel_rfl)) <|
 .cons [76, 136] (q6 (Qo false fr [] [120] (fun u17 => [ns_en_TIntervalg (u8 1) 0 t9.1]) [] (fun u17 => []) 23 _ _ _ _ _ [136] 76 (fun u17 w hB hF hM => Qs.calls k0 t9.1 ((u8 1).o 0) ((u8 1).n 0) (dlgd_S_TInterval (u8 1) 0 t9.1) t32 w (Xc qC (u8 1) 0 t9.1) hB ht32) (fun u17 w hF => ⟨⟨QP (qQ hF.1).row (fun j h => ⟨_, (.head _), (Yz h)⟩), Xk (qQ hF.1).all (fun j h => ⟨_, (.head _), (Yw h)⟩), trivial⟩, trivial⟩) (fun u17 g => (qx QZ qI)) (.inr (fun u17 g => (Qj trivial (fun K h => by cases h)))) (fun h => by cases h)) (by intro _; kernel_rfl)) <|
 .cons [77, 137] (q6 (Qo false fr [28] [136] (fun u17 => [ns_en_i64g (u17 28) 0 t32]) [] (fun u17 => []) 22 _ _ _ _ _ [137] 77 (fun u17 w hB hF hM => qL.calls k0 t32 ((u17 28).o 0) ((u17 28).n 0) (dlgd_S_i64 (u17 28) 0 t32) t33 w (Xc Xa (u17 28) 0 t32) hB ht33) (fun u17 w hF => ⟨⟨QP (qQ hF.1).row (fun j h => ⟨_, (.head _), (Yz h)⟩), Xk (qQ hF.1).all (fun j h => ⟨_, (.head _), (Yw h)⟩), trivial⟩, trivial⟩) (fun u17 g => (qx QZ qI)) (.inr (fun u17 g => (Qj trivial (fun K h => by cases h)))) (fun h => by cases h) (hloc := fun u u' h => ⟨by first | rfl | simp only [h 28 (by decide)], by first | rfl | simp only [h 28 (by decide)], by first | rfl | simp only [h 28 (by decide)], by first | rfl | simp only [h 28 (by decide)], by first | rfl | simp only [h 28 (by decide)], by first | rfl | simp only [h 28 (by decide)]⟩)) (by intro _; kernel_rfl)) <|
 .cons [78] (q6 (Xi [135, 137] (fun u17 => [ns_en_TIntervalg (u17 26) 0 t31, ns_en_TIntervalg (u17 29) 0 t33]) 12 _ _ 78 (fun u17 w hF => qz.calls k0 t31 t33 ((u17 26).o 0) ((u17 26).n 0) (dlgd_S_TInterval (u17 26) 0 t31) ((u17 29).o 0) ((u17 29).n 0) (dlgd_S_TInterval (u17 29) 0 t33) t34 w (Xc qC (u17 26) 0 t31) (Xc qC (u17 29) 0 t33) ⟨(ZN (qQ hF.1).row), (JD (qQ hF.1).all), (ZN (qQ hF.2.1).row), (JD (qQ hF.2.1).all), trivial⟩ ht34)) (by intro _; kernel_rfl)) <|
 .cons [79] (XF (fun u17 => .bool t34) 79) <|
 .cons [80] (XO (u' := fun u17 => [(80, sB true)]) (qp (fun u17 => .bool t34) 80) (fun _ => by rw [b35])) <|
 .cons [81] (q6 (qp (fun u17 => slgd_S_i64 (u10 4) 0 t12) 81) (by intro _; kernel_rfl)) <|
 .cons [82, 138] (q6 (Qo false fr [] [123] (fun u17 => [ns_en_i64g (u10 4) 0 t12]) [] (fun u17 => []) 24 _ _ _ _ _ [138] 82 (fun u17 w hB hF hM => qt.calls k0 t12 ((u10 4).o 0) ((u10 4).n 0) (dlgd_S_i64 (u10 4) 0 t12) t36 w (Xc Xa (u10 4) 0 t12) hB ht36) (fun u17 w hF => ⟨⟨QP (qQ hF.1).row (fun j h => ⟨_, (.head _), (Yz h)⟩), Xk (qQ hF.1).all (fun j h => ⟨_, (.head _), (Yw h)⟩), trivial⟩, trivial⟩) (fun u17 g => (qx QZ qI)) (.inr (fun u17 g => (Qj trivial (fun K h => by cases h)))) (fun h => by cases h)) (by intro _; kernel_rfl)) <|
 .cons [83, 139] (q6 (Qo false fr [34] [138] (fun u17 => [ns_en_i64g (u17 34) 0 t36]) [] (fun u17 => []) 20 _ _ _ _ _ [139] 83 (fun u17 w hB hF hM => QJ.calls k0 t36 ((u17 34).o 0) ((u17 34).n 0) (dlgd_S_i64 (u17 34) 0 t36) t37 w (Xc Xa (u17 34) 0 t36) hB ht37) (fun u17 w hF => ⟨⟨QP (qQ hF.1).row (fun j h => ⟨_, (.head _), (Yz h)⟩), Xk (qQ hF.1).all (fun j h => ⟨_, (.head _), (Yw h)⟩), trivial⟩, trivial⟩) (fun u17 g => (qx QZ qI)) (.inr (fun u17 g => (Qj trivial (fun K h => by cases h)))) (fun h => by cases h) (hloc := fun u u' h => ⟨by first | rfl | simp only [h 34 (by decide)], by first | rfl | simp only [h 34 (by decide)], by first | rfl | simp only [h 34 (by decide)], by first | rfl | simp only [h 34 (by decide)], by first | rfl | simp only [h 34 (by decide)], by first | rfl | simp only [h 34 (by decide)]⟩)) (by intro _; kernel_rfl)) <|
 .cons [84] (q6 (qp (fun u17 => slgd_S_i64 (u10 4) 0 t12) 84) (by intro _; kernel_rfl)) <|
 .cons [85, 140] (q6 (Qo false fr [] [123] (fun u17 => [ns_en_i64g (u10 4) 0 t12]) [] (fun u17 => []) 25 _ _ _ _ _ [140] 85 (fun u17 w hB hF hM => qK.calls k0 t12 ((u10 4).o 0) ((u10 4).n 0) (dlgd_S_i64 (u10 4) 0 t12) t38 w (Xc Xa (u10 4) 0 t12) hB ht38) (fun u17 w hF => ⟨⟨QP (qQ hF.1).row (fun j h => ⟨_, (.head _), (Yz h)⟩), Xk (qQ hF.1).all (fun j h => ⟨_, (.head _), (Yw h)⟩), trivial⟩, trivial⟩) (fun u17 g => (qx QZ qI)) (.inr (fun u17 g => (Qj trivial (fun K h => by cases h)))) (fun h => by cases h)) (by intro _; kernel_rfl)) <|
 .cons [86, 141] (q6 (Qo false fr [37] [140] (fun u17 => [ns_en_i64g (u17 37) 0 t38]) [] (fun u17 => []) 22 _ _ _ _ _ [141] 86 (fun u17 w hB hF hM => qL.calls k0 t38 ((u17 37).o 0) ((u17 37).n 0) (dlgd_S_i64 (u17 37) 0 t38) t39 w (Xc Xa (u17 37) 0 t38) hB ht39) (fun u17 w hF => ⟨⟨QP (qQ hF.1).row (fun j h => ⟨_, (.head _), (Yz h)⟩), Xk (qQ hF.1).all (fun j h => ⟨_, (.head _), (Yw h)⟩), trivial⟩, trivial⟩) (fun u17 g => (qx QZ qI)) (.inr (fun u17 g => (Qj trivial (fun K h => by cases h)))) (fun h => by cases h) (hloc := fun u u' h => ⟨by first | rfl | simp only [h 37 (by decide)], by first | rfl | simp only [h 37 (by decide)], by first | rfl | simp only [h 37 (by decide)], by first | rfl | simp only [h 37 (by decide)], by first | rfl | simp only [h 37 (by decide)], by first | rfl | simp only [h 37 (by decide)]⟩)) (by intro _; kernel_rfl)) <|
 .cons [87] (q6 (Xi [139, 141] (fun u17 => [ns_en_TIntervalg (u17 35) 0 t37, ns_en_TIntervalg (u17 38) 0 t39]) 12 _ _ 87 (fun u17 w hF => qz.calls k0 t37 t39 ((u17 35).o 0) ((u17 35).n 0) (dlgd_S_TInterval (u17 35) 0 t37) ((u17 38).o 0) ((u17 38).n 0) (dlgd_S_TInterval (u17 38) 0 t39) t40 w (Xc qC (u17 35) 0 t37) (Xc qC (u17 38) 0 t39) ⟨(ZN (qQ hF.1).row), (JD (qQ hF.1).all), (ZN (qQ hF.2.1).row), (JD (qQ hF.2.1).all), trivial⟩ ht40)) (by intro _; kernel_rfl)) <|
 .cons [88] (XF (fun u17 => .bool t40) 88) <|
 .v 89 (.bool t40) <|
 .cons [90] (Qc (fun u17 => slgd_S_TInterval (u13 1) 0 t14.1) (fun u17 => (t40 == true)) [true] 90) <|
 .cons [91] (Qc (fun u17 => slgd_S_TInterval (u15 1) 0 t16.1) (fun u17 => (t40 == true)) [true] 91) <|
 .cons [92] (Vy [124, 125, 126, 127] (fun u17 => [QU 22 1 ((u13 1).o 0) ((u13 1).n 0) (dlgd_S_TInterval (u13 1) 0 t14.1) ql, QA fr qc.toPart (dlgd_S_TInterval (u13 1) 0 t14.1), QU 22 1 ((u15 1).o 0) ((u15 1).n 0) (dlgd_S_TInterval (u15 1) 0 t16.1) ql, QA fr qc.toPart (dlgd_S_TInterval (u15 1) 0 t16.1)]) 12 (fun u17 => #[slgd_S_TInterval (u13 1) 0 t14.1, slgd_S_TInterval (u15 1) 0 t16.1]) (.bool t41) (fun u17 => (t40 == true)) [true, false, false] 92 (fun u17 w hg hF => qz.calls k0 t14.1 t16.1 ((u13 1).o 0) ((u13 1).n 0) (dlgd_S_TInterval (u13 1) 0 t14.1) ((u15 1).o 0) ((u15 1).n 0) (dlgd_S_TInterval (u15 1) 0 t16.1) t41 w (Xc qC (u13 1) 0 t14.1) (Xc qC (u15 1) 0 t16.1) ⟨(ZN (qY (QN hF.1))), (JD (Qb hF.2.1)), (ZN (qY (QN hF.2.2.1))), (JD (Qb hF.2.2.2.1)), trivial⟩ (ifp ht41 hg))) <|
 .cons [93] (Y9 89 92 (fun u17 => true) (fun u17 => true) (fun u17 => t40) (fun u17 => t41) 93) <|
 .v 94 (.bool (t40 && t41)) <|
 .cons [95] (Qc (fun u17 => .bool t14.2) (fun u17 => ((t40 && t41) == true)) [true] 95) <|
 .cons [96] (Qc (fun u17 => .bool t16.2) (fun u17 => ((t40 && t41) == true)) [true] 96) <|
 .cons [97] (Qc (fun u17 => .bool (t14.2 == t16.2)) (fun u17 => ((t40 && t41) == true)) [false, false] 97) <|
 .cons [98] (Y9 94 97 (fun u17 => true) (fun u17 => true) (fun u17 => (t40 && t41)) (fun u17 => (t14.2 == t16.2)) 98) <|
 .cons [99] (XO (u' := fun u17 => [(99, sB true)]) (qp (fun u17 => .bool ((t40 && t41) && (t14.2 == t16.2))) 99) (fun _ => by rw [b42])) <|
 .cons [100] (q6 (qp (fun u17 => vP ((u1 0).n 0) 3) 100) (by intro _; kernel_rfl)) <|
 .cons [101] (q6 (qv (.int .u8 a0.N) 101 119 3 1 ((u1 0).n 0) [.slice p_a0_A a0.A.length c_a0_A, .slice p_a0_B a0.B.length c_a0_B, .slice p_a0_X a0.X.length c_a0_X, .int .u8 a0.N] 24) (by intro _; kernel_rfl)) <|
 .cons [102] (q6 (qp (fun u17 => vI (qe a0.N)) 102) (by intro _; kernel_rfl)) <|
 .cons [103, 142] (q6 (Qo false fr [] [] (fun u17 => []) [] (fun u17 => []) 26 _ (fun u17 => []) _ _ _ [142] 103 (fun u17 w hB hF hM => Xp.calls k0 (qe a0.N)  t43 w  ht43) (fun u17 w hF => ⟨trivial, trivial⟩) (fun u17 g => (qx QZ qI)) (.inr (fun u17 g => (Qj trivial (fun K h => by cases h)))) (fun h => by cases h)) (by intro _; kernel_rfl)) <|
 .cons [104] (q6 (qp (fun u17 => vP ((u1 0).n 0) 3) 104) (by intro _; kernel_rfl)) <|
 .cons [105] (q6 (qv (.int .u8 a0.N) 105 119 3 1 ((u1 0).n 0) [.slice p_a0_A a0.A.length c_a0_A, .slice p_a0_B a0.B.length c_a0_B, .slice p_a0_X a0.X.length c_a0_X, .int .u8 a0.N] 24) (by intro _; kernel_rfl)) <|
 .cons [106] (q6 (qp (fun u17 => vI (qe a0.N)) 106) (by intro _; kernel_rfl)) <|
 .cons [107, 143] (q6 (Qo false fr [] [] (fun u17 => []) [] (fun u17 => []) 27 _ (fun u17 => []) _ _ _ [143] 107 (fun u17 w hB hF hM => qZ.calls k0 (qe a0.N)  t44 w  ht44) (fun u17 w hF => ⟨trivial, trivial⟩) (fun u17 g => (qx QZ qI)) (.inr (fun u17 g => (Qj trivial (fun K h => by cases h)))) (fun h => by cases h)) (by intro _; kernel_rfl)) <|
 .cons [108] (q6 (Xi [142, 143] (fun u17 => [ns_en_TIntervalg (u17 55) 0 t43, ns_en_TIntervalg (u17 59) 0 t44]) 12 _ _ 108 (fun u17 w hF => qz.calls k0 t43 t44 ((u17 55).o 0) ((u17 55).n 0) (dlgd_S_TInterval (u17 55) 0 t43) ((u17 59).o 0) ((u17 59).n 0) (dlgd_S_TInterval (u17 59) 0 t44) t45 w (Xc qC (u17 55) 0 t43) (Xc qC (u17 59) 0 t44) ⟨(ZN (qQ hF.1).row), (JD (qQ hF.1).all), (ZN (qQ hF.2.1).row), (JD (qQ hF.2.1).all), trivial⟩ ht45)) (by intro _; kernel_rfl)) <|
 .cons [109] (XF (fun u17 => .bool t45) 109) <|
 .v 110 (.bool t45) <|
 .cons [111] (Qc (fun u17 => .bool t3) (fun u17 => (t45 == true)) [true] 111) <|
 .cons [112] (Y9 110 111 (fun u17 => true) (fun u17 => true) (fun u17 => t45) (fun u17 => t3) 112) <|
 .v 6 (.bool (t45 && t3)) <| .nil) (by kernel_rfl) fun u17 a w' H => ?_
  replace H := H.kp [6, 999999]
  refine q7 ?_
  obtain rfl := sj G
  exact QG H _ (by kernel_rfl) (by kernel_rfl)
end Go.Proofs.YtglcmhldonkfdaaGreatDoor
