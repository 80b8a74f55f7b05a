/- PROVED: the law TopFlowsIntersect answers true for every input of its types, and each argument reads afterwards as it read before (the seat's statement TopFlowsIntersectCardSaid). It holds for the program of the seat, with its listed package variables as the program's text lays them. -/
import Derived.Test.YtpmgpcklieincaaGreatDoorCards
import Derived.Test.YtpmgpcklieincaaGreatDoorTie
import Derived.Test.YtpmgpcklieincaaGreatDoorSxAll1
import Derived.Test.YtpmgpcklieincaaGreatDoorFlTopFlowsIntersect
import Derived.Test.YtpmgpcklieincaaGreatDoorPlTopFlowsIntersect
set_option linter.unusedVariables false
set_option linter.unusedSimpArgs false
namespace Go.Proofs.YtpmgpcklieincaaGreatDoor.topFlowsIntersect
open Go.ChangeShapes Go.WideShapes Go.ChangeAt Go.RowKit Go.Sx
theorem own : ownKnob Tryz.prog.godebug = none := by kernel_rfl
theorem qgk : laidOutB Tryz.prog = true := by kernel_rfl
theorem qh9 (x : List Value) (h : WN [some .i8] x) : ∃ y : Int, x = V6 y ∧ ((IntKind.has .i8 y)) := by
 obtain ⟨c0, x, rfl, w0, h⟩ := JQ h
 obtain rfl := qa2 h
 exact ⟨c0, rfl, w0⟩
theorem qhZ (x : List Value) (h : WN [some .i64, some .i64] x) : ∃ y : qb, x = qa y ∧ ((IntKind.has .i64 y.Lo) ∧ (IntKind.has .i64 y.Hi)) := by
 obtain ⟨c0, x, rfl, w0, h⟩ := JQ h
 obtain ⟨c1, x, rfl, w1, h⟩ := JQ h
 obtain rfl := qa2 h
 exact ⟨(⟨c0, c1⟩ : qb), rfl, w0, w1⟩
theorem qh1 (x : List Value) (h : WN [some .i64, some .i64, some .i64, some .i64] x) : ∃ y : qt, x = qp y ∧ ((IntKind.has .i64 y.Op) ∧ (IntKind.has .i64 y.N) ∧ (IntKind.has .i64 y.C.Lo) ∧ (IntKind.has .i64 y.C.Hi)) := by
 obtain ⟨c0, x, rfl, w0, h⟩ := JQ h
 obtain ⟨c1, x, rfl, w1, h⟩ := JQ h
 obtain ⟨c2, x, rfl, w2, h⟩ := JQ h
 obtain ⟨c3, x, rfl, w3, h⟩ := JQ h
 obtain rfl := qa2 h
 exact ⟨(⟨c0, c1, (⟨c2, c3⟩ : qb)⟩ : qt), rfl, w0, w1, w2, w3⟩
theorem qfK (os : Os) (args : Array Value) : laidMetH Tryz.prog Rows.topFlowsIntersectRow.laid ((World.doorLaid Tryz.prog 700 os).forCall (fun _ _ => 0) ⟨#[], args, []⟩).memory :=
 laidMetH_of_parts3 (fuel := 8) (laidMet_of_run' 8 (by kernel_rfl) (by kernel_rfl)) (by kernel_rfl) (by kernel_rfl)
theorem qin {W : World} (h : laidMetH Tryz.prog Rows.topFlowsIntersectRow.laid W) : WM W := ⟨Wh h (n := "armillary/interval.products") (d := _) (.head _) 0 228 16 VK (by kernel_rfl) (by kernel_rfl) (by kernel_rfl), Wh h (n := "armillary/tape.ops") (d := _) (by apply List.Mem.tail; apply List.Mem.tail; exact .head _) 1 231 16 Vj (by kernel_rfl) (by kernel_rfl) (by kernel_rfl), Wh h (n := "armillary/interval.quotients") (d := _) (by apply List.Mem.tail; exact .head _) 2 239 16 qaf (by kernel_rfl) (by kernel_rfl) (by kernel_rfl)⟩
set_option maxRecDepth 100000 in
theorem lifted (os : Os) (started : os.Started) (H : Type) (enc : TypeId × Value → H) :
  ReturnsInHanded {} Tryz.checked os 5 .any (fun w args => (Rows.topFlowsIntersectSpec.pre enc Tryz.prog Tryz.f5 Rows.topFlowsIntersectRow.domain false w args ∧ laidMetH Tryz.prog Rows.topFlowsIntersectRow.laid w) ∧ sizedMet enc Tryz.prog Tryz.f5 (OpenSpec.ofChange Rows.topFlowsIntersectSpec) false w args) (Rows.topFlowsIntersectSpec.post enc Tryz.prog Tryz.f5 false true false false) := by
 refine returnsInHanded_of_change_and (C := Tryz.checked) (X := fun w _ => laidMetH Tryz.prog Rows.topFlowsIntersectRow.laid w) (fun _ _ _ hh h => h.of_heap hh) own started (by kernel_rfl) Tryz.func5
  (ChangeSpec.witness_shaped (enc := enc) (C := Tryz.checked) (os := os) (X := fun w _ => laidMetH Tryz.prog Rows.topFlowsIntersectRow.laid w) false (World.doorLaid Tryz.prog 700 os) #[.agg #[.slice none 0 0, .slice none 0 0, .int .i64 0, .int .i64 0, .int .i64 0, .int .i64 0, .int .u8 0, .int .u8 0, .slice none 0 0], .int .u8 0, .int .u16 0, .int .u16 0] 8 rfl (World.shaped_of_RefB (by kernel_rfl) (by kernel_rfl)) (by kernel_rfl) (by kernel_rfl) (by kernel_rfl) (qfK os _)) ?_
 intro W base args ds gs before hval0 hW _ _ hL _
 have hval : ∀ (j : Nat) t v, Tryz.f5.params[j]? = some t → args[j]? = some v → Value.okWide Tryz.prog W .any base t v := hval0
 have hW' := hW
 obtain ⟨p, q, hA0, hV, rfl, hfz, hnd⟩ := hW
 have hA : DataW.TrodAll enc Tryz.prog W 0 (fun _ => true) true Tryz.f5.params.toList args.toList ds p := hA0
 rw [Tryz.params5] at hA hval
 obtain ⟨v0, vs0, d0, ds0, p0, q0, hargs, rfl, rfl, h0, s0⟩ := trodAll_cons hA
 obtain ⟨v1, vs1, d1, ds1, p1, q1, rfl, rfl, rfl, h1, s1⟩ := trodAll_cons s0
 obtain ⟨v2, vs2, d2, ds2, p2, q2, rfl, rfl, rfl, h2, s2⟩ := trodAll_cons s1
 obtain ⟨v3, vs3, d3, ds3, p3, q3, rfl, rfl, rfl, h3, s3⟩ := trodAll_cons s2
 obtain ⟨rfl, rfl, rfl⟩ := trodAll_nil s3
 obtain rfl : args = #[v0, v1, v2, v3] := by cases args; simp_all
 obtain ⟨rfl, rfl⟩ := trodVars_none hV
 have kk0 := h0
 have lt0 : ∀ x ∈ p0, x.block < W.heap.size := by obtain ⟨m, hm⟩ := kk0; exact DataW.trod_lt m _ _ _ hm
 obtain ⟨e0, rfl⟩ := qhj (by kernel_rfl) (hval 0 56 v0 rfl rfl)
 have W9 : Oks W [.rows [some .i64, some .i64, some .i64, some .i64], .row [some .i64, some .i64], .cell (some .i64), .cell (some .i64), .cell (some .i64), .cell (some .i64), .cell (some .u8), .cell (some .u8), .row [some .i8]] e0 := by obtain ⟨m, hm⟩ := kk0; exact VZ 20 56 _ (by kernel_rfl) m _ _ hm
 obtain ⟨q_c0_0, k_c0_0, L_c0_0, g0_0, rfl, R_c0_0, D_c0_0, w_c0_0, W9⟩ := qeS qd9 rfl (fun _ => trivial) (fun y => (IntKind.has .i64 y.Op) ∧ (IntKind.has .i64 y.N) ∧ (IntKind.has .i64 y.C.Lo) ∧ (IntKind.has .i64 y.C.Hi)) qh1 W9
 obtain ⟨q_c0_1, k_c0_1, c0_1, g0_1, rfl, R_c0_1, w_c0_1, W9⟩ := qdq qa (fun y => (IntKind.has .i64 y.Lo) ∧ (IntKind.has .i64 y.Hi)) qhZ W9
 obtain ⟨c0_2, g0_2, rfl, w_c0_2, W9⟩ := VX W9
 obtain ⟨c0_3, g0_3, rfl, w_c0_3, W9⟩ := VX W9
 obtain ⟨c0_4, g0_4, rfl, w_c0_4, W9⟩ := VX W9
 obtain ⟨c0_5, g0_5, rfl, w_c0_5, W9⟩ := VX W9
 obtain ⟨c0_6, g0_6, rfl, w_c0_6, W9⟩ := VX W9
 obtain ⟨c0_7, g0_7, rfl, w_c0_7, W9⟩ := VX W9
 obtain ⟨q_c0_8, k_c0_8, c0_8, g0_8, rfl, R_c0_8, w_c0_8, W9⟩ := qdq V6 (fun y => (IntKind.has .i8 y)) qh9 W9
 obtain rfl := qgD W9
 obtain ⟨c1_0, rfl, rfl, rfl, y_c1_0⟩ := open_int Tryz.underlying5 (hval 1 5 v1 rfl rfl) h1
 have w_c1_0 : IntKind.has .u8 c1_0 := by have z := y_c1_0; simp only [Lit.wf, Bool.and_eq_true, decide_eq_true_eq] at z; exact z
 obtain ⟨c2_0, rfl, rfl, rfl, y_c2_0⟩ := open_int Tryz.underlying24 (hval 2 24 v2 rfl rfl) h2
 have w_c2_0 : IntKind.has .u16 c2_0 := by have z := y_c2_0; simp only [Lit.wf, Bool.and_eq_true, decide_eq_true_eq] at z; exact z
 obtain ⟨c3_0, rfl, rfl, rfl, y_c3_0⟩ := open_int Tryz.underlying24 (hval 3 24 v3 rfl rfl) h3
 have w_c3_0 : IntKind.has .u16 c3_0 := by have z := y_c3_0; simp only [Lit.wf, Bool.and_eq_true, decide_eq_true_eq] at z; exact z
 clear hA0 hval0
 obtain ⟨k0, G⟩ := Vo (L_c0_0.map Sl.l) c0_1 c0_2 c0_3 c0_4 c0_5 c0_6 c0_7 c0_8 c1_0 c2_0 c3_0 w_c0_0 w_c0_1 w_c0_2 w_c0_3 w_c0_4 w_c0_5 w_c0_6 w_c0_7 w_c0_8 w_c1_0 w_c2_0 w_c3_0
 refine (QC.calls k0 (⟨(L_c0_0.map Sl.l), c0_1, (⟨c0_2, c0_3⟩ : qb), (⟨c0_4, c0_5⟩ : Q0), c0_6, c0_7, c0_8⟩ : YM) c1_0 c2_0 c3_0 q_c0_0 k_c0_0 L_c0_0 q_c0_1 k_c0_1 q_c0_8 k_c0_8 true W rfl ⟨JU R_c0_0, dnA D_c0_0, JU R_c0_1, JU R_c0_8, qcZ (qin hL), trivial⟩ G).mono fun e W' ⟨he, bel⟩ => ?_
 subst he
 exact ⟨_, rfl, _, _, _, [], _, [], hW', trodAll_mk1 (shut_bool Tryz.underlying4 _), (trodAll_cons_mk (Below.trod qgk (by kernel_rfl) (of_decide_eq_true (by kernel_rfl)) kk0 bel lt0) (trodAll_cons_mk (shut_int Tryz.underlying5 y_c1_0) (trodAll_cons_mk (shut_int Tryz.underlying24 y_c2_0) (trodAll_cons_mk (shut_int Tryz.underlying24 y_c3_0) trodAll_mk0)))), rfl, bel.frame _, fun h => by cases h⟩
theorem over : Rows.topFlowsIntersectRow.holds Tryz.pinned (OpenSpec.ofChange Rows.topFlowsIntersectSpec) :=
 OpenClaim.holds_of_wide 5 Tryz.f5 rfl rfl rfl rfl rfl rfl rfl ⟨rfl, rfl, rfl, rfl, rfl⟩ rfl rfl rfl rfl rfl (by kernel_rfl) Tryz.func5 (by kernel_rfl)
  (of_decide_eq_true (by kernel_rfl)) (by unfold Func.isWrapper; first | (rw [if_pos (by decide +kernel)]; kernel_rfl) | (rw [if_neg (by decide +kernel)]; exact ⟨rfl, rfl⟩))
  (fun os started H enc _ => lifted os started H enc)
theorem card_holds : Rows.TopFlowsIntersectCardSaid :=
 Claim7.holds_tied_plain_at .later [] [.funcs, .funcs, .funcs] true (true, "8b90149ca90a3f2a630488c3fe19f9e50dfd6fb4e92407a69642db45fe7cf3e9") true
  over (fun _ h => by cases h) (by kernel_rfl) (fun _ h => by cases h) topFlowsIntersect_row_tie rfl ⟨rfl, rfl⟩ (by kernel_rfl) rfl
  (fun f fn hf hfn => by
   obtain rfl : f = 5 := Option.some.inj ((show Tryz.prog.funcNamed "armillary/armillarytop.TopFlowsIntersect" = some 5 by kernel_rfl).symm.trans hf) |>.symm
   obtain rfl : fn = Tryz.f5 := (Option.some.inj (Tryz.func5.symm.trans hfn)).symm
   exact ⟨by kernel_rfl, fun j t ht => by
    rw [Tryz.params5] at ht
    have hm : t ∈ [56, 5, 24, 24] := by simpa using Array.mem_of_getElem? ht
    have hall : ([56, 5, 24, 24].all fun u => !Tryz.prog.wantsStandIn u) = true := by kernel_rfl
    exact (show Tryz.prog.wantsStandIn t = false by simpa using List.all_eq_true.1 hall t hm)⟩)
  (by kernel_rfl)
#print axioms card_holds
end Go.Proofs.YtpmgpcklieincaaGreatDoor.topFlowsIntersect
