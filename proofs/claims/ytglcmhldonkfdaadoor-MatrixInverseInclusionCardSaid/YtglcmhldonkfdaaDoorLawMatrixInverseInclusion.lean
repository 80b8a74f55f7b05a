/- PROVED: the law MatrixInverseInclusion answers true for every input of its types, and each argument reads afterwards as it read before (the seat's statement MatrixInverseInclusionCardSaid). It holds for the program of the seat, with its listed package variables as the program's text lays them. -/
import Derived.Test.YtglcmhldonkfdaaDoorCards
import Derived.Test.YtglcmhldonkfdaaDoorTie
import Derived.Test.YtglcmhldonkfdaaDoorSxRow
import Derived.Test.YtglcmhldonkfdaaDoorSxRowB
import Derived.Test.YtglcmhldonkfdaaDoorFlMatrixInverseInclusion
import Derived.Test.YtglcmhldonkfdaaDoorPlMatrixInverseInclusion
set_option linter.unusedVariables false
set_option linter.unusedSimpArgs false
namespace Go.Proofs.YtglcmhldonkfdaaDoor.matrixInverseInclusion
open Go.ChangeShapes Go.WideShapes Go.ChangeAt Go.RowKit Go.Sx
theorem own : ownKnob Tryd.prog.godebug = none := by kernel_rfl
theorem laidOut : laidOutB Tryd.prog = true := by kernel_rfl
theorem fe_37 (x : List Value) (h : Fits [some .i64, some .i64] x) : ∃ y : TInterval, x = en_TInterval y ∧ ((IntKind.has .i64 y.Lo) ∧ (IntKind.has .i64 y.Hi)) := by
  obtain ⟨c0, x, rfl, w0, h⟩ := fits_int h
  obtain ⟨c1, x, rfl, w1, h⟩ := fits_int h
  obtain rfl := fits_nil h
  exact ⟨(⟨c0, c1⟩ : TInterval), rfl, w0, w1⟩
theorem fe_71 (x : List Value) (h : Fits [some .u16] x) : ∃ y : Int, x = en_u16 y ∧ ((IntKind.has .u16 y)) := by
  obtain ⟨c0, x, rfl, w0, h⟩ := fits_int h
  obtain rfl := fits_nil h
  exact ⟨c0, rfl, w0⟩
theorem door_met (os : Os) (args : Array Value) : laidMetH Tryd.prog Rows.matrixInverseInclusionRow.laid ((World.doorLaid Tryd.prog 700 os).forCall (fun _ _ => 0) ⟨#[], args, []⟩).memory :=
  laidMetH_of_parts3 (fuel := 8) (laidMet_of_run' 8 (by kernel_rfl) (by kernel_rfl)) (by kernel_rfl) (by kernel_rfl)
theorem glob {W : World} (h : laidMetH Tryd.prog Rows.matrixInverseInclusionRow.laid W) : Glob W := ⟨glob_block h (n := "armillary/interval.quotients") (d := _) (by apply List.Mem.tail; exact .head _) 0 106 16 gTab0 (by kernel_rfl) (by kernel_rfl) (by kernel_rfl), glob_block h (n := "armillary/interval.products") (d := _) (.head _) 1 112 16 gTab1 (by kernel_rfl) (by kernel_rfl) (by kernel_rfl)⟩
set_option maxRecDepth 100000 in
theorem lifted (os : Os) (started : os.Started) (H : Type) (enc : TypeId × Value → H) :
    ReturnsInHanded {} Tryd.checked os 9 .any (fun w args => (Rows.matrixInverseInclusionSpec.pre enc Tryd.prog Tryd.f9 Rows.matrixInverseInclusionRow.domain false w args ∧ laidMetH Tryd.prog Rows.matrixInverseInclusionRow.laid w) ∧ sizedMet enc Tryd.prog Tryd.f9 (OpenSpec.ofChange Rows.matrixInverseInclusionSpec) false w args) (Rows.matrixInverseInclusionSpec.post enc Tryd.prog Tryd.f9 false true false false) := by
  refine returnsInHanded_of_change_and (C := Tryd.checked) (X := fun w _ => laidMetH Tryd.prog Rows.matrixInverseInclusionRow.laid w) (fun _ _ _ hh h => h.of_heap hh) own started (by kernel_rfl) Tryd.func9
    (ChangeSpec.witness_shaped (enc := enc) (C := Tryd.checked) (os := os) (X := fun w _ => laidMetH Tryd.prog Rows.matrixInverseInclusionRow.laid w) false (World.doorLaid Tryd.prog 700 os) #[.agg #[.slice none 0 0, .slice none 0 0, .slice none 0 0, .int .u8 0], .slice none 0 0, .slice none 0 0] 8 rfl (World.shaped_of_RefB (by kernel_rfl) (by kernel_rfl)) (by kernel_rfl) (by kernel_rfl) (by kernel_rfl) (door_met os _)) ?_
  intro W base args ds gs before hval0 hW _ _ hL _
  have hval : ∀ (j : Nat) t v, Tryd.f9.params[j]? = some t → args[j]? = some v → Value.okWide Tryd.prog W .any base t v := hval0
  have hW' := hW
  obtain ⟨p, q, hA0, hV, rfl, hfz, hnd⟩ := hW
  have hA : DataW.TrodAll enc Tryd.prog W 0 (fun _ => true) true Tryd.f9.params.toList args.toList ds p := hA0
  rw [Tryd.params9] at hA hval
  obtain ⟨v0, vs0, d0, ds0, p0, q0, hargs, rfl, rfl, h0, s0⟩ := trodAll_cons hA
  obtain ⟨v1, vs1, d1, ds1, p1, q1, rfl, rfl, rfl, h1, s1⟩ := trodAll_cons s0
  obtain ⟨v2, vs2, d2, ds2, p2, q2, rfl, rfl, rfl, h2, s2⟩ := trodAll_cons s1
  obtain ⟨rfl, rfl, rfl⟩ := trodAll_nil s2
  obtain rfl : args = #[v0, v1, v2] := by cases args; simp_all
  obtain ⟨rfl, rfl⟩ := trodVars_none hV
  have kk0 := h0
  have lt0 : ∀ x ∈ p0, x.block < W.heap.size := by obtain ⟨m, hm⟩ := kk0; exact DataW.trod_lt m _ _ _ hm
  obtain ⟨e0, rfl⟩ := agg_of (by kernel_rfl) (hval 0 24 v0 rfl rfl)
  have ok0 : Oks W [.row [some .i64, some .i64], .row [some .i64, some .i64], .row [some .i64, some .i64], .cell (some .u8)] e0 := by obtain ⟨m, hm⟩ := kk0; exact leaves_ok 20 24 _ (by kernel_rfl) m _ _ hm
  obtain ⟨q_c0_0, k_c0_0, c0_0, g0_0, rfl, R_c0_0, w_c0_0, ok0⟩ := oks_row en_TInterval (fun y => (IntKind.has .i64 y.Lo) ∧ (IntKind.has .i64 y.Hi)) fe_37 ok0
  obtain ⟨q_c0_1, k_c0_1, c0_1, g0_1, rfl, R_c0_1, w_c0_1, ok0⟩ := oks_row en_TInterval (fun y => (IntKind.has .i64 y.Lo) ∧ (IntKind.has .i64 y.Hi)) fe_37 ok0
  obtain ⟨q_c0_2, k_c0_2, c0_2, g0_2, rfl, R_c0_2, w_c0_2, ok0⟩ := oks_row en_TInterval (fun y => (IntKind.has .i64 y.Lo) ∧ (IntKind.has .i64 y.Hi)) fe_37 ok0
  obtain ⟨c0_3, g0_3, rfl, w_c0_3, ok0⟩ := oks_int ok0
  obtain rfl := oks_nil ok0
  have kk1 := h1
  have lt1 : ∀ x ∈ p1, x.block < W.heap.size := by obtain ⟨m, hm⟩ := kk1; exact DataW.trod_lt m _ _ _ hm
  obtain ⟨b1, m1, k1, rfl⟩ := okWide_slice Tryd.underlying25 (hval 1 25 v1 rfl rfl)
  have ok1 : Oks W [.row [some .u16]] [.slice b1 m1 k1] := by obtain ⟨m, hm⟩ := kk1; exact leaves_ok 20 25 _ (by kernel_rfl) m _ _ hm
  obtain ⟨q_c1_0, k_c1_0, c1_0, g1_0, eq1, R_c1_0, w_c1_0, ok1⟩ := oks_row en_u16 (fun y => (IntKind.has .u16 y)) fe_71 ok1
  obtain rfl := oks_nil ok1
  injection eq1 with eq1 _
  injection eq1 with e1 e2 e3
  subst e1 e2 e3
  have kk2 := h2
  have lt2 : ∀ x ∈ p2, x.block < W.heap.size := by obtain ⟨m, hm⟩ := kk2; exact DataW.trod_lt m _ _ _ hm
  obtain ⟨b2, m2, k2, rfl⟩ := okWide_slice Tryd.underlying25 (hval 2 25 v2 rfl rfl)
  have ok2 : Oks W [.row [some .u16]] [.slice b2 m2 k2] := by obtain ⟨m, hm⟩ := kk2; exact leaves_ok 20 25 _ (by kernel_rfl) m _ _ hm
  obtain ⟨q_c2_0, k_c2_0, c2_0, g2_0, eq2, R_c2_0, w_c2_0, ok2⟩ := oks_row en_u16 (fun y => (IntKind.has .u16 y)) fe_71 ok2
  obtain rfl := oks_nil ok2
  injection eq2 with eq2 _
  injection eq2 with e1 e2 e3
  subst e1 e2 e3
  clear hA0 hval0
  obtain ⟨k0, G⟩ := Pure_MatrixInverseInclusion c0_0 c0_1 c0_2 c0_3 c1_0 c2_0 w_c0_0 w_c0_1 w_c0_2 w_c0_3 w_c1_0 w_c2_0
  refine (armillarylaw04_MatrixInverseInclusion.calls k0 (⟨c0_0, c0_1, c0_2, c0_3⟩ : TOperands) c1_0 c2_0 q_c0_0 k_c0_0 q_c0_1 k_c0_1 q_c0_2 k_c0_2 b1 k1 b2 k2 true W ⟨rdA R_c0_0, rdA R_c0_1, rdA R_c0_2, rdA R_c1_0, rdA R_c2_0, glob_holds (glob hL), trivial⟩ G).mono fun e W' ⟨he, bel⟩ => ?_
  subst he
  exact ⟨_, rfl, _, _, _, [], _, [], hW', trodAll_mk1 (shut_bool Tryd.underlying4 _), (trodAll_cons_mk (Below.trod laidOut (by kernel_rfl) (of_decide_eq_true (by kernel_rfl)) kk0 bel lt0) (trodAll_cons_mk (Below.trod laidOut (by kernel_rfl) (of_decide_eq_true (by kernel_rfl)) kk1 bel lt1) (trodAll_cons_mk (Below.trod laidOut (by kernel_rfl) (of_decide_eq_true (by kernel_rfl)) kk2 bel lt2) trodAll_mk0))), rfl, bel.frame _, fun h => by cases h⟩
theorem over : Rows.matrixInverseInclusionRow.holds Tryd.pinned (OpenSpec.ofChange Rows.matrixInverseInclusionSpec) :=
  OpenClaim.holds_of_wide 9 Tryd.f9 rfl rfl rfl rfl rfl rfl rfl ⟨rfl, rfl, rfl, rfl, rfl⟩ rfl rfl rfl rfl rfl (by kernel_rfl) Tryd.func9 (by kernel_rfl)
    (of_decide_eq_true (by kernel_rfl)) (by unfold Func.isWrapper; first | (rw [if_pos (by decide +kernel)]; kernel_rfl) | (rw [if_neg (by decide +kernel)]; exact ⟨rfl, rfl⟩))
    (fun os started H enc _ => lifted os started H enc)
theorem card_holds : Rows.MatrixInverseInclusionCardSaid :=
  Claim7.holds_tied_plain_at .later [] [.funcs, .funcs] true (true, "95637fcafaba1b6a38907c87fa67a7425f2f3202b7572380052f27bce0addaa5") false
    over (fun _ h => by cases h) (by kernel_rfl) (fun _ h => by cases h) matrixInverseInclusion_row_tie rfl ⟨rfl, rfl⟩ (by kernel_rfl) rfl
    (fun f fn hf hfn => by
      obtain rfl : f = 9 := Option.some.inj ((show Tryd.prog.funcNamed "armillary/armillarylaw04.MatrixInverseInclusion" = some 9 by kernel_rfl).symm.trans hf) |>.symm
      obtain rfl : fn = Tryd.f9 := (Option.some.inj (Tryd.func9.symm.trans hfn)).symm
      exact ⟨by kernel_rfl, fun j t ht => by
        rw [Tryd.params9] at ht
        have hm : t ∈ [24, 25, 25] := by simpa using Array.mem_of_getElem? ht
        have hall : ([24, 25, 25].all fun u => !Tryd.prog.wantsStandIn u) = true := by kernel_rfl
        exact (show Tryd.prog.wantsStandIn t = false by simpa using List.all_eq_true.1 hall t hm)⟩)
    (by kernel_rfl)
#print axioms card_holds
end Go.Proofs.YtglcmhldonkfdaaDoor.matrixInverseInclusion
