/- PROVED: the law MatrixOrthogonalizeIdempotent answers true for every input of its types, and each argument reads afterwards as it read before (the seat's statement MatrixOrthogonalizeIdempotentCardSaid). It holds for the program of the seat, with its listed package variables as the program's text lays them. -/
import Derived.Test.YtglcmhldonkfdaaDoorCards
import Derived.Test.YtglcmhldonkfdaaDoorTie
import Derived.Test.YtglcmhldonkfdaaDoorSxAll1
import Derived.Test.YtglcmhldonkfdaaDoorFlMatrixOrthogonalizeIdempotent
import Derived.Test.YtglcmhldonkfdaaDoorPlMatrixOrthogonalizeIdempotent
set_option linter.unusedVariables false
set_option linter.unusedSimpArgs false
namespace Go.Proofs.YtglcmhldonkfdaaDoor.matrixOrthogonalizeIdempotent
open Go.ChangeShapes Go.WideShapes Go.ChangeAt Go.RowKit Go.Sx
theorem own : ownKnob Tryd.prog.godebug = none := by kernel_rfl
theorem laidOut : laidOutB Tryd.prog = true := by kernel_rfl
theorem fe_2 (x : List Value) (h : Fits [some .i64] x) : ∃ y : Int, x = en_i64 y ∧ ((IntKind.has .i64 y)) := by
  obtain ⟨c0, x, rfl, w0, h⟩ := fits_int h
  obtain rfl := fits_nil h
  exact ⟨c0, rfl, w0⟩
theorem door_met (os : Os) (args : Array Value) : laidMetH Tryd.prog Rows.matrixOrthogonalizeIdempotentRow.laid ((World.doorLaid Tryd.prog 700 os).forCall (fun _ _ => 0) ⟨#[], args, []⟩).memory :=
  laidMetH_of_parts3 (fuel := 8) (laidMet_of_run' 8 (by kernel_rfl) (by kernel_rfl)) (by kernel_rfl) (by kernel_rfl)
theorem glob {W : World} (h : laidMetH Tryd.prog Rows.matrixOrthogonalizeIdempotentRow.laid W) : Glob W := ⟨glob_block h (n := "armillary/interval.quotients") (d := _) (by apply List.Mem.tail; exact .head _) 0 106 16 gTab0 (by kernel_rfl) (by kernel_rfl) (by kernel_rfl), glob_block h (n := "armillary/interval.products") (d := _) (.head _) 1 112 16 gTab1 (by kernel_rfl) (by kernel_rfl) (by kernel_rfl)⟩
set_option maxRecDepth 100000 in
theorem lifted (os : Os) (started : os.Started) (H : Type) (enc : TypeId × Value → H) :
    ReturnsInHanded {} Tryd.checked os 8 .any (fun w args => (Rows.matrixOrthogonalizeIdempotentSpec.pre enc Tryd.prog Tryd.f8 Rows.matrixOrthogonalizeIdempotentRow.domain false w args ∧ laidMetH Tryd.prog Rows.matrixOrthogonalizeIdempotentRow.laid w) ∧ sizedMet enc Tryd.prog Tryd.f8 (OpenSpec.ofChange Rows.matrixOrthogonalizeIdempotentSpec) false w args) (Rows.matrixOrthogonalizeIdempotentSpec.post enc Tryd.prog Tryd.f8 false true false false) := by
  refine returnsInHanded_of_change_and (C := Tryd.checked) (X := fun w _ => laidMetH Tryd.prog Rows.matrixOrthogonalizeIdempotentRow.laid w) (fun _ _ _ hh h => h.of_heap hh) own started (by kernel_rfl) Tryd.func8
    (ChangeSpec.witness_shaped (enc := enc) (C := Tryd.checked) (os := os) (X := fun w _ => laidMetH Tryd.prog Rows.matrixOrthogonalizeIdempotentRow.laid w) false (World.doorLaid Tryd.prog 700 os) #[.slice none 0 0, .int .u8 0] 8 rfl (World.shaped_of_RefB (by kernel_rfl) (by kernel_rfl)) (by kernel_rfl) (by kernel_rfl) (by kernel_rfl) (door_met os _)) ?_
  intro W base args ds gs before hval0 hW _ _ hL _
  have hval : ∀ (j : Nat) t v, Tryd.f8.params[j]? = some t → args[j]? = some v → Value.okWide Tryd.prog W .any base t v := hval0
  have hW' := hW
  obtain ⟨p, q, hA0, hV, rfl, hfz, hnd⟩ := hW
  have hA : DataW.TrodAll enc Tryd.prog W 0 (fun _ => true) true Tryd.f8.params.toList args.toList ds p := hA0
  rw [Tryd.params8] at hA hval
  obtain ⟨v0, vs0, d0, ds0, p0, q0, hargs, rfl, rfl, h0, s0⟩ := trodAll_cons hA
  obtain ⟨v1, vs1, d1, ds1, p1, q1, rfl, rfl, rfl, h1, s1⟩ := trodAll_cons s0
  obtain ⟨rfl, rfl, rfl⟩ := trodAll_nil s1
  obtain rfl : args = #[v0, v1] := by cases args; simp_all
  obtain ⟨rfl, rfl⟩ := trodVars_none hV
  have kk0 := h0
  have lt0 : ∀ x ∈ p0, x.block < W.heap.size := by obtain ⟨m, hm⟩ := kk0; exact DataW.trod_lt m _ _ _ hm
  obtain ⟨b0, m0, kc0, rfl⟩ := okWide_slice Tryd.underlying32 (hval 0 32 v0 rfl rfl)
  have ok0 : Oks W [.row [some .i64]] [.slice b0 m0 kc0] := by obtain ⟨m, hm⟩ := kk0; exact leaves_ok 20 32 _ (by kernel_rfl) m _ _ hm
  obtain ⟨q_c0_0, k_c0_0, c0_0, g0_0, eq0, R_c0_0, w_c0_0, ok0⟩ := oks_row en_i64 (fun y => (IntKind.has .i64 y)) fe_2 ok0
  obtain rfl := oks_nil ok0
  injection eq0 with eq0 _
  injection eq0 with e1 e2 e3
  subst e1 e2 e3
  obtain ⟨c1_0, rfl, rfl, rfl, y_c1_0⟩ := open_int Tryd.underlying5 (hval 1 5 v1 rfl rfl) h1
  have w_c1_0 : IntKind.has .u8 c1_0 := by have z := y_c1_0; simp only [Lit.wf, Bool.and_eq_true, decide_eq_true_eq] at z; exact z
  clear hA0 hval0
  obtain ⟨k0, G⟩ := Pure_MatrixOrthogonalizeIdempotent c0_0 c1_0 w_c0_0 w_c1_0
  refine (armillarylaw04_MatrixOrthogonalizeIdempotent.calls k0 c0_0 c1_0 b0 kc0 true W ⟨rdA R_c0_0, glob_holds (glob hL), trivial⟩ G).mono fun e W' ⟨he, bel⟩ => ?_
  subst he
  exact ⟨_, rfl, _, _, _, [], _, [], hW', trodAll_mk1 (shut_bool Tryd.underlying4 _), (trodAll_cons_mk (Below.trod laidOut (by kernel_rfl) (of_decide_eq_true (by kernel_rfl)) kk0 bel lt0) (trodAll_cons_mk (shut_int Tryd.underlying5 y_c1_0) trodAll_mk0)), rfl, bel.frame _, fun h => by cases h⟩
theorem over : Rows.matrixOrthogonalizeIdempotentRow.holds Tryd.pinned (OpenSpec.ofChange Rows.matrixOrthogonalizeIdempotentSpec) :=
  OpenClaim.holds_of_wide 8 Tryd.f8 rfl rfl rfl rfl rfl rfl rfl ⟨rfl, rfl, rfl, rfl, rfl⟩ rfl rfl rfl rfl rfl (by kernel_rfl) Tryd.func8 (by kernel_rfl)
    (of_decide_eq_true (by kernel_rfl)) (by unfold Func.isWrapper; first | (rw [if_pos (by decide +kernel)]; kernel_rfl) | (rw [if_neg (by decide +kernel)]; exact ⟨rfl, rfl⟩))
    (fun os started H enc _ => lifted os started H enc)
theorem card_holds : Rows.MatrixOrthogonalizeIdempotentCardSaid :=
  Claim7.holds_tied_plain_at .later [] [.funcs, .funcs] true (true, "95637fcafaba1b6a38907c87fa67a7425f2f3202b7572380052f27bce0addaa5") false
    over (fun _ h => by cases h) (by kernel_rfl) (fun _ h => by cases h) matrixOrthogonalizeIdempotent_row_tie rfl ⟨rfl, rfl⟩ (by kernel_rfl) rfl
    (fun f fn hf hfn => by
      obtain rfl : f = 8 := Option.some.inj ((show Tryd.prog.funcNamed "armillary/armillarylaw04.MatrixOrthogonalizeIdempotent" = some 8 by kernel_rfl).symm.trans hf) |>.symm
      obtain rfl : fn = Tryd.f8 := (Option.some.inj (Tryd.func8.symm.trans hfn)).symm
      exact ⟨by kernel_rfl, fun j t ht => by
        rw [Tryd.params8] at ht
        have hm : t ∈ [32, 5] := by simpa using Array.mem_of_getElem? ht
        have hall : ([32, 5].all fun u => !Tryd.prog.wantsStandIn u) = true := by kernel_rfl
        exact (show Tryd.prog.wantsStandIn t = false by simpa using List.all_eq_true.1 hall t hm)⟩)
    (by kernel_rfl)
#print axioms card_holds
end Go.Proofs.YtglcmhldonkfdaaDoor.matrixOrthogonalizeIdempotent
