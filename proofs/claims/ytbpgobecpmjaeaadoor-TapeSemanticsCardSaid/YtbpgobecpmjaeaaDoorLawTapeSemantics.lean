/- PROVED: the law TapeSemantics answers true for every input of its types, and each argument reads afterwards as it read before (the seat's statement TapeSemanticsCardSaid). It holds for the program of the seat, with its listed package variables as the program's text lays them. -/
import Derived.Test.YtbpgobecpmjaeaaDoorCards
import Derived.Test.YtbpgobecpmjaeaaDoorTie
import Derived.Test.YtbpgobecpmjaeaaDoorSxAll1
import Derived.Test.YtbpgobecpmjaeaaDoorFlTapeSemantics
import Derived.Test.YtbpgobecpmjaeaaDoorPlTapeSemantics
set_option linter.unusedVariables false
set_option linter.unusedSimpArgs false
namespace Go.Proofs.YtbpgobecpmjaeaaDoor.tapeSemantics
open Go.ChangeShapes Go.WideShapes Go.ChangeAt Go.RowKit Go.Sx
theorem own : ownKnob Tryd.prog.godebug = none := by kernel_rfl
theorem laidOut : laidOutB Tryd.prog = true := by kernel_rfl
theorem fe_3 (x : List Value) (h : Fits [some .i64] x) : ∃ y : Int, x = en_i64 y ∧ ((IntKind.has .i64 y)) := by
  obtain ⟨c0, x, rfl, w0, h⟩ := fits_int h
  obtain rfl := fits_nil h
  exact ⟨c0, rfl, w0⟩
theorem fe_28 (x : List Value) (h : Fits [some .i64, some .i64] x) : ∃ y : TInterval, x = en_TInterval y ∧ ((IntKind.has .i64 y.Lo) ∧ (IntKind.has .i64 y.Hi)) := by
  obtain ⟨c0, x, rfl, w0, h⟩ := fits_int h
  obtain ⟨c1, x, rfl, w1, h⟩ := fits_int h
  obtain rfl := fits_nil h
  exact ⟨(⟨c0, c1⟩ : TInterval), rfl, w0, w1⟩
theorem fe_50 (x : List Value) (h : Fits [some .i64, some .i64, some .i64, some .i64, some .i64] x) : ∃ y : TInstruction, x = en_TInstruction y ∧ ((IntKind.has .i64 y.Op) ∧ (IntKind.has .i64 y.A) ∧ (IntKind.has .i64 y.B) ∧ (IntKind.has .i64 y.C.Lo) ∧ (IntKind.has .i64 y.C.Hi)) := by
  obtain ⟨c0, x, rfl, w0, h⟩ := fits_int h
  obtain ⟨c1, x, rfl, w1, h⟩ := fits_int h
  obtain ⟨c2, x, rfl, w2, h⟩ := fits_int h
  obtain ⟨c3, x, rfl, w3, h⟩ := fits_int h
  obtain ⟨c4, x, rfl, w4, h⟩ := fits_int h
  obtain rfl := fits_nil h
  exact ⟨(⟨c0, c1, c2, (⟨c3, c4⟩ : TInterval)⟩ : TInstruction), rfl, w0, w1, w2, w3, w4⟩
theorem door_met (os : Os) (args : Array Value) : laidMetH Tryd.prog Rows.tapeSemanticsRow.laid ((World.doorLaid Tryd.prog 700 os).forCall (fun _ _ => 0) ⟨#[], args, []⟩).memory :=
  laidMetH_of_parts3 (fuel := 8) (laidMet_of_run' 8 (by kernel_rfl) (by kernel_rfl)) (by kernel_rfl) (by kernel_rfl)
theorem glob {W : World} (h : laidMetH Tryd.prog Rows.tapeSemanticsRow.laid W) : Glob W := ⟨glob_block h (n := "armillary/tape.ops") (d := _) (by apply List.Mem.tail; apply List.Mem.tail; exact .head _) 0 66 16 gTab0 (by kernel_rfl) (by kernel_rfl) (by kernel_rfl), glob_block h (n := "armillary/interval.products") (d := _) (.head _) 1 99 16 gTab1 (by kernel_rfl) (by kernel_rfl) (by kernel_rfl), glob_block h (n := "armillary/interval.quotients") (d := _) (by apply List.Mem.tail; exact .head _) 2 102 16 gTab2 (by kernel_rfl) (by kernel_rfl) (by kernel_rfl)⟩
set_option maxRecDepth 100000 in
theorem lifted (os : Os) (started : os.Started) (H : Type) (enc : TypeId × Value → H) :
    ReturnsInHanded {} Tryd.checked os 3 .any (fun w args => (Rows.tapeSemanticsSpec.pre enc Tryd.prog Tryd.f3 Rows.tapeSemanticsRow.domain false w args ∧ laidMetH Tryd.prog Rows.tapeSemanticsRow.laid w) ∧ sizedMet enc Tryd.prog Tryd.f3 (OpenSpec.ofChange Rows.tapeSemanticsSpec) false w args) (Rows.tapeSemanticsSpec.post enc Tryd.prog Tryd.f3 false true false false) := by
  refine returnsInHanded_of_change_and (C := Tryd.checked) (X := fun w _ => laidMetH Tryd.prog Rows.tapeSemanticsRow.laid w) (fun _ _ _ hh h => h.of_heap hh) own started (by kernel_rfl) Tryd.func3
    (ChangeSpec.witness_shaped (enc := enc) (C := Tryd.checked) (os := os) (X := fun w _ => laidMetH Tryd.prog Rows.tapeSemanticsRow.laid w) false (World.doorLaid Tryd.prog 700 os) #[.agg #[.int .i64 0, .slice none 0 0, .slice none 0 0, .slice none 0 0, .int .i64 0, .int .i64 0]] 8 rfl (World.shaped_of_RefB (by kernel_rfl) (by kernel_rfl)) (by kernel_rfl) (by kernel_rfl) (by kernel_rfl) (door_met os _)) ?_
  intro W base args ds gs before hval0 hW _ _ hL _
  have hval : ∀ (j : Nat) t v, Tryd.f3.params[j]? = some t → args[j]? = some v → Value.okWide Tryd.prog W .any base t v := hval0
  have hW' := hW
  obtain ⟨p, q, hA0, hV, rfl, hfz, hnd⟩ := hW
  have hA : DataW.TrodAll enc Tryd.prog W 0 (fun _ => true) true Tryd.f3.params.toList args.toList ds p := hA0
  rw [Tryd.params3] at hA hval
  obtain ⟨v0, vs0, d0, ds0, p0, q0, hargs, rfl, rfl, h0, s0⟩ := trodAll_cons hA
  obtain ⟨rfl, rfl, rfl⟩ := trodAll_nil s0
  obtain rfl : args = #[v0] := by cases args; simp_all
  obtain ⟨rfl, rfl⟩ := trodVars_none hV
  have kk0 := h0
  have lt0 : ∀ x ∈ p0, x.block < W.heap.size := by obtain ⟨m, hm⟩ := kk0; exact DataW.trod_lt m _ _ _ hm
  obtain ⟨e0, rfl⟩ := agg_of (by kernel_rfl) (hval 0 30 v0 rfl rfl)
  have ok0 : Oks W [.cell (some .i64), .row [some .i64, some .i64, some .i64, some .i64, some .i64], .row [some .i64], .row [some .i64, some .i64], .cell (some .i64), .cell (some .i64)] e0 := by obtain ⟨m, hm⟩ := kk0; exact leaves_ok 20 30 _ (by kernel_rfl) m _ _ hm
  obtain ⟨c0_0, g0_0, rfl, w_c0_0, ok0⟩ := oks_int ok0
  obtain ⟨q_c0_1, k_c0_1, c0_1, g0_1, rfl, R_c0_1, w_c0_1, ok0⟩ := oks_row en_TInstruction (fun y => (IntKind.has .i64 y.Op) ∧ (IntKind.has .i64 y.A) ∧ (IntKind.has .i64 y.B) ∧ (IntKind.has .i64 y.C.Lo) ∧ (IntKind.has .i64 y.C.Hi)) fe_50 ok0
  obtain ⟨q_c0_2, k_c0_2, c0_2, g0_2, rfl, R_c0_2, w_c0_2, ok0⟩ := oks_row en_i64 (fun y => (IntKind.has .i64 y)) fe_3 ok0
  obtain ⟨q_c0_3, k_c0_3, c0_3, g0_3, rfl, R_c0_3, w_c0_3, ok0⟩ := oks_row en_TInterval (fun y => (IntKind.has .i64 y.Lo) ∧ (IntKind.has .i64 y.Hi)) fe_28 ok0
  obtain ⟨c0_4, g0_4, rfl, w_c0_4, ok0⟩ := oks_int ok0
  obtain ⟨c0_5, g0_5, rfl, w_c0_5, ok0⟩ := oks_int ok0
  obtain rfl := oks_nil ok0
  clear hA0 hval0
  obtain ⟨k0, G⟩ := Pure_TapeSemantics c0_0 c0_1 c0_2 c0_3 c0_4 c0_5 w_c0_0 w_c0_1 w_c0_2 w_c0_3 w_c0_4 w_c0_5
  refine (armillarylaw08_TapeSemantics.calls k0 (⟨(⟨c0_0, c0_1, c0_2⟩ : TTape), c0_3, (⟨c0_4, c0_5⟩ : TInterval)⟩ : TQuery) q_c0_1 k_c0_1 q_c0_2 k_c0_2 q_c0_3 k_c0_3 true W ⟨rdA R_c0_1, rdA R_c0_2, rdA R_c0_3, glob_holds (glob hL), trivial⟩ G).mono fun e W' ⟨he, bel⟩ => ?_
  subst he
  exact ⟨_, rfl, _, _, _, [], _, [], hW', trodAll_mk1 (shut_bool Tryd.underlying4 _), (trodAll_cons_mk (Below.trod laidOut (by kernel_rfl) (of_decide_eq_true (by kernel_rfl)) kk0 bel lt0) trodAll_mk0), rfl, bel.frame _, fun h => by cases h⟩
theorem over : Rows.tapeSemanticsRow.holds Tryd.pinned (OpenSpec.ofChange Rows.tapeSemanticsSpec) :=
  OpenClaim.holds_of_wide 3 Tryd.f3 rfl rfl rfl rfl rfl rfl rfl ⟨rfl, rfl, rfl, rfl, rfl⟩ rfl rfl rfl rfl rfl (by kernel_rfl) Tryd.func3 (by kernel_rfl)
    (of_decide_eq_true (by kernel_rfl)) (by unfold Func.isWrapper; first | (rw [if_pos (by decide +kernel)]; kernel_rfl) | (rw [if_neg (by decide +kernel)]; exact ⟨rfl, rfl⟩))
    (fun os started H enc _ => lifted os started H enc)
theorem card_holds : Rows.TapeSemanticsCardSaid :=
  Claim7.holds_tied_plain_at .later [] [.funcs, .funcs, .funcs] true (true, "57046ef348960e8a29bbbb325f6145577e9bd51ab9f64e3bf21235dfb0557440") false
    over (fun _ h => by cases h) (by kernel_rfl) (fun _ h => by cases h) tapeSemantics_row_tie rfl ⟨rfl, rfl⟩ (by kernel_rfl) rfl
    (fun f fn hf hfn => by
      obtain rfl : f = 3 := Option.some.inj ((show Tryd.prog.funcNamed "armillary/armillarylaw08.TapeSemantics" = some 3 by kernel_rfl).symm.trans hf) |>.symm
      obtain rfl : fn = Tryd.f3 := (Option.some.inj (Tryd.func3.symm.trans hfn)).symm
      exact ⟨by kernel_rfl, fun j t ht => by
        rw [Tryd.params3] at ht
        have hm : t ∈ [30] := by simpa using Array.mem_of_getElem? ht
        have hall : ([30].all fun u => !Tryd.prog.wantsStandIn u) = true := by kernel_rfl
        exact (show Tryd.prog.wantsStandIn t = false by simpa using List.all_eq_true.1 hall t hm)⟩)
    (by kernel_rfl)
#print axioms card_holds
end Go.Proofs.YtbpgobecpmjaeaaDoor.tapeSemantics
