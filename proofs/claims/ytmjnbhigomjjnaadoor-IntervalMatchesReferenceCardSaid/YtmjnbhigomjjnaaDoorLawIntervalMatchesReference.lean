/- PROVED: the law IntervalMatchesReference answers true for every input of its types, and each argument reads afterwards as it read before (the seat's statement IntervalMatchesReferenceCardSaid). It holds for the program of the seat, with its listed package variables as the program's text lays them. -/
import Derived.Test.YtmjnbhigomjjnaaDoorCards
import Derived.Test.YtmjnbhigomjjnaaDoorTie
import Derived.Test.YtmjnbhigomjjnaaDoorSxRow
import Derived.Test.YtmjnbhigomjjnaaDoorFlIntervalMatchesReference
import Derived.Test.YtmjnbhigomjjnaaDoorPlIntervalMatchesReference
set_option linter.unusedVariables false
set_option linter.unusedSimpArgs false
namespace Go.Proofs.YtmjnbhigomjjnaaDoor.intervalMatchesReference
open Go.ChangeShapes Go.WideShapes Go.ChangeAt Go.RowKit Go.Sx
theorem own : ownKnob Tryd.prog.godebug = none := by kernel_rfl
theorem laidOut : laidOutB Tryd.prog = true := by kernel_rfl
theorem door_met (os : Os) (args : Array Value) : laidMetH Tryd.prog Rows.intervalMatchesReferenceRow.laid ((World.doorLaid Tryd.prog 700 os).forCall (fun _ _ => 0) ⟨#[], args, []⟩).memory :=
  laidMetH_of_parts3 (fuel := 8) (laidMet_of_run' 8 (by kernel_rfl) (by kernel_rfl)) (by kernel_rfl) (by kernel_rfl)
theorem glob {W : World} (h : laidMetH Tryd.prog Rows.intervalMatchesReferenceRow.laid W) : Glob W := ⟨glob_block h (n := "armillary/interval.products") (d := _) (.head _) 0 63 16 gTab0 (by kernel_rfl) (by kernel_rfl) (by kernel_rfl), glob_block h (n := "armillary/interval.quotients") (d := _) (by apply List.Mem.tail; exact .head _) 1 65 16 gTab1 (by kernel_rfl) (by kernel_rfl) (by kernel_rfl)⟩
set_option maxRecDepth 100000 in
theorem lifted (os : Os) (started : os.Started) (H : Type) (enc : TypeId × Value → H) :
    ReturnsInHanded {} Tryd.checked os 9 .any (fun w args => (Rows.intervalMatchesReferenceSpec.pre enc Tryd.prog Tryd.f9 Rows.intervalMatchesReferenceRow.domain false w args ∧ laidMetH Tryd.prog Rows.intervalMatchesReferenceRow.laid w) ∧ sizedMet enc Tryd.prog Tryd.f9 (OpenSpec.ofChange Rows.intervalMatchesReferenceSpec) false w args) (Rows.intervalMatchesReferenceSpec.post enc Tryd.prog Tryd.f9 false true false false) := by
  refine returnsInHanded_of_change_and (C := Tryd.checked) (X := fun w _ => laidMetH Tryd.prog Rows.intervalMatchesReferenceRow.laid w) (fun _ _ _ hh h => h.of_heap hh) own started (by kernel_rfl) Tryd.func9
    (ChangeSpec.witness_shaped (enc := enc) (C := Tryd.checked) (os := os) (X := fun w _ => laidMetH Tryd.prog Rows.intervalMatchesReferenceRow.laid w) false (World.doorLaid Tryd.prog 700 os) #[.agg #[.int .i64 0, .int .i64 0, .int .i64 0, .int .i64 0, .int .i32 0, .int .u16 0], .int .i64 0] 8 rfl (World.shaped_of_RefB (by kernel_rfl) (by kernel_rfl)) (by kernel_rfl) (by kernel_rfl) (by kernel_rfl) (door_met os _)) ?_
  intro W base args ds gs before hval0 hW _ _ hL _
  have hval : ∀ (j : Nat) t v, Tryd.f9.params[j]? = some t → args[j]? = some v → Value.okWide Tryd.prog W .any base t v := hval0
  have hW' := hW
  obtain ⟨p, q, hA0, hV, rfl, hfz, hnd⟩ := hW
  have hA : DataW.TrodAll enc Tryd.prog W 0 (fun _ => true) true Tryd.f9.params.toList args.toList ds p := hA0
  rw [Tryd.params9] at hA hval
  obtain ⟨v0, vs0, d0, ds0, p0, q0, hargs, rfl, rfl, h0, s0⟩ := trodAll_cons hA
  obtain ⟨v1, vs1, d1, ds1, p1, q1, rfl, rfl, rfl, h1, s1⟩ := trodAll_cons s0
  obtain ⟨rfl, rfl, rfl⟩ := trodAll_nil s1
  obtain rfl : args = #[v0, v1] := by cases args; simp_all
  obtain ⟨rfl, rfl⟩ := trodVars_none hV
  have kk0 := h0
  have lt0 : ∀ x ∈ p0, x.block < W.heap.size := by obtain ⟨m, hm⟩ := kk0; exact DataW.trod_lt m _ _ _ hm
  obtain ⟨e0, rfl, fit0⟩ := open_fits [some .i64, some .i64, some .i64, some .i64, some .i32, some .u16] [2, 2, 2, 2, 21, 24] (by kernel_rfl) (by kernel_rfl) (by kernel_rfl) (by kernel_rfl) (hval 0 26 v0 rfl rfl)
  obtain ⟨c0_0, g0_0, rfl, w_c0_0, fit0⟩ := fits_int fit0
  obtain ⟨c0_1, g0_1, rfl, w_c0_1, fit0⟩ := fits_int fit0
  obtain ⟨c0_2, g0_2, rfl, w_c0_2, fit0⟩ := fits_int fit0
  obtain ⟨c0_3, g0_3, rfl, w_c0_3, fit0⟩ := fits_int fit0
  obtain ⟨c0_4, g0_4, rfl, w_c0_4, fit0⟩ := fits_int fit0
  obtain ⟨c0_5, g0_5, rfl, w_c0_5, fit0⟩ := fits_int fit0
  obtain rfl := fits_nil fit0
  obtain ⟨c1_0, rfl, rfl, rfl, y_c1_0⟩ := open_int Tryd.underlying2 (hval 1 2 v1 rfl rfl) h1
  have w_c1_0 : IntKind.has .i64 c1_0 := by have z := y_c1_0; simp only [Lit.wf, Bool.and_eq_true, decide_eq_true_eq] at z; exact z
  clear hA0 hval0
  obtain ⟨k0, G⟩ := Pure_IntervalMatchesReference c0_0 c0_1 c0_2 c0_3 c0_4 c0_5 c1_0 w_c0_0 w_c0_1 w_c0_2 w_c0_3 w_c0_4 w_c0_5 w_c1_0
  refine (armillarylaw02_IntervalMatchesReference.calls k0 (⟨(⟨c0_0, c0_1⟩ : TInterval), (⟨c0_2, c0_3⟩ : TInterval), c0_4, c0_5⟩ : TOperands) c1_0 true W (glob hL) G).mono fun e W' ⟨he, bel⟩ => ?_
  subst he
  exact ⟨_, rfl, _, _, _, [], _, [], hW', trodAll_mk1 (shut_bool Tryd.underlying4 _), (trodAll_cons_mk (Below.trod laidOut (by kernel_rfl) (of_decide_eq_true (by kernel_rfl)) kk0 bel lt0) (trodAll_cons_mk (shut_int Tryd.underlying2 y_c1_0) trodAll_mk0)), rfl, bel.frame _, fun h => by cases h⟩
theorem over : Rows.intervalMatchesReferenceRow.holds Tryd.pinned (OpenSpec.ofChange Rows.intervalMatchesReferenceSpec) :=
  OpenClaim.holds_of_wide 9 Tryd.f9 rfl rfl rfl rfl rfl rfl rfl ⟨rfl, rfl, rfl, rfl, rfl⟩ rfl rfl rfl rfl rfl (by kernel_rfl) Tryd.func9 (by kernel_rfl)
    (of_decide_eq_true (by kernel_rfl)) (by unfold Func.isWrapper; first | (rw [if_pos (by decide +kernel)]; kernel_rfl) | (rw [if_neg (by decide +kernel)]; exact ⟨rfl, rfl⟩))
    (fun os started H enc _ => lifted os started H enc)
theorem card_holds : Rows.IntervalMatchesReferenceCardSaid :=
  Claim7.holds_tied_plain_at .later [] [.funcs, .funcs] true (true, "a02ccfd57a26923746b637a9062c67ca770692943b3665acd6f4c73499b3b86f") false
    over (fun _ h => by cases h) (by kernel_rfl) (fun _ h => by cases h) intervalMatchesReference_row_tie rfl ⟨rfl, rfl⟩ (by kernel_rfl) rfl
    (fun f fn hf hfn => by
      obtain rfl : f = 9 := Option.some.inj ((show Tryd.prog.funcNamed "armillary/armillarylaw02.IntervalMatchesReference" = some 9 by kernel_rfl).symm.trans hf) |>.symm
      obtain rfl : fn = Tryd.f9 := (Option.some.inj (Tryd.func9.symm.trans hfn)).symm
      exact ⟨by kernel_rfl, fun j t ht => by
        rw [Tryd.params9] at ht
        have hm : t ∈ [26, 2] := by simpa using Array.mem_of_getElem? ht
        have hall : ([26, 2].all fun u => !Tryd.prog.wantsStandIn u) = true := by kernel_rfl
        exact (show Tryd.prog.wantsStandIn t = false by simpa using List.all_eq_true.1 hall t hm)⟩)
    (by kernel_rfl)
#print axioms card_holds
end Go.Proofs.YtmjnbhigomjjnaaDoor.intervalMatchesReference
