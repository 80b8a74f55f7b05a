/- PROVED: the law GuardSoundForLines answers true for every input of its types, and each argument reads afterwards as it read before (the seat's statement GuardSoundForLinesCardSaid). It holds for the program of the seat, with its listed package variables as the program's text lays them. -/
import Derived.Test.YtkkodieceehkmaaDoorCards
import Derived.Test.YtkkodieceehkmaaDoorTie
import Derived.Test.YtkkodieceehkmaaDoorSxRow
import Derived.Test.YtkkodieceehkmaaDoorFlGuardSoundForLines
import Derived.Test.YtkkodieceehkmaaDoorPlGuardSoundForLines
set_option linter.unusedVariables false
set_option linter.unusedSimpArgs false
namespace Go.Proofs.YtkkodieceehkmaaDoor.guardSoundForLines
open Go.ChangeShapes Go.WideShapes Go.ChangeAt Go.RowKit Go.Sx
theorem own : ownKnob Tryd.prog.godebug = none := by kernel_rfl
theorem laidOut : laidOutB Tryd.prog = true := by kernel_rfl
theorem door_met (os : Os) (args : Array Value) : laidMetH Tryd.prog Rows.guardSoundForLinesRow.laid ((World.doorLaid Tryd.prog 700 os).forCall (fun _ _ => 0) ⟨#[], args, []⟩).memory :=
  laidMetH_of_parts3 (fuel := 8) (laidMet_of_run' 8 (by kernel_rfl) (by kernel_rfl)) (by kernel_rfl) (by kernel_rfl)
theorem glob {W : World} (h : laidMetH Tryd.prog Rows.guardSoundForLinesRow.laid W) : Glob W := ⟨glob_block h (n := "armillary/interval.products") (d := _) (.head _) 0 120 16 gTab0 (by kernel_rfl) (by kernel_rfl) (by kernel_rfl), glob_block h (n := "armillary/interval.quotients") (d := _) (by apply List.Mem.tail; exact .head _) 1 123 16 gTab1 (by kernel_rfl) (by kernel_rfl) (by kernel_rfl)⟩
set_option maxRecDepth 100000 in
theorem lifted (os : Os) (started : os.Started) (H : Type) (enc : TypeId × Value → H) :
    ReturnsInHanded {} Tryd.checked os 6 .any (fun w args => (Rows.guardSoundForLinesSpec.pre enc Tryd.prog Tryd.f6 Rows.guardSoundForLinesRow.domain false w args ∧ laidMetH Tryd.prog Rows.guardSoundForLinesRow.laid w) ∧ sizedMet enc Tryd.prog Tryd.f6 (OpenSpec.ofChange Rows.guardSoundForLinesSpec) false w args) (Rows.guardSoundForLinesSpec.post enc Tryd.prog Tryd.f6 false true false false) := by
  refine returnsInHanded_of_change_and (C := Tryd.checked) (X := fun w _ => laidMetH Tryd.prog Rows.guardSoundForLinesRow.laid w) (fun _ _ _ hh h => h.of_heap hh) own started (by kernel_rfl) Tryd.func6
    (ChangeSpec.witness_shaped (enc := enc) (C := Tryd.checked) (os := os) (X := fun w _ => laidMetH Tryd.prog Rows.guardSoundForLinesRow.laid w) false (World.doorLaid Tryd.prog 700 os) #[.int .i32 0, .int .i32 0, .int .i32 0, .int .i8 0, .agg #[.int .u16 0, .int .u16 0]] 8 rfl (World.shaped_of_RefB (by kernel_rfl) (by kernel_rfl)) (by kernel_rfl) (by kernel_rfl) (by kernel_rfl) (door_met os _)) ?_
  intro W base args ds gs before hval0 hW _ _ hL _
  have hval : ∀ (j : Nat) t v, Tryd.f6.params[j]? = some t → args[j]? = some v → Value.okWide Tryd.prog W .any base t v := hval0
  have hW' := hW
  obtain ⟨p, q, hA0, hV, rfl, hfz, hnd⟩ := hW
  have hA : DataW.TrodAll enc Tryd.prog W 0 (fun _ => true) true Tryd.f6.params.toList args.toList ds p := hA0
  rw [Tryd.params6] at hA hval
  obtain ⟨v0, vs0, d0, ds0, p0, q0, hargs, rfl, rfl, h0, s0⟩ := trodAll_cons hA
  obtain ⟨v1, vs1, d1, ds1, p1, q1, rfl, rfl, rfl, h1, s1⟩ := trodAll_cons s0
  obtain ⟨v2, vs2, d2, ds2, p2, q2, rfl, rfl, rfl, h2, s2⟩ := trodAll_cons s1
  obtain ⟨v3, vs3, d3, ds3, p3, q3, rfl, rfl, rfl, h3, s3⟩ := trodAll_cons s2
  obtain ⟨v4, vs4, d4, ds4, p4, q4, rfl, rfl, rfl, h4, s4⟩ := trodAll_cons s3
  obtain ⟨rfl, rfl, rfl⟩ := trodAll_nil s4
  obtain rfl : args = #[v0, v1, v2, v3, v4] := by cases args; simp_all
  obtain ⟨rfl, rfl⟩ := trodVars_none hV
  obtain ⟨c0_0, rfl, rfl, rfl, y_c0_0⟩ := open_int Tryd.underlying21 (hval 0 21 v0 rfl rfl) h0
  have w_c0_0 : IntKind.has .i32 c0_0 := by have z := y_c0_0; simp only [Lit.wf, Bool.and_eq_true, decide_eq_true_eq] at z; exact z
  obtain ⟨c1_0, rfl, rfl, rfl, y_c1_0⟩ := open_int Tryd.underlying21 (hval 1 21 v1 rfl rfl) h1
  have w_c1_0 : IntKind.has .i32 c1_0 := by have z := y_c1_0; simp only [Lit.wf, Bool.and_eq_true, decide_eq_true_eq] at z; exact z
  obtain ⟨c2_0, rfl, rfl, rfl, y_c2_0⟩ := open_int Tryd.underlying21 (hval 2 21 v2 rfl rfl) h2
  have w_c2_0 : IntKind.has .i32 c2_0 := by have z := y_c2_0; simp only [Lit.wf, Bool.and_eq_true, decide_eq_true_eq] at z; exact z
  obtain ⟨c3_0, rfl, rfl, rfl, y_c3_0⟩ := open_int Tryd.underlying23 (hval 3 23 v3 rfl rfl) h3
  have w_c3_0 : IntKind.has .i8 c3_0 := by have z := y_c3_0; simp only [Lit.wf, Bool.and_eq_true, decide_eq_true_eq] at z; exact z
  have kk4 := h4
  have lt4 : ∀ x ∈ p4, x.block < W.heap.size := by obtain ⟨m, hm⟩ := kk4; exact DataW.trod_lt m _ _ _ hm
  obtain ⟨e4, rfl, fit4⟩ := open_fits [some .u16, some .u16] [49, 49] (by kernel_rfl) (by kernel_rfl) (by kernel_rfl) (by kernel_rfl) (hval 4 50 v4 rfl rfl)
  obtain ⟨c4_0, g4_0, rfl, w_c4_0, fit4⟩ := fits_int fit4
  obtain ⟨c4_1, g4_1, rfl, w_c4_1, fit4⟩ := fits_int fit4
  obtain rfl := fits_nil fit4
  clear hA0 hval0
  obtain ⟨k0, G⟩ := Pure_GuardSoundForLines c0_0 c1_0 c2_0 c3_0 c4_0 c4_1 w_c0_0 w_c1_0 w_c2_0 w_c3_0 w_c4_0 w_c4_1
  refine (armillarylaw15_GuardSoundForLines.calls k0 c0_0 c1_0 c2_0 c3_0 (⟨c4_0, c4_1⟩ : TA2_Int) true W (glob hL) G).mono fun e W' ⟨he, bel⟩ => ?_
  subst he
  exact ⟨_, rfl, _, _, _, [], _, [], hW', trodAll_mk1 (shut_bool Tryd.underlying4 _), (trodAll_cons_mk (shut_int Tryd.underlying21 y_c0_0) (trodAll_cons_mk (shut_int Tryd.underlying21 y_c1_0) (trodAll_cons_mk (shut_int Tryd.underlying21 y_c2_0) (trodAll_cons_mk (shut_int Tryd.underlying23 y_c3_0) (trodAll_cons_mk (Below.trod laidOut (by kernel_rfl) (of_decide_eq_true (by kernel_rfl)) kk4 bel lt4) trodAll_mk0))))), rfl, bel.frame _, fun h => by cases h⟩
theorem over : Rows.guardSoundForLinesRow.holds Tryd.pinned (OpenSpec.ofChange Rows.guardSoundForLinesSpec) :=
  OpenClaim.holds_of_wide 6 Tryd.f6 rfl rfl rfl rfl rfl rfl rfl ⟨rfl, rfl, rfl, rfl, rfl⟩ rfl rfl rfl rfl rfl (by kernel_rfl) Tryd.func6 (by kernel_rfl)
    (of_decide_eq_true (by kernel_rfl)) (by unfold Func.isWrapper; first | (rw [if_pos (by decide +kernel)]; kernel_rfl) | (rw [if_neg (by decide +kernel)]; exact ⟨rfl, rfl⟩))
    (fun os started H enc _ => lifted os started H enc)
theorem card_holds : Rows.GuardSoundForLinesCardSaid :=
  Claim7.holds_tied_plain_at .later [] [.funcs, .funcs] true (true, "cc31d6fc2efee4bd73f50eee813e8436d00bb4c2a1c8f32a3dd37293ceb400f7") false
    over (fun _ h => by cases h) (by kernel_rfl) (fun _ h => by cases h) guardSoundForLines_row_tie rfl ⟨rfl, rfl⟩ (by kernel_rfl) rfl
    (fun f fn hf hfn => by
      obtain rfl : f = 6 := Option.some.inj ((show Tryd.prog.funcNamed "armillary/armillarylaw15.GuardSoundForLines" = some 6 by kernel_rfl).symm.trans hf) |>.symm
      obtain rfl : fn = Tryd.f6 := (Option.some.inj (Tryd.func6.symm.trans hfn)).symm
      exact ⟨by kernel_rfl, fun j t ht => by
        rw [Tryd.params6] at ht
        have hm : t ∈ [21, 21, 21, 23, 50] := by simpa using Array.mem_of_getElem? ht
        have hall : ([21, 21, 21, 23, 50].all fun u => !Tryd.prog.wantsStandIn u) = true := by kernel_rfl
        exact (show Tryd.prog.wantsStandIn t = false by simpa using List.all_eq_true.1 hall t hm)⟩)
    (by kernel_rfl)
#print axioms card_holds
end Go.Proofs.YtkkodieceehkmaaDoor.guardSoundForLines
