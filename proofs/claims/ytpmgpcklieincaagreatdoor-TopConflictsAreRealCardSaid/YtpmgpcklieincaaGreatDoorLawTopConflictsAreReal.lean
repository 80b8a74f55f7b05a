/- PROVED: the law TopConflictsAreReal answers true for every input of its types, and each argument reads afterwards as it read before (the seat's statement TopConflictsAreRealCardSaid). It holds for the program of the seat, with its listed package variables as the program's text lays them. -/
import Derived.Test.YtpmgpcklieincaaGreatDoorCards
import Derived.Test.YtpmgpcklieincaaGreatDoorTie
import Derived.Test.YtpmgpcklieincaaGreatDoorSxAll1
import Derived.Test.YtpmgpcklieincaaGreatDoorFlTopConflictsAreReal
import Derived.Test.YtpmgpcklieincaaGreatDoorPlTopConflictsAreReal
set_option linter.unusedVariables false
set_option linter.unusedSimpArgs false
namespace Go.Proofs.YtpmgpcklieincaaGreatDoor.topConflictsAreReal
open Go.ChangeShapes Go.WideShapes Go.ChangeAt Go.RowKit Go.Sx
theorem own : ownKnob Tryz.prog.godebug = none := by kernel_rfl
theorem laidOut : laidOutB Tryz.prog = true := by kernel_rfl
theorem door_met (os : Os) (args : Array Value) : laidMetH Tryz.prog Rows.topConflictsAreRealRow.laid ((World.doorLaid Tryz.prog 700 os).forCall (fun _ _ => 0) ⟨#[], args, []⟩).memory :=
  laidMetH_of_parts3 (fuel := 8) (laidMet_of_run' 8 (by kernel_rfl) (by kernel_rfl)) (by kernel_rfl) (by kernel_rfl)
theorem glob {W : World} (h : laidMetH Tryz.prog Rows.topConflictsAreRealRow.laid W) : Glob W := ⟨glob_block h (n := "armillary/interval.products") (d := _) (.head _) 0 228 16 gTab0 (by kernel_rfl) (by kernel_rfl) (by kernel_rfl), glob_block h (n := "armillary/tape.ops") (d := _) (by apply List.Mem.tail; apply List.Mem.tail; exact .head _) 1 231 16 gTab1 (by kernel_rfl) (by kernel_rfl) (by kernel_rfl), glob_block h (n := "armillary/interval.quotients") (d := _) (by apply List.Mem.tail; exact .head _) 2 239 16 gTab2 (by kernel_rfl) (by kernel_rfl) (by kernel_rfl)⟩
set_option maxRecDepth 100000 in
theorem lifted (os : Os) (started : os.Started) (H : Type) (enc : TypeId × Value → H) :
    ReturnsInHanded {} Tryz.checked os 8 .any (fun w args => (Rows.topConflictsAreRealSpec.pre enc Tryz.prog Tryz.f8 Rows.topConflictsAreRealRow.domain false w args ∧ laidMetH Tryz.prog Rows.topConflictsAreRealRow.laid w) ∧ sizedMet enc Tryz.prog Tryz.f8 (OpenSpec.ofChange Rows.topConflictsAreRealSpec) false w args) (Rows.topConflictsAreRealSpec.post enc Tryz.prog Tryz.f8 false true false false) := by
  refine returnsInHanded_of_change_and (C := Tryz.checked) (X := fun w _ => laidMetH Tryz.prog Rows.topConflictsAreRealRow.laid w) (fun _ _ _ hh h => h.of_heap hh) own started (by kernel_rfl) Tryz.func8
    (ChangeSpec.witness_shaped (enc := enc) (C := Tryz.checked) (os := os) (X := fun w _ => laidMetH Tryz.prog Rows.topConflictsAreRealRow.laid w) false (World.doorLaid Tryz.prog 700 os) #[.agg #[.int .i32 0, .int .i16 0], .agg #[.int .i32 0, .int .i16 0], .int .u32 0] 8 rfl (World.shaped_of_RefB (by kernel_rfl) (by kernel_rfl)) (by kernel_rfl) (by kernel_rfl) (by kernel_rfl) (door_met os _)) ?_
  intro W base args ds gs before hval0 hW _ _ hL _
  have hval : ∀ (j : Nat) t v, Tryz.f8.params[j]? = some t → args[j]? = some v → Value.okWide Tryz.prog W .any base t v := hval0
  have hW' := hW
  obtain ⟨p, q, hA0, hV, rfl, hfz, hnd⟩ := hW
  have hA : DataW.TrodAll enc Tryz.prog W 0 (fun _ => true) true Tryz.f8.params.toList args.toList ds p := hA0
  rw [Tryz.params8] at hA hval
  obtain ⟨v0, vs0, d0, ds0, p0, q0, hargs, rfl, rfl, h0, s0⟩ := trodAll_cons hA
  obtain ⟨v1, vs1, d1, ds1, p1, q1, rfl, rfl, rfl, h1, s1⟩ := trodAll_cons s0
  obtain ⟨v2, vs2, d2, ds2, p2, q2, rfl, rfl, rfl, h2, s2⟩ := trodAll_cons s1
  obtain ⟨rfl, rfl, rfl⟩ := trodAll_nil s2
  obtain rfl : args = #[v0, v1, v2] := by cases args; simp_all
  obtain ⟨rfl, rfl⟩ := trodVars_none hV
  have kk0 := h0
  have lt0 : ∀ x ∈ p0, x.block < W.heap.size := by obtain ⟨m, hm⟩ := kk0; exact DataW.trod_lt m _ _ _ hm
  obtain ⟨e0, rfl, fit0⟩ := open_fits [some .i32, some .i16] [21, 22] (by kernel_rfl) (by kernel_rfl) (by kernel_rfl) (by kernel_rfl) (hval 0 75 v0 rfl rfl)
  obtain ⟨c0_0, g0_0, rfl, w_c0_0, fit0⟩ := fits_int fit0
  obtain ⟨c0_1, g0_1, rfl, w_c0_1, fit0⟩ := fits_int fit0
  obtain rfl := fits_nil fit0
  have kk1 := h1
  have lt1 : ∀ x ∈ p1, x.block < W.heap.size := by obtain ⟨m, hm⟩ := kk1; exact DataW.trod_lt m _ _ _ hm
  obtain ⟨e1, rfl, fit1⟩ := open_fits [some .i32, some .i16] [21, 22] (by kernel_rfl) (by kernel_rfl) (by kernel_rfl) (by kernel_rfl) (hval 1 75 v1 rfl rfl)
  obtain ⟨c1_0, g1_0, rfl, w_c1_0, fit1⟩ := fits_int fit1
  obtain ⟨c1_1, g1_1, rfl, w_c1_1, fit1⟩ := fits_int fit1
  obtain rfl := fits_nil fit1
  obtain ⟨c2_0, rfl, rfl, rfl, y_c2_0⟩ := open_int Tryz.underlying76 (hval 2 76 v2 rfl rfl) h2
  have w_c2_0 : IntKind.has .u32 c2_0 := by have z := y_c2_0; simp only [Lit.wf, Bool.and_eq_true, decide_eq_true_eq] at z; exact z
  clear hA0 hval0
  obtain ⟨k0, G⟩ := Pure_TopConflictsAreReal c0_0 c0_1 c1_0 c1_1 c2_0 w_c0_0 w_c0_1 w_c1_0 w_c1_1 w_c2_0
  refine (armillarytop_TopConflictsAreReal.calls k0 (⟨c0_0, c0_1⟩ : TBody) (⟨c1_0, c1_1⟩ : TBody) c2_0 true W (glob hL) G).mono fun e W' ⟨he, bel⟩ => ?_
  subst he
  exact ⟨_, rfl, _, _, _, [], _, [], hW', trodAll_mk1 (shut_bool Tryz.underlying4 _), (trodAll_cons_mk (Below.trod laidOut (by kernel_rfl) (of_decide_eq_true (by kernel_rfl)) kk0 bel lt0) (trodAll_cons_mk (Below.trod laidOut (by kernel_rfl) (of_decide_eq_true (by kernel_rfl)) kk1 bel lt1) (trodAll_cons_mk (shut_int Tryz.underlying76 y_c2_0) trodAll_mk0))), rfl, bel.frame _, fun h => by cases h⟩
theorem over : Rows.topConflictsAreRealRow.holds Tryz.pinned (OpenSpec.ofChange Rows.topConflictsAreRealSpec) :=
  OpenClaim.holds_of_wide 8 Tryz.f8 rfl rfl rfl rfl rfl rfl rfl ⟨rfl, rfl, rfl, rfl, rfl⟩ rfl rfl rfl rfl rfl (by kernel_rfl) Tryz.func8 (by kernel_rfl)
    (of_decide_eq_true (by kernel_rfl)) (by unfold Func.isWrapper; first | (rw [if_pos (by decide +kernel)]; kernel_rfl) | (rw [if_neg (by decide +kernel)]; exact ⟨rfl, rfl⟩))
    (fun os started H enc _ => lifted os started H enc)
theorem card_holds : Rows.TopConflictsAreRealCardSaid :=
  Claim7.holds_tied_plain_at .later [] [.funcs, .funcs, .funcs] true (true, "8b90149ca90a3f2a630488c3fe19f9e50dfd6fb4e92407a69642db45fe7cf3e9") true
    over (fun _ h => by cases h) (by kernel_rfl) (fun _ h => by cases h) topConflictsAreReal_row_tie rfl ⟨rfl, rfl⟩ (by kernel_rfl) rfl
    (fun f fn hf hfn => by
      obtain rfl : f = 8 := Option.some.inj ((show Tryz.prog.funcNamed "armillary/armillarytop.TopConflictsAreReal" = some 8 by kernel_rfl).symm.trans hf) |>.symm
      obtain rfl : fn = Tryz.f8 := (Option.some.inj (Tryz.func8.symm.trans hfn)).symm
      exact ⟨by kernel_rfl, fun j t ht => by
        rw [Tryz.params8] at ht
        have hm : t ∈ [75, 75, 76] := by simpa using Array.mem_of_getElem? ht
        have hall : ([75, 75, 76].all fun u => !Tryz.prog.wantsStandIn u) = true := by kernel_rfl
        exact (show Tryz.prog.wantsStandIn t = false by simpa using List.all_eq_true.1 hall t hm)⟩)
    (by kernel_rfl)
#print axioms card_holds
end Go.Proofs.YtpmgpcklieincaaGreatDoor.topConflictsAreReal
