/- PROVED: the law GuardMatchesReference answers true for every input of its types, and each argument reads afterwards as it read before (the seat's statement GuardMatchesReferenceCardSaid). It holds for the program of the seat, with its listed package variables as the program's text lays them. -/
import Derived.Test.YtkkodieceehkmaaDoorCards
import Derived.Test.YtkkodieceehkmaaDoorTie
import Derived.Test.YtkkodieceehkmaaDoorSxRow
import Derived.Test.YtkkodieceehkmaaDoorSxRowB
import Derived.Test.YtkkodieceehkmaaDoorFlGuardMatchesReference
import Derived.Test.YtkkodieceehkmaaDoorPlGuardMatchesReference
set_option linter.unusedVariables false
set_option linter.unusedSimpArgs false
namespace Go.Proofs.YtkkodieceehkmaaDoor.guardMatchesReference
open Go.ChangeShapes Go.WideShapes Go.ChangeAt Go.RowKit Go.Sx
theorem own : ownKnob Tryd.prog.godebug = none := by kernel_rfl
theorem laidOut : laidOutB Tryd.prog = true := by kernel_rfl
theorem fe_38 (x : List Value) (h : Fits [some .i64, some .i64] x) : ∃ y : TInterval, x = en_TInterval y ∧ ((IntKind.has .i64 y.Lo) ∧ (IntKind.has .i64 y.Hi)) := by
  obtain ⟨c0, x, rfl, w0, h⟩ := fits_int h
  obtain ⟨c1, x, rfl, w1, h⟩ := fits_int h
  obtain rfl := fits_nil h
  exact ⟨(⟨c0, c1⟩ : TInterval), rfl, w0, w1⟩
theorem fe_49 (x : List Value) (h : Fits [some .u16] x) : ∃ y : Int, x = en_u16 y ∧ ((IntKind.has .u16 y)) := by
  obtain ⟨c0, x, rfl, w0, h⟩ := fits_int h
  obtain rfl := fits_nil h
  exact ⟨c0, rfl, w0⟩
theorem fe_53 (x : List Value) (h : Fits [some .i64, some .i64, some .i64, some .i64] x) : ∃ y : TNode, x = en_TNode y ∧ ((IntKind.has .i64 y.Op) ∧ (IntKind.has .i64 y.N) ∧ (IntKind.has .i64 y.C.Lo) ∧ (IntKind.has .i64 y.C.Hi)) := by
  obtain ⟨c0, x, rfl, w0, h⟩ := fits_int h
  obtain ⟨c1, x, rfl, w1, h⟩ := fits_int h
  obtain ⟨c2, x, rfl, w2, h⟩ := fits_int h
  obtain ⟨c3, x, rfl, w3, h⟩ := fits_int h
  obtain rfl := fits_nil h
  exact ⟨(⟨c0, c1, (⟨c2, c3⟩ : TInterval)⟩ : TNode), rfl, w0, w1, w2, w3⟩
theorem door_met (os : Os) (args : Array Value) : laidMetH Tryd.prog Rows.guardMatchesReferenceRow.laid ((World.doorLaid Tryd.prog 700 os).forCall (fun _ _ => 0) ⟨#[], args, []⟩).memory :=
  laidMetH_of_parts3 (fuel := 8) (laidMet_of_run' 8 (by kernel_rfl) (by kernel_rfl)) (by kernel_rfl) (by kernel_rfl)
theorem glob {W : World} (h : laidMetH Tryd.prog Rows.guardMatchesReferenceRow.laid W) : Glob W := ⟨glob_block h (n := "armillary/interval.products") (d := _) (.head _) 0 120 16 gTab0 (by kernel_rfl) (by kernel_rfl) (by kernel_rfl), glob_block h (n := "armillary/interval.quotients") (d := _) (by apply List.Mem.tail; exact .head _) 1 123 16 gTab1 (by kernel_rfl) (by kernel_rfl) (by kernel_rfl)⟩
set_option maxRecDepth 100000 in
theorem lifted (os : Os) (started : os.Started) (H : Type) (enc : TypeId × Value → H) :
    ReturnsInHanded {} Tryd.checked os 3 .any (fun w args => (Rows.guardMatchesReferenceSpec.pre enc Tryd.prog Tryd.f3 Rows.guardMatchesReferenceRow.domain false w args ∧ laidMetH Tryd.prog Rows.guardMatchesReferenceRow.laid w) ∧ sizedMet enc Tryd.prog Tryd.f3 (OpenSpec.ofChange Rows.guardMatchesReferenceSpec) false w args) (Rows.guardMatchesReferenceSpec.post enc Tryd.prog Tryd.f3 false true false false) := by
  refine returnsInHanded_of_change_and (C := Tryd.checked) (X := fun w _ => laidMetH Tryd.prog Rows.guardMatchesReferenceRow.laid w) (fun _ _ _ hh h => h.of_heap hh) own started (by kernel_rfl) Tryd.func3
    (ChangeSpec.witness_shaped (enc := enc) (C := Tryd.checked) (os := os) (X := fun w _ => laidMetH Tryd.prog Rows.guardMatchesReferenceRow.laid w) false (World.doorLaid Tryd.prog 700 os) #[.agg #[.slice none 0 0, .int .i8 0, .int .u8 0, .slice none 0 0, .slice none 0 0, .slice none 0 0, .int .i64 0, .int .i64 0, .slice none 0 0], .agg #[.slice none 0 0, .int .i64 0], .int .i8 0] 8 rfl (World.shaped_of_RefB (by kernel_rfl) (by kernel_rfl)) (by kernel_rfl) (by kernel_rfl) (by kernel_rfl) (door_met os _)) ?_
  intro W base args ds gs before hval0 hW _ _ hL _
  have hval : ∀ (j : Nat) t v, Tryd.f3.params[j]? = some t → args[j]? = some v → Value.okWide Tryd.prog W .any base t v := hval0
  have hW' := hW
  obtain ⟨p, q, hA0, hV, rfl, hfz, hnd⟩ := hW
  have hA : DataW.TrodAll enc Tryd.prog W 0 (fun _ => true) true Tryd.f3.params.toList args.toList ds p := hA0
  rw [Tryd.params3] at hA hval
  obtain ⟨v0, vs0, d0, ds0, p0, q0, hargs, rfl, rfl, h0, s0⟩ := trodAll_cons hA
  obtain ⟨v1, vs1, d1, ds1, p1, q1, rfl, rfl, rfl, h1, s1⟩ := trodAll_cons s0
  obtain ⟨v2, vs2, d2, ds2, p2, q2, rfl, rfl, rfl, h2, s2⟩ := trodAll_cons s1
  obtain ⟨rfl, rfl, rfl⟩ := trodAll_nil s2
  obtain rfl : args = #[v0, v1, v2] := by cases args; simp_all
  obtain ⟨rfl, rfl⟩ := trodVars_none hV
  have kk0 := h0
  have lt0 : ∀ x ∈ p0, x.block < W.heap.size := by obtain ⟨m, hm⟩ := kk0; exact DataW.trod_lt m _ _ _ hm
  obtain ⟨e0, rfl⟩ := agg_of (by kernel_rfl) (hval 0 29 v0 rfl rfl)
  have ok0 : Oks W [.row [some .i64, some .i64, some .i64, some .i64], .cell (some .i8), .cell (some .u8), .row [some .i64, some .i64], .row [some .i64, some .i64], .row [some .i64, some .i64], .cell (some .i64), .cell (some .i64), .row [some .u16]] e0 := by obtain ⟨m, hm⟩ := kk0; exact leaves_ok 20 29 _ (by kernel_rfl) m _ _ hm
  obtain ⟨q_c0_0, k_c0_0, c0_0, g0_0, rfl, R_c0_0, w_c0_0, ok0⟩ := oks_row en_TNode (fun y => (IntKind.has .i64 y.Op) ∧ (IntKind.has .i64 y.N) ∧ (IntKind.has .i64 y.C.Lo) ∧ (IntKind.has .i64 y.C.Hi)) fe_53 ok0
  obtain ⟨c0_1, g0_1, rfl, w_c0_1, ok0⟩ := oks_int ok0
  obtain ⟨c0_2, g0_2, rfl, w_c0_2, ok0⟩ := oks_int ok0
  obtain ⟨q_c0_3, k_c0_3, c0_3, g0_3, rfl, R_c0_3, w_c0_3, ok0⟩ := oks_row en_TInterval (fun y => (IntKind.has .i64 y.Lo) ∧ (IntKind.has .i64 y.Hi)) fe_38 ok0
  obtain ⟨q_c0_4, k_c0_4, c0_4, g0_4, rfl, R_c0_4, w_c0_4, ok0⟩ := oks_row en_TInterval (fun y => (IntKind.has .i64 y.Lo) ∧ (IntKind.has .i64 y.Hi)) fe_38 ok0
  obtain ⟨q_c0_5, k_c0_5, c0_5, g0_5, rfl, R_c0_5, w_c0_5, ok0⟩ := oks_row en_TInterval (fun y => (IntKind.has .i64 y.Lo) ∧ (IntKind.has .i64 y.Hi)) fe_38 ok0
  obtain ⟨c0_6, g0_6, rfl, w_c0_6, ok0⟩ := oks_int ok0
  obtain ⟨c0_7, g0_7, rfl, w_c0_7, ok0⟩ := oks_int ok0
  obtain ⟨q_c0_8, k_c0_8, c0_8, g0_8, rfl, R_c0_8, w_c0_8, ok0⟩ := oks_row en_u16 (fun y => (IntKind.has .u16 y)) fe_49 ok0
  obtain rfl := oks_nil ok0
  have kk1 := h1
  have lt1 : ∀ x ∈ p1, x.block < W.heap.size := by obtain ⟨m, hm⟩ := kk1; exact DataW.trod_lt m _ _ _ hm
  obtain ⟨e1, rfl⟩ := agg_of (by kernel_rfl) (hval 1 31 v1 rfl rfl)
  have ok1 : Oks W [.row [some .i64, some .i64, some .i64, some .i64], .cell (some .i64)] e1 := by obtain ⟨m, hm⟩ := kk1; exact leaves_ok 20 31 _ (by kernel_rfl) m _ _ hm
  obtain ⟨q_c1_0, k_c1_0, c1_0, g1_0, rfl, R_c1_0, w_c1_0, ok1⟩ := oks_row en_TNode (fun y => (IntKind.has .i64 y.Op) ∧ (IntKind.has .i64 y.N) ∧ (IntKind.has .i64 y.C.Lo) ∧ (IntKind.has .i64 y.C.Hi)) fe_53 ok1
  obtain ⟨c1_1, g1_1, rfl, w_c1_1, ok1⟩ := oks_int ok1
  obtain rfl := oks_nil ok1
  obtain ⟨c2_0, rfl, rfl, rfl, y_c2_0⟩ := open_int Tryd.underlying23 (hval 2 23 v2 rfl rfl) h2
  have w_c2_0 : IntKind.has .i8 c2_0 := by have z := y_c2_0; simp only [Lit.wf, Bool.and_eq_true, decide_eq_true_eq] at z; exact z
  clear hA0 hval0
  obtain ⟨k0, G⟩ := Pure_GuardMatchesReference c0_0 c0_1 c0_2 c0_3 c0_4 c0_5 c0_6 c0_7 c0_8 c1_0 c1_1 c2_0 w_c0_0 w_c0_1 w_c0_2 w_c0_3 w_c0_4 w_c0_5 w_c0_6 w_c0_7 w_c0_8 w_c1_0 w_c1_1 w_c2_0
  refine (armillarylaw15_GuardMatchesReference.calls k0 (⟨c0_0, c0_1, c0_2, c0_3, c0_4, c0_5, (⟨c0_6, c0_7⟩ : TTimeStep), c0_8⟩ : TInput) (⟨c1_0, c1_1⟩ : TGuard) c2_0 q_c0_0 k_c0_0 q_c0_3 k_c0_3 q_c0_4 k_c0_4 q_c0_5 k_c0_5 q_c0_8 k_c0_8 q_c1_0 k_c1_0 true W (glob hL) R_c0_0 R_c0_3 R_c0_4 R_c0_5 R_c0_8 R_c1_0 G).mono fun e W' ⟨he, bel⟩ => ?_
  subst he
  exact ⟨_, rfl, _, _, _, [], _, [], hW', trodAll_mk1 (shut_bool Tryd.underlying4 _), (trodAll_cons_mk (Below.trod laidOut (by kernel_rfl) (of_decide_eq_true (by kernel_rfl)) kk0 bel lt0) (trodAll_cons_mk (Below.trod laidOut (by kernel_rfl) (of_decide_eq_true (by kernel_rfl)) kk1 bel lt1) (trodAll_cons_mk (shut_int Tryd.underlying23 y_c2_0) trodAll_mk0))), rfl, bel.frame _, fun h => by cases h⟩
theorem over : Rows.guardMatchesReferenceRow.holds Tryd.pinned (OpenSpec.ofChange Rows.guardMatchesReferenceSpec) :=
  OpenClaim.holds_of_wide 3 Tryd.f3 rfl rfl rfl rfl rfl rfl rfl ⟨rfl, rfl, rfl, rfl, rfl⟩ rfl rfl rfl rfl rfl (by kernel_rfl) Tryd.func3 (by kernel_rfl)
    (of_decide_eq_true (by kernel_rfl)) (by unfold Func.isWrapper; first | (rw [if_pos (by decide +kernel)]; kernel_rfl) | (rw [if_neg (by decide +kernel)]; exact ⟨rfl, rfl⟩))
    (fun os started H enc _ => lifted os started H enc)
theorem card_holds : Rows.GuardMatchesReferenceCardSaid :=
  Claim7.holds_tied_plain_at .later [] [.funcs, .funcs] true (true, "cc31d6fc2efee4bd73f50eee813e8436d00bb4c2a1c8f32a3dd37293ceb400f7") false
    over (fun _ h => by cases h) (by kernel_rfl) (fun _ h => by cases h) guardMatchesReference_row_tie rfl ⟨rfl, rfl⟩ (by kernel_rfl) rfl
    (fun f fn hf hfn => by
      obtain rfl : f = 3 := Option.some.inj ((show Tryd.prog.funcNamed "armillary/armillarylaw15.GuardMatchesReference" = some 3 by kernel_rfl).symm.trans hf) |>.symm
      obtain rfl : fn = Tryd.f3 := (Option.some.inj (Tryd.func3.symm.trans hfn)).symm
      exact ⟨by kernel_rfl, fun j t ht => by
        rw [Tryd.params3] at ht
        have hm : t ∈ [29, 31, 23] := by simpa using Array.mem_of_getElem? ht
        have hall : ([29, 31, 23].all fun u => !Tryd.prog.wantsStandIn u) = true := by kernel_rfl
        exact (show Tryd.prog.wantsStandIn t = false by simpa using List.all_eq_true.1 hall t hm)⟩)
    (by kernel_rfl)
#print axioms card_holds
end Go.Proofs.YtkkodieceehkmaaDoor.guardMatchesReference
