/- PROVED: the law BoxBisectionCovers answers true for every input of its types, and each argument reads afterwards as it read before (the seat's statement BoxBisectionCoversSaid). It holds for the program of the seat, with its listed package variables as the program's text lays them. -/
import Derived.Test.YtgccinodonkgjaaRows
import Derived.Test.YtgccinodonkgjaaSxRow
import Derived.Test.YtgccinodonkgjaaSxRowB
import Derived.Test.YtgccinodonkgjaaFlBoxBisectionCovers
import Derived.Test.YtgccinodonkgjaaPlBoxBisectionCovers
set_option linter.unusedVariables false
set_option linter.unusedSimpArgs false
namespace Go.Proofs.Ytgccinodonkgjaa.boxBisectionCovers
open Go.ChangeShapes Go.WideShapes Go.ChangeAt Go.RowKit Go.Sx
theorem own : ownKnob Try.prog.godebug = none := by kernel_rfl
theorem laidOut : laidOutB Try.prog = true := by kernel_rfl
theorem fe_40 (x : List Value) (h : Fits [some .i64, some .i64] x) : ∃ y : TInterval, x = en_TInterval y ∧ ((IntKind.has .i64 y.Lo) ∧ (IntKind.has .i64 y.Hi)) := by
  obtain ⟨c0, x, rfl, w0, h⟩ := fits_int h
  obtain ⟨c1, x, rfl, w1, h⟩ := fits_int h
  obtain rfl := fits_nil h
  exact ⟨(⟨c0, c1⟩ : TInterval), rfl, w0, w1⟩
theorem fe_68 (x : List Value) (h : Fits [some .u16] x) : ∃ y : Int, x = en_u16 y ∧ ((IntKind.has .u16 y)) := by
  obtain ⟨c0, x, rfl, w0, h⟩ := fits_int h
  obtain rfl := fits_nil h
  exact ⟨c0, rfl, w0⟩
set_option maxRecDepth 100000 in
theorem lifted (os : Os) (started : os.Started) (H : Type) (enc : TypeId × Value → H) :
    ReturnsInHanded {} Try.checked os 8 .any (Rows.boxBisectionCoversSpec.pre6 enc Try.prog Try.f8 Rows.boxBisectionCoversRow.domain false) (Rows.boxBisectionCoversSpec.post enc Try.prog Try.f8 false true false false) := by
  refine returnsInHanded_of_change (C := Try.checked) own started (by kernel_rfl) Try.func8
    (ChangeSpec.witness6 (enc := enc) (C := Try.checked) false ⟨#[], #[.agg #[.slice none 0 0, .slice none 0 0, .slice none 0 0, .int .u8 0, .slice none 0 0, .slice none 0 0]], []⟩ 8 (by kernel_rfl) (by kernel_rfl) (by kernel_rfl) (by kernel_rfl)) ?_
  intro W base args ds gs before hval0 hW hcnd _
  have hval : ∀ (j : Nat) t v, Try.f8.params[j]? = some t → args[j]? = some v → Value.okWide Try.prog W .any base t v := hval0
  have hW' := hW
  obtain ⟨p, q, hA0, hV, rfl, hfz, hnd⟩ := hW
  have hA : DataW.TrodAll enc Try.prog W 0 (fun _ => true) true Try.f8.params.toList args.toList ds p := hA0
  rw [Try.params8] at hA hval
  obtain ⟨v0, vs0, d0, ds0, p0, q0, hargs, rfl, rfl, h0, s0⟩ := trodAll_cons hA
  obtain ⟨rfl, rfl, rfl⟩ := trodAll_nil s0
  obtain rfl : args = #[v0] := by cases args; simp_all
  obtain ⟨rfl, rfl⟩ := trodVars_none hV
  have kk0 := h0
  have lt0 : ∀ x ∈ p0, x.block < W.heap.size := by obtain ⟨m, hm⟩ := kk0; exact DataW.trod_lt m _ _ _ hm
  obtain ⟨e0, rfl⟩ := agg_of (by kernel_rfl) (hval 0 26 v0 rfl rfl)
  have ok0 : Oks W [.row [some .i64, some .i64], .row [some .i64, some .i64], .row [some .i64, some .i64], .cell (some .u8), .row [some .u16], .row [some .u16]] e0 := by obtain ⟨m, hm⟩ := kk0; exact leaves_ok 20 26 _ (by kernel_rfl) m _ _ hm
  obtain ⟨q_c0_0, k_c0_0, c0_0, g0_0, rfl, R_c0_0, w_c0_0, ok0⟩ := oks_row en_TInterval (fun y => (IntKind.has .i64 y.Lo) ∧ (IntKind.has .i64 y.Hi)) fe_40 ok0
  obtain ⟨q_c0_1, k_c0_1, c0_1, g0_1, rfl, R_c0_1, w_c0_1, ok0⟩ := oks_row en_TInterval (fun y => (IntKind.has .i64 y.Lo) ∧ (IntKind.has .i64 y.Hi)) fe_40 ok0
  obtain ⟨q_c0_2, k_c0_2, c0_2, g0_2, rfl, R_c0_2, w_c0_2, ok0⟩ := oks_row en_TInterval (fun y => (IntKind.has .i64 y.Lo) ∧ (IntKind.has .i64 y.Hi)) fe_40 ok0
  obtain ⟨c0_3, g0_3, rfl, w_c0_3, ok0⟩ := oks_int ok0
  obtain ⟨q_c0_4, k_c0_4, c0_4, g0_4, rfl, R_c0_4, w_c0_4, ok0⟩ := oks_row en_u16 (fun y => (IntKind.has .u16 y)) fe_68 ok0
  obtain ⟨q_c0_5, k_c0_5, c0_5, g0_5, rfl, R_c0_5, w_c0_5, ok0⟩ := oks_row en_u16 (fun y => (IntKind.has .u16 y)) fe_68 ok0
  obtain rfl := oks_nil ok0
  clear hA0 hval0
  obtain ⟨k0, G⟩ := Pure_BoxBisectionCovers c0_0 c0_1 c0_2 c0_3 c0_4 c0_5 w_c0_0 w_c0_1 w_c0_2 w_c0_3 w_c0_4 w_c0_5
  refine (armillarylaw03_BoxBisectionCovers.calls k0 (⟨c0_0, c0_1, c0_2, c0_3, (⟨c0_4, c0_5⟩ : TA2_List_Int)⟩ : TInput) q_c0_0 k_c0_0 q_c0_1 k_c0_1 q_c0_2 k_c0_2 q_c0_4 k_c0_4 q_c0_5 k_c0_5 true W R_c0_0 R_c0_1 R_c0_2 R_c0_4 R_c0_5 G).mono fun e W' ⟨he, bel⟩ => ?_
  subst he
  exact ⟨_, rfl, _, _, _, [], _, [], hW', trodAll_mk1 (shut_bool Try.underlying4 _), (trodAll_cons_mk (Below.trod laidOut (by kernel_rfl) (of_decide_eq_true (by kernel_rfl)) kk0 bel lt0) trodAll_mk0), rfl, bel.frame _, fun h => by cases h⟩
theorem over : Rows.boxBisectionCoversRow.holds Try.pinned (OpenSpec.ofChange Rows.boxBisectionCoversSpec) :=
  OpenClaim.holds_of_wide 8 Try.f8 rfl rfl rfl rfl rfl rfl rfl ⟨rfl, rfl, rfl, rfl, rfl⟩ rfl rfl rfl rfl rfl (by kernel_rfl) Try.func8 (by kernel_rfl)
    (of_decide_eq_true (by kernel_rfl)) (by unfold Func.isWrapper; first | (rw [if_pos (by decide +kernel)]; kernel_rfl) | (rw [if_neg (by decide +kernel)]; exact ⟨rfl, rfl⟩))
    (fun os started H enc _ => lifted os started H enc)
theorem card_holds : Rows.BoxBisectionCoversSaid := over
#print axioms card_holds
end Go.Proofs.Ytgccinodonkgjaa.boxBisectionCovers
