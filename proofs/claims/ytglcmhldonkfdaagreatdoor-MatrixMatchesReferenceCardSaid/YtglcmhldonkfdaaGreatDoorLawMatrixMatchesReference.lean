/- PROVED: the law MatrixMatchesReference answers true for every input of its types, and each argument reads afterwards as it read before (the seat's statement MatrixMatchesReferenceCardSaid). It holds for the program of the seat, with its listed package variables as the program's text lays them. -/
import Derived.Test.YtglcmhldonkfdaaGreatDoorCards
import Derived.Test.YtglcmhldonkfdaaGreatDoorTie
import Derived.Test.YtglcmhldonkfdaaGreatDoorSxAll1
import Derived.Test.YtglcmhldonkfdaaGreatDoorFlMatrixMatchesReference
import Derived.Test.YtglcmhldonkfdaaGreatDoorPlMatrixMatchesReference
set_option linter.unusedVariables false
set_option linter.unusedSimpArgs false
namespace Go.Proofs.YtglcmhldonkfdaaGreatDoor.matrixMatchesReference
open Go.ChangeShapes Go.WideShapes Go.ChangeAt Go.RowKit Go.Sx
theorem own : ownKnob Tryz.prog.godebug = none := by kernel_rfl
theorem qbf : laidOutB Tryz.prog = true := by kernel_rfl
theorem qgr (x : List Value) (h : WE [some .i64] x) : ∃ y : Int, x = qB y ∧ ((IntKind.has .i64 y)) := by
 obtain ⟨c0, x, rfl, w0, h⟩ := qad h
 obtain rfl := qbB h
 exact ⟨c0, rfl, w0⟩
theorem qcv (x : List Value) (h : WE [some .i64, some .i64] x) : ∃ y : qa, x = qb y ∧ ((IntKind.has .i64 y.Lo) ∧ (IntKind.has .i64 y.Hi)) := by
 obtain ⟨c0, x, rfl, w0, h⟩ := qad h
 obtain ⟨c1, x, rfl, w1, h⟩ := qad h
 obtain rfl := qbB h
 exact ⟨(⟨c0, c1⟩ : qa), rfl, w0, w1⟩
theorem qed (os : Os) (args : Array Value) : laidMetH Tryz.prog Rows.matrixMatchesReferenceRow.laid ((World.doorLaid Tryz.prog 700 os).forCall (fun _ _ => 0) ⟨#[], args, []⟩).memory :=
 laidMetH_of_parts3 (fuel := 8) (laidMet_of_run' 8 (by kernel_rfl) (by kernel_rfl)) (by kernel_rfl) (by kernel_rfl)
theorem qgt {W : World} (h : laidMetH Tryz.prog Rows.matrixMatchesReferenceRow.laid W) : Wn W := ⟨W1 h (n := "armillary/interval.quotients") (d := _) (by apply List.Mem.tail; exact .head _) 0 86 16 Wt (by kernel_rfl) (by kernel_rfl) (by kernel_rfl), W1 h (n := "armillary/interval.products") (d := _) (.head _) 1 94 16 Vd (by kernel_rfl) (by kernel_rfl) (by kernel_rfl)⟩
set_option maxRecDepth 100000 in
theorem lifted (os : Os) (started : os.Started) (H : Type) (enc : TypeId × Value → H) :
  ReturnsInHanded {} Tryz.checked os 3 .any (fun w args => (Rows.matrixMatchesReferenceSpec.pre enc Tryz.prog Tryz.f3 Rows.matrixMatchesReferenceRow.domain false w args ∧ laidMetH Tryz.prog Rows.matrixMatchesReferenceRow.laid w) ∧ sizedMet enc Tryz.prog Tryz.f3 (OpenSpec.ofChange Rows.matrixMatchesReferenceSpec) false w args) (Rows.matrixMatchesReferenceSpec.post enc Tryz.prog Tryz.f3 false true false false) := by
 refine returnsInHanded_of_change_and (C := Tryz.checked) (X := fun w _ => laidMetH Tryz.prog Rows.matrixMatchesReferenceRow.laid w) (fun _ _ _ hh h => h.of_heap hh) own started (by kernel_rfl) Tryz.func3
  (ChangeSpec.witness_shaped (enc := enc) (C := Tryz.checked) (os := os) (X := fun w _ => laidMetH Tryz.prog Rows.matrixMatchesReferenceRow.laid w) false (World.doorLaid Tryz.prog 700 os) #[.agg #[.slice none 0 0, .slice none 0 0, .slice none 0 0, .int .u8 0], .slice none 0 0, .slice none 0 0] 8 rfl (World.shaped_of_RefB (by kernel_rfl) (by kernel_rfl)) (by kernel_rfl) (by kernel_rfl) (by kernel_rfl) (qed os _)) ?_
 intro W base args ds gs before hval0 hW _ _ hL _
 have hval : ∀ (j : Nat) t v, Tryz.f3.params[j]? = some t → args[j]? = some v → Value.okWide Tryz.prog W .any base t v := hval0
 have hW' := hW
 obtain ⟨p, q, hA0, hV, rfl, hfz, hnd⟩ := hW
 have hA : DataW.TrodAll enc Tryz.prog W 0 (fun _ => true) true Tryz.f3.params.toList args.toList ds p := hA0
 rw [Tryz.params3] at hA hval
 obtain ⟨v0, vs0, d0, ds0, p0, q0, hargs, rfl, rfl, h0, s0⟩ := trodAll_cons hA
 obtain ⟨v1, vs1, d1, ds1, p1, q1, rfl, rfl, rfl, h1, s1⟩ := trodAll_cons s0
 obtain ⟨v2, vs2, d2, ds2, p2, q2, rfl, rfl, rfl, h2, s2⟩ := trodAll_cons s1
 obtain ⟨rfl, rfl, rfl⟩ := trodAll_nil s2
 obtain rfl : args = #[v0, v1, v2] := by cases args; simp_all
 obtain ⟨rfl, rfl⟩ := trodVars_none hV
 have kk0 := h0
 have lt0 : ∀ x ∈ p0, x.block < W.heap.size := by obtain ⟨m, hm⟩ := kk0; exact DataW.trod_lt m _ _ _ hm
 obtain ⟨e0, rfl⟩ := qfK (by kernel_rfl) (hval 0 24 v0 rfl rfl)
 have ok0 : WI W [.row [some .i64, some .i64], .row [some .i64, some .i64], .row [some .i64, some .i64], .cell (some .u8)] e0 := by obtain ⟨m, hm⟩ := kk0; exact Jl 20 24 _ (by kernel_rfl) m _ _ hm
 obtain ⟨q_c0_0, k_c0_0, c0_0, g0_0, rfl, R_c0_0, w_c0_0, ok0⟩ := WK qb (fun y => (IntKind.has .i64 y.Lo) ∧ (IntKind.has .i64 y.Hi)) qcv ok0
 obtain ⟨q_c0_1, k_c0_1, c0_1, g0_1, rfl, R_c0_1, w_c0_1, ok0⟩ := WK qb (fun y => (IntKind.has .i64 y.Lo) ∧ (IntKind.has .i64 y.Hi)) qcv ok0
 obtain ⟨q_c0_2, k_c0_2, c0_2, g0_2, rfl, R_c0_2, w_c0_2, ok0⟩ := WK qb (fun y => (IntKind.has .i64 y.Lo) ∧ (IntKind.has .i64 y.Hi)) qcv ok0
 obtain ⟨c0_3, g0_3, rfl, w_c0_3, ok0⟩ := qez ok0
 obtain rfl := qa0 ok0
 have kk1 := h1
 have lt1 : ∀ x ∈ p1, x.block < W.heap.size := by obtain ⟨m, hm⟩ := kk1; exact DataW.trod_lt m _ _ _ hm
 obtain ⟨b1, m1, kc1, rfl⟩ := okWide_slice Tryz.underlying25 (hval 1 25 v1 rfl rfl)
 have ok1 : WI W [.rows [some .i64, some .i64]] [.slice b1 m1 kc1] := by obtain ⟨m, hm⟩ := kk1; exact Jl 20 25 _ (by kernel_rfl) m _ _ hm
 obtain ⟨q_c1_0, k_c1_0, L_c1_0, g1_0, eq1, R_c1_0, D_c1_0, w_c1_0, ok1⟩ := qdt Wp rfl (fun _ => trivial) (fun y => (IntKind.has .i64 y.Lo) ∧ (IntKind.has .i64 y.Hi)) qcv ok1
 obtain rfl := qa0 ok1
 injection eq1 with eq1 _
 injection eq1 with e1 e2 e3
 subst e1 e2 e3
 have kk2 := h2
 have lt2 : ∀ x ∈ p2, x.block < W.heap.size := by obtain ⟨m, hm⟩ := kk2; exact DataW.trod_lt m _ _ _ hm
 obtain ⟨b2, m2, kc2, rfl⟩ := okWide_slice Tryz.underlying26 (hval 2 26 v2 rfl rfl)
 have ok2 : WI W [.row [some .i64]] [.slice b2 m2 kc2] := by obtain ⟨m, hm⟩ := kk2; exact Jl 20 26 _ (by kernel_rfl) m _ _ hm
 obtain ⟨q_c2_0, k_c2_0, c2_0, g2_0, eq2, R_c2_0, w_c2_0, ok2⟩ := WK qB (fun y => (IntKind.has .i64 y)) qgr ok2
 obtain rfl := qa0 ok2
 injection eq2 with eq2 _
 injection eq2 with e1 e2 e3
 subst e1 e2 e3
 clear hA0 hval0
 obtain ⟨k0, G⟩ := Jf c0_0 c0_1 c0_2 c0_3 (L_c1_0.map Sl.l) c2_0 w_c0_0 w_c0_1 w_c0_2 w_c0_3 w_c1_0 w_c2_0
 refine (QL.calls k0 (⟨c0_0, c0_1, c0_2, c0_3⟩ : Zp) (L_c1_0.map Sl.l) c2_0 q_c0_0 k_c0_0 q_c0_1 k_c0_1 q_c0_2 k_c0_2 b1 kc1 L_c1_0 b2 kc2 true W rfl ⟨ZN R_c0_0, ZN R_c0_1, ZN R_c0_2, ZN R_c1_0, JD D_c1_0, ZN R_c2_0, qcg (qgt hL), trivial⟩ G).mono fun e W' ⟨he, bel⟩ => ?_
 subst he
 exact ⟨_, rfl, _, _, _, [], _, [], hW', trodAll_mk1 (shut_bool Tryz.underlying4 _), (trodAll_cons_mk (Below.trod qbf (by kernel_rfl) (of_decide_eq_true (by kernel_rfl)) kk0 bel lt0) (trodAll_cons_mk (Below.trod qbf (by kernel_rfl) (of_decide_eq_true (by kernel_rfl)) kk1 bel lt1) (trodAll_cons_mk (Below.trod qbf (by kernel_rfl) (of_decide_eq_true (by kernel_rfl)) kk2 bel lt2) trodAll_mk0))), rfl, bel.frame _, fun h => by cases h⟩
theorem over : Rows.matrixMatchesReferenceRow.holds Tryz.pinned (OpenSpec.ofChange Rows.matrixMatchesReferenceSpec) :=
 OpenClaim.holds_of_wide 3 Tryz.f3 rfl rfl rfl rfl rfl rfl rfl ⟨rfl, rfl, rfl, rfl, rfl⟩ rfl rfl rfl rfl rfl (by kernel_rfl) Tryz.func3 (by kernel_rfl)
  (of_decide_eq_true (by kernel_rfl)) (by unfold Func.isWrapper; first | (rw [if_pos (by decide +kernel)]; kernel_rfl) | (rw [if_neg (by decide +kernel)]; exact ⟨rfl, rfl⟩))
  (fun os started H enc _ => lifted os started H enc)
theorem card_holds : Rows.MatrixMatchesReferenceCardSaid :=
 Claim7.holds_tied_plain_at .later [] [.funcs, .funcs] true (true, "c629cd7b3270d985e3254f822a336490f83dad88c094ea59b542f7d2e6d1fa04") false
  over (fun _ h => by cases h) (by kernel_rfl) (fun _ h => by cases h) matrixMatchesReference_row_tie rfl ⟨rfl, rfl⟩ (by kernel_rfl) rfl
  (fun f fn hf hfn => by
   obtain rfl : f = 3 := Option.some.inj ((show Tryz.prog.funcNamed "armillary/armillarylaw04.MatrixMatchesReference" = some 3 by kernel_rfl).symm.trans hf) |>.symm
   obtain rfl : fn = Tryz.f3 := (Option.some.inj (Tryz.func3.symm.trans hfn)).symm
   exact ⟨by kernel_rfl, fun j t ht => by
    rw [Tryz.params3] at ht
    have hm : t ∈ [24, 25, 26] := by simpa using Array.mem_of_getElem? ht
    have hall : ([24, 25, 26].all fun u => !Tryz.prog.wantsStandIn u) = true := by kernel_rfl
    exact (show Tryz.prog.wantsStandIn t = false by simpa using List.all_eq_true.1 hall t hm)⟩)
  (by kernel_rfl)
#print axioms card_holds
end Go.Proofs.YtglcmhldonkfdaaGreatDoor.matrixMatchesReference
