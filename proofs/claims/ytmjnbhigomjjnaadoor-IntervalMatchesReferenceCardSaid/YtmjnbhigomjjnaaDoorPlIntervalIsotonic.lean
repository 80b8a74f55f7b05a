/- The law of isotony, over the printed plain functions: it answers true. Own work. -/
import Derived.Test.YtmjnbhigomjjnaaDoorPlB6
namespace Go.Proofs.YtmjnbhigomjjnaaDoor
set_option maxRecDepth 10000
set_option linter.unusedSimpArgs false
set_option linter.unusedVariables false

theorem refnum (x : Int) : armillaryref02_Number x = some (decide (-2147483648 < x ∧ x < 2147483648)) := by
  unfold armillaryref02_Number
  rw [Bool.decide_and]
theorem refnew (x y : Int) : armillaryref02_New x y = some (if (-2147483648 < x ∧ x < 2147483648) ∧ (-2147483648 < y ∧ y < 2147483648) then ⟨x, y⟩ else Ent) := by
  unfold armillaryref02_New
  by_cases h1 : -2147483648 < x ∧ x < 2147483648
  · refine bT ((refnum x).trans (congrArg some (decide_eq_true h1))) ?_
    by_cases h2 : -2147483648 < y ∧ y < 2147483648
    · refine gT rfl ((refnum y).trans (congrArg some (decide_eq_true h2))) (iF Bool.false_ne_true ?_)
      rw [if_pos ⟨h1, h2⟩]
    · refine gT rfl ((refnum y).trans (congrArg some (decide_eq_false h2))) (iT rfl ?_)
      rw [if_neg (fun h => h2 h.2)]
      rfl
  · refine bT ((refnum x).trans (congrArg some (decide_eq_false h1))) (gF Bool.false_ne_true (iT rfl ?_))
    rw [if_neg (fun h => h1 h.1)]
    rfl
theorem refnew_nw {x y : Int} (h : x ≤ y) : armillaryref02_New x y = some (nw x y) := by
  rw [refnew]
  congr 1
  unfold nw
  by_cases g : (-2147483648 < x ∧ x < 2147483648) ∧ (-2147483648 < y ∧ y < 2147483648)
  · rw [if_pos g, if_neg (by omega)]
  · rw [if_neg g, if_pos (by omega)]
theorem tm99 {u : Int} (h : 0 ≤ u ∧ u ≤ 4294967295) : w_i64 (Int.tmod u 99991) = u % 99991 := by
  rw [Int.tmod_eq_emod_of_nonneg h.1]
  exact w64 (by omega) (by omega)
theorem widen_ok {a : TInterval} (h : Ok a) {u v : Int} (hu : 0 ≤ u ∧ u ≤ 4294967295) (hv : 0 ≤ v ∧ v ≤ 4294967295) : ∃ b, armillarylaw02_widen a u v = some b ∧ Ok b ∧ Le a b := by
  unfold armillarylaw02_widen
  rcases h with rfl | fa
  · exact ⟨Ent, bT ref_isEnt_ent (iT rfl rfl), .inl rfl, by unfold Le; omega⟩
  · have fa' := fa
    unfold Fin at fa'
    refine ⟨nw (a.Lo - u % 99991) (a.Hi + v % 99991), bT (ref_isEnt_fin fa) (iF Bool.false_ne_true ?_), nw_ok (by omega), ?_⟩
    · rw [tm99 hu, tm99 hv, w64 (x := a.Lo - u % 99991) (by omega) (by omega), w64 (x := a.Hi + v % 99991) (by omega) (by omega)]
      exact bT (refnew_nw (by omega)) rfl
    · rcases nw_cases (a.Lo - u % 99991) (a.Hi + v % 99991) (by omega) with ⟨e, _⟩ | ⟨e, _⟩
      · rw [e]; unfold Le Ent; simp only; omega
      · rw [e]; unfold Le; simp only; omega

theorem isotonic {k0 : Nat} (hk : 4294967296 < k0) {x : TOperands} (hx : OpsIn x) {y z : TA2_Int} (hy0 : 0 ≤ y.e0 ∧ y.e0 ≤ 4294967295) (hy1 : 0 ≤ y.e1 ∧ y.e1 ≤ 4294967295) (hz0 : 0 ≤ z.e0 ∧ z.e0 ≤ 4294967295) (hz1 : 0 ≤ z.e1 ∧ z.e1 ≤ 4294967295) :
    armillarylaw02_IntervalIsotonic k0 x y z = some true := by
  unfold armillarylaw02_IntervalIsotonic
  obtain ⟨a, ha, oka⟩ := made_ok ⟨x.A.Lo, x.A.Hi⟩
  obtain ⟨b, hb, okb⟩ := made_ok ⟨x.B.Lo, x.B.Hi⟩
  obtain ⟨a', ha', oka', la⟩ := widen_ok oka hy0 hz0
  obtain ⟨b', hb', okb', lb⟩ := widen_ok okb hy1 hz1
  obtain ⟨n, d, hr, nr, dr⟩ := ratio_eq (x := ⟨⟨x.A.Lo, x.A.Hi⟩, ⟨x.B.Lo, x.B.Hi⟩, x.N, x.D⟩) hx
  refine bT (sane' hk) (bT ha (bT hb (bT ha' (bT hb' (bT hr (bT (subset_of la) ?_))))))
  obtain ⟨r1, s1, e1, f1, g1⟩ := mono_add oka okb oka' okb' la lb
  obtain ⟨r2, s2, e2, f2, g2⟩ := mono_sub oka okb oka' okb' la lb
  obtain ⟨r3, s3, e3, f3, g3⟩ := mono_mul oka okb oka' okb' la lb
  obtain ⟨r4, s4, e4, f4, g4⟩ := mono_sq oka oka' la
  obtain ⟨r5, s5, e5, f5, g5⟩ := mono_div oka okb oka' okb' la lb
  obtain ⟨r6, s6, e6, f6, g6⟩ := mono_ratio oka oka' la nr ⟨dr.1, by omega⟩
  refine gT rfl e1 (gT rfl f1 (gT rfl g1 (gT rfl e2 (gT rfl f2 (gT rfl g2 (gT rfl e3 (gT rfl f3 (gT rfl g3 (gT rfl e4 (gT rfl f4 (gT rfl g4 (gT rfl e5 (gT rfl f5 (gT rfl g5 (gT rfl e6 (gT rfl f6 (gT rfl g6 ?_)))))))))))))))))
  unfold Le at la lb
  have m1 := mnl a.Lo b.Lo; have m2 := mnl a'.Lo b'.Lo; have m3 := mxl a.Hi b.Hi; have m4 := mxl a'.Hi b'.Hi
  refine gT rfl (hull_eq _ _) (gT rfl (hull_eq _ _) (gT (v := true) rfl (subset_of (by simp only; omega)) (iF Bool.false_ne_true ?_)))
  -- the common part, after the root
  have n1 := mxl a.Lo b.Lo; have n2 := mxl a'.Lo b'.Lo; have n3 := mnl a.Hi b.Hi; have n4 := mnl a'.Hi b'.Hi
  have rest : ∀ R R' : TInterval × Bool, (R.2 = false ∨ R.2 = true ∧ R'.2 = true ∧ interval_Subset R.1 R'.1 = some true) → ((interval_Intersect a b).bind fun t41 =>
    (interval_Intersect a' b').bind fun t43 =>
    (if (((!R.2) == false) && (R'.2 == true)) = true then interval_Subset (⟨R.1.Lo, R.1.Hi⟩ : TInterval) (⟨R'.1.Lo, R'.1.Hi⟩ : TInterval) else some default).bind fun t45 =>
    (if (((((!R.2) || (R'.2 && t45)) == true) && ((!t41.2) == false)) && (t43.2 == true)) = true then interval_Subset (⟨t41.1.Lo, t41.1.Hi⟩ : TInterval) (⟨t43.1.Lo, t43.1.Hi⟩ : TInterval) else some default).bind fun t46 =>
    some ((((!R.2) || (R'.2 && t45)) && ((!t41.2) || (t43.2 && t46))) && true)) = some true := by
    intro R R' hR
    obtain ⟨R, o⟩ := R
    obtain ⟨R', o'⟩ := R'
    simp only at hR
    by_cases hI : mx a.Lo b.Lo ≤ mn a.Hi b.Hi
    · have hI' : mx a'.Lo b'.Lo ≤ mn a'.Hi b'.Hi := by omega
      have sI : interval_Subset (⟨mx a.Lo b.Lo, mn a.Hi b.Hi⟩ : TInterval) ⟨mx a'.Lo b'.Lo, mn a'.Hi b'.Hi⟩ = some true := subset_of (by simp only; omega)
      refine bT (int_yes hI) (bT (int_yes hI') ?_)
      rcases hR with rfl | ⟨rfl, rfl, hs⟩
      · exact gF Bool.false_ne_true (gT (v := true) rfl sI (by simp))
      · exact gT rfl hs (gT (v := true) rfl sI rfl)
    · refine bT (int_no hI) ?_
      obtain ⟨q, hq⟩ : ∃ q, interval_Intersect a' b' = some q := ⟨_, int_eq a' b'⟩
      refine bT hq ?_
      rcases hR with rfl | ⟨rfl, rfl, hs⟩
      · exact gF Bool.false_ne_true (gF Bool.false_ne_true (by simp))
      · exact gT rfl hs (gF Bool.false_ne_true (by simp))
  rcases oka' with rfl | fa'
  · obtain ⟨R, hR, okR⟩ : ∃ R, interval_Sqrt k0 a = some R ∧ Ok R.1 := by
      rcases oka with rfl | fa
      · exact ⟨_, isqrt_ent k0, .inl rfl⟩
      · rcases Int.lt_or_le a.Hi 0 with h0 | h0
        · exact ⟨_, isqrt_below k0 fa h0, .inr (by unfold Fin; simp only; omega)⟩
        · obtain ⟨s, t, u, v, hs, R1, R2, st, fs⟩ := isqrt_fin hk fa h0
          exact ⟨_, hs, .inr fs⟩
    refine bT hR (bT (isqrt_ent k0) (rest R (Ent, true) ?_))
    cases h : R.2
    · exact .inl rfl
    · exact .inr ⟨rfl, rfl, subset_ent okR⟩
  · have fa := Le.fin (a := a) (b := a') la oka fa'
    rcases Int.lt_or_le a.Hi 0 with h0 | h0
    · obtain ⟨R', hR'⟩ : ∃ R, interval_Sqrt k0 a' = some R := by
        rcases Int.lt_or_le a'.Hi 0 with h0 | h0
        · exact ⟨_, isqrt_below k0 fa' h0⟩
        · obtain ⟨s, t, u, v, hs, _⟩ := isqrt_fin hk fa' h0
          exact ⟨_, hs⟩
      exact bT (isqrt_below k0 fa h0) (bT hR' (rest _ R' (.inl rfl)))
    · obtain ⟨s, t, u, v, hs, R1, R2, st, fs⟩ := isqrt_fin hk fa h0
      obtain ⟨s', t', u', v', hs', R1', R2', st', fs'⟩ := isqrt_fin hk fa' (by omega)
      refine bT hs (bT hs' (rest _ _ (.inr ⟨rfl, rfl, subset_of ?_⟩)))
      have x1 := mxl a.Lo 0; have x2 := mxl a'.Lo 0
      exact ⟨(R1'.mono R1 (by omega)).1, (R2.mono R2' (by omega)).2⟩
theorem Pure_IntervalIsotonic : armillarylaw02_IntervalIsotonic.Pure := by
  intro _ _ _ _ _ _ _ _ _ _ _ _ _ _ hn hd h1 h2 h3 h4
  exact ⟨4294967400, isotonic (by decide) ⟨hn.1, hn.2, hd.1, hd.2⟩ h1 h2 h3 h4⟩
end Go.Proofs.YtmjnbhigomjjnaaDoor
