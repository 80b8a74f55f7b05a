/- The law of the lattice, over the printed plain functions: it answers true. Own work. -/
import Derived.Test.YtmjnbhigomjjnaaDoorPlB5
namespace Go.Proofs.YtmjnbhigomjjnaaDoor
set_option maxRecDepth 10000
set_option linter.unusedSimpArgs false
set_option linter.unusedVariables false

/-- Bounds of an interval that is fit. -/
theorem Ok.b {a : TInterval} (h : Ok a) : -2147483648 ≤ a.Lo ∧ a.Lo ≤ a.Hi ∧ a.Hi ≤ 2147483648 ∧ (a ≠ Ent → -2147483648 < a.Lo ∧ a.Hi < 2147483648) := by
  rcases h with rfl | h
  · simp [Ent]
  · unfold Fin at h
    exact ⟨by omega, by omega, by omega, fun _ => by omega⟩
theorem Ok.ent_of {a : TInterval} (h : Ok a) (h1 : a.Lo ≤ -2147483648 ∨ 2147483648 ≤ a.Hi) : a = Ent := by
  rcases h with h | h
  · exact h
  · unfold Fin at h; omega
theorem mnl (x y : Int) : mn x y ≤ x ∧ mn x y ≤ y ∧ (mn x y = x ∨ mn x y = y) := by unfold mn; split <;> omega
theorem mxl (x y : Int) : x ≤ mx x y ∧ y ≤ mx x y ∧ (mx x y = x ∨ mx x y = y) := by unfold mx; split <;> omega
theorem hull_eq (a b : TInterval) : interval_Hull a b = some ⟨mn a.Lo b.Lo, mx a.Hi b.Hi⟩ := rfl
theorem int_eq (a b : TInterval) : interval_Intersect a b = some (if mx a.Lo b.Lo ≤ mn a.Hi b.Hi then (⟨mx a.Lo b.Lo, mn a.Hi b.Hi⟩, true) else (⟨0, 0⟩, false)) := by
  unfold interval_Intersect api_Interval
  by_cases h : mx a.Lo b.Lo ≤ mn a.Hi b.Hi
  · rw [decide_eq_true h, if_pos rfl, if_pos h]; rfl
  · rw [decide_eq_false h, if_neg Bool.false_ne_true, if_neg h]; rfl
theorem int_yes {a b : TInterval} (h : mx a.Lo b.Lo ≤ mn a.Hi b.Hi) : interval_Intersect a b = some (⟨mx a.Lo b.Lo, mn a.Hi b.Hi⟩, true) := by rw [int_eq, if_pos h]
theorem int_no {a b : TInterval} (h : ¬ mx a.Lo b.Lo ≤ mn a.Hi b.Hi) : interval_Intersect a b = some (⟨0, 0⟩, false) := by rw [int_eq, if_neg h]
theorem same_self (a : TInterval) : armillaryref02_Same a a = some true := by unfold armillaryref02_Same; simp
theorem same_of {a b : TInterval} (h : a = b) : armillaryref02_Same a b = some true := by rw [h]; exact same_self b
theorem subset_eq (a b : TInterval) : interval_Subset a b = some (decide (b.Lo ≤ a.Lo ∧ a.Hi ≤ b.Hi)) := by unfold interval_Subset; rw [Bool.decide_and]
theorem hull_ok {a b : TInterval} (ha : Ok a) (hb : Ok b) : Ok ⟨mn a.Lo b.Lo, mx a.Hi b.Hi⟩ := by
  have h1 := mnl a.Lo b.Lo; have h2 := mxl a.Hi b.Hi; have h3 := ha.b; have h4 := hb.b
  by_cases e : a = Ent
  · subst e; left; simp only [Ent, TInterval.mk.injEq] at *; omega
  · by_cases e' : b = Ent
    · subst e'; left; simp only [Ent, TInterval.mk.injEq] at *; omega
    · right; have h5 := h3.2.2.2 e; have h6 := h4.2.2.2 e'; unfold Fin; simp only; omega
theorem inter_ok {a b : TInterval} (ha : Ok a) (hb : Ok b) (h : mx a.Lo b.Lo ≤ mn a.Hi b.Hi) : Ok ⟨mx a.Lo b.Lo, mn a.Hi b.Hi⟩ := by
  have h1 := mxl a.Lo b.Lo; have h2 := mnl a.Hi b.Hi; have h3 := ha.b; have h4 := hb.b
  by_cases e : a = Ent
  · by_cases e' : b = Ent
    · subst e; subst e'; left; simp only [Ent, TInterval.mk.injEq] at *; omega
    · right; have h6 := h4.2.2.2 e'; subst e; unfold Fin; simp only [Ent] at *; omega
  · right; have h6 := h3.2.2.2 e; unfold Fin; simp only at *; omega
theorem fvalid_eq (x : Int) : fixed_Valid x = some (decide (-2147483648 < x ∧ x < 2147483648)) := by unfold fixed_Valid; rw [Bool.decide_and]
theorem ival {a : TInterval} (h : Ok a) : interval_Valid a = some true := by
  unfold interval_Valid
  rcases h with rfl | h
  · exact bT isEnt_ent (gF Bool.false_ne_true (gF Bool.false_ne_true rfl))
  · have h' := h
    unfold Fin at h'
    refine bT (isEnt_fin h) (gT rfl (fvalid_eq _) (gT ?_ (fvalid_eq _) ?_))
    · rw [decide_eq_true (by omega)]; rfl
    · rw [decide_eq_true (by omega), decide_eq_true (by omega), decide_eq_true (by omega)]; rfl
theorem tm32 (x : Int) : -4294967296 < Int.tmod x 4294967296 ∧ Int.tmod x 4294967296 < 4294967296 := by
  have h1 := Int.tmod_lt_of_pos x (b := 4294967296) (by omega)
  have h2 := Int.tmod_lt_of_pos (-x) (b := 4294967296) (by omega)
  rw [Int.neg_tmod] at h2
  omega
/-- What an interval that is fit holds: all, if it is the whole line. -/
def In (a : TInterval) (x : Int) : Prop := a = Ent ∨ a.Lo ≤ x ∧ x ≤ a.Hi
instance (a : TInterval) (x : Int) : Decidable (In a x) := by unfold In; infer_instance
theorem cont_eq (a : TInterval) (x : Int) : interval_Contains a x = some (decide (In a x)) := by
  rw [contains_eq]
  congr 1
  apply Bool.eq_iff_iff.2
  rw [decide_eq_true_iff]
  simp [In]
theorem In_inter {a b : TInterval} (ha : Ok a) (hb : Ok b) (x : Int) (h : mx a.Lo b.Lo ≤ mn a.Hi b.Hi) : In ⟨mx a.Lo b.Lo, mn a.Hi b.Hi⟩ x ↔ In a x ∧ In b x := by
  have h1 := mxl a.Lo b.Lo; have h2 := mnl a.Hi b.Hi; have h3 := ha.b; have h4 := hb.b
  unfold In
  by_cases e : a = Ent
  · by_cases e' : b = Ent
    · subst e; subst e'
      have : (⟨mx Ent.Lo Ent.Lo, mn Ent.Hi Ent.Hi⟩ : TInterval) = Ent := by decide
      simp [this]
    · have h6 := h4.2.2.2 e'
      have e2 : (⟨mx a.Lo b.Lo, mn a.Hi b.Hi⟩ : TInterval) = b := by
        subst e
        cases b
        simp only [Ent, TInterval.mk.injEq] at *
        omega
      rw [e2]
      simp [e]
  · have h6 := h3.2.2.2 e
    by_cases e' : b = Ent
    · have e2 : (⟨mx a.Lo b.Lo, mn a.Hi b.Hi⟩ : TInterval) = a := by
        subst e'
        cases a
        simp only [Ent, TInterval.mk.injEq] at *
        omega
      rw [e2]
      simp [e']
    · have h7 := h4.2.2.2 e'
      have e2 : (⟨mx a.Lo b.Lo, mn a.Hi b.Hi⟩ : TInterval) ≠ Ent := by
        intro h8
        simp only [Ent, TInterval.mk.injEq] at h8
        omega
      simp only [e, e', e2, false_or]
      omega
theorem In_none {a b : TInterval} (ha : Ok a) (hb : Ok b) (x : Int) (h : ¬ mx a.Lo b.Lo ≤ mn a.Hi b.Hi) : ¬ (In a x ∧ In b x) := by
  have h1 := mxl a.Lo b.Lo; have h2 := mnl a.Hi b.Hi; have h3 := ha.b; have h4 := hb.b
  rintro ⟨h5, h6⟩
  unfold In at h5 h6
  rcases h5 with h5 | h5
  · subst h5; simp only [Ent] at *; omega
  · rcases h6 with h6 | h6
    · subst h6; simp only [Ent] at *; omega
    · omega

theorem lattice {k0 : Nat} (hk : 4294967296 < k0) (x : TOperands) (y : TInterval) (i : Int) : armillarylaw02_IntervalLattice k0 x y i = some true := by
  unfold armillarylaw02_IntervalLattice
  obtain ⟨a, ha, oka⟩ := made_ok ⟨x.A.Lo, x.A.Hi⟩
  obtain ⟨b, hb, okb⟩ := made_ok ⟨x.B.Lo, x.B.Hi⟩
  obtain ⟨c, hc, okc⟩ := made_ok y
  refine bT (sane' hk) (bT ha (bT hb (bT hc (bT (hull_eq a b) ?_))))
  have h1 := mnl a.Lo b.Lo; have h2 := mxl a.Hi b.Hi; have h3 := oka.b; have h4 := okb.b
  have i1 := mxl a.Lo b.Lo; have i2 := mnl a.Hi b.Hi
  have p1 : mn b.Lo a.Lo = mn a.Lo b.Lo := by unfold mn; split <;> split <;> omega
  have p2 : mx b.Hi a.Hi = mx a.Hi b.Hi := by unfold mx; split <;> split <;> omega
  have p3 : mx b.Lo a.Lo = mx a.Lo b.Lo := by unfold mx; split <;> split <;> omega
  have p4 : mn b.Hi a.Hi = mn a.Hi b.Hi := by unfold mn; split <;> split <;> omega
  have q1 : mn a.Lo a.Lo = a.Lo ∧ mx a.Hi a.Hi = a.Hi ∧ mx a.Lo a.Lo = a.Lo ∧ mn a.Hi a.Hi = a.Hi := by simp [mn, mx]
  have first : ∀ (f : Bool → Option Bool) (r : Option Bool), f false = r → ((interval_Subset a ⟨mn a.Lo b.Lo, mx a.Hi b.Hi⟩).bind fun t14 =>
  (if ((!t14) == false) = true then interval_Subset b ⟨mn a.Lo b.Lo, mx a.Hi b.Hi⟩ else some default).bind fun t15 =>
  (if (((!t14) || (!t15)) == false) = true then interval_Subset a c else some default).bind fun t16 =>
  (if ((((!t14) || (!t15)) == false) && (t16 == true)) = true then interval_Subset b c else some default).bind fun t17 =>
  (if ((((!t14) || (!t15)) == false) && ((t16 && t17) == true)) = true then interval_Subset ⟨mn a.Lo b.Lo, mx a.Hi b.Hi⟩ c else some default).bind fun t18 =>
  (if ((((!t14) || (!t15)) || ((t16 && t17) && (!t18))) == false) = true then interval_Hull b a else some default).bind fun t19 =>
  (if ((((!t14) || (!t15)) || ((t16 && t17) && (!t18))) == false) = true then armillaryref02_Same ⟨mn a.Lo b.Lo, mx a.Hi b.Hi⟩ t19 else some default).bind fun t20 =>
  (if (((((!t14) || (!t15)) || ((t16 && t17) && (!t18))) || (!t20)) == false) = true then interval_Hull a a else some default).bind fun t21 =>
  (if (((((!t14) || (!t15)) || ((t16 && t17) && (!t18))) || (!t20)) == false) = true then armillaryref02_Same t21 a else some default).bind fun t22 =>
  (if ((((((!t14) || (!t15)) || ((t16 && t17) && (!t18))) || (!t20)) || (!t22)) == false) = true then interval_Valid ⟨mn a.Lo b.Lo, mx a.Hi b.Hi⟩ else some default).bind fun t23 =>
  f ((((((!t14) || (!t15)) || ((t16 && t17) && (!t18))) || (!t20)) || (!t22)) || (!t23))) = r := by
    intro f r hf
    refine bT (subset_of (by simp only; omega)) (gT rfl (subset_of (by simp only; omega)) (gT rfl (subset_eq _ _) ?_))
    have tail : ∀ (f : Bool → Option Bool) (r : Option Bool), f false = r → ((if (false == false) = true then interval_Hull b a else some default).bind fun t19 =>
      (if (false == false) = true then armillaryref02_Same ⟨mn a.Lo b.Lo, mx a.Hi b.Hi⟩ t19 else some default).bind fun t20 =>
      (if ((false || (!t20)) == false) = true then interval_Hull a a else some default).bind fun t21 =>
      (if ((false || (!t20)) == false) = true then armillaryref02_Same t21 a else some default).bind fun t22 =>
      (if (((false || (!t20)) || (!t22)) == false) = true then interval_Valid ⟨mn a.Lo b.Lo, mx a.Hi b.Hi⟩ else some default).bind fun t23 =>
      f (((false || (!t20)) || (!t22)) || (!t23))) = r := by
      intro f r hf
      refine gT rfl (hull_eq _ _) (gT (v := true) rfl (same_of (by rw [p1, p2])) (gT rfl (hull_eq _ _) (gT (v := true) rfl (same_of ?_) (gT rfl (ival (hull_ok oka okb)) hf))))
      rw [q1.1, q1.2.1]
    by_cases g1 : c.Lo ≤ a.Lo ∧ a.Hi ≤ c.Hi
    · rw [decide_eq_true g1]
      refine gT rfl (subset_eq _ _) ?_
      by_cases g2 : c.Lo ≤ b.Lo ∧ b.Hi ≤ c.Hi
      · rw [decide_eq_true g2]
        exact gT rfl (subset_of (by simp only; omega)) (tail f r hf)
      · rw [decide_eq_false g2]
        exact gF Bool.false_ne_true (tail f r hf)
    · rw [decide_eq_false g1]
      exact gF Bool.false_ne_true (gF Bool.false_ne_true (tail f r hf))
  have cm : ∀ x : Int, (decide (In a x) && decide (In b x)) = decide (In a x ∧ In b x) := fun x => (Bool.decide_and ..).symm
  have hAA : mx a.Lo a.Lo ≤ mn a.Hi a.Hi := by rw [q1.2.2.1, q1.2.2.2]; omega
  have sAA : armillaryref02_Same ⟨mx a.Lo a.Lo, mn a.Hi a.Hi⟩ a = some true := same_of (by rw [q1.2.2.1, q1.2.2.2])
  by_cases hI : mx a.Lo b.Lo ≤ mn a.Hi b.Hi
  · have hI' : mx b.Lo a.Lo ≤ mn b.Hi a.Hi := by rw [p3, p4]; exact hI
    have okI := inter_ok oka okb hI
    refine bT (int_yes hI) (first (fun z => if z = true then _ else _) _ (iF Bool.false_ne_true ?_))
    have rest : ((interval_Intersect b a).bind fun t34 =>
      (interval_Intersect a a).bind fun t36 =>
      (if ((true == t34.2) == true) = true then armillaryref02_Same (⟨mx a.Lo b.Lo, mn a.Hi b.Hi⟩ : TInterval) (⟨t34.1.Lo, t34.1.Hi⟩ : TInterval) else some default).bind fun t38 =>
      (if (((true == t34.2) && t38) == true) = true then armillaryref02_Same (⟨t36.1.Lo, t36.1.Hi⟩ : TInterval) a else some default).bind fun t39 =>
      (if (((((true == t34.2) && t38) && t39) && t36.2) == true) = true then interval_Subset a b else some default).bind fun t40 =>
      (if (((((((true == t34.2) && t38) && t39) && t36.2) == true) && ((!t40) == false)) && (true == true)) = true then armillaryref02_Same (⟨mx a.Lo b.Lo, mn a.Hi b.Hi⟩ : TInterval) a else some default).bind fun t41 =>
      some ((((((true == t34.2) && t38) && t39) && t36.2) && ((!t40) || (true && t41))) && true)) = some true := by
      refine bT (int_yes hI') (bT (int_yes hAA) (gT (v := true) rfl (same_of ?_) (gT (v := true) rfl sAA (gT rfl (subset_eq _ _) ?_))))
      · simp only [p3, p4]
      · by_cases g : b.Lo ≤ a.Lo ∧ a.Hi ≤ b.Hi
        · rw [decide_eq_true g]
          refine gT (v := true) rfl (same_of ?_) rfl
          have e1 : mx a.Lo b.Lo = a.Lo := by omega
          have e2 : mn a.Hi b.Hi = a.Hi := by omega
          rw [e1, e2]
        · rw [decide_eq_false g]
          exact gF Bool.false_ne_true rfl
    have s1 : interval_Subset ⟨mx a.Lo b.Lo, mn a.Hi b.Hi⟩ a = some true := subset_of (by simp only; omega)
    have s2 : interval_Subset ⟨mx a.Lo b.Lo, mn a.Hi b.Hi⟩ b = some true := subset_of (by simp only; omega)
    have hin := In_inter oka okb (Int.tmod i 4294967296) hI
    refine bT (cont_eq _ _) ?_
    by_cases gA : In a (Int.tmod i 4294967296)
    · rw [decide_eq_true gA]
      refine gT rfl (cont_eq _ _) ?_
      by_cases gB : In b (Int.tmod i 4294967296)
      · rw [decide_eq_true gB]
        exact gT (v := true) rfl (by rw [cont_eq]; congr 1; exact decide_eq_true (hin.2 ⟨gA, gB⟩)) (gT rfl s1 (gT rfl s2 (gT rfl (ival okI) (iF Bool.false_ne_true rest))))
      · rw [decide_eq_false gB]
        exact gT (v := false) rfl (by rw [cont_eq]; congr 1; exact decide_eq_false fun h => gB (hin.1 h).2) (gT rfl s1 (gT rfl s2 (gT rfl (ival okI) (iF Bool.false_ne_true rest))))
    · rw [decide_eq_false gA]
      exact gF Bool.false_ne_true (gT (v := false) rfl (by rw [cont_eq]; congr 1; exact decide_eq_false fun h => gA (hin.1 h).1) (gT rfl s1 (gT rfl s2 (gT rfl (ival okI) (iF Bool.false_ne_true rest)))))
  · have hI' : ¬ mx b.Lo a.Lo ≤ mn b.Hi a.Hi := by rw [p3, p4]; exact hI
    refine bT (int_no hI) (first (fun z => if z = true then _ else _) _ (iF Bool.false_ne_true ?_))
    have rest : ((interval_Intersect b a).bind fun t34 =>
      (interval_Intersect a a).bind fun t36 =>
      (if ((false == t34.2) == true) = true then armillaryref02_Same (⟨0, 0⟩ : TInterval) (⟨t34.1.Lo, t34.1.Hi⟩ : TInterval) else some default).bind fun t38 =>
      (if (((false == t34.2) && t38) == true) = true then armillaryref02_Same (⟨t36.1.Lo, t36.1.Hi⟩ : TInterval) a else some default).bind fun t39 =>
      (if (((((false == t34.2) && t38) && t39) && t36.2) == true) = true then interval_Subset a b else some default).bind fun t40 =>
      (if (((((((false == t34.2) && t38) && t39) && t36.2) == true) && ((!t40) == false)) && (false == true)) = true then armillaryref02_Same (⟨0, 0⟩ : TInterval) a else some default).bind fun t41 =>
      some ((((((false == t34.2) && t38) && t39) && t36.2) && ((!t40) || (false && t41))) && true)) = some true := by
      refine bT (int_no hI') (bT (int_yes hAA) (gT (v := true) rfl (same_of rfl) (gT (v := true) rfl sAA (gT (v := false) rfl ?_ (gF Bool.false_ne_true rfl)))))
      rw [subset_eq]
      congr 1
      exact decide_eq_false (by omega)
    have hin := In_none oka okb (Int.tmod i 4294967296) hI
    refine bT (cont_eq _ _) ?_
    by_cases gA : In a (Int.tmod i 4294967296)
    · have gB : ¬ In b (Int.tmod i 4294967296) := fun h => hin ⟨gA, h⟩
      rw [decide_eq_true gA]
      refine gT rfl (cont_eq _ _) ?_
      rw [decide_eq_false gB]
      exact gF Bool.false_ne_true (gF Bool.false_ne_true (gF Bool.false_ne_true (gF Bool.false_ne_true (iF Bool.false_ne_true rest))))
    · rw [decide_eq_false gA]
      exact gF Bool.false_ne_true (gF Bool.false_ne_true (gF Bool.false_ne_true (gF Bool.false_ne_true (gF Bool.false_ne_true (iF Bool.false_ne_true rest)))))
theorem Pure_IntervalLattice : armillarylaw02_IntervalLattice.Pure := by
  unfold armillarylaw02_IntervalLattice.Pure
  intros
  exact ⟨4294967400, lattice (by decide) _ _ _⟩
end Go.Proofs.YtmjnbhigomjjnaaDoor
