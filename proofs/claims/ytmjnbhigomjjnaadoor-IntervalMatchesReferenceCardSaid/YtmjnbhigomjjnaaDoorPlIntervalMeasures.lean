/- The law of measures and the law of subdistributivity, over the printed plain functions: they answer true. Own work. -/
import Derived.Test.YtmjnbhigomjjnaaDoorPlIntervalInclusion
namespace Go.Proofs.YtmjnbhigomjjnaaDoor
set_option maxRecDepth 10000
set_option linter.unusedSimpArgs false
set_option linter.unusedVariables false

theorem mid_fin {a : TInterval} (h : Ok a) : interval_Mid a = some ((a.Lo + a.Hi) / 2) := by
  have h1 := h.wlo
  have h2 := h.whi
  unfold Wid at h1 h2
  unfold interval_Mid
  rw [w64 (by omega) (by omega), fd _ _ (by omega)]
theorem width_ok {a : TInterval} (h : Ok a) : interval_Width a = some (a.Hi - a.Lo) := by
  have h1 := h.wlo
  have h2 := h.whi
  unfold Wid at h1 h2
  unfold interval_Width
  rw [w64 (by omega) (by omega)]
theorem sign_eq (a : TInterval) : interval_Sign a = some (if a.Lo > 0 then 1 else if a.Hi < 0 then -1 else 0) := by
  unfold interval_Sign interval_pick_int
  by_cases h1 : a.Lo > 0 <;> by_cases h2 : a.Hi < 0 <;> simp [h1, h2]

theorem measures {k0 : Nat} (hk : 4294967296 < k0) (x : TInterval) {i : Int} (hi : 0 ≤ i ∧ i ≤ 4294967295) : armillarylaw02_IntervalMeasures k0 x i = some true := by
  unfold armillarylaw02_IntervalMeasures
  obtain ⟨a, ha, oka⟩ := made_ok x
  refine bT (sane' hk) (bT ha (bT (mid_fin oka) (bT (width_ok oka) (bT (mag_eq oka) ?_))))
  rcases oka with rfl | fa
  · exact bT ref_isEnt_ent (iT rfl (gT (by decide) (sign_eq _) (gT (by decide) isEnt_ent (by decide))))
  · refine bT (ref_isEnt_fin fa) (iF (by decide) ?_)
    obtain ⟨p, hp, pin⟩ := pick_in fa hi
    have fa' := fa
    unfold Fin at fa'
    refine bT hp (bT (contains_fin fa _) ?_)
    have g0 : decide (a.Lo ≤ (a.Lo + a.Hi) / 2 ∧ (a.Lo + a.Hi) / 2 ≤ a.Hi) = true := decide_eq_true (by omega)
    have m1 : mag a = a.Hi ∨ mag a = -a.Lo := by unfold mag mx; split <;> omega
    have m2 : a.Hi ≤ mag a ∧ -a.Lo ≤ mag a := by unfold mag mx; split <;> omega
    rw [g0, w64 (x := (a.Lo + a.Hi) / 2 - a.Lo) (by omega) (by omega), w64 (x := a.Hi - (a.Lo + a.Hi) / 2) (by omega) (by omega), w64 (x := a.Hi - a.Lo) (by omega) (by omega), w64 (x := (a.Lo + a.Hi) / 2 - a.Lo - (a.Hi - (a.Lo + a.Hi) / 2)) (by omega) (by omega), w64e (x := 0 - p) (y := -p) (by omega) (by omega) (by omega), w64e (x := 0 - a.Lo) (y := -a.Lo) (by omega) (by omega) (by omega)]
    refine bT (v := false) ?_ (bT (v := false) ?_ (iF ?_ ?_))
    · have e1 : decide ((a.Lo + a.Hi) / 2 - a.Lo - (a.Hi - (a.Lo + a.Hi) / 2) > 0) = false := decide_eq_false (by omega)
      have e2 : decide ((a.Lo + a.Hi) / 2 - a.Lo - (a.Hi - (a.Lo + a.Hi) / 2) < -1) = false := decide_eq_false (by omega)
      rw [e1, e2]
      rfl
    · have e1 : (a.Hi - a.Lo != a.Hi - a.Lo) = false := by simp
      have e2 : decide (p > mag a) = false := decide_eq_false (by omega)
      have e3 : decide (-p > mag a) = false := decide_eq_false (by omega)
      rw [e1, e2, e3]
      rfl
    · simp only [Bool.false_or, Bool.and_eq_true, bne_iff_ne, ne_eq, not_and, Decidable.not_not]
      omega
    · refine bT (sign_eq a) (bT (v := true) ?_ (gT rfl (isEnt_fin fa) rfl))
      by_cases h1 : a.Lo > 0
      · have e1 : decide (p > 0) = true := decide_eq_true (by omega)
        rw [if_pos h1, e1]
        rfl
      · rw [if_neg h1]
        by_cases h2 : a.Hi < 0
        · have e1 : decide (p < 0) = true := decide_eq_true (by omega)
          rw [if_pos h2, e1]
          rfl
        · have e1 : decide (a.Lo ≤ 0) = true := decide_eq_true (by omega)
          have e2 : decide (a.Hi ≥ 0) = true := decide_eq_true (by omega)
          rw [if_neg h2, e1, e2]
          rfl
theorem Pure_IntervalMeasures : armillarylaw02_IntervalMeasures.Pure := by
  intro a b i _ _ hi
  exact ⟨4294967400, measures (by decide) _ hi⟩
end Go.Proofs.YtmjnbhigomjjnaaDoor
