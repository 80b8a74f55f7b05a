/- TopConflictsAreReal: the plain law. Own work. -/
import Derived.Test.YtpmgpcklieincaaGreatDoorPlAll2
set_option linter.unusedVariables false
set_option linter.unusedSimpArgs false
set_option maxRecDepth 10000
namespace Go.Proofs.YtpmgpcklieincaaGreatDoor
theorem Pure_TopConflictsAreReal : armillarytop_TopConflictsAreReal.Pure := by
  intro X U Y V d hX hU hY hV hd
  refine ⟨100, ?_⟩
  have d1 := Int.tmod_lt_of_pos d (b := 4194304) (by decide)
  have d2 : 0 ≤ Int.tmod d 4194304 := Int.tmod_nonneg _ hd.1
  have wD : w_i64 (Int.tmod d 4194304) = Int.tmod d 4194304 := w64 (by omega) (by omega)
  have wE : w_i64 (Int.tmod d 4194304 * 65535) = Int.tmod d 4194304 * 65535 := w64 (by omega) (by omega)
  obtain ⟨r, dd, hc, _, _, h2⟩ := both (X := X) (Y := Y) hU hV (D := Int.tmod d 4194304) ⟨d2, d1⟩
  have e1 := Int.tmod_lt_of_pos X (b := 4194304) (by decide)
  have e2 := Int.lt_tmod_of_pos X (b := 4194304) (by decide)
  have e3 := Int.tmod_lt_of_pos Y (b := 4194304) (by decide)
  have e4 := Int.lt_tmod_of_pos Y (b := 4194304) (by decide)
  unfold armillarytop_TopConflictsAreReal
  rw [sanity24_ok, Option.bind_some, traj hU, Option.bind_some, traj hV, Option.bind_some]
  dsimp only
  rw [if_neg (by decide), wD, hc, Option.bind_some]
  by_cases hr : r = -1
  rotate_left
  · rw [if_pos (by simpa using hr)]
  rw [if_neg (by rw [hr]; decide)]
  obtain ⟨z, hz, hf⟩ := h2 hr
  obtain ⟨k, k0, k16, hk1, hk2⟩ := near hU hV ⟨d2, d1⟩ hz hf
  obtain ⟨x, hx⟩ : ∃ x, x = Int.tmod X 4194304 := ⟨_, rfl⟩
  obtain ⟨y, hy⟩ : ∃ y, y = Int.tmod Y 4194304 := ⟨_, rfl⟩
  obtain ⟨D, hD⟩ : ∃ D, D = Int.tmod d 4194304 := ⟨_, rfl⟩
  have q1 := dist (X := X) (Y := Y) hU hV (t := 0) (by decide)
  have q2 := dist (X := X) (Y := Y) hU hV (t := 65535) (by decide)
  rw [q1, q2]
  simp only [← hx, ← hy, ← hD] at *
  have a1 : w_i64 x = x := w64 (by omega) (by omega)
  have a2 : w_i64 y = y := w64 (by omega) (by omega)
  have a3 : w_i64 (x - y) = x - y := w64 (by omega) (by omega)
  have a5 : w_i64 U = U := w64 (by omega) (by omega)
  have a6 : w_i64 V = V := w64 (by omega) (by omega)
  have a7 : w_i64 (U - V) = U - V := w64 (by omega) (by omega)
  have a8 : w_i64 ((U - V) * 16) = (U - V) * 16 := w64 (by omega) (by omega)
  have a9 : w_i64 (x - y + (U - V) * 16) = x - y + (U - V) * 16 := w64 (by omega) (by omega)
  rw [a1, a2, a3, a5, a6, a7, a8, a9, wE]
  have hkk : ((U - V) * k ≥ 0 ∧ (U - V) * k ≤ (U - V) * 16) ∨ ((U - V) * k ≤ 0 ∧ (U - V) * 16 ≤ (U - V) * k) := by
    rcases Int.le_total 0 (U - V) with h | h
    · have b1 := mulL k0 h; have b2 := mulL k16 h; rw [Int.mul_zero] at b1; exact .inl ⟨b1, b2⟩
    · have b1 := mulLn k0 h; have b2 := mulLn k16 h; rw [Int.mul_zero] at b1; exact .inr ⟨b1, b2⟩
  rw [Option.bind_some, Option.bind_some, Option.bind_some]
  generalize hz19 : ((decide (x - y ≤ 0) && decide (x - y + (U - V) * 16 ≥ 0)) || (decide (x - y ≥ 0) && decide (x - y + (U - V) * 16 ≤ 0))) = b
  cases b with
  | true => rfl
  | false =>
    simp only [Bool.or_eq_false_iff, Bool.and_eq_false_iff, decide_eq_false_iff_not] at hz19
    have hs : (0 < x - y ∧ 0 < x - y + (U - V) * 16) ∨ (x - y < 0 ∧ x - y + (U - V) * 16 < 0) := by omega
    have m1 : mx ((x - y) * 65535 + (U - V) * 16 * 0) (-((x - y) * 65535 + (U - V) * 16 * 0)) = mx (x - y) (-(x - y)) * 65535 := by rw [Int.mul_zero, Int.add_zero]; unfold mx; split <;> split <;> omega
    have m2 : mx ((x - y) * 65535 + (U - V) * 16 * 65535) (-((x - y) * 65535 + (U - V) * 16 * 65535)) = mx (x - y + (U - V) * 16) (-(x - y + (U - V) * 16)) * 65535 := by unfold mx; split <;> split <;> omega
    have g1 := mxl (x - y) (-(x - y))
    have g2 := mxl (x - y + (U - V) * 16) (-(x - y + (U - V) * 16))
    rw [m1, m2, if_pos (by decide), Option.bind_some]
    by_cases c : mx (x - y) (-(x - y)) * 65535 < D * 65535
    · rw [decide_eq_true c]; rfl
    · rw [decide_eq_false c, if_pos (by decide), Option.bind_some, decide_eq_true (by omega)]; rfl
end Go.Proofs.YtpmgpcklieincaaGreatDoor
