/- What the printed plain functions of the interval package and of its reference compute: bounds told by fractions, made intervals, roots. Own work. -/
import Derived.Test.YtmjnbhigomjjnaaDoorPlB2
namespace Go.Proofs.YtmjnbhigomjjnaaDoor
set_option maxRecDepth 10000
set_option linter.unusedSimpArgs false
set_option linter.unusedVariables false

theorem rfloor {a b : Int} (hb : 0 < b) (ha1 : -4611686018427387904 ≤ a) (ha2 : a ≤ 4611686018427387904) (hb2 : b ≤ 4611686018427387904) : armillaryref02_Floor a b = some (a / b) := by
  have hq := ediv_bounds hb ha1 ha2
  obtain ⟨t1, t2⟩ := tdm a b hb
  have h2 := Int.emod_nonneg a (by omega : b ≠ 0)
  have h3 := Int.emod_lt_of_pos a hb
  have hb0 : decide (b < 0) = false := decide_eq_false (by omega)
  unfold armillaryref02_Floor
  rw [if_pos (by omega), if_pos (by omega)]
  by_cases h : Int.tmod a b < 0
  · obtain ⟨e1, e2⟩ := t1 h
    have e3 : w_i64 (Int.tdiv a b) = Int.tdiv a b := w64 (by omega) (by omega)
    have h4 : a < 0 := by
      rcases Int.lt_or_le a 0 with h5 | h5
      · exact h5
      · have := Int.tmod_nonneg b h5
        omega
    have h5 : (Int.tmod a b != 0) = true := by simp; omega
    simp only [h5, hb0, decide_eq_true h4, e3]
    rw [e1, w64 (by omega) (by omega)]
    simp
  · obtain ⟨e1, e2⟩ := t2 h
    have e3 : w_i64 (Int.tdiv a b) = a / b := by rw [e1]; exact w64 (by omega) (by omega)
    have h5 : ((Int.tmod a b != 0) && !(decide (a < 0) == decide (b < 0))) = false := by
      rw [hb0]
      by_cases h6 : a < 0
      · have : Int.tmod a b ≤ 0 := by
          have := Int.tmod_nonneg b (a := -a) (by omega)
          rw [Int.neg_tmod] at this
          omega
        have : Int.tmod a b = 0 := by omega
        simp [this]
      · simp [h6]
    rw [if_neg (by simp only [h5]; simp), e3]
    rfl
theorem rceil {a b : Int} (hb : 0 < b) (ha1 : -4611686018427387904 ≤ a) (ha2 : a ≤ 4611686018427387904) (hb2 : b ≤ 4611686018427387904) : armillaryref02_Ceil a b = some (cdiv a b) := by
  have hq := ediv_bounds (a := -a) (B := 4611686018427387904) hb (by omega) (by omega)
  unfold armillaryref02_Ceil
  have e1 : w_i64 (0 - a) = -a := by rw [w64 (by omega) (by omega)]; omega
  rw [e1, rfloor hb (by omega) (by omega) hb2]
  simp only [Option.bind_some]
  unfold cdiv
  rw [w64 (by omega) (by omega)]
  congr 1
  omega
theorem rfloor_neg {a b : Int} (hb : b < 0) (ha1 : -4611686018427387904 ≤ a) (ha2 : a ≤ 4611686018427387904) (hb2 : -4611686018427387904 ≤ b) : armillaryref02_Floor a b = some ((-a) / (-b)) := by
  have e : armillaryref02_Floor a b = armillaryref02_Floor (-a) (-b) := by
    unfold armillaryref02_Floor
    rw [Int.neg_tmod, Int.tmod_neg, Int.neg_tdiv, Int.tdiv_neg, Int.neg_neg]
    have n1 : b ≠ 0 := by omega
    have n2 : -b ≠ 0 := by omega
    rw [if_pos n1, if_pos n1, if_pos n2, if_pos n2]
    have hb0 : decide (b < 0) = true := decide_eq_true hb
    have hb1 : decide (-b < 0) = false := decide_eq_false (by omega)
    have h5 : ((Int.tmod a b != 0) && !(decide (a < 0) == decide (b < 0))) = ((-Int.tmod a b != 0) && !(decide (-a < 0) == decide (-b < 0))) := by
      rw [hb0, hb1]
      rcases Int.lt_trichotomy a 0 with h | h | h
      · have h1 : decide (a < 0) = true := decide_eq_true h
        have h2 : decide (-a < 0) = false := decide_eq_false (by omega)
        rw [h1, h2]
        simp
      · subst h
        simp
      · have h1 : decide (a < 0) = false := decide_eq_false (by omega)
        have h2 : decide (-a < 0) = true := decide_eq_true (by omega)
        rw [h1, h2]
        by_cases h3 : Int.tmod a b = 0
        · simp [h3]
        · have h4 : (-Int.tmod a b != 0) = true := by simp; omega
          have h5 : (Int.tmod a b != 0) = true := by simp; omega
          rw [h4, h5]
          rfl
    rw [h5]
  rw [e]
  exact rfloor (by omega) (by omega) (by omega) (by omega)

/-- A bound told by a fraction: what the laws' 'contains' asks. -/
theorem has_ent (n d : Int) : armillarylaw02_contains Ent n d = some true := by
  unfold armillarylaw02_contains
  rw [ref_isEnt_ent]
  rfl
theorem has_nw {x y n d : Int} (hd : 0 < d) (hd2 : d ≤ 4611686018427387904) (h1 : -4611686018427387904 ≤ n) (h2 : n ≤ 4611686018427387904) (hx : x ≤ n / d) (hy : cdiv n d ≤ y) : armillarylaw02_contains (nw x y) n d = some true := by
  unfold nw
  split
  · exact has_ent n d
  · rename_i hn
    have hf : Fin ⟨x, y⟩ ∨ ¬ Fin ⟨x, y⟩ := Classical.em _
    unfold armillarylaw02_contains
    have hE : armillaryref02_IsEntire ⟨x, y⟩ = some false := by
      rw [ref_isEnt]
      congr 1
      apply decide_eq_false
      intro h
      simp only [Ent, TInterval.mk.injEq] at h
      omega
    rw [hE, rfloor hd h1 h2 hd2, rceil hd h1 h2 hd2]
    have g1 : decide (n / d ≥ x) = true := decide_eq_true hx
    have g2 : decide (cdiv n d ≤ y) = true := decide_eq_true hy
    simp only [Option.bind_some, g1, g2, beq_self_eq_true, if_true, Bool.and_self, Bool.or_true, Bool.false_or]

/-! ### What is made of an argument, and what is picked -/
theorem tm_bound (x : Int) : -16777216 < Int.tmod x 16777216 ∧ Int.tmod x 16777216 < 16777216 := by
  have h1 := Int.tmod_lt_of_pos x (b := 16777216) (by omega)
  have h2 := Int.tmod_lt_of_pos (-x) (b := 16777216) (by omega)
  rw [Int.neg_tmod] at h2
  omega
instance (a : TInterval) : Decidable (Fin a) := by unfold Fin; infer_instance
instance (a : TInterval) : Decidable (Ok a) := by unfold Ok; infer_instance
theorem valid_eq (a : TInterval) : armillaryref02_Valid a = some (decide (Ok a)) := by
  unfold armillaryref02_Valid armillaryref02_Number
  rw [ref_isEnt]
  by_cases h : a = Ent
  · have : Ok a := .inl h
    simp [h, this, Ok]
  · have e : Ok a ↔ Fin a := by unfold Ok; simp [h]
    rw [show decide (Ok a) = decide (Fin a) from by simp [e]]
    by_cases h1 : -2147483648 < a.Lo ∧ a.Lo < 2147483648 <;> by_cases h2 : -2147483648 < a.Hi ∧ a.Hi < 2147483648 <;> simp [h, Fin, h1, h2]
    all_goals try omega
    all_goals grind
theorem made_ok (a : TInterval) : ∃ b, armillaryref02_Made a = some b ∧ Ok b := by
  unfold armillaryref02_Made
  rw [valid_eq]
  simp only [Option.bind_some]
  by_cases h : Ok a
  · rw [if_pos (by simp [h])]
    exact ⟨a, rfl, h⟩
  · rw [if_neg (by simp [h])]
    split
    · exact ⟨Ent, rfl, .inl rfl⟩
    · refine ⟨_, rfl, .inr ?_⟩
      have h1 := tm_bound a.Lo
      have h2 := tm_bound a.Hi
      unfold Fin mn mx
      simp only
      split <;> split <;> omega
theorem pick_in {a : TInterval} (h : Fin a) {i : Int} (hi : 0 ≤ i ∧ i ≤ 4294967295) : ∃ p, armillaryref02_Pick a i = some p ∧ a.Lo ≤ p ∧ p ≤ a.Hi := by
  unfold Fin at h
  unfold armillaryref02_Pick
  have e1 : w_i64 (a.Hi - a.Lo) = a.Hi - a.Lo := w64 (by omega) (by omega)
  have e2 : w_i64 (a.Hi - a.Lo + 1) = a.Hi - a.Lo + 1 := w64 (by omega) (by omega)
  have e3 : w_i64 i = i := w64 (by omega) (by omega)
  rw [e1, e2, e3, if_pos (by omega)]
  have h1 := Int.tmod_lt_of_pos i (b := a.Hi - a.Lo + 1) (by omega)
  have h2 := Int.tmod_nonneg (a.Hi - a.Lo + 1) hi.1
  rw [w64 (by omega) (by omega)]
  exact ⟨_, rfl, by omega, by omega⟩

/-! ### Square roots -/
/-- The root's loop: from any start not below the root, the root. -/
theorem root_loop (k0 : Nat) (a t8 n s : Int) (hn : w_i64 (a * 65536) = n) (hnp : 0 < n) (h0 : 0 ≤ s) (hs1 : s * s ≤ n) (hs2 : n < (s + 1) * (s + 1)) (hn2 : n ≤ 281474976710656) :
    ∀ (k : Nat) (x : Int), 0 < x → s ≤ x → x ≤ 4294967296 → x < k → fixed_Sqrt.l17 k0 a t8 k x = some s
  | 0, x, h1, _, _, h3 => by omega
  | k + 1, x, h1, h2, h4, h3 => by
    unfold fixed_Sqrt.l17
    rw [if_pos (by omega), hn]
    have hn0 : 0 ≤ n := by have := Int.mul_nonneg h0 h0; omega
    have d1 : Int.tdiv n x = n / x := Int.tdiv_eq_ediv_of_nonneg hn0
    have d2 := Int.ediv_nonneg hn0 (Int.le_of_lt h1)
    have d3 : n / x ≤ n := Int.ediv_le_self x hn0
    have e1 : w_i64 (Int.tdiv n x) = n / x := by rw [d1]; exact w64 (by omega) (by omega)
    have e2 : w_i64 (x + n / x) = x + n / x := w64 (by omega) (by omega)
    have d4 : Int.tdiv (x + n / x) 2 = (x + n / x) / 2 := Int.tdiv_eq_ediv_of_nonneg (by omega)
    have e3 : w_i64 (Int.tdiv (x + n / x) 2) = (x + n / x) / 2 := by rw [d4]; exact w64 (by omega) (by omega)
    rw [e1, e2, e3]
    simp only [Option.bind_some]
    have m1 := (le_fdiv (a := n) (c := n / x) h1).1 (Int.le_refl _)
    have m2 : n < (n / x + 1) * x := by
      have := Int.lt_ediv_add_one_mul_self n h1
      exact this
    by_cases hge : (x + n / x) / 2 ≥ x
    · rw [if_pos (by simp; omega)]
      -- x ≤ n / x, hence x * x ≤ n, hence x ≤ s
      have g1 : x ≤ n / x := by omega
      have g2 : x * x ≤ n := by
        have : x * x ≤ n / x * x := mulR g1 (by omega)
        omega
      have g3 : ¬ s + 1 ≤ x := fun h => by
        have : (s + 1) * (s + 1) ≤ x * x := Int.mul_le_mul h h (by omega) (by omega)
        omega
      congr 1
      omega
    · rw [if_neg (by simp; omega)]
      -- the next one is not below the root: (2 s - x) * x ≤ s * s ≤ n
      have g1 : (2 * s - x) * x ≤ s * s := by
        have h5 : 0 ≤ (s - x) * (s - x) := by
          have := Int.natAbs_mul_self (a := s - x)
          omega
        have h6 : (s - x) * (s - x) = s * s - (2 * s - x) * x := by grind
        omega
      have g2 : 2 * s - x ≤ n / x := (le_fdiv h1).2 (by omega)
      have g3 : 0 < (x + n / x) / 2 := by
        have : 1 ≤ x + n / x - 1 ∨ x = 1 := by omega
        rcases this with h5 | h5
        · omega
        · subst h5
          rw [Int.ediv_one] at hge g2 ⊢
          omega
      exact root_loop k0 a t8 n s hn hnp h0 hs1 hs2 hn2 k _ g3 (by omega) (by omega) (by omega)
end Go.Proofs.YtmjnbhigomjjnaaDoor
