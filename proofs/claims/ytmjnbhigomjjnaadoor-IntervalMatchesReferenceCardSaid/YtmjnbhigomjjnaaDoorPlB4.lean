/- What the printed plain functions of the interval package compute: square roots; the check of known values. Own work. -/
import Derived.Test.YtmjnbhigomjjnaaDoorPlB3
namespace Go.Proofs.YtmjnbhigomjjnaaDoor
set_option maxRecDepth 10000
set_option linter.unusedSimpArgs false
set_option linter.unusedVariables false

def lenTab : ByteArray := (⟨#[0, 1, 2, 2, 3, 3, 3, 3, 4, 4, 4, 4, 4, 4, 4, 4, 5, 5, 5, 5, 5, 5, 5, 5, 5, 5, 5, 5, 5, 5, 5, 5, 6, 6, 6, 6, 6, 6, 6, 6, 6, 6, 6, 6, 6, 6, 6, 6, 6, 6, 6, 6, 6, 6, 6, 6, 6, 6, 6, 6, 6, 6, 6, 6, 7, 7, 7, 7, 7, 7, 7, 7, 7, 7, 7, 7, 7, 7, 7, 7, 7, 7, 7, 7, 7, 7, 7, 7, 7, 7, 7, 7, 7, 7, 7, 7, 7, 7, 7, 7, 7, 7, 7, 7, 7, 7, 7, 7, 7, 7, 7, 7, 7, 7, 7, 7, 7, 7, 7, 7, 7, 7, 7, 7, 7, 7, 7, 7, 8, 8, 8, 8, 8, 8, 8, 8, 8, 8, 8, 8, 8, 8, 8, 8, 8, 8, 8, 8, 8, 8, 8, 8, 8, 8, 8, 8, 8, 8, 8, 8, 8, 8, 8, 8, 8, 8, 8, 8, 8, 8, 8, 8, 8, 8, 8, 8, 8, 8, 8, 8, 8, 8, 8, 8, 8, 8, 8, 8, 8, 8, 8, 8, 8, 8, 8, 8, 8, 8, 8, 8, 8, 8, 8, 8, 8, 8, 8, 8, 8, 8, 8, 8, 8, 8, 8, 8, 8, 8, 8, 8, 8, 8, 8, 8, 8, 8, 8, 8, 8, 8, 8, 8, 8, 8, 8, 8, 8, 8, 8, 8, 8, 8, 8, 8, 8, 8, 8, 8, 8, 8, 8, 8, 8, 8, 8, 8]⟩ : ByteArray)
theorem tab_ok {y : Int} (h0 : 0 ≤ y) (h1 : y < 256) : ∃ v : Nat, strAt lenTab (w_u8 y) = some (v : Int) ∧ v ≤ 8 ∧ y < 2 ^ v := by
  have hall : ((List.range 256).all fun i => match strAt lenTab (i : Int) with | some v => decide (0 ≤ v) && decide (v.toNat ≤ 8) && decide ((i : Int) < 2 ^ v.toNat) | none => false) = true := by kernel_rfl
  have h := List.all_eq_true.1 hall y.toNat (List.mem_range.2 (by omega))
  have e : ((y.toNat : Nat) : Int) = y := by omega
  have e2 : w_u8 y = y := Go.IntWalk.u8_in y ⟨h0, by omega⟩
  rw [e2]
  rw [e] at h
  split at h
  · rename_i v hv
    simp only [Bool.and_eq_true, decide_eq_true_eq] at h
    exact ⟨v.toNat, by rw [hv]; congr 1; omega, h.1.2, h.2⟩
  · cases h

theorem fd (x c : Int) (h : 0 < c) : Int.fdiv x c = x / c := Int.fdiv_eq_ediv_of_nonneg _ (Int.le_of_lt h)
theorem pmono {i j : Nat} (h : i ≤ j) : (2 : Int) ^ i ≤ 2 ^ j := by
  have := Nat.pow_le_pow_right (n := 2) (by omega) h
  exact_mod_cast this
theorem pw (v c : Nat) : (2 : Int) ^ (v + c) = 2 ^ v * 2 ^ c := Int.pow_add ..
theorem len64 {n : Int} (h0 : 0 ≤ n) (h1 : n < 18446744073709551616) : ∃ m : Nat, bits_Len64 n = some (m : Int) ∧ m ≤ 64 ∧ n < 2 ^ m := by
  have key : ∀ (y : Int) (c : Nat), 0 ≤ y → y < 256 → c ≤ 56 → (∀ P : Int, y < P → n < P * 2 ^ c) → ∃ m : Nat, ((strAt lenTab (w_u8 y)).bind fun t12 => some (w_i64 ((c : Int) + (w_i64 t12)))) = some (m : Int) ∧ m ≤ 64 ∧ n < 2 ^ m := by
    intro y c g0 g1 g2 g3
    obtain ⟨v, hv, hv8, hlt⟩ := tab_ok g0 g1
    rw [hv]
    refine ⟨v + c, ?_, by omega, ?_⟩
    · simp only [Option.bind_some]
      rw [w64 (x := (v : Int)) (by omega) (by omega), w64 (by omega) (by omega)]
      congr 1
      omega
    · rw [pw]
      exact g3 _ hlt
  unfold bits_Len64
  have f1 := fd n 4294967296 (by omega)
  rw [f1]
  have s16 : ∀ x : Int, Int.fdiv x 65536 = x / 65536 := fun x => fd x _ (by omega)
  have s8 : ∀ x : Int, Int.fdiv x 256 = x / 256 := fun x => fd x _ (by omega)
  have w16 : w_i64 (0 + 16) = 16 := w64 (by omega) (by omega)
  have w48 : w_i64 (32 + 16) = 48 := w64 (by omega) (by omega)
  have w8 : w_i64 (0 + 8) = 8 := w64 (by omega) (by omega)
  have w24 : w_i64 (16 + 8) = 24 := w64 (by omega) (by omega)
  have w40 : w_i64 (32 + 8) = 40 := w64 (by omega) (by omega)
  have w56 : w_i64 (48 + 8) = 56 := w64 (by omega) (by omega)
  by_cases c1 : n ≥ 4294967296
  · rw [if_pos (by simpa using c1)]
    simp only [Option.bind_some]
    by_cases c2 : n / 4294967296 ≥ 65536
    · rw [if_pos (by simpa using c2)]
      simp only [Option.bind_some, s16, w48]
      by_cases c3 : n / 4294967296 / 65536 ≥ 256
      · rw [if_pos (by simpa using c3)]
        simp only [Option.bind_some, s8, w56]
        exact key _ 56 (by omega) (by omega) (by omega) (fun P hP => by simp only [Int.reducePow]; omega)
      · rw [if_neg (by simpa using c3)]
        exact key _ 48 (by omega) (by omega) (by omega) (fun P hP => by simp only [Int.reducePow]; omega)
    · rw [if_neg (by simpa using c2)]
      simp only [Option.bind_some]
      by_cases c3 : n / 4294967296 ≥ 256
      · rw [if_pos (by simpa using c3)]
        simp only [Option.bind_some, s8, w40]
        exact key _ 40 (by omega) (by omega) (by omega) (fun P hP => by simp only [Int.reducePow]; omega)
      · rw [if_neg (by simpa using c3)]
        exact key _ 32 (by omega) (by omega) (by omega) (fun P hP => by simp only [Int.reducePow]; omega)
  · rw [if_neg (by simpa using c1)]
    simp only [Option.bind_some]
    by_cases c2 : n ≥ 65536
    · rw [if_pos (by simpa using c2)]
      simp only [Option.bind_some, s16, w16]
      by_cases c3 : n / 65536 ≥ 256
      · rw [if_pos (by simpa using c3)]
        simp only [Option.bind_some, s8, w24]
        exact key _ 24 (by omega) (by omega) (by omega) (fun P hP => by simp only [Int.reducePow]; omega)
      · rw [if_neg (by simpa using c3)]
        exact key _ 16 (by omega) (by omega) (by omega) (fun P hP => by simp only [Int.reducePow]; omega)
    · rw [if_neg (by simpa using c2)]
      simp only [Option.bind_some]
      by_cases c3 : n ≥ 256
      · rw [if_pos (by simpa using c3)]
        simp only [Option.bind_some, s8, w8]
        exact key _ 8 (by omega) (by omega) (by omega) (fun P hP => by simp only [Int.reducePow]; omega)
      · rw [if_neg (by simpa using c3)]
        exact key _ 0 (by omega) (by omega) (by omega) (fun P hP => by simp only [Int.pow_zero]; omega)

theorem isqrt_nat : ∀ n : Nat, ∃ s : Nat, s * s ≤ n ∧ n < (s + 1) * (s + 1)
  | 0 => ⟨0, by simp⟩
  | n + 1 => by
    obtain ⟨s, h1, h2⟩ := isqrt_nat n
    by_cases h : n + 1 < (s + 1) * (s + 1)
    · exact ⟨s, by omega, h⟩
    · refine ⟨s + 1, by omega, ?_⟩
      have e : (s + 1 + 1) * (s + 1 + 1) = (s + 1) * (s + 1) + 2 * (s + 1) + 1 := by grind
      omega
theorem isqrt {n : Int} (h : 0 ≤ n) : ∃ s : Int, 0 ≤ s ∧ s * s ≤ n ∧ n < (s + 1) * (s + 1) := by
  obtain ⟨s, h1, h2⟩ := isqrt_nat n.toNat
  refine ⟨s, by omega, ?_, ?_⟩
  · have : ((s * s : Nat) : Int) ≤ n := by omega
    simpa using this
  · have : n < (((s + 1) * (s + 1) : Nat) : Int) := by omega
    simpa using this
theorem sq_lt {s t : Int} (hs : 0 ≤ s) (ht : 0 ≤ t) (h : s * s < t * t) : s < t := by
  rcases Int.lt_or_le s t with h1 | h1
  · exact h1
  · have := Int.mul_le_mul h1 h1 ht hs
    omega
theorem sq_le {s t : Int} (hs : 0 ≤ s) (h : s ≤ t) : s * s ≤ t * t := Int.mul_le_mul h h hs (by omega)

/-- The root of a number above or at nought: below, and above. -/
structure Root (n s t : Int) : Prop where
  s0 : 0 ≤ s
  le : s * s ≤ n
  lt : n < (s + 1) * (s + 1)
  t_ : t = if s * s < n then s + 1 else s

theorem Root.up {n s t : Int} (h : Root n s t) : n ≤ t * t := by
  have h1 := h.le; have h2 := h.lt; have h3 := h.t_
  split at h3 <;> subst h3 <;> omega
theorem Root.st {n s t : Int} (h : Root n s t) : s ≤ t ∧ t ≤ s + 1 := by
  have h3 := h.t_
  split at h3 <;> omega
theorem Root.low {n s t : Int} (h : Root n s t) : t = 0 ∨ (t - 1) * (t - 1) < n := by
  have h1 := h.le; have h3 := h.t_; have h0 := h.s0
  split at h3
  · right
    have : t - 1 = s := by omega
    rw [this]
    assumption
  · subst h3
    rcases Int.lt_or_le 0 t with h4 | h4
    · right
      have e : (t - 1) * (t - 1) = t * t - 2 * t + 1 := by grind
      omega
    · left; omega
theorem Root.bound {n s t : Int} (h : Root n s t) (hn : n ≤ 140737488355328) : s ≤ 16777216 ∧ t ≤ 16777216 := by
  have h1 := h.le; have h0 := h.s0; have h4 := h.st
  have a : s < 11863284 := sq_lt h0 (by omega) (by omega)
  omega

theorem sqrt_eq {k0 : Nat} (hk : 4294967296 < k0) {a : Int} (h0 : 0 ≤ a) (h1 : a ≤ 2147483648) : ∃ s t, fixed_Sqrt k0 a = some (s, t, 0) ∧ Root (a * 65536) s t := by
  have hn : w_i64 (a * 65536) = a * 65536 := w64 (by omega) (by omega)
  unfold fixed_Sqrt
  rw [if_neg (by simp; omega), hn]
  by_cases hz : a * 65536 = 0
  · rw [if_pos (by simpa using hz), hz]
    exact ⟨0, 0, rfl, ⟨by omega, by omega, by omega, by simp⟩⟩
  · rw [if_neg (by simpa using hz)]
    have hu : w_u64 (a * 65536) = a * 65536 := Go.IntWalk.u64_in _ ⟨by omega, by omega⟩
    obtain ⟨m, hm, hm64, hlt⟩ := len64 (n := a * 65536) (by omega) (by omega)
    rw [hu, hm]
    simp only [Option.bind_some]
    have e1 : w_i64 ((m : Int) + 1) = m + 1 := w64 (by omega) (by omega)
    have e2 : Int.tdiv ((m : Int) + 1) 2 = (m + 1) / 2 := Int.tdiv_eq_ediv_of_nonneg (by omega)
    have e3 : w_i64 (((m : Int) + 1) / 2) = (m + 1) / 2 := w64 (by omega) (by omega)
    rw [e1, e2, e3, if_pos (by omega)]
    have e4 : min (((m : Int) + 1) / 2).toNat 64 = (m + 1) / 2 := by omega
    rw [e4]
    generalize he : (m + 1) / 2 = e
    have p1 : (0 : Int) < 2 ^ e := Int.pow_pos (by omega)
    have p2 : (2 : Int) ^ e ≤ 2 ^ 32 := pmono (by omega)
    have p3 : (2 : Int) ^ m ≤ 2 ^ (e + e) := pmono (by omega)
    rw [pw] at p3
    have p4 : w_i64 (1 * 2 ^ e) = 2 ^ e := by rw [Int.one_mul]; exact w64 (by omega) (by omega)
    rw [p4]
    obtain ⟨s, s0, s1, s2⟩ := isqrt (n := a * 65536) (by omega)
    have s3 : s < 2 ^ e := sq_lt s0 (Int.le_of_lt p1) (by omega)
    rw [root_loop k0 a (m : Int) (a * 65536) s hn (by omega) s0 s1 s2 (by omega) k0 (2 ^ e) p1 (by omega) (by omega) (by omega)]
    simp only [Option.bind_some]
    have b1 : s < 11863284 := sq_lt s0 (by omega) (by omega)
    have b2 : w_i64 (s * s) = s * s := w64 (by have := Int.mul_nonneg s0 s0; omega) (by omega)
    have b3 : w_i64 (s + 1) = s + 1 := w64 (by omega) (by omega)
    rw [b2, b3]
    by_cases hs : s * s < a * 65536
    · rw [if_pos (by simpa using hs)]
      exact ⟨s, s + 1, rfl, ⟨s0, s1, s2, by rw [if_pos hs]⟩⟩
    · rw [if_neg (by simpa using hs)]
      exact ⟨s, s, rfl, ⟨s0, s1, s2, by rw [if_neg hs]⟩⟩

theorem isqrt_ent (k0 : Nat) : interval_Sqrt k0 Ent = some (Ent, true) := by
  unfold interval_Sqrt
  rw [isEnt_ent]
  rfl
theorem isqrt_below (k0 : Nat) {a : TInterval} (ha : Fin a) (h : a.Hi < 0) : interval_Sqrt k0 a = some (⟨0, 0⟩, false) := by
  unfold interval_Sqrt
  rw [isEnt_fin ha]
  simp only [Option.bind_some, Bool.false_eq_true, if_false]
  rw [if_pos (by simpa using h)]
theorem isqrt_fin {k0 : Nat} (hk : 4294967296 < k0) {a : TInterval} (ha : Fin a) (h : 0 ≤ a.Hi) : ∃ s t u v, interval_Sqrt k0 a = some (⟨s, t⟩, true) ∧ Root (mx a.Lo 0 * 65536) s u ∧ Root (a.Hi * 65536) v t ∧ s ≤ t ∧ Fin ⟨s, t⟩ := by
  have ha' := ha
  unfold Fin at ha'
  have hm : 0 ≤ mx a.Lo 0 ∧ mx a.Lo 0 ≤ a.Hi := by unfold mx; split <;> omega
  obtain ⟨s, u, h1, h2⟩ := sqrt_eq hk (a := mx a.Lo 0) (by omega) (by omega)
  obtain ⟨v, t, h3, h4⟩ := sqrt_eq hk (a := a.Hi) (by omega) (by omega)
  have b1 := h2.bound (by omega)
  have b2 := h4.bound (by omega)
  have b0 := h2.s0
  have st : s ≤ t := by
    have c1 := h2.le
    have c2 := h4.up
    have c3 := h4.s0
    have c4 := h4.st
    rcases Int.lt_or_le t s with c5 | c5
    · have : t * t < s * s := by
        have d1 : (t + 1) * (t + 1) ≤ s * s := sq_le (by omega) (by omega)
        have d2 : (t + 1) * (t + 1) = t * t + 2 * t + 1 := by grind
        omega
      omega
    · exact c5
  have hf : Fin ⟨s, t⟩ := by unfold Fin; simp only; omega
  unfold interval_Sqrt
  rw [isEnt_fin ha]
  simp only [Option.bind_some, Bool.false_eq_true, if_false]
  rw [if_neg (by simpa using h), h1, h3]
  simp only [Option.bind_some, new_eq, nw_fin hf]
  exact ⟨s, t, u, v, rfl, h2, h4, st, hf⟩

theorem sane (m : Nat) : armillarylaw02_sanity (m + 100) = some true := by kernel_rfl
end Go.Proofs.YtmjnbhigomjjnaaDoor
