/- What the printed plain functions of the interval package compute: products, quotients, squares. Own work. -/
import Derived.Test.YtmjnbhigomjjnaaDoorPlB1
namespace Go.Proofs.YtmjnbhigomjjnaaDoor
set_option maxRecDepth 10000
set_option linter.unusedSimpArgs false
set_option linter.unusedVariables false

theorem cmpR {x y : Int} (h : x ≤ y) (z : Int) : (z < 0 ∨ x * z ≤ y * z) ∧ (0 < z ∨ y * z ≤ x * z) := by
  constructor
  · rcases Int.lt_or_le z 0 with hz | hz
    · exact .inl hz
    · exact .inr (Int.mul_le_mul_of_nonneg_right h hz)
  · rcases Int.lt_or_le 0 z with hz | hz
    · exact .inl hz
    · exact .inr (Int.mul_le_mul_of_nonpos_right h hz)
theorem cmpL {x y : Int} (h : x ≤ y) (z : Int) : (z < 0 ∨ z * x ≤ z * y) ∧ (0 < z ∨ z * y ≤ z * x) := by
  have := cmpR h z
  rw [Int.mul_comm z x, Int.mul_comm z y]
  exact this
theorem mulR {x y z : Int} (h : x ≤ y) (hz : 0 ≤ z) : x * z ≤ y * z := Int.mul_le_mul_of_nonneg_right h hz
theorem mulRn {x y z : Int} (h : x ≤ y) (hz : z ≤ 0) : y * z ≤ x * z := Int.mul_le_mul_of_nonpos_right h hz
theorem mulL {x y z : Int} (h : x ≤ y) (hz : 0 ≤ z) : z * x ≤ z * y := Int.mul_le_mul_of_nonneg_left h hz
theorem mulLn {x y z : Int} (h : x ≤ y) (hz : z ≤ 0) : z * y ≤ z * x := Int.mul_le_mul_of_nonpos_left hz h

/-- The hull of the four products. -/
structure Hull (a b : TInterval) (l h : Int) : Prop where
  lo : l ≤ a.Lo * b.Lo ∧ l ≤ a.Lo * b.Hi ∧ l ≤ a.Hi * b.Lo ∧ l ≤ a.Hi * b.Hi
  hi : a.Lo * b.Lo ≤ h ∧ a.Lo * b.Hi ≤ h ∧ a.Hi * b.Lo ≤ h ∧ a.Hi * b.Hi ≤ h
  isl : l = a.Lo * b.Lo ∨ l = a.Lo * b.Hi ∨ l = a.Hi * b.Lo ∨ l = a.Hi * b.Hi
  ish : h = a.Lo * b.Lo ∨ h = a.Lo * b.Hi ∨ h = a.Hi * b.Lo ∨ h = a.Hi * b.Hi

theorem Hull.le {a b : TInterval} {l h : Int} (H : Hull a b l h) : l ≤ h := by
  have := H.lo; have := H.hi; omega
theorem Hull.mem {a b : TInterval} {l h : Int} (H : Hull a b l h) {p q : Int} (hp : a.Lo ≤ p ∧ p ≤ a.Hi) (hq : b.Lo ≤ q ∧ q ≤ b.Hi) : l ≤ p * q ∧ p * q ≤ h := by
  have h1 := H.lo; have h2 := H.hi
  have e1 := cmpR hp.1 q; have e2 := cmpR hp.2 q
  have f1 := cmpL hq.1 a.Lo; have f2 := cmpL hq.2 a.Lo; have f3 := cmpL hq.1 a.Hi; have f4 := cmpL hq.2 a.Hi
  constructor <;> omega

theorem side_eq (a : TInterval) : interval_side a = some (if a.Hi ≤ 0 then 0 else if a.Lo ≥ 0 then 2 else 1) := by
  unfold interval_side
  by_cases h : a.Hi ≤ 0 <;> by_cases h' : a.Lo ≥ 0 <;> simp [h, h']

theorem mn_div (x y : Int) : mn (x / 65536) (y / 65536) = mn x y / 65536 := by unfold mn; split <;> split <;> omega
theorem mx_cdiv (x y : Int) : mx (cdiv x 65536) (cdiv y 65536) = cdiv (mx x y) 65536 := by unfold mx cdiv; split <;> split <;> omega

theorem mul_fin {a b : TInterval} (ha : Fin a) (hb : Fin b) : ∃ l h, interval_Mul a b = some (nw (l / 65536) (cdiv h 65536)) ∧ Hull a b l h := by
  have h1 := ha.2.1
  have h2 := hb.2.1
  have r1 := cmpR h1 b.Lo; have r2 := cmpR h1 b.Hi
  have r3 := cmpL h2 a.Lo; have r4 := cmpL h2 a.Hi
  unfold interval_Mul
  rw [isEnt_fin ha, isEnt_fin hb]
  simp only [Option.bind_some, beq_self_eq_true, if_true, Bool.or_self, Bool.false_eq_true, if_false, side_eq, interval_hh, interval_ll, interval_hl, interval_lh, mul_eq ha.wlo hb.wlo, mul_eq ha.wlo hb.whi, mul_eq ha.whi hb.wlo, mul_eq ha.whi hb.whi, new_eq, mn_div, mx_cdiv]
  by_cases s1 : a.Hi ≤ 0
  · by_cases s2 : b.Hi ≤ 0
    · simp only [s1, s2, if_true]
      refine ⟨a.Hi * b.Hi, a.Lo * b.Lo, rfl, ⟨?_, ?_, ?_, ?_⟩⟩ <;> omega
    · by_cases s3 : b.Lo ≥ 0
      · simp only [s1, s2, s3, if_true, if_false]
        refine ⟨a.Lo * b.Hi, a.Hi * b.Lo, rfl, ⟨?_, ?_, ?_, ?_⟩⟩ <;> omega
      · simp only [s1, s2, s3, if_true, if_false]
        refine ⟨a.Lo * b.Hi, a.Lo * b.Lo, rfl, ⟨?_, ?_, ?_, ?_⟩⟩ <;> omega
  · by_cases s4 : a.Lo ≥ 0
    · by_cases s2 : b.Hi ≤ 0
      · simp only [s1, s4, s2, if_true, if_false]
        refine ⟨a.Hi * b.Lo, a.Lo * b.Hi, rfl, ⟨?_, ?_, ?_, ?_⟩⟩ <;> omega
      · by_cases s3 : b.Lo ≥ 0
        · simp only [s1, s4, s2, s3, if_true, if_false]
          refine ⟨a.Lo * b.Lo, a.Hi * b.Hi, rfl, ⟨?_, ?_, ?_, ?_⟩⟩ <;> omega
        · simp only [s1, s4, s2, s3, if_true, if_false]
          refine ⟨a.Hi * b.Lo, a.Hi * b.Hi, rfl, ⟨?_, ?_, ?_, ?_⟩⟩ <;> omega
    · by_cases s2 : b.Hi ≤ 0
      · simp only [s1, s4, s2, if_true, if_false]
        refine ⟨a.Hi * b.Lo, a.Lo * b.Lo, rfl, ⟨?_, ?_, ?_, ?_⟩⟩ <;> omega
      · by_cases s3 : b.Lo ≥ 0
        · simp only [s1, s4, s2, s3, if_true, if_false]
          refine ⟨a.Lo * b.Hi, a.Hi * b.Hi, rfl, ⟨?_, ?_, ?_, ?_⟩⟩ <;> omega
        · simp only [s1, s4, s2, s3, if_true, if_false]
          refine ⟨mn (a.Lo * b.Hi) (a.Hi * b.Lo), mx (a.Lo * b.Lo) (a.Hi * b.Hi), rfl, ?_⟩
          unfold mn mx
          split <;> split <;> refine ⟨?_, ?_, ?_, ?_⟩ <;> omega
theorem mul_entl (b : TInterval) : interval_Mul Ent b = some Ent := by
  unfold interval_Mul
  rw [isEnt_ent]
  rfl
theorem mul_entr (a : TInterval) : interval_Mul a Ent = some Ent := by
  unfold interval_Mul
  rw [isEnt, isEnt_ent]
  cases decide (a = Ent) <;> rfl

/-- The hull of the four quotients, over a divisor above nought. -/
structure DHull (a b : TInterval) (x y u v : Int) : Prop where
  ypos : 0 < y
  vpos : 0 < v
  x_ : x = a.Lo ∨ x = a.Hi
  y_ : y = b.Lo ∨ y = b.Hi
  u_ : u = a.Lo ∨ u = a.Hi
  v_ : v = b.Lo ∨ v = b.Hi
  lo : x * b.Lo ≤ a.Lo * y ∧ x * b.Hi ≤ a.Lo * y ∧ x * b.Lo ≤ a.Hi * y ∧ x * b.Hi ≤ a.Hi * y
  hi : a.Lo * v ≤ u * b.Lo ∧ a.Lo * v ≤ u * b.Hi ∧ a.Hi * v ≤ u * b.Lo ∧ a.Hi * v ≤ u * b.Hi

theorem DHull.mem {a b : TInterval} {x y u v : Int} (H : DHull a b x y u v) {p q : Int} (hp : a.Lo ≤ p ∧ p ≤ a.Hi) (hq : b.Lo ≤ q ∧ q ≤ b.Hi) : x * q ≤ p * y ∧ p * v ≤ u * q := by
  have h1 := H.lo; have h2 := H.hi
  have e1 := cmpL hq.1 x; have e2 := cmpL hq.2 x; have e3 := cmpL hq.1 u; have e4 := cmpL hq.2 u
  have f1 := mulR hp.1 (Int.le_of_lt H.ypos); have f2 := mulR hp.2 (Int.le_of_lt H.vpos)
  constructor <;> omega

theorem frac_mono {a b c d : Int} (hb : 0 < b) (hd : 0 < d) (h : a * d ≤ c * b) : a * 65536 / b ≤ c * 65536 / d := by
  rw [le_fdiv hd]
  have h1 := (le_fdiv (a := a * 65536) (c := a * 65536 / b) hb).1 (Int.le_refl _)
  have h2 : (a * 65536 / b * d) * b ≤ (c * 65536) * b := by
    have e1 : (a * 65536 / b * d) * b = (a * 65536 / b * b) * d := by grind
    have e2 : (a * 65536 / b * b) * d ≤ (a * 65536) * d := mulR h1 (by omega)
    have e3 : (a * 65536) * d = (a * d) * 65536 := by grind
    have e4 : (c * 65536) * b = (c * b) * 65536 := by grind
    omega
  exact Int.le_of_mul_le_mul_right h2 hb
theorem cfrac_mono {a b c d : Int} (hb : 0 < b) (hd : 0 < d) (h : a * d ≤ c * b) : cdiv (a * 65536) b ≤ cdiv (c * 65536) d := by
  rw [cdiv_le hb]
  have h1 := (cdiv_le (a := c * 65536) (c := cdiv (c * 65536) d) hd).1 (Int.le_refl _)
  have h2 : (a * 65536) * d ≤ (cdiv (c * 65536) d * b) * d := by
    have e1 : (cdiv (c * 65536) d * b) * d = (cdiv (c * 65536) d * d) * b := by grind
    have e2 : (c * 65536) * b ≤ (cdiv (c * 65536) d * d) * b := mulR h1 (by omega)
    have e3 : (a * 65536) * d = (a * d) * 65536 := by grind
    have e4 : (c * 65536) * b = (c * b) * 65536 := by grind
    omega
  exact Int.le_of_mul_le_mul_right h2 hd

theorem contains_eq (a : TInterval) (x : Int) : interval_Contains a x = some (decide (a = Ent) || (decide (a.Lo ≤ x) && decide (x ≤ a.Hi))) := by
  unfold interval_Contains
  rw [isEnt]
  rfl
theorem contains_fin {a : TInterval} (h : Fin a) (x : Int) : interval_Contains a x = some (decide (a.Lo ≤ x ∧ x ≤ a.Hi)) := by
  rw [contains_eq, h.ne, Bool.false_or, Bool.decide_and]

def ngv (a : TInterval) : TInterval := ⟨-a.Hi, -a.Lo⟩

theorem div_above {a b : TInterval} (ha : Fin a) (hb : Fin b) (h : 0 < b.Lo) : ∃ x y u v, interval_Div a b = some (nw (x * 65536 / y) (cdiv (u * 65536) v)) ∧ DHull a b x y u v := by
  have h1 := ha.2.1
  have h2 := hb.2.1
  have h3 : 0 < b.Hi := by omega
  have r1 := mulR h1 (Int.le_of_lt h); have r2 := mulR h1 (Int.le_of_lt h3)
  have r3 := cmpL h2 a.Lo; have r4 := cmpL h2 a.Hi
  have c1 := Int.mul_comm b.Lo a.Lo
  unfold interval_Div
  rw [isEnt_fin ha, isEnt_fin hb, contains_fin hb]
  have h4 : decide (b.Lo ≤ 0 ∧ 0 ≤ b.Hi) = false := by apply decide_eq_false; omega
  have h5 : decide (b.Lo > 0) = true := decide_eq_true h
  simp only [Option.bind_some, h4, h5, beq_self_eq_true, if_true, Bool.or_self, Bool.false_eq_true, if_false, side_eq, interval_pick_int, interval_hh, interval_ll, interval_hl, interval_lh, div_pos ha.wlo hb.wlo h, div_pos ha.wlo hb.whi h3, div_pos ha.whi hb.wlo h, div_pos ha.whi hb.whi h3, new_eq]
  by_cases s1 : a.Hi ≤ 0
  · simp only [s1, if_true]
    refine ⟨a.Lo, b.Lo, a.Hi, b.Hi, rfl, ⟨h, h3, .inl rfl, .inl rfl, .inr rfl, .inr rfl, ?_, ?_⟩⟩ <;> omega
  · by_cases s4 : a.Lo ≥ 0
    · simp only [s1, s4, if_true, if_false]
      refine ⟨a.Lo, b.Hi, a.Hi, b.Lo, rfl, ⟨h3, h, .inl rfl, .inr rfl, .inr rfl, .inl rfl, ?_, ?_⟩⟩ <;> omega
    · simp only [s1, s4, if_true, if_false]
      refine ⟨a.Lo, b.Lo, a.Hi, b.Lo, rfl, ⟨h, h, .inl rfl, .inl rfl, .inr rfl, .inl rfl, ?_, ?_⟩⟩ <;> omega

theorem div_below {a b : TInterval} (ha : Fin a) (hb : Fin b) (h3 : b.Hi < 0) : ∃ x y u v, interval_Div a b = some (nw (x * 65536 / y) (cdiv (u * 65536) v)) ∧ DHull (ngv a) (ngv b) x y u v := by
  have h1 := ha.2.1
  have h2 := hb.2.1
  have h : b.Lo < 0 := by omega
  have r1 := mulRn h1 (Int.le_of_lt h); have r2 := mulRn h1 (Int.le_of_lt h3)
  have r3 := cmpL h2 a.Lo; have r4 := cmpL h2 a.Hi
  unfold interval_Div
  rw [isEnt_fin ha, isEnt_fin hb, contains_fin hb]
  have h4 : decide (b.Lo ≤ 0 ∧ 0 ≤ b.Hi) = false := by apply decide_eq_false; omega
  have h5 : decide (b.Lo > 0) = false := decide_eq_false (by omega)
  simp only [Option.bind_some, h4, h5, beq_self_eq_true, if_true, Bool.or_self, Bool.false_eq_true, if_false, side_eq, interval_pick_int, interval_hh, interval_ll, interval_hl, interval_lh, div_neg ha.wlo hb.wlo h, div_neg ha.wlo hb.whi h3, div_neg ha.whi hb.wlo h, div_neg ha.whi hb.whi h3, new_eq]
  by_cases s1 : a.Hi ≤ 0
  · simp only [s1, if_true]
    refine ⟨-a.Hi, -b.Lo, -a.Lo, -b.Hi, rfl, ⟨by omega, by omega, .inl rfl, .inr rfl, .inr rfl, .inl rfl, ?_, ?_⟩⟩ <;> simp only [ngv, Int.neg_mul_neg] <;> omega
  · by_cases s4 : a.Lo ≥ 0
    · simp only [s1, s4, if_true, if_false]
      refine ⟨-a.Hi, -b.Hi, -a.Lo, -b.Lo, rfl, ⟨by omega, by omega, .inl rfl, .inl rfl, .inr rfl, .inr rfl, ?_, ?_⟩⟩ <;> simp only [ngv, Int.neg_mul_neg] <;> omega
    · simp only [s1, s4, if_true, if_false]
      refine ⟨-a.Hi, -b.Hi, -a.Lo, -b.Hi, rfl, ⟨by omega, by omega, .inl rfl, .inl rfl, .inr rfl, .inl rfl, ?_, ?_⟩⟩ <;> simp only [ngv, Int.neg_mul_neg] <;> omega
theorem div_zero {a b : TInterval} (ha : Fin a) (hb : Fin b) (h : b.Lo ≤ 0 ∧ 0 ≤ b.Hi) : interval_Div a b = some Ent := by
  unfold interval_Div
  rw [isEnt_fin ha, isEnt_fin hb, contains_fin hb, decide_eq_true h]
  rfl
theorem div_entl (b : TInterval) : interval_Div Ent b = some Ent := by
  unfold interval_Div
  rw [isEnt_ent]
  rfl
theorem div_entr (a : TInterval) : interval_Div a Ent = some Ent := by
  unfold interval_Div
  rw [isEnt, isEnt_ent]
  cases decide (a = Ent) <;> rfl

/-! ### Squares and ratios -/
def sqm (a : TInterval) : Int := mx (mx a.Lo (-a.Hi)) 0
def mag (a : TInterval) : Int := mx a.Hi (-a.Lo)
theorem mag_eq {a : TInterval} (h : Ok a) : interval_Mag a = some (mag a) := by
  have := h.wlo
  unfold Wid at this
  unfold interval_Mag mag
  rw [w64 (by omega) (by omega)]
  congr 2
  omega
theorem sq_fin {a : TInterval} (h : Fin a) : interval_Square a = some (nw (sqm a * sqm a / 65536) (cdiv (mag a * mag a) 65536)) := by
  unfold interval_Square
  rw [isEnt_fin h, mag_eq (.inr h)]
  have h' := h
  unfold Fin at h'
  have e : w_i64 (0 - a.Hi) = -a.Hi := by rw [w64 (by omega) (by omega)]; omega
  have e1 : Wid (sqm a) := by unfold Wid sqm mx; split <;> split <;> omega
  have e2 : Wid (mag a) := by unfold Wid mag mx; split <;> omega
  simp only [Option.bind_some, Bool.false_eq_true, if_false, e]
  have e3 : mx (mx a.Lo (-a.Hi)) 0 = sqm a := rfl
  simp only [e3, mul_eq e1 e1, mul_eq e2 e2, Option.bind_some, new_eq]
theorem sq_ent : interval_Square Ent = some Ent := by
  unfold interval_Square
  rw [isEnt_ent]
  rfl
theorem sq_mem {a : TInterval} (h : Fin a) {p : Int} (hp : a.Lo ≤ p ∧ p ≤ a.Hi) : sqm a * sqm a ≤ p * p ∧ p * p ≤ mag a * mag a := by
  have h1 : 0 ≤ sqm a ∧ sqm a ≤ p.natAbs := by unfold sqm mx; split <;> split <;> omega
  have h2 : (p.natAbs : Int) ≤ mag a := by unfold mag mx; split <;> omega
  have e : p * p = (p.natAbs : Int) * p.natAbs := Int.natAbs_mul_self.symm
  rw [e]
  exact ⟨Int.mul_le_mul h1.2 h1.2 h1.1 (by omega), Int.mul_le_mul h2 h2 (by omega) (by omega)⟩

def rlo (a : TInterval) (n : Int) : Int := (if n < 0 then a.Hi else a.Lo) * n
def rhi (a : TInterval) (n : Int) : Int := (if n < 0 then a.Lo else a.Hi) * n
theorem ratio_fin {a : TInterval} (h : Fin a) {n d : Int} (hn : -1073741824 ≤ n ∧ n ≤ 1073741824) (hd : 1 ≤ d ∧ d ≤ 1073741824) : interval_MulRatio a n d = some (nw (rlo a n / d) (cdiv (rhi a n) d)) := by
  unfold interval_MulRatio
  rw [isEnt_fin h]
  unfold rlo rhi interval_pick_int64
  by_cases h1 : n < 0
  · simp only [Option.bind_some, Bool.false_eq_true, if_false, decide_true, if_true, h1, mulRatio_eq h.wlo hn hd, mulRatio_eq h.whi hn hd, new_eq]
  · simp only [Option.bind_some, Bool.false_eq_true, if_false, decide_false, if_true, h1, mulRatio_eq h.wlo hn hd, mulRatio_eq h.whi hn hd, new_eq]
theorem ratio_ent (n d : Int) : interval_MulRatio Ent n d = some Ent := by
  unfold interval_MulRatio
  rw [isEnt_ent]
  rfl
theorem ratio_mem {a : TInterval} {p : Int} (hp : a.Lo ≤ p ∧ p ≤ a.Hi) (n : Int) : rlo a n ≤ p * n ∧ p * n ≤ rhi a n := by
  unfold rlo rhi
  by_cases h1 : n < 0
  · simp only [h1, if_true]
    exact ⟨mulRn hp.2 (by omega), mulRn hp.1 (by omega)⟩
  · simp only [h1, if_false]
    exact ⟨mulR hp.1 (by omega), mulR hp.2 (by omega)⟩
end Go.Proofs.YtmjnbhigomjjnaaDoor
