/- What the printed plain functions of the interval package compute. Own work. -/
import Derived.Test.YtmjnbhigomjjnaaDoorDefs
import Derived.KernelRfl
import Derived.IntWalk
namespace Go.Proofs.YtmjnbhigomjjnaaDoor
set_option maxRecDepth 10000
set_option linter.unusedSimpArgs false
set_option linter.unusedVariables false

theorem w64 {x : Int} (h1 : -9223372036854775808 ≤ x) (h2 : x ≤ 9223372036854775807) : w_i64 x = x := by
  exact Go.IntWalk.i64_in x ⟨h1, h2⟩

theorem ediv_bounds {a b B : Int} (hb : 0 < b) (h1 : -B ≤ a) (h2 : a ≤ B) : -B ≤ a / b ∧ a / b ≤ B := by
  have hB : 0 ≤ B := by omega
  constructor
  · rw [Int.le_ediv_iff_mul_le hb]
    have : B * 1 ≤ B * b := Int.mul_le_mul_of_nonneg_left (by omega) hB
    have e : -B * b = -(B * b) := Int.neg_mul ..
    omega
  · apply Int.ediv_le_of_le_mul hb
    have : B * 1 ≤ B * b := Int.mul_le_mul_of_nonneg_left (by omega) hB
    omega

/-- Floor and ceiling of a quotient. -/
def cdiv (a b : Int) : Int := -((-a) / b)

theorem cdiv_le {a b c : Int} (hb : 0 < b) : cdiv a b ≤ c ↔ a ≤ c * b := by
  unfold cdiv
  have : -c ≤ (-a) / b ↔ -c * b ≤ -a := Int.le_ediv_iff_mul_le hb
  rw [Int.neg_mul] at this
  omega
theorem le_fdiv {a b c : Int} (hb : 0 < b) : c ≤ a / b ↔ c * b ≤ a := Int.le_ediv_iff_mul_le hb

theorem tdm (a b : Int) (hb : 0 < b) : (Int.tmod a b < 0 → Int.tdiv a b - 1 = a / b ∧ Int.tmod a b + b = a % b) ∧ (¬ Int.tmod a b < 0 → Int.tdiv a b = a / b ∧ Int.tmod a b = a % b) := by
  have h1 := Int.mul_tdiv_add_tmod a b
  have h2 := Int.tmod_lt_of_pos a hb
  have h3 : -b < Int.tmod a b := by
    have := Int.tmod_lt_of_pos (-a) hb
    rw [Int.neg_tmod] at this
    omega
  have e := fun q r => Int.ediv_emod_unique (a := a) (b := b) (r := r) (q := q) hb
  constructor
  · intro h
    have := (e (Int.tdiv a b - 1) (Int.tmod a b + b)).2 ⟨by rw [Int.mul_sub]; omega, by omega, by omega⟩
    exact ⟨this.1.symm, this.2.symm⟩
  · intro h
    have := (e (Int.tdiv a b) (Int.tmod a b)).2 ⟨by omega, by omega, by omega⟩
    exact ⟨this.1.symm, this.2.symm⟩

theorem cdiv_eq {a b : Int} (hb : 0 < b) : cdiv a b = a / b + mn (a % b) 1 := by
  have h1 := Int.mul_ediv_add_emod a b
  have h2 := Int.emod_nonneg a (by omega : b ≠ 0)
  have h3 := Int.emod_lt_of_pos a hb
  have h5 : mn (a % b) 1 = 0 ∧ a % b = 0 ∨ mn (a % b) 1 = 1 ∧ 1 ≤ a % b := by unfold mn; split <;> omega
  apply Int.le_antisymm
  · rw [cdiv_le hb, Int.add_mul, Int.mul_comm (a / b) b]
    rcases h5 with ⟨h5, h6⟩ | ⟨h5, h6⟩ <;> rw [h5] <;> omega
  · rcases h5 with ⟨h5, h6⟩ | ⟨h5, h6⟩ <;> rw [h5]
    · have := (cdiv_le (a := a) (c := cdiv a b) hb).1 (Int.le_refl _)
      have h7 : a / b ≤ cdiv a b := by
        apply Int.ediv_le_of_le_mul hb this
      omega
    · have h8 : ¬ cdiv a b ≤ a / b := by
        rw [cdiv_le hb, Int.mul_comm]
        omega
      omega

theorem floorCeil_eq {a b : Int} (hb : 0 < b) (ha1 : -4611686018427387904 ≤ a) (ha2 : a ≤ 4611686018427387904) (hb2 : b ≤ 4611686018427387904) : fixed_floorCeil_int64_s78 a b = some (a / b, cdiv a b) := by
  have hq := ediv_bounds hb ha1 ha2
  obtain ⟨t1, t2⟩ := tdm a b hb
  have h2 := Int.emod_nonneg a (by omega : b ≠ 0)
  have h3 := Int.emod_lt_of_pos a hb
  have hc := cdiv_eq (a := a) hb
  have hm : 0 ≤ mn (a % b) 1 ∧ mn (a % b) 1 ≤ 1 := by unfold mn; split <;> omega
  unfold fixed_floorCeil_int64_s78 fixed_divide_1
  rw [if_pos (by omega), if_pos (by omega)]
  by_cases h : Int.tmod a b < 0
  · obtain ⟨e1, e2⟩ := t1 h
    have e3 : w_i64 (Int.tdiv a b) = Int.tdiv a b := w64 (by omega) (by omega)
    have e4 : w_i64 (Int.tdiv a b - 1) = a / b := by rw [e1]; exact w64 (by omega) (by omega)
    have e5 : w_i64 (Int.tmod a b + b) = a % b := by rw [e2]; exact w64 (by omega) (by omega)
    simp only [h, decide_true, if_true, Option.bind_some, e3, e4, e5]
    rw [w64 (by omega) (by omega), ← hc]
  · obtain ⟨e1, e2⟩ := t2 h
    have e3 : w_i64 (Int.tdiv a b) = a / b := by rw [e1]; exact w64 (by omega) (by omega)
    have h' : ¬ a % b < 0 := by omega
    simp only [e2, h', decide_false, Bool.false_eq_true, if_false, Option.bind_some, e3]
    rw [w64 (by omega) (by omega), ← hc]

theorem divide_pos {a b : Int} (hb : 0 < b) (ha1 : -4611686018427387904 ≤ a) (ha2 : a ≤ 4611686018427387904) (hb2 : b ≤ 4611686018427387904) : fixed_divide a b = some (a / b, cdiv a b) := by
  unfold fixed_divide
  rw [if_neg (by simp; omega)]
  simp only [Option.bind_some, floorCeil_eq hb ha1 ha2 hb2]
theorem divide_neg {a b : Int} (hb : b < 0) (ha1 : -4611686018427387904 ≤ a) (ha2 : a ≤ 4611686018427387904) (hb2 : -4611686018427387904 ≤ b) : fixed_divide a b = some ((-a) / (-b), cdiv (-a) (-b)) := by
  unfold fixed_divide
  rw [if_pos (by simp; omega)]
  have e1 : w_i64 (0 - a) = -a := by rw [w64 (by omega) (by omega)]; omega
  have e2 : w_i64 (0 - b) = -b := by rw [w64 (by omega) (by omega)]; omega
  simp only [Option.bind_some, e1, e2, floorCeil_eq (a := -a) (b := -b) (by omega) (by omega) (by omega) (by omega)]

/-- The least number that is no number of the package, and its bounds. -/
def Num (x : Int) : Prop := -2147483648 < x ∧ x < 2147483648
def Wid (x : Int) : Prop := -2147483648 ≤ x ∧ x ≤ 2147483648

theorem prod_bound {x y A B : Int} (hx : -A ≤ x ∧ x ≤ A) (hy : -B ≤ y ∧ y ≤ B) : -(A * B) ≤ x * y ∧ x * y ≤ A * B := by
  have hA : 0 ≤ A := by omega
  have hB : 0 ≤ B := by omega
  have h1 : x.natAbs * y.natAbs ≤ A.natAbs * B.natAbs := Nat.mul_le_mul (by omega) (by omega)
  have h2 : ((x * y).natAbs : Int) ≤ A * B := by
    rw [Int.natAbs_mul]
    have : ((A.natAbs * B.natAbs : Nat) : Int) = A * B := by
      rw [Int.natCast_mul, Int.natAbs_of_nonneg hA, Int.natAbs_of_nonneg hB]
    omega
  omega

theorem mul_eq {x y : Int} (hx : Wid x) (hy : Wid y) : fixed_Mul x y = some (x * y / 65536, cdiv (x * y) 65536) := by
  have := prod_bound (A := 2147483648) (B := 2147483648) hx hy
  unfold fixed_Mul
  rw [w64 (by omega) (by omega), divide_pos (by omega) (by omega) (by omega) (by omega)]
  rfl
theorem mulRatio_eq {x n d : Int} (hx : Wid x) (hn : -1073741824 ≤ n ∧ n ≤ 1073741824) (hd : 1 ≤ d ∧ d ≤ 1073741824) : fixed_MulRatio x n d = some (x * n / d, cdiv (x * n) d, 0) := by
  have := prod_bound (A := 2147483648) (B := 1073741824) hx hn
  unfold fixed_MulRatio
  rw [if_neg (by simp; omega), w64 (by omega) (by omega), divide_pos (by omega) (by omega) (by omega) (by omega)]
  rfl
theorem div_pos {x y : Int} (hx : Wid x) (hy : Wid y) (h : 0 < y) : fixed_Div x y = some (x * 65536 / y, cdiv (x * 65536) y, 0) := by
  unfold Wid at hx hy
  unfold fixed_Div
  rw [if_neg (by simp; omega), w64 (by omega) (by omega), divide_pos (by omega) (by omega) (by omega) (by omega)]
  rfl
theorem div_neg {x y : Int} (hx : Wid x) (hy : Wid y) (h : y < 0) : fixed_Div x y = some ((-x) * 65536 / (-y), cdiv ((-x) * 65536) (-y), 0) := by
  unfold Wid at hx hy
  unfold fixed_Div
  rw [if_neg (by simp; omega), w64 (by omega) (by omega), divide_neg (by omega) (by omega) (by omega) (by omega), Int.neg_mul]
  rfl

/-! ### Intervals -/
def Ent : TInterval := ⟨-2147483648, 2147483648⟩
def Fin (a : TInterval) : Prop := -2147483648 < a.Lo ∧ a.Lo ≤ a.Hi ∧ a.Hi < 2147483648
def Ok (a : TInterval) : Prop := a = Ent ∨ Fin a
def nw (x y : Int) : TInterval := if x ≤ -2147483648 ∨ y ≥ 2147483648 ∨ x ≥ 2147483648 ∨ y ≤ -2147483648 then Ent else ⟨x, y⟩

theorem Fin.wlo {a : TInterval} (h : Fin a) : Wid a.Lo := by unfold Fin at h; unfold Wid; omega
theorem Fin.whi {a : TInterval} (h : Fin a) : Wid a.Hi := by unfold Fin at h; unfold Wid; omega

theorem isEnt {a : TInterval} : interval_IsEntire a = some (decide (a = Ent)) := by
  simp only [interval_IsEntire, interval_Entire, Option.bind_some, Option.some.injEq]
  obtain ⟨l, h⟩ := a
  simp only [Ent, TInterval.mk.injEq, Bool.decide_and, Bool.and_true]
  rfl
theorem ref_isEnt {a : TInterval} : armillaryref02_IsEntire a = some (decide (a = Ent)) := by
  obtain ⟨l, h⟩ := a
  simp only [armillaryref02_IsEntire, Ent, TInterval.mk.injEq, Bool.decide_and]
  rfl
theorem Fin.ne {a : TInterval} (h : Fin a) : decide (a = Ent) = false := by
  apply decide_eq_false
  rintro rfl
  simp [Fin, Ent] at h
theorem isEnt_fin {a : TInterval} (h : Fin a) : interval_IsEntire a = some false := by rw [isEnt, h.ne]
theorem ref_isEnt_fin {a : TInterval} (h : Fin a) : armillaryref02_IsEntire a = some false := by rw [ref_isEnt, h.ne]
theorem isEnt_ent : interval_IsEntire Ent = some true := by rw [isEnt]; simp
theorem ref_isEnt_ent : armillaryref02_IsEntire Ent = some true := by rw [ref_isEnt]; simp

theorem new_eq (x y : Int) : interval_New x y = some (nw x y) := by
  unfold interval_New nw interval_Entire
  simp only [Option.bind_some]
  by_cases h : x ≤ -2147483648 ∨ y ≥ 2147483648 ∨ x ≥ 2147483648 ∨ y ≤ -2147483648
  · rw [if_pos h, if_pos (by simp; omega)]; rfl
  · rw [if_neg h, if_neg (by simp; omega)]
theorem nw_fin {x y : Int} (h : Fin ⟨x, y⟩) : nw x y = ⟨x, y⟩ := by
  unfold Fin at h
  unfold nw
  simp only at h
  rw [if_neg (by omega)]
theorem nw_ok {x y : Int} (h : x ≤ y) : Ok (nw x y) := by
  unfold nw
  split
  · exact .inl rfl
  · exact .inr (by unfold Fin; simp only; omega)
theorem nw_cases (x y : Int) (h : x ≤ y) : nw x y = Ent ∧ (x ≤ -2147483648 ∨ 2147483648 ≤ y) ∨ nw x y = ⟨x, y⟩ ∧ Fin ⟨x, y⟩ := by
  unfold nw
  split
  · exact .inl ⟨rfl, by omega⟩
  · exact .inr ⟨rfl, by unfold Fin; simp only; omega⟩

theorem add_fin {a b : TInterval} (ha : Fin a) (hb : Fin b) : interval_Add a b = some (nw (a.Lo + b.Lo) (a.Hi + b.Hi)) := by
  unfold interval_Add
  rw [isEnt_fin ha, isEnt_fin hb]
  unfold Fin at ha hb
  simp only [Option.bind_some, beq_self_eq_true, if_true, Bool.or_self, Bool.false_eq_true, if_false, new_eq]
  rw [w64 (by omega) (by omega), w64 (by omega) (by omega)]
theorem add_entl (b : TInterval) : interval_Add Ent b = some Ent := by
  unfold interval_Add
  rw [isEnt_ent]
  rfl
theorem add_entr (a : TInterval) : interval_Add a Ent = some Ent := by
  unfold interval_Add
  rw [isEnt, isEnt_ent]
  cases decide (a = Ent) <;> rfl

theorem neg_eq {a : TInterval} (h : Wid a.Lo) (h' : Wid a.Hi) : interval_Neg a = some ⟨-a.Hi, -a.Lo⟩ := by
  unfold Wid at h h'
  unfold interval_Neg
  rw [w64 (by omega) (by omega), w64 (by omega) (by omega)]
  congr 2 <;> omega
theorem Ok.wlo {a : TInterval} (h : Ok a) : Wid a.Lo := by
  rcases h with rfl | h
  · simp [Ent, Wid]
  · exact h.wlo
theorem Ok.whi {a : TInterval} (h : Ok a) : Wid a.Hi := by
  rcases h with rfl | h
  · simp [Ent, Wid]
  · exact h.whi
theorem neg_ok {a : TInterval} (h : Ok a) : interval_Neg a = some ⟨-a.Hi, -a.Lo⟩ := neg_eq h.wlo h.whi
theorem neg_fin {a : TInterval} (h : Fin a) : Fin ⟨-a.Hi, -a.Lo⟩ := by unfold Fin at *; simp only; omega
theorem sub_fin {a b : TInterval} (ha : Fin a) (hb : Fin b) : interval_Sub a b = some (nw (a.Lo - b.Hi) (a.Hi - b.Lo)) := by
  unfold interval_Sub
  rw [neg_eq hb.wlo hb.whi]
  simp only [Option.bind_some, add_fin ha (neg_fin hb)]
  congr 2
end Go.Proofs.YtmjnbhigomjjnaaDoor
